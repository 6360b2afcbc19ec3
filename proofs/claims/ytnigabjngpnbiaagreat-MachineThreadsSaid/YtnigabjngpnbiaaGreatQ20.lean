/- Part 20 of the proof. No condition of its own. -/
import Derived.Test.YtnigabjngpnbiaaGreatQ19
namespace Go.Proofs.YtnigabjngpnbiaaGreat
open Go.RowKit Go.Proofs.Tryz
set_option maxRecDepth 1000000
set_option maxHeartbeats 25600000
set_option linter.unusedVariables false
variable{p:Prop}
section
theorem ig(A:Kj)(c:Nat)(w:World):Calls prog 131 #[.agg #[.int .i64 0,.int .i64 0,.string ⟨#[]⟩,.slice A 0 c]] w λe J=>e=.returned (.bool true)/\Ext w J:=by
 go_enter func131,ntmps131;go_wp2;go_ret;exact⟨rfl,Kf.alloc _⟩
theorem gb(A:Kj)(c:Nat)(w:World):Calls prog 133 #[.agg #[.string ⟨#[]⟩,.slice A 0 c]] w λe J=>e=.returned (.bool true)/\Ext w J:=by
 go_enter func133,ntmps133;go_wp2;go_ret;exact⟨rfl,Kf.alloc _⟩
def qJ(x:VE):Prop:=∀(op n:Int) (s:ByteArray) (A:Kj) (m c:Nat) (w:World),(bB x).rep w (ao w) [.int .i64 op,.int .i64 n,.string s,.slice A m c]->
 Calls prog 147 #[.agg #[.int .i64 op,.int .i64 n,.string s,.slice A m c]] w λe J=>e=.returned (.bool true)/\Ext w J
namespace A8
theorem nP(h:p:=by
 obtain⟨bF,b2⟩:=aI hs ab;clear aZ ab;go_enter func147,ntmps147;go_wp2_with(fail);generalize ba:World.alloc _ _=W;have ar:=aY ba;have aK:=aF ba;clear ba;refine(fJ x.bP W).mono ?_;rintro e aL ⟨rfl,L⟩;have bd:=ae (ar.trans L);have bL:=ae (aK.aj L);obtain⟨a0,al,af⟩:=(aK.aj L).two;clear ar aK L;have u:=hs.1;rw[JM] at u;clear hs;have key:∀(n0:Nat) (ai:x.args.length=n0),True:=λ_ _=>trivial;clear key
 cases x with
 | num n=>
  have hn:0<=n/\n<4611686018427387904:=by cases d<;>exact hx
  obtain rfl:0=m:=u;simp only[VE.bP,VE.numOf,VE.dt] at *;have bI:decide (n>=0)=true:=by simp;omega
  rw[show cK 1=6 by decide];clear hx bF b2 hn;go_wp2;go_quiet (fail)
  go_wp2;refine wp_loop_rounds 1 ?_;rw[rounds_succ];go_wp2;go_ret
  exact⟨rfl,bd.drewN _⟩
 | eP s=>
  have hs:s∈N:=by cases d<;>exact hx
  obtain rfl:0=m:=u;simp only[VE.bP,VE.numOf,VE.dt] at *;have az:=ae (show iS s=true from bo s hs);have bH:s.size<=1000000:=by
   have:=dW (bo s hs);have ap:s.size=s.data.toList.length:=rfl;omega
  rw[show cK 2=6 by decide];clear hx bF b2 hs;go_wp2;refine fj (λ_=>False) [(0,3),(1,0),(2,3),(3,3),(4,3),(5,0),(6,3),(7,3),(8,3),(9,3),(10,0),(11,3),(12,3),(13,3),(14,0),(15,3),(16,3),(17,3),(18,0),(19,3),(20,3),(21,3),(22,3),(23,0),(24,1),(25,3),(26,3),(27,3)] ?_;refine pf ?_;refine ph ?_
  iterate 2 refine pf ?_
  refine dk rfl (by rfl) ?_
  try simp only[PU]
  refine iW rfl (by rfl) ?_
  try simp only[PU]
  refine dk rfl (by rfl) ?_
  try simp only[PU]
  iterate 2 refine pf ?_
  refine dk rfl (by rfl) ?_
  try simp only[PU]
  refine iW rfl (by rfl) ?_
  try simp only[PU]
  refine dk rfl (by rfl) ?_
  try simp only[PU]
  iterate 2 refine pf ?_
  refine ph ?_
  iterate 3 refine pf ?_
  refine ph ?_
  iterate 4 refine pf ?_
  refine ph ?_;refine aP rfl (λK hK=>?_);go_simp;refine(gz s _ bH).mono ?_;rintro e aV ⟨rfl,H⟩;rw[az.o];refine gu hK (H) ?_;clear hK K
  iterate 3 refine pf ?_
  refine aG ?_;have aT:=ae (bd.trans (Fr.aL H));have bp:=(show au aL w.heap.size 72 _ from bL.o).aj (Fr.aL H);obtain⟨b0,am,aw⟩:=bp.two;clear H a0 al af bp;go_wp2;refine wp_loop_rounds 1 ?_;rw[rounds_succ];go_wp2;go_ret
  exact⟨rfl,aT.o⟩
 | loc j=>exact(by cases d<;>exact hx:False).elim
 | hP j=>exact(by cases d<;>exact hx:False).elim
 | un op y=>
  obtain rfl:1=m:=u
  have cf:op=3\/op=4:=by cases d with
   | zero=>exact hx.elim
   | succ d=>exact hx.1
  simp only[VE.bP,VE.numOf,VE.dt] at *;rw[show cK op=5 by rcases cf with rfl|rfl<;>decide];clear hx cf;go_wp2;go_loopw [6] (λaX wr=>∃k:Nat,k<=1/\aX=.int .i64 k/\Ext w wr/\au wr w.heap.size 72 #[.int .i64 op,.int .i64 0,.string ⟨#[]⟩,.slice A 1 c]) (λaX _=>1 - (intOf aX).toNat)
  case atStart=>exact⟨0,ad,rfl,bd.o,bL.o⟩
  case round=>
   obtain⟨k,aj,rfl,ar,aK⟩:=hrel;clear bd bL a0 al af;obtain⟨bd,bL⟩:=aI ar aK;obtain⟨a0,al,af⟩:=aK.two;by_cases aq:k<1
   .obtain⟨b,o,z,cs,rfl,O,aa,P,a8,Z⟩:=(bF.on (Fr.ext ar)).iG c4 aq;clear ar aK
    match cs,a8 with
    | [cD,b5,b3,bA],_=>
    exact Fw
   .obtain rfl:k=1:=ad;clear ar aK;go_wp2;go_ret
    exact⟨rfl,bd.o⟩
 | bin op y z=>
  obtain rfl:2=m:=u
  have cf:5<=op/\op<=17:=by cases d with
   | zero=>exact hx.elim
   | succ d=>exact hx.1
  obtain⟨g,bq,f,_⟩:=sX cf;simp only[VE.bP,VE.numOf,VE.dt] at *;rw[f];have dl:((g:Int) == 6)=false:=by simp;omega
  have q5:((g:Int) == 5)=false:=by simp;omega
  clear hx cf bq f;go_wp2;go_loopw [6] (λaX wr=>∃k:Nat,k<=2/\aX=.int .i64 k/\Ext w wr/\au wr w.heap.size 72 #[.int .i64 op,.int .i64 0,.string ⟨#[]⟩,.slice A 2 c]) (λaX _=>2 - (intOf aX).toNat)
  case atStart=>exact⟨0,ad,rfl,bd.o,bL.o⟩
  case round=>
   obtain⟨k,aj,rfl,ar,aK⟩:=hrel;clear bd bL a0 al af dl q5;obtain⟨bd,bL⟩:=aI ar aK;obtain⟨a0,al,af⟩:=aK.two;by_cases aq:k<2
   .obtain⟨b,o,z,cs,rfl,O,aa,P,a8,Z⟩:=(bF.on (Fr.ext ar)).iG c4 aq;clear ar aK
    match cs,a8 with
    | [cD,b5,b3,bA],_=>
    exact Fw
   .obtain rfl:k=2:=ad;clear ar aK;go_wp2;go_ret;exact⟨rfl,bd.o⟩
 ):p:=h
end A8
open A8 in
theorem uY(N:Kk)(bo:du N)(d:Nat)(x:VE)(hx:x.src N d)(ab:∀(k:Nat) (y:VE),x.args[k]?=some y->qJ y):qJ x:=by
 intro op n s A m c w aZ;exact nO
theorem EY{N:Kk}{C:VE->Nat->Prop}(f:∀(d:Nat) (x:VE),x.src N d->(∀(k:Nat) (y:VE),x.args[k]?=some y->∃e,d=e+1/\C y e)->C x d):∀(d:Nat) (x:VE),x.src N d->C x d:=by
 intro d
 induction d with
 | zero=>exact λx hx=>f 0 x hx λk y aa=>by rw[pe hx] at aa;simp at aa
 | succ d ab=>exact λx hx=>f (d+1) x hx λk y aa=>⟨d,rfl,ab y (pd hx aa)⟩
theorem xy(N:Kk)(bo:du N)(d:Nat)(x:VE)(hx:x.src N d):qJ x:=
 EY (C:=λx _=>qJ x) (λd x hx ab=>uY N bo d x hx λk y aa=>by obtain⟨_,_,h⟩:=ab k y aa;exact h) d x hx
def qH(x:VE)(d:Nat):Prop:=∀(op n:Int) (s:ByteArray) (A:Kj) (m c:Nat) (w:World),(bB x).rep w (ao w) [.int .i64 op,.int .i64 n,.string s,.slice A m c]->
 Calls prog 148 #[.agg #[.int .i64 op,.int .i64 n,.string s,.slice A m c]] w λe J=>(∃h:Int,e=.returned (.int .i64 h)/\0<=h/\h<=2*d)/\Ext w J
attribute [local go_sem ↓] fH fI
namespace A9
theorem nP(h:p:=by
 have ah:m<=2:=by rw[<-hs.1,JM];exact r6 x
 have dp:m=x.args.length:=by rw[<-hs.1,JM]
 obtain⟨cF,aJ,bF,b2⟩:=jF dp hx hs ab;clear aZ ab hs hx dp;go_enter func148,ntmps148;go_wp2;generalize ba:World.alloc _ _=W;have ar:=aY ba;have aK:=aF ba;clear ba;obtain⟨bd,bL⟩:=aI ar aK;clear ar aK;go_loopw [3,4] (λbD aX wr=>∃(k:Nat) (h:Int),k<=m/\aX=.int .i64 k/\bD=.int .i64 h/\0<=h/\(h=0\/h+1<=2*d)/\Ext w wr/\au wr w.heap.size 72 #[.int .i64 x.bP,.int .i64 x.numOf,.string x.dt,.slice A m c]) (λ_ aX _=>m - (intOf aX).toNat)
 case atStart=>exact⟨0,0,ad,rfl,rfl,ad,.inl rfl,bd.o,bL.o⟩
 case round=>
  obtain⟨k,h,aj,rfl,rfl,f,an,ar,aK⟩:=hrel;clear bd bL;obtain⟨bd,bL⟩:=aI ar aK;obtain⟨a0,al,af⟩:=aK.two;by_cases aq:k<m
  .obtain⟨b,o,z,cs,rfl,O,aa,P,a8,Z⟩:=(bF.on (Fr.ext ar)).iG c4 aq;clear ar aK
   match cs,a8 with
   | [cD,b5,b3,bA],_=>
   have c0:=Z 0 cD rfl;have c1:=Z 1 b5 rfl;have c2:=Z 2 b3 rfl;have c3:=Z 3 bA rfl;simp only[JS] at c0;have aN:b<wr.heap.size:=O;clear Z O;obtain⟨B,bE,bc,e,cp,G⟩:=bj.1 P;simp only[List.cons.injEq,and_true] at e;obtain⟨rfl,rfl,rfl,rfl⟩:=e;obtain⟨e0,Q,hC⟩:=b2.o k z aa;obtain⟨bK,bw,M⟩:=eS hC aa P;clear aa P G hC;go_wp2_with(fail);refine(bK.o _ _ _ _ _ _ wr M.o).mono ?_;rintro e aV ⟨⟨ap,rfl,g,i⟩,H⟩;have aT:=ae (bd.trans H);have bt:=ae (bL.aj H);have d0:=(H.cell (j:=o+k*4) aN (λh=>h)).trans c0;have bv:b<aV.heap.size:=JJ aN H.size;have bI:k<=1:=ad;clear H a0 al af c0 c1 c2 c3 aN;obtain⟨a0,al,af⟩:=bt.two;go_wp2_with(fail);refine(qi x.bP x.numOf z.bP x.dt b o m c k aV bI aq bv d0).mono ?_;rintro e bV ⟨rfl,b6⟩;have a4:=ae (aT.trans b6);have cb:=ae (bt.aj b6);clear b6 a0 al af d0 bv;cases di x.bP z.bP (k == 1)
   .go_wp2;go_roundw
    case rel=>exact⟨k+1,max h ap,ad,by go_num,rfl,ad,.inr ad,a4.o,cb.o⟩
    case measure=>exact aU
   .go_wp2;go_roundw
    case rel=>exact⟨k+1,max h (ap+1),ad,by go_num,rfl,ad,.inr ad,a4.o,cb.o⟩
    case measure=>exact aU
  .obtain rfl:k=m:=ad;clear ar aK;have ay:decide ((k:Int)<(k:Int))=false:=by simp
   go_wp2_with(fail);refine(fJ x.bP wr).mono ?_;rintro e aV ⟨rfl,H⟩;have aT:=ae (bd.trans H);clear H;by_cases cl:cK x.bP=5
   .have O:h+1<=2*d:=by
     rcases an with rfl|an
     .have:0<d:=by
       rcases Nat.eq_zero_or_pos d with h0|h0
       .exfalso;subst h0;have ac:=aJ.o;cases x<;>first|exact ac.elim|exact absurd cl (show ¬cK 1=5 by decide)|exact absurd cl (show ¬cK 2=5 by decide)
       .exact h0
      omega
     .exact an
    rw[cl];go_wp2;go_ret;exact⟨⟨h+1,rfl,ad,O⟩,aT.o⟩
   .have q5:(cK x.bP == 5)=false:=by simpa using cl
    go_wp2;go_ret;exact⟨⟨h,rfl,f,ad⟩,aT.o⟩
 ):p:=h
end A9
open A9 in
theorem mQ(N:Kk)(d:Nat)(hd:d<=1000)(x:VE)(hx:x.src N d)(ab:∀(k:Nat) (y:VE),x.args[k]?=some y->∃e,d=e+1/\qH y e):qH x d:=by
 intro op n s A m c w aZ;exact nO
theorem ug(N:Kk):∀(d:Nat),d<=1000->∀(x:VE),x.src N d->qH x d:=by
 intro d
 induction d with
 | zero=>exact λhd x hx=>mQ N 0 hd x hx λk y aa=>by rw[pe hx] at aa;simp at aa
 | succ d ab=>exact λhd x hx=>mQ N (d+1) hd x hx λk y aa=>⟨d,rfl,ab ad y (pd hx aa)⟩
theorem eX(x:VE)(hx:uE x)(op n:Int)(s:ByteArray)(A:Kj)(m c:Nat)(w:World)(aZ:(bB x).rep w (ao w) [.int .i64 op,.int .i64 n,.string s,.slice A m c]) :
  Calls prog 130 #[.agg #[.int .i64 op,.int .i64 n,.string s,.slice A m c]] w λe J=>e=.returned (.bool true)/\Ext w J:=by
 obtain⟨N,d,bo,hd,hs⟩:=hx;have a2:=ae aZ;have b:=ae (xy N bo d x hs);have a:=ae (ug N d ad x hs);clear aZ hs bo;go_enter func130,ntmps130;go_wp2_with(fail);generalize ba:World.alloc _ _=W;have ar:=aY ba;have aK:=aF ba;clear ba;refine(b.o _ _ _ _ _ _ W (D.on a2.o (Fr.ext ar))).mono ?_;rintro e aV ⟨rfl,H⟩;have aT:=ae (ar.trans H);obtain⟨a0,al,af⟩:=(aK.aj H).two;clear ar aK H;go_wp2_with(fail);refine(a.o _ _ _ _ _ _ aV (D.on a2.o (Fr.ext aT.o))).mono ?_;rintro e bV ⟨⟨h,rfl,h0,ac⟩,b6⟩;have a4:=ae (aT.trans b6);have q:decide (h<=24)=true:=by simp;omega
 clear b6 a0 al af;go_wp2;go_ret;exact⟨rfl,a4.o⟩
theorem qp(r:eR)(aZ:nh r)(s:ByteArray)(A:Kj)(n c:Nat)(w:World)(h:(kF r).rep w (ao w) [.string s,.slice A n c]) :
  Calls prog 132 #[.agg #[.string s,.slice A n c]] w λe J=>e=.returned (.bool true)/\Ext w J:=by
 obtain⟨a1,aQ,aW,e,a7,hs⟩:=iM.1 h;simp only[List.cons.injEq,Value.string.injEq,Value.slice.injEq,and_true] at e;obtain⟨rfl,rfl,rfl,rfl⟩:=e;have az:=ae (show iS r.name=true from aZ.1);have bH:r.name.size<=1000000:=by
  have:=dW aZ.1;have ap:r.name.size=r.name.data.toList.length:=rfl;omega
 obtain⟨bR,bF⟩:=aI aZ.2 hs;clear h hs aZ;go_enter func132,ntmps132;go_wp2_with(fail);generalize ba:World.alloc _ _=W;have ar:=aY ba;have aK:=aF ba;clear ba;refine(gz r.name W bH).mono ?_;rintro e aV ⟨rfl,H⟩;rw[az.o];have aT:=ae (ar.trans H);have bt:=ae (aK.aj H);obtain⟨a0,al,af⟩:=(aK.aj H).two;clear ar aK H
 cases I:r.idx with
 | none=>
  have h0:=bF.1;rw[I] at h0;obtain rfl:0=n:=h0;clear I;go_wp2;go_ret
  exact⟨rfl,aT.o⟩
 | some x=>
  have aJ:=ae (bR.o x I);have h0:=bF.on (Fr.ext aT.o);rw[I] at h0;obtain rfl:1=n:=h0.1;obtain⟨b,o,bl,Z,U,F,rfl,O,bs,c0,c1,c2,c3⟩:=Sl.Dj h0 (c4 x);obtain⟨B,bE,bc,e,cp,G⟩:=bj.1 bs;simp only[List.cons.injEq,and_true] at e;obtain⟨rfl,rfl,rfl,rfl⟩:=e;have aN:b<aV.heap.size:=O;have aq:=ae bs;clear I h0 G bs O bR bF;go_wp2_with(fail);refine(eX x aJ.o _ _ _ _ _ _ aV aq.o).mono ?_;rintro e bV ⟨rfl,b6⟩;have a4:=ae (aT.trans b6);clear b6;go_wp2;go_ret;exact⟨rfl,a4.o⟩
end
end Go.Proofs.YtnigabjngpnbiaaGreat

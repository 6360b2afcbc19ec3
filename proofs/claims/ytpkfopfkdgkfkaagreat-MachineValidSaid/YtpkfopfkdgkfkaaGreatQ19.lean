/- Part 19 of the proof. No condition of its own. -/
import Derived.Test.YtpkfopfkdgkfkaaGreatQ18
namespace Go.Proofs.YtpkfopfkdgkfkaaGreat
open Go.RowKit Go.Proofs.Tryz
set_option maxRecDepth 1000000
set_option maxHeartbeats 25600000
set_option linter.unusedVariables false
variable{p:Prop}
section
theorem je(A:Mt)(c:Nat)(w:World):Calls prog 110 #[.agg #[(0:Int),(0:Int),Mq,.slice A 0 c]] w λe ab=>e=.returned true/\Ext w ab:=by
 go_enter func110,ntmps110;exact vy
theorem gY(A:Mt)(c:Nat)(w:World):Calls prog 112 #[.agg #[Mq,.slice A 0 c]] w λe ab=>e=.returned true/\Ext w ab:=by
 go_enter func112,ntmps112;exact vy
def si(x:VE):Prop:=∀(op n:Int) (s:ByteArray) (A:Mt) (m c:Nat) (w:World),(bm x).rep w (aq w) [.int .i64 op,.int .i64 n,.string s,.slice A m c]->
 Calls prog 137 #[.agg #[.int .i64 op,.int .i64 n,.string s,.slice A m c]] w λe ab=>e=.returned (.bool true)/\Ext w ab
namespace Dk
theorem pz(h:p:=by
 obtain⟨bt,b5⟩:=aJ hs Z;clear a5 Z;go_enter func137,ntmps137;go_wp2_with(fail);generalize ba:World.alloc _ _=W;have aw:=aU ba;have aQ:=aI ba;clear ba;refine(gG x.bf W).mono ?_;rintro e aS ⟨rfl,ar⟩;have br:=ae (aw.trans ar);have b9:=ae (aQ.aj ar);obtain⟨a0,ai,af⟩:=(aQ.aj ar).two;clear aw aQ ar;have P:=hs.1;rw[LO] at P;clear hs;have key:∀(n0:Nat) (aM:x.args.length=n0),True:=λ_ _=>trivial;clear key
 cases x with
 | num n=>
  have hn:0<=n/\n<4611686018427387904:=by cases d<;>exact hx
  obtain rfl:0=m:=P;simp only[VE.bf,VE.numOf,VE.bu] at *;have b1:decide (n>=0)=true:=by simp;omega
  rw[show c6 1=6 by decide];clear hx bt b5 hn;go_wp2;go_quiet (fail)
  go_wp2;refine wp_loop_rounds 1 ?_;rw[rounds_succ];go_wp2;go_ret
  exact⟨rfl,br.drewN _⟩
 | hg s=>
  have hs:s∈N:=by cases d<;>exact hx
  obtain rfl:0=m:=P;simp only[VE.bf,VE.numOf,VE.bu] at *;have F:=ae (show jK s=true from hN s hs);have U:s.size<=1000000:=by
   have:=eM (hN s hs);have ap:s.size=s.data.toList.length:=rfl;omega
  rw[show c6 2=6 by decide];clear hx bt b5 hs;go_wp2;refine eJ (λ_=>False) [(0,3),(1,0),(2,3),(3,3),(4,3),(5,0),(6,3),(7,3),(8,3),(9,3),(10,0),(11,3),(12,3),(13,3),(14,0),(15,3),(16,3),(17,3),(18,0),(19,3),(20,3),(21,3),(22,3),(23,0),(24,1),(25,3),(26,3),(27,3)] ?_;refine pf ?_;refine ph ?_
  iterate 2 refine pf ?_
  refine dz rfl (by rfl) ?_
  try simp only[PU]
  refine iv rfl (by rfl) ?_
  try simp only[PU]
  refine dz rfl (by rfl) ?_
  try simp only[PU]
  iterate 2 refine pf ?_
  refine dz rfl (by rfl) ?_
  try simp only[PU]
  refine iv rfl (by rfl) ?_
  try simp only[PU]
  refine dz rfl (by rfl) ?_
  try simp only[PU]
  iterate 2 refine pf ?_
  refine ph ?_
  iterate 3 refine pf ?_
  refine ph ?_
  iterate 4 refine pf ?_
  refine ph ?_;refine aB rfl (λK hK=>?_);go_simp;refine(hk s _ U).mono ?_;rintro e aT ⟨rfl,bJ⟩;rw[F.o];refine dq hK (bJ) ?_;clear hK K
  iterate 3 refine pf ?_
  refine aF ?_;have a8:=ae (br.trans (Fr.aG bJ));have bM:=(show au aS w.heap.size 117 _ from b9.o).aj (Fr.aG bJ);obtain⟨bq,am,aG⟩:=bM.two;clear bJ a0 ai af bM;go_wp2;refine wp_loop_rounds 1 ?_;rw[rounds_succ];go_wp2;go_ret
  exact⟨rfl,a8.o⟩
 | loc j=>exact(by cases d<;>exact hx:False).elim
 | iI j=>exact(by cases d<;>exact hx:False).elim
 | un op y=>
  obtain rfl:1=m:=P
  have cw:op=3\/op=4:=by cases d with
   | zero=>exact hx.elim
   | succ d=>exact hx.1
  simp only[VE.bf,VE.numOf,VE.bu] at *;rw[show c6 op=5 by rcases cw with rfl|rfl<;>decide];clear hx cw;go_wp2;go_loopw [6] (λbH wr=>∃k:Nat,k<=1/\bH=.int .i64 k/\Ext w wr/\au wr w 117 #[op,(0:Int),Mq,.slice A 1 c]) (λbH _=>1 - (intOf bH).toNat)
  case atStart=>exact⟨0,ad,rfl,br.o,b9.o⟩
  case round=>
   obtain⟨k,aj,rfl,aw,aQ⟩:=hrel;clear br b9 a0 ai af;obtain⟨br,b9⟩:=aJ aw aQ;obtain⟨a0,ai,af⟩:=aQ.two;by_cases an:k<1
   .obtain⟨b,o,z,cs,rfl,O,bb,bR,bh,a4⟩:=(bt.on (Fr.ext aw)).hf df an;clear aw aQ
    match cs,bh with
    | [cK,cp,cX,bx],_=>
    exact Hn
   .obtain rfl:k=1:=ad;clear aw aQ;go_wp2;go_ret
    exact⟨rfl,br.o⟩
 | bin op y z=>
  obtain rfl:2=m:=P
  have cw:5<=op/\op<=17:=by cases d with
   | zero=>exact hx.elim
   | succ d=>exact hx.1
  obtain⟨g,bf,f,_⟩:=uR cw;simp only[VE.bf,VE.numOf,VE.bu] at *;rw[f];have dr:((g:Int) == 6)=false:=by simp;omega
  have q5:((g:Int) == 5)=false:=by simp;omega
  clear hx cw bf f;go_wp2;go_loopw [6] (λbH wr=>∃k:Nat,k<=2/\bH=.int .i64 k/\Ext w wr/\au wr w 117 #[op,(0:Int),Mq,.slice A 2 c]) (λbH _=>2 - (intOf bH).toNat)
  case atStart=>exact⟨0,ad,rfl,br.o,b9.o⟩
  case round=>
   obtain⟨k,aj,rfl,aw,aQ⟩:=hrel;clear br b9 a0 ai af dr q5;obtain⟨br,b9⟩:=aJ aw aQ;obtain⟨a0,ai,af⟩:=aQ.two;by_cases an:k<2
   .obtain⟨b,o,z,cs,rfl,O,bb,bR,bh,a4⟩:=(bt.on (Fr.ext aw)).hf df an;clear aw aQ
    match cs,bh with
    | [cK,cp,cX,bx],_=>
    exact Hn
   .obtain rfl:k=2:=ad;clear aw aQ;go_wp2;go_ret;exact⟨rfl,br.o⟩
 ):p:=h
end Dk
open Dk in
theorem w9(N:Mu)(hN:dO N)(d:Nat)(x:VE)(hx:x.src N d)(Z:∀(k:Nat) (y:VE),x.args[k]?=some y->si y):si x:=by
 intro op n s A m c w a5;exact py
theorem GU{N:Mu}{C:VE->Nat->Prop}(f:∀(d:Nat) (x:VE),x.src N d->(∀(k:Nat) (y:VE),x.args[k]?=some y->∃e,d=e+1/\C y e)->C x d):∀(d:Nat) (x:VE),x.src N d->C x d:=by
 intro d
 induction d with
 | zero=>exact λx hx=>f 0 x hx λk y bb=>by rw[qJ hx] at bb;simp at bb
 | succ d Z=>exact λx hx=>f (d+1) x hx λk y bb=>⟨d,rfl,Z y (qI hx bb)⟩
theorem zg(N:Mu)(hN:dO N)(d:Nat)(x:VE)(hx:x.src N d):si x:=
 GU (C:=λx _=>si x) (λd x hx Z=>w9 N hN d x hx λk y bb=>by obtain⟨_,_,h⟩:=Z k y bb;exact h) d x hx
def se(x:VE)(d:Nat):Prop:=∀(op n:Int) (s:ByteArray) (A:Mt) (m c:Nat) (w:World),(bm x).rep w (aq w) [.int .i64 op,.int .i64 n,.string s,.slice A m c]->
 Calls prog 138 #[.agg #[.int .i64 op,.int .i64 n,.string s,.slice A m c]] w λe ab=>(∃h:Int,e=.returned (.int .i64 h)/\0<=h/\h<=2*d)/\Ext w ab
attribute [local go_sem ↓] gE gF
namespace Dl
theorem pz(h:p:=by
 have bQ:m<=2:=by rw[<-hs.1,LO];exact tO x
 have dD:m=x.args.length:=by rw[<-hs.1,LO]
 obtain⟨cU,aN,bt,b5⟩:=iY dD hx hs Z;clear a5 Z hs hx dD;go_enter func138,ntmps138;go_wp2;generalize ba:World.alloc _ _=W;have aw:=aU ba;have aQ:=aI ba;clear ba;obtain⟨br,b9⟩:=aJ aw aQ;clear aw aQ;go_loopw [3,4] (λbE bH wr=>∃(k:Nat) (h:Int),k<=m/\bH=.int .i64 k/\bE=.int .i64 h/\0<=h/\(h=0\/h+1<=2*d)/\Ext w wr/\au wr w 117 #[.int .i64 x.bf,.int .i64 x.numOf,.string x.bu,.slice A m c]) (λ_ bH _=>m - (intOf bH).toNat)
 case atStart=>exact⟨0,0,ad,rfl,rfl,ad,.inl rfl,br.o,b9.o⟩
 case round=>
  obtain⟨k,h,aj,rfl,rfl,f,ah,aw,aQ⟩:=hrel;clear br b9;obtain⟨br,b9⟩:=aJ aw aQ;obtain⟨a0,ai,af⟩:=aQ.two;by_cases an:k<m
  .obtain⟨b,o,z,cs,rfl,O,bb,bR,bh,a4⟩:=(bt.on (Fr.ext aw)).hf df an;clear aw aQ
   match cs,bh with
   | [cK,cp,cX,bx],_=>
   have c0:=a4 0 cK rfl;have c1:=a4 1 cp rfl;have c2:=a4 2 cX rfl;have c3:=a4 3 bx rfl;simp only[LW] at c0;have a1:b<wr:=O;clear a4 O;obtain⟨B,bv,bc,e,cx,cv⟩:=aZ.1 bR;simp only[List.cons.injEq,and_true] at e;obtain⟨rfl,rfl,rfl,rfl⟩:=e;obtain⟨e0,S,hC⟩:=b5.o k z bb;obtain⟨bU,bC,H⟩:=ef hC bb bR;clear bb bR cv hC;go_wp2_with(fail);refine(bU.o _ _ _ _ _ _ wr H.o).mono ?_;rintro e aT ⟨⟨ap,rfl,g,i⟩,bJ⟩;have a8:=ae (br.trans bJ);have bz:=ae (b9.aj bJ);have d0:=(bJ.cell (j:=o+k*4) a1 (λh=>h)).trans c0;have bj:b<aT:=LL a1 bJ.size;have ce:k<=1:=ad;clear bJ a0 ai af c0 c1 c2 c3 a1;obtain⟨a0,ai,af⟩:=bz.two;go_wp2_with(fail);refine(rN x.bf x.numOf z.bf x.bu b o m c k aT ce an bj d0).mono ?_;rintro e b7 ⟨rfl,bK⟩;have cd:=ae (a8.trans bK);have bf:=ae (bz.aj bK);clear bK a0 ai af d0 bj;cases dK x.bf z.bf (k == 1)
   .go_wp2;go_roundw
    case rel=>exact⟨k+1,max h ap,ad,by go_num,rfl,ad,.inr ad,cd.o,bf.o⟩
    case measure=>exact aH
   .go_wp2;go_roundw
    case rel=>exact⟨k+1,max h (ap+1),ad,by go_num,rfl,ad,.inr ad,cd.o,bf.o⟩
    case measure=>exact aH
  .obtain rfl:k=m:=ad;clear aw aQ;have b8:decide ((k:Int)<(k:Int))=false:=by simp
   go_wp2_with(fail);refine(gG x.bf wr).mono ?_;rintro e aT ⟨rfl,bJ⟩;have a8:=ae (br.trans bJ);clear bJ;by_cases cI:c6 x.bf=5
   .have O:h+1<=2*d:=by
     rcases ah with rfl|ah
     .have:0<d:=by
       rcases Nat.eq_zero_or_pos d with h0|h0
       .exfalso;subst h0;have ac:=aN.o;cases x<;>first|exact ac.elim|exact absurd cI (show ¬c6 1=5 by decide)|exact absurd cI (show ¬c6 2=5 by decide)
       .exact h0
      omega
     .exact ah
    rw[cI];go_wp2;go_ret;exact⟨⟨h+1,rfl,ad,O⟩,a8.o⟩
   .have q5:(c6 x.bf == 5)=false:=by simpa using cI
    go_wp2;go_ret;exact⟨⟨h,rfl,f,ad⟩,a8.o⟩
 ):p:=h
end Dl
open Dl in
theorem ob(N:Mu)(d:Nat)(hd:d<=1000)(x:VE)(hx:x.src N d)(Z:∀(k:Nat) (y:VE),x.args[k]?=some y->∃e,d=e+1/\se y e):se x d:=by
 intro op n s A m c w a5;exact py
theorem wm(N:Mu):∀(d:Nat),d<=1000->∀(x:VE),x.src N d->se x d:=by
 intro d
 induction d with
 | zero=>exact λhd x hx=>ob N 0 hd x hx λk y bb=>by rw[qJ hx] at bb;simp at bb
 | succ d Z=>exact λhd x hx=>ob N (d+1) hd x hx λk y bb=>⟨d,rfl,Z ad y (qI hx bb)⟩
theorem fN(x:VE)(hx:wR x)(op n:Int)(s:ByteArray)(A:Mt)(m c:Nat)(w:World)(a5:(bm x).rep w (aq w) [op,n,s,.slice A m c]) :
  Calls prog 109 #[.agg #[op,n,s,.slice A m c]] w λe ab=>e=.returned true/\Ext w ab:=by
 obtain⟨N,d,hN,hd,hs⟩:=hx;have a3:=ae a5;have b:=ae (zg N hN d x hs);have a:=ae (wm N d ad x hs);clear a5 hs hN;go_enter func109,ntmps109;go_wp2_with(fail);generalize ba:World.alloc _ _=W;have aw:=aU ba;have aQ:=aI ba;clear ba;refine(b.o _ _ _ _ _ _ W (D.on a3.o (Fr.ext aw))).mono ?_;rintro e aT ⟨rfl,bJ⟩;have a8:=ae (aw.trans bJ);obtain⟨a0,ai,af⟩:=(aQ.aj bJ).two;clear aw aQ bJ;go_wp2_with(fail);refine(a.o _ _ _ _ _ _ aT (D.on a3.o (Fr.ext a8.o))).mono ?_;rintro e b7 ⟨⟨h,rfl,h0,ac⟩,bK⟩;have cd:=ae (a8.trans bK);have q:decide (h<=24)=true:=by simp;omega
 clear bK a0 ai af;go_wp2;go_ret;exact⟨rfl,cd.o⟩
theorem rU(r:e4)(a5:oG r)(s:ByteArray)(A:Mt)(n c:Nat)(w:World)(h:(kL r).rep w (aq w) [s,.slice A n c]) :
  Calls prog 111 #[.agg #[s,.slice A n c]] w λe ab=>e=.returned true/\Ext w ab:=by
 obtain⟨I,a6,aE,e,aY,hs⟩:=jD.1 h;simp only[List.cons.injEq,Value.string.injEq,Value.slice.injEq,and_true] at e;obtain⟨rfl,rfl,rfl,rfl⟩:=e;have F:=ae (show jK r.name=true from a5.1);have U:r.name.size<=1000000:=by
  have:=eM a5.1;have ap:r.name.size=r.name.data.toList.length:=rfl;omega
 obtain⟨cc,bt⟩:=aJ a5.2 hs;clear h hs a5;go_enter func111,ntmps111;go_wp2_with(fail);generalize ba:World.alloc _ _=W;have aw:=aU ba;have aQ:=aI ba;clear ba;refine(hk r.name W U).mono ?_;rintro e aT ⟨rfl,bJ⟩;rw[F.o];have a8:=ae (aw.trans bJ);have bz:=ae (aQ.aj bJ);obtain⟨a0,ai,af⟩:=(aQ.aj bJ).two;clear aw aQ bJ
 cases aX:r.idx with
 | none=>
  have h0:=bt.1;rw[aX] at h0;obtain rfl:0=n:=h0;clear aX;go_wp2;go_ret
  exact⟨rfl,a8.o⟩
 | some x=>
  have aN:=ae (cc.o x aX);have h0:=bt.on (Fr.ext a8.o);rw[aX] at h0;obtain rfl:1=n:=h0.1;obtain⟨b,o,ci,aK,a4,E,rfl,O,cm,c0,c1,c2,c3⟩:=Sl.E2 h0 (df x);obtain⟨B,bv,bc,e,cx,cv⟩:=aZ.1 cm;simp only[List.cons.injEq,and_true] at e;obtain⟨rfl,rfl,rfl,rfl⟩:=e;have a1:b<aT:=O;have H:=ae cm;clear aX h0 cv cm O cc bt;go_wp2_with(fail);refine(fN x aN.o _ _ _ _ _ _ aT H.o).mono ?_;rintro e b7 ⟨rfl,bK⟩;have cd:=ae (a8.trans bK);clear bK;go_wp2;go_ret;exact⟨rfl,cd.o⟩
end
end Go.Proofs.YtpkfopfkdgkfkaaGreat

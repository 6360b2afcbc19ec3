/- Part 16 of the proof. No condition of its own. -/
import Derived.Test.YtajlmkkidmjgoaaGreatDoorQ15
namespace Go.Proofs.YtajlmkkidmjgoaaGreatDoor
open Go.RowKit Go.Proofs.Tryz
set_option maxRecDepth 1000000
set_option maxHeartbeats 25600000
set_option linter.unusedVariables false
variable{p:Prop}
section
theorem iu(A:IP)(c:Nat)(w:World):Calls prog 83 #[.agg #[.int .i64 0,.int .i64 0,.string ⟨#[]⟩,.slice A 0 c]] w λe ab=>e=.returned (.bool true)/\Ext w ab:=by
 go_enter func83,ntmps83;go_wp2;go_ret;exact⟨rfl,IK.alloc _⟩
theorem gu(A:IP)(c:Nat)(w:World):Calls prog 85 #[.agg #[.string ⟨#[]⟩,.slice A 0 c]] w λe ab=>e=.returned (.bool true)/\Ext w ab:=by
 go_enter func85,ntmps85;go_wp2;go_ret;exact⟨rfl,IK.alloc _⟩
def qT(x:VE):Prop:=∀(op n:Int) (s:ByteArray) (A:IP) (m c:Nat) (w:World),(a7 x).rep w (av w) [.int .i64 op,.int .i64 n,.string s,.slice A m c]->
 Calls prog 114 #[.agg #[.int .i64 op,.int .i64 n,.string s,.slice A m c]] w λe ab=>e=.returned (.bool true)/\Ext w ab
namespace zO
theorem oo(h:p:=by
 obtain⟨bs,c6⟩:=aN hs aa;clear aY aa;go_enter func114,ntmps114;go_wp2_with(fail);generalize ba:World.alloc _ _=W;have aw:=bm ba;have aS:=aU ba;clear ba;refine(fV x.aZ W).mono ?_;rintro e aO ⟨rfl,ar⟩;have bf:=ae (aw.trans ar);have a7:=ae (aS.aj ar);obtain⟨aI,aj,af⟩:=(aS.aj ar).two;clear aw aS ar;have S:=hs.1;rw[Ib] at S;clear hs;have key:∀(n0:Nat) (ax:x.args.length=n0),True:=λ_ _=>trivial;clear key
 cases x with
 | num n=>
  have hn:0<=n/\n<4611686018427387904:=by cases d<;>exact hx
  obtain rfl:0=m:=S;simp only[VE.aZ,VE.numOf,VE.bg] at *;have cc:decide (n>=0)=true:=by simp;omega
  rw[show cC 1=6 by decide];clear hx bs c6 hn;go_wp2;go_quiet (fail)
  go_wp2;refine wp_loop_rounds 1 ?_;rw[rounds_succ];go_wp2;go_ret
  exact⟨rfl,bf.drewN _⟩
 | gI s=>
  have hs:s∈N:=by cases d<;>exact hx
  obtain rfl:0=m:=S;simp only[VE.aZ,VE.numOf,VE.bg] at *;have ag:=ae (show ja s=true from hN s hs);have bT:s.size<=1000000:=by
   have:=ef (hN s hs);have J:s.size=s.data.toList.length:=rfl;omega
  rw[show cC 2=6 by decide];clear hx bs c6 hs;go_wp2;refine eB (λ_=>False) [(0,3),(1,0),(2,3),(3,3),(4,3),(5,0),(6,3),(7,3),(8,3),(9,3),(10,0),(11,3),(12,3),(13,3),(14,0),(15,3),(16,3),(17,3),(18,0),(19,3),(20,3),(21,3),(22,3),(23,0),(24,1),(25,3),(26,3),(27,3)] ?_;refine pf ?_;refine ph ?_
  iterate 2 refine pf ?_
  refine c4 rfl (by rfl) ?_
  try simp only[PU]
  refine hy rfl (by rfl) ?_
  try simp only[PU]
  refine c4 rfl (by rfl) ?_
  try simp only[PU]
  iterate 2 refine pf ?_
  refine c4 rfl (by rfl) ?_
  try simp only[PU]
  refine hy rfl (by rfl) ?_
  try simp only[PU]
  refine c4 rfl (by rfl) ?_
  try simp only[PU]
  iterate 2 refine pf ?_
  refine ph ?_
  iterate 3 refine pf ?_
  refine ph ?_
  iterate 4 refine pf ?_
  refine ph ?_;refine aD rfl (λK hK=>?_);go_simp;refine(gJ s _ bT).mono ?_;rintro e aT ⟨rfl,bx⟩;rw[ag.o];refine dA hK (bx) ?_;clear hK K
  iterate 3 refine pf ?_
  refine aB ?_;have a3:=ae (bf.trans (Fr.aJ bx));have bU:=(show an aO w.heap.size 128 _ from a7.o).aj (Fr.aJ bx);obtain⟨be,am,aH⟩:=bU.two;clear bx aI aj af bU;go_wp2;refine wp_loop_rounds 1 ?_;rw[rounds_succ];go_wp2;go_ret
  exact⟨rfl,a3.o⟩
 | loc j=>exact(by cases d<;>exact hx:False).elim
 | iq j=>exact(by cases d<;>exact hx:False).elim
 | un op y=>
  obtain rfl:1=m:=S
  have ch:op=3\/op=4:=by cases d with
   | zero=>exact hx.elim
   | succ d=>exact hx.1
  simp only[VE.aZ,VE.numOf,VE.bg] at *;rw[show cC op=5 by rcases ch with rfl|rfl<;>decide];clear hx ch;go_wp2;go_loopw [6] (λah wr=>∃k:Nat,k<=1/\ah=.int .i64 k/\Ext w wr/\an wr w.heap.size 128 #[.int .i64 op,.int .i64 0,.string ⟨#[]⟩,.slice A 1 c]) (λah _=>1 - (intOf ah).toNat)
  case atStart=>exact⟨0,ad,rfl,bf.o,a7.o⟩
  case round=>
   obtain⟨k,ap,rfl,aw,aS⟩:=hrel;clear bf a7 aI aj af;obtain⟨bf,a7⟩:=aN aw aS;obtain⟨aI,aj,af⟩:=aS.two;by_cases al:k<1
   .obtain⟨b,o,z,cs,rfl,O,a4,P,bd,Z⟩:=(bs.on (Fr.ext aw)).gH cY al;clear aw aS
    match cs,bd with
    | [b1,cj,bp,aJ],_=>
    exact DK
   .obtain rfl:k=1:=ad;clear aw aS;go_wp2;go_ret
    exact⟨rfl,bf.o⟩
 | bin op y z=>
  obtain rfl:2=m:=S
  have ch:5<=op/\op<=17:=by cases d with
   | zero=>exact hx.elim
   | succ d=>exact hx.1
  obtain⟨g,aq,f,_⟩:=s3 ch;simp only[VE.aZ,VE.numOf,VE.bg] at *;rw[f];have dh:((g:Int) == 6)=false:=by simp;omega
  have cA:((g:Int) == 5)=false:=by simp;omega
  clear hx ch aq f;go_wp2;go_loopw [6] (λah wr=>∃k:Nat,k<=2/\ah=.int .i64 k/\Ext w wr/\an wr w.heap.size 128 #[.int .i64 op,.int .i64 0,.string ⟨#[]⟩,.slice A 2 c]) (λah _=>2 - (intOf ah).toNat)
  case atStart=>exact⟨0,ad,rfl,bf.o,a7.o⟩
  case round=>
   obtain⟨k,ap,rfl,aw,aS⟩:=hrel;clear bf a7 aI aj af dh cA;obtain⟨bf,a7⟩:=aN aw aS;obtain⟨aI,aj,af⟩:=aS.two;by_cases al:k<2
   .obtain⟨b,o,z,cs,rfl,O,a4,P,bd,Z⟩:=(bs.on (Fr.ext aw)).gH cY al;clear aw aS
    match cs,bd with
    | [b1,cj,bp,aJ],_=>
    exact DK
   .obtain rfl:k=2:=ad;clear aw aS;go_wp2;go_ret;exact⟨rfl,bf.o⟩
 ):p:=h
end zO
open zO in
theorem uU(N:IQ)(hN:dr N)(d:Nat)(x:VE)(hx:x.src N d)(aa:∀(k:Nat) (y:VE),x.args[k]?=some y->qT y):qT x:=by
 intro op n s A m c w aY;exact om
theorem Dp{N:IQ}{C:VE->Nat->Prop}(f:∀(d:Nat) (x:VE),x.src N d->(∀(k:Nat) (y:VE),x.args[k]?=some y->∃e,d=e+1/\C y e)->C x d):∀(d:Nat) (x:VE),x.src N d->C x d:=by
 intro d
 induction d with
 | zero=>exact λx hx=>f 0 x hx λk y a4=>by rw[pE hx] at a4;simp at a4
 | succ d aa=>exact λx hx=>f (d+1) x hx λk y a4=>⟨d,rfl,aa y (pD hx a4)⟩
theorem xA(N:IQ)(hN:dr N)(d:Nat)(x:VE)(hx:x.src N d):qT x:=
 Dp (C:=λx _=>qT x) (λd x hx aa=>uU N hN d x hx λk y a4=>by obtain⟨_,_,h⟩:=aa k y a4;exact h) d x hx
def qP(x:VE)(d:Nat):Prop:=∀(op n:Int) (s:ByteArray) (A:IP) (m c:Nat) (w:World),(a7 x).rep w (av w) [.int .i64 op,.int .i64 n,.string s,.slice A m c]->
 Calls prog 115 #[.agg #[.int .i64 op,.int .i64 n,.string s,.slice A m c]] w λe ab=>(∃h:Int,e=.returned (.int .i64 h)/\0<=h/\h<=2*d)/\Ext w ab
attribute [local go_sem ↓] gN gO
namespace zP
theorem oo(h:p:=by
 have az:m<=2:=by rw[<-hs.1,Ib];exact sa x
 have dB:m=x.args.length:=by rw[<-hs.1,Ib]
 obtain⟨eV,aV,bs,c6⟩:=ih dB hx hs aa;clear aY aa hs hx dB;go_enter func115,ntmps115;go_wp2;generalize ba:World.alloc _ _=W;have aw:=bm ba;have aS:=aU ba;clear ba;obtain⟨bf,a7⟩:=aN aw aS;clear aw aS;go_loopw [3,4] (λbC ah wr=>∃(k:Nat) (h:Int),k<=m/\ah=.int .i64 k/\bC=.int .i64 h/\0<=h/\(h=0\/h+1<=2*d)/\Ext w wr/\an wr w.heap.size 128 #[.int .i64 x.aZ,.int .i64 x.numOf,.string x.bg,.slice A m c]) (λ_ ah _=>m - (intOf ah).toNat)
 case atStart=>exact⟨0,0,ad,rfl,rfl,ad,.inl rfl,bf.o,a7.o⟩
 case round=>
  obtain⟨k,h,ap,rfl,rfl,f,aG,aw,aS⟩:=hrel;clear bf a7;obtain⟨bf,a7⟩:=aN aw aS;obtain⟨aI,aj,af⟩:=aS.two;by_cases al:k<m
  .obtain⟨b,o,z,cs,rfl,O,a4,P,bd,Z⟩:=(bs.on (Fr.ext aw)).gH cY al;clear aw aS
   match cs,bd with
   | [b1,cj,bp,aJ],_=>
   have c0:=Z 0 b1 rfl;have c1:=Z 1 cj rfl;have c2:=Z 2 bp rfl;have c3:=Z 3 aJ rfl;simp only[Ij] at c0;have aX:b<wr.heap.size:=O;clear Z O;obtain⟨B,bN,bc,e,cx,cb⟩:=aW.1 P;simp only[List.cons.injEq,and_true] at e;obtain⟨rfl,rfl,rfl,rfl⟩:=e;obtain⟨e0,R,hC⟩:=c6.o k z a4;obtain⟨bP,bY,H⟩:=eD hC a4 P;clear a4 P cb hC;go_wp2_with(fail);refine(bP.o _ _ _ _ _ _ wr H.o).mono ?_;rintro e aT ⟨⟨J,rfl,g,i⟩,bx⟩;have a3:=ae (bf.trans bx);have b6:=ae (a7.aj bx);have d0:=(bx.cell (j:=o+k*4) aX (λh=>h)).trans c0;have bw:b<aT.heap.size:=Hy aX bx.size;have b7:k<=1:=ad;clear bx aI aj af c0 c1 c2 c3 aX;obtain⟨aI,aj,af⟩:=b6.two;go_wp2_with(fail);refine(qq x.aZ x.numOf z.aZ x.bg b o m c k aT b7 al bw d0).mono ?_;rintro e b4 ⟨rfl,bV⟩;have bl:=ae (a3.trans bV);have bI:=ae (b6.aj bV);clear bV aI aj af d0 bw;cases df x.aZ z.aZ (k == 1)
   .go_wp2;go_roundw
    case rel=>exact⟨k+1,max h J,ad,by go_num,rfl,ad,.inr ad,bl.o,bI.o⟩
    case measure=>exact aF
   .go_wp2;go_roundw
    case rel=>exact⟨k+1,max h (J+1),ad,by go_num,rfl,ad,.inr ad,bl.o,bI.o⟩
    case measure=>exact aF
  .obtain rfl:k=m:=ad;clear aw aS;have hg:decide ((k:Int)<(k:Int))=false:=by simp
   go_wp2_with(fail);refine(fV x.aZ wr).mono ?_;rintro e aT ⟨rfl,bx⟩;have a3:=ae (bf.trans bx);clear bx;by_cases ct:cC x.aZ=5
   .have O:h+1<=2*d:=by
     rcases aG with rfl|aG
     .have:0<d:=by
       rcases Nat.eq_zero_or_pos d with h0|h0
       .exfalso;subst h0;have ac:=aV.o;cases x<;>first|exact ac.elim|exact absurd ct (show ¬cC 1=5 by decide)|exact absurd ct (show ¬cC 2=5 by decide)
       .exact h0
      omega
     .exact aG
    rw[ct];go_wp2;go_ret;exact⟨⟨h+1,rfl,ad,O⟩,a3.o⟩
   .have cA:(cC x.aZ == 5)=false:=by simpa using ct
    go_wp2;go_ret;exact⟨⟨h,rfl,f,ad⟩,a3.o⟩
 ):p:=h
end zP
open zP in
theorem nv(N:IQ)(d:Nat)(hd:d<=1000)(x:VE)(hx:x.src N d)(aa:∀(k:Nat) (y:VE),x.args[k]?=some y->∃e,d=e+1/\qP y e):qP x d:=by
 intro op n s A m c w aY;exact om
theorem uh(N:IQ):∀(d:Nat),d<=1000->∀(x:VE),x.src N d->qP x d:=by
 intro d
 induction d with
 | zero=>exact λhd x hx=>nv N 0 hd x hx λk y a4=>by rw[pE hx] at a4;simp at a4
 | succ d aa=>exact λhd x hx=>nv N (d+1) hd x hx λk y a4=>⟨d,rfl,aa ad y (pD hx a4)⟩
theorem e5(x:VE)(hx:uE x)(op n:Int)(s:ByteArray)(A:IP)(m c:Nat)(w:World)(aY:(a7 x).rep w (av w) [.int .i64 op,.int .i64 n,.string s,.slice A m c]) :
  Calls prog 82 #[.agg #[.int .i64 op,.int .i64 n,.string s,.slice A m c]] w λe ab=>e=.returned (.bool true)/\Ext w ab:=by
 obtain⟨N,d,hN,hd,hs⟩:=hx;have a8:=ae aY;have b:=ae (xA N hN d x hs);have a:=ae (uh N d ad x hs);clear aY hs hN;go_enter func82,ntmps82;go_wp2_with(fail);generalize ba:World.alloc _ _=W;have aw:=bm ba;have aS:=aU ba;clear ba;refine(b.o _ _ _ _ _ _ W (D.on a8.o (Fr.ext aw))).mono ?_;rintro e aT ⟨rfl,bx⟩;have a3:=ae (aw.trans bx);obtain⟨aI,aj,af⟩:=(aS.aj bx).two;clear aw aS bx;go_wp2_with(fail);refine(a.o _ _ _ _ _ _ aT (D.on a8.o (Fr.ext a3.o))).mono ?_;rintro e b4 ⟨⟨h,rfl,h0,ac⟩,bV⟩;have bl:=ae (a3.trans bV);have q:decide (h<=24)=true:=by simp;omega
 clear bV aI aj af;go_wp2;go_ret;exact⟨rfl,bl.o⟩
theorem qz(r:eC)(aY:nR r)(s:ByteArray)(A:IP)(n c:Nat)(w:World)(h:(j9 r).rep w (av w) [.string s,.slice A n c]) :
  Calls prog 84 #[.agg #[.string s,.slice A n c]] w λe ab=>e=.returned (.bool true)/\Ext w ab:=by
 obtain⟨aE,a0,L,e,aG,hs⟩:=iS.1 h;simp only[List.cons.injEq,Value.string.injEq,Value.slice.injEq,and_true] at e;obtain⟨rfl,rfl,rfl,rfl⟩:=e;have ag:=ae (show ja r.name=true from aY.1);have bT:r.name.size<=1000000:=by
  have:=ef aY.1;have J:r.name.size=r.name.data.toList.length:=rfl;omega
 obtain⟨ce,bs⟩:=aN aY.2 hs;clear h hs aY;go_enter func84,ntmps84;go_wp2_with(fail);generalize ba:World.alloc _ _=W;have aw:=bm ba;have aS:=aU ba;clear ba;refine(gJ r.name W bT).mono ?_;rintro e aT ⟨rfl,bx⟩;rw[ag.o];have a3:=ae (aw.trans bx);have b6:=ae (aS.aj bx);obtain⟨aI,aj,af⟩:=(aS.aj bx).two;clear aw aS bx
 cases ak:r.idx with
 | none=>
  have h0:=bs.1;rw[ak] at h0;obtain rfl:0=n:=h0;clear ak;go_wp2;go_ret
  exact⟨rfl,a3.o⟩
 | some x=>
  have aV:=ae (ce.o x ak);have h0:=bs.on (Fr.ext a3.o);rw[ak] at h0;obtain rfl:1=n:=h0.1;obtain⟨b,o,bU,Z,ay,F,rfl,O,G,c0,c1,c2,c3⟩:=Sl.BB h0 (cY x);obtain⟨B,bN,bc,e,cx,cb⟩:=aW.1 G;simp only[List.cons.injEq,and_true] at e;obtain⟨rfl,rfl,rfl,rfl⟩:=e;have aX:b<aT.heap.size:=O;have S:=ae G;clear ak h0 cb G O ce bs;go_wp2_with(fail);refine(e5 x aV.o _ _ _ _ _ _ aT S.o).mono ?_;rintro e b4 ⟨rfl,bV⟩;have bl:=ae (a3.trans bV);clear bV;go_wp2;go_ret;exact⟨rfl,bl.o⟩
end
end Go.Proofs.YtajlmkkidmjgoaaGreatDoor

/- Part 13 of the proof. No condition of its own. -/
import Derived.Test.YtnigabjngpnbiabGreatF12
namespace Go.Proofs.YtnigabjngpnbiabGreat
open Go.RowKit Go.Proofs.Tryz
set_option maxRecDepth 1000000
set_option maxHeartbeats 25600000
set_option linter.unusedVariables false
variable{p:Prop}
section
theorem jt(A:NH)(c:Nat)(w:World):Calls prog 107 #[.agg #[(0:Int),(0:Int),NF,.slice A 0 c]] w λe ab=>e=.returned true/\Ext w ab:=by
 go_enter func107,ntmps107;go_wp2;go_ret;exact⟨rfl,NC.alloc _⟩
theorem g7(A:NH)(c:Nat)(w:World):Calls prog 109 #[.agg #[NF,.slice A 0 c]] w λe ab=>e=.returned true/\Ext w ab:=by
 go_enter func109,ntmps109;go_wp2;go_ret;exact⟨rfl,NC.alloc _⟩
def sY(x:VE):Prop:=∀(op n:Int) (s:ByteArray) (A:NH) (m c:Nat) (w:World),(bo x).rep w (av w) [.int .i64 op,.int .i64 n,.string s,.slice A m c]->
 Calls prog 131 #[.agg #[.int .i64 op,.int .i64 n,.string s,.slice A m c]] w λe ab=>e=.returned (.bool true)/\Ext w ab
namespace Dl
theorem pW(h:p:=by
 obtain⟨bH,cC⟩:=aJ hs aq;clear ba aq;go_enter func131,ntmps131;go_wp2_with(fail);generalize be:World.alloc _ _=W;have aF:=aX be;have aT:=aL be;clear be;refine(gK x.a5 W).mono ?_;rintro e aO ⟨rfl,ar⟩;have bk:=ae (aF.trans ar);have bL:=ae (aT.aj ar);obtain⟨a0,ak,af⟩:=(aT.aj ar).two;clear aF aT ar;have P:=hs.1;rw[M5] at P;clear hs;have key:∀(n0:Nat) (bf:x.args.length=n0),True:=λ_ _=>trivial;clear key
 cases x with
 | num n=>
  have hn:0<=n/\n<4611686018427387904:=by cases d<;>exact hx
  obtain rfl:0=m:=P;simp only[VE.a5,VE.numOf,VE.bw] at *;have cq:decide (n>=0)=true:=by simp;omega
  rw[show c9 1=6 by decide];clear hx bH cC hn;go_wp2;go_quiet (fail)
  go_wp2;refine wp_loop_rounds 1 ?_;rw[rounds_succ];go_wp2;go_ret
  exact⟨rfl,bk.drewN _⟩
 | gU s=>
  have hs:s∈N:=by cases d<;>exact hx
  obtain rfl:0=m:=P;simp only[VE.a5,VE.numOf,VE.bw] at *;have Q:=ae (show jX s=true from hN s hs);have U:s.size<=1000000:=by
   have:=eH (hN s hs);have az:s.size=s.data.toList.length:=rfl;omega
  rw[show c9 2=6 by decide];clear hx bH cC hs;go_wp2;refine eJ (λ_=>False) [(0,3),(1,0),(2,3),(3,3),(4,3),(5,0),(6,3),(7,3),(8,3),(9,3),(10,0),(11,3),(12,3),(13,3),(14,0),(15,3),(16,3),(17,3),(18,0),(19,3),(20,3),(21,3),(22,3),(23,0),(24,1),(25,3),(26,3),(27,3)] ?_;refine pf ?_;refine ph ?_
  iterate 2 refine pf ?_
  refine cN rfl (by rfl) ?_
  try simp only[PU]
  refine ha rfl (by rfl) ?_
  try simp only[PU]
  refine cN rfl (by rfl) ?_
  try simp only[PU]
  iterate 2 refine pf ?_
  refine cN rfl (by rfl) ?_
  try simp only[PU]
  refine ha rfl (by rfl) ?_
  try simp only[PU]
  refine cN rfl (by rfl) ?_
  try simp only[PU]
  iterate 2 refine pf ?_
  refine ph ?_
  iterate 3 refine pf ?_
  refine ph ?_
  iterate 4 refine pf ?_
  refine ph ?_;refine aE rfl (λK hK=>?_);go_simp;refine(hB s _ U).mono ?_;rintro e aW ⟨rfl,bF⟩;rw[Q.o];refine dB hK (bF) ?_;clear hK K
  iterate 3 refine pf ?_
  refine aG ?_;have a8:=ae (bk.trans (Fr.aF bF));have bG:=(show an aO w.heap.size 37 _ from bL.o).aj (Fr.aF bF);obtain⟨bs,am,aK⟩:=bG.two;clear bF a0 ak af bG;go_wp2;refine wp_loop_rounds 1 ?_;rw[rounds_succ];go_wp2;go_ret
  exact⟨rfl,a8.o⟩
 | loc j=>exact(by cases d<;>exact hx:False).elim
 | ij j=>exact(by cases d<;>exact hx:False).elim
 | un op y=>
  obtain rfl:1=m:=P
  have cp:op=3\/op=4:=by cases d with
   | zero=>exact hx.elim
   | succ d=>exact hx.1
  simp only[VE.a5,VE.numOf,VE.bw] at *;rw[show c9 op=5 by rcases cp with rfl|rfl<;>decide];clear hx cp;go_wp2;go_loopw [6] (λL wr=>∃k:Nat,k<=1/\L=.int .i64 k/\Ext w wr/\an wr w 37 #[op,(0:Int),NF,.slice A 1 c]) (λL _=>1 - (intOf L).toNat)
  case atStart=>exact⟨0,ad,rfl,bk.o,bL.o⟩
  case round=>
   obtain⟨k,aj,rfl,aF,aT⟩:=hrel;clear bk bL a0 ak af;obtain⟨bk,bL⟩:=aJ aF aT;obtain⟨a0,ak,af⟩:=aT.two;by_cases ap:k<1
   .obtain⟨b,o,z,cs,rfl,O,bb,aa,bu,Z⟩:=(bH.on (Fr.ext aF)).g1 c7 ap;clear aF aT
    match cs,bu with
    | [ci,cr,cf,bv],_=>
    exact H8
   .obtain rfl:k=1:=ad;clear aF aT;go_wp2;go_ret
    exact⟨rfl,bk.o⟩
 | bin op y z=>
  obtain rfl:2=m:=P
  have cp:5<=op/\op<=17:=by cases d with
   | zero=>exact hx.elim
   | succ d=>exact hx.1
  obtain⟨g,bg,f,_⟩:=vQ cp;simp only[VE.a5,VE.numOf,VE.bw] at *;rw[f];have dj:((g:Int) == 6)=false:=by simp;omega
  have q5:((g:Int) == 5)=false:=by simp;omega
  clear hx cp bg f;go_wp2;go_loopw [6] (λL wr=>∃k:Nat,k<=2/\L=.int .i64 k/\Ext w wr/\an wr w 37 #[op,(0:Int),NF,.slice A 2 c]) (λL _=>2 - (intOf L).toNat)
  case atStart=>exact⟨0,ad,rfl,bk.o,bL.o⟩
  case round=>
   obtain⟨k,aj,rfl,aF,aT⟩:=hrel;clear bk bL a0 ak af dj q5;obtain⟨bk,bL⟩:=aJ aF aT;obtain⟨a0,ak,af⟩:=aT.two;by_cases ap:k<2
   .obtain⟨b,o,z,cs,rfl,O,bb,aa,bu,Z⟩:=(bH.on (Fr.ext aF)).g1 c7 ap;clear aF aT
    match cs,bu with
    | [ci,cr,cf,bv],_=>
    exact H8
   .obtain rfl:k=2:=ad;clear aF aT;go_wp2;go_ret;exact⟨rfl,bk.o⟩
 ):p:=h
end Dl
open Dl in
theorem xO(N:NI)(hN:dQ N)(d:Nat)(x:VE)(hx:x.src N d)(aq:∀(k:Nat) (y:VE),x.args[k]?=some y->sY y):sY x:=by
 intro op n s A m c w ba;exact pV
theorem HG{N:NI}{C:VE->Nat->Prop}(f:∀(d:Nat) (x:VE),x.src N d->(∀(k:Nat) (y:VE),x.args[k]?=some y->∃e,d=e+1/\C y e)->C x d):∀(d:Nat) (x:VE),x.src N d->C x d:=by
 intro d
 induction d with
 | zero=>exact λx hx=>f 0 x hx λk y bb=>by rw[rl hx] at bb;simp at bb
 | succ d aq=>exact λx hx=>f (d+1) x hx λk y bb=>⟨d,rfl,aq y (rk hx bb)⟩
theorem Ac(N:NI)(hN:dQ N)(d:Nat)(x:VE)(hx:x.src N d):sY x:=
 HG (C:=λx _=>sY x) (λd x hx aq=>xO N hN d x hx λk y bb=>by obtain⟨_,_,h⟩:=aq k y bb;exact h) d x hx
def sW(x:VE)(d:Nat):Prop:=∀(op n:Int) (s:ByteArray) (A:NH) (m c:Nat) (w:World),(bo x).rep w (av w) [.int .i64 op,.int .i64 n,.string s,.slice A m c]->
 Calls prog 132 #[.agg #[.int .i64 op,.int .i64 n,.string s,.slice A m c]] w λe ab=>(∃h:Int,e=.returned (.int .i64 h)/\0<=h/\h<=2*d)/\Ext w ab
attribute [local go_sem ↓] gI gJ
namespace Dm
theorem pW(h:p:=by
 have aA:m<=2:=by rw[<-hs.1,M5];exact uD x
 have dA:m=x.args.length:=by rw[<-hs.1,M5]
 obtain⟨dX,aP,bH,cC⟩:=jl dA hx hs aq;clear ba aq hs hx dA;go_enter func132,ntmps132;go_wp2;generalize be:World.alloc _ _=W;have aF:=aX be;have aT:=aL be;clear be;obtain⟨bk,bL⟩:=aJ aF aT;clear aF aT;go_loopw [3,4] (λbK L wr=>∃(k:Nat) (h:Int),k<=m/\L=.int .i64 k/\bK=.int .i64 h/\0<=h/\(h=0\/h+1<=2*d)/\Ext w wr/\an wr w 37 #[.int .i64 x.a5,.int .i64 x.numOf,.string x.bw,.slice A m c]) (λ_ L _=>m - (intOf L).toNat)
 case atStart=>exact⟨0,0,ad,rfl,rfl,ad,.inl rfl,bk.o,bL.o⟩
 case round=>
  obtain⟨k,h,aj,rfl,rfl,f,ag,aF,aT⟩:=hrel;clear bk bL;obtain⟨bk,bL⟩:=aJ aF aT;obtain⟨a0,ak,af⟩:=aT.two;by_cases ap:k<m
  .obtain⟨b,o,z,cs,rfl,O,bb,aa,bu,Z⟩:=(bH.on (Fr.ext aF)).g1 c7 ap;clear aF aT
   match cs,bu with
   | [ci,cr,cf,bv],_=>
   have c0:=Z 0 ci rfl;have c1:=Z 1 cr rfl;have c2:=Z 2 cf rfl;have c3:=Z 3 bv rfl;simp only[Nd] at c0;have aZ:b<wr:=O;clear Z O;obtain⟨B,bO,bc,e,c6,b3⟩:=aY.1 aa;simp only[List.cons.injEq,and_true] at e;obtain⟨rfl,rfl,rfl,rfl⟩:=e;obtain⟨e0,T,hC⟩:=cC.o k z bb;obtain⟨bY,bB,G⟩:=eU hC bb aa;clear bb aa b3 hC;go_wp2_with(fail);refine(bY.o _ _ _ _ _ _ wr G.o).mono ?_;rintro e aW ⟨⟨az,rfl,g,i⟩,bF⟩;have a8:=ae (bk.trans bF);have cb:=ae (bL.aj bF);have d0:=(bF.cell (j:=o+k*4) aZ (λh=>h)).trans c0;have bn:b<aW:=M0 aZ bF.size;have ce:k<=1:=ad;clear bF a0 ak af c0 c1 c2 c3 aZ;obtain⟨a0,ak,af⟩:=cb.two;go_wp2_with(fail);refine(sq x.a5 x.numOf z.a5 x.bw b o m c k aW ce ap bn d0).mono ?_;rintro e b6 ⟨rfl,bZ⟩;have a4:=ae (a8.trans bZ);have cm:=ae (cb.aj bZ);clear bZ a0 ak af d0 bn;cases dJ x.a5 z.a5 (k == 1)
   .go_wp2;go_roundw
    case rel=>exact⟨k+1,max h az,ad,by go_num,rfl,ad,.inr ad,a4.o,cm.o⟩
    case measure=>exact aH
   .go_wp2;go_roundw
    case rel=>exact⟨k+1,max h (az+1),ad,by go_num,rfl,ad,.inr ad,a4.o,cm.o⟩
    case measure=>exact aH
  .obtain rfl:k=m:=ad;clear aF aT;have hi:decide ((k:Int)<(k:Int))=false:=by simp
   go_wp2_with(fail);refine(gK x.a5 wr).mono ?_;rintro e aW ⟨rfl,bF⟩;have a8:=ae (bk.trans bF);clear bF;by_cases cB:c9 x.a5=5
   .have O:h+1<=2*d:=by
     rcases ag with rfl|ag
     .have:0<d:=by
       rcases Nat.eq_zero_or_pos d with h0|h0
       .exfalso;subst h0;have ac:=aP.o;cases x<;>first|exact ac.elim|exact absurd cB (show ¬c9 1=5 by decide)|exact absurd cB (show ¬c9 2=5 by decide)
       .exact h0
      omega
     .exact ag
    rw[cB];go_wp2;go_ret;exact⟨⟨h+1,rfl,ad,O⟩,a8.o⟩
   .have q5:(c9 x.a5 == 5)=false:=by simpa using cB
    go_wp2;go_ret;exact⟨⟨h,rfl,f,ad⟩,a8.o⟩
 ):p:=h
end Dm
open Dm in
theorem oG(N:NI)(d:Nat)(hd:d<=1000)(x:VE)(hx:x.src N d)(aq:∀(k:Nat) (y:VE),x.args[k]?=some y->∃e,d=e+1/\sW y e):sW x d:=by
 intro op n s A m c w ba;exact pV
theorem xd(N:NI):∀(d:Nat),d<=1000->∀(x:VE),x.src N d->sW x d:=by
 intro d
 induction d with
 | zero=>exact λhd x hx=>oG N 0 hd x hx λk y bb=>by rw[rl hx] at bb;simp at bb
 | succ d aq=>exact λhd x hx=>oG N (d+1) hd x hx λk y bb=>⟨d,rfl,aq ad y (rk hx bb)⟩
theorem fL(x:VE)(hx:xv x)(op n:Int)(s:ByteArray)(A:NH)(m c:Nat)(w:World)(ba:(bo x).rep w (av w) [op,n,s,.slice A m c]) :
  Calls prog 106 #[.agg #[op,n,s,.slice A m c]] w λe ab=>e=.returned true/\Ext w ab:=by
 obtain⟨N,d,hN,hd,hs⟩:=hx;have a3:=ae ba;have b:=ae (Ac N hN d x hs);have a:=ae (xd N d ad x hs);clear ba hs hN;go_enter func106,ntmps106;go_wp2_with(fail);generalize be:World.alloc _ _=W;have aF:=aX be;have aT:=aL be;clear be;refine(b.o _ _ _ _ _ _ W (D.on a3.o (Fr.ext aF))).mono ?_;rintro e aW ⟨rfl,bF⟩;have a8:=ae (aF.trans bF);obtain⟨a0,ak,af⟩:=(aT.aj bF).two;clear aF aT bF;go_wp2_with(fail);refine(a.o _ _ _ _ _ _ aW (D.on a3.o (Fr.ext a8.o))).mono ?_;rintro e b6 ⟨⟨h,rfl,h0,ac⟩,bZ⟩;have a4:=ae (a8.trans bZ);have q:decide (h<=24)=true:=by simp;omega
 clear bZ a0 ak af;go_wp2;go_ret;exact⟨rfl,a4.o⟩
theorem sC(r:eY)(ba:pa r)(s:ByteArray)(A:NH)(n c:Nat)(w:World)(h:(kW r).rep w (av w) [s,.slice A n c]) :
  Calls prog 108 #[.agg #[s,.slice A n c]] w λe ab=>e=.returned true/\Ext w ab:=by
 obtain⟨I,a6,aD,e,aQ,hs⟩:=jQ.1 h;simp only[List.cons.injEq,Value.string.injEq,Value.slice.injEq,and_true] at e;obtain⟨rfl,rfl,rfl,rfl⟩:=e;have Q:=ae (show jX r.name=true from ba.1);have U:r.name.size<=1000000:=by
  have:=eH ba.1;have az:r.name.size=r.name.data.toList.length:=rfl;omega
 obtain⟨cc,bH⟩:=aJ ba.2 hs;clear h hs ba;go_enter func108,ntmps108;go_wp2_with(fail);generalize be:World.alloc _ _=W;have aF:=aX be;have aT:=aL be;clear be;refine(hB r.name W U).mono ?_;rintro e aW ⟨rfl,bF⟩;rw[Q.o];have a8:=ae (aF.trans bF);have cb:=ae (aT.aj bF);obtain⟨a0,ak,af⟩:=(aT.aj bF).two;clear aF aT bF
 cases aN:r.idx with
 | none=>
  have h0:=bH.1;rw[aN] at h0;obtain rfl:0=n:=h0;clear aN;go_wp2;go_ret
  exact⟨rfl,a8.o⟩
 | some x=>
  have aP:=ae (cc.o x aN);have h0:=bH.on (Fr.ext a8.o);rw[aN] at h0;obtain rfl:1=n:=h0.1;obtain⟨b,o,b0,Z,a9,H,rfl,O,aB,c0,c1,c2,c3⟩:=Sl.Fv h0 (c7 x);obtain⟨B,bO,bc,e,c6,b3⟩:=aY.1 aB;simp only[List.cons.injEq,and_true] at e;obtain⟨rfl,rfl,rfl,rfl⟩:=e;have aZ:b<aW:=O;have G:=ae aB;clear aN h0 b3 aB O cc bH;go_wp2_with(fail);refine(fL x aP.o _ _ _ _ _ _ aW G.o).mono ?_;rintro e b6 ⟨rfl,bZ⟩;have a4:=ae (a8.trans bZ);clear bZ;go_wp2;go_ret;exact⟨rfl,a4.o⟩
end
end Go.Proofs.YtnigabjngpnbiabGreat

/- Part 38 of the proof. No condition of its own. -/
import Derived.Test.YtnigabjngpnbiabGreatF28
import Derived.Test.YtnigabjngpnbiabGreatF35
namespace Go.Proofs.YtnigabjngpnbiabGreat
open Go.RowKit Go.Proofs.Tryz
set_option maxRecDepth 1000000
set_option maxHeartbeats 25600000
set_option linter.unusedVariables false
variable{T:List Tok}{F k:Nat}{P:Nat->Prop}{p:Prop}{ab w:World}{st:aB}{s:ai}
namespace CX
theorem BM(h:p:=by
 refine(show Calls prog 40 #[.pointer (some ⟨g,0,none⟩),.string ⟨#[91]⟩] X _ from cL [91] g A n c T (k+1) deep X aP.1 false bW.2.2 (λh=>by cases h)).mono ?_;rintro e aW ⟨rfl,bh,hF⟩;have bG:=aP.2.2.1.on hF ad;have cg:=aP.2.2.2.on hF ad;have b1:=ay (show bI aW g A n c T (k+1) deep from by simpa using bh) (aP.2.1.trans hF) bG;clear bh hF aP;obtain⟨d0,aQ,aS⟩:=cg.two;obtain⟨bq,a1,a5⟩:=bG.two;clear cg bG;go_wp2_with(fail);generalize co:World.setCell _ _ _=Y;obtain⟨bM,bA,bz⟩:=eg (M:=λb=>b=g) (w:=w) [.string (strOf t.text),()] (by rfl) b1.2.2 b1.2.1 (MU _) co;have bB:=ah (b1.1.on bz λb O=>ad) bA;clear co bA bz bq a1 a5;obtain⟨bq,a1,a5⟩:=bM.two;refine NB (v:=.agg #[.string (strOf t.text),()]) (by simp[results,Tryz.results105,go_sem,bq]) rfl ?_;exact⟨rfl,bB.1,bB.2⟩
 ):p:=h
end CX
open CX in
theorem xF(g:Nat)(A:NH)(n c:Nat)(T:List Tok)(k deep:Nat)(w:World)(t:Tok)(h:bI w g A n c T k deep)(ht:T[k]?=some t)(bv:t.kind=1)(bY:cb [91] T (k+1)=false)(aj:k+1<n) :
  Calls prog 105 #[.pointer (some ⟨g,0,none⟩)] w λe ab=>e=.returned (.agg #[.string (strOf t.text),()])/\bI ab g A n c T (k+1) deep/\Fr (λb=>b=g) w ab:=by
 have H:=ae h;have bW:=ay ht bv bY;have cv:=h.blk.lt;clear h bv ht bY;go_enter func105,ntmps105;go_upto_region 1 with(fail);generalize be:World.alloc _ _=W;have aF:=aX be;have cx:=aL be;have al:=ay (H.aj aF) aF cx;clear be aF cx;go_wp2_with(fail);refine(nc g A n c T k deep W t al.1 bW.1 bW.2.1 aj).mono ?_;exact BL
theorem Hj(g:Nat)(A:NH)(n c:Nat)(T:List Tok)(k deep:Nat)(w:World)(h:bI w g A n c T k deep)(ac:cb [40] T k=true)(az:cb [41] T (k+1)=true)(aj:k+2<n) :
  Calls prog 104 #[.pointer (some ⟨g,0,none⟩)] w λe ab=>e=.returned (.slice none 0 0)/\bI ab g A n c T (k+2) deep/\Fr (λb=>b=g) w ab:=by
 have H:=ae h;have bW:=ah ac az;clear h ac az;go_enter func104,ntmps104;exact H9
theorem z2(g:Nat)(A:NH)(n c:Nat)(T:List Tok)(k deep:Nat)(w:World)(h:bI w g A n c T k deep)(ac:cb [40] T k=true)(az:cb [41] T (k+1)=true)(aj:k+2<n) :
  Calls prog 44 #[.pointer (some ⟨g,0,none⟩)] w λe ab=>e=.returned (.slice none 0 0)/\bI ab g A n c T (k+2) deep/\Fr (λb=>b=g) w ab:=by
 have H:=ae h;have bW:=ah ac az;clear h ac az;go_enter func44,ntmps44;exact H9
namespace CY
theorem BM(h:p:=by
 refine(show Calls prog 40 #[.pointer (some ⟨g,0,none⟩),.string ⟨#[91]⟩] X _ from cL [91] g A n c T (k+1) deep X aP.1 false bW.2.2.1 (λh=>by cases h)).mono ?_;rintro e aW ⟨rfl,bh,hF⟩;have b1:=br (show bI aW g A n c T (k+1) deep from by simpa using bh) (aP.2.1.trans hF) (aP.2.2.1.on hF ad) (aP.2.2.2.on hF ad);clear bh hF aP;go_wp2_with(fail);refine(show Calls prog 78 #[.pointer (some ⟨g,0,none⟩),.string ⟨#[59]⟩] aW _ from ko [59] g A n c T (k+1) deep aW b1.1 bW.2.2.2 ad).mono ?_;rintro e b6 ⟨rfl,bh,hF⟩;have bG:=b1.2.2.1.on hF ad;have cg:=b1.2.2.2.on hF ad;have bN:=ay bh (b1.2.1.trans hF) bG;clear bh hF b1;obtain⟨d0,aQ,aS⟩:=cg.two;obtain⟨bq,a1,a5⟩:=bG.two;clear cg bG;go_wp2_with(fail);generalize co:World.setCell _ _ _=Y;obtain⟨bM,bA,bz⟩:=eg (M:=λb=>b=g) (w:=w) [.string (strOf t.text),false,(0:Int)] (by rfl) bN.2.2 bN.2.1 (MU _) co;have bB:=ah (bN.1.on bz λb O=>ad) bA;clear co bA bz bq a1 a5;obtain⟨bq,a1,a5⟩:=bM.two;refine NB (v:=.agg #[.string (strOf t.text),false,(0:Int)]) (by simp[results,Tryz.results42,go_sem,bq]) rfl ?_;exact⟨rfl,bB.1,bB.2⟩
 ):p:=h
end CY
open CY in
theorem FJ(g:Nat)(A:NH)(n c:Nat)(T:List Tok)(k deep:Nat)(w:World)(t:Tok)(h:bI w g A n c T k deep)(ht:T[k]?=some t)(bv:t.kind=1)(bY:cb [91] T (k+1)=false)(az:cb [59] T (k+1)=true)(aj:k+2<n) :
  Calls prog 42 #[.pointer (some ⟨g,0,none⟩),false] w λe ab=>e=.returned (.agg #[.string (strOf t.text),false,(0:Int)])/\bI ab g A n c T (k+2) deep/\Fr (λb=>b=g) w ab:=by
 have H:=ae h;have bW:=br ht bv bY az;have cv:=h.blk.lt;clear h bv ht bY az;go_enter func42,ntmps42;go_upto_region 1 with(fail);generalize be:World.alloc _ _=W;have aF:=aX be;have cx:=aL be;have al:=ay (H.aj aF) aF cx;clear be aF cx;go_wp2_with(fail);refine(nc g A n c T k deep W t al.1 bW.1 bW.2.1 ad).mono ?_;exact BL
theorem fx{a b:List UInt8}(h:cb a T k=true)(hn:strOf a≠strOf b):cb b T k=false:=by
 unfold cb at h ⊢
 cases hT:T[k]? with
 | none=>rfl
 | some t=>
  rw[hT] at h;simp only[Ng,Ny] at h;simp only[Bool.and_eq_false_iff,decide_eq_false_iff_not];exact .inr λO=>hn (h.2.symm.trans O)
def Fg:Value->Nat
 | .slice _ n _=>n
 | _=>0
structure Gz(T:List Tok)(k:Nat)(r:List Tok):Prop where
 pos:0<r.length
 jo:r.length<=6
 mu:∀j,j<r.length->cb [109,117,116,101,120] T (k+3*j)=true
 nm:∀j t,r[j]?=some t->T[k+3*j+1]?=some t/\t.kind=1
 co:∀j,j<r.length->cb [44] T (k+3*j+2)=decide (j+1<r.length)
 cl:∀j,j+1=r.length->cb [41] T (k+3*j+2)=true
def kH(t:Tok):ByteArray×Bool:=(strOf t.text,true)
theorem zE(s:ByteArray)(b:Bool):(cC (s,b)).rep w P [s,b]:=by
 unfold cC;simp only[D.rep,D.aQ]
 first|exact⟨_,rfl,_,rfl,rfl⟩|(simp;done)|skip
theorem Fr.cut{M:Nat->Prop}(h:Fr (λb=>M b\/w.heap.size<=b) w ab):Fr M w ab:=⟨h.os,h.tape,h.output,h.size,λk aj hn=>h.block k aj λhm=>hm.elim hn λh=>ad⟩
namespace Da
theorem Bw(h:p:=by
 have hd:(cC (kH t)).rep Y (lD (λb=>w.heap.size<=b) Y (.slice D j l)) (#[.string (strOf t.text),true]:Array Value).toList:=zE _ _;obtain⟨dS,cF⟩:=aJ hd bp;clear co bz bM I bp s Z b0 a8 bw hd;go_wp2_with(at_builtin;refine bJ EB rfl (.tmp 33) (.tmp 35) rfl bB.2.2.1 (d:=cC (kH t)) (cs:=#[.string (strOf t.text),.bool true]) dS.o rfl rfl rfl ad ad ad ?_;intro cu c3 cV cd g2 cA c6;have b7:=ay cd g2 c6;clear cd g2 cA c6);have x:bI cV g A n c T (k+1+3*j+2) deep:=bB.1.on b7.2.1 λb O=>by have:=(cF.o b O).1;omega
 have f:Fr (λb=>b=g) w cV:=Fr.cut (Fr.trans bB.2.1 (b7.2.1.mono λb O=>.inr (cF.o b O).1));have q:Gr (λb=>w.heap.size<=b) w.heap.size 160 2 cV cu (j+1) c3 (((r.take (j+1)).map kH).map cC):=by
  exact Bc
 exact HX
 ):p:=h
theorem BS(h:p:=by
 have dj:((j:Int) == 6)=false:=by simp;omega
 clear bh hF hG ht bp;go_wp2_with(fail);refine(show Calls prog 40 #[.pointer (some ⟨g,0,none⟩),.string ⟨#[109,117,116,101,120]⟩] wr _ from cL [109,117,116,101,120] g A n c T (k+1+3*j) deep wr a3.1 true (bW.2.2.mu j ad) (λ_=>ad)).mono ?_;rintro e b6 ⟨rfl,bh,a2⟩;have bN:=ah (show bI b6 g A n c T (k+1+3*j+1) deep from by simpa using bh) a2;have cI:=a2.size;clear bh a2 c8 cq y;go_upto_region 9 with(fail);generalize hX:World.alloc _ _=X;have bt:=aX hX;have bE:=aL hX;have aP:=ay (bN.1.aj bt) bt bE;have G:=bE.lt;clear hX bt bE;go_wp2_with(fail);refine(nc g A n c T (k+1+3*j+1) deep X t aP.1 (bW.2.2.nm j t a3.2.2.2.1).1 (bW.2.2.nm j t a3.2.2.2.1).2 ad).mono ?_;rintro e cO ⟨rfl,bh,z⟩;have bX:=aP.2.2.on z ad;have P:=ay (show bI cO g A n c T (k+1+3*j+2) deep from bh) z bX;have dk:=z.size;obtain⟨b0,a8,bw⟩:=bX.two;clear bh z bX;go_upto_region 10 with(fail);generalize co:World.setCell _ _ _=Y;have bz:=cP co;have bM:an Y b6 160 #[.string (strOf t.text),true]:=co▸P.2.2.aK 0 _;have cX:=bz.size;have I:Fr (λb=>b=g\/b=b6.heap.size) wr Y:=Fr.trans (Fr.trans (Fr.trans (bN.2.mono λ_ h=>.inl h) (aP.2.1.mono λ_ h=>h.elim)) (P.2.1.mono λ_ h=>.inl h)) (bz.mono λ_ h=>.inr h);exact Bv
 ):p:=h
theorem Bq(h:p:=by
 go_loopw [3] (λU wr=>∃(j:Nat) (D:NH) (l:Nat),U=.slice D j l/\j<N/\bI wr g A n c T (k+1+3*j) deep/\Fr (λb=>b=g) w wr/\Gr (λb=>w.heap.size<=b) w.heap.size 160 2 wr D j l (((r.take j).map kH).map cC)) (λU _=>N - Fg U)
 case atStart=>exact⟨0,none,0,rfl,u,b1.1,b1.2,Gr.nil _ _ _ _ _⟩
 case round=>
  exact BR
 ):p:=h
end Da
open Da in
theorem xE(g:Nat)(A:NH)(n c:Nat)(T:List Tok)(k deep:Nat)(r:List Tok)(w:World)(h:bI w g A n c T k deep)(ac:cb [40] T k=true)(az:cb [41] T (k+1)=false)(bx:Gz T (k+1) r)(aj:k+1+3*r.length<n) :
  Calls prog 44 #[.pointer (some ⟨g,0,none⟩)] w λe ab=>∃D m l,e=.returned (.slice D m l)/\m<=l/\bI ab g A n c T (k+1+3*r.length) deep/\Fr (λb=>b=g) w ab/\Sl ab (fresh w ab) D m ((r.map kH).map cC):=by
 have H:=ae h;have cv:=h.blk.lt;have u:=bx.pos;have L:=bx.jo;have bW:=ay ac az bx;clear h ac az bx;go_enter func44,ntmps44;exact Bp
def kD(t:Tok):dq:=.mx ⟨strOf t.text,none⟩
theorem zr(t:Tok):(eP (kD t)).rep w P [true,.string (strOf t.text),(),(0:Int),(0:Int),NF,()]:=by
 have h:=y0 (w:=w) (P:=P) (r:=⟨strOf t.text,none⟩) (IA:=none) (i:=0) (ic:=0) (Sl.bY _) (MU _);exact h
namespace Db
theorem Bw(h:p:=by
 have hd:(eP (kD t)).rep Y (lD (λb=>w.heap.size<=b) Y (.slice D j l)) (#[true,.string (strOf t.text),(),(0:Int),(0:Int),NF,()]:Array Value).toList:=zr t;obtain⟨dS,cF⟩:=aJ hd bp;clear co bz bM I bp s Z b0 a8 bw hd;go_wp2_with(at_builtin;refine bJ tj rfl (.tmp 23) (.tmp 25) rfl bB.2.2.1 (d:=eP (kD t)) (cs:=#[.bool true,.string (strOf t.text),.slice none 0 0,.int .i64 0,.int .i64 0,.string ⟨#[]⟩,.slice none 0 0]) dS.o rfl rfl rfl ad ad ad ?_;intro cu c3 cV cd g2 cA c6;have b7:=ay cd g2 c6;clear cd g2 cA c6);have x:bI cV g A n c T (k+1+3*j+2) deep:=bB.1.on b7.2.1 λb O=>by have:=(cF.o b O).1;omega
 have f:Fr (λb=>b=g) w cV:=Fr.cut (Fr.trans bB.2.1 (b7.2.1.mono λb O=>.inr (cF.o b O).1));have q:Gr (λb=>w.heap.size<=b) w.heap.size 203 7 cV cu (j+1) c3 (((r.take (j+1)).map kD).map eP):=by
  exact Bc
 exact HX
 ):p:=h
theorem BS(h:p:=by
 have bY:cb [91] T (k+1+3*j+1+1)=false:=by
  by_cases fq:j+1<N
  .exact fx (by rw[bW.2.2.co j ad];exact decide_eq_true ad) (by decide)
  .exact fx (bW.2.2.cl j ad) (by decide)
 have aY:=ae bY;clear bh hF hG ht bp bY;go_upto_region 7 with(fail);generalize hX:World.alloc _ _=X;have bt:=aX hX;have bE:=aL hX;have aP:=ay (a3.1.aj bt) bt bE;have G:=bE.lt;clear hX bt bE c8 cq y;go_wp2_with(fail);refine(show Calls prog 40 #[.pointer (some ⟨g,0,none⟩),.string ⟨#[109,117,116,101,120]⟩] X _ from cL [109,117,116,101,120] g A n c T (k+1+3*j) deep X aP.1 true (bW.2.2.mu j ad) (λ_=>ad)).mono ?_;rintro e b6 ⟨rfl,bh,a2⟩;have bN:=ay (show bI b6 g A n c T (k+1+3*j+1) deep from by simpa using bh) a2 (aP.2.2.on a2 ad);have cI:=a2.size;clear bh a2;go_wp2_with(fail);refine(xF g A n c T (k+1+3*j+1) deep b6 t bN.1 (bW.2.2.nm j t a3.2.2.2.1).1 (bW.2.2.nm j t a3.2.2.2.1).2 aY.o ad).mono ?_;rintro e cO ⟨rfl,bh,z⟩;have bX:=bN.2.2.on z ad;have P:=ay (show bI cO g A n c T (k+1+3*j+2) deep from bh) z bX;have dk:=z.size;obtain⟨b0,a8,bw⟩:=bX.two;clear bh z bX;go_upto_region 10 with(fail);generalize co:World.setCell _ _ _=Y;obtain⟨bM,bz⟩:=kY 0 [true,.string (strOf t.text),(),(0:Int),(0:Int),NF,()] P.2.2 co;have bM:an Y wr 203 #[true,.string (strOf t.text),(),(0:Int),(0:Int),NF,()]:=bM;have cX:=bz.size;have I:Fr (λb=>b=g\/b=wr.heap.size) wr Y:=Fr.trans (Fr.trans (Fr.trans (aP.2.1.mono λ_ h=>h.elim) (bN.2.1.mono λ_ h=>.inl h)) (P.2.1.mono λ_ h=>.inl h)) (bz.mono λ_ h=>.inr h);exact Bv
 ):p:=h
theorem Bq(h:p:=by
 go_loopw [3] (λU wr=>∃(j:Nat) (D:NH) (l:Nat),U=.slice D j l/\j<N/\bI wr g A n c T (k+1+3*j) deep/\Fr (λb=>b=g) w wr/\Gr (λb=>w.heap.size<=b) w.heap.size 203 7 wr D j l (((r.take j).map kD).map eP)) (λU _=>N - Fg U)
 case atStart=>exact⟨0,none,0,rfl,u,b1.1,b1.2,Gr.nil _ _ _ _ _⟩
 case round=>
  exact BR
 ):p:=h
end Db
open Db in
theorem FH(g:Nat)(A:NH)(n c:Nat)(T:List Tok)(k deep:Nat)(r:List Tok)(w:World)(h:bI w g A n c T k deep)(ac:cb [40] T k=true)(az:cb [41] T (k+1)=false)(bx:Gz T (k+1) r)(aj:k+1+3*r.length<n) :
  Calls prog 104 #[.pointer (some ⟨g,0,none⟩)] w λe ab=>∃D m l,e=.returned (.slice D m l)/\m<=l/\bI ab g A n c T (k+1+3*r.length) deep/\Fr (λb=>b=g) w ab/\Sl ab (fresh w ab) D m ((r.map kD).map eP):=by
 have H:=ae h;have cv:=h.blk.lt;have u:=bx.pos;have L:=bx.jo;have bW:=ay ac az bx;clear h ac az bx;go_enter func104,ntmps104;exact Bp
def zn(T:List Tok)(k:Nat)(r:List Tok):Prop:=cb [40] T k=true/\((r=[]/\cb [41] T (k+1)=true)\/(cb [41] T (k+1)=false/\Gz T (k+1) r))
def eR(k:Nat)(r:List Tok):Nat:=if r.length=0 then k+2 else k+1+3*r.length
theorem FG(g:Nat)(A:NH)(n c:Nat)(T:List Tok)(k deep:Nat)(r:List Tok)(w:World)(h:bI w g A n c T k deep)(bx:zn T k r)(aj:eR k r<n) :
  Calls prog 104 #[.pointer (some ⟨g,0,none⟩)] w λe ab=>∃D m l,e=.returned (.slice D m l)/\m<=l/\bI ab g A n c T (eR k r) deep/\Fr (λb=>b=g) w ab/\Sl ab (fresh w ab) D m ((r.map kD).map eP):=by
 obtain⟨h0,bx|bx⟩:=bx
 .obtain⟨rfl,ac⟩:=bx;refine(Hj g A n c T k deep w h h0 ac aj).mono ?_;exact AV
 .have hp:r.length≠0:=by have:=bx.2.pos;omega
  have he:eR k r=k+1+3*r.length:=by unfold eR;rw[if_neg hp]
  rw[he] at aj ⊢;exact FH g A n c T k deep r w h h0 bx.1 bx.2 aj
theorem xD(g:Nat)(A:NH)(n c:Nat)(T:List Tok)(k deep:Nat)(r:List Tok)(w:World)(h:bI w g A n c T k deep)(bx:zn T k r)(aj:eR k r<n) :
  Calls prog 44 #[.pointer (some ⟨g,0,none⟩)] w λe ab=>∃D m l,e=.returned (.slice D m l)/\m<=l/\bI ab g A n c T (eR k r) deep/\Fr (λb=>b=g) w ab/\Sl ab (fresh w ab) D m ((r.map kH).map cC):=by
 obtain⟨h0,bx|bx⟩:=bx
 .obtain⟨rfl,ac⟩:=bx;refine(z2 g A n c T k deep w h h0 ac aj).mono ?_;exact AV
 .have hp:r.length≠0:=by have:=bx.2.pos;omega
  have he:eR k r=k+1+3*r.length:=by unfold eR;rw[if_neg hp]
  rw[he] at aj ⊢;exact xE g A n c T k deep r w h h0 bx.1 bx.2 aj
def Fo(T:List Tok):Nat->Nat->Option (List Tok)
 | 0,_=>none
 | f+1,k=>match T[k+1]? with
  | none=>none
  | some t=>
   if t.kind=1 then
    if cb [109,117,116,101,120] T k then
     if cb [44] T (k+2) then (Fo T f (k+3)).map (t::·) else if cb [41] T (k+2) then some [t] else none
    else none
   else none
def xn(T:List Tok)(k:Nat):Option (List Tok):=if cb [40] T k then (if cb [41] T (k+1) then some [] else Fo T 6 (k+1)) else none
theorem Fp:∀(f k:Nat) (r:List Tok),f<=6->Fo T f k=some r->Gz T k r/\r.length<=f:=by
 intro f
 induction f with
 | zero=>intro k r _ h;cases h
 | succ f aq=>
  intro k r J h;simp only[Fo] at h;split at h
  .cases h
  .rename_i t ht;split at h
   .rename_i bv;split at h
    .rename_i hm;split at h
     .rename_i hc
      cases ba:Fo T f (k+3) with
      | none=>rw[ba] at h;cases h
      | some l=>
       rw[ba] at h;simp only[Option.map_some] at h;injection h with h;subst h;obtain⟨hl,hn⟩:=aq (k+3) l ad ba;have hp:=hl.pos;refine⟨⟨by simp,by simp;omega,?_,?_,?_,?_⟩,by simp;omega⟩
       .intro j bi
        cases j with
        | zero=>exact hm
        | succ j=>rw[show k+3*(j+1)=k+3+3*j by omega];exact hl.mu j (by simpa using bi)
       .intro j m i
        cases j with
        | zero=>injection i with i;subst i;exact⟨ht,bv⟩
        | succ j=>rw[show k+3*(j+1)=k+3+3*j by omega];exact hl.nm j m (by simpa using i)
       .intro j bi
        cases j with
        | zero=>rw[show k+3*0+2=k+2 by omega,hc];simp;omega
        | succ j=>rw[show k+3*(j+1)+2=k+3+3*j+2 by omega,hl.co j (by simpa using bi)];simp
       .intro j bi
        cases j with
        | zero=>simp only[Nh] at bi;omega
        | succ j=>rw[show k+3*(j+1)+2=k+3+3*j+2 by omega];exact hl.cl j (by simpa using bi)
     .rename_i hc;split at h
      .rename_i aV;injection h with h;subst h;refine⟨⟨by simp,by simp,?_,?_,?_,?_⟩,by simp⟩
       .intro j bi;have:j=0:=by simp at bi;omega
        subst this;exact hm
       .intro j m i
        cases j with
        | zero=>injection i with i;subst i;exact⟨ht,bv⟩
        | succ j=>cases i
       .intro j bi;have:j=0:=by simp at bi;omega
        subst this;simpa using hc
       .intro j bi;have:j=0:=by simp at bi;omega
        subst this;exact aV
      .cases h
    .cases h
   .cases h
theorem vi{r:List Tok}(h:xn T k=some r):zn T k r:=by
 unfold xn at h;split at h
 .rename_i h0;split at h
  .rename_i ac;injection h with h;exact⟨h0,.inl ⟨h.symm,ac⟩⟩
  .rename_i ac;exact⟨h0,.inr ⟨by simpa using ac,(Fp 6 _ _ (MU _) h).1⟩⟩
 .cases h
theorem yS(k:Nat)(r:List Tok):k+2<=eR k r:=by
 unfold eR;split<;>omega
def sQ(k:Int)(n m:ByteArray):List Value:=[.int .i64 k,.string n,.int .i64 0,.int .i64 0,.string ⟨#[]⟩,.slice none 0 0,.string m,.slice none 0 0,.slice none 0 0,.slice none 0 0,.slice none 0 0]
def IQ(n:ByteArray)(D:NH)(m l:Nat):List Value:=[.int .i64 4,.string n,.int .i64 0,.int .i64 0,.string ⟨#[]⟩,.slice none 0 0,.string ⟨#[]⟩,.slice none 0 0,.slice D m l,.slice none 0 0,.slice none 0 0]
theorem JK{n:ByteArray}{D:NH}{m l:Nat}{aY:List dq}(h:Sl w P D m (aY.map eP))(hm:m<=l):(bk (.call true n aY)).rep w P (IQ n D m l):=eI mF k5 h hm (Sl.bY _) (MU _) (Sl.bY _) (MU _)
theorem vU(u:Bool)(n:ByteArray):(bk (.lock u ⟨n,none⟩)).rep w P (sQ (if u then 6 else 5) ⟨#[]⟩ n):=
 eI mF (jQ.2 ⟨none,0,0,rfl,MU _,Sl.bY _⟩) (Sl.bY _) (MU _) (Sl.bY _) (MU _) (Sl.bY _) (MU _)
structure Ax(w ab:World)(g:Nat)(A:NH)(n c:Nat)(T:List Tok)(k deep:Nat)(cs:List Value):Prop where
 ps:bI ab g A n c T k deep
 fr:Fr (λb=>b=g) w ab
 r:an ab w.heap.size 175 #[.int .i64 0,.string ⟨#[]⟩,.int .i64 0,.int .i64 0,.string ⟨#[]⟩,.slice none 0 0,.string ⟨#[]⟩,.slice none 0 0,.slice none 0 0,.slice none 0 0,.slice none 0 0]
 s:an ab (w.heap.size+1) 175 cs.toArray
theorem Ax.on{w ab aW:World}{g:Nat}{A:NH}{n c:Nat}{T:List Tok}{k F deep:Nat}{cs:List Value}(h:Ax w ab g A n c T k deep cs)(aR:g<w.heap.size)(hp:bI aW g A n c T F deep)(J:Fr (λb=>b=g) ab aW):Ax w aW g A n c T F deep cs:=
 ⟨hp,h.fr.trans J,h.r.on J ad,h.s.on J ad⟩
theorem Ax.set{aW:World}{g:Nat}{A:NH}{n c:Nat}{deep:Nat}{cs f:List Value}(h:Ax w ab g A n c T k deep cs)(aR:g<w.heap.size)(J:Fr (λb=>b=w.heap.size+1) ab aW)(hs:an aW (w.heap.size+1) 175 f.toArray):Ax w aW g A n c T k deep f:=
 ⟨h.ps.on J λb O=>ad,h.fr.eW (J.below h.fr.size λk aj hm=>ad),h.r.on J ad,hs⟩
namespace Dc
theorem wE(h:p:=by
 refine(show Calls prog 40 #[.pointer (some ⟨g,0,none⟩),.string ⟨#[103,111]⟩] aO _ from cL [103,111] g A n c T k deep aO H1.ps true (by first|exact bW.1|exact fx bW.1 (by decide)) (λh=>by first|omega|cases h)).mono ?_;rintro e aW ⟨rfl,bh,hF⟩;have b1:=ae (H1.on cv (show bI aW g A n c T (k+1) deep from by simpa using bh) hF);clear bh hF;clear H1;obtain⟨d0,aQ,aS⟩:=b1.s.two;clear d0 aQ aS;go_wp2_with(fail);refine(nc g A n c T (k+1) deep aW t b1.ps bW.2.1 bW.2.2.1 ad).mono ?_;rintro e i ⟨rfl,bh,hF⟩;have HA:=ae (b1.on cv bh hF);clear bh hF b1;obtain⟨d0,aQ,aS⟩:=HA.s.two;simp only[sQ] at d0;go_upto_region 15 with(fail);generalize hX:World.setCell _ _ _=X;have aP:NJ (Ax w X g A n c T (k+1+1) deep (sQ 4 (strOf t.text) ⟨#[]⟩)):=by
  refine ae (HA.set cv (by rw[<-hX];exact((Fr.refl (λb=>b=w.heap.size+1) i).setCell (.inl rfl) _).setCell (.inl rfl) _) ?_);rw[<-hX];exact(HA.s.aK 0 (.int .i64 4)).aK 1 (.string (strOf t.text))
 clear hX d0 aQ aS HA;go_wp2_with(fail);refine(FG g A n c T (k+1+1) deep r X aP.ps bW.2.2.2.1 (show eR (k+2) r<n by omega)).mono ?_;rintro e wb ⟨D,m,l,rfl,hm,bh,hF,bx⟩;have cM:w+1<X.heap.size:=aP.s.lt;have bL:=ay (aP.on cv bh hF) hm (bx.mono (cU:=λb=>w.heap.size+1<b/\b<wb.heap.size) λb O=>⟨by have:=O.1;omega,O.2⟩);clear bh hF aP hm bx cM;obtain⟨d0,aQ,aS⟩:=bL.1.s.two;simp only[sQ] at d0;go_upto_region 16 with(fail);generalize hX:World.setCell _ _ _=Y;have ar:=cP hX;have bB:NJ (Ax w Y g A n c T (eR (k+2) r) deep (IQ (strOf t.text) D m l)/\m<=l/\Sl Y (λb=>w.heap.size+1<b/\b<Y.heap.size) D m ((r.map kD).map eP)):=by
  refine ae ⟨bL.1.set cv ar ?_,bL.2.1,?_⟩
  .rw[<-hX];exact bL.1.s.aK 8 (.slice D m l)
  .exact(bL.2.2.ak λb O=>ar.block b O.2 (ax O.1)).mono λb O=>⟨O.1,by have:=O.2;have:=ar.size;omega⟩
 clear hX d0 aQ aS bL ar;go_wp2_with(fail);refine(show Calls prog 78 #[.pointer (some ⟨g,0,none⟩),.string ⟨#[59]⟩] Y _ from ko [59] g A n c T (eR (k+2) r) deep Y bB.1.ps bW.2.2.2.2 aj).mono ?_;rintro e cg ⟨rfl,bh,hF⟩;have bj:=ay (bB.1.on cv bh hF) bB.2.1 ((bB.2.2.ak λb O=>hF.block b O.2 (ax O.1)).mono (cU:=λb=>w.heap.size+1<b/\b<cg.heap.size) λb O=>⟨O.1,by have:=O.2;have:=hF.size;omega⟩);clear bh hF bB;obtain⟨d0,aQ,aS⟩:=bj.1.s.two;obtain⟨bq,a1,a5⟩:=bj.1.r.two;simp only[IQ] at d0;go_wp2_with(fail);generalize hX:World.setCell _ _ _=V;obtain⟨b4,aC,f⟩:=eg (M:=λb=>b=g) (w:=w) (IQ (strOf t.text) D m l) (by rfl) bj.1.r bj.1.fr (MU _) hX;have cc:=br (bj.1.ps.on f λb O=>ad) aC bj.2.1 ((bj.2.2.ak λb O=>f.block b O.2 (ax O.1)).mono (cU:=fresh w V) λb O=>⟨by have:=O.1;omega,by have:=O.2;have:=f.size;omega⟩);clear hX aC f bq a1 a5 d0 aQ aS;obtain⟨bq,a1,a5⟩:=b4.two;simp only[IQ] at bq;refine NB (v:=.agg (IQ (strOf t.text) D m l).toArray) (by simp[results,Tryz.results79,go_sem,bq,IQ]) rfl ?_;exact⟨D,m,l,rfl,cc.2.2.1,cc.2.2.2,cc.1,cc.2.1⟩
 ):p:=h
end Dc
open Dc in
theorem KS(g:Nat)(A:NH)(n c:Nat)(T:List Tok)(k deep:Nat)(w:World)(t:Tok)(h:bI w g A n c T k deep)(ac:cb [103,111] T k=true)(ht:T[k+1]?=some t)(bv:t.kind=1)(r:List Tok)(az:zn T (k+2) r)(aU:cb [59] T (eR (k+2) r)=true)(aj:eR (k+2) r+1<n) :
  Calls prog 79 #[.pointer (some ⟨g,0,none⟩)] w λe ab=>∃D m l,e=.returned (.agg (IQ (strOf t.text) D m l).toArray)/\m<=l/\Sl ab (fresh w ab) D m ((r.map kD).map eP)/\bI ab g A n c T (eR (k+2) r+1) deep/\Fr (λb=>b=g) w ab:=by
 have H:=ae h;have bW:=cQ ac ht bv az aU;have cv:=h.blk.lt;have he:k+4<=eR (k+2) r:=by unfold eR;split<;>omega
 clear h ac ht bv az aU;exact wD
namespace Dd
theorem BC(h:p:=by
 obtain⟨b4,aC,f⟩:=eg (M:=λb=>b=g) (w:=w) (sQ 5 ⟨#[]⟩ (strOf t.text)) (by rfl) bj.r bj.fr (MU _) hX;have cc:=ah (bj.ps.on f λb O=>ad) aC;clear hX aC f bq a1 a5 d0 aQ aS;obtain⟨bq,a1,a5⟩:=b4.two;simp only[sQ] at bq;refine NB (v:=.agg (sQ 5 ⟨#[]⟩ (strOf t.text)).toArray) (by simp[results,Tryz.results79,go_sem,bq,sQ]) rfl ?_;exact⟨rfl,cc.1,cc.2⟩
 ):p:=h
theorem BJ(h:p:=by
 refine(show Calls prog 40 #[.pointer (some ⟨g,0,none⟩),.string ⟨#[108,111,99,107]⟩] aW _ from cL [108,111,99,107] g A n c T k deep aW b1.ps true (by first|exact bW.1|exact fx bW.1 (by decide)) (λh=>by first|omega|cases h)).mono ?_;rintro e b6 ⟨rfl,bh,hF⟩;have bN:=ae (b1.on cv (show bI b6 g A n c T (k+1) deep from by simpa using bh) hF);clear bh hF;clear b1;go_wp2_with(fail);refine(xF g A n c T (k+1) deep b6 t bN.ps bW.2.1 bW.2.2.1 bW.2.2.2.1 ad).mono ?_;rintro e i ⟨rfl,bh,hF⟩;have HA:=ae (bN.on cv bh hF);clear bh hF bN;obtain⟨d0,aQ,aS⟩:=HA.s.two;simp only[sQ] at d0;go_upto_region 19 with(fail);generalize hX:World.setCell _ _ _=X;have aP:NJ (Ax w X g A n c T (k+1+1) deep (sQ 5 ⟨#[]⟩ (strOf t.text))):=by
  refine ae (HA.set cv (by rw[<-hX];exact(((Fr.refl (λb=>b=w.heap.size+1) i).setCell (.inl rfl) _).setCell (.inl rfl) _).setCell (.inl rfl) _) ?_);rw[<-hX];exact((HA.s.aK 0 (.int .i64 5)).aK 6 (.string (strOf t.text))).aK 7 (.slice none 0 0)
 exact BB
 ):p:=h
theorem wE(h:p:=by
 exact BI
 ):p:=h
end Dd
open Dd in
theorem Hk(g:Nat)(A:NH)(n c:Nat)(T:List Tok)(k deep:Nat)(w:World)(t:Tok)(h:bI w g A n c T k deep)(ac:cb [108,111,99,107] T k=true)(ht:T[k+1]?=some t)(bv:t.kind=1)(bY:cb [91] T (k+2)=false)(az:cb [59] T (k+2)=true)(aj:k+3<n) :
  Calls prog 79 #[.pointer (some ⟨g,0,none⟩)] w λe ab=>e=.returned (.agg (sQ 5 ⟨#[]⟩ (strOf t.text)).toArray)/\bI ab g A n c T (k+3) deep/\Fr (λb=>b=g) w ab:=by
 have H:=ae h;have bW:=cQ ac ht bv bY az;have cv:=h.blk.lt;clear h ac ht bv bY az;exact wD
namespace De
theorem BC(h:p:=by
 obtain⟨b4,aC,f⟩:=eg (M:=λb=>b=g) (w:=w) (sQ 6 ⟨#[]⟩ (strOf t.text)) (by rfl) bj.r bj.fr (MU _) hX;have cc:=ah (bj.ps.on f λb O=>ad) aC;clear hX aC f bq a1 a5 d0 aQ aS;obtain⟨bq,a1,a5⟩:=b4.two;simp only[sQ] at bq;refine NB (v:=.agg (sQ 6 ⟨#[]⟩ (strOf t.text)).toArray) (by simp[results,Tryz.results79,go_sem,bq,sQ]) rfl ?_;exact⟨rfl,cc.1,cc.2⟩
 ):p:=h
theorem BJ(h:p:=by
 refine(show Calls prog 40 #[.pointer (some ⟨g,0,none⟩),.string ⟨#[108,111,99,107]⟩] aW _ from cL [108,111,99,107] g A n c T k deep aW b1.ps false (by first|exact bW.1|exact fx bW.1 (by decide)) (λh=>by first|omega|cases h)).mono ?_;rintro e b6 ⟨rfl,bh,hF⟩;have bN:=ae (b1.on cv (show bI b6 g A n c T (k) deep from by simpa using bh) hF);clear bh hF;clear b1;go_wp2_with(fail);refine(show Calls prog 40 #[.pointer (some ⟨g,0,none⟩),.string ⟨#[117,110,108,111,99,107]⟩] b6 _ from cL [117,110,108,111,99,107] g A n c T k deep b6 bN.ps true (by first|exact bW.1|exact fx bW.1 (by decide)) (λh=>by first|omega|cases h)).mono ?_;rintro e cO ⟨rfl,bh,hF⟩;have P:=ae (bN.on cv (show bI cO g A n c T (k+1) deep from by simpa using bh) hF);clear bh hF;clear bN;go_wp2_with(fail);refine(xF g A n c T (k+1) deep cO t P.ps bW.2.1 bW.2.2.1 bW.2.2.2.1 ad).mono ?_;rintro e i ⟨rfl,bh,hF⟩;have HA:=ae (P.on cv bh hF);clear bh hF P;obtain⟨d0,aQ,aS⟩:=HA.s.two;simp only[sQ] at d0;go_upto_region 22 with(fail);generalize hX:World.setCell _ _ _=X;have aP:NJ (Ax w X g A n c T (k+1+1) deep (sQ 6 ⟨#[]⟩ (strOf t.text))):=by
  refine ae (HA.set cv (by rw[<-hX];exact(((Fr.refl (λb=>b=w.heap.size+1) i).setCell (.inl rfl) _).setCell (.inl rfl) _).setCell (.inl rfl) _) ?_);rw[<-hX];exact((HA.s.aK 0 (.int .i64 6)).aK 6 (.string (strOf t.text))).aK 7 (.slice none 0 0)
 exact BB
 ):p:=h
theorem wE(h:p:=by
 exact BI
 ):p:=h
end De
open De in
theorem z3(g:Nat)(A:NH)(n c:Nat)(T:List Tok)(k deep:Nat)(w:World)(t:Tok)(h:bI w g A n c T k deep)(ac:cb [117,110,108,111,99,107] T k=true)(ht:T[k+1]?=some t)(bv:t.kind=1)(bY:cb [91] T (k+2)=false)(az:cb [59] T (k+2)=true)(aj:k+3<n) :
  Calls prog 79 #[.pointer (some ⟨g,0,none⟩)] w λe ab=>e=.returned (.agg (sQ 6 ⟨#[]⟩ (strOf t.text)).toArray)/\bI ab g A n c T (k+3) deep/\Fr (λb=>b=g) w ab:=by
 have H:=ae h;have bW:=cQ ac ht bv bY az;have cv:=h.blk.lt;clear h ac ht bv bY az;exact wD
def ug(T:List Tok)(k:Nat):Option (aB×Nat):=match T[k+1]? with
 | none=>none
 | some t=>
  if t.kind=1 then
   if cb [103,111] T k then (xn T (k+2)).bind λr=>if cb [59] T (eR (k+2) r) && decide (eR (k+2) r+1<T.length) then some (.call true (strOf t.text) (r.map kD),eR (k+2) r+1) else none
   else if cb [108,111,99,107] T k && !cb [91] T (k+2) && cb [59] T (k+2) && decide (k+3<T.length) then some (.lock false ⟨strOf t.text,none⟩,k+3)
   else if cb [117,110,108,111,99,107] T k && !cb [91] T (k+2) && cb [59] T (k+2) && decide (k+3<T.length) then some (.lock true ⟨strOf t.text,none⟩,k+3)
   else none
  else none
theorem za{s:ByteArray}(h:((xn T (k+2)).bind λr=>if cb [59] T (eR (k+2) r) && decide (eR (k+2) r+1<T.length) then some (aB.call true s (r.map kD),eR (k+2) r+1) else none)=some (st,F)):
  ∃r,zn T (k+2) r/\cb [59] T (eR (k+2) r)=true/\eR (k+2) r+1<T.length/\st=.call true s (r.map kD)/\F=eR (k+2) r+1:=by
 cases hl:xn T (k+2) with
 | none=>rw[hl] at h;cases h
 | some r=>
  rw[hl] at h;simp only[Option.bind_some] at h;split at h
  .rename_i hc;simp only[Ng,Ny] at hc;injection h with h;injection h with ac az;exact⟨r,vi hl,hc.1,hc.2,ac.symm,az.symm⟩
  .cases h
theorem zb(h:ug T k=some (st,F)):k+3<=F:=by
 unfold ug at h;split at h
 .cases h
 .split at h
  .split at h
   .obtain⟨r,_,_,_,_,h⟩:=za h;have:=yS (k+2) r;omega
   .split at h
    .injection h with h;injection h with _ h;omega
    .split at h
     .injection h with h;injection h with _ h;omega
     .cases h
  .cases h
theorem Hl(g:Nat)(A:NH)(n c:Nat)(T:List Tok)(k deep:Nat)(w:World)(st:aB)(F:Nat)(h:bI w g A n c T k deep)(hs:ug T k=some (st,F)) :
  Calls prog 79 #[.pointer (some ⟨g,0,none⟩)] w λe ab=>∃(q:Int) (a b:ByteArray) (D:NH) (m l:Nat),e=.returned (.agg #[q,a,(0:Int),(0:Int),NF,(),.string b,(),.slice D m l,(),()])/\(bk st).rep ab (fresh w ab) [q,a,(0:Int),(0:Int),NF,(),.string b,(),.slice D m l,(),()]/\bI ab g A n c T F deep/\Fr (λb=>b=g) w ab:=by
 have hl:=h.uj.1;unfold ug at hs;split at hs
 .cases hs
 .rename_i t ht;split at hs
  .rename_i bv;split at hs
   .rename_i hc;obtain⟨r,bx,aU,aj,rfl,rfl⟩:=za hs;refine(KS g A n c T k deep w t h hc ht bv r bx aU ad).mono ?_;rintro e ab ⟨D,m,l,rfl,hm,hS,bh,hF⟩;exact⟨4,_,_,D,m,l,rfl,JK hS hm,bh,hF⟩
   .split at hs
    .rename_i hc;simp only[Ng,Ny,Bool.not_eq_true'] at hc;injection hs with hs;injection hs with ac az;subst ac az;refine(Hk g A n c T k deep w t h hc.1.1.1 ht bv hc.1.1.2 hc.1.2 ad).mono ?_;rintro e ab ⟨rfl,bh,hF⟩;exact⟨5,_,_,none,0,0,rfl,vU false _,bh,hF⟩
    .split at hs
     .rename_i hc;simp only[Ng,Ny,Bool.not_eq_true'] at hc;injection hs with hs;injection hs with ac az;subst ac az;refine(z3 g A n c T k deep w t h hc.1.1.1 ht bv hc.1.1.2 hc.1.2 ad).mono ?_;rintro e ab ⟨rfl,bh,hF⟩;exact⟨6,_,_,none,0,0,rfl,vU true _,bh,hF⟩
     .cases hs
  .cases hs
def j2(T:List Tok):Nat->Nat->Option (List aB×Nat)
 | 0,_=>none
 | f+1,k=>if cb [125] T k then (if k+1<T.length then some ([],k+1) else none) else (ug T k).bind λp=>(j2 T f p.2).map λq=>(p.1::q.1,q.2)
theorem xU{f:Nat}{ls:List aB}(h:j2 T f k=some (ls,F)):(cb [125] T k=true/\k+1<T.length/\ls=[]/\F=k+1)\/(cb [125] T k=false/\∃(st:aB) (bR f2:Nat) (u:List aB),ug T k=some (st,bR)/\j2 T f2 bR=some (u,F)/\ls=st::u):=by
 cases f with
 | zero=>cases h
 | succ f=>
  simp only[j2] at h;split at h
  .rename_i ac;split at h
   .rename_i az;injection h with h;injection h with aV aU;exact .inl ⟨ac,az,aV.symm,aU.symm⟩
   .cases h
  .rename_i ac
   cases hs:ug T k with
   | none=>rw[hs] at h;cases h
   | some p=>
    rw[hs] at h;obtain⟨st,bR⟩:=p;simp only[Option.bind_some] at h
    cases ba:j2 T f bR with
    | none=>rw[ba] at h;cases h
    | some q=>
     rw[ba] at h;simp only[Option.map_some] at h;injection h with h;injection h with aV aU;subst aU;exact .inr ⟨by simpa using ac,st,bR,f,q.1,rfl,ba,aV.symm⟩
theorem FI(g:Nat)(A:NH)(n c:Nat)(T:List Tok)(k deep:Nat)(w:World)(f:Nat)(ls:List aB)(F:Nat)(h:bI w g A n c T k deep)(hd:deep<24)(ac:cb [123] T k=true)(aj:k+1<n)(hs:j2 T f (k+1)=some (ls,F)) :
  Calls prog 45 #[.pointer (some ⟨g,0,none⟩)] w λe ab=>∃(bL:NH) (on bF:Nat),e=.returned (.slice bL on bF)/\on<=bF/\Sl ab (fresh w ab) bL on (ls.map bk)/\bI ab g A n c T F deep/\Fr (λb=>b=g) w ab:=by
 have H:=ae h;have bW:=ah ac hs;have cv:=h.blk.lt;have L:=h.jo;have ap:((deep:Int) == 24)=false:=by simp;omega
 clear h ac hs;go_enter func45,ntmps45;go_wp2_with(fail);refine(show Calls prog 38 #[.pointer (some ⟨g,0,none⟩),.string ⟨#[123]⟩] w _ from l2 [123] g A n c T k deep w H.o).mono ?_;rintro e aO ⟨rfl,aF⟩;rw[bW.1];have H1:=ah (H.aj aF) (aF.mono (M':=λb=>b=g) λ_ h=>h.elim);clear aF;obtain⟨a0,ak,af⟩:=H1.1.blk.two;go_wp2_with(fail);refine(show Calls prog 78 #[.pointer (some ⟨g,0,none⟩),.string ⟨#[123]⟩] aO _ from ko [123] g A n c T k deep aO H1.1 bW.1 aj).mono ?_;rintro e aW ⟨rfl,bh,hF⟩;have b1:=ah bh (H1.2.trans hF);clear bh hF a0 ak af H1;obtain⟨a0,ak,af⟩:=b1.1.blk.two;go_upto_region 5 with(fail);generalize hX:World.setCell _ _ _=X;have J:=cP hX;have aT:an X g 104 #[.slice A n c,.int .i64 ((k+1:Nat):Int),(0:Int),(0:Int),(0:Int),.int .i64 ((deep+1:Nat):Int)]:=hX▸b1.1.blk.aK 5 (.int .i64 ((deep:Int)+1));have aP:=ah (show bI X g A n c T (k+1) (deep+1) from ⟨aT,b1.1.uj.fA (J.below (ax b1.1.blk.lt) λb O hm=>ad),aj,L⟩) (b1.2.trans J);clear hX J aT a0 ak af b1;go_wp2_with(fail);go_loopw [3] (λU wr=>∃(bL:NH) (on bF j bs:Nat) (acc rest:List aB),U=.slice bL on bF/\on<=j/\bI wr g A n c T j (deep+1)/\Fr (λb=>b=g) w wr/\Gr (λb=>w.heap.size<=b) w.heap.size 175 11 wr bL on bF (acc.map bk)/\j2 T bs j=some (rest,F)/\acc++rest=ls) (λU _=>4001 - Fg U)
 case atStart=>exact⟨none,0,0,k+1,f,[],ls,rfl,ad,aP.1,aP.2,Gr.nil _ _ _ _ _,bW.2,rfl⟩
 case round=>
  obtain⟨bL,on,bF,j,bs,acc,rest,rfl,c2,bh,hF,hG,cf,y⟩:=hrel;clear aP;have K:=bh.lt;have a3:=br bh hF hG y;obtain⟨a0,ak,af⟩:=bh.blk.two;have mL:=hF.size;clear bh hF hG y;rcases xU cf with⟨hc,fq,i,E⟩|⟨hc,st,bR,f2,u,cn,bO,cS⟩
  .have bY:=br hc fq i E;clear hc fq i E cf;go_wp2_with(fail);refine(show Calls prog 40 #[.pointer (some ⟨g,0,none⟩),.string ⟨#[125]⟩] wr _ from cL [125] g A n c T j (deep+1) wr a3.1 true bY.1 (λ_=>by have:=bY.2.1;have:=a3.1.uj.1;omega)).mono ?_;rintro e b6 ⟨rfl,bh,hF⟩;have bN:=ah (show bI b6 g A n c T (j+1) (deep+1) from by simpa using bh) hF;clear bh hF a0 ak af;obtain⟨a0,ak,af⟩:=bN.1.blk.two;go_upto_region 9 with(fail);generalize hX:World.setCell _ _ _=X;have J:=cP hX;have aT:an X g 104 #[.slice A n c,.int .i64 ((j+1:Nat):Int),(0:Int),(0:Int),(0:Int),deep]:=hX▸bN.1.blk.aK 5 (.int .i64 (deep:Int));have aA:Fr (λb=>b=g) wr X:=bN.2.trans J;have aP:=ay (show bI X g A n c T (j+1) deep from ⟨aT,bN.1.uj.fA (J.below (ax bN.1.blk.lt) λb O hm=>ad),bN.1.lt,L⟩) (a3.2.1.trans aA) (a3.2.2.1.cD aA λb O _=>⟨ad,ad⟩);clear hX J aT aA a0 ak af bN;go_wp2_with(fail);go_ret;refine⟨bL,on,bF,rfl,aP.2.2.cap.1,?_,by rw[bY.2.2.2];exact aP.1,aP.2.1⟩;have cB:=a3.2.2.2;rw[bY.2.2.1,Nt] at cB;rw[<-cB];exact aP.2.2.sl (λb O hp=>⟨hp,O⟩) λb O hp=>⟨hp,O⟩
  .have bY:=br hc cn bO cS;have cK:=zb cn;clear hc cn bO cS cf;go_wp2_with(fail);refine(show Calls prog 40 #[.pointer (some ⟨g,0,none⟩),.string ⟨#[125]⟩] wr _ from cL [125] g A n c T j (deep+1) wr a3.1 false bY.1 (λh=>by cases h)).mono ?_;rintro e b6 ⟨rfl,bh,hF⟩;have bN:=ah (show bI b6 g A n c T j (deep+1) from by simpa using bh) hF;clear bh hF a0 ak af;go_wp2_with(fail);refine(Hl g A n c T j (deep+1) b6 st bR bN.1 bY.2.1).mono ?_;rintro e cO ⟨q,a,b,a6,m,l,rfl,bD,bh,hF⟩;have aA:Fr (λb=>b=g) wr cO:=bN.2.trans hF;have au:=a3.2.2.1.cD aA λb O _=>⟨ad,ad⟩
   have hd:=D.aM (cU:=lD (λb=>w.heap.size<=b) cO (.slice bL on bF)) (λb O=>⟨by have:=O.1;have:=bN.2.size;omega,O.2,λh=>by have:=(a3.2.2.1.lt h).2;have:=O.1;have:=bN.2.size;omega⟩) _ _ bD;have b3:w<=cO.heap.size:=by have:=aA.size;omega
   have P:=br bh (a3.2.1.trans aA) au hd;clear bh hF aA au hd bD bN;go_wp2_with(at_builtin;refine bJ pr rfl (.tmp 34) (.tmp 37) rfl P.2.2.1 P.2.2.2 rfl rfl rfl ad ad b3 ?_;intro aV gP cV ao aA ci b8;have b7:=ah ao aA;clear ao aA ci b8);have bp:∀b,(Value.slice bL on bF).ownBlock=some b->w.heap.size<=b:=λb O=>(P.2.2.1.lt O).1;have a7:Fr (λb=>b=g) w cV:=P.2.1.eW (b7.2.below b3 λk aj h=>by have:=bp k h;omega);have dX:=ay (P.1.on b7.2 λb O=>by have:=bp b O;omega) a7 b7.1;clear bp a7 b7 P;go_roundw
   case rel=>exact⟨aV,on+1,gP,bR,f2,acc++[st],u,rfl,ad,dX.1,dX.2.1,by rw[Na];exact dX.2.2,bY.2.2.1,by have:=a3.2.2.2;rw[bY.2.2.2] at this;rw[<-this];simp⟩
   case measure=>simp only[Fg];omega
def jd(u:aw):ai->List Int->ai
 | s,[]=>s
 | s,t::l=>jd u (bT u s t).1 l
def j5(u:aw):ai->List Int->List Int
 | _,[]=>[]
 | s,t::l=>(if (bT u s t).2 then [t] else [])++j5 u (bT u s t).1 l
section
variable {u:aw} {D:Nat}
theorem vK:∀(l m:List Int) (s:ai),jd u s (l++m)=jd u (jd u s l) m
 | [],_,_=>rfl
 | t::l,m,s=>vK l m _
theorem v8:∀(l m:List Int) (s:ai),j5 u s (l++m)=j5 u s l++j5 u (jd u s l) m
 | [],_,_=>rfl
 | t::l,m,s=>by
  rw[Nj,j5,j5,jd,v8 l m,Ni]
theorem JR(l:List Int):∀s:ai,(j5 u s l).length<=l.length:=by
 induction l with
 | nil=>intro s;exact MU _
 | cons t l aq=>
  intro s;have:=aq (bT u s t).1;rw[j5,M3,Nh];split<;>simp<;>omega
theorem ri(hU:cT u):∀(l:List Int) (D:Nat) (s:ai),aP u D s->aP u (D+l.length) (jd u s l)
 | [],_,_,h=>h
 | t::l,D,s,h=>by
  have:=ri hU l (D+1) _ (vV (t:=t) hU h);rw[Nh,show D+(l.length+1)=D+1+l.length by omega];exact this
end
structure kP(u:aw)(s:ai)(N:Nat)(w:World)(p:UV)(q:SV):Prop where
 hU:yj u
 hS:aP u N s
 hN:N<=100000
 u:p.Ok w u
 s:q.Ok w s
theorem kP.on{u:aw}{s:ai}{N:Nat}{w ab:World}{p:UV}{q:SV}(h:kP u s N w p q)(he:Ext w ab):kP u s N ab p q:=⟨h.hU,h.hS,h.hN,h.u.on he,h.s.on he⟩
theorem kP.len{u:aw}{N:Nat}{p:UV}{q:SV}(h:kP u s N w p q):s.threads.length=q.hn/\1<=q.hn/\q.hn<=32:=by
 have ac:=h.s.at_.h.1;have az:=h.hS.Ag;simp only[M5] at ac;omega
theorem xH{u:aw}(h:∀j:Nat,j<s.threads.length->zC u s (j:Int)=false):oa u s=true:=by
 unfold oa;rw[List.all_eq_true];intro j bi;rw[h j (List.mem_range.1 bi)];rfl
theorem vy{u:aw}{j:Nat}(bi:j<s.threads.length)(h:zC u s (j:Int)=true):oa u s=false:=by
 unfold oa;rw[List.all_eq_false];exact⟨j,List.mem_range.2 bi,by simp[h]⟩
theorem sp{u:aw}{s:ai}{t:Int}{f:ao}{x:aA}(ht:dF s t=some f)(hx:dC u s t=some x) :
  (x.op≠4->gr u s t=none)/\(x.op=4->(bH u s f x.place).2≠0->gr u s t=none)/\
  (x.op=4->(bH u s f x.place).2=0->free u.af s.table (bH u s f x.place).1 t=true->gr u s t=none)/\
  (x.op=4->(bH u s f x.place).2=0->free u.af s.table (bH u s f x.place).1 t=false->gr u s t=some ((bH u s f x.place).1,(kF s.table (bH u s f x.place).1).owner - 1)):=by
 unfold gr;rw[ht,hx];refine⟨λh=>?_,λhI hK=>?_,λhI hK hX=>?_,λhI hK hX=>?_⟩
 .simp[h]
 .simp[hI,hK]
 .simp[hI,hK,hX]
 .simp[hI,hK,hX]
theorem waiting_any(_:Bool)(u:aw)(s:ai)(t:Int)(N:Nat)(w:World)(p:UV)(q:SV)(h:kP u s N w p q) :
  Calls prog 24 #[.agg (p.val u),.agg (q.val s),.int .i64 t] w λe w'=>e=.returned (.tuple #[.int .i64 (((gr u s t).map Prod.fst).getD 0),.int .i64 (((gr u s t).map Prod.snd).getD 0),.bool (gr u s t).isSome])/\Ext w w':=by
 obtain⟨GA,gn,gc,MA,mn,mc,PA,pn,pc⟩:=p;obtain⟨SA,it,i0,TA,tn,tc,HA,hn,hc⟩:=q;have i1:=ae h;clear h;dsimp only[UV.val,SV.val];go_enter func24,ntmps24;go_upto_region 1 with(fail);generalize i2:World.alloc _ _=W;have i3:Ext w W:=by rw[<-i2];exact((Fr.refl _ _).alloc _).alloc _
 have i4:an W w.heap.size 26 #[.slice GA gn gc,.slice MA mn mc,.slice PA pn pc,.int .i64 u.main]:=by rw[<-i2];exact(an.new _ _ _).alloc _
 have i5:an W (w.heap.size+1) 30 #[.slice SA it i0,.slice TA tn tc,.slice HA hn hc,.int .i64 s.fault]:=by rw[<-i2];exact an.gF _ _ _ (by simp)
 have i6:=ae (And.intro i3 (And.intro i4 (And.intro i5 (i1.o.on i3))));obtain⟨a0,i7,i8⟩:=i4.two;obtain⟨i9,jp,kg⟩:=i5.two;clear i2 i3 i4 i5
 cases kw:dF s t with
 | none=>
  have lb:=ae (ru (u:=u) kw);have lc:=ae kw;clear kw;go_wp2_with(fail);refine(vj u s t W ⟨GA,gn,gc,MA,mn,mc,PA,pn,pc⟩ ⟨SA,it,i0,TA,tn,tc,HA,hn,hc⟩ i6.o.2.2.2.s lc.o).mono ?_;rintro e le ⟨rfl,lf⟩;have li:=ae (i6.o.1.trans lf);clear a0 i7 i8 i9 jp kg lf;go_wp2_with(fail)
  go_ret3
  exact⟨by rw[lb.o];rfl,li.o.alloc _⟩
 | some f=>
  obtain⟨lk,x,lm,ln⟩:=jJ.of i1.o.hU i1.o.hS i1.o.hN kw;have lo:=ae (sp kw ln);have ls:=ae lm;clear kw ln lm;go_wp2_with(fail);refine(vk u s t f lk x W _ _ ⟨ls.o.sm,ls.o.ht,ls.o.hp,ls.o.hx,ls.o.hF.proc,ls.o.pc.1,ls.o.il,ls.o.kl,i6.o.2.2.2.u,i6.o.2.2.2.s⟩).mono ?_;rintro e le ⟨⟨eo,en,es,EA,em,ec,QA,qm,qc,lw,j,md,KA,mi,kc⟩,rfl,mk,lf⟩;have mp:=ae (And.intro mk lf);clear a0 i7 i8 i9 jp kg mk lf;dsimp only[IV.val];go_upto_region 2 with(fail);generalize hV:World.alloc _ _=V;have ms:Ext le V:=by rw[<-hV];exact(Fr.refl _ _).alloc _
  have mt:an V le.heap.size 42 #[.int .i64 x.op,.int .i64 x.target,.bool x.du,.int .i64 eo,.int .i64 en,.string es,.slice EA em ec,.bool x.place.param,.int .i64 x.place.index,.slice QA qm qc,.slice lw j md,.slice KA mi kc]:=by rw[<-hV];exact an.new _ _ _
  have mu:Ext W V:=mp.o.2.trans ms;have mx:=i6.o.2.2.1.lt;have nb:=mp.o.2.size;have nd:=ae mu;have ne:=ae (mp.o.1.on ms).place;have nf:=ae mt;obtain⟨a0,i7,i8⟩:=(i6.o.2.1.aj mu).two;obtain⟨i9,jp,kg⟩:=(i6.o.2.2.1.aj mu).two;obtain⟨d0,ng,nm⟩:=mt.two;clear hV mu ms mt mp;by_cases no:x.op=4
  case neg=>
   have q1:(x.op != 4)=true:=by simpa using no
   have lb:=ae (lo.o.1 no);clear no lo;go_wp2_with(fail)
   go_ret3
   exact⟨by rw[lb.o];rfl,i6.o.1.trans nd.o⟩
  have q1:(x.op != 4)=false:=by simpa using no
  have nx:cK (bg u) lk.locals lk.az x.place:=by
   obtain⟨n0,_,n1⟩:=ls.o.ok;rcases n1 with⟨hI,_⟩|⟨hI,_⟩|⟨_,_,hI⟩|⟨hI,_⟩|⟨hI,_⟩|⟨hI,_⟩<;>first|exact hI|omega
  have n2:=ls.o.hS.Ag;obtain⟨n3,n4,n5,_⟩:=ls.o.th;have n6:t<=1000:=ad;have ol:=jN (s:=s) (nl:=lk.locals) (nk:=f.az.length) ls.o.hU.ok ls.o.hF (Int.le_refl _) (by rw[ls.o.hF.tJ ls.o.hp];exact nx);have os:=ae (And.intro ol.2 (And.intro nx (ls.o.hS.tok i1.o.hN)));have oz:=ae (And.intro (lo.o.2.1 no) (And.intro (lo.o.2.2.1 no) (lo.o.2.2.2 no)));clear no lo nx ol n2 n3 n4 n5;go_wp2_with(fail);refine(qF u s t f x.place N V _ _ QA qm qc ⟨ls.o.hU.ok,ls.o.hS,ls.o.sm,ls.o.ht,⟨lk,ls.o.hp,os.o.2.1⟩,i6.o.2.2.2.u.on nd.o,i6.o.2.2.2.s.on nd.o,ne.o⟩).mono ?_;rintro e o0 ⟨rfl,o1⟩;rw[iO ls.o.ht];have o3:Ext V o0:=Fr.of o1;have o4:=ae (And.intro os.o.1 oz.o);generalize bH u s f x.place=R at *;obtain⟨o6,z⟩:=R;have o7:=(i6.o.1.trans nd.o).trans o3;have o8:=ae (And.intro o7 (And.intro ((i6.o.2.2.2.on nd.o).on o3) (And.intro ((i6.o.2.1.aj nd.o).aj o3) ((i6.o.2.2.1.aj nd.o).aj o3))));clear a0 i7 i8 i9 jp kg d0 ng nm o1 oz;obtain⟨a0,i7,i8⟩:=o8.o.2.2.1.two;obtain⟨i9,jp,kg⟩:=o8.o.2.2.2.two;clear o3 o7;by_cases pb:z=0
  case neg=>
   have nq:(z != 0)=true:=by simpa using pb
   have lb:=ae (o4.o.2.1 pb);clear pb o4;go_wp2_with(fail)
   go_ret3
   exact⟨by rw[lb.o];rfl,o8.o.1⟩
  have nq:(z != 0)=false:=by simpa using pb
  have pi:=o4.o.1 pb;simp only at pi;have pl:=mm ls.o.hU.ok;have pm:o6<=5000:=ad;have pp:=pi.1;have ps:=ae pi;have pu:=ae (And.intro (o4.o.2.2.1 pb) (o4.o.2.2.2 pb));clear pb pi pl o4;go_wp2_with(fail);refine(E6 MA TA mn mc tn tc u.af s.table o6 t o0 o8.o.2.1.u.at_.m.tO ls.o.hU.ok.Gq o8.o.2.1.s.at_.t.holds os.o.2.2 ad ad).mono ?_;rintro e p0 ⟨rfl,p3⟩;have p4:Ext o0 p0:=Fr.of p3;have p6:=ae (And.intro (o8.o.1.trans p4) (o8.o.2.1.on p4));have p7:=o8.o.2.2.2.aj p4;clear a0 i7 i8 i9 jp kg p3 p4;obtain⟨i9,jp,kg⟩:=p7.two;clear p7
  cases p8:free u.af s.table o6 t with
  | true=>
   have lb:=ae (pu.o.1 p8);clear p8 pu;go_wp2_with(fail)
   go_ret3
   exact⟨by rw[lb.o];rfl,p6.o.1⟩
  | false=>
   have hF:=pu.o.2 p8;obtain⟨k,rfl⟩:=Int.eq_ofNat_of_zero_le pp;have qr:k<tn:=by
    have hI:=p6.o.2.s.at_.t.1;have hK:=p6.o.2.hS.table;have hX:=gf u.af;have id:=ps.o;simp only[List.length_map] at hI;omega
   obtain⟨q5,to,hd,rfl,q7,hx,c0,c1⟩:=p6.o.2.s.at_.t.holds.hold qr;have rc:=(p6.o.2.hS.holds k hd hx).owner;have n2:=p6.o.2.hS.Ag;have rd:IntKind.i64.wrap (hd.owner - 1)=hd.owner - 1:=IntWalk.i64_in _ ad;have re:(kF s.table (k:Int)).owner=hd.owner:=by simp[kF,hx]
   rw[re] at hF;have lb:=ae hF;have rg:=ae (And.intro qr rd);have ro:(k:Int)<(tn:Int):=ad;have rs:(0:Int)<=(k:Int):=ad;clear p8 pu hF rc n2 re hx qr rd;go_upto_region 7 with(fail);refine eJ (λ_=>False) [(0,3),(1,3),(2,0),(3,3),(4,3),(5,3),(6,0),(7,3),(8,3),(9,3),(10,3)] ?_
   iterate 2 refine pf ?_
   refine ph ?_
   iterate 3 refine pf ?_
   refine ph ?_
   iterate 4 refine pf ?_
   refine aG ?_;go_wp2_with(fail)
   go_ret3
   exact⟨by rw[lb.o];simp[rg.o.2],p6.o.1.drew⟩
theorem sv(u:aw)(s:ai)(t:Int)(N:Nat)(w:World)(p:UV)(q:SV)(h:kP u s N w p q) :
  Calls prog 28 #[.agg (p.val u),.agg (q.val s),.int .i64 t] w λe w'=>
   ∃(x:aA) (v:IV),e=.returned (.tuple #[.agg (v.val x),.bool (dC u s t).isSome])/\Ext w w':=by
 cases kw:dF s t with
 | none=>
  rw[oI kw]
  exact(vj u s t w p q h.s kw).mono λe w' h=>⟨⟨0,0,false,none,⟨false,0,none⟩,[],[]⟩,⟨0,0,⟨#[]⟩,none,0,0,none,0,0,none,0,0,none,0,0⟩,h.1,h.2⟩
 | some f=>
  obtain⟨lk,x,lm,ln⟩:=jJ.of h.hU h.hS h.hN kw;rw[ln];exact(vk u s t f lk x w p q ⟨lm.sm,lm.ht,lm.hp,lm.hx,lm.hF.proc,lm.pc.1,lm.il,lm.kl,h.u,h.s⟩).mono λe w' ⟨v,h,_,he⟩=>⟨_,_,h,he⟩
theorem enabled_any(_:Bool)(u:aw)(s:ai)(t:Int)(N:Nat)(w:World)(p:UV)(q:SV)(h:kP u s N w p q) :
  Calls prog 12 #[.agg (p.val u),.agg (q.val s),.int .i64 t] w λe w'=>e=.returned (.bool (zC u s t))/\Ext w w':=by
 obtain⟨GA,gn,gc,MA,mn,mc,PA,pn,pc⟩:=p;obtain⟨SA,it,i0,TA,tn,tc,HA,hn,hc⟩:=q;have i1:=ae h;have rt:=ae λ(w:World) (h:kP u s N w ⟨GA,gn,gc,MA,mn,mc,PA,pn,pc⟩ ⟨SA,it,i0,TA,tn,tc,HA,hn,hc⟩)=>And.intro (sv u s t N w _ _ h) (waiting_any false u s t N w _ _ h);clear h;dsimp only[UV.val,SV.val] at *;go_enter func12,ntmps12;go_upto_region 1 with(fail);generalize i2:World.alloc _ _=W;have i3:Ext w W:=by rw[<-i2];exact((Fr.refl _ _).alloc _).alloc _
 have i4:an W w.heap.size 26 #[.slice GA gn gc,.slice MA mn mc,.slice PA pn pc,.int .i64 u.main]:=by rw[<-i2];exact(an.new _ _ _).alloc _
 have i5:an W (w.heap.size+1) 30 #[.slice SA it i0,.slice TA tn tc,.slice HA hn hc,.int .i64 s.fault]:=by rw[<-i2];exact an.gF _ _ _ (by simp)
 have i6:=ae (And.intro i3 (And.intro i4 (And.intro i5 (i1.o.on i3))));obtain⟨a0,i7,i8⟩:=i4.two;obtain⟨i9,jp,kg⟩:=i5.two;clear i2 i3 i4 i5;go_wp2_with(fail);refine(rt.o W i6.o.2.2.2).1.mono ?_;rintro e le ⟨x,⟨eo,en,es,EA,em,ec,QA,qm,qc,lw,j,md,KA,mi,kc⟩,rfl,lf⟩;dsimp only[IV.val];generalize n1:(dC u s t).isSome=i;have rx:=ae n1;have li:=ae lf;clear a0 i7 i8 i9 jp kg lf n1;go_upto_region 2 with(fail);generalize hV:World.alloc _ _=V;have mu:Ext W V:=by rw[<-hV];exact li.o.alloc _
 have r1:=ae (And.intro (i6.o.1.trans mu) (i6.o.2.2.2.on mu));obtain⟨a0,i7,i8⟩:=(i6.o.2.1.aj mu).two;obtain⟨i9,jp,kg⟩:=(i6.o.2.2.1.aj mu).two;clear hV mu;go_wp2_with(fail);refine(rt.o V r1.o.2).2.mono ?_;rintro e o0 ⟨rfl,o3⟩;have HE2:=ae (r1.o.1.trans o3);have sg:zC u s t=(i && (gr u s t).isNone):=by rw[<-rx.o];rfl
 have sh:(gr u s t).isNone=!(gr u s t).isSome:=by cases gr u s t<;>rfl
 rw[sh] at sg;generalize gr u s t=r at *;have sl:=ae sg;clear a0 i7 i8 i9 jp kg o3 sg sh;cases i<;>cases r<;>(go_wp2_with(fail);go_ret;exact⟨by rw[sl.o];rfl,HE2.o⟩)
namespace D8
theorem Cb(h:p:=by
 go_loopw [9] (λb5 wr=>∃k:Nat,b5=.int .i64 k/\k<=hn/\Ext W wr/\∀j:Nat,j<k->zC u s (j:Int)=false) (λb5 _=>hn - (intOf b5).toNat)
 case atStart=>exact⟨0,rfl,ad,NC,λj bi=>ad⟩
 case round=>
  obtain⟨k,rfl,aj,aF,P⟩:=hrel;have bk:=ah aF P;obtain⟨a0,ak,af⟩:=(al.2.1.aj aF).two;obtain⟨bs,am,aK⟩:=(al.2.2.1.aj aF).two;clear aF P;by_cases ap:k<hn
  .have cU:(k:Int)<(hn:Int):=ad;go_wp2_with(fail);refine(enabled_any false u s k N wr ⟨GA,gn,gc,MA,mn,mc,PA,pn,pc⟩ ⟨bI,bU,bx,TA,tn,tc,HA,hn,hc⟩ (al.2.2.2.on bk.1)).mono ?_;rintro e aO ⟨rfl,aM⟩;have bw:=ae (bk.1.trans aM);clear a0 ak af bs am aK aM
   cases hen:zC u s (k:Int) with
   | true=>
    have bZ:=ae (vy (ax cG.2) hen);clear hen;go_wp2_with(fail);go_ret
    exact⟨by rw[bZ.o];rfl,al.1.trans bw.o⟩
   | false=>
    have cW:=ae hen;clear hen;go_wp2_with(fail);go_roundw
    case rel=>exact⟨k+1,by go_num,ad,bw.o,λj bi=>by
     rcases Nat.lt_or_ge j k with ac|ac
     .exact bk.2 j ac
     .rw[show j=k by omega];exact cW.o⟩
    case measure=>exact aH
  .have cU:¬(k:Int)<(hn:Int):=ad;have bZ:=ae (xH (u:=u) (s:=s) λj bi=>bk.2 j (ax cG.2));go_wp2_with(fail);go_ret;exact⟨by rw[bZ.o];rfl,al.1.trans bk.1⟩
 ):p:=h
theorem fP(h:p:=by
 obtain⟨hlen,c5,z⟩:=h.len;have cG:=ah h hlen;clear h hlen;simp only at c5 z;dsimp only[UV.val,SV.val];go_enter func27,ntmps27;exact Ca
 ):p:=h
end D8
open D8 in
theorem Jv(u:aw)(s:ai)(N:Nat)(w:World)(p:UV)(q:SV)(h:kP u s N w p q) :
  Calls prog 27 #[.agg (p.val u),.agg (q.val s)] w λe ab=>e=.returned (.bool (oa u s))/\Ext w ab:=by
 exact fO
theorem tE{u:aw}(h:k<s.threads.length):((bq u s).take (k+1)).flatMap bQ=((bq u s).take k).flatMap bQ++[.int .i64 (iT (gr u s (k:Int)))]:=by
 have hx:(bq u s)[k]?=some (iT (gr u s (k:Int))):=by
  unfold bq;rw[List.getElem?_map,List.getElem?_range h];rfl
 rw[aU hx,dT]
namespace D9
theorem Cb(h:p:=by
 go_loopw [5,13] (λv b5 wr=>∃k:Nat,b5=.int .i64 k/\k<=hn/\wr.ownsRow W 3 1 v k (((bq u s).take k).flatMap bQ)/\Below W W wr) (λ_ b5 _=>hn - (intOf b5).toNat)
 case atStart=>exact⟨0,rfl,ad,World.ownsRow_nil _ _ _ _,Below.refl _ _⟩
 case round=>
  obtain⟨k,rfl,aj,aB,O⟩:=hrel;have aF:Ext W wr:=Fr.of O;have b3:=O.size;obtain⟨a0,ak,af⟩:=(al.2.1.aj aF).two;obtain⟨bs,am,aK⟩:=(al.2.2.1.aj aF).two;have bk:=ay aF aB O;clear aF aB O;by_cases ap:k<hn
  .have cU:(k:Int)<(hn:Int):=ad;have bH:=ae (tE (u:=u) (s:=s) (k:=k) (ax cG.2));go_wp2_with(fail);refine(waiting_any false u s k N wr ⟨GA,gn,gc,MA,mn,mc,PA,pn,pc⟩ ⟨bI,bU,bx,TA,tn,tc,HA,hn,hc⟩ (al.2.2.2.on bk.1)).mono ?_;rintro e aO ⟨rfl,aM⟩;have b2:Below wr wr aO:=Fr.ext aM;have aA:=bV bk.2.1 b2;have bn:Below W W aO:=bk.2.2.trans (b2.mono b3);have f:=bn.size;generalize gr u s (k:Int)=r at *;clear a0 ak af bs am aK aM b2;cases r
   all_goals
    go_wp2_with(at_builtin;refine b9 _ cF (by rfl) (.tmp 26) (.tmp 28) (by rfl) W _ _ _ _ (by rfl) aA (by rfl) (by rfl) (hL _ _) ad ad f ?_;intro v1 aW S aY bC);go_roundw
    case rel=>exact⟨k+1,by go_num,ad,by rw[bH.o];exact S,dy bn aA aY (MU _) f⟩
    case measure=>exact aH
  .have cU:¬(k:Int)<(hn:Int):=ad;obtain rfl:k=hn:=ad;have hl:=cG.2;skip
   have dz:(bq u s).take k=bq u s:=Nb (by rw[fb];omega);obtain⟨cR,c1,rfl,c4,_,_,_⟩:=bG bk.2.1;have bZ:=ay dz c4 hl;clear dz c4 hl;go_wp2_with(fail);go_ret;refine⟨cR,c1,rfl,bZ.2.1,?_,al.1.trans bk.1⟩;have:=bk.2.1;rw[bZ.1] at this;exact gH this (gE _) (by rw[fb,bZ.2.2])
 ):p:=h
theorem fP(h:p:=by
 obtain⟨hlen,c5,z⟩:=h.len;have cG:=ah h hlen;clear h hlen;simp only at c5 z;dsimp only[UV.val,SV.val];go_enter func20,ntmps20;exact Ca
 ):p:=h
end D9
open D9 in
theorem tr(u:aw)(s:ai)(N:Nat)(w:World)(p:UV)(q:SV)(h:kP u s N w p q) :
  Calls prog 20 #[.agg (p.val u),.agg (q.val s)] w λe ab=>∃A c,e=.returned (.slice A q.hn c)/\q.hn<=c/\cp (EF bQ) 1 ab ab A q.hn (bq u s)/\Ext w ab:=by
 exact fO
end Go.Proofs.YtnigabjngpnbiabGreat

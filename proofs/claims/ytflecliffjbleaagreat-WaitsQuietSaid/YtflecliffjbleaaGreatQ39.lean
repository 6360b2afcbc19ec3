/- Part 39 of the proof. No condition of its own. -/
import Derived.Test.YtflecliffjbleaaGreatQ36
namespace Go.Proofs.YtflecliffjbleaaGreat
open Go.RowKit Go.Proofs.Tryz
set_option maxRecDepth 1000000
set_option maxHeartbeats 25600000
set_option linter.unusedVariables false
variable{T:List Tok}{F k:Nat}{P:Nat->Prop}{p:Prop}{ac w:World}{st:ax}
theorem e6{a b:List UInt8}(h:bX a T k=true)(hn:strOf a≠strOf b):bX b T k=false:=by
 unfold bX at h ⊢
 cases hT:T[k]? with
 | none=>rfl
 | some t=>
  rw[hT] at h;simp only[Ln,LI] at h;simp only[Bool.and_eq_false_iff,decide_eq_false_iff_not];exact .inr λO=>hn (h.2.symm.trans O)
namespace BZ
theorem Ax(h:p:=by
 refine(show Calls prog 62 #[.pointer (some ⟨g,0,none⟩),.string ⟨#[91]⟩] X _ from cq [91] g A n c T (k+1) deep X aR.1 false bU.2.2 (λh=>by cases h)).mono ?_;rintro e aV ⟨rfl,aY,hF⟩;have bF:=aR.2.2.1.on hF ab;have ca:=aR.2.2.2.on hF ab;have bt:=aL (show bu aV g A n c T (k+1) deep from by simpa using aY) (aR.2.1.trans hF) bF;clear aY hF aR;obtain⟨d0,af,aS⟩:=ca.two;obtain⟨bE,bg,bh⟩:=bF.two;clear ca bF;go_wp2_with(fail);generalize b7:World.setCell _ _ _=Y;obtain⟨bz,bA,bj⟩:=dR (M:=λb=>b=g) (w:=w) [.string (strOf t.text),.slice none 0 0] (by rfl) bt.2.2 bt.2.1 (Lb _) b7;have bP:=ah (bt.1.on bj λb O=>ab) bA;clear b7 bA bj bE bg bh;obtain⟨bE,bg,bh⟩:=bz.two;refine LK (v:=.agg #[.string (strOf t.text),.slice none 0 0]) (by simp[results,Tryz.results125,go_sem,bE]) rfl ?_;exact⟨rfl,bP.1,bP.2⟩
 ):p:=h
end BZ
open BZ in
theorem wP(g:Nat)(A:LP)(n c:Nat)(T:List Tok)(k deep:Nat)(w:World)(t:Tok)(h:bu w g A n c T k deep)(ht:T[k]?=some t)(br:t.kind=1)(a9:bX [91] T (k+1)=false)(ai:k+1<n) :
  Calls prog 125 #[.pointer (some ⟨g,0,none⟩)] w λe ac=>e=.returned (.agg #[.string (strOf t.text),.slice none 0 0])/\bu ac g A n c T (k+1) deep/\Fr (λb=>b=g) w ac:=by
 have H:=ad h;have bU:=aL ht br a9;have b8:=h.blk.lt;clear h br ht a9;go_enter func125,ntmps125;go_upto_region 1 with(fail);generalize be:World.alloc _ _=W;have aE:=bb be;have cg:=aT be;have aH:=aL (H.aj aE) aE cg;clear be aE cg;go_wp2_with(fail);refine(m4 g A n c T k deep W t aH.1 bU.1 bU.2.1 ai).mono ?_;exact Aw
theorem Fv(g:Nat)(A:LP)(n c:Nat)(T:List Tok)(k deep:Nat)(w:World)(h:bu w g A n c T k deep)(ae:bX [40] T k=true)(aD:bX [41] T (k+1)=true)(ai:k+2<n) :
  Calls prog 124 #[.pointer (some ⟨g,0,none⟩)] w λe ac=>e=.returned (.slice none 0 0)/\bu ac g A n c T (k+2) deep/\Fr (λb=>b=g) w ac:=by
 have H:=ad h;have bU:=ah ae aD;clear h ae aD;go_enter func124,ntmps124;exact Gj
theorem y6(g:Nat)(A:LP)(n c:Nat)(T:List Tok)(k deep:Nat)(w:World)(h:bu w g A n c T k deep)(ae:bX [40] T k=true)(aD:bX [41] T (k+1)=true)(ai:k+2<n) :
  Calls prog 66 #[.pointer (some ⟨g,0,none⟩)] w λe ac=>e=.returned (.slice none 0 0)/\bu ac g A n c T (k+2) deep/\Fr (λb=>b=g) w ac:=by
 have H:=ad h;have bU:=ah ae aD;clear h ae aD;go_enter func66,ntmps66;exact Gj
namespace B0
theorem Ax(h:p:=by
 refine(show Calls prog 62 #[.pointer (some ⟨g,0,none⟩),.string ⟨#[91]⟩] X _ from cq [91] g A n c T (k+1) deep X aR.1 false bU.2.2.1 (λh=>by cases h)).mono ?_;rintro e aV ⟨rfl,aY,hF⟩;have bt:=bG (show bu aV g A n c T (k+1) deep from by simpa using aY) (aR.2.1.trans hF) (aR.2.2.1.on hF ab) (aR.2.2.2.on hF ab);clear aY hF aR;go_wp2_with(fail);refine(show Calls prog 106 #[.pointer (some ⟨g,0,none⟩),.string ⟨#[59]⟩] aV _ from jb [59] g A n c T (k+1) deep aV bt.1 bU.2.2.2 ab).mono ?_;rintro e b3 ⟨rfl,aY,hF⟩;have bF:=bt.2.2.1.on hF ab;have ca:=bt.2.2.2.on hF ab;have ao:=aL aY (bt.2.1.trans hF) bF;clear aY hF bt;obtain⟨d0,af,aS⟩:=ca.two;obtain⟨bE,bg,bh⟩:=bF.two;clear ca bF;go_wp2_with(fail);generalize b7:World.setCell _ _ _=Y;obtain⟨bz,bA,bj⟩:=dR (M:=λb=>b=g) (w:=w) [.string (strOf t.text),.bool false,.int .i64 0] (by rfl) ao.2.2 ao.2.1 (Lb _) b7;have bP:=ah (ao.1.on bj λb O=>ab) bA;clear b7 bA bj bE bg bh;obtain⟨bE,bg,bh⟩:=bz.two;refine LK (v:=.agg #[.string (strOf t.text),.bool false,.int .i64 0]) (by simp[results,Tryz.results64,go_sem,bE]) rfl ?_;exact⟨rfl,bP.1,bP.2⟩
 ):p:=h
end B0
open B0 in
theorem D2(g:Nat)(A:LP)(n c:Nat)(T:List Tok)(k deep:Nat)(w:World)(t:Tok)(h:bu w g A n c T k deep)(ht:T[k]?=some t)(br:t.kind=1)(a9:bX [91] T (k+1)=false)(aD:bX [59] T (k+1)=true)(ai:k+2<n) :
  Calls prog 64 #[.pointer (some ⟨g,0,none⟩),.bool false] w λe ac=>e=.returned (.agg #[.string (strOf t.text),.bool false,.int .i64 0])/\bu ac g A n c T (k+2) deep/\Fr (λb=>b=g) w ac:=by
 have H:=ad h;have bU:=bG ht br a9 aD;have b8:=h.blk.lt;clear h br ht a9 aD;go_enter func64,ntmps64;go_upto_region 1 with(fail);generalize be:World.alloc _ _=W;have aE:=bb be;have cg:=aT be;have aH:=aL (H.aj aE) aE cg;clear be aE cg;go_wp2_with(fail);refine(m4 g A n c T k deep W t aH.1 bU.1 bU.2.1 ab).mono ?_;exact Aw
def DC:Value->Nat
 | .slice _ n _=>n
 | _=>0
structure EN(T:List Tok)(k:Nat)(r:List Tok):Prop where
 pos:0<r.length
 iT:r.length<=6
 mu:∀j,j<r.length->bX [109,117,116,101,120] T (k+3*j)=true
 nm:∀j t,r[j]?=some t->T[k+3*j+1]?=some t/\t.kind=1
 co:∀j,j<r.length->bX [44] T (k+3*j+2)=decide (j+1<r.length)
 cl:∀j,j+1=r.length->bX [41] T (k+3*j+2)=true
def ko(t:Tok):ByteArray×Bool:=(strOf t.text,true)
theorem yF(s:ByteArray)(b:Bool):(ct (s,b)).rep w P [.string s,.bool b]:=by
 unfold ct;simp only[D.rep,D.aJ]
 first|exact⟨_,rfl,_,rfl,rfl⟩|(simp;done)|skip
theorem Fr.cut{M:Nat->Prop}(h:Fr (λb=>M b\/w.heap.size<=b) w ac):Fr M w ac:=⟨h.os,h.tape,h.output,h.size,λk ai hn=>h.block k ai λhm=>hm.elim hn λh=>ab⟩
theorem wO(g:Nat)(A:LP)(n c:Nat)(T:List Tok)(k deep:Nat)(r:List Tok)(w:World)(h:bu w g A n c T k deep)(ae:bX [40] T k=true)(aD:bX [41] T (k+1)=false)(bo:EN T (k+1) r)(ai:k+1+3*r.length<n) :
  Calls prog 66 #[.pointer (some ⟨g,0,none⟩)] w λe ac=>∃D m l,e=.returned (.slice D m l)/\m<=l/\bu ac g A n c T (k+1+3*r.length) deep/\Fr (λb=>b=g) w ac/\Sl ac (fresh w ac) D m ((r.map ko).map ct):=by
 have H:=ad h;have b8:=h.blk.lt;have u:=bo.pos;have M:=bo.iT;have bU:=aL ae aD bo;clear h ae aD bo;go_enter func66,ntmps66;go_wp2_with(fail);refine(show Calls prog 106 #[.pointer (some ⟨g,0,none⟩),.string ⟨#[40]⟩] w _ from jb [40] g A n c T k deep w H.o bU.1 ab).mono ?_;rintro e aP ⟨rfl,aY,hF⟩;have H1:=ah aY hF;clear aY hF;go_wp2_with(fail);refine(show Calls prog 62 #[.pointer (some ⟨g,0,none⟩),.string ⟨#[41]⟩] aP _ from cq [41] g A n c T (k+1) deep aP H1.1 false bU.2.1 (λh=>by cases h)).mono ?_;rintro e aV ⟨rfl,aY,hF⟩;have bt:=ah (show bu aV g A n c T (k+1) deep from by simpa using aY) (H1.2.trans hF);clear aY hF H1;go_wp2_with(fail);generalize hN:r.length=N at *;go_loopw [3] (λR wr=>∃(j:Nat) (D:LP) (l:Nat),R=.slice D j l/\j<N/\bu wr g A n c T (k+1+3*j) deep/\Fr (λb=>b=g) w wr/\Gr (λb=>w.heap.size<=b) w.heap.size 173 2 wr D j l (((r.take j).map ko).map ct)) (λR _=>N - DC R)
 case atStart=>exact⟨0,none,0,rfl,u,bt.1,bt.2,Gr.nil _ _ _ _ _⟩
 case round=>
  obtain⟨j,D,l,rfl,bd,aY,hF,hG⟩:=hrel;obtain⟨t,ht⟩:∃t,r[j]?=some t:=⟨_,List.getElem?_eq_getElem ab⟩
  obtain⟨ch,bW,s⟩:=aY.blk.two;have np:=hF.size;have cm:g<wr.heap.size:=aY.blk.lt;have aG:∀b,(Value.slice D j l).ownBlock=some b->w.heap.size<=b/\b<wr.heap.size:=λb O=>hG.lt O;have aZ:=dq aY hF hG ht aG;have c7:((j:Int) == 6)=false:=by simp;omega
  clear aY hF hG ht aG;go_wp2_with(fail);refine(show Calls prog 62 #[.pointer (some ⟨g,0,none⟩),.string ⟨#[109,117,116,101,120]⟩] wr _ from cq [109,117,116,101,120] g A n c T (k+1+3*j) deep wr aZ.1 true (bU.2.2.mu j ab) (λ_=>ab)).mono ?_;rintro e b3 ⟨rfl,aY,cl⟩;have ao:=ah (show bu b3 g A n c T (k+1+3*j+1) deep from by simpa using aY) cl;have cC:=cl.size;clear aY cl ch bW s;go_upto_region 9 with(fail);generalize hX:World.alloc _ _=X;have bq:=bb hX;have bw:=aT hX;have aR:=aL (ao.1.aj bq) bq bw;have Q:=bw.lt;clear hX bq bw;go_wp2_with(fail);refine(m4 g A n c T (k+1+3*j+1) deep X t aR.1 (bU.2.2.nm j t aZ.2.2.2.1).1 (bU.2.2.nm j t aZ.2.2.2.1).2 ab).mono ?_;rintro e cz ⟨rfl,aY,z⟩;have bK:=aR.2.2.on z ab;have P:=aL (show bu cz g A n c T (k+1+3*j+2) deep from aY) z bK;have cV:=z.size;obtain⟨bs,a7,bS⟩:=bK.two;clear aY z bK;go_upto_region 10 with(fail);generalize b7:World.setCell _ _ _=Y;have bj:=dj b7;have bz:an Y b3.heap.size 173 #[.string (strOf t.text),.bool true]:=b7▸P.2.2.aD 0 _;have cw:=bj.size;have U:Fr (λb=>b=g\/b=b3.heap.size) wr Y:=Fr.trans (Fr.trans (Fr.trans (ao.2.mono λ_ h=>.inl h) (aR.2.1.mono λ_ h=>h.elim)) (P.2.1.mono λ_ h=>.inl h)) (bj.mono λ_ h=>.inr h);have aG:=aZ.2.2.2.2;have i:=aZ.2.2.1.c7 U.size λb O hp=>U.block b O λhm=>by
   exact zN
  have F:bu Y g A n c T (k+1+3*j+2) deep:=P.1.on bj λb O=>ab;have bP:=ah F (And.intro (Fr.mono (M':=λb=>b=g\/w.heap.size<=b) (Fr.trans (aZ.2.1.mono λ_ h=>.inl h) (U.mono λb O=>O)) λb O=>by
   rcases O with O|O
   .exact .inl O
   .exact .inr ab) (And.intro i bz))
  obtain⟨cu,y,ag⟩:=bz.two;have hd:(ct (ko t)).rep Y (lu (λb=>w.heap.size<=b) Y (.slice D j l)) (#[.string (strOf t.text),.bool true]:Array Value).toList:=yF _ _;obtain⟨cJ,ci⟩:=aM hd aG;clear b7 bj bz U aG i F bs a7 bS hd;go_wp2_with(at_builtin;refine bI CZ rfl (.tmp 33) (.tmp 35) rfl bP.2.2.1 (d:=ct (ko t)) (cs:=#[.string (strOf t.text),.bool true]) cJ.o rfl rfl rfl ab ab ab ?_;intro ck c3 b5 b9 g2 cI cL;have bY:=aL b9 g2 cL;clear b9 g2 cI cL);have K:bu b5 g A n c T (k+1+3*j+2) deep:=bP.1.on bY.2.1 λb O=>by have:=(ci.o b O).1;omega
  have x:Fr (λb=>b=g) w b5:=Fr.cut (Fr.trans bP.2.1 (bY.2.1.mono λb O=>.inr (ci.o b O).1));have J:Gr (λb=>w.heap.size<=b) w.heap.size 173 2 b5 ck (j+1) c3 (((r.take (j+1)).map ko).map ct):=by
   exact z6
  exact F9
def kk(t:Tok):dd:=.mx ⟨strOf t.text,none⟩
theorem yu(t:Tok):(eD (kk t)).rep w P [.bool true,.string (strOf t.text),.slice none 0 0,.int .i64 0,.int .i64 0,.string ⟨#[]⟩,.slice none 0 0]:=by
 have h:=ya (w:=w) (P:=P) (r:=⟨strOf t.text,none⟩) (IA:=none) (i:=0) (ic:=0) (Sl.bN _) (Lb _);exact h
theorem D0(g:Nat)(A:LP)(n c:Nat)(T:List Tok)(k deep:Nat)(r:List Tok)(w:World)(h:bu w g A n c T k deep)(ae:bX [40] T k=true)(aD:bX [41] T (k+1)=false)(bo:EN T (k+1) r)(ai:k+1+3*r.length<n) :
  Calls prog 124 #[.pointer (some ⟨g,0,none⟩)] w λe ac=>∃D m l,e=.returned (.slice D m l)/\m<=l/\bu ac g A n c T (k+1+3*r.length) deep/\Fr (λb=>b=g) w ac/\Sl ac (fresh w ac) D m ((r.map kk).map eD):=by
 have H:=ad h;have b8:=h.blk.lt;have u:=bo.pos;have M:=bo.iT;have bU:=aL ae aD bo;clear h ae aD bo;go_enter func124,ntmps124;go_wp2_with(fail);refine(show Calls prog 106 #[.pointer (some ⟨g,0,none⟩),.string ⟨#[40]⟩] w _ from jb [40] g A n c T k deep w H.o bU.1 ab).mono ?_;rintro e aP ⟨rfl,aY,hF⟩;have H1:=ah aY hF;clear aY hF;go_wp2_with(fail);refine(show Calls prog 62 #[.pointer (some ⟨g,0,none⟩),.string ⟨#[41]⟩] aP _ from cq [41] g A n c T (k+1) deep aP H1.1 false bU.2.1 (λh=>by cases h)).mono ?_;rintro e aV ⟨rfl,aY,hF⟩;have bt:=ah (show bu aV g A n c T (k+1) deep from by simpa using aY) (H1.2.trans hF);clear aY hF H1;go_wp2_with(fail);generalize hN:r.length=N at *;go_loopw [3] (λR wr=>∃(j:Nat) (D:LP) (l:Nat),R=.slice D j l/\j<N/\bu wr g A n c T (k+1+3*j) deep/\Fr (λb=>b=g) w wr/\Gr (λb=>w.heap.size<=b) w.heap.size 213 7 wr D j l (((r.take j).map kk).map eD)) (λR _=>N - DC R)
 case atStart=>exact⟨0,none,0,rfl,u,bt.1,bt.2,Gr.nil _ _ _ _ _⟩
 case round=>
  obtain⟨j,D,l,rfl,bd,aY,hF,hG⟩:=hrel;obtain⟨t,ht⟩:∃t,r[j]?=some t:=⟨_,List.getElem?_eq_getElem ab⟩
  obtain⟨ch,bW,s⟩:=aY.blk.two;have np:=hF.size;have cm:g<wr.heap.size:=aY.blk.lt;have aG:∀b,(Value.slice D j l).ownBlock=some b->w.heap.size<=b/\b<wr.heap.size:=λb O=>hG.lt O;have aZ:=dq aY hF hG ht aG;have a9:bX [91] T (k+1+3*j+1+1)=false:=by
   by_cases f0:j+1<N
   .exact e6 (by rw[bU.2.2.co j ab];exact decide_eq_true ab) (by decide)
   .exact e6 (bU.2.2.cl j ab) (by decide)
  have aI:=ad a9;clear aY hF hG ht aG a9;go_upto_region 7 with(fail);generalize hX:World.alloc _ _=X;have bq:=bb hX;have bw:=aT hX;have aR:=aL (aZ.1.aj bq) bq bw;have Q:=bw.lt;clear hX bq bw ch bW s;go_wp2_with(fail);refine(show Calls prog 62 #[.pointer (some ⟨g,0,none⟩),.string ⟨#[109,117,116,101,120]⟩] X _ from cq [109,117,116,101,120] g A n c T (k+1+3*j) deep X aR.1 true (bU.2.2.mu j ab) (λ_=>ab)).mono ?_;rintro e b3 ⟨rfl,aY,cl⟩;have ao:=aL (show bu b3 g A n c T (k+1+3*j+1) deep from by simpa using aY) cl (aR.2.2.on cl ab);have cC:=cl.size;clear aY cl;go_wp2_with(fail);refine(wP g A n c T (k+1+3*j+1) deep b3 t ao.1 (bU.2.2.nm j t aZ.2.2.2.1).1 (bU.2.2.nm j t aZ.2.2.2.1).2 aI.o ab).mono ?_;rintro e cz ⟨rfl,aY,z⟩;have bK:=ao.2.2.on z ab;have P:=aL (show bu cz g A n c T (k+1+3*j+2) deep from aY) z bK;have cV:=z.size;obtain⟨bs,a7,bS⟩:=bK.two;clear aY z bK;go_upto_region 10 with(fail);generalize b7:World.setCell _ _ _=Y;obtain⟨bz,bj⟩:=p9 0 [.bool true,.string (strOf t.text),.slice none 0 0,.int .i64 0,.int .i64 0,.string ⟨#[]⟩,.slice none 0 0] P.2.2 b7;have bz:an Y wr.heap.size 213 #[.bool true,.string (strOf t.text),.slice none 0 0,.int .i64 0,.int .i64 0,.string ⟨#[]⟩,.slice none 0 0]:=bz;have cw:=bj.size;have U:Fr (λb=>b=g\/b=wr.heap.size) wr Y:=Fr.trans (Fr.trans (Fr.trans (aR.2.1.mono λ_ h=>h.elim) (ao.2.1.mono λ_ h=>.inl h)) (P.2.1.mono λ_ h=>.inl h)) (bj.mono λ_ h=>.inr h);have aG:=aZ.2.2.2.2
  have i:=aZ.2.2.1.c7 U.size λb O hp=>U.block b O λhm=>by
   exact zN
  have F:bu Y g A n c T (k+1+3*j+2) deep:=P.1.on bj λb O=>ab;have bP:=ah F (And.intro (Fr.mono (M':=λb=>b=g\/w.heap.size<=b) (Fr.trans (aZ.2.1.mono λ_ h=>.inl h) (U.mono λb O=>O)) λb O=>by
   rcases O with O|O
   .exact .inl O
   .exact .inr ab) (And.intro i bz))
  obtain⟨cu,y,ag⟩:=bz.two;have hd:(eD (kk t)).rep Y (lu (λb=>w.heap.size<=b) Y (.slice D j l)) (#[.bool true,.string (strOf t.text),.slice none 0 0,.int .i64 0,.int .i64 0,.string ⟨#[]⟩,.slice none 0 0]:Array Value).toList:=yu t;obtain⟨cJ,ci⟩:=aM hd aG;clear b7 bj bz U aG i F bs a7 bS hd;go_wp2_with(at_builtin;refine bI sJ rfl (.tmp 23) (.tmp 25) rfl bP.2.2.1 (d:=eD (kk t)) (cs:=#[.bool true,.string (strOf t.text),.slice none 0 0,.int .i64 0,.int .i64 0,.string ⟨#[]⟩,.slice none 0 0]) cJ.o rfl rfl rfl ab ab ab ?_;intro ck c3 b5 b9 g2 cI cL;have bY:=aL b9 g2 cL;clear b9 g2 cI cL);have K:bu b5 g A n c T (k+1+3*j+2) deep:=bP.1.on bY.2.1 λb O=>by have:=(ci.o b O).1;omega
  have x:Fr (λb=>b=g) w b5:=Fr.cut (Fr.trans bP.2.1 (bY.2.1.mono λb O=>.inr (ci.o b O).1));have J:Gr (λb=>w.heap.size<=b) w.heap.size 213 7 b5 ck (j+1) c3 (((r.take (j+1)).map kk).map eD):=by
   exact z6
  exact F9
def yq(T:List Tok)(k:Nat)(r:List Tok):Prop:=bX [40] T k=true/\((r=[]/\bX [41] T (k+1)=true)\/(bX [41] T (k+1)=false/\EN T (k+1) r))
def eF(k:Nat)(r:List Tok):Nat:=if r.length=0 then k+2 else k+1+3*r.length
theorem DZ(g:Nat)(A:LP)(n c:Nat)(T:List Tok)(k deep:Nat)(r:List Tok)(w:World)(h:bu w g A n c T k deep)(bo:yq T k r)(ai:eF k r<n) :
  Calls prog 124 #[.pointer (some ⟨g,0,none⟩)] w λe ac=>∃D m l,e=.returned (.slice D m l)/\m<=l/\bu ac g A n c T (eF k r) deep/\Fr (λb=>b=g) w ac/\Sl ac (fresh w ac) D m ((r.map kk).map eD):=by
 obtain⟨h0,bo|bo⟩:=bo
 .obtain⟨rfl,ae⟩:=bo;refine(Fv g A n c T k deep w h h0 ae ai).mono ?_;exact zR
 .have hp:r.length≠0:=by have:=bo.2.pos;omega
  have he:eF k r=k+1+3*r.length:=by unfold eF;rw[if_neg hp]
  rw[he] at ai ⊢;exact D0 g A n c T k deep r w h h0 bo.1 bo.2 ai
theorem wN(g:Nat)(A:LP)(n c:Nat)(T:List Tok)(k deep:Nat)(r:List Tok)(w:World)(h:bu w g A n c T k deep)(bo:yq T k r)(ai:eF k r<n) :
  Calls prog 66 #[.pointer (some ⟨g,0,none⟩)] w λe ac=>∃D m l,e=.returned (.slice D m l)/\m<=l/\bu ac g A n c T (eF k r) deep/\Fr (λb=>b=g) w ac/\Sl ac (fresh w ac) D m ((r.map ko).map ct):=by
 obtain⟨h0,bo|bo⟩:=bo
 .obtain⟨rfl,ae⟩:=bo;refine(y6 g A n c T k deep w h h0 ae ai).mono ?_;exact zR
 .have hp:r.length≠0:=by have:=bo.2.pos;omega
  have he:eF k r=k+1+3*r.length:=by unfold eF;rw[if_neg hp]
  rw[he] at ai ⊢;exact wO g A n c T k deep r w h h0 bo.1 bo.2 ai
def DJ(T:List Tok):Nat->Nat->Option (List Tok)
 | 0,_=>none
 | f+1,k=>match T[k+1]? with
  | none=>none
  | some t=>
   if t.kind=1 then
    if bX [109,117,116,101,120] T k then
     if bX [44] T (k+2) then (DJ T f (k+3)).map (t::·) else if bX [41] T (k+2) then some [t] else none
    else none
   else none
def wy(T:List Tok)(k:Nat):Option (List Tok):=if bX [40] T k then (if bX [41] T (k+1) then some [] else DJ T 6 (k+1)) else none
theorem DK:∀(f k:Nat) (r:List Tok),f<=6->DJ T f k=some r->EN T k r/\r.length<=f:=by
 intro f
 induction f with
 | zero=>intro k r _ h;cases h
 | succ f ao=>
  intro k r J h;simp only[DJ] at h;split at h
  .cases h
  .rename_i t ht;split at h
   .rename_i br;split at h
    .rename_i hm;split at h
     .rename_i hc
      cases aQ:DJ T f (k+3) with
      | none=>rw[aQ] at h;cases h
      | some l=>
       rw[aQ] at h;simp only[Option.map_some] at h;injection h with h;subst h;obtain⟨hl,hn⟩:=ao (k+3) l ab aQ;have hp:=hl.pos;refine⟨⟨by simp,by simp;omega,?_,?_,?_,?_⟩,by simp;omega⟩
       .intro j bd
        cases j with
        | zero=>exact hm
        | succ j=>rw[show k+3*(j+1)=k+3+3*j by omega];exact hl.mu j (by simpa using bd)
       .intro j m i
        cases j with
        | zero=>injection i with i;subst i;exact⟨ht,br⟩
        | succ j=>rw[show k+3*(j+1)=k+3+3*j by omega];exact hl.nm j m (by simpa using i)
       .intro j bd
        cases j with
        | zero=>rw[show k+3*0+2=k+2 by omega,hc];simp;omega
        | succ j=>rw[show k+3*(j+1)+2=k+3+3*j+2 by omega,hl.co j (by simpa using bd)];simp
       .intro j bd
        cases j with
        | zero=>simp only[Lo] at bd;omega
        | succ j=>rw[show k+3*(j+1)+2=k+3+3*j+2 by omega];exact hl.cl j (by simpa using bd)
     .rename_i hc;split at h
      .rename_i aU;injection h with h;subst h;refine⟨⟨by simp,by simp,?_,?_,?_,?_⟩,by simp⟩
       .intro j bd;have:j=0:=by simp at bd;omega
        subst this;exact hm
       .intro j m i
        cases j with
        | zero=>injection i with i;subst i;exact⟨ht,br⟩
        | succ j=>cases i
       .intro j bd;have:j=0:=by simp at bd;omega
        subst this;simpa using hc
       .intro j bd;have:j=0:=by simp at bd;omega
        subst this;exact aU
      .cases h
    .cases h
   .cases h
theorem uu{r:List Tok}(h:wy T k=some r):yq T k r:=by
 unfold wy at h;split at h
 .rename_i h0;split at h
  .rename_i ae;injection h with h;exact⟨h0,.inl ⟨h.symm,ae⟩⟩
  .rename_i ae;exact⟨h0,.inr ⟨by simpa using ae,(DK 6 _ _ (Lb _) h).1⟩⟩
 .cases h
theorem x3(k:Nat)(r:List Tok):k+2<=eF k r:=by
 unfold eF;split<;>omega
def sf(k:Int)(n m:ByteArray):List Value:=[.int .i64 k,.string n,.int .i64 0,.int .i64 0,.string ⟨#[]⟩,.slice none 0 0,.string m,.slice none 0 0,.slice none 0 0,.slice none 0 0,.slice none 0 0]
def G1(n:ByteArray)(D:LP)(m l:Nat):List Value:=[.int .i64 4,.string n,.int .i64 0,.int .i64 0,.string ⟨#[]⟩,.slice none 0 0,.string ⟨#[]⟩,.slice none 0 0,.slice D m l,.slice none 0 0,.slice none 0 0]
theorem HK{n:ByteArray}{D:LP}{m l:Nat}{aI:List dd}(h:Sl w P D m (aI.map eD))(hm:m<=l):(a9 (.call true n aI)).rep w P (G1 n D m l):=et mr kU h hm (Sl.bN _) (Lb _) (Sl.bN _) (Lb _)
theorem uZ(u:Bool)(n:ByteArray):(a9 (.lock u ⟨n,none⟩)).rep w P (sf (if u then 6 else 5) ⟨#[]⟩ n):=
 et mr (jB.2 ⟨none,0,0,rfl,Lb _,Sl.bN _⟩) (Sl.bN _) (Lb _) (Sl.bN _) (Lb _) (Sl.bN _) (Lb _)
structure zz(w ac:World)(g:Nat)(A:LP)(n c:Nat)(T:List Tok)(k deep:Nat)(cs:List Value):Prop where
 ps:bu ac g A n c T k deep
 fr:Fr (λb=>b=g) w ac
 r:an ac w.heap.size 188 #[.int .i64 0,.string ⟨#[]⟩,.int .i64 0,.int .i64 0,.string ⟨#[]⟩,.slice none 0 0,.string ⟨#[]⟩,.slice none 0 0,.slice none 0 0,.slice none 0 0,.slice none 0 0]
 s:an ac (w.heap.size+1) 188 cs.toArray
theorem zz.on{w ac aV:World}{g:Nat}{A:LP}{n c:Nat}{T:List Tok}{k F deep:Nat}{cs:List Value}(h:zz w ac g A n c T k deep cs)(aK:g<w.heap.size)(hp:bu aV g A n c T F deep)(J:Fr (λb=>b=g) ac aV):zz w aV g A n c T F deep cs:=
 ⟨hp,h.fr.trans J,h.r.on J ab,h.s.on J ab⟩
theorem zz.set{aV:World}{g:Nat}{A:LP}{n c:Nat}{deep:Nat}{cs f:List Value}(h:zz w ac g A n c T k deep cs)(aK:g<w.heap.size)(J:Fr (λb=>b=w.heap.size+1) ac aV)(hs:an aV (w.heap.size+1) 188 f.toArray):zz w aV g A n c T k deep f:=
 ⟨h.ps.on J λb O=>ab,h.fr.eI (J.below h.fr.size λk ai hm=>ab),h.r.on J ab,hs⟩
namespace Cc
theorem vD(h:p:=by
 refine(show Calls prog 62 #[.pointer (some ⟨g,0,none⟩),.string ⟨#[103,111]⟩] aP _ from cq [103,111] g A n c T k deep aP H1.ps true (by first|exact bU.1|exact e6 bU.1 (by decide)) (λh=>by first|omega|cases h)).mono ?_;rintro e aV ⟨rfl,aY,hF⟩;have bt:=ad (H1.on b8 (show bu aV g A n c T (k+1) deep from by simpa using aY) hF);clear aY hF;clear H1;obtain⟨d0,af,aS⟩:=bt.s.two;clear d0 af aS;go_wp2_with(fail);refine(m4 g A n c T (k+1) deep aV t bt.ps bU.2.1 bU.2.2.1 ab).mono ?_;rintro e i ⟨rfl,aY,hF⟩;have HA:=ad (bt.on b8 aY hF);clear aY hF bt;obtain⟨d0,af,aS⟩:=HA.s.two;simp only[sf] at d0;go_upto_region 15 with(fail);generalize hX:World.setCell _ _ _=X;have aR:LR (zz w X g A n c T (k+1+1) deep (sf 4 (strOf t.text) ⟨#[]⟩)):=by
  refine ad (HA.set b8 (by rw[<-hX];exact((Fr.refl (λb=>b=w.heap.size+1) i).setCell (.inl rfl) _).setCell (.inl rfl) _) ?_);rw[<-hX];exact(HA.s.aD 0 (.int .i64 4)).aD 1 (.string (strOf t.text))
 clear hX d0 af aS HA;go_wp2_with(fail);refine(DZ g A n c T (k+1+1) deep r X aR.ps bU.2.2.2.1 (show eF (k+2) r<n by omega)).mono ?_;rintro e wb ⟨D,m,l,rfl,hm,aY,hF,bo⟩;have bI:w.heap.size+1<X.heap.size:=aR.s.lt;have bx:=aL (aR.on b8 aY hF) hm (bo.mono (bf:=λb=>w.heap.size+1<b/\b<wb.heap.size) λb O=>⟨by have:=O.1;omega,O.2⟩);clear aY hF aR hm bo bI;obtain⟨d0,af,aS⟩:=bx.1.s.two;simp only[sf] at d0;go_upto_region 16 with(fail);generalize hX:World.setCell _ _ _=Y;have ar:=dj hX;have bP:LR (zz w Y g A n c T (eF (k+2) r) deep (G1 (strOf t.text) D m l)/\m<=l/\Sl Y (λb=>w.heap.size+1<b/\b<Y.heap.size) D m ((r.map kk).map eD)):=by
  refine ad ⟨bx.1.set b8 ar ?_,bx.2.1,?_⟩
  .rw[<-hX];exact bx.1.s.aD 8 (.slice D m l)
  .exact(bx.2.2.ai λb O=>ar.block b O.2 (aC O.1)).mono λb O=>⟨O.1,by have:=O.2;have:=ar.size;omega⟩
 clear hX d0 af aS bx ar;go_wp2_with(fail);refine(show Calls prog 106 #[.pointer (some ⟨g,0,none⟩),.string ⟨#[59]⟩] Y _ from jb [59] g A n c T (eF (k+2) r) deep Y bP.1.ps bU.2.2.2.2 ai).mono ?_;rintro e bn ⟨rfl,aY,hF⟩;have bc:=aL (bP.1.on b8 aY hF) bP.2.1 ((bP.2.2.ai λb O=>hF.block b O.2 (aC O.1)).mono (bf:=λb=>w.heap.size+1<b/\b<bn.heap.size) λb O=>⟨O.1,by have:=O.2;have:=hF.size;omega⟩);clear aY hF bP;obtain⟨d0,af,aS⟩:=bc.1.s.two;obtain⟨bE,bg,bh⟩:=bc.1.r.two;simp only[G1] at d0;go_wp2_with(fail);generalize hX:World.setCell _ _ _=V;obtain⟨bV,bm,f⟩:=dR (M:=λb=>b=g) (w:=w) (G1 (strOf t.text) D m l) (by rfl) bc.1.r bc.1.fr (Lb _) hX;have ch:=bG (bc.1.ps.on f λb O=>ab) bm bc.2.1 ((bc.2.2.ai λb O=>f.block b O.2 (aC O.1)).mono (bf:=fresh w V) λb O=>⟨by have:=O.1;omega,by have:=O.2;have:=f.size;omega⟩);clear hX bm f bE bg bh d0 af aS;obtain⟨bE,bg,bh⟩:=bV.two;simp only[G1] at bE;refine LK (v:=.agg (G1 (strOf t.text) D m l).toArray) (by simp[results,Tryz.results107,go_sem,bE,G1]) rfl ?_;exact⟨D,m,l,rfl,ch.2.2.1,ch.2.2.2,ch.1,ch.2.1⟩
 ):p:=h
end Cc
open Cc in
theorem I0(g:Nat)(A:LP)(n c:Nat)(T:List Tok)(k deep:Nat)(w:World)(t:Tok)(h:bu w g A n c T k deep)(ae:bX [103,111] T k=true)(ht:T[k+1]?=some t)(br:t.kind=1)(r:List Tok)(aD:yq T (k+2) r)(a1:bX [59] T (eF (k+2) r)=true)(ai:eF (k+2) r+1<n) :
  Calls prog 107 #[.pointer (some ⟨g,0,none⟩)] w λe ac=>∃D m l,e=.returned (.agg (G1 (strOf t.text) D m l).toArray)/\m<=l/\Sl ac (fresh w ac) D m ((r.map kk).map eD)/\bu ac g A n c T (eF (k+2) r+1) deep/\Fr (λb=>b=g) w ac:=by
 have H:=ad h;have bU:=dq ae ht br aD a1;have b8:=h.blk.lt;have he:k+4<=eF (k+2) r:=by unfold eF;split<;>omega
 clear h ae ht br aD a1;exact vC
namespace Cd
theorem Ao(h:p:=by
 obtain⟨bV,bm,f⟩:=dR (M:=λb=>b=g) (w:=w) (sf 5 ⟨#[]⟩ (strOf t.text)) (by rfl) bc.r bc.fr (Lb _) hX;have ch:=ah (bc.ps.on f λb O=>ab) bm;clear hX bm f bE bg bh d0 af aS;obtain⟨bE,bg,bh⟩:=bV.two;simp only[sf] at bE;refine LK (v:=.agg (sf 5 ⟨#[]⟩ (strOf t.text)).toArray) (by simp[results,Tryz.results107,go_sem,bE,sf]) rfl ?_;exact⟨rfl,ch.1,ch.2⟩
 ):p:=h
theorem Av(h:p:=by
 refine(show Calls prog 62 #[.pointer (some ⟨g,0,none⟩),.string ⟨#[108,111,99,107]⟩] aV _ from cq [108,111,99,107] g A n c T k deep aV bt.ps true (by first|exact bU.1|exact e6 bU.1 (by decide)) (λh=>by first|omega|cases h)).mono ?_;rintro e b3 ⟨rfl,aY,hF⟩;have ao:=ad (bt.on b8 (show bu b3 g A n c T (k+1) deep from by simpa using aY) hF);clear aY hF;clear bt;go_wp2_with(fail);refine(wP g A n c T (k+1) deep b3 t ao.ps bU.2.1 bU.2.2.1 bU.2.2.2.1 ab).mono ?_;rintro e i ⟨rfl,aY,hF⟩;have HA:=ad (ao.on b8 aY hF);clear aY hF ao;obtain⟨d0,af,aS⟩:=HA.s.two;simp only[sf] at d0;go_upto_region 19 with(fail);generalize hX:World.setCell _ _ _=X;have aR:LR (zz w X g A n c T (k+1+1) deep (sf 5 ⟨#[]⟩ (strOf t.text))):=by
  refine ad (HA.set b8 (by rw[<-hX];exact(((Fr.refl (λb=>b=w.heap.size+1) i).setCell (.inl rfl) _).setCell (.inl rfl) _).setCell (.inl rfl) _) ?_);rw[<-hX];exact((HA.s.aD 0 (.int .i64 5)).aD 6 (.string (strOf t.text))).aD 7 (.slice none 0 0)
 exact An
 ):p:=h
theorem vD(h:p:=by
 exact Au
 ):p:=h
end Cd
open Cd in
theorem Fw(g:Nat)(A:LP)(n c:Nat)(T:List Tok)(k deep:Nat)(w:World)(t:Tok)(h:bu w g A n c T k deep)(ae:bX [108,111,99,107] T k=true)(ht:T[k+1]?=some t)(br:t.kind=1)(a9:bX [91] T (k+2)=false)(aD:bX [59] T (k+2)=true)(ai:k+3<n) :
  Calls prog 107 #[.pointer (some ⟨g,0,none⟩)] w λe ac=>e=.returned (.agg (sf 5 ⟨#[]⟩ (strOf t.text)).toArray)/\bu ac g A n c T (k+3) deep/\Fr (λb=>b=g) w ac:=by
 have H:=ad h;have bU:=dq ae ht br a9 aD;have b8:=h.blk.lt;clear h ae ht br a9 aD;exact vC
namespace Ce
theorem Ao(h:p:=by
 obtain⟨bV,bm,f⟩:=dR (M:=λb=>b=g) (w:=w) (sf 6 ⟨#[]⟩ (strOf t.text)) (by rfl) bc.r bc.fr (Lb _) hX;have ch:=ah (bc.ps.on f λb O=>ab) bm;clear hX bm f bE bg bh d0 af aS;obtain⟨bE,bg,bh⟩:=bV.two;simp only[sf] at bE;refine LK (v:=.agg (sf 6 ⟨#[]⟩ (strOf t.text)).toArray) (by simp[results,Tryz.results107,go_sem,bE,sf]) rfl ?_;exact⟨rfl,ch.1,ch.2⟩
 ):p:=h
theorem Av(h:p:=by
 refine(show Calls prog 62 #[.pointer (some ⟨g,0,none⟩),.string ⟨#[108,111,99,107]⟩] aV _ from cq [108,111,99,107] g A n c T k deep aV bt.ps false (by first|exact bU.1|exact e6 bU.1 (by decide)) (λh=>by first|omega|cases h)).mono ?_;rintro e b3 ⟨rfl,aY,hF⟩;have ao:=ad (bt.on b8 (show bu b3 g A n c T (k) deep from by simpa using aY) hF);clear aY hF;clear bt;go_wp2_with(fail);refine(show Calls prog 62 #[.pointer (some ⟨g,0,none⟩),.string ⟨#[117,110,108,111,99,107]⟩] b3 _ from cq [117,110,108,111,99,107] g A n c T k deep b3 ao.ps true (by first|exact bU.1|exact e6 bU.1 (by decide)) (λh=>by first|omega|cases h)).mono ?_;rintro e cz ⟨rfl,aY,hF⟩;have P:=ad (ao.on b8 (show bu cz g A n c T (k+1) deep from by simpa using aY) hF);clear aY hF;clear ao;go_wp2_with(fail);refine(wP g A n c T (k+1) deep cz t P.ps bU.2.1 bU.2.2.1 bU.2.2.2.1 ab).mono ?_;rintro e i ⟨rfl,aY,hF⟩;have HA:=ad (P.on b8 aY hF);clear aY hF P;obtain⟨d0,af,aS⟩:=HA.s.two;simp only[sf] at d0;go_upto_region 22 with(fail);generalize hX:World.setCell _ _ _=X;have aR:LR (zz w X g A n c T (k+1+1) deep (sf 6 ⟨#[]⟩ (strOf t.text))):=by
  refine ad (HA.set b8 (by rw[<-hX];exact(((Fr.refl (λb=>b=w.heap.size+1) i).setCell (.inl rfl) _).setCell (.inl rfl) _).setCell (.inl rfl) _) ?_);rw[<-hX];exact((HA.s.aD 0 (.int .i64 6)).aD 6 (.string (strOf t.text))).aD 7 (.slice none 0 0)
 exact An
 ):p:=h
theorem vD(h:p:=by
 exact Au
 ):p:=h
end Ce
open Ce in
theorem y7(g:Nat)(A:LP)(n c:Nat)(T:List Tok)(k deep:Nat)(w:World)(t:Tok)(h:bu w g A n c T k deep)(ae:bX [117,110,108,111,99,107] T k=true)(ht:T[k+1]?=some t)(br:t.kind=1)(a9:bX [91] T (k+2)=false)(aD:bX [59] T (k+2)=true)(ai:k+3<n) :
  Calls prog 107 #[.pointer (some ⟨g,0,none⟩)] w λe ac=>e=.returned (.agg (sf 6 ⟨#[]⟩ (strOf t.text)).toArray)/\bu ac g A n c T (k+3) deep/\Fr (λb=>b=g) w ac:=by
 have H:=ad h;have bU:=dq ae ht br a9 aD;have b8:=h.blk.lt;clear h ae ht br a9 aD;exact vC
def tu(T:List Tok)(k:Nat):Option (ax×Nat):=match T[k+1]? with
 | none=>none
 | some t=>
  if t.kind=1 then
   if bX [103,111] T k then (wy T (k+2)).bind λr=>if bX [59] T (eF (k+2) r) && decide (eF (k+2) r+1<T.length) then some (.call true (strOf t.text) (r.map kk),eF (k+2) r+1) else none
   else if bX [108,111,99,107] T k && !bX [91] T (k+2) && bX [59] T (k+2) && decide (k+3<T.length) then some (.lock false ⟨strOf t.text,none⟩,k+3)
   else if bX [117,110,108,111,99,107] T k && !bX [91] T (k+2) && bX [59] T (k+2) && decide (k+3<T.length) then some (.lock true ⟨strOf t.text,none⟩,k+3)
   else none
  else none
theorem yh{s:ByteArray}(h:((wy T (k+2)).bind λr=>if bX [59] T (eF (k+2) r) && decide (eF (k+2) r+1<T.length) then some (ax.call true s (r.map kk),eF (k+2) r+1) else none)=some (st,F)):
  ∃r,yq T (k+2) r/\bX [59] T (eF (k+2) r)=true/\eF (k+2) r+1<T.length/\st=.call true s (r.map kk)/\F=eF (k+2) r+1:=by
 cases hl:wy T (k+2) with
 | none=>rw[hl] at h;cases h
 | some r=>
  rw[hl] at h;simp only[Option.bind_some] at h;split at h
  .rename_i hc;simp only[Ln,LI] at hc;injection h with h;injection h with ae aD;exact⟨r,uu hl,hc.1,hc.2,ae.symm,aD.symm⟩
  .cases h
theorem yi(h:tu T k=some (st,F)):k+3<=F:=by
 unfold tu at h;split at h
 .cases h
 .split at h
  .split at h
   .obtain⟨r,_,_,_,_,h⟩:=yh h;have:=x3 (k+2) r;omega
   .split at h
    .injection h with h;injection h with _ h;omega
    .split at h
     .injection h with h;injection h with _ h;omega
     .cases h
  .cases h
theorem Fx(g:Nat)(A:LP)(n c:Nat)(T:List Tok)(k deep:Nat)(w:World)(st:ax)(F:Nat)(h:bu w g A n c T k deep)(hs:tu T k=some (st,F)) :
  Calls prog 107 #[.pointer (some ⟨g,0,none⟩)] w λe ac=>∃(q:Int) (a b:ByteArray) (D:LP) (m l:Nat),e=.returned (.agg #[.int .i64 q,.string a,.int .i64 0,.int .i64 0,.string ⟨#[]⟩,.slice none 0 0,.string b,.slice none 0 0,.slice D m l,.slice none 0 0,.slice none 0 0])/\(a9 st).rep ac (fresh w ac) [.int .i64 q,.string a,.int .i64 0,.int .i64 0,.string ⟨#[]⟩,.slice none 0 0,.string b,.slice none 0 0,.slice D m l,.slice none 0 0,.slice none 0 0]/\bu ac g A n c T F deep/\Fr (λb=>b=g) w ac:=by
 have hl:=h.tx.1;unfold tu at hs;split at hs
 .cases hs
 .rename_i t ht;split at hs
  .rename_i br;split at hs
   .rename_i hc;obtain⟨r,bo,a1,ai,rfl,rfl⟩:=yh hs;refine(I0 g A n c T k deep w t h hc ht br r bo a1 ab).mono ?_;rintro e ac ⟨D,m,l,rfl,hm,hS,aY,hF⟩;exact⟨4,_,_,D,m,l,rfl,HK hS hm,aY,hF⟩
   .split at hs
    .rename_i hc;simp only[Ln,LI,Bool.not_eq_true'] at hc;injection hs with hs;injection hs with ae aD;subst ae aD;refine(Fw g A n c T k deep w t h hc.1.1.1 ht br hc.1.1.2 hc.1.2 ab).mono ?_;rintro e ac ⟨rfl,aY,hF⟩;exact⟨5,_,_,none,0,0,rfl,uZ false _,aY,hF⟩
    .split at hs
     .rename_i hc;simp only[Ln,LI,Bool.not_eq_true'] at hc;injection hs with hs;injection hs with ae aD;subst ae aD;refine(y7 g A n c T k deep w t h hc.1.1.1 ht br hc.1.1.2 hc.1.2 ab).mono ?_;rintro e ac ⟨rfl,aY,hF⟩;exact⟨6,_,_,none,0,0,rfl,uZ true _,aY,hF⟩
     .cases hs
  .cases hs
def jL(T:List Tok):Nat->Nat->Option (List ax×Nat)
 | 0,_=>none
 | f+1,k=>if bX [125] T k then (if k+1<T.length then some ([],k+1) else none) else (tu T k).bind λp=>(jL T f p.2).map λq=>(p.1::q.1,q.2)
theorem w6{f:Nat}{ls:List ax}(h:jL T f k=some (ls,F)):(bX [125] T k=true/\k+1<T.length/\ls=[]/\F=k+1)\/(bX [125] T k=false/\∃(st:ax) (bJ f2:Nat) (t:List ax),tu T k=some (st,bJ)/\jL T f2 bJ=some (t,F)/\ls=st::t):=by
 cases f with
 | zero=>cases h
 | succ f=>
  simp only[jL] at h;split at h
  .rename_i ae;split at h
   .rename_i aD;injection h with h;injection h with aU a1;exact .inl ⟨ae,aD,aU.symm,a1.symm⟩
   .cases h
  .rename_i ae
   cases hs:tu T k with
   | none=>rw[hs] at h;cases h
   | some p=>
    rw[hs] at h;obtain⟨st,bJ⟩:=p;simp only[Option.bind_some] at h
    cases aQ:jL T f bJ with
    | none=>rw[aQ] at h;cases h
    | some q=>
     rw[aQ] at h;simp only[Option.map_some] at h;injection h with h;injection h with aU a1;subst a1;exact .inr ⟨by simpa using ae,st,bJ,f,q.1,rfl,aQ,aU.symm⟩
theorem D1(g:Nat)(A:LP)(n c:Nat)(T:List Tok)(k deep:Nat)(w:World)(f:Nat)(ls:List ax)(F:Nat)(h:bu w g A n c T k deep)(hd:deep<24)(ae:bX [123] T k=true)(ai:k+1<n)(hs:jL T f (k+1)=some (ls,F)) :
  Calls prog 67 #[.pointer (some ⟨g,0,none⟩)] w λe ac=>∃(bx:LP) (on bp:Nat),e=.returned (.slice bx on bp)/\on<=bp/\Sl ac (fresh w ac) bx on (ls.map a9)/\bu ac g A n c T F deep/\Fr (λb=>b=g) w ac:=by
 have H:=ad h;have bU:=ah ae hs;have b8:=h.blk.lt;have M:=h.iT;have av:((deep:Int) == 24)=false:=by simp;omega
 clear h ae hs;go_enter func67,ntmps67;go_wp2_with(fail);refine(show Calls prog 60 #[.pointer (some ⟨g,0,none⟩),.string ⟨#[123]⟩] w _ from lS [123] g A n c T k deep w H.o).mono ?_;rintro e aP ⟨rfl,aE⟩;rw[bU.1];have H1:=ah (H.aj aE) (aE.mono (M':=λb=>b=g) λ_ h=>h.elim);clear aE;obtain⟨a0,ap,aj⟩:=H1.1.blk.two;go_wp2_with(fail);refine(show Calls prog 106 #[.pointer (some ⟨g,0,none⟩),.string ⟨#[123]⟩] aP _ from jb [123] g A n c T k deep aP H1.1 bU.1 ai).mono ?_;rintro e aV ⟨rfl,aY,hF⟩;have bt:=ah aY (H1.2.trans hF);clear aY hF a0 ap aj H1;obtain⟨a0,ap,aj⟩:=bt.1.blk.two;go_upto_region 5 with(fail);generalize hX:World.setCell _ _ _=X;have J:=dj hX;have aN:an X g 123 #[.slice A n c,.int .i64 ((k+1:Nat):Int),.int .i64 0,.int .i64 0,.int .i64 0,.int .i64 ((deep+1:Nat):Int)]:=hX▸bt.1.blk.aD 5 (.int .i64 ((deep:Int)+1));have aR:=ah (show bu X g A n c T (k+1) (deep+1) from ⟨aN,bt.1.tx.gf (J.below (aC bt.1.blk.lt) λb O hm=>ab),ai,M⟩) (bt.2.trans J);clear hX J aN a0 ap aj bt;go_wp2_with(fail);go_loopw [3] (λR wr=>∃(bx:LP) (on bp j bd:Nat) (acc rest:List ax),R=.slice bx on bp/\on<=j/\bu wr g A n c T j (deep+1)/\Fr (λb=>b=g) w wr/\Gr (λb=>w.heap.size<=b) w.heap.size 188 11 wr bx on bp (acc.map a9)/\jL T bd j=some (rest,F)/\acc++rest=ls) (λR _=>4001 - DC R)
 case atStart=>exact⟨none,0,0,k+1,f,[],ls,rfl,ab,aR.1,aR.2,Gr.nil _ _ _ _ _,bU.2,rfl⟩
 case round=>
  obtain⟨bx,on,bp,j,bd,acc,rest,rfl,c2,aY,hF,hG,bk,y⟩:=hrel;clear aR;have Q:=aY.lt;have aZ:=bG aY hF hG y;obtain⟨a0,ap,aj⟩:=aY.blk.two;have np:=hF.size;clear aY hF hG y;rcases w6 bk with⟨hc,f0,i,E⟩|⟨hc,st,bJ,f2,t,b6,bv,cN⟩
  .have bQ:=bG hc f0 i E;clear hc f0 i E bk;go_wp2_with(fail);refine(show Calls prog 62 #[.pointer (some ⟨g,0,none⟩),.string ⟨#[125]⟩] wr _ from cq [125] g A n c T j (deep+1) wr aZ.1 true bQ.1 (λ_=>by have:=bQ.2.1;have:=aZ.1.tx.1;omega)).mono ?_;rintro e b3 ⟨rfl,aY,hF⟩;have ao:=ah (show bu b3 g A n c T (j+1) (deep+1) from by simpa using aY) hF;clear aY hF a0 ap aj;obtain⟨a0,ap,aj⟩:=ao.1.blk.two;go_upto_region 9 with(fail);generalize hX:World.setCell _ _ _=X;have J:=dj hX;have aN:an X g 123 #[.slice A n c,.int .i64 ((j+1:Nat):Int),.int .i64 0,.int .i64 0,.int .i64 0,.int .i64 (deep:Int)]:=hX▸ao.1.blk.aD 5 (.int .i64 (deep:Int));have ay:Fr (λb=>b=g) wr X:=ao.2.trans J;have aR:=aL (show bu X g A n c T (j+1) deep from ⟨aN,ao.1.tx.gf (J.below (aC ao.1.blk.lt) λb O hm=>ab),ao.1.lt,M⟩) (aZ.2.1.trans ay) (aZ.2.2.1.cS ay λb O _=>⟨ab,ab⟩);clear hX J aN ay a0 ap aj ao;go_wp2_with(fail);go_ret;refine⟨bx,on,bp,rfl,aR.2.2.cap.1,?_,by rw[bQ.2.2.2];exact aR.1,aR.2.1⟩;have cd:=aZ.2.2.2;rw[bQ.2.2.1,LC] at cd;rw[<-cd];exact aR.2.2.sl (λb O hp=>⟨hp,O⟩) λb O hp=>⟨hp,O⟩
  .have bQ:=bG hc b6 bv cN;have co:=yi b6;clear hc b6 bv cN bk;go_wp2_with(fail);refine(show Calls prog 62 #[.pointer (some ⟨g,0,none⟩),.string ⟨#[125]⟩] wr _ from cq [125] g A n c T j (deep+1) wr aZ.1 false bQ.1 (λh=>by cases h)).mono ?_;rintro e b3 ⟨rfl,aY,hF⟩;have ao:=ah (show bu b3 g A n c T j (deep+1) from by simpa using aY) hF;clear aY hF a0 ap aj;go_wp2_with(fail);refine(Fx g A n c T j (deep+1) b3 st bJ ao.1 bQ.2.1).mono ?_;rintro e cz ⟨q,a,b,a4,m,l,rfl,bO,aY,hF⟩;have ay:Fr (λb=>b=g) wr cz:=ao.2.trans hF;have z:=aZ.2.2.1.cS ay λb O _=>⟨ab,ab⟩
   have hd:=D.aE (bf:=lu (λb=>w.heap.size<=b) cz (.slice bx on bp)) (λb O=>⟨by have:=O.1;have:=ao.2.size;omega,O.2,λh=>by have:=(aZ.2.2.1.lt h).2;have:=O.1;have:=ao.2.size;omega⟩) _ _ bO;have b4:w.heap.size<=cz.heap.size:=by have:=ay.size;omega
   have P:=bG aY (aZ.2.1.trans ay) z hd;clear aY hF ay z hd bO ao;go_wp2_with(at_builtin;refine bI oQ rfl (.tmp 34) (.tmp 37) rfl P.2.2.1 P.2.2.2 rfl rfl rfl ab ab b4 ?_;intro aU dD b5 al ay cf bR;have bY:=ah al ay;clear al ay cf bR);have aG:∀b,(Value.slice bx on bp).ownBlock=some b->w.heap.size<=b:=λb O=>(P.2.2.1.lt O).1;have a2:Fr (λb=>b=g) w b5:=P.2.1.eI (bY.2.below b4 λk ai h=>by have:=aG k h;omega);have dL:=aL (P.1.on bY.2 λb O=>by have:=aG b O;omega) a2 bY.1;clear aG a2 bY P;go_roundw
   case rel=>exact⟨aU,on+1,dD,bJ,f2,acc++[st],t,rfl,ab,dL.1,dL.2.1,by rw[Li];exact dL.2.2,bQ.2.2.1,by have:=aZ.2.2.2;rw[bQ.2.2.2] at this;rw[<-this];simp⟩
   case measure=>simp only[DC];omega
end Go.Proofs.YtflecliffjbleaaGreat

/- Part 38 of the proof. No condition of its own. -/
import Derived.Test.YtnigabjngpnbiaaGreatQ21
import Derived.Test.YtnigabjngpnbiaaGreatQ33
import Derived.Test.YtnigabjngpnbiaaGreatQ37
namespace Go.Proofs.YtnigabjngpnbiaaGreat
open Go.RowKit Go.Proofs.Tryz
set_option maxRecDepth 1000000
set_option maxHeartbeats 25600000
set_option linter.unusedVariables false
variable{T:List Tok}{i k:Nat}{P:Nat->Prop}{p:Prop}{f:a1}{m:bI}
def tj(M:List bI):Prop:=∀i m,M[i]?=some m->m.name=wj i/\0<=m.size/\m.size<=3/\(m.re=true->m.size=0)
structure rZ(r w:World)(A:Kj)(n c:Nat)(l:List Int)(ar:Bool)(MA:Kj)(mn mc:Nat)(M:List bI):Prop where
 src:fm w (r.heap.size+1) A n c l
 blk:au w (r.heap.size+1+1) 162 #[.pointer (some ⟨r.heap.size+1,0,none⟩),.slice none 0 0,.slice MA mn mc,.slice none 0 0,.int .i64 24,.bool ar]
 res:au w r.heap.size 44 #[.slice none 0 0,.slice none 0 0,.slice none 0 0]
 ms:Gr (λ_=>False) (r.heap.size+1+1+1) 117 3 w MA mn mc (M.map eL)
 nm:mn<=4
 ok:tj M
 ext:Ext r w
section
variable {r w J:World} {A:Kj} {n c:Nat} {l:List Int} {ar:Bool} {MA:Kj} {mn mc:Nat} {M:List bI}
theorem rZ.next(h:rZ r w A n c l ar MA mn mc M)(hs:fm J (r.heap.size+1) A n c l)(O:Fr (λb=>b=r.heap.size+1) w J):rZ r J A n c l ar MA mn mc M:=
 ⟨hs,h.blk.on O ad,h.res.on O ad,h.ms.eQ O (λb O _=>⟨λh=>h,ad⟩),h.nm,h.ok,Fr.low (M:=λb=>b=r.heap.size+1) ((h.ext.mono λ_ h=>h.elim).trans O) λk aj=>ad⟩
theorem rZ.aj(h:rZ r w A n c l ar MA mn mc M)(O:Ext w J):rZ r J A n c l ar MA mn mc M:=h.next (h.src.gW O λ_ _ h=>h) (O.mono λ_ h=>h.elim)
theorem rZ.fresh(h:rZ r w A n c l ar MA mn mc M){g:Nat}(aS:r.heap.size+1+1<g)(bb:(Value.slice MA mn mc).ownBlock≠some g)(O:Fr (λb=>b=g) w J):rZ r J A n c l ar MA mn mc M:=
 ⟨h.src.gW O (λb O h=>ad),h.blk.on O ad,h.res.on O ad,h.ms.ek O.size (λb aq hp=>O.block b aq (hp.elim (λh=>h.elim) λhp j=>by subst j;exact bb hp)),h.nm,h.ok,Fr.low (M:=λb=>b=g) ((h.ext.mono λ_ h=>h.elim).trans O) λk aj=>ad⟩
theorem rZ.add(h:rZ r w A n c l ar MA mn mc M){ee:Kj}{et:Nat}(aS:Gr (λ_=>False) (r.heap.size+1+1+1) 117 3 J ee (mn+1) et (M.map eL++[eL m]))(aA:Fr (λb=>(Value.slice MA mn mc).ownBlock=some b) w J)
  (hn:mn+1<=4) (b2:tj (M++[m])):rZ r (J.setCell ⟨r.heap.size+1+1,2,none⟩ (.slice ee (mn+1) et)) A n c l ar ee (mn+1) et (M++[m]):=by
 have bb:∀b,(Value.slice MA mn mc).ownBlock=some b->r.heap.size+1+1+1<=b:=λb O=>(h.ms.lt O).1;have ax:Fr (λb=>b=r.heap.size+1+1) J (J.setCell ⟨r.heap.size+1+1,2,none⟩ (.slice ee (mn+1) et)):=(Fr.refl (λb=>b=r.heap.size+1+1) J).setCell (.inl rfl) _;refine⟨(h.src.gW aA λb O an=>by have:=bb b an;omega).gW ax (λb O an=>ad),(h.blk.on aA λan=>by have:=bb _ an;omega).bH 2 _,(h.res.on aA λan=>by have:=bb _ an;omega).on ax ad,?_,hn,b2,
  Fr.low (M:=λb=>b=r.heap.size+1+1) ((Fr.low (M:=λb=>(Value.slice MA mn mc).ownBlock=some b) ((h.ext.mono λ_ h=>h.elim).trans aA) λk aj=>by have:=bb k aj;omega).mono (λ_ h=>h.elim) |>.trans ax) λk aj=>ad⟩
 rw[JP,JO,J5];exact aS.eQ ax (λb O _=>⟨λh=>h,ad⟩)
end
theorem tj.snoc{M:List bI}(h:tj M)(I:M.length=i){re:Bool}{sz:Int}(h0:0<=sz)(aD:sz<=3)(S:re=true->sz=0):tj (M++[⟨wj i,re,sz⟩]):=by
 intro k m hm;by_cases aj:k<M.length
 .rw[List.getElem?_append_left aj] at hm;exact h k m hm
 .rw[List.getElem?_append_right ad] at hm;have b4:k - M.length=0:=by
   exact tr
  rw[b4] at hm;simp at hm;subst hm;have:k=i:=ad;subst this;exact⟨rfl,h0,aD,S⟩
theorem Gq:cA prog 41 114 (.agg #[.string ⟨#[]⟩,.int .i64 0]) 2 24:=cA.mk' Tryz.underlying41 (by kernel_rfl) rfl ad
def wQ(G:List (ByteArray×Int)):Prop:=∀i g,G[i]?=some g->g.1=v9 i∧-2<=g.2/\g.2<=2
theorem wQ.snoc{G:List (ByteArray×Int)}(h:wQ G)(I:G.length=i){v:Int}(h0:-2<=v)(aD:v<=2):wQ (G++[(v9 i,v)]):=by
 intro k m hm;by_cases aj:k<G.length
 .rw[List.getElem?_append_left aj] at hm;exact h k m hm
 .rw[List.getElem?_append_right ad] at hm;have b4:k - G.length=0:=by
   exact tr
  rw[b4] at hm;simp at hm;subst hm;have:k=i:=ad;subst this;exact⟨rfl,h0,aD⟩
structure DZ(r:World)(a:Nat)(w:World)(A:Kj)(n c:Nat)(l:List Int)(ar:Bool)(MA:Kj)(mn mc:Nat)(M:List bI)(GA:Kj)(gn gc:Nat)(G:List (ByteArray×Int))(d:Kj)(e:Nat):Prop where
 src:fm w (r.heap.size+1) A n c l
 blk:au w (r.heap.size+1+1) 162 #[.pointer (some ⟨r.heap.size+1,0,none⟩),.slice GA gn gc,.slice MA mn mc,.slice none 0 0,.int .i64 24,.bool ar]
 res:au w r.heap.size 44 #[.slice none 0 0,.slice none 0 0,.slice none 0 0]
 ms:Sl w (λb=>r.heap.size+1+1+1<=b/\b<a) MA mn (M.map eL)
 mc:mn<=mc
 rows:lu a 114 2 9 1 w GA gn gc (G.map od) d gn e ((G.map (·.1)).map D.s)
 nm:1<=mn/\mn<=4
 ok:tj M
 ng:gn<=2
 HY:wQ G
 ext:Ext r w
 hD:r.heap.size+1+1+1<=a/\a<=w.heap.size
section
variable {r w J:World} {a:Nat} {A:Kj} {n c:Nat} {l:List Int} {ar:Bool} {MA:Kj} {mn mc:Nat} {M:List bI} {GA:Kj} {gn gc:Nat} {G:List (ByteArray×Int)} {d:Kj} {e:Nat}
theorem DZ.next(h:DZ r a w A n c l ar MA mn mc M GA gn gc G d e)(hs:fm J (r.heap.size+1) A n c l)(O:Fr (λb=>b=r.heap.size+1) w J):DZ r a J A n c l ar MA mn mc M GA gn gc G d e:=by
 have hD:=h.hD;exact⟨hs,h.blk.on O ad,h.res.on O ad,h.ms.al λb hp=>O.block b (aC hp.2) (aC hp.1),h.mc,h.rows.eQ O (λb O _=>ad),h.nm,h.ok,h.ng,h.HY,Fr.low (M:=λb=>b=r.heap.size+1) ((h.ext.mono λ_ h=>h.elim).trans O) λk aj=>ad,hD.1,by have:=O.size;omega⟩
theorem DZ.aj(h:DZ r a w A n c l ar MA mn mc M GA gn gc G d e)(O:Ext w J):DZ r a J A n c l ar MA mn mc M GA gn gc G d e:=h.next (h.src.gW O λ_ _ h=>h) (O.mono λ_ h=>h.elim)
theorem DZ.add(h:DZ r a w A n c l ar MA mn mc M GA gn gc G d e){aN f:Kj}{a3:Nat}{g:ByteArray×Int}(aZ:lu a 114 2 9 1 J aN (gn+1) a3 ((G++[g]).map od) f (gn+1) i (((G++[g]).map (·.1)).map D.s))
  (aA:Fr (λb=>(Value.slice GA gn gc).ownBlock=some b\/(Value.slice d gn e).ownBlock=some b) w J) (hn:gn+1<=2) (b2:wQ (G++[g])) :
  DZ r a (J.setCell ⟨r.heap.size+1+1,1,none⟩ (.slice aN (gn+1) a3)) A n c l ar MA mn mc M aN (gn+1) a3 (G++[g]) f i:=by
 have hD:=h.hD;have bb:∀b,((Value.slice GA gn gc).ownBlock=some b\/(Value.slice d gn e).ownBlock=some b)->a<=b:=λb O=>by
  rcases O with O|O
  .exact(h.rows.one.lt O).1
  .exact(h.rows.two.lt O).1
 have ax:Fr (λb=>b=r.heap.size+1+1) J (J.setCell ⟨r.heap.size+1+1,1,none⟩ (.slice aN (gn+1) a3)):=(Fr.refl (λb=>b=r.heap.size+1+1) J).setCell (.inl rfl) _;have hs:=aA.size;have bz:=ax.size;refine⟨(h.src.gW aA λb O an=>by have:=bb b an;omega).gW ax (λb O an=>ad),(h.blk.on aA λan=>by have:=bb _ an;omega).bH 1 _,(h.res.on aA λan=>by have:=bb _ an;omega).on ax ad,
  h.ms.al λb hp=>(ax.block b (aC hp.2) (aC hp.1)).trans (aA.block b (aC hp.2) λan=>by have:=bb b an;have:=hp.2;omega),h.mc,aZ.eQ ax (λb O _=>ad),h.nm,h.ok,hn,b2,?_,hD.1,ad⟩
 have ac:Ext r J:=Fr.low (M:=λb=>(Value.slice GA gn gc).ownBlock=some b\/(Value.slice d gn e).ownBlock=some b) ((h.ext.mono λ_ h=>h.elim).trans aA) λk aj=>by have:=bb k aj;omega
 exact yf
end
theorem ET{w:World}{x:ByteArray×Int}{cs:List Value}:(od x).rep w P cs↔cs=[.string x.1,.int .i64 x.2]:=by
 unfold od;rw[bK,dj];exact Cl
theorem Ct:cA prog 120 166 (.agg #[.string ⟨#[]⟩,.bool false]) 2 24:=cA.mk' Tryz.underlying120 (by kernel_rfl) rfl ad
def xO(F:List a1):Prop:=∀i f,F[i]?=some f->f.name=v7 i/\(∃n,n<=2/\f.params.map (·.1)=iz n)/\(i=0->f.params=[])/\f.body=.nil
theorem xO.snoc{F:List a1}(h:xO F)(I:F.length=i){ps:List (ByteArray×Bool)}{n:Nat}(hn:n<=2)(hp:ps.map (·.1)=iz n)(h0:i=0->ps=[]):xO (F++[⟨v7 i,ps,.nil⟩]):=by
 intro k m hm;by_cases aj:k<F.length
 .rw[List.getElem?_append_left aj] at hm;exact h k m hm
 .rw[List.getElem?_append_right ad] at hm;have b4:k - F.length=0:=by
   exact tr
  rw[b4] at hm;simp at hm;subst hm;have:k=i:=ad;subst this;exact⟨rfl,⟨n,hn,hp⟩,h0,rfl⟩
structure G5(r:World)(a:Nat)(w:World)(A:Kj)(n c:Nat)(l:List Int)(ar:Bool)(MA:Kj)(mn mc:Nat)(M:List bI)(GA:Kj)(gn gc:Nat)(G:List (ByteArray×Int))(d:Kj)(e:Nat)(FA:Kj)(fn fc:Nat)(F:List a1):Prop where
 src:fm w (r.heap.size+1) A n c l
 blk:au w (r.heap.size+1+1) 162 #[.pointer (some ⟨r.heap.size+1,0,none⟩),.slice GA gn gc,.slice MA mn mc,.slice FA fn fc,.int .i64 24,.bool ar]
 res:au w r.heap.size 44 #[.slice none 0 0,.slice none 0 0,.slice none 0 0]
 ms:Sl w (λb=>r.heap.size+1+1+1<=b/\b<a) MA mn (M.map eL)
 gs:Sl w (λb=>r.heap.size+1+1+1<=b/\b<a) GA gn (G.map od)
 vs:Sl w (λb=>r.heap.size+1+1+1<=b/\b<a) d gn ((G.map (·.1)).map D.s)
 fs:Gr (λb=>a<=b) a 123 3 w FA fn fc (F.map fA)
 mc:mn<=mc
 gc:gn<=gc
 nm:1<=mn/\mn<=4
 ok:tj M
 ng:gn<=2
 HY:wQ G
 nf:fn<=4
 Je:xO F
 ext:Ext r w
 hD:r.heap.size+1+1+1<=a/\a<=w.heap.size
section
variable {r w J:World} {a g:Nat} {A:Kj} {n c:Nat} {l:List Int} {ar:Bool} {MA:Kj} {mn mc:Nat} {M:List bI} {GA:Kj} {gn gc:Nat} {G:List (ByteArray×Int)} {d:Kj} {e:Nat} {FA:Kj} {fn fc:Nat} {F:List a1}
theorem G5.next(h:G5 r a w A n c l ar MA mn mc M GA gn gc G d e FA fn fc F)(hs:fm J (r.heap.size+1) A n c l)(O:Fr (λb=>b=r.heap.size+1) w J):G5 r a J A n c l ar MA mn mc M GA gn gc G d e FA fn fc F:=by
 have hD:=h.hD;have aj:∀b,(r.heap.size+1+1+1<=b/\b<a)->J.heap[b]?=w.heap[b]?:=λb hp=>O.block b (aC hp.2) (aC hp.1);exact⟨hs,h.blk.on O ad,h.res.on O ad,h.ms.al aj,h.gs.al aj,h.vs.al aj,h.fs.eQ O (λb O _=>⟨ad,ad⟩),h.mc,h.gc,h.nm,h.ok,h.ng,h.HY,h.nf,h.Je,Fr.low (M:=λb=>b=r.heap.size+1) ((h.ext.mono λ_ h=>h.elim).trans O) λk aj=>ad,hD.1,by have:=O.size;omega⟩
theorem G5.add(h:G5 r a w A n c l ar MA mn mc M GA gn gc G d e FA fn fc F){cp:Kj}{b7:Nat}(aS:Gr (λb=>a<=b) a 123 3 J cp (fn+1) b7 (F.map fA++[fA f]))(aA:Fr (λb=>(Value.slice FA fn fc).ownBlock=some b) w J)
  (hn:fn+1<=4) (b2:xO (F++[f])):G5 r a (J.setCell ⟨r.heap.size+1+1,3,none⟩ (.slice cp (fn+1) b7)) A n c l ar MA mn mc M GA gn gc G d e cp (fn+1) b7 (F++[f]):=by
 have hD:=h.hD;have bb:∀b,(Value.slice FA fn fc).ownBlock=some b->a<=b:=λb O=>(h.fs.lt O).1;have ax:Fr (λb=>b=r.heap.size+1+1) J (J.setCell ⟨r.heap.size+1+1,3,none⟩ (.slice cp (fn+1) b7)):=(Fr.refl (λb=>b=r.heap.size+1+1) J).setCell (.inl rfl) _;have hs:=aA.size;have bz:=ax.size;have aj:∀b,(r.heap.size+1+1+1<=b/\b<a)->(J.setCell ⟨r.heap.size+1+1,3,none⟩ (.slice cp (fn+1) b7)).heap[b]?=w.heap[b]?:=λb hp=>(ax.block b (aC hp.2) (aC hp.1)).trans (aA.block b (aC hp.2) λan=>by have:=bb b an;have:=hp.2;omega);refine⟨(h.src.gW aA λb O an=>by have:=bb b an;omega).gW ax (λb O an=>ad),(h.blk.on aA λan=>by have:=bb _ an;omega).bH 3 _,(h.res.on aA λan=>by have:=bb _ an;omega).on ax ad,h.ms.al aj,h.gs.al aj,h.vs.al aj,?_,h.mc,h.gc,h.nm,h.ok,h.ng,h.HY,hn,b2,?_,hD.1,ad⟩
 .rw[JP,JO,J5];exact aS.eQ ax (λb O _=>⟨ad,ad⟩)
 .have ac:Ext r J:=Fr.low (M:=λb=>(Value.slice FA fn fc).ownBlock=some b) ((h.ext.mono λ_ h=>h.elim).trans aA) λk aj=>by have:=bb k aj;omega
  exact yf
end
theorem cI{a b:List UInt8}(h:aN a T k=true)(hn:strOf a≠strOf b):aN b T k=false:=by
 unfold aN at h ⊢
 cases hT:T[k]? with
 | none=>rfl
 | some t=>
  rw[hT] at h;simp only[JU,Kc] at h;simp only[Bool.and_eq_false_iff,decide_eq_false_iff_not];exact .inr λO=>hn (h.2.symm.trans O)
def um:Value->Nat
 | .slice _ n _=>n
 | _=>0
structure DY(T:List Tok)(k:Nat)(r:List Tok):Prop where
 pos:0<r.length
 iN:r.length<=6
 mu:∀j,j<r.length->aN [109,117,116,101,120] T (k+3*j)=true
 nm:∀j t,r[j]?=some t->T[k+3*j+1]?=some t/\t.kind=1
 co:∀j,j<r.length->aN [44] T (k+3*j+2)=decide (j+1<r.length)
 cl:∀j,j+1=r.length->aN [41] T (k+3*j+2)=true
def jJ(t:Tok):ByteArray×Bool:=(strOf t.text,true)
theorem p5{w:World}(s:ByteArray)(b:Bool):(dU (s,b)).rep w P [.string s,.bool b]:=by
 unfold dU;simp only[D.rep,D.aR]
 first|exact⟨_,rfl,_,rfl,rfl⟩|(simp;done)|skip
theorem Fr.cut{M:Nat->Prop}{w J:World}(h:Fr (λb=>M b\/w.heap.size<=b) w J):Fr M w J:=⟨h.os,h.tape,h.output,h.size,λk aj hn=>h.block k aj λhm=>hm.elim hn λh=>ad⟩
namespace AR
theorem ze(h:p:=by
 have hd:(dU (jJ t)).rep Y (mS (λb=>w.heap.size<=b) Y (.slice D j l)) (#[.string (strOf t.text),.bool true]:Array Value).toList:=p5 _ _;obtain⟨M,bi⟩:=aI hd bc;clear cm bu bA u bc F K bl U aE hd;go_wp2_with(at_builtin;refine cn Ct rfl (.tmp 33) (.tmp 35) rfl bw.2.2.1 (d:=dU (jJ t)) (cs:=#[.string (strOf t.text),.bool true]) M.o rfl rfl rfl ad ad ad ?_;intro bU c3 cy bX g2 cv cR;have bN:=av bX g2 cR;clear bX g2 cv cR);have s:aH cy g A n c T (k+1+3*j+2) deep:=bw.1.on bN.2.1 λb O=>by have:=(bi.o b O).1;omega
 have i:Fr (λb=>b=g) w cy:=Fr.cut (Fr.trans bw.2.1 (bN.2.1.mono λb O=>.inr (bi.o b O).1));have x:Gr (λb=>w.heap.size<=b) w.heap.size 166 2 cy bU (j+1) c3 (((r.take (j+1)).map jJ).map dU):=by
  exact yC
 exact Fi
 ):p:=h
theorem zx(h:p:=by
 have dl:((j:Int) == 6)=false:=by simp;omega
 clear S hF hG ht bc;go_wp2_with(fail);refine(show Calls prog 50 #[.pointer (some ⟨g,0,none⟩),.string ⟨#[109,117,116,101,120]⟩] wr _ from aW [109,117,116,101,120] g A n c T (k+1+3*j) deep wr a2.1 true (br.2.2.mu j ad) (λ_=>ad)).mono ?_;rintro e bV ⟨rfl,S,bZ⟩;have cb:=ak (show aH bV g A n c T (k+1+3*j+1) deep from by simpa using S) bZ;have cu:=bZ.size;clear S bZ co bQ I;go_upto_region 9 with(fail);generalize hX:World.alloc _ _=X;have bf:=aY hX;have a6:=aF hX;have aJ:=av (cb.1.aj bf) bf a6;have Q:=a6.lt;clear hX bf a6;go_wp2_with(fail);refine(g7 g A n c T (k+1+3*j+1) deep X t aJ.1 (br.2.2.nm j t a2.2.2.2.1).1 (br.2.2.nm j t a2.2.2.2.1).2 ad).mono ?_;rintro e cE ⟨rfl,S,G⟩;have bJ:=aJ.2.2.on G ad;have bg:=av (show aH cE g A n c T (k+1+3*j+2) deep from S) G bJ;have dc:=G.size;obtain⟨bl,U,aE⟩:=bJ.two;clear S G bJ;go_upto_region 10 with(fail);generalize cm:World.setCell _ _ _=Y;have bu:=da cm;have bA:au Y bV.heap.size 166 #[.string (strOf t.text),.bool true]:=cm▸bg.2.2.bH 0 _;have bY:=bu.size;have u:Fr (λb=>b=g\/b=bV.heap.size) wr Y:=Fr.trans (Fr.trans (Fr.trans (cb.2.mono λ_ h=>.inl h) (aJ.2.1.mono λ_ h=>h.elim)) (bg.2.1.mono λ_ h=>.inl h)) (bu.mono λ_ h=>.inr h);exact zd
 ):p:=h
theorem qW(h:p:=by
 clear S hF H1;go_wp2_with(fail);generalize bo:r.length=N at *;go_loopw [3] (λz wr=>∃(j:Nat) (D:Kj) (l:Nat),z=.slice D j l/\j<N/\aH wr g A n c T (k+1+3*j) deep/\Fr (λb=>b=g) w wr/\Gr (λb=>w.heap.size<=b) w.heap.size 166 2 wr D j l (((r.take j).map jJ).map dU)) (λz _=>N - um z)
 case atStart=>exact⟨0,none,0,rfl,aa,bO.1,bO.2,Gr.nil _ _ _ _ _⟩
 case round=>
  exact zw
 ):p:=h
end AR
open AR in
theorem uO(g:Nat)(A:Kj)(n c:Nat)(T:List Tok)(k deep:Nat)(r:List Tok)(w:World)(h:aH w g A n c T k deep)(ac:aN [40] T k=true)(ap:aN [41] T (k+1)=false)(bP:DY T (k+1) r)(aj:k+1+3*r.length<n) :
  Calls prog 54 #[.pointer (some ⟨g,0,none⟩)] w λe J=>∃D m l,e=.returned (.slice D m l)/\m<=l/\aH J g A n c T (k+1+3*r.length) deep/\Fr (λb=>b=g) w J/\Sl J (fresh w J) D m ((r.map jJ).map dU):=by
 have H:=ae h;have bC:=h.blk.lt;have aa:=bP.pos;have L:=bP.iN;have br:=av ac ap bP;clear h ac ap bP;go_enter func54,ntmps54;exact qV
def jG(t:Tok):dh:=.mx ⟨strOf t.text,none⟩
theorem wX{w:World}(t:Tok):(eg (jG t)).rep w P [.bool true,.string (strOf t.text),.slice none 0 0,.int .i64 0,.int .i64 0,.string ⟨#[]⟩,.slice none 0 0]:=by
 have h:=ES (w:=w) (P:=P) (r:=⟨strOf t.text,none⟩) (IA:=none) (i:=0) (ic:=0) (Sl.c7 _) (JI _);exact h
namespace AS
theorem ze(h:p:=by
 have hd:(eg (jG t)).rep Y (mS (λb=>w.heap.size<=b) Y (.slice D j l)) (#[.bool true,.string (strOf t.text),.slice none 0 0,.int .i64 0,.int .i64 0,.string ⟨#[]⟩,.slice none 0 0]:Array Value).toList:=wX t;obtain⟨M,bi⟩:=aI hd bc;clear cm bu bA u bc F K bl U aE hd;go_wp2_with(at_builtin;refine cn vR rfl (.tmp 23) (.tmp 25) rfl bw.2.2.1 (d:=eg (jG t)) (cs:=#[.bool true,.string (strOf t.text),.slice none 0 0,.int .i64 0,.int .i64 0,.string ⟨#[]⟩,.slice none 0 0]) M.o rfl rfl rfl ad ad ad ?_;intro bU c3 cy bX g2 cv cR;have bN:=av bX g2 cR;clear bX g2 cv cR);have s:aH cy g A n c T (k+1+3*j+2) deep:=bw.1.on bN.2.1 λb O=>by have:=(bi.o b O).1;omega
 have i:Fr (λb=>b=g) w cy:=Fr.cut (Fr.trans bw.2.1 (bN.2.1.mono λb O=>.inr (bi.o b O).1));have x:Gr (λb=>w.heap.size<=b) w.heap.size 215 7 cy bU (j+1) c3 (((r.take (j+1)).map jG).map eg):=by
  exact yC
 exact Fi
 ):p:=h
theorem zx(h:p:=by
 have bK:aN [91] T (k+1+3*j+1+1)=false:=by
  by_cases y:j+1<N
  .exact cI (by rw[br.2.2.co j ad];exact decide_eq_true ad) (by decide)
  .exact cI (br.2.2.cl j ad) (by decide)
 have ay:=ae bK;clear S hF hG ht bc bK;go_upto_region 7 with(fail);generalize hX:World.alloc _ _=X;have bf:=aY hX;have a6:=aF hX;have aJ:=av (a2.1.aj bf) bf a6;have Q:=a6.lt;clear hX bf a6 co bQ I;go_wp2_with(fail);refine(show Calls prog 50 #[.pointer (some ⟨g,0,none⟩),.string ⟨#[109,117,116,101,120]⟩] X _ from aW [109,117,116,101,120] g A n c T (k+1+3*j) deep X aJ.1 true (br.2.2.mu j ad) (λ_=>ad)).mono ?_;rintro e bV ⟨rfl,S,bZ⟩;have cb:=av (show aH bV g A n c T (k+1+3*j+1) deep from by simpa using S) bZ (aJ.2.2.on bZ ad);have cu:=bZ.size;clear S bZ;go_wp2_with(fail);refine(uP g A n c T (k+1+3*j+1) deep bV t cb.1 (br.2.2.nm j t a2.2.2.2.1).1 (br.2.2.nm j t a2.2.2.2.1).2 ay.o ad).mono ?_;rintro e cE ⟨rfl,S,G⟩;have bJ:=cb.2.2.on G ad;have bg:=av (show aH cE g A n c T (k+1+3*j+2) deep from S) G bJ;have dc:=G.size;obtain⟨bl,U,aE⟩:=bJ.two;clear S G bJ;go_upto_region 10 with(fail);generalize cm:World.setCell _ _ _=Y;obtain⟨bA,bu⟩:=ej 0 [.bool true,.string (strOf t.text),.slice none 0 0,.int .i64 0,.int .i64 0,.string ⟨#[]⟩,.slice none 0 0] bg.2.2 cm;have bA:au Y wr.heap.size 215 #[.bool true,.string (strOf t.text),.slice none 0 0,.int .i64 0,.int .i64 0,.string ⟨#[]⟩,.slice none 0 0]:=bA;have bY:=bu.size;have u:Fr (λb=>b=g\/b=wr.heap.size) wr Y:=Fr.trans (Fr.trans (Fr.trans (aJ.2.1.mono λ_ h=>h.elim) (cb.2.1.mono λ_ h=>.inl h)) (bg.2.1.mono λ_ h=>.inl h)) (bu.mono λ_ h=>.inr h);exact zd
 ):p:=h
theorem qW(h:p:=by
 clear S hF H1;go_wp2_with(fail);generalize bo:r.length=N at *;go_loopw [3] (λz wr=>∃(j:Nat) (D:Kj) (l:Nat),z=.slice D j l/\j<N/\aH wr g A n c T (k+1+3*j) deep/\Fr (λb=>b=g) w wr/\Gr (λb=>w.heap.size<=b) w.heap.size 215 7 wr D j l (((r.take j).map jG).map eg)) (λz _=>N - um z)
 case atStart=>exact⟨0,none,0,rfl,aa,bO.1,bO.2,Gr.nil _ _ _ _ _⟩
 case round=>
  exact zw
 ):p:=h
end AS
open AS in
theorem Ds(g:Nat)(A:Kj)(n c:Nat)(T:List Tok)(k deep:Nat)(r:List Tok)(w:World)(h:aH w g A n c T k deep)(ac:aN [40] T k=true)(ap:aN [41] T (k+1)=false)(bP:DY T (k+1) r)(aj:k+1+3*r.length<n) :
  Calls prog 128 #[.pointer (some ⟨g,0,none⟩)] w λe J=>∃D m l,e=.returned (.slice D m l)/\m<=l/\aH J g A n c T (k+1+3*r.length) deep/\Fr (λb=>b=g) w J/\Sl J (fresh w J) D m ((r.map jG).map eg):=by
 have H:=ae h;have bC:=h.blk.lt;have aa:=bP.pos;have L:=bP.iN;have br:=av ac ap bP;clear h ac ap bP;go_enter func128,ntmps128;exact qV
def wS(T:List Tok)(k:Nat)(r:List Tok):Prop:=aN [40] T k=true/\((r=[]/\aN [41] T (k+1)=true)\/(aN [41] T (k+1)=false/\DY T (k+1) r))
def ed(k:Nat)(r:List Tok):Nat:=if r.length=0 then k+2 else k+1+3*r.length
theorem Dr(g:Nat)(A:Kj)(n c:Nat)(T:List Tok)(k deep:Nat)(r:List Tok)(w:World)(h:aH w g A n c T k deep)(bP:wS T k r)(aj:ed k r<n) :
  Calls prog 128 #[.pointer (some ⟨g,0,none⟩)] w λe J=>∃D m l,e=.returned (.slice D m l)/\m<=l/\aH J g A n c T (ed k r) deep/\Fr (λb=>b=g) w J/\Sl J (fresh w J) D m ((r.map jG).map eg):=by
 obtain⟨h0,bP|bP⟩:=bP
 .obtain⟨rfl,ac⟩:=bP;refine(EI g A n c T k deep w h h0 ac aj).mono ?_;exact yo
 .have hp:r.length≠0:=by have:=bP.2.pos;omega
  have he:ed k r=k+1+3*r.length:=by unfold ed;rw[if_neg hp]
  rw[he] at aj ⊢;exact Ds g A n c T k deep r w h h0 bP.1 bP.2 aj
theorem oQ(g:Nat)(A:Kj)(n c:Nat)(T:List Tok)(k deep:Nat)(r:List Tok)(w:World)(h:aH w g A n c T k deep)(bP:wS T k r)(aj:ed k r<n) :
  Calls prog 54 #[.pointer (some ⟨g,0,none⟩)] w λe J=>∃D m l,e=.returned (.slice D m l)/\m<=l/\aH J g A n c T (ed k r) deep/\Fr (λb=>b=g) w J/\Sl J (fresh w J) D m ((r.map jJ).map dU):=by
 obtain⟨h0,bP|bP⟩:=bP
 .obtain⟨rfl,ac⟩:=bP;refine(xt g A n c T k deep w h h0 ac aj).mono ?_;exact yo
 .have hp:r.length≠0:=by have:=bP.2.pos;omega
  have he:ed k r=k+1+3*r.length:=by unfold ed;rw[if_neg hp]
  rw[he] at aj ⊢;exact uO g A n c T k deep r w h h0 bP.1 bP.2 aj
def Dd(T:List Tok):Nat->Nat->Option (List Tok)
 | 0,_=>none
 | f+1,k=>match T[k+1]? with
  | none=>none
  | some t=>
   if t.kind=1 then
    if aN [109,117,116,101,120] T k then
     if aN [44] T (k+2) then (Dd T f (k+3)).map (t::·) else if aN [41] T (k+2) then some [t] else none
    else none
   else none
def uw(T:List Tok)(k:Nat):Option (List Tok):=if aN [40] T k then (if aN [41] T (k+1) then some [] else Dd T 6 (k+1)) else none
theorem De:∀(f k:Nat) (r:List Tok),f<=6->Dd T f k=some r->DY T k r/\r.length<=f:=by
 intro f
 induction f with
 | zero=>intro k r _ h;cases h
 | succ f ab=>
  intro k r aA h;simp only[Dd] at h;split at h
  .cases h
  .rename_i t ht;split at h
   .rename_i bx;split at h
    .rename_i hm;split at h
     .rename_i hc
      cases aZ:Dd T f (k+3) with
      | none=>rw[aZ] at h;cases h
      | some l=>
       rw[aZ] at h;simp only[Option.map_some] at h;injection h with h;subst h;obtain⟨hl,hn⟩:=ab (k+3) l ad aZ;have hp:=hl.pos;refine⟨⟨by simp,by simp;omega,?_,?_,?_,?_⟩,by simp;omega⟩
       .intro j be
        cases j with
        | zero=>exact hm
        | succ j=>rw[show k+3*(j+1)=k+3+3*j by omega];exact hl.mu j (by simpa using be)
       .intro j u i
        cases j with
        | zero=>injection i with i;subst i;exact⟨ht,bx⟩
        | succ j=>rw[show k+3*(j+1)=k+3+3*j by omega];exact hl.nm j u (by simpa using i)
       .intro j be
        cases j with
        | zero=>rw[show k+3*0+2=k+2 by omega,hc];simp;omega
        | succ j=>rw[show k+3*(j+1)+2=k+3+3*j+2 by omega,hl.co j (by simpa using be)];simp
       .intro j be
        cases j with
        | zero=>simp only[JV] at be;omega
        | succ j=>rw[show k+3*(j+1)+2=k+3+3*j+2 by omega];exact hl.cl j (by simpa using be)
     .rename_i hc;split at h
      .rename_i aD;injection h with h;subst h;refine⟨⟨by simp,by simp,?_,?_,?_,?_⟩,by simp⟩
       .intro j be;have:j=0:=by simp at be;omega
        subst this;exact hm
       .intro j u i
        cases j with
        | zero=>injection i with i;subst i;exact⟨ht,bx⟩
        | succ j=>cases i
       .intro j be;have:j=0:=by simp at be;omega
        subst this;simpa using hc
       .intro j be;have:j=0:=by simp at be;omega
        subst this;exact aD
      .cases h
    .cases h
   .cases h
theorem oy{r:List Tok}(h:uw T k=some r):wS T k r:=by
 unfold uw at h;split at h
 .rename_i h0;split at h
  .rename_i ac;injection h with h;exact⟨h0,.inl ⟨h.symm,ac⟩⟩
  .rename_i ac;exact⟨h0,.inr ⟨by simpa using ac,(De 6 _ _ (JI _) h).1⟩⟩
 .cases h
theorem wi(k:Nat)(r:List Tok):k+2<=ed k r:=by
 unfold ed;split<;>omega
theorem lF{α:Type}(f:α->ByteArray)(k:Int):∀(l:List α) (j i:Nat),(hN f k l j)[i]?=(l[i]?).map λx=>⟨f x,k,((j+i:Nat):Int)⟩
 | [],j,i=>by simp[hN]
 | x::l,j,0=>by simp[hN]
 | x::l,j,i+1=>by
  rw[hN,List.getElem?_cons_succ,List.getElem?_cons_succ,lF f k l (j+1) i,show j+1+i=j+(i+1) by omega]
theorem dX{α:Type}(f:α->ByteArray)(k:Int):∀(l:List α) (j:Nat),(hN f k l j).length=l.length
 | [],_=>rfl
 | x::l,j=>by simp[hN,dX f k l (j+1)]
theorem kg(p:bC):(a5 p).length=p.globals.length+p.af.length+p.funcs.length:=by simp[a5,dX];omega
theorem Ea{p:bC}{g:ByteArray×Int}(h:p.globals[i]?=some g):(a5 p)[i]?=some ⟨g.1,1,(i:Int)⟩:=by
 have hl:=(List.getElem?_eq_some_iff.1 h).1;unfold a5;rw[List.getElem?_append_left (by simp[dX];omega),List.getElem?_append_left (by simp[dX];omega),lF,h];simp
theorem Eb{p:bC}(h:p.af[i]?=some m):(a5 p)[p.globals.length+i]?=some ⟨m.name,2,(i:Int)⟩:=by
 have hl:=(List.getElem?_eq_some_iff.1 h).1;unfold a5;rw[List.getElem?_append_left (by simp[dX];omega),List.getElem?_append_right (by simp[dX]),dX,lF,show p.globals.length+i - p.globals.length=i by omega,h];simp
theorem vY{p:bC}(h:p.funcs[i]?=some f):(a5 p)[p.globals.length+p.af.length+i]?=some ⟨f.name,3,(i:Int)⟩:=by
 unfold a5;rw[List.getElem?_append_right (by simp[dX]),JK,dX,dX,lF,show p.globals.length+p.af.length+i - (p.globals.length+p.af.length)=i by omega,h];simp
theorem j2{L:List dv}(hn:(L.map (·.name)).Nodup){e:dv}(he:L[i]?=some e):dg (L.take i) e.name=none:=by
 refine ji λj x be hx=>?_;have ag:j<i:=by have:=(List.getElem?_eq_some_iff.1 be).1;simp at this;omega
 have k:L[j]?=some x:=by rw[<-be,List.getElem?_take_of_lt ag]
 have ac:(L.map (·.name))[j]?=some x.name:=by rw[List.getElem?_map,k];rfl
 have ap:(L.map (·.name))[i]?=some e.name:=by rw[List.getElem?_map,he];rfl
 have bF:=(List.getElem?_eq_some_iff.1 ac).1;have cC:=(List.getElem?_eq_some_iff.1 ap).1;rw[List.getElem?_eq_getElem bF] at ac;rw[List.getElem?_eq_getElem cC] at ap;injection ac with ac;injection ap with ap;have:=(List.getElem_inj hn).1 (ac.trans (hx.trans ap.symm));omega
theorem mJ{p:bC}(hp:nE p):((a5 p).map (·.name)).Nodup:=by rw[fo];exact hp.nodup
def DX(w:World)(p:bC)(e:Ending)(J:World):Prop:=∃(bo:Kj) (lc:Nat),e=.returned (.tuple #[.slice bo (a5 p).length lc,.int .i64 (-1)])/\Sl J (fresh w J) bo (a5 p).length ((a5 p).map bR)/\Ext w J
theorem mD{p:bC}{e:dv}(h:(a5 p)[k]?=some e):((a5 p).take (k+1)).map bR=((a5 p).take k).map bR++[bR e]:=by rw[aX h,JP];rfl
namespace A6
theorem eI(h:p:=by
 generalize hV:World.drew (World.alloc _ _)=V;have T:=jW hV;have b8:au V wr.heap.size 133 #[.string f.name,.int .i64 3,.int .i64 j]:=hV▸(Kg).drew;obtain⟨b9,r⟩:=aI T b8;have aT:=ae (bd.trans T);have bt:=ae (bL.aj T);have aB:=ae (bS.aj T);have ab:=j2 u.o d;have bZ:=aB.sl (Q:=ao V) (λb _ h=>h.elim) (λb _ h=>by assumption);clear hV T b8 c0 aN a0 al af;obtain⟨d0,aQ,aR⟩:=r.two;go_wp2_with(fail);refine(dC A (gn+mn+j) c _ f.name _ bZ ad).mono ?_;rintro e aL ⟨rfl,L⟩
 try simp only at ab
 rw[ab];simp only[ia];have a4:=ae (aT.trans L);have cb:=ae (bt.aj L);have cj:=ae (aB.aj L);have i:=r.aj L;clear d0 aQ aR L bZ;go_upto_region 15 with(fail);generalize cm:World.alloc _ _=Y;have s:=aY cm;have n:=i.aj s;have q:=ae (cj.aj s);have b4:=ae (a4.trans s);have br:=ae (cb.aj s);clear cm i s;obtain⟨d0,aQ,aR⟩:=n.two;have bY:=b4.size;have aP:=br.lt;clear n;go_wp2_with((at_builtin;refine cn ir rfl (.tmp 88) (.tmp 90) rfl q.o (jh ⟨f.name,3,(j:Int)⟩) rfl rfl rfl ad ad ad ?_;intro bg c2 aV bb ax I ck));have N:Gr (λ_=>False) (w.heap.size+1) 133 3 aV bg (gn+mn+j+1) c2 (((a5 p).take (gn+mn+j+1)).map bR):=by rw[mD d];exact bb
 have b5:Ext w aV:=Fr.low (M:=λb=>w.heap.size<=b) ((b4.mono λ_ h=>h.elim).trans (ax.mono λb O=>by have:=(q.lt O).1;omega)) λ_ h=>h;have b7:=br.on ax λO=>by have:=(q.lt O).1;omega
 have bN:=av N b5 b7;clear N b5 b7 bb ax I d0 aQ aR;go_wp2;go_roundw
 case rel=>exact⟨rfl,(gn+mn+j)+1,bg,c2,ad,by go_num,rfl,bN.o⟩
 case measure=>exact aU
 ):p:=h
theorem q6(h:p:=by
 have u:=ae (mJ hp);obtain⟨cO,cF,b6⟩:=eS aS hm aA;have l:=ae (kg p);have ce:(a5 p).length=gn+mn+fn:=by rw[kg,dB,lm,lf]
 have bW:=av dB lm lf;clear h aS hm aA hp dB lm lf;go_enter func57,ntmps57;go_upto_region 1 with(fail);generalize ba:World.alloc _ _=W;have ar:=aY ba;have aK:=aF ba;obtain⟨bd,bL⟩:=aI ar aK;obtain⟨a0,al,af⟩:=aK.two;clear ba ar aK;go_wp2;clear a0 al af;go_loopw [4,5,7] (λz bv cr wr=>bv=.int .i64 (-1)/\∃(k:Nat) (A:Kj) (c:Nat),k<=gn+mn+fn/\cr=.int .i64 k/\z=.slice A k c/\Gr (λ_=>False) (w.heap.size+1) 133 3 wr A k c (((a5 p).take k).map bR)/\Ext w wr/\au wr w.heap.size 44 #[.slice GA gn gc,.slice MA mn mc,.slice FA fn fc]) (λ_ _ cr _=>gn+mn+fn - (intOf cr).toNat)
 case atStart=>exact⟨rfl,0,none,0,ad,rfl,rfl,Gr.nil _ _ _ _ _,bd.o,bL.o⟩
 case round=>
  obtain⟨rfl,k,A,c,aj,rfl,rfl,hG,ar,aK⟩:=hrel;clear bd bL;obtain⟨bS,bd,bL⟩:=eS hG ar aK;obtain⟨a0,al,af⟩:=aK.two;have l4:=ar.size;clear hG ar aK;by_cases aq:k<gn+mn+fn
  .by_cases ac:k<gn
   ·
    obtain⟨b,o,g,cs,rfl,O,hx,aZ,a8,Z⟩:=(cO.on (Fr.ext bd.o)).iG nq ac;obtain rfl:=lD.1 aZ;have c0:=Z 0 _ rfl;simp only[JS] at c0;have aN:b<wr.heap.size:=O;have d:=Ea hx;have q1:decide ((k:Int) - (gn:Int)<0)=true:=by first|(simp;done)|(simp;omega)
    clear aZ a8 Z hx O;go_upto_region 14 with(fail);generalize hV:World.alloc _ _=V;have T:=aY hV;have b8:=aF hV;obtain⟨b9,r⟩:=aI T b8;have aT:=ae (bd.trans T);have bt:=ae (bL.aj T);have aB:=ae (bS.aj T);have ab:=j2 u.o d;have bZ:=aB.sl (Q:=ao V) (λb _ h=>h.elim) (λb _ h=>by assumption);clear hV T b8 c0 aN a0 al af;obtain⟨d0,aQ,aR⟩:=r.two;go_wp2_with(fail);refine(dC A k c _ g.1 _ bZ ad).mono ?_;rintro e aL ⟨rfl,L⟩
    try simp only at ab
    rw[ab];simp only[ia];have a4:=ae (aT.trans L);have cb:=ae (bt.aj L);have cj:=ae (aB.aj L);have i:=r.aj L;clear d0 aQ aR L bZ;go_upto_region 15 with(fail);generalize cm:World.alloc _ _=Y;have s:=aY cm;have n:=i.aj s;have q:=ae (cj.aj s);have b4:=ae (a4.trans s);have br:=ae (cb.aj s);clear cm i s;obtain⟨d0,aQ,aR⟩:=n.two;have bY:=b4.size;have aP:=br.lt;clear n;go_wp2_with((at_builtin;refine cn ir rfl (.tmp 88) (.tmp 90) rfl q.o (jh ⟨g.1,1,(k:Int)⟩) rfl rfl rfl ad ad ad ?_;intro bg c2 aV bb ax I ck));have N:Gr (λ_=>False) (w.heap.size+1) 133 3 aV bg (k+1) c2 (((a5 p).take (k+1)).map bR):=by rw[mD d];exact bb
    have b5:Ext w aV:=Fr.low (M:=λb=>w.heap.size<=b) ((b4.mono λ_ h=>h.elim).trans (ax.mono λb O=>by have:=(q.lt O).1;omega)) λ_ h=>h;have b7:=br.on ax λO=>by have:=(q.lt O).1;omega
    have bN:=av N b5 b7;clear N b5 b7 bb ax I d0 aQ aR;go_wp2;go_roundw
    case rel=>exact⟨rfl,k+1,bg,c2,ad,by go_num,rfl,bN.o⟩
    case measure=>exact aU
   .by_cases ap:k - gn<mn
    ·
     obtain⟨b,o,m,cs,rfl,O,hx,aZ,a8,Z⟩:=(cF.on (Fr.ext bd.o)).iG rk ap;obtain rfl:=ih.1 aZ;have c0:=Z 0 _ rfl;simp only[JS] at c0;have aN:b<wr.heap.size:=O;have d:=Eb hx;obtain⟨j,be⟩:∃j,k=gn+j:=⟨k - gn,ad⟩
     subst be;have y:gn+j - gn=j:=ad;rw[y] at c0 ap d hx;rw[bW.1] at d;have v:(gn:Int)+(j:Int) - (gn:Int)=(j:Int):=ad;have q1:decide ((j:Int)<0)=false:=by first|(simp;done)|(simp;omega)
     have cM:((j:Int)<(mn:Int)):=ad;clear aZ a8 Z hx O;go_upto_region 14 with(fail);generalize hV:World.alloc _ _=V;have T:=aY hV;have b8:=aF hV;obtain⟨b9,r⟩:=aI T b8;have aT:=ae (bd.trans T);have bt:=ae (bL.aj T);have aB:=ae (bS.aj T);have ab:=j2 u.o d;have bZ:=aB.sl (Q:=ao V) (λb _ h=>h.elim) (λb _ h=>by assumption);clear hV T b8 c0 aN a0 al af;obtain⟨d0,aQ,aR⟩:=r.two;go_wp2_with(fail);refine(dC A (gn+j) c _ m.name _ bZ ad).mono ?_;rintro e aL ⟨rfl,L⟩
     try simp only at ab
     rw[ab];simp only[ia];have a4:=ae (aT.trans L);have cb:=ae (bt.aj L);have cj:=ae (aB.aj L);have i:=r.aj L;clear d0 aQ aR L bZ;go_upto_region 15 with(fail);generalize cm:World.alloc _ _=Y;have s:=aY cm;have n:=i.aj s;have q:=ae (cj.aj s);have b4:=ae (a4.trans s);have br:=ae (cb.aj s);clear cm i s;obtain⟨d0,aQ,aR⟩:=n.two;have bY:=b4.size;have aP:=br.lt;clear n;go_wp2_with((at_builtin;refine cn ir rfl (.tmp 88) (.tmp 90) rfl q.o (jh ⟨m.name,2,(j:Int)⟩) rfl rfl rfl ad ad ad ?_;intro bg c2 aV bb ax I ck));have N:Gr (λ_=>False) (w.heap.size+1) 133 3 aV bg (gn+j+1) c2 (((a5 p).take (gn+j+1)).map bR):=by rw[mD d];exact bb
     have b5:Ext w aV:=Fr.low (M:=λb=>w.heap.size<=b) ((b4.mono λ_ h=>h.elim).trans (ax.mono λb O=>by have:=(q.lt O).1;omega)) λ_ h=>h;have b7:=br.on ax λO=>by have:=(q.lt O).1;omega
     have bN:=av N b5 b7;clear N b5 b7 bb ax I d0 aQ aR;go_wp2;go_roundw
     case rel=>exact⟨rfl,(gn+j)+1,bg,c2,ad,by go_num,rfl,bN.o⟩
     case measure=>exact aU
    ·
     have aD:k - gn - mn<fn:=ad;obtain⟨b,o,f,cs,rfl,O,hx,aZ,a8,Z⟩:=(b6.on (Fr.ext bd.o)).iG oc aD;obtain⟨PA,pn,pc,cW,bn,bc,rfl,_,_⟩:=j0 aZ;have c0:=Z 0 _ rfl;simp only[JS] at c0;have aN:b<wr.heap.size:=O;have d:=vY hx;obtain⟨j,be⟩:∃j,k=gn+mn+j:=⟨k - gn - mn,ad⟩
     subst be;have y:gn+mn+j - gn - mn=j:=ad;rw[y] at c0 aD d hx;rw[bW.1,bW.2.1] at d;have v:(gn:Int)+(mn:Int)+(j:Int) - (gn:Int)=(mn:Int)+(j:Int):=ad;have bi:(mn:Int)+(j:Int) - (mn:Int)=(j:Int):=ad;have q1:decide ((mn:Int)+(j:Int)<0)=false:=by first|(simp;done)|(simp;omega)
     have cM:decide ((mn:Int)+(j:Int)<(mn:Int))=false:=by first|(simp;done)|(simp;omega)
     have x:IntKind.i64.wrap (j:Int)=j:=IntWalk.i64_in _ ad;clear aZ a8 Z hx O;go_wp2;refine fj (λ_=>False) [(0,3),(1,0),(2,3),(3,3),(4,0),(5,3),(6,3),(7,3),(8,3),(9,0),(10,3),(11,3),(12,0),(13,3),(14,3),(15,3),(16,2)] ?_;refine pf ?_;refine ph ?_
     iterate 2 refine pf ?_
     refine ph ?_
     iterate 4 refine pf ?_
     refine ph ?_
     iterate 2 refine pf ?_
     refine ph ?_
     iterate 3 refine pf ?_
     exact gM
  .obtain rfl:gn+mn+fn=k:=ad;go_wp2
   go_ret2
   refine⟨A,c,by rw[ce];rfl,?_,bd.o⟩;have:=bS.o;rw[JQ ad] at this;rw[ce];exact this.sl (λb _ h=>h.elim) λb ac ap=>⟨ad,ac⟩
 ):p:=h
theorem tC(h:p:=by
 exact q4
 ):p:=h
end A6
open A6 in
theorem ri(p:bC)(hp:nE p)(GA:Kj)(gn gc:Nat)(MA:Kj)(mn mc:Nat)(FA:Kj)(fn fc:Nat)(w:World)(h:fU w (ao w) p GA gn MA mn FA fn) :
  Calls prog 57 #[.agg #[.slice GA gn gc,.slice MA mn mc,.slice FA fn fc]] w (DX w p):=by
 exact tB
end Go.Proofs.YtnigabjngpnbiaaGreat

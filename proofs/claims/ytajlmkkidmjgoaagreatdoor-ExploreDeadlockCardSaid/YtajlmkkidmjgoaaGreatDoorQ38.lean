/- Part 38 of the proof. No condition of its own. -/
import Derived.Test.YtajlmkkidmjgoaaGreatDoorQ31
import Derived.Test.YtajlmkkidmjgoaaGreatDoorQ35
namespace Go.Proofs.YtajlmkkidmjgoaaGreatDoor
open Go.RowKit Go.Proofs.Tryz
set_option maxRecDepth 1000000
set_option maxHeartbeats 25600000
set_option linter.unusedVariables false
variable{T:List Tok}{c deep f g k n u:Nat}{P:Nat->Prop}{A:IP}{p:Prop}{w:World}{st:ay}
def qJ(k:Int)(n m:ByteArray):List Value:=[.int .i64 k,.string n,.int .i64 0,.int .i64 0,.string ⟨#[]⟩,.slice none 0 0,.string m,.slice none 0 0,.slice none 0 0,.slice none 0 0,.slice none 0 0]
def Eo(n:ByteArray)(D:IP)(m L:Nat):List Value:=[.int .i64 4,.string n,.int .i64 0,.int .i64 0,.string ⟨#[]⟩,.slice none 0 0,.string ⟨#[]⟩,.slice none 0 0,.slice D m L,.slice none 0 0,.slice none 0 0]
theorem Fa{n:ByteArray}{D:IP}{m L:Nat}{aJ:List cW}(h:Sl w P D m (aJ.map ep))(hm:m<=L):(a3 (.call true n aJ)).rep w P (Eo n D m L):=eg lI km h hm (Sl.bH _) (Hx _) (Sl.bH _) (Hx _)
theorem s7(u:Bool)(n:ByteArray):(a3 (.lock u ⟨n,none⟩)).rep w P (qJ (if u then 6 else 5) ⟨#[]⟩ n):=
 eg lI (iS.2 ⟨none,0,0,rfl,Hx _,Sl.bH _⟩) (Sl.bH _) (Hx _) (Sl.bH _) (Hx _) (Sl.bH _) (Hx _)
structure xY(w ab:World)(g:Nat)(A:IP)(n c:Nat)(T:List Tok)(k deep:Nat)(cs:List Value):Prop where
 ps:bu ab g A n c T k deep
 fr:Fr (λb=>b=g) w ab
 r:an ab w.heap.size 153 #[.int .i64 0,.string ⟨#[]⟩,.int .i64 0,.int .i64 0,.string ⟨#[]⟩,.slice none 0 0,.string ⟨#[]⟩,.slice none 0 0,.slice none 0 0,.slice none 0 0,.slice none 0 0]
 s:an ab (w.heap.size+1) 153 cs.toArray
theorem xY.on{w ab aT:World}{g:Nat}{A:IP}{n c:Nat}{T:List Tok}{k u deep:Nat}{cs:List Value}(h:xY w ab g A n c T k deep cs)(aM:g<w.heap.size)(hp:bu aT g A n c T u deep)(aA:Fr (λb=>b=g) ab aT):xY w aT g A n c T u deep cs:=
 ⟨hp,h.fr.trans aA,h.r.on aA ad,h.s.on aA ad⟩
theorem xY.set{ab aT:World}{cs f:List Value}(h:xY w ab g A n c T k deep cs)(aM:g<w.heap.size)(aA:Fr (λb=>b=w.heap.size+1) ab aT)(hs:an aT (w.heap.size+1) 153 f.toArray):xY w aT g A n c T k deep f:=
 ⟨h.ps.on aA λb O=>ad,h.fr.eA (aA.below h.fr.size λk ap hm=>ad),h.r.on aA ad,hs⟩
namespace Al
theorem tB(h:p:=by
 refine(show Calls prog 62 #[.pointer (some ⟨g,0,none⟩),.string ⟨#[103,111]⟩] aO _ from cp [103,111] g A n c T k deep aO H1.ps true (by first|exact bG.1|exact eO bG.1 (by decide)) (λh=>by first|omega|cases h)).mono ?_;rintro e aT ⟨rfl,U,hF⟩;have bi:=ae (H1.on cg (show bu aT g A n c T (k+1) deep from by simpa using U) hF);clear U hF;clear H1;obtain⟨d0,aP,aQ⟩:=bi.s.two;clear d0 aP aQ;go_wp2_with(fail);refine(mo g A n c T (k+1) deep aT t bi.ps bG.2.1 bG.2.2.1 ad).mono ?_;rintro e i ⟨rfl,U,hF⟩;have HA:=ae (bi.on cg U hF);clear U hF bi;obtain⟨d0,aP,aQ⟩:=HA.s.two;simp only[qJ] at d0;go_upto_region 15 with(fail);generalize hX:World.setCell _ _ _=X;have aV:IS (xY w X g A n c T (k+1+1) deep (qJ 4 (strOf t.text) ⟨#[]⟩)):=by
  refine ae (HA.set cg (by rw[<-hX];exact((Fr.refl (λb=>b=w.heap.size+1) i).setCell (.inl rfl) _).setCell (.inl rfl) _) ?_);rw[<-hX];exact(HA.s.aI 0 (.int .i64 4)).aI 1 (.string (strOf t.text))
 clear hX d0 aP aQ HA;go_wp2_with(fail);refine(BM g A n c T (k+1+1) deep r X aV.ps bG.2.2.2.1 (show eu (k+2) r<n by omega)).mono ?_;rintro e wb ⟨D,m,L,rfl,hm,U,hF,br⟩;have b9:w.heap.size+1<X.heap.size:=aV.s.lt;have a7:=aL (aV.on cg U hF) hm (br.mono (bW:=λb=>w.heap.size+1<b/\b<wb.heap.size) λb O=>⟨by have:=O.1;omega,O.2⟩);clear U hF aV hm br b9;obtain⟨d0,aP,aQ⟩:=a7.1.s.two;simp only[qJ] at d0;go_upto_region 16 with(fail);generalize hX:World.setCell _ _ _=Y;have P:=cT hX;have bY:IS (xY w Y g A n c T (eu (k+2) r) deep (Eo (strOf t.text) D m L)/\m<=L/\Sl Y (λb=>w.heap.size+1<b/\b<Y.heap.size) D m ((r.map jP).map ep)):=by
  refine ae ⟨a7.1.set cg P ?_,a7.2.1,?_⟩
  .rw[<-hX];exact a7.1.s.aI 8 (.slice D m L)
  .exact(a7.2.2.al λb O=>P.block b O.2 (aC O.1)).mono λb O=>⟨O.1,by have:=O.2;have:=P.size;omega⟩
 clear hX d0 aP aQ a7 P;go_wp2_with(fail);refine(show Calls prog 97 #[.pointer (some ⟨g,0,none⟩),.string ⟨#[59]⟩] Y _ from jE [59] g A n c T (eu (k+2) r) deep Y bY.1.ps bG.2.2.2.2 ap).mono ?_;rintro e az ⟨rfl,U,hF⟩;have a2:=aL (bY.1.on cg U hF) bY.2.1 ((bY.2.2.al λb O=>hF.block b O.2 (aC O.1)).mono (bW:=λb=>w.heap.size+1<b/\b<az.heap.size) λb O=>⟨O.1,by have:=O.2;have:=hF.size;omega⟩);clear U hF bY;obtain⟨d0,aP,aQ⟩:=a2.1.s.two;obtain⟨bD,aK,a9⟩:=a2.1.r.two;simp only[Eo] at d0;go_wp2_with(fail);generalize hX:World.setCell _ _ _=V;obtain⟨bK,bg,f⟩:=dG (M:=λb=>b=g) (w:=w) (Eo (strOf t.text) D m L) (by rfl) a2.1.r a2.1.fr (Hx _) hX;have ce:=bF (a2.1.ps.on f λb O=>ad) bg a2.2.1 ((a2.2.2.al λb O=>f.block b O.2 (aC O.1)).mono (bW:=fresh w V) λb O=>⟨by have:=O.1;omega,by have:=O.2;have:=f.size;omega⟩);clear hX bg f bD aK a9 d0 aP aQ;obtain⟨bD,aK,a9⟩:=bK.two;simp only[Eo] at bD;refine IJ (v:=.agg (Eo (strOf t.text) D m L).toArray) (by simp[results,Tryz.results98,go_sem,bD,Eo]) rfl ?_;exact⟨D,m,L,rfl,ce.2.2.1,ce.2.2.2,ce.1,ce.2.1⟩
 ):p:=h
end Al
open Al in
theorem Ga(g:Nat)(A:IP)(n c:Nat)(T:List Tok)(k deep:Nat)(w:World)(t:Tok)(h:bu w g A n c T k deep)(ac:bR [103,111] T k=true)(ht:T[k+1]?=some t)(bp:t.kind=1)(r:List Tok)(J:wO T (k+2) r)(bv:bR [59] T (eu (k+2) r)=true)(ap:eu (k+2) r+1<n) :
  Calls prog 98 #[.pointer (some ⟨g,0,none⟩)] w λe ab=>∃D m L,e=.returned (.agg (Eo (strOf t.text) D m L).toArray)/\m<=L/\Sl ab (fresh w ab) D m ((r.map jP).map ep)/\bu ab g A n c T (eu (k+2) r+1) deep/\Fr (λb=>b=g) w ab:=by
 have H:=ae h;have bG:=cK ac ht bp J bv;have cg:=h.blk.lt;have he:k+4<=eu (k+2) r:=by unfold eu;split<;>omega
 clear h ac ht bp J bv;exact tA
namespace Am
theorem yI(h:p:=by
 obtain⟨bK,bg,f⟩:=dG (M:=λb=>b=g) (w:=w) (qJ 5 ⟨#[]⟩ (strOf t.text)) (by rfl) a2.r a2.fr (Hx _) hX;have ce:=ai (a2.ps.on f λb O=>ad) bg;clear hX bg f bD aK a9 d0 aP aQ;obtain⟨bD,aK,a9⟩:=bK.two;simp only[qJ] at bD;refine IJ (v:=.agg (qJ 5 ⟨#[]⟩ (strOf t.text)).toArray) (by simp[results,Tryz.results98,go_sem,bD,qJ]) rfl ?_;exact⟨rfl,ce.1,ce.2⟩
 ):p:=h
theorem yL(h:p:=by
 refine(show Calls prog 62 #[.pointer (some ⟨g,0,none⟩),.string ⟨#[108,111,99,107]⟩] aT _ from cp [108,111,99,107] g A n c T k deep aT bi.ps true (by first|exact bG.1|exact eO bG.1 (by decide)) (λh=>by first|omega|cases h)).mono ?_;rintro e b4 ⟨rfl,U,hF⟩;have bI:=ae (bi.on cg (show bu b4 g A n c T (k+1) deep from by simpa using U) hF);clear U hF;clear bi;go_wp2_with(fail);refine(uO g A n c T (k+1) deep b4 t bI.ps bG.2.1 bG.2.2.1 bG.2.2.2.1 ad).mono ?_;rintro e i ⟨rfl,U,hF⟩;have HA:=ae (bI.on cg U hF);clear U hF bI;obtain⟨d0,aP,aQ⟩:=HA.s.two;simp only[qJ] at d0;go_upto_region 19 with(fail);generalize hX:World.setCell _ _ _=X;have aV:IS (xY w X g A n c T (k+1+1) deep (qJ 5 ⟨#[]⟩ (strOf t.text))):=by
  refine ae (HA.set cg (by rw[<-hX];exact(((Fr.refl (λb=>b=w.heap.size+1) i).setCell (.inl rfl) _).setCell (.inl rfl) _).setCell (.inl rfl) _) ?_);rw[<-hX];exact((HA.s.aI 0 (.int .i64 5)).aI 6 (.string (strOf t.text))).aI 7 (.slice none 0 0)
 exact yH
 ):p:=h
theorem tB(h:p:=by
 exact yK
 ):p:=h
end Am
open Am in
theorem Dc(g:Nat)(A:IP)(n c:Nat)(T:List Tok)(k deep:Nat)(w:World)(t:Tok)(h:bu w g A n c T k deep)(ac:bR [108,111,99,107] T k=true)(ht:T[k+1]?=some t)(bp:t.kind=1)(ct:bR [91] T (k+2)=false)(J:bR [59] T (k+2)=true)(ap:k+3<n) :
  Calls prog 98 #[.pointer (some ⟨g,0,none⟩)] w λe ab=>e=.returned (.agg (qJ 5 ⟨#[]⟩ (strOf t.text)).toArray)/\bu ab g A n c T (k+3) deep/\Fr (λb=>b=g) w ab:=by
 have H:=ae h;have bG:=cK ac ht bp ct J;have cg:=h.blk.lt;clear h ac ht bp ct J;exact tA
namespace An
theorem yI(h:p:=by
 obtain⟨bK,bg,f⟩:=dG (M:=λb=>b=g) (w:=w) (qJ 6 ⟨#[]⟩ (strOf t.text)) (by rfl) a2.r a2.fr (Hx _) hX;have ce:=ai (a2.ps.on f λb O=>ad) bg;clear hX bg f bD aK a9 d0 aP aQ;obtain⟨bD,aK,a9⟩:=bK.two;simp only[qJ] at bD;refine IJ (v:=.agg (qJ 6 ⟨#[]⟩ (strOf t.text)).toArray) (by simp[results,Tryz.results98,go_sem,bD,qJ]) rfl ?_;exact⟨rfl,ce.1,ce.2⟩
 ):p:=h
theorem yL(h:p:=by
 refine(show Calls prog 62 #[.pointer (some ⟨g,0,none⟩),.string ⟨#[108,111,99,107]⟩] aT _ from cp [108,111,99,107] g A n c T k deep aT bi.ps false (by first|exact bG.1|exact eO bG.1 (by decide)) (λh=>by first|omega|cases h)).mono ?_;rintro e b4 ⟨rfl,U,hF⟩;have bI:=ae (bi.on cg (show bu b4 g A n c T (k) deep from by simpa using U) hF);clear U hF;clear bi;go_wp2_with(fail);refine(show Calls prog 62 #[.pointer (some ⟨g,0,none⟩),.string ⟨#[117,110,108,111,99,107]⟩] b4 _ from cp [117,110,108,111,99,107] g A n c T k deep b4 bI.ps true (by first|exact bG.1|exact eO bG.1 (by decide)) (λh=>by first|omega|cases h)).mono ?_;rintro e eG ⟨rfl,U,hF⟩;have cq:=ae (bI.on cg (show bu eG g A n c T (k+1) deep from by simpa using U) hF);clear U hF;clear bI;go_wp2_with(fail);refine(uO g A n c T (k+1) deep eG t cq.ps bG.2.1 bG.2.2.1 bG.2.2.2.1 ad).mono ?_;rintro e i ⟨rfl,U,hF⟩;have HA:=ae (cq.on cg U hF);clear U hF cq;obtain⟨d0,aP,aQ⟩:=HA.s.two;simp only[qJ] at d0;go_upto_region 22 with(fail);generalize hX:World.setCell _ _ _=X;have aV:IS (xY w X g A n c T (k+1+1) deep (qJ 6 ⟨#[]⟩ (strOf t.text))):=by
  refine ae (HA.set cg (by rw[<-hX];exact(((Fr.refl (λb=>b=w.heap.size+1) i).setCell (.inl rfl) _).setCell (.inl rfl) _).setCell (.inl rfl) _) ?_);rw[<-hX];exact((HA.s.aI 0 (.int .i64 6)).aI 6 (.string (strOf t.text))).aI 7 (.slice none 0 0)
 exact yH
 ):p:=h
theorem tB(h:p:=by
 exact yK
 ):p:=h
end An
open An in
theorem xu(g:Nat)(A:IP)(n c:Nat)(T:List Tok)(k deep:Nat)(w:World)(t:Tok)(h:bu w g A n c T k deep)(ac:bR [117,110,108,111,99,107] T k=true)(ht:T[k+1]?=some t)(bp:t.kind=1)(ct:bR [91] T (k+2)=false)(J:bR [59] T (k+2)=true)(ap:k+3<n) :
  Calls prog 98 #[.pointer (some ⟨g,0,none⟩)] w λe ab=>e=.returned (.agg (qJ 6 ⟨#[]⟩ (strOf t.text)).toArray)/\bu ab g A n c T (k+3) deep/\Fr (λb=>b=g) w ab:=by
 have H:=ae h;have bG:=cK ac ht bp ct J;have cg:=h.blk.lt;clear h ac ht bp ct J;exact tA
def rJ(T:List Tok)(k:Nat):Option (ay×Nat):=match T[k+1]? with
 | none=>none
 | some t=>
  if t.kind=1 then
   if bR [103,111] T k then (ux T (k+2)).bind λr=>if bR [59] T (eu (k+2) r) && decide (eu (k+2) r+1<T.length) then some (.call true (strOf t.text) (r.map jP),eu (k+2) r+1) else none
   else if bR [108,111,99,107] T k && !bR [91] T (k+2) && bR [59] T (k+2) && decide (k+3<T.length) then some (.lock false ⟨strOf t.text,none⟩,k+3)
   else if bR [117,110,108,111,99,107] T k && !bR [91] T (k+2) && bR [59] T (k+2) && decide (k+3<T.length) then some (.lock true ⟨strOf t.text,none⟩,k+3)
   else none
  else none
theorem wD{s:ByteArray}(h:((ux T (k+2)).bind λr=>if bR [59] T (eu (k+2) r) && decide (eu (k+2) r+1<T.length) then some (ay.call true s (r.map jP),eu (k+2) r+1) else none)=some (st,u)):
  ∃r,wO T (k+2) r/\bR [59] T (eu (k+2) r)=true/\eu (k+2) r+1<T.length/\st=.call true s (r.map jP)/\u=eu (k+2) r+1:=by
 cases hl:ux T (k+2) with
 | none=>rw[hl] at h;cases h
 | some r=>
  rw[hl] at h;simp only[Option.bind_some] at h;split at h
  .rename_i hc;simp only[Il,IG] at hc;injection h with h;injection h with ac J;exact⟨r,sD hl,hc.1,hc.2,ac.symm,J.symm⟩
  .cases h
theorem wE(h:rJ T k=some (st,u)):k+3<=u:=by
 unfold rJ at h;split at h
 .cases h
 .split at h
  .split at h
   .obtain⟨r,_,_,_,_,h⟩:=wD h;have:=wj (k+2) r;omega
   .split at h
    .injection h with h;injection h with _ h;omega
    .split at h
     .injection h with h;injection h with _ h;omega
     .cases h
  .cases h
theorem Dd(g:Nat)(A:IP)(n c:Nat)(T:List Tok)(k deep:Nat)(w:World)(st:ay)(u:Nat)(h:bu w g A n c T k deep)(hs:rJ T k=some (st,u)) :
  Calls prog 98 #[.pointer (some ⟨g,0,none⟩)] w λe ab=>∃(q:Int) (a b:ByteArray) (D:IP) (m L:Nat),e=.returned (.agg #[.int .i64 q,.string a,.int .i64 0,.int .i64 0,.string ⟨#[]⟩,.slice none 0 0,.string b,.slice none 0 0,.slice D m L,.slice none 0 0,.slice none 0 0])/\(a3 st).rep ab (fresh w ab) [.int .i64 q,.string a,.int .i64 0,.int .i64 0,.string ⟨#[]⟩,.slice none 0 0,.string b,.slice none 0 0,.slice D m L,.slice none 0 0,.slice none 0 0]/\bu ab g A n c T u deep/\Fr (λb=>b=g) w ab:=by
 have hl:=h.rO.1;unfold rJ at hs;split at hs
 .cases hs
 .rename_i t ht;split at hs
  .rename_i bp;split at hs
   .rename_i hc;obtain⟨r,br,bv,ap,rfl,rfl⟩:=wD hs;refine(Ga g A n c T k deep w t h hc ht bp r br bv ad).mono ?_;rintro e ab ⟨D,m,L,rfl,hm,hS,U,hF⟩;exact⟨4,_,_,D,m,L,rfl,Fa hS hm,U,hF⟩
   .split at hs
    .rename_i hc;simp only[Il,IG,Bool.not_eq_true'] at hc;injection hs with hs;injection hs with ac J;subst ac J;refine(Dc g A n c T k deep w t h hc.1.1.1 ht bp hc.1.1.2 hc.1.2 ad).mono ?_;rintro e ab ⟨rfl,U,hF⟩;exact⟨5,_,_,none,0,0,rfl,s7 false _,U,hF⟩
    .split at hs
     .rename_i hc;simp only[Il,IG,Bool.not_eq_true'] at hc;injection hs with hs;injection hs with ac J;subst ac J;refine(xu g A n c T k deep w t h hc.1.1.1 ht bp hc.1.1.2 hc.1.2 ad).mono ?_;rintro e ab ⟨rfl,U,hF⟩;exact⟨6,_,_,none,0,0,rfl,s7 true _,U,hF⟩
     .cases hs
  .cases hs
def jg(T:List Tok):Nat->Nat->Option (List ay×Nat)
 | 0,_=>none
 | f+1,k=>if bR [125] T k then (if k+1<T.length then some ([],k+1) else none) else (rJ T k).bind λp=>(jg T f p.2).map λq=>(p.1::q.1,q.2)
theorem vb{ls:List ay}(h:jg T f k=some (ls,u)):(bR [125] T k=true/\k+1<T.length/\ls=[]/\u=k+1)\/(bR [125] T k=false/\∃(st:ay) (bZ f2:Nat) (W:List ay),rJ T k=some (st,bZ)/\jg T f2 bZ=some (W,u)/\ls=st::W):=by
 cases f with
 | zero=>cases h
 | succ f=>
  simp only[jg] at h;split at h
  .rename_i ac;split at h
   .rename_i J;injection h with h;injection h with aR bv;exact .inl ⟨ac,J,aR.symm,bv.symm⟩
   .cases h
  .rename_i ac
   cases hs:rJ T k with
   | none=>rw[hs] at h;cases h
   | some p=>
    rw[hs] at h;obtain⟨st,bZ⟩:=p;simp only[Option.bind_some] at h
    cases aY:jg T f bZ with
    | none=>rw[aY] at h;cases h
    | some q=>
     rw[aY] at h;simp only[Option.map_some] at h;injection h with h;injection h with aR bv;subst bv;exact .inr ⟨by simpa using ac,st,bZ,f,q.1,rfl,aY,aR.symm⟩
theorem BO(g:Nat)(A:IP)(n c:Nat)(T:List Tok)(k deep:Nat)(w:World)(f:Nat)(ls:List ay)(u:Nat)(h:bu w g A n c T k deep)(hd:deep<24)(ac:bR [123] T k=true)(ap:k+1<n)(hs:jg T f (k+1)=some (ls,u)) :
  Calls prog 67 #[.pointer (some ⟨g,0,none⟩)] w λe ab=>∃(bw:IP) (on bL:Nat),e=.returned (.slice bw on bL)/\on<=bL/\Sl ab (fresh w ab) bw on (ls.map a3)/\bu ab g A n c T u deep/\Fr (λb=>b=g) w ab:=by
 have H:=ae h;have bG:=ai ac hs;have cg:=h.blk.lt;have F:=h.hW;have aU:((deep:Int) == 24)=false:=by simp;omega
 clear h ac hs;go_enter func67,ntmps67;go_wp2_with(fail);refine(show Calls prog 60 #[.pointer (some ⟨g,0,none⟩),.string ⟨#[123]⟩] w _ from k5 [123] g A n c T k deep w H.o).mono ?_;rintro e aO ⟨rfl,aw⟩;rw[bG.1];have H1:=ai (H.aj aw) (aw.mono (M':=λb=>b=g) λ_ h=>h.elim);clear aw;obtain⟨aI,aj,af⟩:=H1.1.blk.two;go_wp2_with(fail);refine(show Calls prog 97 #[.pointer (some ⟨g,0,none⟩),.string ⟨#[123]⟩] aO _ from jE [123] g A n c T k deep aO H1.1 bG.1 ap).mono ?_;rintro e aT ⟨rfl,U,hF⟩;have bi:=ai U (H1.2.trans hF);clear U hF aI aj af H1;obtain⟨aI,aj,af⟩:=bi.1.blk.two;go_upto_region 5 with(fail);generalize hX:World.setCell _ _ _=X;have aA:=cT hX;have aS:an X g 173 #[.slice A n c,.int .i64 ((k+1:Nat):Int),.int .i64 0,.int .i64 0,.int .i64 0,.int .i64 ((deep+1:Nat):Int)]:=hX▸bi.1.blk.aI 5 (.int .i64 ((deep:Int)+1));have aV:=ai (show bu X g A n c T (k+1) (deep+1) from ⟨aS,bi.1.rO.eQ (aA.below (aC bi.1.blk.lt) λb O hm=>ad),ap,F⟩) (bi.2.trans aA);clear hX aA aS aI aj af bi;go_wp2_with(fail);go_loopw [3] (λaR wr=>∃(bw:IP) (on bL j bK:Nat) (acc rest:List ay),aR=.slice bw on bL/\on<=j/\bu wr g A n c T j (deep+1)/\Fr (λb=>b=g) w wr/\Gr (λb=>w.heap.size<=b) w.heap.size 153 11 wr bw on bL (acc.map a3)/\jg T bK j=some (rest,u)/\acc++rest=ls) (λaR _=>4001 - Bn aR)
 case atStart=>exact⟨none,0,0,k+1,f,[],ls,rfl,ad,aV.1,aV.2,Gr.nil _ _ _ _ _,bG.2,rfl⟩
 case round=>
  obtain⟨bw,on,bL,j,bK,acc,rest,rfl,c2,U,hF,bS,b1,y⟩:=hrel;clear aV;have G:=U.lt;have a8:=bF U hF bS y;obtain⟨aI,aj,af⟩:=U.blk.two;have gp:=hF.size;clear U hF bS y;rcases vb b1 with⟨hc,f0,i,E⟩|⟨hc,st,bZ,f2,W,b6,bz,cC⟩
  .have bP:=bF hc f0 i E;clear hc f0 i E b1;go_wp2_with(fail);refine(show Calls prog 62 #[.pointer (some ⟨g,0,none⟩),.string ⟨#[125]⟩] wr _ from cp [125] g A n c T j (deep+1) wr a8.1 true bP.1 (λ_=>by have:=bP.2.1;have:=a8.1.rO.1;omega)).mono ?_;rintro e b4 ⟨rfl,U,hF⟩;have bI:=ai (show bu b4 g A n c T (j+1) (deep+1) from by simpa using U) hF;clear U hF aI aj af;obtain⟨aI,aj,af⟩:=bI.1.blk.two;go_upto_region 9 with(fail);generalize hX:World.setCell _ _ _=X;have aA:=cT hX;have aS:an X g 173 #[.slice A n c,.int .i64 ((j+1:Nat):Int),.int .i64 0,.int .i64 0,.int .i64 0,.int .i64 (deep:Int)]:=hX▸bI.1.blk.aI 5 (.int .i64 (deep:Int));have az:Fr (λb=>b=g) wr X:=bI.2.trans aA;have aV:=aL (show bu X g A n c T (j+1) deep from ⟨aS,bI.1.rO.eQ (aA.below (aC bI.1.blk.lt) λb O hm=>ad),bI.1.lt,F⟩) (a8.2.1.trans az) (a8.2.2.1.dh az λb O _=>⟨ad,ad⟩);clear hX aA aS az aI aj af bI;go_wp2_with(fail);go_ret;refine⟨bw,on,bL,rfl,aV.2.2.cap.1,?_,by rw[bP.2.2.2];exact aV.1,aV.2.1⟩;have ct:=a8.2.2.2;rw[bP.2.2.1,IB] at ct;rw[<-ct];exact aV.2.2.sl (λb O hp=>⟨hp,O⟩) λb O hp=>⟨hp,O⟩
  .have bP:=bF hc b6 bz cC;have bM:=wE b6;clear hc b6 bz cC b1;go_wp2_with(fail);refine(show Calls prog 62 #[.pointer (some ⟨g,0,none⟩),.string ⟨#[125]⟩] wr _ from cp [125] g A n c T j (deep+1) wr a8.1 false bP.1 (λh=>by cases h)).mono ?_;rintro e b4 ⟨rfl,U,hF⟩;have bI:=ai (show bu b4 g A n c T j (deep+1) from by simpa using U) hF;clear U hF aI aj af;go_wp2_with(fail);refine(Dd g A n c T j (deep+1) b4 st bZ bI.1 bP.2.1).mono ?_;rintro e eG ⟨q,a,b,bA,m,L,rfl,bX,U,hF⟩;have az:Fr (λb=>b=g) wr eG:=bI.2.trans hF;have z:=a8.2.2.1.dh az λb O _=>⟨ad,ad⟩
   have hd:=D.aH (bW:=kJ (λb=>w.heap.size<=b) eG (.slice bw on bL)) (λb O=>⟨by have:=O.1;have:=bI.2.size;omega,O.2,λh=>by have:=(a8.2.2.1.lt h).2;have:=O.1;have:=bI.2.size;omega⟩) _ _ bX;have cb:w.heap.size<=eG.heap.size:=by have:=az.size;omega
   have cq:=bF U (a8.2.1.trans az) z hd;clear U hF az z hd bX bI;go_wp2_with(at_builtin;refine bN nU rfl (.tmp 34) (.tmp 37) rfl cq.2.2.1 cq.2.2.2 rfl rfl rfl ad ad cb ?_;intro aZ gJ cG bb az b5 cf;have b2:=ai bb az;clear bb az b5 cf);have bq:∀b,(Value.slice bw on bL).ownBlock=some b->w.heap.size<=b:=λb O=>(cq.2.2.1.lt O).1;have aJ:Fr (λb=>b=g) w cG:=cq.2.1.eA (b2.2.below cb λk ap h=>by have:=bq k h;omega);have eV:=aL (cq.1.on b2.2 λb O=>by have:=bq b O;omega) aJ b2.1;clear bq aJ b2 cq;go_roundw
   case rel=>exact⟨aZ,on+1,gJ,bZ,f2,acc++[st],W,rfl,ad,eV.1,eV.2.1,by rw[Ig];exact eV.2.2,bP.2.2.1,by have:=a8.2.2.2;rw[bP.2.2.2] at this;rw[<-this];simp⟩
   case measure=>simp only[Bn];omega
def ek:List ay->ak
 | []=>.nil
 | .set v n e::l=>.set v n e (ek l)
 | .call g n aJ::l=>.call g n aJ (ek l)
 | .lock u r::l=>.lock u r (ek l)
 | .ite e th el::l=>.ite e th el (ek l)
 | .fY e th::l=>.fY e th (ek l)
 | .ret::l=>.ret (ek l)
theorem fh:∀l:List ay,cL (ek l)=l.map a3
 | []=>rfl
 | .set v n e::l=>by simp only[ek,cL,Ie,a3,fh l]
 | .call g n aJ::l=>by simp only[ek,cL,Ie,a3,fh l]
 | .lock u r::l=>by simp only[ek,cL,Ie,a3,fh l]
 | .ite e th el::l=>by simp only[ek,cL,Ie,a3,fh l]
 | .fY e th::l=>by simp only[ek,cL,Ie,a3,fh l]
 | .ret::l=>by simp only[ek,cL,Ie,a3,fh l]
def k4(T:List Tok):Nat->Nat->Option (List bJ×List aE)
 | 0,_=>none
 | f+1,k=>if rN 5 T k then some ([],[]) else match T[k+1]? with
  | none=>none
  | some t=>if t.kind=1 then
    if bR [109,117,116,101,120] T k && !bR [91] T (k+2) && bR [59] T (k+2) && decide (k+3<T.length) then (k4 T f (k+3)).map λq=>(⟨strOf t.text,false,0⟩::q.1,q.2)
    else if bR [102,117,110,99] T k then
     (ux T (k+2)).bind λr=>if bR [123] T (eu (k+2) r) && decide (eu (k+2) r+1<T.length) then (jg T 100 (eu (k+2) r+1)).bind λs=>(k4 T f s.2).map λq=>(q.1,⟨strOf t.text,r.map jT,ek s.1⟩::q.2) else none
    else none
   else none
theorem uL{ms:List bJ}{fs:List aE}(h:k4 T f k=some (ms,fs)):(rN 5 T k=true/\ms=[]/\fs=[])\/(rN 5 T k=false/\∃(t:Tok) (f2:Nat),T[k+1]?=some t/\t.kind=1/\
  ((∃cX,bR [109,117,116,101,120] T k=true/\bR [91] T (k+2)=false/\bR [59] T (k+2)=true/\k+3<T.length/\k4 T f2 (k+3)=some (cX,fs)/\ms=⟨strOf t.text,false,0⟩::cX)\/(∃r ls bZ bn,bR [102,117,110,99] T k=true/\wO T (k+2) r/\bR [123] T (eu (k+2) r)=true/\eu (k+2) r+1<T.length/\jg T 100 (eu (k+2) r+1)=some (ls,bZ)/\k4 T f2 bZ=some (ms,bn)/\fs=⟨strOf t.text,r.map jT,ek ls⟩::bn))):=by
 cases f with
 | zero=>cases h
 | succ f=>
  unfold k4 at h
  cases ct:rN 5 T k with
  | true=>
   rw[ct,if_pos rfl] at h;injection h with h;injection h with ac J
   exact .inl ⟨rfl,ac.symm,J.symm⟩
  | false=>
   rw[ct,if_neg (by simp)] at h;refine .inr ⟨rfl,?_⟩
   cases ht:T[k+1]? with
   | none=>rw[ht] at h;cases h
   | some t=>
    rw[ht] at h;simp only at h;split at h
    .rename_i bp;refine⟨t,f,rfl,bp,?_⟩;split at h
     .rename_i hc;simp only[Il,Bool.not_eq_true',IG] at hc
      cases hp:k4 T f (k+3) with
      | none=>rw[hp] at h;cases h
      | some q=>
       rw[hp] at h;injection h with h;injection h with ac J;refine .inl ⟨q.1,hc.1.1.1,hc.1.1.2,hc.1.2,hc.2,?_,ac.symm⟩;rw[<-J]
     .split at h
      .rename_i hc
       cases hl:ux T (k+2) with
       | none=>rw[hl] at h;cases h
       | some r=>
        rw[hl] at h;simp only[Option.bind_some] at h;split at h
        .rename_i O;simp only[Il,IG] at O
         cases hs:jg T 100 (eu (k+2) r+1) with
         | none=>rw[hs] at h;cases h
         | some s=>
          rw[hs] at h;simp only[Option.bind_some] at h
          cases hp:k4 T f s.2 with
          | none=>rw[hp] at h;cases h
          | some q=>
           rw[hp] at h;injection h with h;injection h with ac J;refine .inr ⟨r,s.1,s.2,q.2,hc,sD hl,O.1,O.2,hs,?_,J.symm⟩;rw[<-ac];exact hp
        .cases h
      .cases h
    .cases h
theorem s8{T:List Tok}:∀(f k:Nat) (ls:List ay) (u:Nat),jg T f k=some (ls,u)->k<u
 | 0,_,_,_,h=>by cases h
 | f+1,k,ls,u,h=>by
  simp only[jg] at h;split at h
  .split at h
   .injection h with h;injection h with _ h;omega
   .cases h
  .cases hs:rJ T k with
   | none=>rw[hs] at h;cases h
   | some p=>
    rw[hs] at h;simp only[Option.bind_some] at h
    cases bp:jg T f p.2 with
    | none=>rw[bp] at h;cases h
    | some q=>
     rw[bp] at h;injection h with h;injection h with _ h;have ac:=s8 f p.2 q.1 q.2 bp;have J:=wE (show rJ T k=some (p.1,p.2) from hs);omega
theorem EG:b2 prog 25 104 (.agg #[.string ⟨#[]⟩,.slice none 0 0,.slice none 0 0]) 3 64:=b2.mk' Tryz.underlying25 (by kernel_rfl) rfl ad
theorem Fr.Ek{M M':Nat->Prop}{a b:World}(h:Fr M a b)(a6:∀k,k<a.heap.size->M k->M' k):Fr M' a b:=⟨h.os,h.tape,h.output,h.size,λk ap hn=>h.block k ap λhm=>hn (a6 k ap hm)⟩
def BJ(g:Nat)(w:World):Nat:=match w.cell? ⟨g,1,none⟩ with|some (.int _ z)=>z.toNat|_=>0
theorem bu.pos(h:bu w g A n c T k deep):BJ g w=k:=by
 unfold BJ;rw[h.blk.cell];rfl
namespace Ao
theorem lj(h:p:=by
 generalize hX:World.setCell _ _ _=X;have bs:=b2.1;have bT:=cT hX;have bQ:an X (g+1) 27 #[.slice none 0 0,.slice cl (mn+1) c3,.slice FA fn fc]:=hX▸b2.2.2.aI 1 _;have aV:=aL bQ bT (bs.dh bT λb O _=>ad);clear hX bs bT bQ bU aW bx;have y:=bC.on aV.2.1 λb O=>ad;have bX:=y.pos;have bV:=a8.2.2.2.2.2.2.2.2;have j:=ae y;clear y;go_roundw
 case rel=>
  have bh:Fr (λb=>b=g\/b=g+1) V X:=Fr.Ek (M:=λb=>(b=g\/b=g+1)\/(Value.slice MA mn mc).ownBlock=some b) (Fr.trans (Fr.trans (Fr.trans (Fr.mono a8.2.1 λ_ h=>.inl h) (Fr.mono aQ.2 λ_ h=>.inl (.inl h))) (Fr.mono b2.2.1 λ_ h=>.inr h)) (Fr.mono aV.2.1 λ_ h=>.inl (.inr h))) λb O hm=>hm.elim id λhm=>absurd (a7.o b hm) ad
  iterate 101 apply Exists.intro
  refine⟨⟨k+3,f2,cl,mn+1,c3,FA,fn,fc,am++[⟨strOf t.text,false,0⟩],cx,be,bn,j.o,bh,aV.1,by rw[Ig];exact aV.2.2,aF.2.2.2.2.1,?_,a8.2.2.2.2.2.1,?_,a8.2.2.2.2.2.2.2.1⟩,rfl⟩
  .rw[<-a8.2.2.2.2.1,aF.2.2.2.2.2];simp
  .rw[a8.2.2.2.2.2.2.1];simp
 case measure=>rw[bX,bV];have:=j.lt;omega
 ):p:=h
end Ao
open Ao in
theorem parse_any(s:ByteArray)(b o cap:Nat)(w:World)(ms:List bJ)(fs:List aE)(bK:Nat)(h:fy w b o cap s)(hs:s.size<=4000)(hn:(fq s.data.toList).1.length<=4001)(ax:0<(fq s.data.toList).1.length)(he:(fq s.data.toList).2.2=0)(hp:k4 (fq s.data.toList).1 bK 0=some (ms,fs))(ck:ms.length<=12)(b7:fs.length<=16) :
  Calls prog 41 #[.slice (some ⟨b,o,none⟩) s.size cap] w λe ab=>∃(MA:IP) (mn mc:Nat) (FA:IP) (fn fc:Nat) (z:Int),e=.returned (.tuple #[.agg #[.slice none 0 0,.slice MA mn mc,.slice FA fn fc],.int .i64 z,.int .i64 0])/\hG ab (fresh w ab) ⟨[],ms,fs⟩ none 0 MA mn FA fn/\mn<=mc/\fn<=fc/\Ext w ab:=by
 obtain⟨R,bP⟩:∃R,R=fq s.data.toList:=⟨_,rfl⟩
 rw[<-bP] at hn ax he hp;obtain⟨T,z,cZ⟩:=R;simp only at hn ax he hp;subst he;have H:=cK h hp ck b7 bP;clear h hp ck b7 bP;go_enter func41,ntmps41;go_upto_region 1 with(fail);generalize ba:World.alloc _ _=W;have aw:=bm ba;have cy:=aU ba;have ay:=ai aw cy;have cE:=cy.lt;clear ba aw cy;go_wp2_with(fail);refine(show Calls prog 52 _ W (j0 W (T,z,0)) by rw[H.2.2.2.2];exact wi s b o cap W (H.1.on ay.1) ad).mono ?_;rintro e aO ⟨A,n,c,rfl,aG,c6,bo⟩;have ag:Ext W aO:=Fr.of bo;have cb:n=T.length:=c6.1.symm;have cM:n<=4001:=by rw[cb];exact hn
 have cg:0<n:=by rw[cb];exact ax
 have H1:=aL ag c6 cb;have b6:=ag.size;clear hn ax bo ag c6 cb aG;go_upto_region 5 with(fail);generalize hV:World.alloc _ _=V;have bg:=hJ hV;have cj:=fA hV;have b5:=fB hV;obtain⟨g,aM⟩:∃g,g=aO.heap.size:=⟨_,rfl⟩
 rw[<-aM] at cj b5 ⊢;have b4:bu V g A n c T 0 0:=⟨cj,(H1.2.1.dh (Fr.ext bg) bg.size).eQ (Below.refl _ _) |> λh=>by
  rw[aM];exact H1.2.1.eQ (Fr.ext bg),cg,cM⟩
 have ce:=bF b4 b5 bg aM;have cY:=b5.lt;have el:W.heap.size<=g:=ad;clear hV bg cj b5 b4 aM;go_wp2_with(fail);go_loopw [78] (λ_ wr=>∃(k bK:Nat) (MA:IP) (mn mc:Nat) (FA:IP) (fn fc:Nat) (am cX:List bJ) (be bn:List aE),bu wr g A n c T k 0/\Fr (λb=>b=g\/b=g+1) V wr/\an wr (g+1) 27 #[.slice none 0 0,.slice MA mn mc,.slice FA fn fc]/\kV V.heap.size 97 3 104 3 wr MA mn mc (am.map er) FA fn fc (be.map c8)/\k4 T bK k=some (cX,bn)/\am++cX=ms/\be++bn=fs/\mn=am.length/\fn=be.length) (λ_ wr=>4001 - BJ g wr)
 case atStart=>exact⟨0,bK,none,0,0,none,0,0,[],ms,[],fs,ce.1,IK,ce.2.1,kV.nil _ _ _ _ _ _,H.2.1,rfl,rfl,rfl,rfl⟩
 case round=>
  obtain⟨k,cW,MA,mn,mc,FA,fn,fc,am,cX,be,bn,U,hF,aS,bS,bt,a0,aZ,du,gj⟩:=hrel;have Q:=U.lt;have ck:am.length+cX.length<=12:=by have:=H.2.2.1;rw[<-a0,Hz] at this;exact this
  have b7:be.length+bn.length<=16:=by have:=H.2.2.2.1;rw[<-aZ,Hz] at this;exact this
  have l:=U.pos;have a8:=yx U hF aS bS a0 aZ du gj l;have cr:=hF.size;obtain⟨aI,aj,af⟩:=U.blk.two;rcases uL bt with⟨ct,cC,c4⟩|⟨ct,t,f2,ht,bp,cH⟩
  .have bG:=aL ct cC c4;clear ct cC c4 U hF aS bS a0 aZ bt ck b7 du gj l;go_wp2_with(fail);refine(n8 5 g A n c T k 0 wr a8.1).mono ?_;rintro e aT ⟨rfl,aJ⟩;rw[bG.1];have bi:=ae aJ;clear aI aj af;obtain⟨aI,aj,af⟩:=(a8.1.blk.aj aJ).two;obtain⟨bU,aW,bx⟩:=(a8.2.2.1.aj aJ).two;have aa:Ext W aT:=Fr.low (M:=λb=>b=g\/b=g+1) (Fr.trans (Fr.mono (H1.1.trans ce.2.2.1) λ_ h=>h.elim) (Fr.trans a8.2.1 (Fr.mono aJ λ_ h=>h.elim))) λb O=>ad;have N:=ay.2.aj aa;have aq:=ai N (ay.1.trans aa);obtain⟨bD,aK,a9⟩:=N.two;have bz:=aJ.size;clear aJ aa N;go_wp2_with(fail);generalize hX:World.setCell _ _ _=Z;obtain⟨bB,bl,a6⟩:=cO (w:=w) [.slice none 0 0,.slice MA mn mc,.slice FA fn fc] (by rfl) aq.1 aq.2 ad hX;have a2:=ai bl a6;clear hX bl a6 bD aK a9 aI aj af bU aW bx;obtain⟨bD,aK,a9⟩:=bB.two;refine IJ (v:=.tuple #[.agg #[.slice none 0 0,.slice MA mn mc,.slice FA fn fc],.int .i64 z,.int .i64 0]) (by simp[results,Tryz.results41,go_sem,bD]) rfl ?_;have hm:am=ms:=by have:=a8.2.2.2.2.1;rw[bG.2.1,IB] at this;exact this
   have aA:be=fs:=by have:=a8.2.2.2.2.2.1;rw[bG.2.2,IB] at this;exact this
   have bI:=a8.2.2.2.1.aj bi.o;have cF:=a2.2.size;have eJ:=bI.dh a2.2 λb O _=>by have:=ce.2.2.1.size;omega
   rw[hm,aA] at eJ;have cG:=ce.2.2.1.size;exact⟨MA,mn,mc,FA,fn,fc,z,rfl,⟨Sl.bH _,eJ.one.sl (λb ac J=>⟨by have:=J.1;omega,ac⟩) (λb ac J=>⟨ad,ac⟩),eJ.two.sl (λb ac J=>⟨by have:=J.1;omega,ac⟩) (λb ac J=>⟨ad,ac⟩)⟩,eJ.one.cap.1,eJ.two.cap.1,a2.1⟩
  .rcases cH with⟨cx,c9,cI,ca,al,cf,b9⟩|⟨r,ls,bZ,cu,c9,cI,al,cf,b9,eb,cL⟩
   ·
    have cD:T.length<=n:=Nat.le_of_eq H1.2.2.symm;have bf:cX.length=cx.length+1:=by rw[b9];rfl
    have cd:mn<=11:=ad;have cS:((mn:Int) == 12)=false:=by simp;omega
    have ey:k+3<n:=ad;have cA:=ae ct;have az:=aL c9 (show bR [118,97,114] T k=false from eO c9 (by decide)) (show bR [102,117,110,99] T k=false from eO c9 (by decide));have aF:=eU ht bp cI ca cf b9;clear U hF aS bS a0 aZ bt du gj l ct c9 cI ca al cf b9 ht bp bf ck b7;have bO:g+1≠g:=ad;go_wp2_with(fail);refine(n8 5 g A n c T k 0 wr a8.1).mono ?_;rintro e v0 ⟨rfl,aJ⟩;rw[cA.o];have bH:=ai (a8.1.aj aJ) (aJ.mono (M':=λb=>b=g) λ_ h=>h.elim);clear aJ aI aj af;go_wp2_with(fail);refine(show Calls prog 60 #[.pointer (some ⟨g,0,none⟩),.string ⟨#[118,97,114]⟩] v0 _ from k5 [118,97,114] g A n c T (k) 0 v0 bH.1).mono ?_;rintro e v1 ⟨rfl,aw⟩;rw[az.2.1];have fZ:=ai (bH.1.aj aw) (bH.2.trans (aw.mono (M':=λb=>b=g) λ_ h=>h.elim));clear aw;go_wp2_with(fail);refine(show Calls prog 60 #[.pointer (some ⟨g,0,none⟩),.string ⟨#[109,117,116,101,120]⟩] v1 _ from k5 [109,117,116,101,120] g A n c T (k) 0 v1 fZ.1).mono ?_;rintro e v2 ⟨rfl,aw⟩;rw[az.1];have bE:=ai (fZ.1.aj aw) (fZ.2.trans (aw.mono (M':=λb=>b=g) λ_ h=>h.elim));clear aw;go_wp2_with(fail);refine(show Calls prog 60 #[.pointer (some ⟨g,0,none⟩),.string ⟨#[102,117,110,99]⟩] v2 _ from k5 [102,117,110,99] g A n c T (k) 0 v2 bE.1).mono ?_;rintro e ao ⟨rfl,aw⟩;rw[az.2.2];have bc:=ai (bE.1.aj aw) (bE.2.trans (aw.mono (M':=λb=>b=g) λ_ h=>h.elim));clear aw;obtain⟨bU,aW,bx⟩:=(a8.2.2.1.on bc.2 ad).two;go_wp2_with(fail)
    refine(show Calls prog 62 #[.pointer (some ⟨g,0,none⟩),.string ⟨#[118,97,114]⟩] ao _ from cp [118,97,114] g A n c T (k) 0 ao bc.1 false az.2.1 (λh=>by cases h)).mono ?_;rintro e v4 ⟨rfl,U,hF⟩;have bY:=ai (show bu v4 g A n c T (k) 0 from by simpa using U) (bc.2.trans hF);clear U hF;clear bU aW bx;go_wp2_with(fail);refine(show Calls prog 62 #[.pointer (some ⟨g,0,none⟩),.string ⟨#[109,117,116,101,120]⟩] v4 _ from cp [109,117,116,101,120] g A n c T (k) 0 v4 bY.1 true az.1 (λ_=>ad)).mono ?_;rintro e aX ⟨rfl,U,hF⟩;have b3:=ai (show bu aX g A n c T (k+1) 0 from by simpa using U) (bY.2.trans hF);clear U hF;obtain⟨bU,aW,bx⟩:=(a8.2.2.1.on b3.2 ad).two;go_upto_region 13 with(fail);refine eB (λb=>b=g) [(0,3),(1,0),(2,3),(3,1),(4,1),(5,2),(6,3),(7,2)] ?_;refine pf ?_;refine m0 ?_;refine pf ?_;refine aD rfl (λK hK=>?_);go_simp;refine(BP g A n c T (k+1) 0 aX.drew t (b3.1.aj (Fr.refl _ aX).drew) aF.1 aF.2.1 aF.2.2.1 aF.2.2.2.1 ey).mono ?_;rintro e v6 ⟨rfl,U,hF⟩;have aQ:=ai (show bu v6 g A n c T (k+3) 0 from U) (b3.2.trans (Fr.aJ hF));refine dA hK (hF) ?_;clear hK K;clear U hF bU aW bx;refine p2 ?_;have cv:=a8.2.2.2.1.dh aQ.2 λb O _=>ad;have cc:=aQ.2.size;have a1:=ae cv;have cn:=a8.2.2.1.on aQ.2 bO;have bv:=ae cn;clear cv cn;refine au rfl (λK hK=>?_);rw[if_pos (by rfl)];refine pK lp (.tmp 92) (.tmp 95) (by rfl) a1.one (d:=er ⟨strOf t.text,false,0⟩) (cs:=#[.string (strOf t.text),.bool false,.int .i64 0]) (eN.2 rfl) (by rfl) (by rfl) (by rfl) ad ad ad ?_
    intro cl c3 bj b0 g2 cB cQ;have bq:∀b,(Value.slice MA mn mc).ownBlock=some b->V.heap.size<=b:=λb O=>(a1.one.lt O).1;have b2:=aL (a1.grow b0 g2 cB) g2 (bv.on g2 λO=>by have:=bq _ O;omega);have bC:=ae (aQ.1.on g2 λb O=>by have:=bq b O;omega);have a7:=ae bq;obtain⟨bU,aW,bx⟩:=b2.2.2.two;clear b0 g2 cB cQ bq;exact lh
   ·
    have cD:T.length<=n:=Nat.le_of_eq H1.2.2.symm;have bf:bn.length=cu.length+1:=by rw[cL];rfl
    have cw:fn<=15:=ad;have cR:((fn:Int) == 16)=false:=by simp;omega
    have he:k+4<=eu (k+2) r:=wj _ _;have bb:eu (k+2) r+1<n:=ad;have bM:=s8 _ _ _ _ b9;have cA:=ae ct;have az:=bF c9 (show bR [118,97,114] T k=false from eO c9 (by decide)) (show bR [109,117,116,101,120] T k=false from eO c9 (by decide)) (show bR [114,109,117,116,101,120] T k=false from eO c9 (by decide));have aF:=iK ht bp cI al b9 eb cL;clear U hF aS bS a0 aZ bt du gj l ct c9 cI al cf b9 eb cL ht bp bf ck b7;have bO:g+1≠g:=ad;go_wp2_with(fail);refine(n8 5 g A n c T k 0 wr a8.1).mono ?_;rintro e v0 ⟨rfl,aJ⟩;rw[cA.o];have bH:=ai (a8.1.aj aJ) (aJ.mono (M':=λb=>b=g) λ_ h=>h.elim);clear aJ aI aj af;go_wp2_with(fail);refine(show Calls prog 60 #[.pointer (some ⟨g,0,none⟩),.string ⟨#[118,97,114]⟩] v0 _ from k5 [118,97,114] g A n c T (k) 0 v0 bH.1).mono ?_;rintro e v1 ⟨rfl,aw⟩;rw[az.2.1];have fZ:=ai (bH.1.aj aw) (bH.2.trans (aw.mono (M':=λb=>b=g) λ_ h=>h.elim));clear aw;go_wp2_with(fail);refine(show Calls prog 60 #[.pointer (some ⟨g,0,none⟩),.string ⟨#[109,117,116,101,120]⟩] v1 _ from k5 [109,117,116,101,120] g A n c T (k) 0 v1 fZ.1).mono ?_;rintro e v2 ⟨rfl,aw⟩;rw[az.2.2.1];have bE:=ai (fZ.1.aj aw) (fZ.2.trans (aw.mono (M':=λb=>b=g) λ_ h=>h.elim));clear aw;go_wp2_with(fail);refine(show Calls prog 60 #[.pointer (some ⟨g,0,none⟩),.string ⟨#[114,109,117,116,101,120]⟩] v2 _ from k5 [114,109,117,116,101,120] g A n c T (k) 0 v2 bE.1).mono ?_;rintro e ao ⟨rfl,aw⟩;rw[az.2.2.2];have bc:=ai (bE.1.aj aw) (bE.2.trans (aw.mono (M':=λb=>b=g) λ_ h=>h.elim))
    clear aw;go_wp2_with(fail);refine(show Calls prog 60 #[.pointer (some ⟨g,0,none⟩),.string ⟨#[102,117,110,99]⟩] ao _ from k5 [102,117,110,99] g A n c T (k) 0 ao bc.1).mono ?_;rintro e v4 ⟨rfl,aw⟩;rw[az.1];have bY:=ai (bc.1.aj aw) (bc.2.trans (aw.mono (M':=λb=>b=g) λ_ h=>h.elim));clear aw;obtain⟨bU,aW,bx⟩:=(a8.2.2.1.on bY.2 ad).two;go_wp2_with(fail);refine(show Calls prog 62 #[.pointer (some ⟨g,0,none⟩),.string ⟨#[118,97,114]⟩] v4 _ from cp [118,97,114] g A n c T (k) 0 v4 bY.1 false az.2.1 (λh=>by cases h)).mono ?_;rintro e aX ⟨rfl,U,hF⟩;have b3:=ai (show bu aX g A n c T (k) 0 from by simpa using U) (bY.2.trans hF);clear U hF;clear bU aW bx;go_wp2_with(fail);refine(show Calls prog 62 #[.pointer (some ⟨g,0,none⟩),.string ⟨#[109,117,116,101,120]⟩] aX _ from cp [109,117,116,101,120] g A n c T (k) 0 aX b3.1 false az.2.2.1 (λh=>by cases h)).mono ?_;rintro e v6 ⟨rfl,U,hF⟩;have aQ:=ai (show bu v6 g A n c T (k) 0 from by simpa using U) (b3.2.trans hF);clear U hF;go_wp2_with(fail);refine(show Calls prog 62 #[.pointer (some ⟨g,0,none⟩),.string ⟨#[114,109,117,116,101,120]⟩] v6 _ from cp [114,109,117,116,101,120] g A n c T (k) 0 v6 aQ.1 false az.2.2.2 (λh=>by cases h)).mono ?_;rintro e bj ⟨rfl,U,hF⟩;have cN:=ai (show bu bj g A n c T (k) 0 from by simpa using U) (aQ.2.trans hF);clear U hF;go_wp2_with(fail)
    refine(show Calls prog 62 #[.pointer (some ⟨g,0,none⟩),.string ⟨#[102,117,110,99]⟩] bj _ from cp [102,117,110,99] g A n c T (k) 0 bj cN.1 true az.1 (λ_=>ad)).mono ?_;rintro e bk ⟨rfl,U,hF⟩;have cP:=ai (show bu bk g A n c T (k+1) 0 from by simpa using U) (cN.2.trans hF);clear U hF;go_wp2_with(fail);refine(mo g A n c T (k+1) 0 bk t cP.1 aF.1 aF.2.1 ad).mono ?_;rintro e aY ⟨rfl,U,hF⟩;have cz:=ai (show bu aY g A n c T (k+2) 0 from U) (cP.2.trans hF);have cJ:=cz.2.size;clear U hF;go_upto_region 18 with(fail);generalize hX:World.alloc _ _=Z;have bl:=bm hX;have S:=aU hX;have a5:=aL (cz.1.aj bl) (cz.2.trans (bl.mono (M':=λb=>b=g) λ_ h=>h.elim)) S;have hO:g<aY.heap.size:=cz.1.blk.lt;clear hX bl S;go_wp2_with(fail);refine(uM g A n c T (k+2) 0 r Z a5.1 aF.2.2.1 ad).mono ?_;rintro e v11 ⟨bA,m,L,rfl,hm,U,hF,br⟩;have S:=a5.2.2.on hF ad;have aR:aY.heap.size<Z.heap.size:=a5.2.2.lt;have aH:=cK U (a5.2.1.trans hF) S hm (br.mono (bW:=λb=>aY.heap.size<b/\b<v11.heap.size) λb O=>⟨by have:=O.1;omega,O.2⟩);obtain⟨b1,ar,av⟩:=S.two;clear U hF S hm br aR;go_upto_region 19 with(fail);generalize hX:World.setCell _ _ _=Y;have P:=cT hX;have S:an Y aY.heap.size 104 #[.string (strOf t.text),.slice bA m L,.slice none 0 0]:=hX▸aH.2.2.1.aI 1 (.slice bA m L);have br:=(aH.2.2.2.2.al λb O=>P.block b O.2 (aC O.1)).mono (bW:=λb=>aY.heap.size<b/\b<Y.heap.size) λb O=>⟨O.1,by have:=O.2;have:=P.size;omega⟩
    have aP:=cK (aH.1.on P λb O=>ad) (aH.2.1.eA (P.below aH.2.1.size λk ap h=>ad)) S aH.2.2.2.1 br;have cq:aY.heap.size<Y.heap.size:=S.lt;clear hX P S b1 ar av br;go_wp2_with(fail);refine(BO g A n c T (eu (k+2) r) 0 Y 100 ls bZ aP.1 ad aF.2.2.2.1 ad aF.2.2.2.2.1).mono ?_;rintro e bd ⟨bw,on,bL,rfl,cm,co,U,hF⟩;have S:=aP.2.2.1.on hF ad;have br:=(aP.2.2.2.2.al λb O=>hF.block b O.2 (aC O.1)).mono (bW:=λb=>aY.heap.size<b/\b<bd.heap.size) λb O=>⟨O.1,by have:=O.2;have:=hF.size;omega⟩
    have u:=iK U (aP.2.1.trans hF) S cm co aP.2.2.2.1 br;have cU:=hF.size;obtain⟨b1,ar,av⟩:=S.two;clear U hF S cm co br;go_upto_region 20 with(fail);generalize hX:World.setCell _ _ _=hd;have P:=cT hX;have S:an hd aY.heap.size 104 #[.string (strOf t.text),.slice bA m L,.slice bw on bL]:=hX▸u.2.2.1.aI 2 (.slice bw on bL);have ak:Fr (λb=>b=g) wr hd:=u.2.1.eA (P.below u.2.1.size λk ap h=>ad);have cv:=a8.2.2.2.1.dh ak λb O _=>ad;have cc:=ak.size;have cV:=P.size;have b8:Sl hd (fresh Y bd) bw on (ls.map a3):=u.2.2.2.2.1.al λb O=>P.block b O.2 (aC O.1);have ah:∀b,(Value.slice MA mn mc).ownBlock=some b->b<wr.heap.size:=λb O=>(a8.2.2.2.1.one.lt O).2;have aN:∀b,(Value.slice FA fn fc).ownBlock=some b->b<wr.heap.size:=λb O=>(a8.2.2.2.1.two.lt O).2;have a4:Sl hd (λb=>aY.heap.size<b/\b<bd.heap.size) bA m ((r.map jT).map ch):=u.2.2.2.2.2.2.al λb O=>P.block b O.2 (aC O.1);have ci:(c8 ⟨strOf t.text,r.map jT,ek ls⟩).rep hd (kJ (λb=>V.heap.size<=b/\(Value.slice MA mn mc).ownBlock≠some b) hd (.slice FA fn fc)) [.string (strOf t.text),.slice bA m L,.slice bw on bL]:=
     kA.2 ⟨bA,m,L,bw,on,bL,rfl,u.2.2.2.2.2.1,u.2.2.2.1,a4.mono λb O=>⟨⟨by have:=O.1;omega,λh=>by have:=ah b h;have:=O.1;omega⟩,by have:=O.2;omega,λh=>by have:=aN b h;have:=O.1;omega⟩,by rw[fh];exact b8.mono λb O=>⟨⟨by have:=O.1;omega,λh=>by have:=ah b h;have:=O.1;omega⟩,by have:=O.2;omega,λh=>by have:=aN b h;have:=O.1;omega⟩⟩
    have a1:=ai cv ci;have cn:=a8.2.2.1.on ak bO;have bv:=ae cn;have aQ:=ai (u.1.on P λb O=>ad) ak;clear hX P ak cv b8 a4 ah aN ci b1 ar av;obtain⟨b1,ar,av⟩:=S.two;obtain⟨bU,aW,bx⟩:=cn.two;clear S cn;go_wp2_with(at_builtin;refine bN EG rfl (.tmp 121) (.tmp 123) rfl a1.1.two (d:=c8 ⟨strOf t.text,r.map jT,ek ls⟩) (cs:=#[.string (strOf t.text),.slice bA m L,.slice bw on bL]) a1.2 rfl rfl rfl ad ad ad ?_;intro cl c3 bj b0 g2 cB cQ;have bq:∀b,(Value.slice FA fn fc).ownBlock=some b->V.heap.size<=b:=λb O=>(a1.1.two.lt O).1;have b2:=aL ((a1.1.swap.grow b0 g2 cB).swap) g2 (bv.on g2 λO=>by have:=bq _ O;omega);have bC:=ae (aQ.1.on g2 λb O=>by have:=bq b O;omega);have a7:=ae bq;clear bU aW bx b1 ar av;obtain⟨bU,aW,bx⟩:=b2.2.2.two;clear b0 g2 cB cQ bq);generalize hX:World.setCell _ _ _=X;have bs:=b2.1;have bT:=cT hX;have bQ:an X (g+1) 27 #[.slice none 0 0,.slice MA mn mc,.slice cl (fn+1) c3]:=hX▸b2.2.2.aI 2 _;have aV:=aL bQ bT (bs.dh bT λb O _=>ad);clear hX bs bT bQ bU aW bx;have y:=bC.on aV.2.1 λb O=>ad;have bX:=y.pos;have bV:=a8.2.2.2.2.2.2.2.2;have j:=ae y;clear y;go_roundw
    case rel=>
     have bh:Fr (λb=>b=g\/b=g+1) V X:=Fr.Ek (M:=λb=>(b=g\/b=g+1)\/(Value.slice FA fn fc).ownBlock=some b) (Fr.trans (Fr.trans (Fr.trans (Fr.mono a8.2.1 λ_ h=>.inl h) (Fr.mono aQ.2 λ_ h=>.inl (.inl h))) (Fr.mono b2.2.1 λ_ h=>.inr h)) (Fr.mono aV.2.1 λ_ h=>.inl (.inr h))) λb O hm=>hm.elim id λhm=>absurd (a7.o b hm) ad;refine⟨bZ,f2,MA,mn,mc,cl,fn+1,c3,am,cX,be++[⟨strOf t.text,r.map jT,ek ls⟩],cu,j.o,bh,aV.1,by rw[Ig];exact aV.2.2,aF.2.2.2.2.2.1,a8.2.2.2.2.1,?_,a8.2.2.2.2.2.2.1,?_⟩
     .rw[<-a8.2.2.2.2.2.1,aF.2.2.2.2.2.2];simp
     .rw[a8.2.2.2.2.2.2.2.1];simp
    case measure=>rw[bX,bV];have:=j.lt;omega
end Go.Proofs.YtajlmkkidmjgoaaGreatDoor

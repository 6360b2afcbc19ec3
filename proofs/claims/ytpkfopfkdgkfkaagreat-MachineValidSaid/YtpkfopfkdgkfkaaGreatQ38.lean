/- Part 38 of the proof. No condition of its own. -/
import Derived.Test.YtpkfopfkdgkfkaaGreatQ29
import Derived.Test.YtpkfopfkdgkfkaaGreatQ34
import Derived.Test.YtpkfopfkdgkfkaaGreatQ36
namespace Go.Proofs.YtpkfopfkdgkfkaaGreat
open Go.RowKit Go.Proofs.Tryz
set_option maxRecDepth 1000000
set_option maxHeartbeats 25600000
set_option linter.unusedVariables false
variable{T:List Tok}{F c deep f g k n:Nat}{P:Nat->Prop}{A:Mt}{p:Prop}{ab w:World}{st:aD}
def r5(k:Int)(n m:ByteArray):List Value:=[.int .i64 k,.string n,.int .i64 0,.int .i64 0,.string ⟨#[]⟩,.slice none 0 0,.string m,.slice none 0 0,.slice none 0 0,.slice none 0 0,.slice none 0 0]
def HT(n:ByteArray)(D:Mt)(m l:Nat):List Value:=[.int .i64 4,.string n,.int .i64 0,.int .i64 0,.string ⟨#[]⟩,.slice none 0 0,.string ⟨#[]⟩,.slice none 0 0,.slice D m l,.slice none 0 0,.slice none 0 0]
theorem IN{n:ByteArray}{D:Mt}{m l:Nat}{aW:List dt}(h:Sl w P D m (aW.map eU))(hm:m<=l):(bj (.call true n aW)).rep w P (HT n D m l):=eN mg kT h hm (Sl.bS _) (LK _) (Sl.bS _) (LK _)
theorem uV(u:Bool)(n:ByteArray):(bj (.lock u ⟨n,none⟩)).rep w P (r5 (if u then 6 else 5) ⟨#[]⟩ n):=
 eN mg (jD.2 ⟨none,0,0,rfl,LK _,Sl.bS _⟩) (Sl.bS _) (LK _) (Sl.bS _) (LK _) (Sl.bS _) (LK _)
structure zB(w ab:World)(g:Nat)(A:Mt)(n c:Nat)(T:List Tok)(k deep:Nat)(cs:List Value):Prop where
 ps:bI ab g A n c T k deep
 fr:Fr (λb=>b=g) w ab
 r:au ab w.heap.size 151 #[.int .i64 0,.string ⟨#[]⟩,.int .i64 0,.int .i64 0,.string ⟨#[]⟩,.slice none 0 0,.string ⟨#[]⟩,.slice none 0 0,.slice none 0 0,.slice none 0 0,.slice none 0 0]
 s:au ab (w.heap.size+1) 151 cs.toArray
theorem zB.on{w ab aT:World}{g:Nat}{A:Mt}{n c:Nat}{T:List Tok}{k F deep:Nat}{cs:List Value}(h:zB w ab g A n c T k deep cs)(aR:g<w.heap.size)(hp:bI aT g A n c T F deep)(J:Fr (λb=>b=g) ab aT):zB w aT g A n c T F deep cs:=
 ⟨hp,h.fr.trans J,h.r.on J ad,h.s.on J ad⟩
theorem zB.set{aT:World}{cs r:List Value}(h:zB w ab g A n c T k deep cs)(aR:g<w.heap.size)(J:Fr (λb=>b=w.heap.size+1) ab aT)(hs:au aT (w.heap.size+1) 151 r.toArray):zB w aT g A n c T k deep r:=
 ⟨h.ps.on J λb O=>ad,h.fr.eZ (J.below h.fr.size λk aj hm=>ad),h.r.on J ad,hs⟩
namespace Da
theorem vC(h:p:=by
 refine(show Calls prog 88 #[.pointer (some ⟨g,0,none⟩),.string ⟨#[103,111]⟩] aS _ from cJ [103,111] g A n c T k deep aS H1.ps true (by first|exact bN.1|exact fv bN.1 (by decide)) (λh=>by first|omega|cases h)).mono ?_;rintro e aT ⟨rfl,bg,hF⟩;have bc:=ae (H1.on cl (show bI aT g A n c T (k+1) deep from by simpa using bg) hF);clear bg hF;clear H1;obtain⟨d0,aK,aM⟩:=bc.s.two;clear d0 aK aM;go_wp2_with(fail);refine(mU g A n c T (k+1) deep aT t bc.ps bN.2.1 bN.2.2.1 ad).mono ?_;rintro e f ⟨rfl,bg,hF⟩;have HA:=ae (bc.on cl bg hF);clear bg hF bc;obtain⟨d0,aK,aM⟩:=HA.s.two;simp only[r5] at d0;go_upto_region 15 with(fail);generalize hX:World.setCell _ _ _=X;have aN:Mw (zB w X g A n c T (k+1+1) deep (r5 4 (strOf t.text) ⟨#[]⟩)):=by
  refine ae (HA.set cl (by rw[<-hX];exact((Fr.refl (λb=>b=w.heap.size+1) f).setCell (.inl rfl) _).setCell (.inl rfl) _) ?_);rw[<-hX];exact(HA.s.aN 0 (.int .i64 4)).aN 1 (.string (strOf t.text))
 clear hX d0 aK aM HA;go_wp2_with(fail);refine(Fb g A n c T (k+1+1) deep r X aN.ps bN.2.2.2.1 (show eW (k+2) r<n by omega)).mono ?_;rintro e wb ⟨D,m,l,rfl,hm,bg,hF,bD⟩;have cr:w+1<X.heap.size:=aN.s.lt;have b9:=az (aN.on cl bg hF) hm (bD.mono (de:=λb=>w.heap.size+1<b/\b<wb.heap.size) λb O=>⟨by have:=O.1;omega,O.2⟩);clear bg hF aN hm bD cr;obtain⟨d0,aK,aM⟩:=b9.1.s.two;simp only[r5] at d0;go_upto_region 16 with(fail);generalize hX:World.setCell _ _ _=Y;have ar:=cp hX;have bC:Mw (zB w Y g A n c T (eW (k+2) r) deep (HT (strOf t.text) D m l)/\m<=l/\Sl Y (λb=>w.heap.size+1<b/\b<Y.heap.size) D m ((r.map kq).map eU)):=by
  refine ae ⟨b9.1.set cl ar ?_,b9.2.1,?_⟩
  .rw[<-hX];exact b9.1.s.aN 8 (.slice D m l)
  .exact(b9.2.2.ai λb O=>ar.block b O.2 (ay O.1)).mono λb O=>⟨O.1,by have:=O.2;have:=ar.size;omega⟩
 clear hX d0 aK aM b9 ar;go_wp2_with(fail);refine(show Calls prog 129 #[.pointer (some ⟨g,0,none⟩),.string ⟨#[59]⟩] Y _ from kb [59] g A n c T (eW (k+2) r) deep Y bC.1.ps bN.2.2.2.2 aj).mono ?_;rintro e cv ⟨rfl,bg,hF⟩;have bk:=az (bC.1.on cl bg hF) bC.2.1 ((bC.2.2.ai λb O=>hF.block b O.2 (ay O.1)).mono (de:=λb=>w.heap.size+1<b/\b<cv.heap.size) λb O=>⟨O.1,by have:=O.2;have:=hF.size;omega⟩);clear bg hF bC;obtain⟨d0,aK,aM⟩:=bk.1.s.two;obtain⟨bl,aD,aP⟩:=bk.1.r.two;simp only[HT] at d0;go_wp2_with(fail);generalize hX:World.setCell _ _ _=V;obtain⟨b8,bo,al⟩:=ei (M:=λb=>b=g) (w:=w) (HT (strOf t.text) D m l) (by rfl) bk.1.r bk.1.fr (LK _) hX;have cc:=bF (bk.1.ps.on al λb O=>ad) bo bk.2.1 ((bk.2.2.ai λb O=>al.block b O.2 (ay O.1)).mono (de:=fresh w V) λb O=>⟨by have:=O.1;omega,by have:=O.2;have:=al.size;omega⟩);clear hX bo al bl aD aP d0 aK aM;obtain⟨bl,aD,aP⟩:=b8.two;simp only[HT] at bl;refine Mn (v:=.agg (HT (strOf t.text) D m l).toArray) (by simp[results,Tryz.results130,go_sem,bl,HT]) rfl ?_;exact⟨D,m,l,rfl,cc.2.2.1,cc.2.2.2,cc.1,cc.2.1⟩
 ):p:=h
end Da
open Da in
theorem JM(g:Nat)(A:Mt)(n c:Nat)(T:List Tok)(k deep:Nat)(w:World)(t:Tok)(h:bI w g A n c T k deep)(ac:ca [103,111] T k=true)(ht:T[k+1]?=some t)(bK:t.kind=1)(r:List Tok)(ap:yx T (k+2) r)(bz:ca [59] T (eW (k+2) r)=true)(aj:eW (k+2) r+1<n) :
  Calls prog 130 #[.pointer (some ⟨g,0,none⟩)] w λe ab=>∃D m l,e=.returned (.agg (HT (strOf t.text) D m l).toArray)/\m<=l/\Sl ab (fresh w ab) D m ((r.map kq).map eU)/\bI ab g A n c T (eW (k+2) r+1) deep/\Fr (λb=>b=g) w ab:=by
 have H:=ae h;have bN:=cL ac ht bK ap bz;have cl:=h.blk.lt;have he:k+4<=eW (k+2) r:=by unfold eW;split<;>omega
 clear h ac ht bK ap bz;exact vB
namespace Db
theorem AI(h:p:=by
 obtain⟨b8,bo,al⟩:=ei (M:=λb=>b=g) (w:=w) (r5 5 ⟨#[]⟩ (strOf t.text)) (by rfl) bk.r bk.fr (LK _) hX;have cc:=ag (bk.ps.on al λb O=>ad) bo;clear hX bo al bl aD aP d0 aK aM;obtain⟨bl,aD,aP⟩:=b8.two;simp only[r5] at bl;refine Mn (v:=.agg (r5 5 ⟨#[]⟩ (strOf t.text)).toArray) (by simp[results,Tryz.results130,go_sem,bl,r5]) rfl ?_;exact⟨rfl,cc.1,cc.2⟩
 ):p:=h
theorem AR(h:p:=by
 refine(show Calls prog 88 #[.pointer (some ⟨g,0,none⟩),.string ⟨#[108,111,99,107]⟩] aT _ from cJ [108,111,99,107] g A n c T k deep aT bc.ps true (by first|exact bN.1|exact fv bN.1 (by decide)) (λh=>by first|omega|cases h)).mono ?_;rintro e b7 ⟨rfl,bg,hF⟩;have bQ:=ae (bc.on cl (show bI b7 g A n c T (k+1) deep from by simpa using bg) hF);clear bg hF;clear bc;go_wp2_with(fail);refine(w1 g A n c T (k+1) deep b7 t bQ.ps bN.2.1 bN.2.2.1 bN.2.2.2.1 ad).mono ?_;rintro e f ⟨rfl,bg,hF⟩;have HA:=ae (bQ.on cl bg hF);clear bg hF bQ;obtain⟨d0,aK,aM⟩:=HA.s.two;simp only[r5] at d0;go_upto_region 19 with(fail);generalize hX:World.setCell _ _ _=X;have aN:Mw (zB w X g A n c T (k+1+1) deep (r5 5 ⟨#[]⟩ (strOf t.text))):=by
  refine ae (HA.set cl (by rw[<-hX];exact(((Fr.refl (λb=>b=w.heap.size+1) f).setCell (.inl rfl) _).setCell (.inl rfl) _).setCell (.inl rfl) _) ?_);rw[<-hX];exact((HA.s.aN 0 (.int .i64 5)).aN 6 (.string (strOf t.text))).aN 7 (.slice none 0 0)
 exact AH
 ):p:=h
theorem vC(h:p:=by
 exact AQ
 ):p:=h
end Db
open Db in
theorem GF(g:Nat)(A:Mt)(n c:Nat)(T:List Tok)(k deep:Nat)(w:World)(t:Tok)(h:bI w g A n c T k deep)(ac:ca [108,111,99,107] T k=true)(ht:T[k+1]?=some t)(bK:t.kind=1)(bm:ca [91] T (k+2)=false)(ap:ca [59] T (k+2)=true)(aj:k+3<n) :
  Calls prog 130 #[.pointer (some ⟨g,0,none⟩)] w λe ab=>e=.returned (.agg (r5 5 ⟨#[]⟩ (strOf t.text)).toArray)/\bI ab g A n c T (k+3) deep/\Fr (λb=>b=g) w ab:=by
 have H:=ae h;have bN:=cL ac ht bK bm ap;have cl:=h.blk.lt;clear h ac ht bK bm ap;exact vB
namespace Dc
theorem AI(h:p:=by
 obtain⟨b8,bo,al⟩:=ei (M:=λb=>b=g) (w:=w) (r5 6 ⟨#[]⟩ (strOf t.text)) (by rfl) bk.r bk.fr (LK _) hX;have cc:=ag (bk.ps.on al λb O=>ad) bo;clear hX bo al bl aD aP d0 aK aM;obtain⟨bl,aD,aP⟩:=b8.two;simp only[r5] at bl;refine Mn (v:=.agg (r5 6 ⟨#[]⟩ (strOf t.text)).toArray) (by simp[results,Tryz.results130,go_sem,bl,r5]) rfl ?_;exact⟨rfl,cc.1,cc.2⟩
 ):p:=h
theorem AR(h:p:=by
 refine(show Calls prog 88 #[.pointer (some ⟨g,0,none⟩),.string ⟨#[108,111,99,107]⟩] aT _ from cJ [108,111,99,107] g A n c T k deep aT bc.ps false (by first|exact bN.1|exact fv bN.1 (by decide)) (λh=>by first|omega|cases h)).mono ?_;rintro e b7 ⟨rfl,bg,hF⟩;have bQ:=ae (bc.on cl (show bI b7 g A n c T (k) deep from by simpa using bg) hF);clear bg hF;clear bc;go_wp2_with(fail);refine(show Calls prog 88 #[.pointer (some ⟨g,0,none⟩),.string ⟨#[117,110,108,111,99,107]⟩] b7 _ from cJ [117,110,108,111,99,107] g A n c T k deep b7 bQ.ps true (by first|exact bN.1|exact fv bN.1 (by decide)) (λh=>by first|omega|cases h)).mono ?_;rintro e cS ⟨rfl,bg,hF⟩;have P:=ae (bQ.on cl (show bI cS g A n c T (k+1) deep from by simpa using bg) hF);clear bg hF;clear bQ;go_wp2_with(fail);refine(w1 g A n c T (k+1) deep cS t P.ps bN.2.1 bN.2.2.1 bN.2.2.2.1 ad).mono ?_;rintro e f ⟨rfl,bg,hF⟩;have HA:=ae (P.on cl bg hF);clear bg hF P;obtain⟨d0,aK,aM⟩:=HA.s.two;simp only[r5] at d0;go_upto_region 22 with(fail);generalize hX:World.setCell _ _ _=X;have aN:Mw (zB w X g A n c T (k+1+1) deep (r5 6 ⟨#[]⟩ (strOf t.text))):=by
  refine ae (HA.set cl (by rw[<-hX];exact(((Fr.refl (λb=>b=w.heap.size+1) f).setCell (.inl rfl) _).setCell (.inl rfl) _).setCell (.inl rfl) _) ?_);rw[<-hX];exact((HA.s.aN 0 (.int .i64 6)).aN 6 (.string (strOf t.text))).aN 7 (.slice none 0 0)
 exact AH
 ):p:=h
theorem vC(h:p:=by
 exact AQ
 ):p:=h
end Dc
open Dc in
theorem za(g:Nat)(A:Mt)(n c:Nat)(T:List Tok)(k deep:Nat)(w:World)(t:Tok)(h:bI w g A n c T k deep)(ac:ca [117,110,108,111,99,107] T k=true)(ht:T[k+1]?=some t)(bK:t.kind=1)(bm:ca [91] T (k+2)=false)(ap:ca [59] T (k+2)=true)(aj:k+3<n) :
  Calls prog 130 #[.pointer (some ⟨g,0,none⟩)] w λe ab=>e=.returned (.agg (r5 6 ⟨#[]⟩ (strOf t.text)).toArray)/\bI ab g A n c T (k+3) deep/\Fr (λb=>b=g) w ab:=by
 have H:=ae h;have bN:=cL ac ht bK bm ap;have cl:=h.blk.lt;clear h ac ht bK bm ap;exact vB
def ts(T:List Tok)(k:Nat):Option (aD×Nat):=match T[k+1]? with
 | none=>none
 | some t=>
  if t.kind=1 then
   if ca [103,111] T k then (wF T (k+2)).bind λr=>if ca [59] T (eW (k+2) r) && decide (eW (k+2) r+1<T.length) then some (.call true (strOf t.text) (r.map kq),eW (k+2) r+1) else none
   else if ca [108,111,99,107] T k && !ca [91] T (k+2) && ca [59] T (k+2) && decide (k+3<T.length) then some (.lock false ⟨strOf t.text,none⟩,k+3)
   else if ca [117,110,108,111,99,107] T k && !ca [91] T (k+2) && ca [59] T (k+2) && decide (k+3<T.length) then some (.lock true ⟨strOf t.text,none⟩,k+3)
   else none
  else none
theorem ym{s:ByteArray}(h:((wF T (k+2)).bind λr=>if ca [59] T (eW (k+2) r) && decide (eW (k+2) r+1<T.length) then some (aD.call true s (r.map kq),eW (k+2) r+1) else none)=some (st,F)):
  ∃r,yx T (k+2) r/\ca [59] T (eW (k+2) r)=true/\eW (k+2) r+1<T.length/\st=.call true s (r.map kq)/\F=eW (k+2) r+1:=by
 cases hl:wF T (k+2) with
 | none=>rw[hl] at h;cases h
 | some r=>
  rw[hl] at h;simp only[Option.bind_some] at h;split at h
  .rename_i hc;simp only[LY,Ml] at hc;injection h with h;injection h with ac ap;exact⟨r,uj hl,hc.1,hc.2,ac.symm,ap.symm⟩
  .cases h
theorem yn(h:ts T k=some (st,F)):k+3<=F:=by
 unfold ts at h;split at h
 .cases h
 .split at h
  .split at h
   .obtain⟨r,_,_,_,_,h⟩:=ym h;have:=x9 (k+2) r;omega
   .split at h
    .injection h with h;injection h with _ h;omega
    .split at h
     .injection h with h;injection h with _ h;omega
     .cases h
  .cases h
theorem GG(g:Nat)(A:Mt)(n c:Nat)(T:List Tok)(k deep:Nat)(w:World)(st:aD)(F:Nat)(h:bI w g A n c T k deep)(hs:ts T k=some (st,F)) :
  Calls prog 130 #[.pointer (some ⟨g,0,none⟩)] w λe ab=>∃(q:Int) (a b:ByteArray) (D:Mt) (m l:Nat),e=.returned (.agg #[q,a,(0:Int),(0:Int),Mq,(),.string b,(),.slice D m l,(),()])/\(bj st).rep ab (fresh w ab) [q,a,(0:Int),(0:Int),Mq,(),.string b,(),.slice D m l,(),()]/\bI ab g A n c T F deep/\Fr (λb=>b=g) w ab:=by
 have hl:=h.tv.1;unfold ts at hs;split at hs
 .cases hs
 .rename_i t ht;split at hs
  .rename_i bK;split at hs
   .rename_i hc;obtain⟨r,bD,bz,aj,rfl,rfl⟩:=ym hs;refine(JM g A n c T k deep w t h hc ht bK r bD bz ad).mono ?_;rintro e ab ⟨D,m,l,rfl,hm,hS,bg,hF⟩;exact⟨4,_,_,D,m,l,rfl,IN hS hm,bg,hF⟩
   .split at hs
    .rename_i hc;simp only[LY,Ml,Bool.not_eq_true'] at hc;injection hs with hs;injection hs with ac ap;subst ac ap;refine(GF g A n c T k deep w t h hc.1.1.1 ht bK hc.1.1.2 hc.1.2 ad).mono ?_;rintro e ab ⟨rfl,bg,hF⟩;exact⟨5,_,_,none,0,0,rfl,uV false _,bg,hF⟩
    .split at hs
     .rename_i hc;simp only[LY,Ml,Bool.not_eq_true'] at hc;injection hs with hs;injection hs with ac ap;subst ac ap;refine(za g A n c T k deep w t h hc.1.1.1 ht bK hc.1.1.2 hc.1.2 ad).mono ?_;rintro e ab ⟨rfl,bg,hF⟩;exact⟨6,_,_,none,0,0,rfl,uV true _,bg,hF⟩
     .cases hs
  .cases hs
def jP(T:List Tok):Nat->Nat->Option (List aD×Nat)
 | 0,_=>none
 | f+1,k=>if ca [125] T k then (if k+1<T.length then some ([],k+1) else none) else (ts T k).bind λp=>(jP T f p.2).map λq=>(p.1::q.1,q.2)
theorem xg{ls:List aD}(h:jP T f k=some (ls,F)):(ca [125] T k=true/\k+1<T.length/\ls=[]/\F=k+1)\/(ca [125] T k=false/\∃(st:aD) (bY f2:Nat) (t:List aD),ts T k=some (st,bY)/\jP T f2 bY=some (t,F)/\ls=st::t):=by
 cases f with
 | zero=>cases h
 | succ f=>
  simp only[jP] at h;split at h
  .rename_i ac;split at h
   .rename_i ap;injection h with h;injection h with aV bz;exact .inl ⟨ac,ap,aV.symm,bz.symm⟩
   .cases h
  .rename_i ac
   cases hs:ts T k with
   | none=>rw[hs] at h;cases h
   | some p=>
    rw[hs] at h;obtain⟨st,bY⟩:=p;simp only[Option.bind_some] at h
    cases a5:jP T f bY with
    | none=>rw[a5] at h;cases h
    | some q=>
     rw[a5] at h;simp only[Option.map_some] at h;injection h with h;injection h with aV bz;subst bz;exact .inr ⟨by simpa using ac,st,bY,f,q.1,rfl,a5,aV.symm⟩
theorem Fe(g:Nat)(A:Mt)(n c:Nat)(T:List Tok)(k deep:Nat)(w:World)(f:Nat)(ls:List aD)(F:Nat)(h:bI w g A n c T k deep)(hd:deep<24)(ac:ca [123] T k=true)(aj:k+1<n)(hs:jP T f (k+1)=some (ls,F)) :
  Calls prog 93 #[.pointer (some ⟨g,0,none⟩)] w λe ab=>∃(br:Mt) (on bZ:Nat),e=.returned (.slice br on bZ)/\on<=bZ/\Sl ab (fresh w ab) br on (ls.map bj)/\bI ab g A n c T F deep/\Fr (λb=>b=g) w ab:=by
 have H:=ae h;have bN:=ag ac hs;have cl:=h.blk.lt;have I:=h.ja;have aA:((deep:Int) == 24)=false:=by simp;omega
 clear h ac hs;go_enter func93,ntmps93;go_wp2_with(fail);refine(show Calls prog 86 #[.pointer (some ⟨g,0,none⟩),.string ⟨#[123]⟩] w _ from lL [123] g A n c T k deep w H.o).mono ?_;rintro e aS ⟨rfl,aw⟩;rw[bN.1];have H1:=ag (H.aj aw) (aw.mono (M':=λb=>b=g) λ_ h=>h.elim);clear aw;obtain⟨a0,ai,af⟩:=H1.1.blk.two;go_wp2_with(fail);refine(show Calls prog 129 #[.pointer (some ⟨g,0,none⟩),.string ⟨#[123]⟩] aS _ from kb [123] g A n c T k deep aS H1.1 bN.1 aj).mono ?_;rintro e aT ⟨rfl,bg,hF⟩;have bc:=ag bg (H1.2.trans hF);clear bg hF a0 ai af H1;obtain⟨a0,ai,af⟩:=bc.1.blk.two;go_upto_region 5 with(fail);generalize hX:World.setCell _ _ _=X;have J:=cp hX;have aQ:au X g 180 #[.slice A n c,.int .i64 ((k+1:Nat):Int),(0:Int),(0:Int),(0:Int),.int .i64 ((deep+1:Nat):Int)]:=hX▸bc.1.blk.aN 5 (.int .i64 ((deep:Int)+1));have aN:=ag (show bI X g A n c T (k+1) (deep+1) from ⟨aQ,bc.1.tv.eB (J.below (ay bc.1.blk.lt) λb O hm=>ad),aj,I⟩) (bc.2.trans J);clear hX J aQ a0 ai af bc;go_wp2_with(fail);go_loopw [3] (λU wr=>∃(br:Mt) (on bZ j a7:Nat) (acc rest:List aD),U=.slice br on bZ/\on<=j/\bI wr g A n c T j (deep+1)/\Fr (λb=>b=g) w wr/\Gr (λb=>w.heap.size<=b) w.heap.size 151 11 wr br on bZ (acc.map bj)/\jP T a7 j=some (rest,F)/\acc++rest=ls) (λU _=>4001 - EK U)
 case atStart=>exact⟨none,0,0,k+1,f,[],ls,rfl,ad,aN.1,aN.2,Gr.nil _ _ _ _ _,bN.2,rfl⟩
 case round=>
  obtain⟨br,on,bZ,j,a7,acc,rest,rfl,bA,bg,hF,hG,cz,y⟩:=hrel;clear aN;have u:=bg.lt;have a3:=bF bg hF hG y;obtain⟨a0,ai,af⟩:=bg.blk.two;have od:=hF.size;clear bg hF hG y;rcases xg cz with⟨hc,dN,s,E⟩|⟨hc,st,bY,f2,t,cq,bS,c7⟩
  .have bU:=bF hc dN s E;clear hc dN s E cz;go_wp2_with(fail);refine(show Calls prog 88 #[.pointer (some ⟨g,0,none⟩),.string ⟨#[125]⟩] wr _ from cJ [125] g A n c T j (deep+1) wr a3.1 true bU.1 (λ_=>by have:=bU.2.1;have:=a3.1.tv.1;omega)).mono ?_;rintro e b7 ⟨rfl,bg,hF⟩;have bQ:=ag (show bI b7 g A n c T (j+1) (deep+1) from by simpa using bg) hF;clear bg hF a0 ai af;obtain⟨a0,ai,af⟩:=bQ.1.blk.two;go_upto_region 9 with(fail);generalize hX:World.setCell _ _ _=X;have J:=cp hX;have aQ:au X g 180 #[.slice A n c,.int .i64 ((j+1:Nat):Int),(0:Int),(0:Int),(0:Int),deep]:=hX▸bQ.1.blk.aN 5 (.int .i64 (deep:Int));have aC:Fr (λb=>b=g) wr X:=bQ.2.trans J;have aN:=az (show bI X g A n c T (j+1) deep from ⟨aQ,bQ.1.tv.eB (J.below (ay bQ.1.blk.lt) λb O hm=>ad),bQ.1.lt,I⟩) (a3.2.1.trans aC) (a3.2.2.1.cZ aC λb O _=>⟨ad,ad⟩);clear hX J aQ aC a0 ai af bQ;go_wp2_with(fail);go_ret;refine⟨br,on,bZ,rfl,aN.2.2.cap.1,?_,by rw[bU.2.2.2];exact aN.1,aN.2.1⟩;have cI:=a3.2.2.2;rw[bU.2.2.1,Mg] at cI;rw[<-cI];exact aN.2.2.sl (λb O hp=>⟨hp,O⟩) λb O hp=>⟨hp,O⟩
  .have bU:=bF hc cq bS c7;have cu:=yn cq;clear hc cq bS c7 cz;go_wp2_with(fail);refine(show Calls prog 88 #[.pointer (some ⟨g,0,none⟩),.string ⟨#[125]⟩] wr _ from cJ [125] g A n c T j (deep+1) wr a3.1 false bU.1 (λh=>by cases h)).mono ?_;rintro e b7 ⟨rfl,bg,hF⟩;have bQ:=ag (show bI b7 g A n c T j (deep+1) from by simpa using bg) hF;clear bg hF a0 ai af;go_wp2_with(fail);refine(GG g A n c T j (deep+1) b7 st bY bQ.1 bU.2.1).mono ?_;rintro e cS ⟨q,a,b,bh,m,l,rfl,aX,bg,hF⟩;have aC:Fr (λb=>b=g) wr cS:=bQ.2.trans hF;have Z:=a3.2.2.1.cZ aC λb O _=>⟨ad,ad⟩
   have hd:=D.aK (de:=lh (λb=>w.heap.size<=b) cS (.slice br on bZ)) (λb O=>⟨by have:=O.1;have:=bQ.2.size;omega,O.2,λh=>by have:=(a3.2.2.1.lt h).2;have:=O.1;have:=bQ.2.size;omega⟩) _ _ aX;have cv:w<=cS.heap.size:=by have:=aC.size;omega
   have P:=bF bg (a3.2.1.trans aC) Z hd;clear bg hF aC Z hd aX bQ;go_wp2_with(at_builtin;refine bL oO rfl (.tmp 34) (.tmp 37) rfl P.2.2.1 P.2.2.2 rfl rfl rfl ad ad cv ?_;intro bP cf c6 al aC cn cb;have bX:=ag al aC;clear al aC cn cb);have bv:∀b,(Value.slice br on bZ).ownBlock=some b->w.heap.size<=b:=λb O=>(P.2.2.1.lt O).1;have aW:Fr (λb=>b=g) w c6:=P.2.1.eZ (bX.2.below cv λk aj h=>by have:=bv k h;omega);have cU:=az (P.1.on bX.2 λb O=>by have:=bv b O;omega) aW bX.1;clear bv aW bX P;go_roundw
   case rel=>exact⟨bP,on+1,cf,bY,f2,acc++[st],t,rfl,ad,cU.1,cU.2.1,by rw[LR];exact cU.2.2,bU.2.2.1,by have:=a3.2.2.2;rw[bU.2.2.2] at this;rw[<-this];simp⟩
   case measure=>simp only[EK];omega
theorem E5{B e z:Nat}{v:Value}{xs:List Value}(h:w.ownsRow B e z v n xs)(aj:∀b,B<=b->b<w.heap.size->ab.heap[b]?=w.heap[b]?):ab.ownsRow B e z v n xs:=by
 refine⟨h.1,?_⟩;rcases h.2 with ap|⟨ag,cap,cur,bE,j,aW,rest⟩
 .exact .inl ap
 .exact .inr ⟨ag,cap,cur,bE,j,(aj ag j (Array.getElem?_eq_some_iff.1 aW).1).trans aW,rest⟩
namespace De
theorem dC(h:p:=by
 clear bK ao aH;generalize bY:World.setCell aT _ _=b5;have cE:=cp bY;have bN:au b5 X 119 #[false,mi,.slice cC 1 a9]:=bY▸bh.aN 2 _;have ah:=ab.on cE ad;have bi:=U.on cE ad;have j:=ae cE;clear bY bh ab U cE;obtain⟨a0,ai,af⟩:=bi.two;obtain⟨bK,ao,aH⟩:=bN.two;obtain⟨d6,dv,dA⟩:=ah.two;go_wp2;rw[rounds_succ];go_wp2;generalize co:World.setCell _ _ _=Y;obtain⟨S,aO,aW⟩:=bX.o;have bL:=aW.size;have a3:=aO.size;have bn:=j.size;have b0:Ext w b5:=⟨j.os.trans ((cd.trans (aO.trans aW)).os),j.tape.trans ((cd.trans (aO.trans aW)).tape),j.output.trans ((cd.trans (aO.trans aW)).output),L6 (cd.trans (aO.trans aW)).size bn,
  λk aj _=>(j.block k (LL aj (cd.trans (aO.trans aW)).size) ad).trans ((cd.trans (aO.trans aW)).block k aj λh=>h)⟩
 obtain⟨bH,bG,bx⟩:=pX ah b0 (Nat.le_succ _) co;obtain⟨bl,aD,aP⟩:=bH.two;refine Mn (v:=.agg #[false,mi,.slice cC 1 a9]) (by simp[results,Tryz.results122,go_sem,bl]) rfl ?_;refine⟨_,_,_,_,_,rfl,?_,bG⟩;rw[bj.o];refine eh.2 ⟨cC,1,a9,rfl,ad,?_⟩;simp only[hx,Option.map_some,Option.toList_some,LQ,Me];have c4:=bx.size;have fO:=dd.lt;have cS:∀b,dk.heap.size<=b->b<aT.heap.size->Y.heap[b]?=aT.heap[b]?:=λb ac ap=>(bx.block b ad ad).trans (j.block b ap ad);have f:=E5 S cS;simp only[L8,Mh] at f;refine Sl.mQ f ?_ rfl (λag _ ac ap=>⟨ad,ap⟩);rw[D.bg];exact D.aK (λb bg=>⟨by have:=bg.1;omega,by have:=bg.2;omega⟩) _ _ (D.aS (λb bg=>(cS b bg.1 (ay bg.2)).trans (aW.block b bg.2 λh=>h)) _ _ aq.o)
 ):p:=h
theorem Bi(h:p:=by
 refine dz rfl (by rfl) ?_
 try simp only[PU]
 refine dz rfl (by rfl) ?_
 try simp only[PU]
 refine iv rfl (by rfl) ?_
 try simp only[PU]
 refine dz rfl (by rfl) ?_
 try simp only[PU]
 iterate 2 refine pf ?_
 refine aF ?_;go_wp2;refine wp_loop_rounds 1 ?_;rw[rounds_succ];go_wp2;generalize co:World.setCell _ _ _=Y;obtain⟨bH,bG,_⟩:=pX bf.o cd.o (Nat.le_succ _) co;obtain⟨bl,aD,aP⟩:=bH.two;clear co;refine Mn (v:=.agg #[true,bS,()]) (by simp[results,Tryz.results122,go_sem,bl]) rfl ?_;exact zN
 ):p:=h
theorem fy(h:p:=by
 refine tf ?_;refine ch ?_;generalize hX:World.setCell _ _ _=X;obtain⟨bp,bu,_⟩:=pX b8 bo ak hX;have a8:=ae (br.trans bu);have be:=ae (T.aj bu);have u:=ae (bE.aj bu);clear hX bq am aG b8 bo ak;obtain⟨bq,am,aG⟩:=bp.two;go_upto_region 6 with(fail);generalize hV:World.alloc _ _=dk;have L:=aU hV;have du:=bp.aj L;have Z:=aI hV;have cd:=ae (a8.trans L);have N:=be.aj L;have bf:=ae (u.aj L);have cr:w+2<=X.heap.size:=u.lt;obtain⟨bC,dd⟩:=aJ N Z;clear hV L bp bq am aG;obtain⟨bq,am,aG⟩:=du.two;obtain⟨a0,ai,af⟩:=N.two;obtain⟨bK,ao,aH⟩:=Z.two;obtain⟨d6,dv,dA⟩:=bf.two;have bO:w+2<=dk.heap.size:=ad;clear du N Z;obtain⟨bd,cL,bS⟩:=v;simp only at *;rcases da.o with⟨cI,aX⟩|⟨ap,m,h0,hm,cQ,c0⟩
 .subst cI;have aM:n=0:=by have:=bt.1;rw[aX] at this;exact this.symm
  subst aM;go_wp2;refine eJ (λ_=>False) [(0,3),(1,0),(2,3),(3,3),(4,3),(5,3),(6,3),(7,3),(8,0),(9,3),(10,0),(11,3),(12,3),(13,0),(14,3),(15,3),(16,3)] ?_;refine pf ?_;refine ph ?_
  iterate 2 refine pf ?_
  refine dz rfl (by rfl) ?_;exact Bh
 .subst ap;obtain⟨mi,rfl⟩:=LP h0;rw[Mc] at hm;obtain⟨_,MA,mn,mc,cz,aC,F⟩:=cU.on cd.o;have bb:mi<mn:=by have:=(List.getElem?_eq_some_iff.1 hm).1;have:=F.1;rw[LO] at this;omega
  obtain⟨hv,bQ,b4,cs,rfl,bz,aN,bF,bA,a7⟩:=F.hf (z:=3) (λ_=>rfl) bb;rw[hm] at aN;injection aN with aN;subst aN;obtain rfl:=ft.1 bF;have f2:=a7 2 _ rfl;have bs:hv<dk:=bz;have al:g<dk:=LL b6.lt cd.size;clear F bA a7 bF bz;by_cases aL:0<m.size
  .have bI:decide (m.size > 0)=true:=by simpa using aL
   obtain⟨x,hx,aA⟩:=cQ aL;have an:=bt.on (Fr.ext cd.o);rw[hx] at an;obtain rfl:1=n:=an.1;obtain⟨b,o,ci,aK,a4,E,rfl,O,cm,e0,e1,e2,e3⟩:=Sl.E2 an (df x);obtain⟨B,bv,bc,e,cx,cv⟩:=aZ.1 cm;simp only[List.cons.injEq,and_true] at e;obtain⟨rfl,rfl,rfl,rfl⟩:=e;have a1:b<dk:=O;have H:=ae cm;have bU:=ae (gx l x aA);have bM:=ae (b6.on cd.o);clear cm cv O an cQ c0;go_wp2;refine eJ (λ_=>False) [(0,3),(1,0),(2,3),(3,3),(4,3),(5,3),(6,3),(7,3),(8,0),(9,3),(10,0),(11,3),(12,3),(13,0),(14,3),(15,3),(16,3)] ?_;refine pf ?_;refine ph ?_
   iterate 6 refine pf ?_
   refine ph ?_;refine pf ?_;refine ph ?_
   iterate 2 refine pf ?_
   refine ph ?_
   iterate 3 refine pf ?_
   refine aF ?_;go_wp2;refine wp_loop_rounds 2 ?_;rw[rounds_succ];go_wp2;refine eJ (λ_=>False) [(0,3),(1,0),(2,3),(3,3),(4,0),(5,3),(6,3),(7,0),(8,3),(9,1),(10,1),(11,2),(12,3),(13,2)] ?_;refine pf ?_;refine bJ (v:=?_) rfl (by rfl) (λV hV=>?_) ?_;rotate_left
   .obtain⟨hVc,hVf⟩:=Fr.jt hV
    (go_simp<;>with_reducible rfl)
   try simp only[PU]
   iterate 2 refine pf ?_
   refine bJ (v:=?_) rfl (by rfl) (λV hV=>?_) ?_;rotate_left
   .obtain⟨hVc,hVf⟩:=Fr.jt hV
    (go_simp<;>with_reducible rfl)
   try simp only[PU]
   iterate 2 refine pf ?_
   refine bJ (v:=?_) rfl (by rfl) (λV hV=>?_) ?_;rotate_left
   .obtain⟨hVc,hVf⟩:=Fr.jt hV
    (go_simp<;>with_reducible rfl)
   try simp only[PU]
   refine pf ?_;refine aB rfl (λK hK=>?_);go_simp;refine(bU.o g st _ _ _ _ _ _ _ (bM.on Mo.drew.drew) (D.on H.o (Fr.ext Mo.drew.drew))).mono ?_;rintro e aS ⟨o1,n1,s1,cR,c5,cq,rfl,c7,ar⟩;refine dq hK (ar) ?_;clear hK K;have aO:Ext dk aS:=Fr.aG (Fr.aG ar);have G:(bm (bP l x)).rep aS (fresh dk aS) [o1,n1,s1,.slice cR c5 cq]:=c7;have aq:=ae G;refine rb ?_;refine ax rfl (λK hK=>?_);rw[if_pos (by rfl)];have a3:=aO.size;refine yt _ pD (.tmp 79) (.tmp 88) (by rfl) dk (.slice none 0 0) 0 [] _ (by rfl) ⟨by simp,.inl ⟨rfl,rfl⟩⟩ (by rfl) (by rfl) (by simp[Value.oneCell']) ad ad a3 ?_;intro v2 aT S aV _;obtain⟨cC,a9,rfl,bk,_⟩:=bT S;have aW:Ext aS aT:=Mo.grown aV (by simp[Value.ownBlock]);have bh:=(dd.aj aO).aj aW;have ab:=(bf.aj aO).aj aW;have U:=(bC.aj aO).aj aW;have bX:=az S aO aW;clear S aV c7 G ar aO aW a0 ai af bq am aG bK ao aH d6 dv dA e0 e1 e2 e3 a1 f2 bs al aC;obtain⟨bK,ao,aH⟩:=bh.two;exact sL
  .have bI:decide (m.size > 0)=false:=by simp;omega
   have aX:=c0 ad;have aM:n=0:=by have:=bt.1;rw[aX] at this;exact this.symm
   subst aM;clear cQ c0;go_wp2;refine eJ (λ_=>False) [(0,3),(1,0),(2,3),(3,3),(4,3),(5,3),(6,3),(7,3),(8,0),(9,3),(10,0),(11,3),(12,3),(13,0),(14,3),(15,3),(16,3)] ?_;refine pf ?_;refine ph ?_
   iterate 6 refine pf ?_
   refine ph ?_;refine pf ?_;refine ph ?_
   iterate 2 refine pf ?_
   refine ph ?_
   iterate 3 refine pf ?_
   refine aF ?_;go_wp2;refine wp_loop_rounds 1 ?_;rw[rounds_succ];go_wp2;generalize co:World.setCell _ _ _=Y;obtain⟨bH,bG,_⟩:=pX bf.o cd.o (Nat.le_succ _) co;obtain⟨bl,aD,aP⟩:=bH.two;clear co;refine Mn (v:=.agg #[false,mi,()]) (by simp[results,Tryz.results122,go_sem,bl]) rfl ?_;exact zN
 ):p:=h
theorem vO(h:p:=by
 refine(ej bw ln lc l r.name V.drew (cu.on (Fr.ext bo.drew)) dw).mono ?_;rintro e aS ⟨rfl,ar⟩;rw[b3.o];simp only[jb,q9];refine dX hK ?_;clear hK K
 iterate 3 refine tf ?_
 have cK:=aQ.aj (Fr.aG ar);have aO:=bo.trans (Fr.aG ar);clear aQ bo ar;exact key W aS ⟨aO,cK,LK _⟩
 ):p:=h
theorem A4(h:p:=by
 refine lz (P:=?P1) (ops:=?o1) (Q:=?q1) (R:=?r1) (tails:=?t1) (rest:=.pick [11] (λ_=>.free 12 (.stop))) (aa:=?aa) (C:=λdh V=>Ext W V/\au V dh 105 #[Mq,(0:Int),(0:Int)]/\W.heap.size<=dh) (λkey=>?main) ?key
 case main=>
  refine a2 ?_ ?_
  ·
   refine bR rfl (λK hK=>?_) rfl;go_simp;refine(ej bw ln lc l r.name W.drew (cu.on (Fr.ext Mo.drew)) dw).mono ?_;rintro e aS ⟨rfl,ar⟩;rw[b3.o];simp only[jb,q9];refine dX hK ?_;clear hK K
   iterate 3 refine tf ?_
   refine av ?_;refine eu ?_;generalize hV:World.alloc _ _=V;have aQ:=aI hV;have bo:Ext W V:=hV▸(Fr.aG ar).alloc _;exact vq
  ·
   exact vN
 case key=>
  rintro dh V ⟨bo,b8,ak⟩;have cN:=bE.lt;have bB:=T.lt;obtain⟨bq,am,aG⟩:=b8.two;clear a0 ai af cP;exact fQ
 ):p:=h
end De
open De in
theorem GI:vo:=by
 intro g l M r ca st s A n c w bD hM a5;obtain⟨I,a6,aE,e,aY,hs⟩:=jE.1 a5;simp only[List.cons.injEq,Value.string.injEq,Value.slice.injEq,and_true] at e;obtain⟨rfl,rfl,rfl,rfl⟩:=e;obtain⟨v,J,aj⟩:=ca;have da:=ae aj;have bj:=ae (show mh l r=⟨v.kind == 5,v.n,r.idx.map (bP l)⟩ by unfold mh;simp only[J]);obtain⟨b3,b6,cU,bt⟩:=iY J bD hM hs;clear a5 hs bD hM aj J;go_enter func122,ntmps122;go_wp2;generalize ba:World.alloc _ _=W;have aw:=h9 ba;have bZ:=gb ba;have cH:=fG ba;clear ba;obtain⟨br,T,bE⟩:=ef aw bZ cH;obtain⟨aR,bw,ln,lc,dw,cP,y⟩:=b6.on aw;have cu:=ae y;obtain⟨a0,ai,af⟩:=bZ.two;clear aw bZ cH y;exact A3
theorem Kf(p:bQ)(hp:oJ p):Jf p:=λf J GA gn gc MA mn mc FA fn fc bw ln lc PA pn pc ce bn bc w h hl bO bl=>
 (sY (λU nk F b=>yE GI U nk F b) p hp f J GA gn gc MA mn mc FA fn fc bw ln lc PA pn pc ce bn bc w h hl bO bl).mono λ_ _ h=>h
theorem ES(p:bQ)(hp:oJ p)(GA:Mt)(gn gc:Nat)(MA:Mt)(mn mc:Nat)(FA:Mt)(fn fc:Nat)(w:World)(h:hL w (aq w) p GA gn MA mn FA fn) :
  Calls prog 12 #[.agg #[.slice GA gn gc,.slice MA mn mc,.slice FA fn fc]] w (xI w (gB p)):=yZ p hp (Kf p hp) GA gn gc MA mn mc FA fn fc w h
def eT:List aD->ao
 | []=>.nil
 | .set v n e::l=>.set v n e (eT l)
 | .call g n aW::l=>.call g n aW (eT l)
 | .lock u r::l=>.lock u r (eT l)
 | .ite e th el::l=>.ite e th el (eT l)
 | .gI e th::l=>.gI e th (eT l)
 | .ret::l=>.ret (eT l)
theorem fT:∀l:List aD,dc (eT l)=l.map bj
 | []=>rfl
 | .set v n e::l=>by simp only[eT,dc,LQ,bj,fT l]
 | .call g n aW::l=>by simp only[eT,dc,LQ,bj,fT l]
 | .lock u r::l=>by simp only[eT,dc,LQ,bj,fT l]
 | .ite e th el::l=>by simp only[eT,dc,LQ,bj,fT l]
 | .gI e th::l=>by simp only[eT,dc,LQ,bj,fT l]
 | .ret::l=>by simp only[eT,dc,LQ,bj,fT l]
def ku(T:List Tok):Nat->Nat->Option (List bM×List aL)
 | 0,_=>none
 | f+1,k=>if tu 5 T k then some ([],[]) else match T[k+1]? with
  | none=>none
  | some t=>if t.kind=1 then
    if ca [109,117,116,101,120] T k && !ca [91] T (k+2) && ca [59] T (k+2) && decide (k+3<T.length) then (ku T f (k+3)).map λq=>(⟨strOf t.text,false,0⟩::q.1,q.2)
    else if ca [102,117,110,99] T k then
     (wF T (k+2)).bind λr=>if ca [123] T (eW (k+2) r) && decide (eW (k+2) r+1<T.length) then (jP T 100 (eW (k+2) r+1)).bind λs=>(ku T f s.2).map λq=>(q.1,⟨strOf t.text,r.map kt,eT s.1⟩::q.2) else none
    else none
   else none
theorem wY{ms:List bM}{fs:List aL}(h:ku T f k=some (ms,fs)):(tu 5 T k=true/\ms=[]/\fs=[])\/(tu 5 T k=false/\∃(t:Tok) (f2:Nat),T[k+1]?=some t/\t.kind=1/\
  ((∃di,ca [109,117,116,101,120] T k=true/\ca [91] T (k+2)=false/\ca [59] T (k+2)=true/\k+3<T.length/\ku T f2 (k+3)=some (di,fs)/\ms=⟨strOf t.text,false,0⟩::di)\/(∃r ls bY ec,ca [102,117,110,99] T k=true/\yx T (k+2) r/\ca [123] T (eW (k+2) r)=true/\eW (k+2) r+1<T.length/\jP T 100 (eW (k+2) r+1)=some (ls,bY)/\ku T f2 bY=some (ms,ec)/\fs=⟨strOf t.text,r.map kt,eT ls⟩::ec))):=by
 cases f with
 | zero=>cases h
 | succ f=>
  unfold ku at h
  cases cI:tu 5 T k with
  | true=>
   rw[cI,if_pos rfl] at h;injection h with h;injection h with ac ap
   exact .inl ⟨rfl,ac.symm,ap.symm⟩
  | false=>
   rw[cI,if_neg (by simp)] at h;refine .inr ⟨rfl,?_⟩
   cases ht:T[k+1]? with
   | none=>rw[ht] at h;cases h
   | some t=>
    rw[ht] at h;simp only at h;split at h
    .rename_i bK;refine⟨t,f,rfl,bK,?_⟩;split at h
     .rename_i hc;simp only[LY,Bool.not_eq_true',Ml] at hc
      cases hp:ku T f (k+3) with
      | none=>rw[hp] at h;cases h
      | some q=>
       rw[hp] at h;injection h with h;injection h with ac ap;refine .inl ⟨q.1,hc.1.1.1,hc.1.1.2,hc.1.2,hc.2,?_,ac.symm⟩;rw[<-ap]
     .split at h
      .rename_i hc
       cases hl:wF T (k+2) with
       | none=>rw[hl] at h;cases h
       | some r=>
        rw[hl] at h;simp only[Option.bind_some] at h;split at h
        .rename_i O;simp only[LY,Ml] at O
         cases hs:jP T 100 (eW (k+2) r+1) with
         | none=>rw[hs] at h;cases h
         | some s=>
          rw[hs] at h;simp only[Option.bind_some] at h
          cases hp:ku T f s.2 with
          | none=>rw[hp] at h;cases h
          | some q=>
           rw[hp] at h;injection h with h;injection h with ac ap;refine .inr ⟨r,s.1,s.2,q.2,hc,uj hl,O.1,O.2,hs,?_,ap.symm⟩;rw[<-ac];exact hp
        .cases h
      .cases h
    .cases h
theorem uX{T:List Tok}:∀(f k:Nat) (ls:List aD) (F:Nat),jP T f k=some (ls,F)->k<F
 | 0,_,_,_,h=>by cases h
 | f+1,k,ls,F,h=>by
  simp only[jP] at h;split at h
  .split at h
   .injection h with h;injection h with _ h;omega
   .cases h
  .cases hs:ts T k with
   | none=>rw[hs] at h;cases h
   | some p=>
    rw[hs] at h;simp only[Option.bind_some] at h
    cases bK:jP T f p.2 with
    | none=>rw[bK] at h;cases h
    | some q=>
     rw[bK] at h;injection h with h;injection h with _ h;have ac:=uX f p.2 q.1 q.2 bK;have ap:=yn (show ts T k=some (p.1,p.2) from hs);omega
theorem Ii:cn prog 29 96 (.agg #[Mq,(),()]) 3 64:=cn.mk' Tryz.underlying29 (by kernel_rfl) rfl ad
theorem Fr.uo{M M':Nat->Prop}{a b:World}(h:Fr M a b)(hM:∀k,k<a.heap.size->M k->M' k):Fr M' a b:=⟨h.os,h.tape,h.output,h.size,λk aj hn=>h.block k aj λhm=>hn (hM k aj hm)⟩
def E9(g:Nat)(w:World):Nat:=match w.cell? ⟨g,1,none⟩ with|some (.int _ z)=>z.toNat|_=>0
theorem bI.pos(h:bI w g A n c T k deep):E9 g w=k:=by
 unfold E9;rw[h.blk.cell];rfl
namespace Dr
theorem dC(h:p:=by
 generalize hX:World.setCell _ _ _=X;have bU:=bX.1;have b4:=cp hX;have bp:au X (g+1) 31 #[(),.slice cC (mn+1) c3,.slice FA fn fc]:=hX▸bX.2.2.aN 1 _;have aN:=az bp b4 (bU.cZ b4 λb O _=>ad);clear hX bU b4 bp ci bO b5;have P:=bm.on aN.2.1 λb O=>ad;have bB:=P.pos;have bx:=a3.2.2.2.2.2.2.2.2;have y:=ae P;clear P;go_roundw
 case rel=>
  have cE:Fr (λb=>b=g\/b=g+1) V X:=Fr.uo (M:=λb=>(b=g\/b=g+1)\/(Value.slice MA mn mc).ownBlock=some b) (Fr.trans (Fr.trans (Fr.trans (Fr.mono a3.2.1 λ_ h=>.inl h) (Fr.mono av.2 λ_ h=>.inl (.inl h))) (Fr.mono bX.2.1 λ_ h=>.inr h)) (Fr.mono aN.2.1 λ_ h=>.inl (.inr h))) λb O hm=>hm.elim id λhm=>absurd (aA.o b hm) ad
  iterate 101 apply Exists.intro
  refine⟨⟨k+3,f2,cC,mn+1,c3,FA,fn,fc,am++[⟨strOf t.text,false,0⟩],b8,an,ec,y.o,cE,aN.1,by rw[LR];exact aN.2.2,U.2.2.2.2.1,?_,a3.2.2.2.2.2.1,?_,a3.2.2.2.2.2.2.2.1⟩,rfl⟩
  .rw[<-a3.2.2.2.2.1,U.2.2.2.2.2];simp
  .rw[a3.2.2.2.2.2.2.1];simp
 case measure=>rw[bB,bx];have:=y.lt;omega
 ):p:=h
end Dr
open Dr in
theorem y7(s:ByteArray)(b o cap:Nat)(w:World)(ms:List bM)(fs:List aL)(a7:Nat)(h:fF w b o cap s)(hs:s.size<=4000)(hn:(dE s.data.toList).1.length<=4001)(aM:0<(dE s.data.toList).1.length)(he:(dE s.data.toList).2.2=0)(hp:ku (dE s.data.toList).1 a7 0=some (ms,fs))(cj:ms.length<=12)(ce:fs.length<=16) :
  Calls prog 48 #[.slice (some ⟨b,o,none⟩) s.size cap] w λe ab=>∃(MA:Mt) (mn mc:Nat) (FA:Mt) (fn fc:Nat) (z:Int),e=.returned (.tuple #[.agg #[(),.slice MA mn mc,.slice FA fn fc],z,(0:Int)])/\hL ab (fresh w ab) ⟨[],ms,fs⟩ none 0 MA mn FA fn/\mn<=mc/\fn<=fc/\Ext w ab:=by
 obtain⟨R,bw⟩:∃R,R=dE s.data.toList:=⟨_,rfl⟩
 rw[<-bw] at hn aM he hp;obtain⟨T,z,cF⟩:=R;simp only at hn aM he hp;subst he;have H:=cL h hp cj ce bw;clear h hp cj ce bw;go_enter func48,ntmps48;go_upto_region 1 with(fail);generalize ba:World.alloc _ _=W;have aw:=aU ba;have cv:=aI ba;have ah:=ag aw cv;have cN:=cv.lt;clear ba aw cv;go_wp2_with(fail);refine(show Calls prog 69 _ W (kD W (T,z,0)) by rw[H.2.2.2.2];exact x6 s b o cap W (H.1.on ah.1) ad).mono ?_;rintro e aS ⟨A,n,c,rfl,aY,dB,b0⟩;have aO:Ext W aS:=Fr.of b0;have cg:n=T.length:=dB.1.symm;have c8:n<=4001:=by rw[cg];exact hn
 have aZ:0<n:=by rw[cg];exact aM
 have H1:=az aO dB cg;have cq:=aO.size;clear hn aM b0 aO dB cg aY;go_upto_region 5 with(fail);generalize hV:World.alloc _ _=V;have bo:=h9 hV;have bP:=gb hV;have ao:=fG hV;obtain⟨g,aR⟩:∃g,g=aS.heap.size:=⟨_,rfl⟩
 rw[<-aR] at bP ao ⊢;have bQ:bI V g A n c T 0 0:=⟨bP,(H1.2.1.cZ (Fr.ext bo) bo.size).eB (Below.refl _ _) |> λh=>by
  rw[aR];exact H1.2.1.eB (Fr.ext bo),aZ,c8⟩
 have cc:=bF bQ ao bo aR;have b1:=ao.lt;have em:W<=g:=ad;clear hV bo bP ao bQ aR;go_wp2_with(fail);go_loopw [78] (λ_ wr=>∃(k a7:Nat) (MA:Mt) (mn mc:Nat) (FA:Mt) (fn fc:Nat) (am di:List bM) (an ec:List aL),bI wr g A n c T k 0/\Fr (λb=>b=g\/b=g+1) V wr/\au wr (g+1) 31 #[(),.slice MA mn mc,.slice FA fn fc]/\lA V 89 3 96 3 wr MA mn mc (am.map eK) FA fn fc (an.map dD)/\ku T a7 k=some (di,ec)/\am++di=ms/\an++ec=fs/\mn=am.length/\fn=an.length) (λ_ wr=>4001 - E9 g wr)
 case atStart=>exact⟨0,a7,none,0,0,none,0,0,[],ms,[],fs,cc.1,Mo,cc.2.1,lA.nil _ _ _ _ _ _,H.2.1,rfl,rfl,rfl,rfl⟩
 case round=>
  obtain⟨k,cB,MA,mn,mc,FA,fn,fc,am,di,an,ec,bg,hF,aQ,hG,aV,aJ,aH,cz,bi⟩:=hrel;have a8:=bg.lt;have cj:am.length+di.length<=12:=by have:=H.2.2.1;rw[<-aJ,LM] at this;exact this
  have ce:an.length+ec.length<=16:=by have:=H.2.2.2.1;rw[<-aH,LM] at this;exact this
  have u:=bg.pos;have a3:=tI bg hF aQ hG aJ aH cz bi u;have cl:=hF.size;obtain⟨a0,ai,af⟩:=bg.blk.two;rcases wY aV with⟨cI,c7,df⟩|⟨cI,t,f2,ht,bK,ck⟩
  .have bN:=az cI c7 df;clear cI c7 df bg hF aQ hG aJ aH aV cj ce cz bi u;go_wp2_with(fail);refine(o9 5 g A n c T k 0 wr a3.1).mono ?_;rintro e aT ⟨rfl,aW⟩;rw[bN.1];have bc:=ae aW;clear a0 ai af;obtain⟨a0,ai,af⟩:=(a3.1.blk.aj aW).two;obtain⟨ci,bO,b5⟩:=(a3.2.2.1.aj aW).two;have a6:Ext W aT:=Fr.low (M:=λb=>b=g\/b=g+1) (Fr.trans (Fr.mono (H1.1.trans cc.2.2.1) λ_ h=>h.elim) (Fr.trans a3.2.1 (Fr.mono aW λ_ h=>h.elim))) λb O=>ad;have Q:=ah.2.aj a6;have N:=ag Q (ah.1.trans a6);obtain⟨bl,aD,aP⟩:=Q.two;have bS:=aW.size;clear aW a6 Q;go_wp2_with(fail);generalize hX:World.setCell _ _ _=Z;obtain⟨bs,a9,bf⟩:=bA (w:=w) [(),.slice MA mn mc,.slice FA fn fc] (by rfl) N.1 N.2 ad hX;have bk:=ag a9 bf;clear hX a9 bf bl aD aP a0 ai af ci bO b5;obtain⟨bl,aD,aP⟩:=bs.two;refine Mn (v:=.tuple #[.agg #[(),.slice MA mn mc,.slice FA fn fc],z,(0:Int)]) (by simp[results,Tryz.results48,go_sem,bl]) rfl ?_;have hm:am=ms:=by have:=a3.2.2.2.2.1;rw[bN.2.1,Mg] at this;exact this
   have J:an=fs:=by have:=a3.2.2.2.2.2.1;rw[bN.2.2,Mg] at this;exact this
   have L:=a3.2.2.2.1.aj bc.o;have cU:=bk.2.size;have bn:=L.cZ bk.2 λb O _=>by have:=cc.2.2.1.size;omega
   rw[hm,J] at bn;have ds:=cc.2.2.1.size;exact⟨MA,mn,mc,FA,fn,fc,z,rfl,⟨Sl.bS _,bn.one.sl (λb ac ap=>⟨by have:=ap.1;omega,ac⟩) (λb ac ap=>⟨ad,ac⟩),bn.two.sl (λb ac ap=>⟨by have:=ap.1;omega,ac⟩) (λb ac ap=>⟨ad,ac⟩)⟩,bn.one.cap.1,bn.two.cap.1,bk.1⟩
  .rcases ck with⟨b8,c5,dv,dt,dA,ek,bH⟩|⟨r,ls,bY,b7,c5,dv,dA,ek,bH,eq,cm⟩
   ·
    have ch:T.length<=n:=Nat.le_of_eq H1.2.2.symm;have cd:di.length=b8.length+1:=by rw[bH];rfl
    have bz:mn<=11:=ad;have cw:((mn:Int) == 12)=false:=by simp;omega
    have eC:k+3<n:=ad;have cb:=ae cI;have S:=az c5 (show ca [118,97,114] T k=false from fv c5 (by decide)) (show ca [102,117,110,99] T k=false from fv c5 (by decide));have U:=dm ht bK dv dt ek bH;clear bg hF aQ hG aJ aH aV cz bi u cI c5 dv dt dA ek bH ht bK cd cj ce;have bu:g+1≠g:=ad;go_wp2_with(fail);refine(o9 5 g A n c T k 0 wr a3.1).mono ?_;rintro e v0 ⟨rfl,aW⟩;rw[cb.o];have bq:=ag (a3.1.aj aW) (aW.mono (M':=λb=>b=g) λ_ h=>h.elim);clear aW a0 ai af;go_wp2_with(fail);refine(show Calls prog 86 #[.pointer (some ⟨g,0,none⟩),.string ⟨#[118,97,114]⟩] v0 _ from lL [118,97,114] g A n c T (k) 0 v0 bq.1).mono ?_;rintro e v1 ⟨rfl,aw⟩;rw[S.2.1];have b2:=ag (bq.1.aj aw) (bq.2.trans (aw.mono (M':=λb=>b=g) λ_ h=>h.elim));clear aw;go_wp2_with(fail);refine(show Calls prog 86 #[.pointer (some ⟨g,0,none⟩),.string ⟨#[109,117,116,101,120]⟩] v1 _ from lL [109,117,116,101,120] g A n c T (k) 0 v1 b2.1).mono ?_;rintro e v2 ⟨rfl,aw⟩;rw[S.1];have bV:=ag (b2.1.aj aw) (b2.2.trans (aw.mono (M':=λb=>b=g) λ_ h=>h.elim));clear aw;go_wp2_with(fail);refine(show Calls prog 86 #[.pointer (some ⟨g,0,none⟩),.string ⟨#[102,117,110,99]⟩] v2 _ from lL [102,117,110,99] g A n c T (k) 0 v2 bV.1).mono ?_;rintro e cr ⟨rfl,aw⟩;rw[S.2.2];have be:=ag (bV.1.aj aw) (bV.2.trans (aw.mono (M':=λb=>b=g) λ_ h=>h.elim));clear aw;obtain⟨ci,bO,b5⟩:=(a3.2.2.1.on be.2 ad).two;go_wp2_with(fail)
    refine(show Calls prog 88 #[.pointer (some ⟨g,0,none⟩),.string ⟨#[118,97,114]⟩] cr _ from cJ [118,97,114] g A n c T (k) 0 cr be.1 false S.2.1 (λh=>by cases h)).mono ?_;rintro e v4 ⟨rfl,bg,hF⟩;have bC:=ag (show bI v4 g A n c T (k) 0 from by simpa using bg) (be.2.trans hF);clear bg hF;clear ci bO b5;go_wp2_with(fail);refine(show Calls prog 88 #[.pointer (some ⟨g,0,none⟩),.string ⟨#[109,117,116,101,120]⟩] v4 _ from cJ [109,117,116,101,120] g A n c T (k) 0 v4 bC.1 true S.1 (λ_=>ad)).mono ?_;rintro e a1 ⟨rfl,bg,hF⟩;have bG:=ag (show bI a1 g A n c T (k+1) 0 from by simpa using bg) (bC.2.trans hF);clear bg hF;obtain⟨ci,bO,b5⟩:=(a3.2.2.1.on bG.2 ad).two;go_upto_region 13 with(fail);refine eJ (λb=>b=g) [(0,3),(1,0),(2,3),(3,1),(4,1),(5,2),(6,3),(7,2)] ?_;refine pf ?_;refine oH ?_;refine pf ?_;refine aB rfl (λK hK=>?_);go_simp;refine(Ff g A n c T (k+1) 0 a1.drew t (bG.1.aj (Fr.refl _ a1).drew) U.1 U.2.1 U.2.2.1 U.2.2.2.1 eC).mono ?_;rintro e v6 ⟨rfl,bg,hF⟩;have av:=ag (show bI v6 g A n c T (k+3) 0 from bg) (bG.2.trans (Fr.aG hF));refine dq hK (hF) ?_;clear hK K;clear bg hF ci bO b5;refine rb ?_;have bJ:=a3.2.2.2.1.cZ av.2 λb O _=>ad;have dj:=av.2.size;have al:=ae bJ;have cH:=a3.2.2.1.on av.2 bu;have bE:=ae cH;clear bJ cH;refine ax rfl (λK hK=>?_);rw[if_pos (by rfl)];refine qS lX (.tmp 92) (.tmp 95) (by rfl) al.one (d:=eK ⟨strOf t.text,false,0⟩) (cs:=#[.string (strOf t.text),.bool false,.int .i64 0]) (ft.2 rfl) (by rfl) (by rfl) (by rfl) ad ad ad ?_
    intro cC c3 dc bT g2 cP db;have bv:∀b,(Value.slice MA mn mc).ownBlock=some b->V.heap.size<=b:=λb O=>(al.one.lt O).1;have bX:=az (al.grow bT g2 cP) g2 (bE.on g2 λO=>by have:=bv _ O;omega);have bm:=ae (av.1.on g2 λb O=>by have:=bv b O;omega);have aA:=ae bv;obtain⟨ci,bO,b5⟩:=bX.2.2.two;clear bT g2 cP db bv;refine dX hK ?_;clear hK K;refine pf ?_;exact eS
   ·
    have ch:T.length<=n:=Nat.le_of_eq H1.2.2.symm;have cd:ec.length=b7.length+1:=by rw[cm];rfl
    have cy:fn<=15:=ad;have ct:((fn:Int) == 16)=false:=by simp;omega
    have he:k+4<=eW (k+2) r:=x9 _ _;have a2:eW (k+2) r+1<n:=ad;have cu:=uX _ _ _ _ bH;have cb:=ae cI;have S:=bF c5 (show ca [118,97,114] T k=false from fv c5 (by decide)) (show ca [109,117,116,101,120] T k=false from fv c5 (by decide)) (show ca [114,109,117,116,101,120] T k=false from fv c5 (by decide));have U:=gr ht bK dv dA bH eq cm;clear bg hF aQ hG aJ aH aV cz bi u cI c5 dv dA ek bH eq cm ht bK cd cj ce;have bu:g+1≠g:=ad;go_wp2_with(fail);refine(o9 5 g A n c T k 0 wr a3.1).mono ?_;rintro e v0 ⟨rfl,aW⟩;rw[cb.o];have bq:=ag (a3.1.aj aW) (aW.mono (M':=λb=>b=g) λ_ h=>h.elim);clear aW a0 ai af;go_wp2_with(fail);refine(show Calls prog 86 #[.pointer (some ⟨g,0,none⟩),.string ⟨#[118,97,114]⟩] v0 _ from lL [118,97,114] g A n c T (k) 0 v0 bq.1).mono ?_;rintro e v1 ⟨rfl,aw⟩;rw[S.2.1];have b2:=ag (bq.1.aj aw) (bq.2.trans (aw.mono (M':=λb=>b=g) λ_ h=>h.elim));clear aw;go_wp2_with(fail);refine(show Calls prog 86 #[.pointer (some ⟨g,0,none⟩),.string ⟨#[109,117,116,101,120]⟩] v1 _ from lL [109,117,116,101,120] g A n c T (k) 0 v1 b2.1).mono ?_;rintro e v2 ⟨rfl,aw⟩;rw[S.2.2.1];have bV:=ag (b2.1.aj aw) (b2.2.trans (aw.mono (M':=λb=>b=g) λ_ h=>h.elim));clear aw;go_wp2_with(fail);refine(show Calls prog 86 #[.pointer (some ⟨g,0,none⟩),.string ⟨#[114,109,117,116,101,120]⟩] v2 _ from lL [114,109,117,116,101,120] g A n c T (k) 0 v2 bV.1).mono ?_;rintro e cr ⟨rfl,aw⟩;rw[S.2.2.2];have be:=ag (bV.1.aj aw) (bV.2.trans (aw.mono (M':=λb=>b=g) λ_ h=>h.elim))
    clear aw;go_wp2_with(fail);refine(show Calls prog 86 #[.pointer (some ⟨g,0,none⟩),.string ⟨#[102,117,110,99]⟩] cr _ from lL [102,117,110,99] g A n c T (k) 0 cr be.1).mono ?_;rintro e v4 ⟨rfl,aw⟩;rw[S.1];have bC:=ag (be.1.aj aw) (be.2.trans (aw.mono (M':=λb=>b=g) λ_ h=>h.elim));clear aw;obtain⟨ci,bO,b5⟩:=(a3.2.2.1.on bC.2 ad).two;go_wp2_with(fail);refine(show Calls prog 88 #[.pointer (some ⟨g,0,none⟩),.string ⟨#[118,97,114]⟩] v4 _ from cJ [118,97,114] g A n c T (k) 0 v4 bC.1 false S.2.1 (λh=>by cases h)).mono ?_;rintro e a1 ⟨rfl,bg,hF⟩;have bG:=ag (show bI a1 g A n c T (k) 0 from by simpa using bg) (bC.2.trans hF);clear bg hF;clear ci bO b5;go_wp2_with(fail);refine(show Calls prog 88 #[.pointer (some ⟨g,0,none⟩),.string ⟨#[109,117,116,101,120]⟩] a1 _ from cJ [109,117,116,101,120] g A n c T (k) 0 a1 bG.1 false S.2.2.1 (λh=>by cases h)).mono ?_;rintro e v6 ⟨rfl,bg,hF⟩;have av:=ag (show bI v6 g A n c T (k) 0 from by simpa using bg) (bG.2.trans hF);clear bg hF;go_wp2_with(fail);refine(show Calls prog 88 #[.pointer (some ⟨g,0,none⟩),.string ⟨#[114,109,117,116,101,120]⟩] v6 _ from cJ [114,109,117,116,101,120] g A n c T (k) 0 v6 av.1 false S.2.2.2 (λh=>by cases h)).mono ?_;rintro e dc ⟨rfl,bg,hF⟩;have cn:=ag (show bI dc g A n c T (k) 0 from by simpa using bg) (av.2.trans hF);clear bg hF;go_wp2_with(fail)
    refine(show Calls prog 88 #[.pointer (some ⟨g,0,none⟩),.string ⟨#[102,117,110,99]⟩] dc _ from cJ [102,117,110,99] g A n c T (k) 0 dc cn.1 true S.1 (λ_=>ad)).mono ?_;rintro e dF ⟨rfl,bg,hF⟩;have co:=ag (show bI dF g A n c T (k+1) 0 from by simpa using bg) (cn.2.trans hF);clear bg hF;go_wp2_with(fail);refine(mU g A n c T (k+1) 0 dF t co.1 U.1 U.2.1 ad).mono ?_;rintro e bt ⟨rfl,bg,hF⟩;have b9:=ag (show bI bt g A n c T (k+2) 0 from bg) (co.2.trans hF);have eL:=b9.2.size;clear bg hF;go_upto_region 18 with(fail);generalize hX:World.alloc _ _=Z;have a9:=aU hX;have aX:=aI hX;have bd:=az (b9.1.aj a9) (b9.2.trans (a9.mono (M':=λb=>b=g) λ_ h=>h.elim)) aX;have hU:g<bt:=b9.1.blk.lt;clear hX a9 aX;go_wp2_with(fail);refine(wZ g A n c T (k+2) 0 r Z bd.1 U.2.2.1 ad).mono ?_;rintro e v11 ⟨bh,m,l,rfl,hm,bg,hF,bD⟩;have aX:=bd.2.2.on hF ad;have a4:bt<Z.heap.size:=bd.2.2.lt;have aa:=cL bg (bd.2.1.trans hF) aX hm (bD.mono (de:=λb=>bt.heap.size<b/\b<v11.heap.size) λb O=>⟨by have:=O.1;omega,O.2⟩);obtain⟨cK,aG,aK⟩:=aX.two;clear bg hF aX hm bD a4;go_upto_region 19 with(fail);generalize hX:World.setCell _ _ _=Y;have ar:=cp hX;have aX:au Y bt 96 #[.string (strOf t.text),.slice bh m l,()]:=hX▸aa.2.2.1.aN 1 (.slice bh m l);have bD:=(aa.2.2.2.2.ai λb O=>ar.block b O.2 (ay O.1)).mono (de:=λb=>bt.heap.size<b/\b<Y.heap.size) λb O=>⟨O.1,by have:=O.2;have:=ar.size;omega⟩
    have aq:=cL (aa.1.on ar λb O=>ad) (aa.2.1.eZ (ar.below aa.2.1.size λk aj h=>ad)) aX aa.2.2.2.1 bD;have b6:bt<Y.heap.size:=aX.lt;clear hX ar aX cK aG aK bD;go_wp2_with(fail);refine(Fe g A n c T (eW (k+2) r) 0 Y 100 ls bY aq.1 ad U.2.2.2.1 ad U.2.2.2.2.1).mono ?_;rintro e ak ⟨br,on,bZ,rfl,bW,b3,bg,hF⟩;have aX:=aq.2.2.1.on hF ad;have bD:=(aq.2.2.2.2.ai λb O=>hF.block b O.2 (ay O.1)).mono (de:=λb=>bt.heap.size<b/\b<ak.heap.size) λb O=>⟨O.1,by have:=O.2;have:=hF.size;omega⟩
    have j:=gr bg (aq.2.1.trans hF) aX bW b3 aq.2.2.2.1 bD;have cx:=hF.size;obtain⟨cK,aG,aK⟩:=aX.two;clear bg hF aX bW b3 bD;go_upto_region 20 with(fail);generalize hX:World.setCell _ _ _=hj;have ar:=cp hX;have aX:au hj bt 96 #[.string (strOf t.text),.slice bh m l,.slice br on bZ]:=hX▸j.2.2.1.aN 2 (.slice br on bZ);have aC:Fr (λb=>b=g) wr hj:=j.2.1.eZ (ar.below j.2.1.size λk aj h=>ad);have bJ:=a3.2.2.2.1.cZ aC λb O _=>ad;have dj:=aC.size;have cA:=ar.size;have cf:Sl hj (fresh Y ak) br on (ls.map bj):=j.2.2.2.2.1.ai λb O=>ar.block b O.2 (ay O.1);have bb:∀b,(Value.slice MA mn mc).ownBlock=some b->b<wr.heap.size:=λb O=>(a3.2.2.2.1.one.lt O).2;have aE:∀b,(Value.slice FA fn fc).ownBlock=some b->b<wr.heap.size:=λb O=>(a3.2.2.2.1.two.lt O).2;have a5:Sl hj (λb=>bt.heap.size<b/\b<ak.heap.size) bh m ((r.map kt).map cD):=j.2.2.2.2.2.2.ai λb O=>ar.block b O.2 (ay O.1);have bR:(dD ⟨strOf t.text,r.map kt,eT ls⟩).rep hj (lh (λb=>V.heap.size<=b/\(Value.slice MA mn mc).ownBlock≠some b) hj (.slice FA fn fc)) [.string (strOf t.text),.slice bh m l,.slice br on bZ]:=
     k5.2 ⟨bh,m,l,br,on,bZ,rfl,j.2.2.2.2.2.1,j.2.2.2.1,a5.mono λb O=>⟨⟨by have:=O.1;omega,λh=>by have:=bb b h;have:=O.1;omega⟩,by have:=O.2;omega,λh=>by have:=aE b h;have:=O.1;omega⟩,by rw[fT];exact cf.mono λb O=>⟨⟨by have:=O.1;omega,λh=>by have:=bb b h;have:=O.1;omega⟩,by have:=O.2;omega,λh=>by have:=aE b h;have:=O.1;omega⟩⟩
    have al:=ag bJ bR;have cH:=a3.2.2.1.on aC bu;have bE:=ae cH;have av:=ag (j.1.on ar λb O=>ad) aC;clear hX ar aC bJ cf a5 bb aE bR cK aG aK;obtain⟨cK,aG,aK⟩:=aX.two;obtain⟨ci,bO,b5⟩:=cH.two;clear aX cH;go_wp2_with(at_builtin;refine bL Ii rfl (.tmp 121) (.tmp 123) rfl al.1.two (d:=dD ⟨strOf t.text,r.map kt,eT ls⟩) (cs:=#[.string (strOf t.text),.slice bh m l,.slice br on bZ]) al.2 rfl rfl rfl ad ad ad ?_;intro cC c3 dc bT g2 cP db;have bv:∀b,(Value.slice FA fn fc).ownBlock=some b->V.heap.size<=b:=λb O=>(al.1.two.lt O).1;have bX:=az ((al.1.swap.grow bT g2 cP).swap) g2 (bE.on g2 λO=>by have:=bv _ O;omega);have bm:=ae (av.1.on g2 λb O=>by have:=bv b O;omega);have aA:=ae bv;clear ci bO b5 cK aG aK;obtain⟨ci,bO,b5⟩:=bX.2.2.two;clear bT g2 cP db bv);generalize hX:World.setCell _ _ _=X;have bU:=bX.1;have b4:=cp hX;have bp:au X (g+1) 31 #[(),.slice MA mn mc,.slice cC (fn+1) c3]:=hX▸bX.2.2.aN 2 _;have aN:=az bp b4 (bU.cZ b4 λb O _=>ad);clear hX bU b4 bp ci bO b5;have P:=bm.on aN.2.1 λb O=>ad;have bB:=P.pos;have bx:=a3.2.2.2.2.2.2.2.2;have y:=ae P;clear P;go_roundw
    case rel=>
     have cE:Fr (λb=>b=g\/b=g+1) V X:=Fr.uo (M:=λb=>(b=g\/b=g+1)\/(Value.slice FA fn fc).ownBlock=some b) (Fr.trans (Fr.trans (Fr.trans (Fr.mono a3.2.1 λ_ h=>.inl h) (Fr.mono av.2 λ_ h=>.inl (.inl h))) (Fr.mono bX.2.1 λ_ h=>.inr h)) (Fr.mono aN.2.1 λ_ h=>.inl (.inr h))) λb O hm=>hm.elim id λhm=>absurd (aA.o b hm) ad;refine⟨bY,f2,MA,mn,mc,cC,fn+1,c3,am,di,an++[⟨strOf t.text,r.map kt,eT ls⟩],b7,y.o,cE,aN.1,by rw[LR];exact aN.2.2,U.2.2.2.2.2.1,a3.2.2.2.2.1,?_,a3.2.2.2.2.2.2.1,?_⟩
     .rw[<-a3.2.2.2.2.2.1,U.2.2.2.2.2.2];simp
     .rw[a3.2.2.2.2.2.2.2.1];simp
    case measure=>rw[bB,bx];have:=y.lt;omega
def aw:ByteArray:=⟨#[109,117,116,101,120,32,97,59,32,102,117,110,99,32,109,97,105,110,40,41,32,123,32,108,111,99,107,32,97,59,32,108,111,99,107,32,97,59,32,125]⟩
def Iq:ByteArray:=strOf [97]
def FL:bQ:=⟨[],[⟨Iq,false,0⟩],[⟨strOf [109,97,105,110],[],.lock false ⟨Iq,none⟩ (.lock false ⟨Iq,none⟩ .nil)⟩]⟩
theorem vY:(dE aw.data.toList).1.length<=4001/\0<(dE aw.data.toList).1.length/\(dE aw.data.toList).2.2=0:=by decide +kernel
theorem F0:ku (dE aw.data.toList).1 10 0=some (FL.af,FL.funcs):=by rfl
theorem HH:oJ FL:=by
 refine⟨?_,?_,by decide,by decide,by decide,?_,?_,?_,⟨0,_,rfl,rfl,rfl⟩,by decide⟩
 .decide
 .decide
 .decide
 .decide
 .intro f J;simp only[FL,Mi] at J;subst J;refine⟨by decide,by decide,by decide,?_⟩;have a5:sc (h7 FL ⟨strOf [109,97,105,110],[],.lock false ⟨Iq,none⟩ (.lock false ⟨Iq,none⟩ .nil)⟩) (fC FL++cz []) ⟨Iq,none⟩:=.inl ⟨⟨Iq,false,0⟩,by simp[h7,FL],rfl,λh=>absurd h (by decide),λ_=>rfl⟩;exact⟨a5,a5,trivial⟩
def q4:aA:=gB FL
theorem jm:tD q4:=⟨x7 HH,x8 FL⟩
def nn:ak:=(cb q4 (dT q4) 0).1
theorem Ir:(cb q4 (dT q4) 0).2=true:=by decide +kernel
theorem D7:(cb q4 nn 0).2=false:=by decide +kernel
theorem D6:nn.table=[⟨1,1⟩]:=by rfl
theorem vX:aW q4 1 nn:=uW jm.ok (oX jm.ok)
end Go.Proofs.YtpkfopfkdgkfkaaGreat

/- Part 39 of the proof. No condition of its own. -/
import Derived.Test.YtnigabjngpnbiaaGreatQ38
namespace Go.Proofs.YtnigabjngpnbiaaGreat
open Go.RowKit Go.Proofs.Tryz
set_option maxRecDepth 1000000
set_option maxHeartbeats 25600000
set_option linter.unusedVariables false
variable{T:List Tok}{k u:Nat}{P:Nat->Prop}{p:Prop}{w:World}{st:aE}
def ni(k:Int)(n m:ByteArray):List Value:=[.int .i64 k,.string n,.int .i64 0,.int .i64 0,.string ⟨#[]⟩,.slice none 0 0,.string m,.slice none 0 0,.slice none 0 0,.slice none 0 0,.slice none 0 0]
def F5(n:ByteArray)(D:Kj)(m l:Nat):List Value:=[.int .i64 4,.string n,.int .i64 0,.int .i64 0,.string ⟨#[]⟩,.slice none 0 0,.string ⟨#[]⟩,.slice none 0 0,.slice D m l,.slice none 0 0,.slice none 0 0]
theorem GS{n:ByteArray}{D:Kj}{m l:Nat}{aH:List dh}(h:Sl w P D m (aH.map eg))(hm:m<=l):(cc (.call true n aH)).rep w P (F5 n D m l):=j6 uS rG h hm (Sl.c7 _) (JI _) (Sl.c7 _) (JI _)
theorem s0(u:Bool)(n:ByteArray):(cc (.lock u ⟨n,none⟩)).rep w P (ni (if u then 6 else 5) ⟨#[]⟩ n):=
 j6 uS (iM.2 ⟨none,0,0,rfl,JI _,Sl.c7 _⟩) (Sl.c7 _) (JI _) (Sl.c7 _) (JI _) (Sl.c7 _) (JI _)
structure rT(w J:World)(g:Nat)(A:Kj)(n c:Nat)(T:List Tok)(k deep:Nat)(cs:List Value):Prop where
 ps:aH J g A n c T k deep
 fr:Fr (λb=>b=g) w J
 r:au J w.heap.size 185 #[.int .i64 0,.string ⟨#[]⟩,.int .i64 0,.int .i64 0,.string ⟨#[]⟩,.slice none 0 0,.string ⟨#[]⟩,.slice none 0 0,.slice none 0 0,.slice none 0 0,.slice none 0 0]
 s:au J (w.heap.size+1) 185 cs.toArray
theorem rT.on{w J aV:World}{g:Nat}{A:Kj}{n c:Nat}{T:List Tok}{k u deep:Nat}{cs:List Value}(h:rT w J g A n c T k deep cs)(aS:g<w.heap.size)(hp:aH aV g A n c T u deep)(aA:Fr (λb=>b=g) J aV):rT w aV g A n c T u deep cs:=
 ⟨hp,h.fr.trans aA,h.r.on aA ad,h.s.on aA ad⟩
theorem rT.set{J aV:World}{g:Nat}{A:Kj}{n c:Nat}{deep:Nat}{cs a:List Value}(h:rT w J g A n c T k deep cs)(aS:g<w.heap.size)(aA:Fr (λb=>b=w.heap.size+1) J aV)(hs:au aV (w.heap.size+1) 185 a.toArray):rT w aV g A n c T k deep a:=
 ⟨h.ps.on aA λb O=>ad,h.fr.mY (aA.below h.fr.size λk aj hm=>ad),h.r.on aA ad,hs⟩
namespace AX
theorem tw(h:p:=by
 refine(show Calls prog 50 #[.pointer (some ⟨g,0,none⟩),.string ⟨#[103,111]⟩] aL _ from aW [103,111] g A n c T k deep aL H1.ps true (by first|exact br.1|exact cI br.1 (by decide)) (λh=>by first|omega|cases h)).mono ?_;rintro e aV ⟨rfl,S,hF⟩;have bO:=ae (H1.on bC (show aH aV g A n c T (k+1) deep from by simpa using S) hF);clear S hF;clear H1;obtain⟨d0,aQ,aR⟩:=bO.s.two;clear d0 aQ aR;go_wp2_with(fail);refine(g7 g A n c T (k+1) deep aV t bO.ps br.2.1 br.2.2.1 ad).mono ?_;rintro e f ⟨rfl,S,hF⟩;have HA:=ae (bO.on bC S hF);clear S hF bO;obtain⟨d0,aQ,aR⟩:=HA.s.two;simp only[ni] at d0;go_upto_region 15 with(fail);generalize hX:World.setCell _ _ _=X;have aJ:Kl (rT w X g A n c T (k+1+1) deep (ni 4 (strOf t.text) ⟨#[]⟩)):=by
  refine ae (HA.set bC (by rw[<-hX];exact((Fr.refl (λb=>b=w.heap.size+1) f).setCell (.inl rfl) _).setCell (.inl rfl) _) ?_);rw[<-hX];exact(HA.s.bH 0 (.int .i64 4)).bH 1 (.string (strOf t.text))
 clear hX d0 aQ aR HA;go_wp2_with(fail);refine(Dr g A n c T (k+1+1) deep r X aJ.ps br.2.2.2.1 (show ed (k+2) r<n by omega)).mono ?_;rintro e wb ⟨D,m,l,rfl,hm,S,hF,bP⟩;have bp:w.heap.size+1<X.heap.size:=aJ.s.lt;have bL:=av (aJ.on bC S hF) hm (bP.mono (c5:=λb=>w.heap.size+1<b/\b<wb.heap.size) λb O=>⟨by have:=O.1;omega,O.2⟩);clear S hF aJ hm bP bp;obtain⟨d0,aQ,aR⟩:=bL.1.s.two;simp only[ni] at d0;go_upto_region 16 with(fail);generalize hX:World.setCell _ _ _=Y;have L:=da hX;have bw:Kl (rT w Y g A n c T (ed (k+2) r) deep (F5 (strOf t.text) D m l)/\m<=l/\Sl Y (λb=>w.heap.size+1<b/\b<Y.heap.size) D m ((r.map jG).map eg)):=by
  refine ae ⟨bL.1.set bC L ?_,bL.2.1,?_⟩
  .rw[<-hX];exact bL.1.s.bH 8 (.slice D m l)
  .exact(bL.2.2.al λb O=>L.block b O.2 (aC O.1)).mono λb O=>⟨O.1,by have:=O.2;have:=L.size;omega⟩
 clear hX d0 aQ aR bL L;go_wp2_with(fail);refine(show Calls prog 103 #[.pointer (some ⟨g,0,none⟩),.string ⟨#[59]⟩] Y _ from eZ [59] g A n c T (ed (k+2) r) deep Y bw.1.ps br.2.2.2.2 aj).mono ?_;rintro e cP ⟨rfl,S,hF⟩;have bn:=av (bw.1.on bC S hF) bw.2.1 ((bw.2.2.al λb O=>hF.block b O.2 (aC O.1)).mono (c5:=λb=>w.heap.size+1<b/\b<cP.heap.size) λb O=>⟨O.1,by have:=O.2;have:=hF.size;omega⟩);clear S hF bw;obtain⟨d0,aQ,aR⟩:=bn.1.s.two;obtain⟨bh,an,aM⟩:=bn.1.r.two;simp only[F5] at d0;go_wp2_with(fail);generalize hX:World.setCell _ _ _=V;obtain⟨b8,a9,i⟩:=hO (M:=λb=>b=g) (w:=w) (F5 (strOf t.text) D m l) (by rfl) bn.1.r bn.1.fr (JI _) hX;have bR:=b9 (bn.1.ps.on i λb O=>ad) a9 bn.2.1 ((bn.2.2.al λb O=>i.block b O.2 (aC O.1)).mono (c5:=fresh w V) λb O=>⟨by have:=O.1;omega,by have:=O.2;have:=i.size;omega⟩);clear hX a9 i bh an aM d0 aQ aR;obtain⟨bh,an,aM⟩:=b8.two;simp only[F5] at bh;refine Ke (v:=.agg (F5 (strOf t.text) D m l).toArray) (by simp[results,Tryz.results104,go_sem,bh,F5]) rfl ?_;exact⟨D,m,l,rfl,bR.2.2.1,bR.2.2.2,bR.1,bR.2.1⟩
 ):p:=h
end AX
open AX in
theorem HK(g:Nat)(A:Kj)(n c:Nat)(T:List Tok)(k deep:Nat)(w:World)(t:Tok)(h:aH w g A n c T k deep)(ac:aN [103,111] T k=true)(ht:T[k+1]?=some t)(bx:t.kind=1)(r:List Tok)(ap:wS T (k+2) r)(bt:aN [59] T (ed (k+2) r)=true)(aj:ed (k+2) r+1<n) :
  Calls prog 104 #[.pointer (some ⟨g,0,none⟩)] w λe J=>∃D m l,e=.returned (.agg (F5 (strOf t.text) D m l).toArray)/\m<=l/\Sl J (fresh w J) D m ((r.map jG).map eg)/\aH J g A n c T (ed (k+2) r+1) deep/\Fr (λb=>b=g) w J:=by
 have H:=ae h;have br:=dT ac ht bx ap bt;have bC:=h.blk.lt;have he:k+4<=ed (k+2) r:=by unfold ed;split<;>omega
 clear h ac ht bx ap bt;exact tv
namespace AY
theorem zi(h:p:=by
 obtain⟨b8,a9,i⟩:=hO (M:=λb=>b=g) (w:=w) (ni 5 ⟨#[]⟩ (strOf t.text)) (by rfl) bn.r bn.fr (JI _) hX;have bR:=ak (bn.ps.on i λb O=>ad) a9;clear hX a9 i bh an aM d0 aQ aR;obtain⟨bh,an,aM⟩:=b8.two;simp only[ni] at bh;refine Ke (v:=.agg (ni 5 ⟨#[]⟩ (strOf t.text)).toArray) (by simp[results,Tryz.results104,go_sem,bh,ni]) rfl ?_;exact⟨rfl,bR.1,bR.2⟩
 ):p:=h
theorem zp(h:p:=by
 refine(show Calls prog 50 #[.pointer (some ⟨g,0,none⟩),.string ⟨#[108,111,99,107]⟩] aV _ from aW [108,111,99,107] g A n c T k deep aV bO.ps true (by first|exact br.1|exact cI br.1 (by decide)) (λh=>by first|omega|cases h)).mono ?_;rintro e bV ⟨rfl,S,hF⟩;have cb:=ae (bO.on bC (show aH bV g A n c T (k+1) deep from by simpa using S) hF);clear S hF;clear bO;go_wp2_with(fail);refine(uP g A n c T (k+1) deep bV t cb.ps br.2.1 br.2.2.1 br.2.2.2.1 ad).mono ?_;rintro e f ⟨rfl,S,hF⟩;have HA:=ae (cb.on bC S hF);clear S hF cb;obtain⟨d0,aQ,aR⟩:=HA.s.two;simp only[ni] at d0;go_upto_region 19 with(fail);generalize hX:World.setCell _ _ _=X;have aJ:Kl (rT w X g A n c T (k+1+1) deep (ni 5 ⟨#[]⟩ (strOf t.text))):=by
  refine ae (HA.set bC (by rw[<-hX];exact(((Fr.refl (λb=>b=w.heap.size+1) f).setCell (.inl rfl) _).setCell (.inl rfl) _).setCell (.inl rfl) _) ?_);rw[<-hX];exact((HA.s.bH 0 (.int .i64 5)).bH 6 (.string (strOf t.text))).bH 7 (.slice none 0 0)
 exact zh
 ):p:=h
theorem tw(h:p:=by
 exact zo
 ):p:=h
end AY
open AY in
theorem EJ(g:Nat)(A:Kj)(n c:Nat)(T:List Tok)(k deep:Nat)(w:World)(t:Tok)(h:aH w g A n c T k deep)(ac:aN [108,111,99,107] T k=true)(ht:T[k+1]?=some t)(bx:t.kind=1)(bK:aN [91] T (k+2)=false)(ap:aN [59] T (k+2)=true)(aj:k+3<n) :
  Calls prog 104 #[.pointer (some ⟨g,0,none⟩)] w λe J=>e=.returned (.agg (ni 5 ⟨#[]⟩ (strOf t.text)).toArray)/\aH J g A n c T (k+3) deep/\Fr (λb=>b=g) w J:=by
 have H:=ae h;have br:=dT ac ht bx bK ap;have bC:=h.blk.lt;clear h ac ht bx bK ap;exact tv
namespace AZ
theorem zi(h:p:=by
 obtain⟨b8,a9,i⟩:=hO (M:=λb=>b=g) (w:=w) (ni 6 ⟨#[]⟩ (strOf t.text)) (by rfl) bn.r bn.fr (JI _) hX;have bR:=ak (bn.ps.on i λb O=>ad) a9;clear hX a9 i bh an aM d0 aQ aR;obtain⟨bh,an,aM⟩:=b8.two;simp only[ni] at bh;refine Ke (v:=.agg (ni 6 ⟨#[]⟩ (strOf t.text)).toArray) (by simp[results,Tryz.results104,go_sem,bh,ni]) rfl ?_;exact⟨rfl,bR.1,bR.2⟩
 ):p:=h
theorem zp(h:p:=by
 refine(show Calls prog 50 #[.pointer (some ⟨g,0,none⟩),.string ⟨#[108,111,99,107]⟩] aV _ from aW [108,111,99,107] g A n c T k deep aV bO.ps false (by first|exact br.1|exact cI br.1 (by decide)) (λh=>by first|omega|cases h)).mono ?_;rintro e bV ⟨rfl,S,hF⟩;have cb:=ae (bO.on bC (show aH bV g A n c T (k) deep from by simpa using S) hF);clear S hF;clear bO;go_wp2_with(fail);refine(show Calls prog 50 #[.pointer (some ⟨g,0,none⟩),.string ⟨#[117,110,108,111,99,107]⟩] bV _ from aW [117,110,108,111,99,107] g A n c T k deep bV cb.ps true (by first|exact br.1|exact cI br.1 (by decide)) (λh=>by first|omega|cases h)).mono ?_;rintro e cE ⟨rfl,S,hF⟩;have bg:=ae (cb.on bC (show aH cE g A n c T (k+1) deep from by simpa using S) hF);clear S hF;clear cb;go_wp2_with(fail);refine(uP g A n c T (k+1) deep cE t bg.ps br.2.1 br.2.2.1 br.2.2.2.1 ad).mono ?_;rintro e f ⟨rfl,S,hF⟩;have HA:=ae (bg.on bC S hF);clear S hF bg;obtain⟨d0,aQ,aR⟩:=HA.s.two;simp only[ni] at d0;go_upto_region 22 with(fail);generalize hX:World.setCell _ _ _=X;have aJ:Kl (rT w X g A n c T (k+1+1) deep (ni 6 ⟨#[]⟩ (strOf t.text))):=by
  refine ae (HA.set bC (by rw[<-hX];exact(((Fr.refl (λb=>b=w.heap.size+1) f).setCell (.inl rfl) _).setCell (.inl rfl) _).setCell (.inl rfl) _) ?_);rw[<-hX];exact((HA.s.bH 0 (.int .i64 6)).bH 6 (.string (strOf t.text))).bH 7 (.slice none 0 0)
 exact zh
 ):p:=h
theorem tw(h:p:=by
 exact zo
 ):p:=h
end AZ
open AZ in
theorem xu(g:Nat)(A:Kj)(n c:Nat)(T:List Tok)(k deep:Nat)(w:World)(t:Tok)(h:aH w g A n c T k deep)(ac:aN [117,110,108,111,99,107] T k=true)(ht:T[k+1]?=some t)(bx:t.kind=1)(bK:aN [91] T (k+2)=false)(ap:aN [59] T (k+2)=true)(aj:k+3<n) :
  Calls prog 104 #[.pointer (some ⟨g,0,none⟩)] w λe J=>e=.returned (.agg (ni 6 ⟨#[]⟩ (strOf t.text)).toArray)/\aH J g A n c T (k+3) deep/\Fr (λb=>b=g) w J:=by
 have H:=ae h;have br:=dT ac ht bx bK ap;have bC:=h.blk.lt;clear h ac ht bx bK ap;exact tv
def rJ(T:List Tok)(k:Nat):Option (aE×Nat):=match T[k+1]? with
 | none=>none
 | some t=>
  if t.kind=1 then
   if aN [103,111] T k then (uw T (k+2)).bind λr=>if aN [59] T (ed (k+2) r) && decide (ed (k+2) r+1<T.length) then some (.call true (strOf t.text) (r.map jG),ed (k+2) r+1) else none
   else if aN [108,111,99,107] T k && !aN [91] T (k+2) && aN [59] T (k+2) && decide (k+3<T.length) then some (.lock false ⟨strOf t.text,none⟩,k+3)
   else if aN [117,110,108,111,99,107] T k && !aN [91] T (k+2) && aN [59] T (k+2) && decide (k+3<T.length) then some (.lock true ⟨strOf t.text,none⟩,k+3)
   else none
  else none
theorem wE{s:ByteArray}(h:((uw T (k+2)).bind λr=>if aN [59] T (ed (k+2) r) && decide (ed (k+2) r+1<T.length) then some (aE.call true s (r.map jG),ed (k+2) r+1) else none)=some (st,u)):
  ∃r,wS T (k+2) r/\aN [59] T (ed (k+2) r)=true/\ed (k+2) r+1<T.length/\st=.call true s (r.map jG)/\u=ed (k+2) r+1:=by
 cases hl:uw T (k+2) with
 | none=>rw[hl] at h;cases h
 | some r=>
  rw[hl] at h;simp only[Option.bind_some] at h;split at h
  .rename_i hc;simp only[JU,Kc] at hc;injection h with h;injection h with ac ap;exact⟨r,oy hl,hc.1,hc.2,ac.symm,ap.symm⟩
  .cases h
theorem wF(h:rJ T k=some (st,u)):k+3<=u:=by
 unfold rJ at h;split at h
 .cases h
 .split at h
  .split at h
   .obtain⟨r,_,_,_,_,h⟩:=wE h;have:=wi (k+2) r;omega
   .split at h
    .injection h with h;injection h with _ h;omega
    .split at h
     .injection h with h;injection h with _ h;omega
     .cases h
  .cases h
theorem EK(g:Nat)(A:Kj)(n c:Nat)(T:List Tok)(k deep:Nat)(w:World)(st:aE)(u:Nat)(h:aH w g A n c T k deep)(hs:rJ T k=some (st,u)) :
  Calls prog 104 #[.pointer (some ⟨g,0,none⟩)] w λe J=>∃(q:Int) (a b:ByteArray) (D:Kj) (m l:Nat),e=.returned (.agg #[.int .i64 q,.string a,.int .i64 0,.int .i64 0,.string ⟨#[]⟩,.slice none 0 0,.string b,.slice none 0 0,.slice D m l,.slice none 0 0,.slice none 0 0])/\(cc st).rep J (fresh w J) [.int .i64 q,.string a,.int .i64 0,.int .i64 0,.string ⟨#[]⟩,.slice none 0 0,.string b,.slice none 0 0,.slice D m l,.slice none 0 0,.slice none 0 0]/\aH J g A n c T u deep/\Fr (λb=>b=g) w J:=by
 have hl:=h.kH.1;unfold rJ at hs;split at hs
 .cases hs
 .rename_i t ht;split at hs
  .rename_i bx;split at hs
   .rename_i hc;obtain⟨r,bP,bt,aj,rfl,rfl⟩:=wE hs;refine(HK g A n c T k deep w t h hc ht bx r bP bt ad).mono ?_;rintro e J ⟨D,m,l,rfl,hm,hS,S,hF⟩;exact⟨4,_,_,D,m,l,rfl,GS hS hm,S,hF⟩
   .split at hs
    .rename_i hc;simp only[JU,Kc,Bool.not_eq_true'] at hc;injection hs with hs;injection hs with ac ap;subst ac ap;refine(EJ g A n c T k deep w t h hc.1.1.1 ht bx hc.1.1.2 hc.1.2 ad).mono ?_;rintro e J ⟨rfl,S,hF⟩;exact⟨5,_,_,none,0,0,rfl,s0 false _,S,hF⟩
    .split at hs
     .rename_i hc;simp only[JU,Kc,Bool.not_eq_true'] at hc;injection hs with hs;injection hs with ac ap;subst ac ap;refine(xu g A n c T k deep w t h hc.1.1.1 ht bx hc.1.1.2 hc.1.2 ad).mono ?_;rintro e J ⟨rfl,S,hF⟩;exact⟨6,_,_,none,0,0,rfl,s0 true _,S,hF⟩
     .cases hs
  .cases hs
def iZ(T:List Tok):Nat->Nat->Option (List aE×Nat)
 | 0,_=>none
 | f+1,k=>if aN [125] T k then (if k+1<T.length then some ([],k+1) else none) else (rJ T k).bind λp=>(iZ T f p.2).map λq=>(p.1::q.1,q.2)
theorem ve{f:Nat}{ls:List aE}(h:iZ T f k=some (ls,u)):(aN [125] T k=true/\k+1<T.length/\ls=[]/\u=k+1)\/(aN [125] T k=false/\∃(st:aE) (bE f2:Nat) (i:List aE),rJ T k=some (st,bE)/\iZ T f2 bE=some (i,u)/\ls=st::i):=by
 cases f with
 | zero=>cases h
 | succ f=>
  simp only[iZ] at h;split at h
  .rename_i ac;split at h
   .rename_i ap;injection h with h;injection h with aD bt;exact .inl ⟨ac,ap,aD.symm,bt.symm⟩
   .cases h
  .rename_i ac
   cases hs:rJ T k with
   | none=>rw[hs] at h;cases h
   | some p=>
    rw[hs] at h;obtain⟨st,bE⟩:=p;simp only[Option.bind_some] at h
    cases aZ:iZ T f bE with
    | none=>rw[aZ] at h;cases h
    | some q=>
     rw[aZ] at h;simp only[Option.map_some] at h;injection h with h;injection h with aD bt;subst bt;exact .inr ⟨by simpa using ac,st,bE,f,q.1,rfl,aZ,aD.symm⟩
namespace A1
theorem yQ(h:p:=by
 go_roundw
 case rel=>exact⟨M,on+1,be,bE,f2,acc++[st],i,rfl,ad,cF.1,cF.2.1,by rw[JP];exact cF.2.2,bK.2.2.1,by have:=a2.2.2.2;rw[bK.2.2.2] at this;rw[<-this];simp⟩
 case measure=>simp only[um];omega
 ):p:=h
theorem zC(h:p:=by
 refine(EK g A n c T j (deep+1) bV st bE cb.1 bK.2.1).mono ?_;rintro e cE ⟨q,a,b,bW,m,l,rfl,bY,S,hF⟩;exact yP
 ):p:=h
theorem yJ(h:p:=by
 go_loopw [3] (λz wr=>∃(Q:Kj) (on P j b8:Nat) (acc rest:List aE),z=.slice Q on P/\on<=j/\aH wr g A n c T j (deep+1)/\Fr (λb=>b=g) w wr/\Gr (λb=>w.heap.size<=b) w.heap.size 185 11 wr Q on P (acc.map cc)/\iZ T b8 j=some (rest,u)/\acc++rest=ls) (λz _=>4001 - um z)
 case atStart=>exact⟨none,0,0,k+1,f,[],ls,rfl,ad,aJ.1,aJ.2,Gr.nil _ _ _ _ _,br.2,rfl⟩
 case round=>
  obtain⟨Q,on,P,j,b8,acc,rest,rfl,E,S,hF,hG,ch,bZ⟩:=hrel;clear aJ;have K:=S.lt;have a2:=b9 S hF hG bZ;obtain⟨a0,al,af⟩:=S.blk.two;have l4:=hF.size;clear S hF hG bZ;rcases ve ch with⟨hc,y,t,s⟩|⟨hc,st,bE,f2,i,ct,bz,cB⟩
  .have bK:=b9 hc y t s;exact Fm
  .have bK:=b9 hc ct bz cB;have b4:=wF ct;exact zB
 ):p:=h
end A1
open A1 in
theorem Dt(g:Nat)(A:Kj)(n c:Nat)(T:List Tok)(k deep:Nat)(w:World)(f:Nat)(ls:List aE)(u:Nat)(h:aH w g A n c T k deep)(hd:deep<24)(ac:aN [123] T k=true)(aj:k+1<n)(hs:iZ T f (k+1)=some (ls,u)) :
  Calls prog 55 #[.pointer (some ⟨g,0,none⟩)] w λe J=>∃(Q:Kj) (on P:Nat),e=.returned (.slice Q on P)/\on<=P/\Sl J (fresh w J) Q on (ls.map cc)/\aH J g A n c T u deep/\Fr (λb=>b=g) w J:=by
 exact yI
theorem CD(c9:tk)(U:gJ)(nk:Int)(F:List a1)(b:an)(G:Env)(d:Nat)(l:List dv)(n:Int)(st:Nat)(code:List ax)(sites:List Int)(g B:Nat)(bo:Kj)(ln lc:Nat)(S:Kj)(bx:Nat)(bP:Kj)(bQ:Nat)(A:Kj)(m c:Nat)(w:World)(bF:Kl (Sl w (off (Ms g (.slice S code.length bx) (.slice bP sites.length bQ)) w) A m (b.list.map cc)))(b2:Kl (∀s∈b.list,kP U nk F s.th/\kP U nk F s.el))(dl:Kl (∀f∈F,f.params.length<=1000))(bC:Kl (b.list.length=m))(ep:m<=100000)(du:st+b.num<=100000)(eb:Exit->Act->World->Prop)(hQ0:∀c a d v w,eb (.panic c) (a.put d v) w->eb (.panic c) a w)(X:∀q j,DV U nk F b G d l n st code sites g B bo ln lc S bx bP bQ A m c w q j->eb (.exit 0) q j)
  (a:Act) (wr:World) (hI:h7 U nk F b G d l n st code sites g B bo ln lc S bx bP bQ A m c w a wr):Code.wp prog rf (Exit.then (λq j=>h7 U nk F b G d l n st code sites g B bo ln lc S bx bP bQ A m c w q j/\iD m q j<iD m a wr) eb) a wr:=by
 unfold h7 at hI
 iterate 240 obtain⟨_,hI⟩:=hI
 obtain⟨hI,rfl⟩:=hI;have e:=hI;obtain⟨k,rest,aM,bc,cT,aQ,Y,u,y,a4,aZ,bi,ah,ai,aR,aT,rfl,aj,bk,aO,ar,ba,hS,aX,a8,cj,ck,aW,bu,hM⟩:=hI;by_cases aq:k<m
 .suffices aK:BK rest from aK c9 U nk F b G d l n st code sites g B bo ln lc S bx bP bQ A m c w bF b2 dl bC ep du k aM bc cT aQ Y u y a4 aZ bi ah ai aR aT wr aq bk aO ar ba hS aX a8 cj ck aW bu hM eb hQ0
  exact Gz rest
 .obtain rfl:m=k:=ad;have a5:=ae e;clear e bk aO ar ba hS aX a8 cj ck aW bu hM;conv=>arg 2;whnf
  go_wp2;unfold DV
  iterate 240 apply Exists.intro
  exact⟨a5.o,rfl,rfl⟩
theorem D8(c9:tk)(U:gJ)(nk:Int)(F:List a1)(b:an)(G:Env)(d:Nat)(l:List dv)(n:Int)(st:Nat)(code:List ax)(sites:List Int)(g B:Nat)(bo:Kj)(ln lc:Nat)(S:Kj)(bx:Nat)(bP:Kj)(bQ:Nat)(A:Kj)(m c:Nat)(w:World)(bF:Kl (Sl w (off (Ms g (.slice S code.length bx) (.slice bP sites.length bQ)) w) A m (b.list.map cc)))(b2:Kl (∀s∈b.list,kP U nk F s.th/\kP U nk F s.el))(dl:Kl (∀f∈F,f.params.length<=1000))(bC:Kl (b.list.length=m))(ep:m<=100000)(du:st+b.num<=100000)(eb:Exit->Act->World->Prop)(hQ0:∀c a d v w,eb (.panic c) (a.put d v) w->eb (.panic c) a w)(X:∀q j,DV U nk F b G d l n st code sites g B bo ln lc S bx bP bQ A m c w q j->eb (.exit 0) q j)
  (wr:World) {k ec ed u8 ee cI cJ cK cL cM cN cO cP cQ cR cS cU cV cW cX cY cZ c0 u32 c1 c2 c3 c4 c5 c6 c7 c8 da db dc dd de df dg dh di dj dk dm dn dp dq dr dt dw dx dy dz dA dB u64 dC dD dE dF dG dH dI dJ dK dL dM dN dO dP dQ dR dS dT dU dV dW dX dY dZ d0 d1 d2 d3 d4 d5 d6 d7 d8 d9 ea e h i o p r t x z C D E H I J K L M N O P Q R T V W Z aa ab ac ad ae af ag aj ak al am ao ap au av aw ay az aA aB aC aD aE aF aG aH aI aJ aK aL aN aP aS aU aV aY a0 a2 a3 a5 a6 a7 a9 bb bd be bf bg bh bj bl bm bn bp bq br bs bt bv bw bz bA bB bD bE bG bH bI bJ bK bL bM bN bO bR bS bT bU bV bW bX bY bZ b0 b1 b3 b4 b5 b6 b7 b8 b9 ca cb cd ce cf cg ch ci cl cm cn co cp cq cr cs ct cu cv cw cy cz cA cB cC cD cE cF cG cH:Value} (hI:m4 U nk F b G d l n st code sites g B bo ln lc S bx bP bQ A m c w k wr):Code.wp prog (Code.loop rf) eb ⟨#[.pointer (some ⟨g,0,none⟩),.slice A m c,undef,undef,.slice bo ln lc,k,ec,ed,u8,ee,cI,cJ,cK,cL,cM,.pointer (some ⟨g,0,none⟩),.pointer (some ⟨g,0,none⟩),.pointer (some ⟨g,3,none⟩),.slice bo ln lc,cN,cO,cP,cQ,cR,cS,cU,cV,cW,cX,cY,cZ,c0,u32,c1,c2,c3,c4,c5,c6,c7,c8,da,db,dc,dd,de,df,dg,dh,di,dj,dk,dm,dn,dp,dq,dr,dt,dw,dx,dy,dz,dA,dB,u64,dC,dD,dE,dF,dG,dH,dI,dJ,dK,dL,dM,dN,dO,dP,dQ,dR,dS,dT,dU,dV,dW,dX,dY,dZ,d0,d1,d2,d3,d4,d5,d6,d7,d8,d9,ea,e,h,i,o,p,r,t,x,z,C,D,E,H,I,J,K,L,M,N,O,P,Q,R,T,V,W,Z,aa,ab,ac,ad,ae,af,ag,aj,ak,al,am,ao,ap,au,av,aw,ay,az,aA,aB,aC,aD,aE,aF,aG,aH,aI,aJ,aK,aL,aN,aP,aS,aU,aV,aY,a0,a2,a3,a5,a6,a7,a9,bb,bd,be,bf,bg,bh,bj,bl,bm,bn,bp,bq,br,bs,bt,bv,bw,bz,bA,bB,bD,bE,bG,bH,bI,bJ,bK,bL,bM,bN,bO,bR,bS,bT,bU,bV,bW,bX,bY,bZ,b0,b1,b3,b4,b5,b6,b7,b8,b9,ca,cb,cd,ce,cf,cg,ch,ci,cl,cm,cn,co,cp,cq,cr,cs,ct,cu,cv,cw,cy,cz,cA,cB,cC,cD,cE,cF,cG,cH,undef,undef,undef,undef],[]⟩ wr:=by
 refine wp_loop (h7 U nk F b G d l n st code sites g B bo ln lc S bx bP bQ A m c w) (iD m) ?_ (λa j hI=>CD c9 U nk F b G d l n st code sites g B bo ln lc S bx bP bQ A m c w bF b2 dl bC ep du eb hQ0 X a j hI);unfold h7
 iterate 240 apply Exists.intro
 exact⟨hI,rfl⟩
theorem tV(c9:tk)(U:gJ)(nk:Int)(F:List a1)(b:an)(ab:∀s∈b.list,kP U nk F s.th/\kP U nk F s.el):kP U nk F b:=by
 intro G d l V T n st code sites g B bo ln lc S bx bP bQ A m c w ba hS aX f h hs a8 cj ck du aW;have bS:b.list.length=m:=by rw[<-hs.1,cD,JM]
 have ep:m<=100000:=by have:=fZ b;omega
 rw[cD] at hs;obtain⟨GA,gn,gc,MA,mn,mc,FA,fn,fc,aK,_⟩:=h.blk;obtain⟨bF,b2,dl,bC⟩:=jF hs ab f bS;obtain⟨b0,am,aw⟩:=aK.two;have a2:=ae (show m4 U nk F b G d l n st code sites g B bo ln lc S bx bP bQ A m c w (.int .i64 0) w from
  ⟨0,b,l,V,T,n,st,code,sites,bo,ln,lc,S,bx,bP,bQ,rfl,ad,rfl,rfl,rfl,ba,hS,aX,a8,cj,ck,aW,h,Mv.refl _ _ _ _⟩)
 have bW:=ak h.names.1 h.names.2;clear hs ab ba hS aX f h a8 cj ck aW aK bS;go_enter func108,ntmps108;go_wp2;clear b0 am aw;refine D8 c9 U nk F b G d l n st code sites g B bo ln lc S bx bP bQ A m c w bF b2 dl bC ep du _ ?hQ ?hX _ a2.o
 case hQ=>exact λ_ _ d _ _ h=>by cases d<;>exact h
 case hX=>
  intro q wr e;unfold DV at e
  iterate 240 obtain⟨_,e⟩:=e
  obtain⟨hI,i,rfl⟩:=e;obtain⟨k,rest,aM,bc,cT,aQ,Y,u,y,a4,aZ,bi,ah,ai,aR,aT,j,aj,bk,aO,ar,ba,hS,aX,a8,cj,ck,aW,bu,hM⟩:=hI;have Q:m=k:=by
   rw[j] at i;injection i with _ ac;omega
  subst Q;clear a2 j i;obtain⟨aN,aU,a3,ee,go,et,cp,fX,b7,aK,_⟩:=bu.blk;have bd:rest.list=[]:=bk▸Kb (by rw[bC.o];exact JI _);obtain rfl:rest=.nil:=by cases rest<;>simp_all [an.list]
  have d7:ds b l n code=(u,aQ):=aO.symm;obtain⟨b0,am,aw⟩:=aK.two;obtain⟨HA,cF⟩:=aI bu hM;clear bu hM aK;go_wp2;generalize hX:World.setCell _ _ _=X;obtain⟨eM,dG⟩:=HA.Di bW.1 (bW.2.gW cF.o) hX;have fb:=cF.trans dG;clear b0 am aw hX dG;rw[d7];refine bodyPost_end (v:=.tuple #[]) (by simp[results,Tryz.results108,go_sem]) rfl ?_;obtain rfl:Y=st+b.num:=by simp only[an.num] at ar;omega
  exact⟨rfl,ah,ai,aR,aT,y,cj,eM,fb⟩
theorem w1(c9:tk)(U:gJ)(nk:Int)(F:List a1):∀b:an,kP U nk F b:=an.CE (C:=kP U nk F) λb ab=>tV c9 U nk F b ab
end Go.Proofs.YtnigabjngpnbiaaGreat

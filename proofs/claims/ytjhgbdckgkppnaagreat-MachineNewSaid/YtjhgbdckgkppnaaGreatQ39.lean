/- Part 39 of the proof (PrsB PrsC PrsD), without conditions of its own. -/
import Derived.Test.YtjhgbdckgkppnaaGreatQ34
namespace Go.Proofs.YtjhgbdckgkppnaaGreat
open Go.RowKit Go.Proofs.Tryz
set_option maxRecDepth 1000000
set_option maxHeartbeats 25600000
set_option linter.unusedVariables false
variable{T:List Tok}{F k:Nat}{P:Nat→Prop}{p:Prop}{w:World}
namespace yr
theorem xx(h:p:=by
 have b6:ag X aH.heap.size 172 #[.string (strOf t.text),.slice none 0 0]:=ah▸GO;have aU:=bO (H1.1.al av) (H1.2.1.trans (av.mono fun _ h=>h.elim)) (H1.2.2.al av) b6;clear ah av b6 H1 aj;go_wp2_with (fail);refine(show Calls prog 114 #[.pointer (some ⟨g,0,none⟩),.string ⟨#[91]⟩] X _ from df [91] g A n c T (k+1) deep X aU.1 false bT.2.2 (fun h=>by cases h)).mono ?_;rintro e aQ ⟨rfl,U,hF⟩;have bD:=aU.2.2.1.on hF ad;have cw:=aU.2.2.2.on hF ad;have bk:=aK (show b1 aQ g A n c T (k+1) deep from by simpa using U) (aU.2.1.trans hF) bD;clear U hF aU;obtain⟨a6,aL,aP⟩:=cw.two;obtain⟨bx,bd,be⟩:=bD.two;clear cw bD;go_wp2_with (fail);generalize cb:World.setCell _ _ _=Y;obtain⟨bA,bw,bb⟩:=dA (M:=fun b=>b=g) (w:=w) [.string (strOf t.text),.slice none 0 0] (by rfl) bk.2.2 bk.2.1 (Gb _) cb;have bM:=ai (bk.1.on bb fun b O=>ad) bw;clear cb bw bb bx bd be;obtain⟨bx,bd,be⟩:=bA.two;refine GM (v:=.agg #[.string (strOf t.text),.slice none 0 0]) (by simp[results,Tryz.results155,go_sem,bx]) rfl ?_;exact⟨rfl,bM.1,bM.2⟩
 ):p:=h
theorem gB(h:p:=by
 have b6:ag W w.heap.size 172 #[.string ⟨#[]⟩,.slice none 0 0]:=bg▸GO;have aj:=aK (H.al av) av b6;clear bg av b6;go_wp2_with (fail);refine(na g A n c T k deep W t aj.1 bT.1 bT.2.1 ap).mono ?_;exact xw
 ):p:=h
end yr
open yr in
theorem A7(g:Nat)(A:GR)(n c:Nat)(T:List Tok)(k deep:Nat)(w:World)(t:Tok)(h:b1 w g A n c T k deep)(ht:T[k]?=some t)(bu:t.kind=1)(cr:cj [91] T (k+1)=false)(ap:k+1<n) :
  Calls prog 155 #[.pointer (some ⟨g,0,none⟩)] w fun e ab=>e=.returned (.agg #[.string (strOf t.text),.slice none 0 0])∧b1 ab g A n c T (k+1) deep∧Fr (fun b=>b=g) w ab:=by
 have H:=ae h;have bT:=aK ht bu cr;have cc:=h.blk.lt;clear h bu ht cr;go_enter func155,ntmps155;exact gA
theorem Cl(g:Nat)(A:GR)(n c:Nat)(T:List Tok)(k deep:Nat)(w:World)(h:b1 w g A n c T k deep)(ac:cj [40] T k=true)(J:cj [41] T (k+1)=true)(ap:k+2<n) :
  Calls prog 154 #[.pointer (some ⟨g,0,none⟩)] w fun e ab=>e=.returned (.slice none 0 0)∧b1 ab g A n c T (k+2) deep∧Fr (fun b=>b=g) w ab:=by
 have H:=ae h;have bT:=ai ac J;clear h ac J;go_enter func154,ntmps154;exact C6
theorem vF(g:Nat)(A:GR)(n c:Nat)(T:List Tok)(k deep:Nat)(w:World)(h:b1 w g A n c T k deep)(ac:cj [40] T k=true)(J:cj [41] T (k+1)=true)(ap:k+2<n) :
  Calls prog 118 #[.pointer (some ⟨g,0,none⟩)] w fun e ab=>e=.returned (.slice none 0 0)∧b1 ab g A n c T (k+2) deep∧Fr (fun b=>b=g) w ab:=by
 have H:=ae h;have bT:=ai ac J;clear h ac J;go_enter func118,ntmps118;exact C6
namespace ys
theorem xx(h:p:=by
 have b6:ag X aH.heap.size 133 #[.string (strOf t.text),.bool false,.int .i64 0]:=ah▸GO;have aU:=bO (H1.1.al av) (H1.2.1.trans (av.mono fun _ h=>h.elim)) (H1.2.2.al av) b6;clear ah av b6 H1 aj;go_wp2_with (fail);refine(show Calls prog 114 #[.pointer (some ⟨g,0,none⟩),.string ⟨#[91]⟩] X _ from df [91] g A n c T (k+1) deep X aU.1 false bT.2.2.1 (fun h=>by cases h)).mono ?_;rintro e aQ ⟨rfl,U,hF⟩;have bk:=bO (show b1 aQ g A n c T (k+1) deep from by simpa using U) (aU.2.1.trans hF) (aU.2.2.1.on hF ad) (aU.2.2.2.on hF ad);clear U hF aU;go_wp2_with (fail);refine(show Calls prog 141 #[.pointer (some ⟨g,0,none⟩),.string ⟨#[59]⟩] aQ _ from ly [59] g A n c T (k+1) deep aQ bk.1 bT.2.2.2 ad).mono ?_;rintro e bJ ⟨rfl,U,hF⟩;have bD:=bk.2.2.1.on hF ad;have cw:=bk.2.2.2.on hF ad;have bH:=aK U (bk.2.1.trans hF) bD;clear U hF bk;obtain⟨a6,aL,aP⟩:=cw.two;obtain⟨bx,bd,be⟩:=bD.two;clear cw bD;go_wp2_with (fail);generalize cb:World.setCell _ _ _=Y;obtain⟨bA,bw,bb⟩:=dA (M:=fun b=>b=g) (w:=w) [.string (strOf t.text),.bool false,.int .i64 0] (by rfl) bH.2.2 bH.2.1 (Gb _) cb;have bM:=ai (bH.1.on bb fun b O=>ad) bw;clear cb bw bb bx bd be;obtain⟨bx,bd,be⟩:=bA.two;refine GM (v:=.agg #[.string (strOf t.text),.bool false,.int .i64 0]) (by simp[results,Tryz.results116,go_sem,bx]) rfl ?_;exact⟨rfl,bM.1,bM.2⟩
 ):p:=h
theorem gB(h:p:=by
 have b6:ag W w.heap.size 133 #[.string ⟨#[]⟩,.bool false,.int .i64 0]:=bg▸GO;have aj:=aK (H.al av) av b6;clear bg av b6;go_wp2_with (fail);refine(na g A n c T k deep W t aj.1 bT.1 bT.2.1 ad).mono ?_;exact xw
 ):p:=h
end ys
open ys in
theorem A6(g:Nat)(A:GR)(n c:Nat)(T:List Tok)(k deep:Nat)(w:World)(t:Tok)(h:b1 w g A n c T k deep)(ht:T[k]?=some t)(bu:t.kind=1)(cr:cj [91] T (k+1)=false)(J:cj [59] T (k+1)=true)(ap:k+2<n) :
  Calls prog 116 #[.pointer (some ⟨g,0,none⟩),.bool false] w fun e ab=>e=.returned (.agg #[.string (strOf t.text),.bool false,.int .i64 0])∧b1 ab g A n c T (k+2) deep∧Fr (fun b=>b=g) w ab:=by
 have H:=ae h;have bT:=bO ht bu cr J;have cc:=h.blk.lt;clear h bu ht cr J;go_enter func116,ntmps116;exact gA
theorem fB{a b:List UInt8}(h:cj a T k=true)(hn:strOf a≠strOf b):cj b T k=false:=by
 unfold cj at h ⊢
 cases aR:T[k]? with
 | none=>rfl
 | some t=>
  rw[aR] at h;simp only[Gn,GK] at h;simp only[Bool.and_eq_false_iff,decide_eq_false_iff_not];exact .inr fun O=>hn (h.2.symm.trans O)
def kP(k:Int)(n m:ByteArray):List Value:=[.int .i64 k,.string n,.int .i64 0,.int .i64 0,.string ⟨#[]⟩,.slice none 0 0,.string m,.slice none 0 0,.slice none 0 0,.slice none 0 0,.slice none 0 0]
theorem El(n:ByteArray):(aW (.call true n [])).rep w P (kP 4 n ⟨#[]⟩):=de im i7 (Sl.bu _) (Gb _) (Sl.bu _) (Gb _) (Sl.bu _) (Gb _)
theorem rS(u:Bool)(n:ByteArray):(aW (.lock u ⟨n,none⟩)).rep w P (kP (if u then 6 else 5) ⟨#[]⟩ n):=
 de im (iz.2 ⟨none,0,0,rfl,Gb _,Sl.bu _⟩) (Sl.bu _) (Gb _) (Sl.bu _) (Gb _) (Sl.bu _) (Gb _)
structure wc(w ab:World)(g:Nat)(A:GR)(n c:Nat)(T:List Tok)(k deep:Nat)(cs:List Value):Prop where
 ps:b1 ab g A n c T k deep
 fr:Fr (fun b=>b=g) w ab
 r:ag ab w.heap.size 175 #[.int .i64 0,.string ⟨#[]⟩,.int .i64 0,.int .i64 0,.string ⟨#[]⟩,.slice none 0 0,.string ⟨#[]⟩,.slice none 0 0,.slice none 0 0,.slice none 0 0,.slice none 0 0]
 s:ag ab (w.heap.size+1) 175 cs.toArray
theorem wc.on{w ab aQ:World}{g:Nat}{A:GR}{n c:Nat}{T:List Tok}{k F deep:Nat}{cs:List Value}(h:wc w ab g A n c T k deep cs)(aM:g<w.heap.size)(hp:b1 aQ g A n c T F deep)(aw:Fr (fun b=>b=g) ab aQ):wc w aQ g A n c T F deep cs:=
 ⟨hp,h.fr.trans aw,h.r.on aw ad,h.s.on aw ad⟩
theorem wc.set{ab aQ:World}{g:Nat}{A:GR}{n c:Nat}{deep:Nat}{cs f:List Value}(h:wc w ab g A n c T k deep cs)(aM:g<w.heap.size)(aw:Fr (fun b=>b=w.heap.size+1) ab aQ)(hs:ag aQ (w.heap.size+1) 175 f.toArray):wc w aQ g A n c T k deep f:=
 ⟨h.ps.on aw fun b O=>ad,h.fr.eg (aw.below h.fr.size fun k ap hm=>ad),h.r.on aw ad,hs⟩
namespace yy
theorem se(h:p:=by
 refine(show Calls prog 114 #[.pointer (some ⟨g,0,none⟩),.string ⟨#[103,111]⟩] aH _ from df [103,111] g A n c T k deep aH H1.ps true (by first|exact bT.1|exact fB bT.1 (by decide)) (fun h=>by first|omega|cases h)).mono ?_;rintro e aQ ⟨rfl,U,hF⟩;have bk:=ae (H1.on cc (show b1 aQ g A n c T (k+1) deep from by simpa using U) hF);clear U hF;clear H1;obtain⟨a6,aL,aP⟩:=bk.s.two;clear a6 aL aP;go_wp2_with (fail);refine(na g A n c T (k+1) deep aQ t bk.ps bT.2.1 bT.2.2.1 ad).mono ?_;rintro e i ⟨rfl,U,hF⟩;have HA:=ae (bk.on cc U hF);clear U hF bk;obtain⟨a6,aL,aP⟩:=HA.s.two;simp only[kP] at a6;go_upto_region 15 with(fail);generalize ah:World.setCell _ _ _=X;have aU:GU (wc w X g A n c T (k+1+1) deep (kP 4 (strOf t.text) ⟨#[]⟩)):=by
  refine ae (HA.set cc (by rw[←ah];exact((Fr.refl (fun b=>b=w.heap.size+1) i).setCell (.inl rfl) _).setCell (.inl rfl) _) ?_);rw[←ah];exact(HA.s.aH 0 (.int .i64 4)).aH 1 (.string (strOf t.text))
 clear ah a6 aL aP HA;go_wp2_with (fail);refine(Cl g A n c T (k+1+1) deep X aU.ps bT.2.2.2.1 bT.2.2.2.2.1 ad).mono ?_;rintro e wb ⟨rfl,U,hF⟩;have a4:=ae (aU.on cc U hF);clear U hF aU;obtain⟨a6,aL,aP⟩:=a4.s.two;simp only[kP] at a6;go_upto_region 16 with(fail);generalize ah:World.setCell _ _ _=Y;have bM:GU (wc w Y g A n c T (k+1+1+2) deep (kP 4 (strOf t.text) ⟨#[]⟩)):=by
  refine ae (a4.set cc (by rw[←ah];exact(Fr.refl (fun b=>b=w.heap.size+1) wb).setCell (.inl rfl) _) ?_);rw[←ah];exact a4.s.aH 8 (.slice none 0 0)
 clear ah a6 aL aP a4;go_wp2_with (fail);refine(show Calls prog 141 #[.pointer (some ⟨g,0,none⟩),.string ⟨#[59]⟩] Y _ from ly [59] g A n c T (k+1+1+2) deep Y bM.ps bT.2.2.2.2.2 ad).mono ?_;rintro e j ⟨rfl,U,hF⟩;have bf:=ae (bM.on cc U hF);clear U hF bM;obtain⟨a6,aL,aP⟩:=bf.s.two;obtain⟨bx,bd,be⟩:=bf.r.two;simp only[kP] at a6;go_wp2_with (fail);generalize ah:World.setCell _ _ _=V;obtain⟨bP,S,m⟩:=dA (M:=fun b=>b=g) (w:=w) (kP 4 (strOf t.text) ⟨#[]⟩) (by rfl) bf.r bf.fr (Gb _) ah;have cg:=ai (bf.ps.on m fun b O=>ad) S;clear ah S m bx bd be a6 aL aP;obtain⟨bx,bd,be⟩:=bP.two;simp only[kP] at bx;refine GM (v:=.agg (kP 4 (strOf t.text) ⟨#[]⟩).toArray) (by simp[results,Tryz.results142,go_sem,bx,kP]) rfl ?_;exact⟨rfl,cg.1,cg.2⟩
 ):p:=h
end yy
open yy in
theorem Fa(g:Nat)(A:GR)(n c:Nat)(T:List Tok)(k deep:Nat)(w:World)(t:Tok)(h:b1 w g A n c T k deep)(ac:cj [103,111] T k=true)(ht:T[k+1]?=some t)(bu:t.kind=1)(J:cj [40] T (k+2)=true)(aS:cj [41] T (k+3)=true)(bo:cj [59] T (k+4)=true)(ap:k+5<n) :
  Calls prog 142 #[.pointer (some ⟨g,0,none⟩)] w fun e ab=>e=.returned (.agg (kP 4 (strOf t.text) ⟨#[]⟩).toArray)∧b1 ab g A n c T (k+5) deep∧Fr (fun b=>b=g) w ab:=by
 have H:=ae h;have bT:=dz ac ht bu J aS bo;have cc:=h.blk.lt;clear h ac ht bu J aS bo;exact sd
namespace yz
theorem xh(h:p:=by
 obtain⟨bP,S,m⟩:=dA (M:=fun b=>b=g) (w:=w) (kP 5 ⟨#[]⟩ (strOf t.text)) (by rfl) bf.r bf.fr (Gb _) ah;have cg:=ai (bf.ps.on m fun b O=>ad) S;clear ah S m bx bd be a6 aL aP;obtain⟨bx,bd,be⟩:=bP.two;simp only[kP] at bx;refine GM (v:=.agg (kP 5 ⟨#[]⟩ (strOf t.text)).toArray) (by simp[results,Tryz.results142,go_sem,bx,kP]) rfl ?_;exact⟨rfl,cg.1,cg.2⟩
 ):p:=h
theorem xk(h:p:=by
 refine(show Calls prog 114 #[.pointer (some ⟨g,0,none⟩),.string ⟨#[108,111,99,107]⟩] aQ _ from df [108,111,99,107] g A n c T k deep aQ bk.ps true (by first|exact bT.1|exact fB bT.1 (by decide)) (fun h=>by first|omega|cases h)).mono ?_;rintro e bJ ⟨rfl,U,hF⟩;have bH:=ae (bk.on cc (show b1 bJ g A n c T (k+1) deep from by simpa using U) hF);clear U hF;clear bk;go_wp2_with (fail);refine(A7 g A n c T (k+1) deep bJ t bH.ps bT.2.1 bT.2.2.1 bT.2.2.2.1 ad).mono ?_;rintro e i ⟨rfl,U,hF⟩;have HA:=ae (bH.on cc U hF);clear U hF bH;obtain⟨a6,aL,aP⟩:=HA.s.two;simp only[kP] at a6;go_upto_region 19 with(fail);generalize ah:World.setCell _ _ _=X;have aU:GU (wc w X g A n c T (k+1+1) deep (kP 5 ⟨#[]⟩ (strOf t.text))):=by
  refine ae (HA.set cc (by rw[←ah];exact(((Fr.refl (fun b=>b=w.heap.size+1) i).setCell (.inl rfl) _).setCell (.inl rfl) _).setCell (.inl rfl) _) ?_);rw[←ah];exact((HA.s.aH 0 (.int .i64 5)).aH 6 (.string (strOf t.text))).aH 7 (.slice none 0 0)
 exact xg
 ):p:=h
theorem se(h:p:=by
 exact xj
 ):p:=h
end yz
open yz in
theorem Cm(g:Nat)(A:GR)(n c:Nat)(T:List Tok)(k deep:Nat)(w:World)(t:Tok)(h:b1 w g A n c T k deep)(ac:cj [108,111,99,107] T k=true)(ht:T[k+1]?=some t)(bu:t.kind=1)(cr:cj [91] T (k+2)=false)(J:cj [59] T (k+2)=true)(ap:k+3<n) :
  Calls prog 142 #[.pointer (some ⟨g,0,none⟩)] w fun e ab=>e=.returned (.agg (kP 5 ⟨#[]⟩ (strOf t.text)).toArray)∧b1 ab g A n c T (k+3) deep∧Fr (fun b=>b=g) w ab:=by
 have H:=ae h;have bT:=cA ac ht bu cr J;have cc:=h.blk.lt;clear h ac ht bu cr J;exact sd
namespace yA
theorem xh(h:p:=by
 obtain⟨bP,S,m⟩:=dA (M:=fun b=>b=g) (w:=w) (kP 6 ⟨#[]⟩ (strOf t.text)) (by rfl) bf.r bf.fr (Gb _) ah;have cg:=ai (bf.ps.on m fun b O=>ad) S;clear ah S m bx bd be a6 aL aP;obtain⟨bx,bd,be⟩:=bP.two;simp only[kP] at bx;refine GM (v:=.agg (kP 6 ⟨#[]⟩ (strOf t.text)).toArray) (by simp[results,Tryz.results142,go_sem,bx,kP]) rfl ?_;exact⟨rfl,cg.1,cg.2⟩
 ):p:=h
theorem xk(h:p:=by
 refine(show Calls prog 114 #[.pointer (some ⟨g,0,none⟩),.string ⟨#[108,111,99,107]⟩] aQ _ from df [108,111,99,107] g A n c T k deep aQ bk.ps false (by first|exact bT.1|exact fB bT.1 (by decide)) (fun h=>by first|omega|cases h)).mono ?_;rintro e bJ ⟨rfl,U,hF⟩;have bH:=ae (bk.on cc (show b1 bJ g A n c T (k) deep from by simpa using U) hF);clear U hF;clear bk;go_wp2_with (fail);refine(show Calls prog 114 #[.pointer (some ⟨g,0,none⟩),.string ⟨#[117,110,108,111,99,107]⟩] bJ _ from df [117,110,108,111,99,107] g A n c T k deep bJ bH.ps true (by first|exact bT.1|exact fB bT.1 (by decide)) (fun h=>by first|omega|cases h)).mono ?_;rintro e cy ⟨rfl,U,hF⟩;have cw:=ae (bH.on cc (show b1 cy g A n c T (k+1) deep from by simpa using U) hF);clear U hF;clear bH;go_wp2_with (fail);refine(A7 g A n c T (k+1) deep cy t cw.ps bT.2.1 bT.2.2.1 bT.2.2.2.1 ad).mono ?_;rintro e i ⟨rfl,U,hF⟩;have HA:=ae (cw.on cc U hF);clear U hF cw;obtain⟨a6,aL,aP⟩:=HA.s.two;simp only[kP] at a6;go_upto_region 22 with(fail);generalize ah:World.setCell _ _ _=X;have aU:GU (wc w X g A n c T (k+1+1) deep (kP 6 ⟨#[]⟩ (strOf t.text))):=by
  refine ae (HA.set cc (by rw[←ah];exact(((Fr.refl (fun b=>b=w.heap.size+1) i).setCell (.inl rfl) _).setCell (.inl rfl) _).setCell (.inl rfl) _) ?_);rw[←ah];exact((HA.s.aH 0 (.int .i64 6)).aH 6 (.string (strOf t.text))).aH 7 (.slice none 0 0)
 exact xg
 ):p:=h
theorem se(h:p:=by
 exact xj
 ):p:=h
end yA
open yA in
theorem vG(g:Nat)(A:GR)(n c:Nat)(T:List Tok)(k deep:Nat)(w:World)(t:Tok)(h:b1 w g A n c T k deep)(ac:cj [117,110,108,111,99,107] T k=true)(ht:T[k+1]?=some t)(bu:t.kind=1)(cr:cj [91] T (k+2)=false)(J:cj [59] T (k+2)=true)(ap:k+3<n) :
  Calls prog 142 #[.pointer (some ⟨g,0,none⟩)] w fun e ab=>e=.returned (.agg (kP 6 ⟨#[]⟩ (strOf t.text)).toArray)∧b1 ab g A n c T (k+3) deep∧Fr (fun b=>b=g) w ab:=by
 have H:=ae h;have bT:=cA ac ht bu cr J;have cc:=h.blk.lt;clear h ac ht bu cr J;exact sd
def qB(T:List Tok)(k:Nat):Option (ay×Nat):=match T[k+1]? with
 | none=>none
 | some t=>
  if t.kind=1 then
   if cj [103,111] T k && cj [40] T (k+2) && cj [41] T (k+3) && cj [59] T (k+4) && decide (k+5<T.length) then some (.call true (strOf t.text) [],k+5)
   else if cj [108,111,99,107] T k && !cj [91] T (k+2) && cj [59] T (k+2) && decide (k+3<T.length) then some (.lock false ⟨strOf t.text,none⟩,k+3)
   else if cj [117,110,108,111,99,107] T k && !cj [91] T (k+2) && cj [59] T (k+2) && decide (k+3<T.length) then some (.lock true ⟨strOf t.text,none⟩,k+3)
   else none
  else none
theorem uU{st:ay}(h:qB T k=some (st,F)):k+3≤F:=by
 unfold qB at h;split at h
 ·cases h
 ·split at h
  ·split at h
   ·injection h with h;injection h with _ h;omega
   ·split at h
    ·injection h with h;injection h with _ h;omega
    ·split at h
     ·injection h with h;injection h with _ h;omega
     ·cases h
  ·cases h
theorem Cn(g:Nat)(A:GR)(n c:Nat)(T:List Tok)(k deep:Nat)(w:World)(st:ay)(F:Nat)(h:b1 w g A n c T k deep)(hs:qB T k=some (st,F)) :
  Calls prog 142 #[.pointer (some ⟨g,0,none⟩)] w fun e ab=>∃(q:Int) (a b:ByteArray),e=.returned (.agg #[.int .i64 q,.string a,.int .i64 0,.int .i64 0,.string ⟨#[]⟩,.slice none 0 0,.string b,.slice none 0 0,.slice none 0 0,.slice none 0 0,.slice none 0 0])∧(∀w P,(aW st).rep w P (kP q a b))∧b1 ab g A n c T F deep∧Fr (fun b=>b=g) w ab:=by
 have hl:=h.qE.1;unfold qB at hs;split at hs
 ·cases hs
 ·rename_i t ht;split at hs
  ·rename_i bu;split at hs
   ·rename_i hc;simp only[Gn,GK] at hc;injection hs with hs;injection hs with ac J;subst ac J;refine(Fa g A n c T k deep w t h hc.1.1.1.1 ht bu hc.1.1.1.2 hc.1.1.2 hc.1.2 ad).mono ?_;rintro e ab ⟨rfl,U,hF⟩;exact⟨4,_,_,rfl,fun w P=>El _,U,hF⟩
   ·split at hs
    ·rename_i hc;simp only[Gn,GK,Bool.not_eq_true'] at hc;injection hs with hs;injection hs with ac J;subst ac J;refine(Cm g A n c T k deep w t h hc.1.1.1 ht bu hc.1.1.2 hc.1.2 ad).mono ?_;rintro e ab ⟨rfl,U,hF⟩;exact⟨5,_,_,rfl,fun w P=>rS false _,U,hF⟩
    ·split at hs
     ·rename_i hc;simp only[Gn,GK,Bool.not_eq_true'] at hc;injection hs with hs;injection hs with ac J;subst ac J;refine(vG g A n c T k deep w t h hc.1.1.1 ht bu hc.1.1.2 hc.1.2 ad).mono ?_;rintro e ab ⟨rfl,U,hF⟩;exact⟨6,_,_,rfl,fun w P=>rS true _,U,hF⟩
     ·cases hs
  ·cases hs
def iI(T:List Tok):Nat→Nat→Option (List ay×Nat)
 | 0,_=>none
 | f+1,k=>if cj [125] T k then (if k+1<T.length then some ([],k+1) else none) else (qB T k).bind fun p=>(iI T f p.2).map fun q=>(p.1::q.1,q.2)
theorem tH{f:Nat}{ls:List ay}(h:iI T f k=some (ls,F)):(cj [125] T k=true∧k+1<T.length∧ls=[]∧F=k+1)∨(cj [125] T k=false∧∃(st:ay) (bZ eL:Nat) (P:List ay),qB T k=some (st,bZ)∧iI T eL bZ=some (P,F)∧ls=st::P):=by
 cases f with
 | zero=>cases h
 | succ f=>
  simp only[iI] at h;split at h
  ·rename_i ac;split at h
   ·rename_i J;injection h with h;injection h with aS bo;exact .inl ⟨ac,J,aS.symm,bo.symm⟩
   ·cases h
  ·rename_i ac
   cases hs:qB T k with
   | none=>rw[hs] at h;cases h
   | some p=>
    rw[hs] at h;obtain⟨st,bZ⟩:=p;simp only[Option.bind_some] at h
    cases aX:iI T f bZ with
    | none=>rw[aX] at h;cases h
    | some q=>
     rw[aX] at h;simp only[Option.map_some] at h;injection h with h;injection h with aS bo;subst bo;exact .inr ⟨by simpa using ac,st,bZ,f,q.1,rfl,aX,aS.symm⟩
def E0:Value→Nat
 | .slice _ n _=>n
 | _=>0
theorem A5(g:Nat)(A:GR)(n c:Nat)(T:List Tok)(k deep:Nat)(w:World)(f:Nat)(ls:List ay)(F:Nat)(h:b1 w g A n c T k deep)(hd:deep<24)(ac:cj [123] T k=true)(ap:k+1<n)(hs:iI T f (k+1)=some (ls,F)) :
  Calls prog 119 #[.pointer (some ⟨g,0,none⟩)] w fun e ab=>∃(au:GR) (on bj:Nat),e=.returned (.slice au on bj)∧on≤bj∧Sl ab (fresh w ab) au on (ls.map aW)∧b1 ab g A n c T F deep∧Fr (fun b=>b=g) w ab:=by
 have H:=ae h;have bT:=ai ac hs;have cc:=h.blk.lt;have E:=h.ir;have aC:((deep:Int) == 24)=false:=by simp;omega
 clear h ac hs;go_enter func119,ntmps119;go_wp2_with (fail);refine(show Calls prog 112 #[.pointer (some ⟨g,0,none⟩),.string ⟨#[123]⟩] w _ from kq [123] g A n c T k deep w H.o).mono ?_;rintro e aH ⟨rfl,av⟩;rw[bT.1];have H1:=ai (H.al av) (av.mono (M':=fun b=>b=g) fun _ h=>h.elim);clear av;obtain⟨a0,al,af⟩:=H1.1.blk.two;go_wp2_with (fail);refine(show Calls prog 141 #[.pointer (some ⟨g,0,none⟩),.string ⟨#[123]⟩] aH _ from ly [123] g A n c T k deep aH H1.1 bT.1 ap).mono ?_;rintro e aQ ⟨rfl,U,hF⟩;have bk:=ai U (H1.2.trans hF);clear U hF a0 al af H1;obtain⟨a0,al,af⟩:=bk.1.blk.two;go_upto_region 5 with(fail);generalize ah:World.setCell _ _ _=X;have aw:Fr (fun b=>b=g) aQ X:=ah▸(Fr.refl (fun b=>b=g) aQ).setCell (.inl rfl) _;have aT:ag X g 195 #[.slice A n c,.int .i64 ((k+1:Nat):Int),.int .i64 0,.int .i64 0,.int .i64 0,.int .i64 ((deep+1:Nat):Int)]:=ah▸bk.1.blk.aH 5 (.int .i64 ((deep:Int)+1));have aU:=ai (show b1 X g A n c T (k+1) (deep+1) from ⟨aT,bk.1.qE.d9 (aw.below (aB bk.1.blk.lt) fun b O hm=>ad),ap,E⟩) (bk.2.trans aw);clear ah aw aT a0 al af bk;go_wp2_with (fail);go_loopw [3] (fun aI wr=>∃(au:GR) (on bj j a3:Nat) (acc rest:List ay),aI=.slice au on bj∧on≤j∧b1 wr g A n c T j (deep+1)∧Fr (fun b=>b=g) w wr∧Gr (fun _=>False) w.heap.size 175 11 wr au on bj (acc.map aW)∧iI T a3 j=some (rest,F)∧acc++rest=ls) (fun aI _=>4001 - E0 aI)
 case atStart=>exact⟨none,0,0,k+1,f,[],ls,rfl,ad,aU.1,aU.2,Gr.nil _ _ _ _ _,bT.2,rfl⟩
 case round=>
  obtain⟨au,on,bj,j,a3,acc,rest,rfl,c2,U,hF,bR,b8,ck⟩:=hrel;clear aU;have G:=U.lt;have aZ:=bO U hF bR ck;obtain⟨a0,al,af⟩:=U.blk.two;have b9:=hF.size;clear U hF bR ck;rcases tH b8 with⟨hc,gl,i,u⟩|⟨hc,st,bZ,eL,P,b7,bK,cK⟩
  ·have bs:=bO hc gl i u;clear hc gl i u b8;go_wp2_with (fail);refine(show Calls prog 114 #[.pointer (some ⟨g,0,none⟩),.string ⟨#[125]⟩] wr _ from df [125] g A n c T j (deep+1) wr aZ.1 true bs.1 (fun _=>by have:=bs.2.1;have:=aZ.1.qE.1;omega)).mono ?_;rintro e bJ ⟨rfl,U,hF⟩;have bH:=ai (show b1 bJ g A n c T (j+1) (deep+1) from by simpa using U) hF;clear U hF a0 al af;obtain⟨a0,al,af⟩:=bH.1.blk.two;go_upto_region 9 with(fail);generalize ah:World.setCell _ _ _=X;have aw:Fr (fun b=>b=g) bJ X:=ah▸(Fr.refl (fun b=>b=g) bJ).setCell (.inl rfl) _;have aT:ag X g 195 #[.slice A n c,.int .i64 ((j+1:Nat):Int),.int .i64 0,.int .i64 0,.int .i64 0,.int .i64 (deep:Int)]:=ah▸bH.1.blk.aH 5 (.int .i64 (deep:Int));have aq:Fr (fun b=>b=g) wr X:=bH.2.trans aw;have aU:=aK (show b1 X g A n c T (j+1) deep from ⟨aT,bH.1.qE.d9 (aw.below (aB bH.1.blk.lt) fun b O hm=>ad),bH.1.lt,E⟩) (aZ.2.1.trans aq) (aZ.2.2.1.cZ aq fun b O _=>⟨fun h=>h,ad⟩);clear ah aw aT aq a0 al af bH;go_wp2_with (fail);go_ret;refine⟨au,on,bj,rfl,aU.2.2.cap.1,?_,by rw[bs.2.2.2];exact aU.1,aU.2.1⟩;have cr:=aZ.2.2.2;rw[bs.2.2.1,GF] at cr;rw[←cr];exact aU.2.2.sl (fun b _ h=>h.elim) fun b O hp=>⟨hp,O⟩
  ·have bs:=bO hc b7 bK cK;have az:=uU b7;clear hc b7 bK cK b8;go_wp2_with (fail);refine(show Calls prog 114 #[.pointer (some ⟨g,0,none⟩),.string ⟨#[125]⟩] wr _ from df [125] g A n c T j (deep+1) wr aZ.1 false bs.1 (fun h=>by cases h)).mono ?_;rintro e bJ ⟨rfl,U,hF⟩;have bH:=ai (show b1 bJ g A n c T j (deep+1) from by simpa using U) hF;clear U hF a0 al af;go_wp2_with (fail);refine(Cn g A n c T j (deep+1) bJ st bZ bH.1 bs.2.1).mono ?_;rintro e cy ⟨q,a,b,rfl,bQ,U,hF⟩;have aq:Fr (fun b=>b=g) wr cy:=bH.2.trans hF;have m:=aZ.2.2.1.cZ aq fun b O _=>⟨fun h=>h,ad⟩
   have hd:=bQ cy (j2 (fun _=>False) cy (.slice au on bj));have cf:w.heap.size≤cy.heap.size:=by have:=aq.size;omega
   have cw:=bO U (aZ.2.1.trans aq) m hd;clear U hF aq m hd bQ bH;go_wp2_with (at_builtin;refine bS jQ rfl (.tmp 34) (.tmp 37) rfl cw.2.2.1 cw.2.2.2 rfl rfl rfl ad ad cf ?_;intro a2 fE cJ an aq b3 ce;have bB:=ai an aq;clear an aq b3 ce);have bN:∀b,(Value.slice au on bj).ownBlock=some b→w.heap.size≤b:=fun b O=>(cw.2.2.1.lt O).1;have aO:Fr (fun b=>b=g) w cJ:=cw.2.1.eg (bB.2.below cf fun k ap h=>by have:=bN k h;omega);have dr:=aK (cw.1.on bB.2 fun b O=>by have:=bN b O;omega) aO bB.1;clear bN aO bB cw;go_roundw
   case rel=>exact⟨a2,on+1,fE,bZ,eL,acc++[st],P,rfl,ad,dr.1,dr.2.1,by rw[Gi];exact dr.2.2,bs.2.2.1,by have:=aZ.2.2.2;rw[bs.2.2.2] at this;rw[←this];simp⟩
   case measure=>simp only[E0];omega
end Go.Proofs.YtjhgbdckgkppnaaGreat

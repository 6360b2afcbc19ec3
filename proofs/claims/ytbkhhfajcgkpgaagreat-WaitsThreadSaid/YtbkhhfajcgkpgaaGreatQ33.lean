/- Part 33 of the proof. No condition of its own. -/
import Derived.Test.YtbkhhfajcgkpgaaGreatQ32
namespace Go.Proofs.YtbkhhfajcgkpgaaGreat
open Go.RowKit Go.Proofs.Tryz
set_option maxRecDepth 1000000
set_option maxHeartbeats 25600000
set_option linter.unusedVariables false
variable{T:List Tok}{F k n:Nat}{P:Nat→Prop}{A:Kr}{p:Prop}{w:World}
theorem nh{w:World}{P:Nat→Prop}:∀l:List ByteArray,D.aI w P (l.map D.s) (l.map Value.string)
 | []=>by simp only[Kd,D.aI]
 | x::l=>by simp only[JW];exact b9.2 ⟨_,rfl,nh l⟩
theorem xr{w:World}{P:Nat→Prop}:∀(l:Ks) (xs:List Value),D.aI w P (l.map D.s) xs→xs=l.map Value.string
 | [],xs,h=>by simpa only[Kd,D.aI] using h
 | x::l,xs,h=>by
  simp only[JW] at h;obtain⟨y,rfl,aC⟩:=b9.1 h;rw[JW,xr l y aC]
theorem um{l:Ks}(h:Sl w P A n (l.map D.s)):Src w 1 A n (l.map Value.string):=by
 obtain⟨xs,aU,hs⟩:=h.src (z:=1) (fun d hd=>by obtain⟨x,_,rfl⟩:=Ke.1 hd;rfl)
 rwa [xr l xs aU] at hs
theorem uy(p:j7)(aM:Nat)(K:∀X,X<aM→G2 p X):G2 p aM:=by
 intro d f V T R a8 bf aY ps QA ca qc bI w hd o hw hN eO y ch bm;obtain⟨s,wb,sA,bQ,a7,sl,GA,gn,gc,MA,mn,mc,FA,fn,fc,M,F,ar⟩:=p;have a1:=hw.ne;have b4:=hw.src.lt;have eI:=hw.blk.lt;have cg:V.length=a8:=by have:=hN.1;simpa using this
 simp only at a1 b4 eI;have H:=dA hw hN ch y K;clear hw hN ch y K;go_enter func97,ntmps97;go_upto_region 2 with(fail);generalize bg:World.alloc _ _=W;have aF:Ext w W:=bg▸Kn.alloc _;have bH:af W w.heap.size 143 #[.string aY,.slice QA ca qc,bI]:=bg▸Ko;have cA:W.heap.size=w.heap.size+1:=by rw[←bg];simp
 have ah:Gr (fun _=>False) (w.heap.size+1) 9 1 (W.alloc (.cells #[] 9)) (some ⟨W.heap.size,0,none⟩) 0 0 []:=(Gr.lit (w:=W) (n:=0) (l:=[]) rfl (by rfl) ab (by simp only[D.aI])).base ab;rw[cA] at ah;have av:Src (W.alloc (.cells #[] 9)) 1 R a8 (V.map Value.string):=um (Sl.cO H.2.1 ((aF.mono fun _ h=>h.elim).alloc _));have P:R=none→a8=0:=fun h=>by subst h;exact Sl.none_ H.2.1
 have bO:w.heap.size+1≤(W.alloc (.cells #[] 9)).heap.size:=by simp;omega
 have ax:=ai aF bH;clear bg aF bH;go_upto_region 3 with(at_builtin;refine ql kd rfl (.tmp 17) (.tmp 18) rfl ah (nh V) (by simpa using cg) av P rfl rfl ab ab bO ?_;intro cf c3 bU bC Z bq am;have aE:=ai bC Z;clear bC Z bq am);have bB:Ext W bU:=(Kn.alloc _:Ext W (W.alloc (.cells #[] 9))).eB (aE.2.below (by simp) fun k aj h=>by
  simp[Value.ownBlock] at h;omega)
 have dJ:=H.1.ak (ax.1.trans bB);obtain⟨a0,ap,ak⟩:=dJ.blk.two;have ao:=aQ dJ bB aE.1;clear dJ bB aE ah av P;go_wp2_with(fail);refine(aW bU s sA bQ a7 sl ((f:Int)+1) ao.1.src ab ab).mono ?_;rintro e ci ⟨b5,rfl,I,cd,h,he⟩;have t:Fr (fun b=>b=s) w ci:=((ax.1.trans ao.2.1).mono fun _ h=>h.elim).trans he.fr;have i:=ao.1.next h he.fr;have m:=ao.2.2.cO he.fr fun b O _=>⟨fun h=>h,ab⟩
 simp only[J8,Kg] at m;have g:=(ax.2.ak ao.2.1).on he.fr ab;have aJ:aM≤24:=H.1.kr;have b9:=ad (show H0 ⟨s,wb,sA,bQ,a7,sl,GA,gn,gc,MA,mn,mc,FA,fn,fc,M,F,ar⟩ w.heap.size (w.heap.size+1) (.agg #[.string aY,.slice QA ca qc,bI]) (.int .i64 (f:Int)) d ps V T w aM aY QA ca qc bI cf a8 c3 none 0 0 b5 ci from
  ⟨V,[],aM,ab,⟨i.src,i.blk,t.mono fun _ h=>.inl h,aJ⟩,g,⟨Gr.strs m,Gr.nil _ _ _ _ _,fun b _ h=>by cases h⟩,Made.nil _ _ _ _ _,fun x hx=>JZ.2 (.inl hx),eO⟩)
 clear h he t i m g a0 ap ak ao;skip
 go_wp2_with(fail);refine GU ⟨s,wb,sA,bQ,a7,sl,GA,gn,gc,MA,mn,mc,FA,fn,fc,M,F,ar⟩ w.heap.size (w.heap.size+1) (.agg #[.string aY,.slice QA ca qc,bI]) (.int .i64 (f:Int)) d ps V T w aM aY QA ca qc bI H.1 H.2.2.1 (JQ _) ab (JQ _) bm hd H.2.2.2.1 H.2.2.2.2 _ ?hQ ?hX cf a8 c3 none 0 0 b5 ci b9.o
 case hQ=>exact fun _ _ d _ _ h=>by cases d<;>exact h
 case hX=>
  intro r wf hI;unfold qz at hI;obtain⟨Q,aI,aq,aA,G5,aH,hI⟩:=hI
  iterate 242 obtain⟨_,hI⟩:=hI
  obtain⟨⟨bc,ls,L,_,hC,aw,hG,hM,hV,j⟩,rfl⟩:=hI;have bX:=aQ hC hG hM;clear hC aw hG hM hV j b9;go_wp2;go_ret;obtain⟨hC,hG,hM⟩:=bX.o;exact⟨ls,L,aA,G5,aH,rfl,hM,hG.two.cap.1,hG.two.sl (fun b O hp=>⟨by have:=hp.1;omega,O⟩) (fun b O hp=>⟨ab,O⟩),hC.wr H.1,hC.fr⟩
theorem wv(p:j7):∀L,G2 p L:=fun L=>by
 induction L using Nat.strongRecOn with
 | _ L ao=>exact uy p L ao
namespace Bf
theorem z3(h:p:=by
 have b8:af X aN.heap.size 189 #[.string (strOf t.text),.slice none 0 0]:=hX▸Ko;have aP:=bw (H1.1.ak aF) (H1.2.1.trans (aF.mono fun _ h=>h.elim)) (H1.2.2.ak aF) b8;clear hX aF b8 H1 ax;go_wp2_with(fail);refine(show Calls prog 74 #[.pointer (some ⟨g,0,none⟩),.string ⟨#[91]⟩] X _ from dj [91] g A n c T (k+1) deep X aP.1 false ce.2.2 (fun h=>by cases h)).mono ?_;rintro e aO ⟨rfl,aY,hF⟩;have bH:=aP.2.2.1.on hF ab;have b3:=aP.2.2.2.on hF ab;have aE:=aQ (show bY aO g A n c T (k+1) deep from by simpa using aY) (aP.2.1.trans hF) bH;clear aY hF aP;obtain⟨d0,ag,aR⟩:=b3.two;obtain⟨bv,bd,be⟩:=bH.two;clear b3 bH;go_wp2_with(fail);generalize b6:World.setCell _ _ _=Y;obtain⟨bt,bA,bk⟩:=dL (M:=fun b=>b=g) (w:=w) [.string (strOf t.text),.slice none 0 0] (by rfl) aE.2.2 aE.2.1 (JQ _) b6;have bM:=ai (aE.1.on bk fun b O=>ab) bA;clear b6 bA bk bv bd be;obtain⟨bv,bd,be⟩:=bt.two;refine Km (v:=.agg #[.string (strOf t.text),.slice none 0 0]) (by simp[results,Tryz.results126,go_sem,bv]) rfl ?_;exact⟨rfl,bM.1,bM.2⟩
 ):p:=h
theorem jF(h:p:=by
 have b8:af W w.heap.size 189 #[.string ⟨#[]⟩,.slice none 0 0]:=bg▸Ko;have ax:=aQ (H.ak aF) aF b8;clear bg aF b8;go_wp2_with(fail);refine(oy g A n c T k deep W t ax.1 ce.1 ce.2.1 aj).mono ?_;exact z2
 ):p:=h
end Bf
open Bf in
theorem De(g:Nat)(A:Kr)(n c:Nat)(T:List Tok)(k deep:Nat)(w:World)(t:Tok)(h:bY w g A n c T k deep)(ht:T[k]?=some t)(bm:t.kind=1)(ca:ck [91] T (k+1)=false)(aj:k+1<n) :
  Calls prog 126 #[.pointer (some ⟨g,0,none⟩)] w fun e ac=>e=.returned (.agg #[.string (strOf t.text),.slice none 0 0])∧bY ac g A n c T (k+1) deep∧Fr (fun b=>b=g) w ac:=by
 have H:=ad h;have ce:=aQ ht bm ca;have bN:=h.blk.lt;clear h bm ht ca;go_enter func126,ntmps126;exact jE
theorem Ey(g:Nat)(A:Kr)(n c:Nat)(T:List Tok)(k deep:Nat)(w:World)(h:bY w g A n c T k deep)(ae:ck [40] T k=true)(aC:ck [41] T (k+1)=true)(aj:k+2<n) :
  Calls prog 125 #[.pointer (some ⟨g,0,none⟩)] w fun e ac=>e=.returned (.slice none 0 0)∧bY ac g A n c T (k+2) deep∧Fr (fun b=>b=g) w ac:=by
 have H:=ad h;have ce:=ai ae aC;clear h ae aC;go_enter func125,ntmps125;exact Fk
theorem yg(g:Nat)(A:Kr)(n c:Nat)(T:List Tok)(k deep:Nat)(w:World)(h:bY w g A n c T k deep)(ae:ck [40] T k=true)(aC:ck [41] T (k+1)=true)(aj:k+2<n) :
  Calls prog 78 #[.pointer (some ⟨g,0,none⟩)] w fun e ac=>e=.returned (.slice none 0 0)∧bY ac g A n c T (k+2) deep∧Fr (fun b=>b=g) w ac:=by
 have H:=ad h;have ce:=ai ae aC;clear h ae aC;go_enter func78,ntmps78;exact Fk
namespace Bg
theorem z3(h:p:=by
 have b8:af X aN.heap.size 125 #[.string (strOf t.text),.bool false,.int .i64 0]:=hX▸Ko;have aP:=bw (H1.1.ak aF) (H1.2.1.trans (aF.mono fun _ h=>h.elim)) (H1.2.2.ak aF) b8;clear hX aF b8 H1 ax;go_wp2_with(fail);refine(show Calls prog 74 #[.pointer (some ⟨g,0,none⟩),.string ⟨#[91]⟩] X _ from dj [91] g A n c T (k+1) deep X aP.1 false ce.2.2.1 (fun h=>by cases h)).mono ?_;rintro e aO ⟨rfl,aY,hF⟩;have aE:=bw (show bY aO g A n c T (k+1) deep from by simpa using aY) (aP.2.1.trans hF) (aP.2.2.1.on hF ab) (aP.2.2.2.on hF ab);clear aY hF aP;go_wp2_with(fail);refine(show Calls prog 110 #[.pointer (some ⟨g,0,none⟩),.string ⟨#[59]⟩] aO _ from mz [59] g A n c T (k+1) deep aO aE.1 ce.2.2.2 ab).mono ?_;rintro e bU ⟨rfl,aY,hF⟩;have bH:=aE.2.2.1.on hF ab;have b3:=aE.2.2.2.on hF ab;have ao:=aQ aY (aE.2.1.trans hF) bH;clear aY hF aE;obtain⟨d0,ag,aR⟩:=b3.two;obtain⟨bv,bd,be⟩:=bH.two;clear b3 bH;go_wp2_with(fail);generalize b6:World.setCell _ _ _=Y;obtain⟨bt,bA,bk⟩:=dL (M:=fun b=>b=g) (w:=w) [.string (strOf t.text),.bool false,.int .i64 0] (by rfl) ao.2.2 ao.2.1 (JQ _) b6;have bM:=ai (ao.1.on bk fun b O=>ab) bA;clear b6 bA bk bv bd be;obtain⟨bv,bd,be⟩:=bt.two;refine Km (v:=.agg #[.string (strOf t.text),.bool false,.int .i64 0]) (by simp[results,Tryz.results76,go_sem,bv]) rfl ?_;exact⟨rfl,bM.1,bM.2⟩
 ):p:=h
theorem jF(h:p:=by
 have b8:af W w.heap.size 125 #[.string ⟨#[]⟩,.bool false,.int .i64 0]:=bg▸Ko;have ax:=aQ (H.ak aF) aF b8;clear bg aF b8;go_wp2_with(fail);refine(oy g A n c T k deep W t ax.1 ce.1 ce.2.1 ab).mono ?_;exact z2
 ):p:=h
end Bg
open Bg in
theorem Dd(g:Nat)(A:Kr)(n c:Nat)(T:List Tok)(k deep:Nat)(w:World)(t:Tok)(h:bY w g A n c T k deep)(ht:T[k]?=some t)(bm:t.kind=1)(ca:ck [91] T (k+1)=false)(aC:ck [59] T (k+1)=true)(aj:k+2<n) :
  Calls prog 76 #[.pointer (some ⟨g,0,none⟩),.bool false] w fun e ac=>e=.returned (.agg #[.string (strOf t.text),.bool false,.int .i64 0])∧bY ac g A n c T (k+2) deep∧Fr (fun b=>b=g) w ac:=by
 have H:=ad h;have ce:=bw ht bm ca aC;have bN:=h.blk.lt;clear h bm ht ca aC;go_enter func76,ntmps76;exact jE
theorem ga{a b:List UInt8}(h:ck a T k=true)(hn:strOf a≠strOf b):ck b T k=false:=by
 unfold ck at h ⊢
 cases hT:T[k]? with
 | none=>rfl
 | some t=>
  rw[hT] at h;simp only[J2,Kk] at h;simp only[Bool.and_eq_false_iff,decide_eq_false_iff_not];exact .inr fun O=>hn (h.2.symm.trans O)
def lV(k:Int)(n m:ByteArray):List Value:=[.int .i64 k,.string n,.int .i64 0,.int .i64 0,.string ⟨#[]⟩,.slice none 0 0,.string m,.slice none 0 0,.slice none 0 0,.slice none 0 0,.slice none 0 0]
theorem GM(n:ByteArray):(a2 (.call true n [])).rep w P (lV 4 n ⟨#[]⟩):=ei lS ky (Sl.bG _) (JQ _) (Sl.bG _) (JQ _) (Sl.bG _) (JQ _)
theorem ui(u:Bool)(n:ByteArray):(a2 (.lock u ⟨n,none⟩)).rep w P (lV (if u then 6 else 5) ⟨#[]⟩ n):=
 ei lS (jk.2 ⟨none,0,0,rfl,JQ _,Sl.bG _⟩) (Sl.bG _) (JQ _) (Sl.bG _) (JQ _) (Sl.bG _) (JQ _)
structure yK(w ac:World)(g:Nat)(A:Kr)(n c:Nat)(T:List Tok)(k deep:Nat)(cs:List Value):Prop where
 ps:bY ac g A n c T k deep
 fr:Fr (fun b=>b=g) w ac
 r:af ac w.heap.size 192 #[.int .i64 0,.string ⟨#[]⟩,.int .i64 0,.int .i64 0,.string ⟨#[]⟩,.slice none 0 0,.string ⟨#[]⟩,.slice none 0 0,.slice none 0 0,.slice none 0 0,.slice none 0 0]
 s:af ac (w.heap.size+1) 192 cs.toArray
theorem yK.on{w ac aO:World}{g:Nat}{A:Kr}{n c:Nat}{T:List Tok}{k F deep:Nat}{cs:List Value}(h:yK w ac g A n c T k deep cs)(aJ:g<w.heap.size)(hp:bY aO g A n c T F deep)(aD:Fr (fun b=>b=g) ac aO):yK w aO g A n c T F deep cs:=
 ⟨hp,h.fr.trans aD,h.r.on aD ab,h.s.on aD ab⟩
theorem yK.set{ac aO:World}{g:Nat}{c:Nat}{deep:Nat}{cs f:List Value}(h:yK w ac g A n c T k deep cs)(aJ:g<w.heap.size)(aD:Fr (fun b=>b=w.heap.size+1) ac aO)(hs:af aO (w.heap.size+1) 192 f.toArray):yK w aO g A n c T k deep f:=
 ⟨h.ps.on aD fun b O=>ab,h.fr.eB (aD.below h.fr.size fun k aj hm=>ab),h.r.on aD ab,hs⟩
namespace Bl
theorem uQ(h:p:=by
 refine(show Calls prog 74 #[.pointer (some ⟨g,0,none⟩),.string ⟨#[103,111]⟩] aN _ from dj [103,111] g A n c T k deep aN H1.ps true (by first|exact ce.1|exact ga ce.1 (by decide)) (fun h=>by first|omega|cases h)).mono ?_;rintro e aO ⟨rfl,aY,hF⟩;have aE:=ad (H1.on bN (show bY aO g A n c T (k+1) deep from by simpa using aY) hF);clear aY hF;clear H1;obtain⟨d0,ag,aR⟩:=aE.s.two;clear d0 ag aR;go_wp2_with(fail);refine(oy g A n c T (k+1) deep aO t aE.ps ce.2.1 ce.2.2.1 ab).mono ?_;rintro e j ⟨rfl,aY,hF⟩;have HA:=ad (aE.on bN aY hF);clear aY hF aE;obtain⟨d0,ag,aR⟩:=HA.s.two;simp only[lV] at d0;go_upto_region 15 with(fail);generalize hX:World.setCell _ _ _=X;have aP:Kt (yK w X g A n c T (k+1+1) deep (lV 4 (strOf t.text) ⟨#[]⟩)):=by
  refine ad (HA.set bN (by rw[←hX];exact((Fr.refl (fun b=>b=w.heap.size+1) j).setCell (.inl rfl) _).setCell (.inl rfl) _) ?_);rw[←hX];exact(HA.s.aC 0 (.int .i64 4)).aC 1 (.string (strOf t.text))
 clear hX d0 ag aR HA;go_wp2_with(fail);refine(Ey g A n c T (k+1+1) deep X aP.ps ce.2.2.2.1 ce.2.2.2.2.1 ab).mono ?_;rintro e wb ⟨rfl,aY,hF⟩;have bs:=ad (aP.on bN aY hF);clear aY hF aP;obtain⟨d0,ag,aR⟩:=bs.s.two;simp only[lV] at d0;go_upto_region 16 with(fail);generalize hX:World.setCell _ _ _=Y;have bM:Kt (yK w Y g A n c T (k+1+1+2) deep (lV 4 (strOf t.text) ⟨#[]⟩)):=by
  refine ad (bs.set bN (by rw[←hX];exact(Fr.refl (fun b=>b=w.heap.size+1) wb).setCell (.inl rfl) _) ?_);rw[←hX];exact bs.s.aC 8 (.slice none 0 0)
 clear hX d0 ag aR bs;go_wp2_with(fail);refine(show Calls prog 110 #[.pointer (some ⟨g,0,none⟩),.string ⟨#[59]⟩] Y _ from mz [59] g A n c T (k+1+1+2) deep Y bM.ps ce.2.2.2.2.2 ab).mono ?_;rintro e b1 ⟨rfl,aY,hF⟩;have ba:=ad (bM.on bN aY hF);clear aY hF bM;obtain⟨d0,ag,aR⟩:=ba.s.two;obtain⟨bv,bd,be⟩:=ba.r.two;simp only[lV] at d0;go_wp2_with(fail);generalize hX:World.setCell _ _ _=V;obtain⟨bV,bf,i⟩:=dL (M:=fun b=>b=g) (w:=w) (lV 4 (strOf t.text) ⟨#[]⟩) (by rfl) ba.r ba.fr (JQ _) hX;have cc:=ai (ba.ps.on i fun b O=>ab) bf;clear hX bf i bv bd be d0 ag aR;obtain⟨bv,bd,be⟩:=bV.two;simp only[lV] at bv;refine Km (v:=.agg (lV 4 (strOf t.text) ⟨#[]⟩).toArray) (by simp[results,Tryz.results111,go_sem,bv,lV]) rfl ?_;exact⟨rfl,cc.1,cc.2⟩
 ):p:=h
end Bl
open Bl in
theorem HM(g:Nat)(A:Kr)(n c:Nat)(T:List Tok)(k deep:Nat)(w:World)(t:Tok)(h:bY w g A n c T k deep)(ae:ck [103,111] T k=true)(ht:T[k+1]?=some t)(bm:t.kind=1)(aC:ck [40] T (k+2)=true)(aT:ck [41] T (k+3)=true)(a9:ck [59] T (k+4)=true)(aj:k+5<n) :
  Calls prog 111 #[.pointer (some ⟨g,0,none⟩)] w fun e ac=>e=.returned (.agg (lV 4 (strOf t.text) ⟨#[]⟩).toArray)∧bY ac g A n c T (k+5) deep∧Fr (fun b=>b=g) w ac:=by
 have H:=ad h;have ce:=dQ ae ht bm aC aT a9;have bN:=h.blk.lt;clear h ae ht bm aC aT a9;exact uP
namespace Bm
theorem zy(h:p:=by
 obtain⟨bV,bf,i⟩:=dL (M:=fun b=>b=g) (w:=w) (lV 5 ⟨#[]⟩ (strOf t.text)) (by rfl) ba.r ba.fr (JQ _) hX;have cc:=ai (ba.ps.on i fun b O=>ab) bf;clear hX bf i bv bd be d0 ag aR;obtain⟨bv,bd,be⟩:=bV.two;simp only[lV] at bv;refine Km (v:=.agg (lV 5 ⟨#[]⟩ (strOf t.text)).toArray) (by simp[results,Tryz.results111,go_sem,bv,lV]) rfl ?_;exact⟨rfl,cc.1,cc.2⟩
 ):p:=h
theorem zF(h:p:=by
 refine(show Calls prog 74 #[.pointer (some ⟨g,0,none⟩),.string ⟨#[108,111,99,107]⟩] aO _ from dj [108,111,99,107] g A n c T k deep aO aE.ps true (by first|exact ce.1|exact ga ce.1 (by decide)) (fun h=>by first|omega|cases h)).mono ?_;rintro e bU ⟨rfl,aY,hF⟩;have ao:=ad (aE.on bN (show bY bU g A n c T (k+1) deep from by simpa using aY) hF);clear aY hF;clear aE;go_wp2_with(fail);refine(De g A n c T (k+1) deep bU t ao.ps ce.2.1 ce.2.2.1 ce.2.2.2.1 ab).mono ?_;rintro e j ⟨rfl,aY,hF⟩;have HA:=ad (ao.on bN aY hF);clear aY hF ao;obtain⟨d0,ag,aR⟩:=HA.s.two;simp only[lV] at d0;go_upto_region 19 with(fail);generalize hX:World.setCell _ _ _=X;have aP:Kt (yK w X g A n c T (k+1+1) deep (lV 5 ⟨#[]⟩ (strOf t.text))):=by
  refine ad (HA.set bN (by rw[←hX];exact(((Fr.refl (fun b=>b=w.heap.size+1) j).setCell (.inl rfl) _).setCell (.inl rfl) _).setCell (.inl rfl) _) ?_);rw[←hX];exact((HA.s.aC 0 (.int .i64 5)).aC 6 (.string (strOf t.text))).aC 7 (.slice none 0 0)
 exact zx
 ):p:=h
theorem uQ(h:p:=by
 exact zE
 ):p:=h
end Bm
open Bm in
theorem Ez(g:Nat)(A:Kr)(n c:Nat)(T:List Tok)(k deep:Nat)(w:World)(t:Tok)(h:bY w g A n c T k deep)(ae:ck [108,111,99,107] T k=true)(ht:T[k+1]?=some t)(bm:t.kind=1)(ca:ck [91] T (k+2)=false)(aC:ck [59] T (k+2)=true)(aj:k+3<n) :
  Calls prog 111 #[.pointer (some ⟨g,0,none⟩)] w fun e ac=>e=.returned (.agg (lV 5 ⟨#[]⟩ (strOf t.text)).toArray)∧bY ac g A n c T (k+3) deep∧Fr (fun b=>b=g) w ac:=by
 have H:=ad h;have ce:=dA ae ht bm ca aC;have bN:=h.blk.lt;clear h ae ht bm ca aC;exact uP
namespace Bn
theorem zy(h:p:=by
 obtain⟨bV,bf,i⟩:=dL (M:=fun b=>b=g) (w:=w) (lV 6 ⟨#[]⟩ (strOf t.text)) (by rfl) ba.r ba.fr (JQ _) hX;have cc:=ai (ba.ps.on i fun b O=>ab) bf;clear hX bf i bv bd be d0 ag aR;obtain⟨bv,bd,be⟩:=bV.two;simp only[lV] at bv;refine Km (v:=.agg (lV 6 ⟨#[]⟩ (strOf t.text)).toArray) (by simp[results,Tryz.results111,go_sem,bv,lV]) rfl ?_;exact⟨rfl,cc.1,cc.2⟩
 ):p:=h
theorem zF(h:p:=by
 refine(show Calls prog 74 #[.pointer (some ⟨g,0,none⟩),.string ⟨#[108,111,99,107]⟩] aO _ from dj [108,111,99,107] g A n c T k deep aO aE.ps false (by first|exact ce.1|exact ga ce.1 (by decide)) (fun h=>by first|omega|cases h)).mono ?_;rintro e bU ⟨rfl,aY,hF⟩;have ao:=ad (aE.on bN (show bY bU g A n c T (k) deep from by simpa using aY) hF);clear aY hF;clear aE;go_wp2_with(fail);refine(show Calls prog 74 #[.pointer (some ⟨g,0,none⟩),.string ⟨#[117,110,108,111,99,107]⟩] bU _ from dj [117,110,108,111,99,107] g A n c T k deep bU ao.ps true (by first|exact ce.1|exact ga ce.1 (by decide)) (fun h=>by first|omega|cases h)).mono ?_;rintro e ci ⟨rfl,aY,hF⟩;have P:=ad (ao.on bN (show bY ci g A n c T (k+1) deep from by simpa using aY) hF);clear aY hF;clear ao;go_wp2_with(fail);refine(De g A n c T (k+1) deep ci t P.ps ce.2.1 ce.2.2.1 ce.2.2.2.1 ab).mono ?_;rintro e j ⟨rfl,aY,hF⟩;have HA:=ad (P.on bN aY hF);clear aY hF P;obtain⟨d0,ag,aR⟩:=HA.s.two;simp only[lV] at d0;go_upto_region 22 with(fail);generalize hX:World.setCell _ _ _=X;have aP:Kt (yK w X g A n c T (k+1+1) deep (lV 6 ⟨#[]⟩ (strOf t.text))):=by
  refine ad (HA.set bN (by rw[←hX];exact(((Fr.refl (fun b=>b=w.heap.size+1) j).setCell (.inl rfl) _).setCell (.inl rfl) _).setCell (.inl rfl) _) ?_);rw[←hX];exact((HA.s.aC 0 (.int .i64 6)).aC 6 (.string (strOf t.text))).aC 7 (.slice none 0 0)
 exact zx
 ):p:=h
theorem uQ(h:p:=by
 exact zE
 ):p:=h
end Bn
open Bn in
theorem yh(g:Nat)(A:Kr)(n c:Nat)(T:List Tok)(k deep:Nat)(w:World)(t:Tok)(h:bY w g A n c T k deep)(ae:ck [117,110,108,111,99,107] T k=true)(ht:T[k+1]?=some t)(bm:t.kind=1)(ca:ck [91] T (k+2)=false)(aC:ck [59] T (k+2)=true)(aj:k+3<n) :
  Calls prog 111 #[.pointer (some ⟨g,0,none⟩)] w fun e ac=>e=.returned (.agg (lV 6 ⟨#[]⟩ (strOf t.text)).toArray)∧bY ac g A n c T (k+3) deep∧Fr (fun b=>b=g) w ac:=by
 have H:=ad h;have ce:=dA ae ht bm ca aC;have bN:=h.blk.lt;clear h ae ht bm ca aC;exact uP
def sO(T:List Tok)(k:Nat):Option (ax×Nat):=match T[k+1]? with
 | none=>none
 | some t=>
  if t.kind=1 then
   if ck [103,111] T k && ck [40] T (k+2) && ck [41] T (k+3) && ck [59] T (k+4) && decide (k+5<T.length) then some (.call true (strOf t.text) [],k+5)
   else if ck [108,111,99,107] T k && !ck [91] T (k+2) && ck [59] T (k+2) && decide (k+3<T.length) then some (.lock false ⟨strOf t.text,none⟩,k+3)
   else if ck [117,110,108,111,99,107] T k && !ck [91] T (k+2) && ck [59] T (k+2) && decide (k+3<T.length) then some (.lock true ⟨strOf t.text,none⟩,k+3)
   else none
  else none
theorem xq{st:ax}(h:sO T k=some (st,F)):k+3≤F:=by
 unfold sO at h;split at h
 ·cases h
 ·split at h
  ·split at h
   ·injection h with h;injection h with _ h;omega
   ·split at h
    ·injection h with h;injection h with _ h;omega
    ·split at h
     ·injection h with h;injection h with _ h;omega
     ·cases h
  ·cases h
theorem EB(g:Nat)(A:Kr)(n c:Nat)(T:List Tok)(k deep:Nat)(w:World)(st:ax)(F:Nat)(h:bY w g A n c T k deep)(hs:sO T k=some (st,F)) :
  Calls prog 111 #[.pointer (some ⟨g,0,none⟩)] w fun e ac=>∃(q:Int) (a b:ByteArray),e=.returned (.agg #[.int .i64 q,.string a,.int .i64 0,.int .i64 0,.string ⟨#[]⟩,.slice none 0 0,.string b,.slice none 0 0,.slice none 0 0,.slice none 0 0,.slice none 0 0])∧(∀w P,(a2 st).rep w P (lV q a b))∧bY ac g A n c T F deep∧Fr (fun b=>b=g) w ac:=by
 have hl:=h.sR.1;unfold sO at hs;split at hs
 ·cases hs
 ·rename_i t ht;split at hs
  ·rename_i bm;split at hs
   ·rename_i hc;simp only[J2,Kk] at hc;injection hs with hs;injection hs with ae aC;subst ae aC;refine(HM g A n c T k deep w t h hc.1.1.1.1 ht bm hc.1.1.1.2 hc.1.1.2 hc.1.2 ab).mono ?_;rintro e ac ⟨rfl,aY,hF⟩;exact⟨4,_,_,rfl,fun w P=>GM _,aY,hF⟩
   ·split at hs
    ·rename_i hc;simp only[J2,Kk,Bool.not_eq_true'] at hc;injection hs with hs;injection hs with ae aC;subst ae aC;refine(Ez g A n c T k deep w t h hc.1.1.1 ht bm hc.1.1.2 hc.1.2 ab).mono ?_;rintro e ac ⟨rfl,aY,hF⟩;exact⟨5,_,_,rfl,fun w P=>ui false _,aY,hF⟩
    ·split at hs
     ·rename_i hc;simp only[J2,Kk,Bool.not_eq_true'] at hc;injection hs with hs;injection hs with ae aC;subst ae aC;refine(yh g A n c T k deep w t h hc.1.1.1 ht bm hc.1.1.2 hc.1.2 ab).mono ?_;rintro e ac ⟨rfl,aY,hF⟩;exact⟨6,_,_,rfl,fun w P=>ui true _,aY,hF⟩
     ·cases hs
  ·cases hs
def jv(T:List Tok):Nat→Nat→Option (List ax×Nat)
 | 0,_=>none
 | f+1,k=>if ck [125] T k then (if k+1<T.length then some ([],k+1) else none) else (sO T k).bind fun p=>(jv T f p.2).map fun q=>(p.1::q.1,q.2)
theorem v8{f:Nat}{ls:List ax}(h:jv T f k=some (ls,F)):(ck [125] T k=true∧k+1<T.length∧ls=[]∧F=k+1)∨(ck [125] T k=false∧∃(st:ax) (bE f2:Nat) (z:List ax),sO T k=some (st,bE)∧jv T f2 bE=some (z,F)∧ls=st::z):=by
 cases f with
 | zero=>cases h
 | succ f=>
  simp only[jv] at h;split at h
  ·rename_i ae;split at h
   ·rename_i aC;injection h with h;injection h with aT a9;exact .inl ⟨ae,aC,aT.symm,a9.symm⟩
   ·cases h
  ·rename_i ae
   cases hs:sO T k with
   | none=>rw[hs] at h;cases h
   | some p=>
    rw[hs] at h;obtain⟨st,bE⟩:=p;simp only[Option.bind_some] at h
    cases aU:jv T f bE with
    | none=>rw[aU] at h;cases h
    | some q=>
     rw[aU] at h;simp only[Option.map_some] at h;injection h with h;injection h with aT a9;subst a9;exact .inr ⟨by simpa using ae,st,bE,f,q.1,rfl,aU,aT.symm⟩
def HD:Value→Nat
 | .slice _ n _=>n
 | _=>0
theorem Dc(g:Nat)(A:Kr)(n c:Nat)(T:List Tok)(k deep:Nat)(w:World)(f:Nat)(ls:List ax)(F:Nat)(h:bY w g A n c T k deep)(hd:deep<24)(ae:ck [123] T k=true)(aj:k+1<n)(hs:jv T f (k+1)=some (ls,F)) :
  Calls prog 79 #[.pointer (some ⟨g,0,none⟩)] w fun e ac=>∃(bs:Kr) (on bG:Nat),e=.returned (.slice bs on bG)∧on≤bG∧Sl ac (fresh w ac) bs on (ls.map a2)∧bY ac g A n c T F deep∧Fr (fun b=>b=g) w ac:=by
 have H:=ad h;have ce:=ai ae hs;have bN:=h.blk.lt;have J:=h.jm;have av:((deep:Int) == 24)=false:=by simp;omega
 clear h ae hs;go_enter func79,ntmps79;go_wp2_with(fail);refine(show Calls prog 72 #[.pointer (some ⟨g,0,none⟩),.string ⟨#[123]⟩] w _ from lj [123] g A n c T k deep w H.o).mono ?_;rintro e aN ⟨rfl,aF⟩;rw[ce.1];have H1:=ai (H.ak aF) (aF.mono (M':=fun b=>b=g) fun _ h=>h.elim);clear aF;obtain⟨a0,ap,ak⟩:=H1.1.blk.two;go_wp2_with(fail);refine(show Calls prog 110 #[.pointer (some ⟨g,0,none⟩),.string ⟨#[123]⟩] aN _ from mz [123] g A n c T k deep aN H1.1 ce.1 aj).mono ?_;rintro e aO ⟨rfl,aY,hF⟩;have aE:=ai aY (H1.2.trans hF);clear aY hF a0 ap ak H1;obtain⟨a0,ap,ak⟩:=aE.1.blk.two;go_upto_region 5 with(fail);generalize hX:World.setCell _ _ _=X;have aD:Fr (fun b=>b=g) aO X:=hX▸(Fr.refl (fun b=>b=g) aO).setCell (.inl rfl) _;have aL:af X g 131 #[.slice A n c,.int .i64 ((k+1:Nat):Int),.int .i64 0,.int .i64 0,.int .i64 0,.int .i64 ((deep+1:Nat):Int)]:=hX▸aE.1.blk.aC 5 (.int .i64 ((deep:Int)+1));have aP:=ai (show bY X g A n c T (k+1) (deep+1) from ⟨aL,aE.1.sR.fS (aD.below (aH aE.1.blk.lt) fun b O hm=>ab),aj,J⟩) (aE.2.trans aD);clear hX aD aL a0 ap ak aE;go_wp2_with(fail);go_loopw [3] (fun aG wr=>∃(bs:Kr) (on bG j a8:Nat) (acc rest:List ax),aG=.slice bs on bG∧on≤j∧bY wr g A n c T j (deep+1)∧Fr (fun b=>b=g) w wr∧Gr (fun _=>False) w.heap.size 192 11 wr bs on bG (acc.map a2)∧jv T a8 j=some (rest,F)∧acc++rest=ls) (fun aG _=>4001 - HD aG)
 case atStart=>exact⟨none,0,0,k+1,f,[],ls,rfl,ab,aP.1,aP.2,Gr.nil _ _ _ _ _,ce.2,rfl⟩
 case round=>
  obtain⟨bs,on,bG,j,a8,acc,rest,rfl,c2,aY,hF,hG,a5,y⟩:=hrel;clear aP;have Y:=aY.lt;have aX:=bw aY hF hG y;obtain⟨a0,ap,ak⟩:=aY.blk.two;have nH:=hF.size;clear aY hF hG y;rcases v8 a5 with⟨hc,f1,i,u⟩|⟨hc,st,bE,f2,z,b1,bz,cG⟩
  ·have bL:=bw hc f1 i u;clear hc f1 i u a5;go_wp2_with(fail);refine(show Calls prog 74 #[.pointer (some ⟨g,0,none⟩),.string ⟨#[125]⟩] wr _ from dj [125] g A n c T j (deep+1) wr aX.1 true bL.1 (fun _=>by have:=bL.2.1;have:=aX.1.sR.1;omega)).mono ?_;rintro e bU ⟨rfl,aY,hF⟩;have ao:=ai (show bY bU g A n c T (j+1) (deep+1) from by simpa using aY) hF;clear aY hF a0 ap ak;obtain⟨a0,ap,ak⟩:=ao.1.blk.two;go_upto_region 9 with(fail);generalize hX:World.setCell _ _ _=X;have aD:Fr (fun b=>b=g) bU X:=hX▸(Fr.refl (fun b=>b=g) bU).setCell (.inl rfl) _;have aL:af X g 131 #[.slice A n c,.int .i64 ((j+1:Nat):Int),.int .i64 0,.int .i64 0,.int .i64 0,.int .i64 (deep:Int)]:=hX▸ao.1.blk.aC 5 (.int .i64 (deep:Int));have ay:Fr (fun b=>b=g) wr X:=ao.2.trans aD;have aP:=aQ (show bY X g A n c T (j+1) deep from ⟨aL,ao.1.sR.fS (aD.below (aH ao.1.blk.lt) fun b O hm=>ab),ao.1.lt,J⟩) (aX.2.1.trans ay) (aX.2.2.1.cO ay fun b O _=>⟨fun h=>h,ab⟩);clear hX aD aL ay a0 ap ak ao;go_wp2_with(fail);go_ret;refine⟨bs,on,bG,rfl,aP.2.2.cap.1,?_,by rw[bL.2.2.2];exact aP.1,aP.2.1⟩;have cl:=aX.2.2.2;rw[bL.2.2.1,Kf] at cl;rw[←cl];exact aP.2.2.sl (fun b _ h=>h.elim) fun b O hp=>⟨hp,O⟩
  ·have bL:=bw hc b1 bz cG;have cn:=xq b1;clear hc b1 bz cG a5;go_wp2_with(fail);refine(show Calls prog 74 #[.pointer (some ⟨g,0,none⟩),.string ⟨#[125]⟩] wr _ from dj [125] g A n c T j (deep+1) wr aX.1 false bL.1 (fun h=>by cases h)).mono ?_;rintro e bU ⟨rfl,aY,hF⟩;have ao:=ai (show bY bU g A n c T j (deep+1) from by simpa using aY) hF;clear aY hF a0 ap ak;go_wp2_with(fail);refine(EB g A n c T j (deep+1) bU st bE ao.1 bL.2.1).mono ?_;rintro e ci ⟨q,a,b,rfl,L,aY,hF⟩;have ay:Fr (fun b=>b=g) wr ci:=ao.2.trans hF;have m:=aX.2.2.1.cO ay fun b O _=>⟨fun h=>h,ab⟩
   have hd:=L ci (lg (fun _=>False) ci (.slice bs on bG));have bO:w.heap.size≤ci.heap.size:=by have:=ay.size;omega
   have P:=bw aY (aX.2.1.trans ay) m hd;clear aY hF ay m hd L ao;go_wp2_with(at_builtin;refine bR od rfl (.tmp 34) (.tmp 37) rfl P.2.2.1 P.2.2.2 rfl rfl rfl ab ab bO ?_;intro aT b0 cx an ay b8 bJ;have bW:=ai an ay;clear an ay b8 bJ);have N:∀b,(Value.slice bs on bG).ownBlock=some b→w.heap.size≤b:=fun b O=>(P.2.2.1.lt O).1;have aS:Fr (fun b=>b=g) w cx:=P.2.1.eB (bW.2.below bO fun k aj h=>by have:=N k h;omega);have dv:=aQ (P.1.on bW.2 fun b O=>by have:=N b O;omega) aS bW.1;clear N aS bW P;go_roundw
   case rel=>exact⟨aT,on+1,b0,bE,f2,acc++[st],z,rfl,ab,dv.1,dv.2.1,by rw[JX];exact dv.2.2,bL.2.2.1,by have:=aX.2.2.2;rw[bL.2.2.2] at this;rw[←this];simp⟩
   case measure=>simp only[HD];omega
end Go.Proofs.YtbkhhfajcgkpgaaGreat

/- Part 47 of the proof. No condition of its own. -/
import Derived.Test.YtnigabjngpnbiaaGreatQ42
import Derived.Test.YtnigabjngpnbiaaGreatQ46
namespace Go.Proofs.YtnigabjngpnbiaaGreat
open Go.RowKit Go.Proofs.Tryz
set_option maxRecDepth 1000000
set_option maxHeartbeats 25600000
set_option linter.unusedVariables false
variable{T:List Tok}{ls:List aE}{deep k u:Nat}{p:Prop}
def Fa(T:List Tok)(deep k:Nat)(st:aE)(bE:Nat):Prop:=∀(g:Nat) (A:Kj) (n c:Nat) (w:World),aH w g A n c T k deep->
  Calls prog 104 #[.pointer (some ⟨g,0,none⟩)] w λe J=>∃cs:List Value,cs.length=11/\e=.returned (.agg cs.toArray)/\(cc st).rep J (fresh w J) cs/\aH J g A n c T bE deep/\Fr (λb=>b=g) w J
def rX(T:List Tok)(deep k:Nat)(ls:List aE)(u:Nat):Prop:=∀(g:Nat) (A:Kj) (n c:Nat) (w:World),aH w g A n c T k deep->
  Calls prog 55 #[.pointer (some ⟨g,0,none⟩)] w λe J=>∃(Q:Kj) (on P:Nat),e=.returned (.slice Q on P)/\on<=P/\Sl J (fresh w J) Q on (ls.map cc)/\aH J g A n c T u deep/\Fr (λb=>b=g) w J
inductive nL (T:List Tok) (deep:Nat):Nat->List aE->Nat->Prop
 | nil (k:Nat) (ac:aN [125] T k=true) (ap:k+1<T.length):nL T deep k [] (k+1)
 | cons (k bE u:Nat) (st:aE) (ls:List aE) (ac:aN [125] T k=false) (ap:Fa T deep k st bE) (aD:k<bE) (bt:nL T deep bE ls u):nL T deep k (st::ls) u
theorem nL.some_(h:nL T deep k ls u):(aN [125] T k=true/\k+1<T.length/\ls=[]/\u=k+1)\/(aN [125] T k=false/\∃(st:aE) (bE:Nat) (i:List aE),Fa T deep k st bE/\k<bE/\nL T deep bE i u/\ls=st::i):=by
 cases h with
 | nil _ ac ap=>exact .inl ⟨ac,ap,rfl,rfl⟩
 | cons _ bE _ st l ac ap aD bt=>exact .inr ⟨ac,st,bE,l,ap,aD,bt,rfl⟩
theorem nL.lt(h:nL T deep k ls u):k<u:=by
 induction h with
 | nil=>omega
 | cons _ _ _ _ _ _ _ aD _ ab=>omega
theorem Hv:∀{cs:List Value},cs.length=11->∃a b c d e f g h i j k,cs=[a,b,c,d,e,f,g,h,i,j,k]
 | [a,b,c,d,e,f,g,h,i,j,k],_=>⟨a,b,c,d,e,f,g,h,i,j,k,rfl⟩
namespace Bf
theorem yQ(h:p:=by
 go_roundw
 case rel=>exact⟨M,on+1,be,bE,acc++[st],i,rfl,ad,cF.1,cF.2.1,by rw[JP];exact cF.2.2,bK.2.2.1,by have:=a2.2.2.2;rw[bK.2.2.2] at this;rw[<-this];simp⟩
 case measure=>simp only[um];omega
 ):p:=h
theorem zC(h:p:=by
 refine(bK.2.1 g A n c bV cb.1).mono ?_;rintro e cE ⟨cs,aB,rfl,bY,S,hF⟩;obtain⟨bl,Z,U,F,aw,m,J,aF,R,V,f,rfl⟩:=Hv aB;clear aB;exact yP
 ):p:=h
theorem yJ(h:p:=by
 go_loopw [3] (λz wr=>∃(Q:Kj) (on P j:Nat) (acc rest:List aE),z=.slice Q on P/\on<=j/\aH wr g A n c T j (deep+1)/\Fr (λb=>b=g) w wr/\Gr (λb=>w.heap.size<=b) w.heap.size 185 11 wr Q on P (acc.map cc)/\nL T (deep+1) j rest u/\acc++rest=ls) (λz _=>4001 - um z)
 case atStart=>exact⟨none,0,0,k+1,[],ls,rfl,ad,aJ.1,aJ.2,Gr.nil _ _ _ _ _,br.2,rfl⟩
 case round=>
  obtain⟨Q,on,P,j,acc,rest,rfl,E,S,hF,hG,ch,bZ⟩:=hrel;clear aJ;have K:=S.lt;have a2:=b9 S hF hG bZ;obtain⟨a0,al,af⟩:=S.blk.two;have l4:=hF.size;clear S hF hG bZ;rcases ch.some_ with⟨hc,y,t,s⟩|⟨hc,st,bE,i,ct,b4,bz,cB⟩
  .have bK:=b9 hc y t s;exact Fm
  .have bK:=b9 hc ct bz cB;exact zB
 ):p:=h
end Bf
open Bf in
theorem kx(T:List Tok)(k deep:Nat)(ls:List aE)(u:Nat)(hd:deep<24)(ac:aN [123] T k=true)(hs:nL T (deep+1) (k+1) ls u):rX T deep k ls u:=by
 intro g A n c w h;have aj:k+1<n:=by
  have hl:=h.kH.1;rcases hs.some_ with⟨_,ap,_,_⟩|⟨_,st,bE,l,_,_,bt,_⟩
  .omega
  .have:∀{d a:Nat} {l:List aE} {b:Nat},nL T d a l b->a<T.length:=by
    intro d a l b h
    induction h with
    | nil _ _ ap=>omega
    | cons _ _ _ _ _ _ _ aD _ ab=>omega
   have:=this hs;omega
 exact yI
namespace Bg
theorem yZ(h:p:=by
 refine(show Calls prog 50 #[.pointer (some ⟨g,0,none⟩),.string ⟨#[103,111]⟩] v1 _ from aW [103,111] g A n c T k deep v1 ay.ps false (cI br.1 (by decide)) (λh=>by first|omega|cases h)).mono ?_;rintro e v2 ⟨rfl,S,hF⟩;have aw:=ae (ay.on bC (show aH v2 g A n c T (k) deep from by simpa using S) hF);clear S hF ay;go_wp2_with(fail);refine(show Calls prog 50 #[.pointer (some ⟨g,0,none⟩),.string ⟨#[108,111,99,107]⟩] v2 _ from aW [108,111,99,107] g A n c T k deep v2 aw.ps false (cI br.1 (by decide)) (λh=>by first|omega|cases h)).mono ?_;rintro e ax ⟨rfl,S,hF⟩;have aX:=ae (aw.on bC (show aH ax g A n c T (k) deep from by simpa using S) hF);clear S hF aw;go_wp2_with(fail);refine(show Calls prog 50 #[.pointer (some ⟨g,0,none⟩),.string ⟨#[117,110,108,111,99,107]⟩] ax _ from aW [117,110,108,111,99,107] g A n c T k deep ax aX.ps false (cI br.1 (by decide)) (λh=>by first|omega|cases h)).mono ?_;rintro e v4 ⟨rfl,S,hF⟩;have bg:=ae (aX.on bC (show aH v4 g A n c T (k) deep from by simpa using S) hF);clear S hF aX;go_wp2_with(fail);refine(show Calls prog 50 #[.pointer (some ⟨g,0,none⟩),.string ⟨#[105,102]⟩] v4 _ from aW [105,102] g A n c T k deep v4 bg.ps false (cI br.1 (by decide)) (λh=>by first|omega|cases h)).mono ?_;rintro e aU ⟨rfl,S,hF⟩;have bo:=ae (bg.on bC (show aH aU g A n c T (k) deep from by simpa using S) hF);clear S hF bg;go_wp2_with(fail)
 refine(show Calls prog 50 #[.pointer (some ⟨g,0,none⟩),.string ⟨#[119,104,105,108,101]⟩] aU _ from aW [119,104,105,108,101] g A n c T k deep aU bo.ps true (br.1) (λh=>by first|omega|cases h)).mono ?_;rintro e v6 ⟨rfl,S,hF⟩;have aB:=ae (bo.on bC (show aH v6 g A n c T (k+1) deep from by simpa using S) hF);clear S hF bo;go_wp2_with(fail);refine(kv 5 ad 0 ad g A n c T (k+1) deep v6 x cB aB.ps br.2.1 ad).mono ?_;rintro e bD ⟨op,r,os,o,on,P,rfl,aZ,S,hF⟩;have cK:=aB.s.lt;have dO:=hF.size;have bF:=ae (aB.on bC S hF);have a2:=ae aZ;clear S hF aZ aB;obtain⟨d0,aQ,aR⟩:=bF.s.two;simp only[ni] at d0;go_upto_region 26 with(fail);generalize cm:World.setCell _ _ _=Y;obtain⟨cA,z⟩:=ej 0 [.int .i64 8] bF.s rfl;obtain⟨bA,d⟩:=ej 2 [.int .i64 op,.int .i64 r,.string os,.slice o on P] cA cm;have bu:=z.trans d;have bY:=bu.size;have b1:Kl (rT w Y g A n c T cB deep [.int .i64 8,.string ⟨#[]⟩,.int .i64 op,.int .i64 r,.string os,.slice o on P,.string ⟨#[]⟩,.slice none 0 0,.slice none 0 0,.slice none 0 0,.slice none 0 0]):=ae (bF.set bC bu bA);have N:=ae (D.aD (λb O=>bu.block b O.2 (aC O.1)) _ _ a2.o);clear cm bA bu cA z d d0 aQ aR bF a2;go_wp2_with(fail);refine(br.2.2 g A n c Y b1.ps).mono ?_;rintro e bf ⟨QA,m,l,rfl,j,bP,S,hF⟩;have c1:=hF.size;have bZ:=ae (b1.on bC S hF);have s:=ae (D.aD (λb O=>hF.block b (aC O.2) (aC O.1)) _ _ N.o);have bW:=ak j bP;have eF:=b1.s.lt;clear S hF b1 N bP j;obtain⟨d0,aQ,aR⟩:=bZ.s.two;obtain⟨bh,an,aM⟩:=bZ.r.two;go_wp2_with(fail)
 generalize hX:World.setCell _ _ _=V;obtain⟨a6,y⟩:=ej 9 [.slice QA m l] bZ.s rfl;have bL:=y.size;have aq:=ae (bZ.set bC y (show au _ _ _ ([.int .i64 8,.string ⟨#[]⟩,.int .i64 op,.int .i64 r,.string os,.slice o on P,.string ⟨#[]⟩,.slice none 0 0,.slice none 0 0,.slice QA m l,.slice none 0 0]:List Value).toArray from a6));have f:=ae (D.aD (λb O=>y.block b (aC O.2) (aC O.1)) _ _ s.o);have Q:=ae (bW.2.al λb O=>y.block b O.2 (aC O.1));obtain⟨b8,a9,i⟩:=hO (M:=λb=>b=g) (w:=w) [.int .i64 8,.string ⟨#[]⟩,.int .i64 op,.int .i64 r,.string os,.slice o on P,.string ⟨#[]⟩,.slice none 0 0,.slice none 0 0,.slice QA m l,.slice none 0 0] (by rfl) aq.r aq.fr (JI _) hX;have G:=i.size;have bR:=ae (And.intro (aq.ps.on i λb O=>ad) (And.intro a9 (And.intro (D.aA (c5:=fresh w V) (λb O=>⟨by have:=O.1;omega,by have:=O.2;omega⟩) _ _ (D.aD (λb O=>i.block b (aC O.2) (aC O.1)) _ _ f.o))
  ((Q.al λb O=>i.block b (aC O.2) (aC O.1)).mono (c5:=fresh w V) λb O=>⟨by have:=O.1;omega,by have:=O.2;omega⟩))))
 clear hX a9 i a6 y bh an aM d0 aQ aR;obtain⟨bh,an,aM⟩:=b8.two;refine Ke (v:=.agg ([.int .i64 8,.string ⟨#[]⟩,.int .i64 op,.int .i64 r,.string os,.slice o on P,.string ⟨#[]⟩,.slice none 0 0,.slice none 0 0,.slice QA m l,.slice none 0 0]:List Value).toArray) (by simp[results,Tryz.results104,go_sem,bh]) rfl ?_;exact⟨[.int .i64 8,.string ⟨#[]⟩,.int .i64 op,.int .i64 r,.string os,.slice o on P,.string ⟨#[]⟩,.slice none 0 0,.slice none 0 0,.slice QA m l,.slice none 0 0],rfl,rfl,j6 bR.2.2.1 rG (Sl.c7 _) (JI _) (by rw[dN];exact bR.2.2.2) bW.1 (Sl.c7 _) (JI _),bR.1,bR.2.1⟩
 ):p:=h
end Bg
open Bg in
theorem qt(T:List Tok)(k deep:Nat)(x:VE)(cB:Nat)(ls:List aE)(aI:Nat)(ac:aN [119,104,105,108,101] T k=true)(O:jO T 5 (k+1)=some (x,cB))(aD:rX T deep cB ls aI)(aj:cB<T.length):Fa T deep k (.fL x (cL ls)) aI:=by
 intro g A n c w h;have aj:cB<n:=by have:=h.kH.1;omega
 have H:=ae h;have cH:=g3 _ _ _ _ O;have br:=av ac O aD;have bC:=h.blk.lt;clear h ac O aD;exact yY
theorem Fa.assign(t:Tok)(x:VE)(cB:Nat)(ht:T[k]?=some t)(bx:t.kind=1)(ac:aN [40] T (k+1)=false)(ap:aN [61] T (k+1)=true)(O:jO T 5 (k+2)=some (x,cB))(aD:aN [59] T cB=true)(aj:cB+1<T.length):Fa T deep k (.set false (strOf t.text) x) (cB+1):=by
 intro g A n c w h;exact uM g A n c T k deep w t x cB h ht bx ac ap O aD (aC h.kH.1)
def D0(T:List Tok)(k:Nat)(r:List (ByteArray×Bool))(bE:Nat):Prop:=∀(g:Nat) (A:Kj) (n c deep:Nat) (w:World),aH w g A n c T k deep->
  Calls prog 54 #[.pointer (some ⟨g,0,none⟩)] w λe J=>∃D m l,e=.returned (.slice D m l)/\m<=l/\aH J g A n c T bE deep/\Fr (λb=>b=g) w J/\Sl J (fresh w J) D m (r.map dU)
inductive wP (T:List Tok):Nat->List (ByteArray×Int)->List a1->Prop
 | nil (k:Nat) (h:jS 5 T k=true):wP T k [] []
 | hP (k:Nat) (t:Tok) (gs:List (ByteArray×Int)) (fs:List a1) (cl:jS 5 T k=false) (ht:T[k+1]?=some t) (bx:t.kind=1) (ac:aN [118,97,114] T k=true) (ap:aN [61] T (k+2)=false) (aD:aN [59] T (k+2)=true) (aj:k+3<T.length) (h:wP T (k+3) gs fs):wP T k ((strOf t.text,0)::gs) fs
 | Ig (k:Nat) (t:Tok) (r:List (ByteArray×Bool)) (ls:List aE) (cp bE:Nat) (gs:List (ByteArray×Int)) (fs:List a1) (cl:jS 5 T k=false) (ht:T[k+1]?=some t) (bx:t.kind=1) (ac:aN [102,117,110,99] T k=true) (hp:D0 T (k+2) r cp) (bI:k+3<=cp) (aj:k+2<T.length) (O:rX T 0 cp ls bE) (b4:cp<bE) (h:wP T bE gs fs):wP T k gs (⟨strOf t.text,r,cL ls⟩::fs)
theorem wP.some_{ms:List (ByteArray×Int)}{fs:List a1}(h:wP T k ms fs):(jS 5 T k=true/\ms=[]/\fs=[])\/(jS 5 T k=false/\∃(t:Tok),T[k+1]?=some t/\t.kind=1/\
  ((∃b5,aN [118,97,114] T k=true/\aN [61] T (k+2)=false/\aN [59] T (k+2)=true/\k+3<T.length/\wP T (k+3) b5 fs/\ms=(strOf t.text,0)::b5)\/(∃r ls cp bE bB,aN [102,117,110,99] T k=true/\D0 T (k+2) r cp/\k+3<=cp/\k+2<T.length/\rX T 0 cp ls bE/\cp<bE/\wP T bE ms bB/\fs=⟨strOf t.text,r,cL ls⟩::bB))):=by
 cases h with
 | nil _ h=>exact .inl ⟨h,rfl,rfl⟩
 | hP _ t gs _ cl ht bx ac ap aD aj h=>exact .inr ⟨cl,t,ht,bx,.inl ⟨gs,ac,ap,aD,aj,h,rfl⟩⟩
 | Ig _ t r ls cp bE _ fs cl ht bx ac hp bI aj O b4 h=>exact .inr ⟨cl,t,ht,bx,.inr ⟨r,ls,cp,bE,fs,ac,hp,bI,aj,O,b4,h,rfl⟩⟩
namespace Bh
theorem zy(h:p:=by
 refine⟨bE,MA,mn,mc,bU,fn+1,c3,am,b5,bs++[⟨strOf t.text,r,cL ls⟩],b6,bH.o,y,aJ.1,by rw[JP];exact aJ.2.2,aI.2.2.2.2.2.1,a2.2.2.2.2.1,?_,a2.2.2.2.2.2.2.1,?_⟩
 .rw[<-a2.2.2.2.2.2.1,aI.2.2.2.2.2.2];simp
 .rw[a2.2.2.2.2.2.2.2.1];simp
 ):p:=h
theorem z6(h:p:=by
 go_wp2_with(at_builtin;refine cn Cs rfl (.tmp 121) (.tmp 123) rfl ao.1.two (d:=fA ⟨strOf t.text,r,cL ls⟩) (cs:=#[.string (strOf t.text),.slice bW m l,.slice Q on P]) ao.2 rfl rfl rfl ad ad ad ?_;intro bU c3 bD bX g2 cv cR;have bc:∀b,(Value.slice FA fn fc).ownBlock=some b->V.heap.size<=b:=λb O=>(ao.1.two.lt O).1;have bN:=av ((ao.1.swap.grow bX g2 cv).swap) g2 (bv.on g2 λO=>by have:=bc _ O;omega);have ca:=ae (aB.1.on g2 λb O=>by have:=bc b O;omega);have bi:=ae bc;clear bl U aE cD aQ aR;obtain⟨bl,U,aE⟩:=bN.2.2.two;clear bX g2 cv cR bc);generalize hX:World.setCell _ _ _=X;have bG:=bN.1;have bM:=da hX;have a6:au X (g+1) 44 #[.slice MA mn mc,.slice none 0 0,.slice bU (fn+1) c3]:=hX▸bN.2.2.bH 2 _;exact Al
 ):p:=h
theorem yL(h:p:=by
 have b0:Sl ce (λb=>bf.heap.size<b/\b<cf.heap.size) bW m ((r).map dU):=u.2.2.2.2.2.2.al λb O=>L.block b O.2 (aC O.1);have cx:(fA ⟨strOf t.text,r,cL ls⟩).rep ce (mS (λb=>V.heap.size<=b/\(Value.slice MA mn mc).ownBlock≠some b) ce (.slice FA fn fc)) [.string (strOf t.text),.slice bW m l,.slice Q on P]:=
  iK.2 ⟨bW,m,l,Q,on,P,rfl,u.2.2.2.2.2.1,u.2.2.2.1,b0.mono λb O=>⟨⟨by have:=O.1;omega,λh=>by have:=ah b h;have:=O.1;omega⟩,by have:=O.2;omega,λh=>by have:=bw b h;have:=O.1;omega⟩,by rw[dN];exact cj.mono λb O=>⟨⟨by have:=O.1;omega,λh=>by have:=ah b h;have:=O.1;omega⟩,by have:=O.2;omega,λh=>by have:=bw b h;have:=O.1;omega⟩⟩
 exact z5
 ):p:=h
theorem yS(h:p:=by
 refine(aI.2.2.2.2.1 g A n c Y be.1).mono ?_;exact yK
 ):p:=h
theorem zb(h:p:=by
 refine(aI.2.2.1 g A n c 0 Z aq.1).mono ?_;exact yR
 ):p:=h
theorem yD(h:p:=by
 exact za
 ):p:=h
theorem zU(h:p:=by
 clear S hF aK hG bC bL aD a3 bQ aa cl cQ cz bA cw cZ cM bI b8 ht bx bd bS b3;exact Ap
 ):p:=h
theorem zn(h:p:=by
 refine⟨⟨k+3,bU,mn+1,c3,FA,fn,fc,am++[(strOf t.text,0)],b7,bs,bB,bH.o,y,aJ.1,by rw[JP];exact aJ.2.2,aI.2.2.2.2.1,?_,a2.2.2.2.2.2.1,?_,a2.2.2.2.2.2.2.2.1⟩,rfl⟩
 .rw[<-a2.2.2.2.2.1,aI.2.2.2.2.2];simp
 .rw[a2.2.2.2.2.2.2.1];simp
 ):p:=h
theorem y7(h:p:=by
 have a6:au X (g+1) 44 #[.slice bU (mn+1) c3,.slice none 0 0,.slice FA fn fc]:=hX▸bN.2.2.bH 0 _;exact Am
 ):p:=h
theorem zt(h:p:=by
 refine pt Gq (.tmp 82) (.tmp 85) (by rfl) ao.one (d:=od (strOf t.text,0)) (cs:=#[.string (strOf t.text),.int .i64 0]) (ET.2 rfl) (by rfl) (by rfl) (by rfl) ad ad ad ?_;exact y6
 ):p:=h
theorem yW(h:p:=by
 rw[bp.2.1];have aw:=ak (ay.1.aj ar) (ay.2.trans (ar.mono (M':=λb=>b=g) λ_ h=>h.elim));clear ar;go_wp2_with(fail);refine(show Calls prog 48 #[.pointer (some ⟨g,0,none⟩),.string ⟨#[114,109,117,116,101,120]⟩] v2 _ from iX [114,109,117,116,101,120] g A n c T (k) 0 v2 aw.1).mono ?_;rintro e ax ⟨rfl,ar⟩;rw[bp.2.2.1];have aX:=ak (aw.1.aj ar) (aw.2.trans (ar.mono (M':=λb=>b=g) λ_ h=>h.elim));clear ar;go_wp2_with(fail);refine(show Calls prog 48 #[.pointer (some ⟨g,0,none⟩),.string ⟨#[102,117,110,99]⟩] ax _ from iX [102,117,110,99] g A n c T (k) 0 ax aX.1).mono ?_;rintro e v4 ⟨rfl,ar⟩;rw[bp.2.2.2];have bg:=ak (aX.1.aj ar) (aX.2.trans (ar.mono (M':=λb=>b=g) λ_ h=>h.elim));clear ar;obtain⟨bl,U,aE⟩:=(a2.2.2.1.on bg.2 ad).two;go_wp2_with(fail);refine(show Calls prog 50 #[.pointer (some ⟨g,0,none⟩),.string ⟨#[118,97,114]⟩] v4 _ from aW [118,97,114] g A n c T (k) 0 v4 bg.1 true bp.1 (λ_=>ad)).mono ?_;rintro e aU ⟨rfl,S,hF⟩;have bo:=ak (show aH aU g A n c T (k+1) 0 from by simpa using S) (bg.2.trans hF);clear S hF;clear bl U aE;obtain⟨bl,U,aE⟩:=(a2.2.2.1.on bo.2 ad).two;go_upto_region 11 with(fail);refine fj (λb=>b=g) [(0,3),(1,0),(2,3),(3,1),(4,1),(5,2),(6,3),(7,2)] ?_;refine pf ?_;refine pK ?_;refine pf ?_;refine aP rfl (λK hK=>?_);go_simp;refine(xq g A n c T (k+1) 0 aU.drew t (bo.1.aj (Fr.refl _ aU).drew) aI.1 aI.2.1 aI.2.2.1 aI.2.2.2.1 eE).mono ?_;exact zs
 ):p:=h
theorem yM(h:p:=by
 rw[bp.1];exact yV
 ):p:=h
theorem zG(h:p:=by
 exact⟨MA,mn,mc,FA,fn,fc,z,rfl,⟨bb.one.sl (λb ac ap=>⟨by have:=ap.1;omega,ac⟩) (λb ac ap=>⟨ad,ac⟩),Sl.c7 _,bb.two.sl (λb ac ap=>⟨by have:=ap.1;omega,ac⟩) (λb ac ap=>⟨ad,ac⟩)⟩,bb.one.cap.1,bb.two.cap.1,bn.1⟩
 ):p:=h
theorem y1(h:p:=by
 obtain⟨bq,a5,a4⟩:=bk (w:=w) [.slice MA mn mc,.slice none 0 0,.slice FA fn fc] (by rfl) N.1 N.2 ad hX;have bn:=ak a5 a4;clear hX a5 a4 bh an aM a0 al af bl U aE;obtain⟨bh,an,aM⟩:=bq.two;refine Ke (v:=.tuple #[.agg #[.slice MA mn mc,.slice none 0 0,.slice FA fn fc],.int .i64 z,.int .i64 0]) (by simp[results,Tryz.results17,go_sem,bh]) rfl ?_;exact zF
 ):p:=h
theorem Ag(h:p:=by
 rcases aD.some_ with⟨cl,cB,cm⟩|⟨cl,t,ht,bx,cE⟩
 .have br:=av cl cB cm;exact y0
 .rcases cE with⟨b7,cQ,cz,bu,bA,cJ,cw⟩|⟨r,ls,cp,bE,b6,cQ,cz,bI,bA,cw,b8,cZ,cM⟩
  ·
   have cu:T.length<=n:=Nat.le_of_eq H1.2.2.symm;have bd:b5.length=b7.length+1:=by rw[cw];rfl
   have cb:mn<=15:=ad;have cV:((mn:Int) == 16)=false:=by simp;omega
   have eE:k+3<n:=ad;have cY:=ae cl;have bp:=b9 cQ (show aN [109,117,116,101,120] T k=false from cI cQ (by decide)) (show aN [114,109,117,116,101,120] T k=false from cI cQ (by decide)) (show aN [102,117,110,99] T k=false from cI cQ (by decide));exact Au
  ·
   have cu:T.length<=n:=Nat.le_of_eq H1.2.2.symm;have bd:bB.length=b6.length+1:=by rw[cM];rfl
   have cy:fn<=15:=ad;have cU:((fn:Int) == 16)=false:=by simp;omega
   have he:k+3<=cp:=bI;have cA:k+2<n:=ad;have b4:cp<bE:=b8;exact zT
 ):p:=h
theorem yH(h:p:=by
 go_loopw [78] (λ_ wr=>∃(k:Nat) (MA:Kj) (mn mc:Nat) (FA:Kj) (fn fc:Nat) (am b5:List (ByteArray×Int)) (bs bB:List a1),aH wr g A n c T k 0/\Fr (λb=>b=g\/b=g+1) V wr/\au wr (g+1) 44 #[.slice MA mn mc,.slice none 0 0,.slice FA fn fc]/\lu V.heap.size 114 2 123 3 wr MA mn mc (am.map od) FA fn fc (bs.map fA)/\wP T k b5 bB/\am++b5=ms/\bs++bB=fs/\mn=am.length/\fn=bs.length) (λ_ wr=>4001 - wx g wr)
 case atStart=>exact⟨0,none,0,0,none,0,0,[],ms,[],fs,bR.1,Kf,bR.2.1,lu.nil _ _ _ _ _ _,H.2.1,rfl,rfl,rfl,rfl⟩
 case round=>
  obtain⟨k,MA,mn,mc,FA,fn,fc,am,b5,bs,bB,S,hF,aK,hG,aD,bC,bL,a3,bQ⟩:=hrel;have aT:=S.lt;have bS:am.length+b5.length<=16:=by have:=H.2.2.1;rw[<-bC,JK] at this;exact this
  exact Af
 ):p:=h
end Bh
open Bh in
theorem uI(s:ByteArray)(b o cap:Nat)(w:World)(ms:List (ByteArray×Int))(fs:List a1)(h:eG w b o cap s)(hs:s.size<=4000)(hn:(cd s.data.toList).1.length<=4001)(ai:0<(cd s.data.toList).1.length)(he:(cd s.data.toList).2.2=0)(hp:wP (cd s.data.toList).1 0 ms fs)(bS:ms.length<=16)(b3:fs.length<=16) :
  Calls prog 17 #[.slice (some ⟨b,o,none⟩) s.size cap] w λe J=>∃(MA:Kj) (mn mc:Nat) (FA:Kj) (fn fc:Nat) (z:Int),e=.returned (.tuple #[.agg #[.slice MA mn mc,.slice none 0 0,.slice FA fn fc],.int .i64 z,.int .i64 0])/\fU J (fresh w J) ⟨ms,[],fs⟩ MA mn none 0 FA fn/\mn<=mc/\fn<=fc/\Ext w J:=by
 exact yG
end Go.Proofs.YtnigabjngpnbiaaGreat

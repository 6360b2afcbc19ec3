/- Part 36 of the proof. No condition of its own. -/
import Derived.Test.YtnhhdaggkiomoaaGreatQ35
namespace Go.Proofs.YtnhhdaggkiomoaaGreat
open Go.RowKit Go.Proofs.Tryz
set_option maxRecDepth 1000000
set_option maxHeartbeats 25600000
set_option linter.unusedVariables false
variable{i:Nat}{P:Nat→Prop}
theorem nD{w:World}{P:Nat→Prop}:∀l:List ByteArray,D.aQ w P (l.map D.s) (l.map Value.string)
 | []=>by simp only[Le,D.aQ]
 | x::l=>by simp only[KM];exact cp.2 ⟨_,rfl,nD l⟩
theorem xX{w:World}{P:Nat→Prop}:∀(l:Lt) (xs:List Value),D.aQ w P (l.map D.s) xs→xs=l.map Value.string
 | [],xs,h=>by simpa only[Le,D.aQ] using h
 | x::l,xs,h=>by
  simp only[KM] at h;obtain⟨y,rfl,av⟩:=cp.1 h;rw[KM,xX l y av]
theorem uL{w:World}{A:Ls}{n:Nat}{l:Lt}(h:Sl w P A n (l.map D.s)):Src w 1 A n (l.map Value.string):=by
 obtain⟨xs,a5,hs⟩:=h.src (z:=1) (fun d hd=>by obtain⟨x,_,rfl⟩:=Lf.1 hd;rfl)
 rwa [xX l xs a5] at hs
theorem uS(p:kj)(aH:Nat)(ax:∀R,R<aH→HS p R):HS p aH:=by
 intro d f V T N bc aa aZ ps QA cq qc bx w hd q hw hN cg Z cA bK;obtain⟨s,wb,sA,bL,bD,sl,GA,gn,gc,MA,mn,mc,FA,fn,fc,M,F,ar⟩:=p;have bf:=hw.ne;have dC:=hw.src.lt;have cu:=hw.blk.lt;have b5:V.length=bc:=by have:=hN.1;simpa using this
 simp only at bf dC cu;have H:=cI hw hN cA Z ax;clear hw hN cA Z ax;go_enter func77,ntmps77;go_upto_region 2 with(fail);generalize ba:World.alloc _ _=W;have aw:=aU ba;have dI:=aG ba;have cY:W.heap.size=w.heap.size+1:=by rw[←ba];simp
 have bk:Gr (fun _=>False) (w.heap.size+1) 9 1 (W.alloc (.cells #[] 9)) (some ⟨W.heap.size,0,none⟩) 0 0 []:=(Gr.lit (w:=W) (n:=0) (l:=[]) rfl (by rfl) ad (by simp only[D.aQ])).base ad;rw[cY] at bk;have ay:Src (W.alloc (.cells #[] 9)) 1 N bc (V.map Value.string):=uL (Sl.c4 H.2.1 ((aw.mono fun _ h=>h.elim).alloc _));have g:N=none→bc=0:=fun h=>by subst h;exact Sl.none_ H.2.1
 have b0:w.heap.size+1≤(W.alloc (.cells #[] 9)).heap.size:=by simp;omega
 have ah:=ag aw dI;clear ba aw dI;go_upto_region 3 with(at_builtin;refine qI kr rfl (.tmp 17) (.tmp 18) rfl bk (nD V) (by simpa using b5) ay g rfl rfl ad ad b0 ?_;intro cC c3 b6 ds ao bw U;have bd:=ag ds ao;clear ds ao bw U);have a7:Ext W b6:=(Lo.alloc _:Ext W (W.alloc (.cells #[] 9))).eN (bd.2.below (by simp) fun k ap h=>by
  simp[Value.ownBlock] at h;omega)
 have dG:=H.1.ai (ah.1.trans a7);obtain⟨a0,ai,af⟩:=dG.blk.two;have bT:=aB dG a7 bd.1;clear dG a7 bd bk ay g;go_wp2_with(fail);refine(a2 b6 s sA bL bD sl ((f:Int)+1) bT.1.src ad ad).mono ?_;rintro e cN ⟨cv,rfl,bo,cf,h,he⟩;have aj:Fr (fun b=>b=s) w cN:=((ah.1.trans bT.2.1).mono fun _ h=>h.elim).trans he.fr;have j:=bT.1.next h he.fr;have m:=bT.2.2.c4 he.fr fun b O _=>⟨fun h=>h,ad⟩
 simp only[KY,Lh] at m;have i:=(ah.2.ai bT.2.1).on he.fr ad;have aP:aH≤24:=H.1.kB;have cp:=ae (show IZ ⟨s,wb,sA,bL,bD,sl,GA,gn,gc,MA,mn,mc,FA,fn,fc,M,F,ar⟩ w.heap.size (w.heap.size+1) (.agg #[.string aZ,.slice QA cq qc,bx]) (.int .i64 (f:Int)) d ps V T w aH aZ QA cq qc bx cC bc c3 none 0 0 cv cN from
  ⟨V,[],aH,ad,⟨j.src,j.blk,aj.mono fun _ h=>.inl h,aP⟩,i,⟨Gr.strs m,Gr.nil _ _ _ _ _,fun b _ h=>by cases h⟩,Made.nil _ _ _ _ _,fun x hx=>KP.2 (.inl hx),cg⟩)
 clear h he aj j m i a0 ai af bT;skip
 go_wp2_with(fail);refine HM ⟨s,wb,sA,bL,bD,sl,GA,gn,gc,MA,mn,mc,FA,fn,fc,M,F,ar⟩ w.heap.size (w.heap.size+1) (.agg #[.string aZ,.slice QA cq qc,bx]) (.int .i64 (f:Int)) d ps V T w aH aZ QA cq qc bx H.1 H.2.2.1 (KG _) ad (KG _) bK hd H.2.2.2.1 H.2.2.2.2 _ ?hQ ?hX cC bc c3 none 0 0 cv cN cp.o
 case hQ=>exact fun _ _ d _ _ h=>by cases d<;>exact h
 case hX=>
  intro r wf hI;unfold qS at hI;obtain⟨z,aQ,am,aC,HT,aE,hI⟩:=hI
  iterate 242 obtain⟨_,hI⟩:=hI
  obtain⟨⟨aI,ls,L,_,hC,aA,hG,hM,hV,o⟩,rfl⟩:=hI;have bV:=aB hC hG hM;clear hC aA hG hM hV o cp;go_wp2;go_ret;obtain⟨hC,hG,hM⟩:=bV.o;exact⟨ls,L,aC,HT,aE,rfl,hM,hG.two.cap.1,hG.two.sl (fun b O hp=>⟨by have:=hp.1;omega,O⟩) (fun b O hp=>⟨ad,O⟩),hC.wr H.1,hC.fr⟩
theorem w2(p:kj):∀L,HS p L:=fun L=>by
 induction L using Nat.strongRecOn with
 | _ L ao=>exact uS p L ao
def jS(n:Nat):Code→Option Code
 | .seq a b=>match a with
  | .region k _ _=>if k=n then some (.seq a b) else jS n b
  | .seq x y=>match jS n (.seq x y) with
   | some c=>some c
   | none=>jS n b
  | _=>jS n b
 | _=>none
noncomputable def wv(n:Nat):Code:=match (Tryz.f31.body.bind (jS n)).getD .skip with
 | .seq a _=>a
 | c=>c
noncomputable def nw(n:Nat):Code:=match (Tryz.f31.body.bind (jS n)).getD .skip with
 | .seq _ b=>b
 | _=>.skip
noncomputable def GM(n:Nat):Code:=(Tryz.f31.body.bind (jS n)).getD .skip
def kb(w:World)(e:Ending)(ab:World):Prop:=∃(p:bM) (GA:Ls) (gn gc:Nat) (MA:Ls) (mn mc:Nat) (FA:Ls) (fn fc:Nat),e=.returned (.agg #[.slice GA gn gc,.slice MA mn mc,.slice FA fn fc])∧ox p∧gn≤gc∧mn≤mc∧fn≤fc∧
 Sl ab (fresh w ab) GA gn (p.globals.map iA)∧Sl ab (fresh w ab) MA mn (p.af.map ey)∧Sl ab (fresh w ab) FA fn (p.funcs.map dr)∧Ext w ab
def m3(M:List bI):Prop:=∀i m,M[i]?=some m→m.name=iF i∧0≤m.size∧m.size≤3∧(m.re=true→m.size=0)
structure oB(S w:World)(A:Ls)(n c:Nat)(l:List Int)(ar:Bool)(MA:Ls)(mn mc:Nat)(M:List bI):Prop where
 src:cm w (S.heap.size+1) A n c l
 blk:aq w (S.heap.size+1+1) 134 #[.pointer (some ⟨S.heap.size+1,0,none⟩),.slice none 0 0,.slice MA mn mc,.slice none 0 0,.int .i64 24,.bool ar]
 res:aq w S.heap.size 27 #[.slice none 0 0,.slice none 0 0,.slice none 0 0]
 ms:Gr (fun _=>False) (S.heap.size+1+1+1) 128 3 w MA mn mc (M.map ey)
 nm:mn≤4
 ok:m3 M
 ext:Ext S w
section
variable {S w ab:World} {A:Ls} {n c:Nat} {l:List Int} {ar:Bool} {MA:Ls} {mn mc:Nat} {M:List bI}
theorem oB.next(h:oB S w A n c l ar MA mn mc M)(hs:cm ab (S.heap.size+1) A n c l)(O:Fr (fun b=>b=S.heap.size+1) w ab):oB S ab A n c l ar MA mn mc M:=
 ⟨hs,h.blk.on O ad,h.res.on O ad,h.ms.c4 O (fun b O _=>⟨fun h=>h,ad⟩),h.nm,h.ok,Fr.low (M:=fun b=>b=S.heap.size+1) ((h.ext.mono fun _ h=>h.elim).trans O) fun k ap=>ad⟩
theorem oB.ai(h:oB S w A n c l ar MA mn mc M)(O:Ext w ab):oB S ab A n c l ar MA mn mc M:=h.next (h.src.cQ O fun _ _ h=>h) (O.mono fun _ h=>h.elim)
theorem oB.fresh(h:oB S w A n c l ar MA mn mc M){g:Nat}(a2:S.heap.size+1+1<g)(bn:(Value.slice MA mn mc).ownBlock≠some g)(O:Fr (fun b=>b=g) w ab):oB S ab A n c l ar MA mn mc M:=
 ⟨h.src.cQ O (fun b O h=>ad),h.blk.on O ad,h.res.on O ad,h.ms.dj O.size (fun b ak hp=>O.block b ak (hp.elim (fun h=>h.elim) fun hp j=>by subst j;exact bn hp)),h.nm,h.ok,Fr.low (M:=fun b=>b=g) ((h.ext.mono fun _ h=>h.elim).trans O) fun k ap=>ad⟩
theorem oB.add(h:oB S w A n c l ar MA mn mc M){ev:Ls}{eC:Nat}{m:bI}(a2:Gr (fun _=>False) (S.heap.size+1+1+1) 128 3 ab ev (mn+1) eC (M.map ey++[ey m]))(J:Fr (fun b=>(Value.slice MA mn mc).ownBlock=some b) w ab)
  (hn:mn+1≤4) (bZ:m3 (M++[m])):oB S (ab.setCell ⟨S.heap.size+1+1,2,none⟩ (.slice ev (mn+1) eC)) A n c l ar ev (mn+1) eC (M++[m]):=by
 have bn:∀b,(Value.slice MA mn mc).ownBlock=some b→S.heap.size+1+1+1≤b:=fun b O=>(h.ms.lt O).1;have az:Fr (fun b=>b=S.heap.size+1+1) ab (ab.setCell ⟨S.heap.size+1+1,2,none⟩ (.slice ev (mn+1) eC)):=(Fr.refl (fun b=>b=S.heap.size+1+1) ab).setCell (.inl rfl) _;refine⟨(h.src.cQ J fun b O ah=>by have:=bn b ah;omega).cQ az (fun b O ah=>ad),(h.blk.on J fun ah=>by have:=bn _ ah;omega).aM 2 _,(h.res.on J fun ah=>by have:=bn _ ah;omega).on az ad,?_,hn,bZ,
  Fr.low (M:=fun b=>b=S.heap.size+1+1) ((Fr.low (M:=fun b=>(Value.slice MA mn mc).ownBlock=some b) ((h.ext.mono fun _ h=>h.elim).trans J) fun k ap=>by have:=bn k ap;omega).mono (fun _ h=>h.elim) |>.trans az) fun k ap=>ad⟩
 rw[KN,KM,Le];exact a2.c4 az (fun b O _=>⟨fun h=>h,ad⟩)
end
theorem m3.snoc{M:List bI}(h:m3 M)(an:M.length=i){re:Bool}{sz:Int}(h0:0≤sz)(aV:sz≤3)(L:re=true→sz=0):m3 (M++[⟨iF i,re,sz⟩]):=by
 intro k m hm;by_cases ap:k<M.length
 ·rw[List.getElem?_append_left ap] at hm;exact h k m hm
 ·rw[List.getElem?_append_right ad] at hm;have bX:k - M.length=0:=by
   exact vf
  rw[bX] at hm;simp at hm;subst hm;have:k=i:=ad;subst this;exact⟨rfl,h0,aV,L⟩
def ER(S:World)(gQ:Value)(Q:Exit→Act→World→Prop)(K:Act→World→Prop):Prop:=∀(A:Ls) (n c:Nat) (l:List Int) (ar:Bool) (MA:Ls) (mn mc:Nat) (M:List bI) {hs hu gK gO z u8 gL eO go gp cc bR bS u16 gq gr eR eS eT eU eV eW eY eZ e3 e6 e7 e8 e9 u32 fa fb fd fe ff fh fi fk fl fm fo fp fq fr fs ft fv fw fx fy fz fA fB fC fD fE fF fG fH fI fJ u64 fK fL fM fN fO fP fQ fR fS fT fU fV fW fX fY fZ f3 f4 f5 f6 f7 f8 f9 ga gb gd ge gf gg gh gi gj gk gl gm H I am aF aL aM aN aU a1 a8 bb be bj bo br bt bA bF bG bL bM bW bZ b1 b2 b8 ca cb ce cj cn co cw cy cz cA cD cE cF cG cH cJ cM cO cP cQ cS cT cU cV cW cX cY cZ c4 c5 c6 c7 c8 c9 da db dc dd de df dg dh di dj dk dl dm dn dp dr dt du dv dw dx dy dA dB dD dE dF dG dH dJ dK dM dQ dR dS dT dV dW dX dY dZ d0 d1 d2 d3 d4 d5 d6 d7 d8 d9 ea eb ec ed ee ef eg eh ei ej ek el em en eo ep eq er es et eu ev ew ex ey ez eA eB eC eD eE eF eG eH eI eJ eL eM gu gv gw gx gy gz gA gB gC gD gE gG gH gI gJ:Value} (w:World),1≤mn→oB S w A n c l ar MA mn mc M→
 Code.wp prog (wv 13) (Exit.then K Q) ⟨#[gQ,hs,.pointer (some ⟨S.heap.size,0,none⟩),.pointer (some ⟨S.heap.size+1+1,0,none⟩),hu,gK,gO,z,u8,gL,eO,go,gp,cc,bR,bS,u16,gq,gr,eR,eS,eT,eU,eV,eW,eY,eZ,e3,e6,e7,e8,e9,u32,fa,fb,fd,fe,ff,fh,fi,fk,fl,fm,fo,fp,fq,fr,fs,ft,fv,fw,fx,fy,fz,fA,fB,fC,fD,fE,fF,fG,fH,fI,fJ,u64,fK,fL,fM,fN,fO,fP,fQ,fR,fS,fT,fU,fV,fW,fX,fY,fZ,f3,f4,f5,f6,f7,f8,f9,ga,gb,gd,ge,gf,gg,gh,gi,gj,gk,gl,gm,H,I,am,aF,aL,aM,aN,aU,a1,a8,bb,be,bj,bo,br,bt,bA,bF,bG,bL,bM,bW,bZ,b1,b2,b8,ca,cb,ce,cj,cn,co,cw,cy,cz,cA,cD,cE,cF,cG,cH,cJ,cM,cO,cP,cQ,cS,cT,cU,cV,cW,cX,cY,cZ,c4,c5,c6,c7,c8,c9,da,db,dc,dd,de,df,dg,dh,di,dj,dk,dl,dm,dn,dp,dr,dt,du,dv,dw,dx,dy,dA,dB,dD,dE,dF,dG,dH,dJ,dK,dM,dQ,dR,dS,dT,dV,dW,dX,dY,dZ,d0,d1,d2,d3,d4,d5,d6,d7,d8,d9,ea,eb,ec,ed,ee,ef,eg,eh,ei,ej,ek,el,em,en,eo,ep,eq,er,es,et,eu,ev,ew,ex,ey,ez,eA,eB,eC,eD,eE,eF,eG,eH,eI,eJ,eL,eM,gu,gv,gw,gx,gy,gz,gA,gB,gC,gD,gE,gG,gH,gI,gJ],[]⟩ w
theorem cq.IP{α:Type}{f:α→List Value}{sz:Nat}{w:World}{B n m:Nat}{A:Ls}{l:List α}(h:cq (EF f) sz w B A n l)(hm:m≤n):cq (EF f) sz w B A m (l.take m):=by
 refine⟨by have:=h.1;simp;omega,fun h0=>?_⟩;obtain⟨b,o,bw,O,hc⟩:=h.2 ad;exact⟨b,o,bw,O,fun k x hx=>hc k x ((List.getElem?_take_of_lt (i:=k) (by have:=(List.getElem?_eq_some_iff.1 hx).1;simp at this;omega)).symm.trans hx)⟩
theorem Dq(m:Nat)(A:Ls)(n c:Nat)(l:List Int)(w:World)(hm:m≤1000)(h:cq (EF cM) 1 w w.heap.size A n l)(hc:n≤c) :
  Calls prog 75 #[.slice A n c,.int .i64 (m:Int)] w fun e ab=>(∃I aP aK,e=.returned (.slice I aP aK)∧aP≤m∧∃aO,cq (EF cM) 1 w w.heap.size I aP aO)∧w=ab:=by
 have H:=ae h;by_cases hn:n≤m
 ·have q:decide ((n:Int) > (m:Int))=false:=by simp;omega
  clear h;go_enter func75,ntmps75;go_wp2;go_ret;exact⟨⟨A,n,c,rfl,hn,l,H.o⟩,rfl⟩
 ·obtain⟨b,o,rfl,O⟩:=h.some_ ad;have q:decide ((n:Int) > (m:Int))=true:=by simp;omega
  have bB:(0:Int)≤(m:Int):=ad;have dD:(m:Int)≤(c:Int):=ad;clear h;go_enter func75,ntmps75;go_wp2;go_ret;exact⟨⟨_,m,_,rfl,KG _,_,H.IP ad⟩,rfl⟩
theorem DX(an:i<4):strOf [byteOf (97+(i:Int))]=iF i:=by
 have h:∀k:Fin 4,strOf [byteOf (97+((k.val:Nat):Int))]=iF k.val:=by decide
 exact h ⟨i,an⟩
namespace CH
theorem dC{p:Prop}(h:p:=by
 generalize bq:World.setCell _ _ _=hg;have f:=bd.1.add a7.1 a7.2 ad (m3.snoc bd.1.ok aW (re:=true) (sz:=0) ad ad (by intro _;rfl));rw[bq] at f;have bY:=ae f;clear bq f a0 ai af;go_wp2_with(fail);go_roundw
 case rel=>exact⟨i+1,j,cj,M++[⟨iF i,true,0⟩],by go_num,ad,bY.o⟩
 case measure=>exact aH
 ):p:=h
end CH
open CH in
theorem J9(A:Ls)(n c:Nat)(l:List Int)(w:World)(h:cq (EF cM) 1 w w.heap.size A n l)(hc:n≤c)
  (s:∀K,(∀a ab,Code.wp prog (nw 13) (bodyPost prog Tryz.f31 (kb w)) a ab→K a ab)→ER w (.slice A n c) (bodyPost prog Tryz.f31 (kb w)) K) :
  Calls prog 31 #[.slice A n c] w (kb w):=by
 obtain⟨H,gX⟩:=aI h s;clear h s;go_enter func31,ntmps31;go_upto_region 1 with(fail);generalize ba:World.alloc _ _=W;have aw:=aU ba;have cA:=aG ba;have cY:W.heap.size=w.heap.size+1:=by rw[←ba];simp
 have y:=H.c4 (Fr.ext aw) aw.size;have ah:=aB aw cA y;clear ba aw cA y;go_wp2_with(fail);refine(Dq 400 A n c l W ad ah.2.2 hc).mono ?_;rintro e aS ⟨⟨I,aP,aK,rfl,ct,aO,aC⟩,rfl⟩;have ca:=ae aC;clear aC;go_upto_region 2 with(fail);generalize hX:World.alloc _ _=X;have br:=iO hX;have q:aq X (w.heap.size+1) 132 #[.slice I aP aK,.int .i64 0]:=hX▸(aq.hL _ _ _ cY.symm).alloc _;have u:aq X (w.heap.size+1+1) 134 #[.pointer (some ⟨w.heap.size+1,0,none⟩),.slice none 0 0,.slice none 0 0,.slice none 0 0,.int .i64 24,.bool false]:=hX▸aq.hL _ _ _ (by simp[cY]);have ay:cm X (w.heap.size+1) I aP aK aO:=⟨q.lt,by rw[q.cell];rfl,⟨0,ad,by rw[q.cell];rfl⟩,q.frozen 1,(by have:=ca.o;rw[cY] at this;exact this.ez (br.below ad fun _ _ h=>h)),ad⟩
 have H1:=bH ay u (ah.2.1.ai br) (ah.1.trans br);clear hX br q u ay ah ca;obtain⟨a0,ai,af⟩:=H1.2.1.two;go_wp2_with(fail);refine(a2 X (w.heap.size+1) I aP aK aO 3 H1.1 ad ad).mono ?_;rintro e aT ⟨cv,rfl,a3,bU,h,he⟩;have bG:=bH h (H1.2.1.on he.fr ad) (H1.2.2.1.on he.fr ad) (Fr.low (M:=fun b=>b=w.heap.size+1) ((H1.2.2.2.mono fun _ h=>h.elim).trans he.fr) fun k ap=>ad);clear h he a3 bU a0 ai af H1;obtain⟨a0,ai,af⟩:=bG.2.1.two;go_upto_region 3 with(fail);generalize (cv == 1)=ar;generalize hX:World.setCell _ _ _=cT;have J:=cL hX;have u:aq cT (w.heap.size+1+1) 134 #[.pointer (some ⟨w.heap.size+1,0,none⟩),.slice none 0 0,.slice none 0 0,.slice none 0 0,.int .i64 24,.bool ar]:=hX▸bG.2.1.aM 5 _;have bT:=bH (bG.1.cQ J fun b O h=>ad) u (bG.2.2.1.on J ad) (Fr.low (M:=fun b=>b=w.heap.size+1+1) ((bG.2.2.2.mono fun _ h=>h.elim).trans J) fun k ap=>ad);clear hX J u bG a0 ai af;obtain⟨a0,ai,af⟩:=bT.2.1.two;go_wp2_with(fail);refine(a2 cT (w.heap.size+1) I aP aK aO 4 bT.1 ad ad).mono ?_;rintro e cN ⟨bP,rfl,a3,bU,h,he⟩;obtain⟨F,rfl⟩:=KL a3;have E:F<4:=ad;have b8:=bH h (bT.2.1.on he.fr ad) (bT.2.2.1.on he.fr ad) (Fr.low (M:=fun b=>b=w.heap.size+1) ((bT.2.2.2.mono fun _ h=>h.elim).trans he.fr) fun k ap=>ad);clear h he a3 bU a0 ai af bT;go_wp2_with(fail);go_loopw [4] (fun cu wr=>∃(i:Nat) (MA:Ls) (mc:Nat) (M:List bI),cu=.int .i64 i∧i≤1+F∧oB w wr I aP aK aO ar MA i mc M) (fun cu _=>1+F - (intOf cu).toNat)
 case atStart=>exact⟨0,none,0,[],rfl,ad,⟨b8.1,b8.2.1,b8.2.2.1,Gr.nil _ _ _ _ _,ad,(fun i m h=>by cases h),b8.2.2.2⟩⟩
 case round=>
  obtain⟨i,MA,mc,M,rfl,an,aZ⟩:=hrel;clear b8;have ck:=ae aZ;obtain⟨a0,ai,af⟩:=aZ.blk.two;have aW:M.length=i:=by have:=aZ.ms.len;simpa using this
  have ci:=aZ.blk.lt;clear aZ;by_cases ak:i<1+F
  ·have gN:(i:Int)<1+(F:Int):=ad;have e2:i≤3:=ad;have b6:=fun(W:World) (v:Int)=>kP W v;go_upto_region 7 with(fail);clear b6;generalize hX:World.alloc _ _=g8;have bX:=iO hX;have ha:aq g8 (wr.heap.size+1) 128 #[.string (iF i),.bool false,.int .i64 0]:=by
    rw[←hX,←DX (by omega:i<4)];exact aq.hL _ _ _ (by simp)
   have z:=ag (ck.ai bX) ha;have bR:(Value.slice MA i mc).ownBlock≠some (wr.heap.size+1):=fun O=>by have:=(ck.ms.lt O).2;omega
   have aA:=ae bR;clear hX bX ha a0 ai af bR;obtain⟨a0,ai,af⟩:=z.1.blk.two;go_wp2_with(fail);refine(a2 g8 (w.heap.size+1) I aP aK aO 5 z.1.src ad ad).mono ?_;rintro e Y ⟨b2,rfl,x,S,h,he⟩;have bC:=ag (z.1.next h he.fr) (z.2.on he.fr ad);have cZ:wr.heap.size+1<Y.heap.size:=bC.2.lt;clear h he a0 ai af;by_cases ac:b2=1
   ·have q1:(b2 == 1)=true:=by simpa using ac
    clear ac x S;obtain⟨d0,aL,aM⟩:=bC.2.two;go_upto_region 12 with(fail);generalize hX:World.setCell _ _ _=c9;have J:=cL hX;have hM:aq c9 (wr.heap.size+1) 128 #[.string (iF i),.bool true,.int .i64 0]:=hX▸bC.2.aM 1 _;have r:=ag (bC.1.fresh ad aA.o J) hM;clear hX J hM d0 aL aM bC;obtain⟨a0,ai,af⟩:=r.1.blk.two;obtain⟨d0,aL,aM⟩:=r.2.two;have G:=r.2.lt;refine eK (fun _=>False) [(0,3),(1,3),(2,3),(3,3),(4,3),(5,0),(6,0),(7,1),(8,2),(9,3),(10,3),(11,3),(12,2)] ?_
    iterate 5 refine pf ?_
    iterate 2 refine ph ?_
    refine q0 ?_;generalize bu:World.drew (World.alloc _ _)=Z;have a9:=gF bu;have bh:=kp bu;have bp:=r.1.ai a9;have bd:=ag bp bh;have bj:=a9.size;clear bu a9 bh bp a0 ai af d0 aL aM;refine ax rfl (fun K hK=>?_);rw[if_pos (by rfl)];refine e5 lM (.tmp 73) (.tmp 75) (by rfl) bd.1.ms bd.2 (fb.2 rfl:(ey ⟨iF i,true,0⟩).rep Z _ _) (by rfl) (by rfl) (by rfl) ad ad ad ?_;intro j cj fn bK T c0 cR;have bn:∀b,(Value.slice MA i mc).ownBlock=some b→w.heap.size+1+1+1≤b:=fun b O=>(bd.1.ms.lt O).1;have a5:=bd.1.blk.on T (fun O=>by have:=bn _ O;omega);have a7:=ag bK T;clear bK T c0 cR bn;obtain⟨a0,ai,af⟩:=a5.two;clear a5;refine dO hK ?_;clear hK K
    iterate 3 refine pf ?_
    exact eP
   by_cases av:b2=2
   ·have q1:(b2 == 1)=false:=by simpa using ac
    have cB:(b2 == 2)=true:=by simpa using av
    clear ac av x S;obtain⟨a0,ai,af⟩:=bC.1.blk.two;go_wp2_with(fail);refine(a2 Y (w.heap.size+1) I aP aK aO 3 bC.1.src ad ad).mono ?_;rintro e hl ⟨cO,rfl,L,aa,h,he⟩;have ao:=ag (bC.1.next h he.fr) (bC.2.on he.fr ad);clear h he a0 ai af bC;obtain⟨d0,aL,aM⟩:=ao.2.two;go_upto_region 12 with(fail);generalize hX:World.setCell _ _ _=c9;have J:=cL hX;have hM:aq c9 (wr.heap.size+1) 128 #[.string (iF i),.bool false,.int .i64 (1+cO)]:=hX▸ao.2.aM 2 _;have r:=ag (ao.1.fresh ad aA.o J) hM;clear hX J hM d0 aL aM ao;obtain⟨a0,ai,af⟩:=r.1.blk.two;obtain⟨d0,aL,aM⟩:=r.2.two;have G:=r.2.lt;refine eK (fun _=>False) [(0,3),(1,3),(2,3),(3,3),(4,3),(5,0),(6,0),(7,1),(8,2),(9,3),(10,3),(11,3),(12,2)] ?_
    iterate 5 refine pf ?_
    iterate 2 refine ph ?_
    refine q0 ?_;generalize bu:World.drew (World.alloc _ _)=Z;have a9:=gF bu;have bh:=kp bu;have bp:=r.1.ai a9;have bd:=ag bp bh;have bj:=a9.size;clear bu a9 bh bp a0 ai af d0 aL aM;refine ax rfl (fun K hK=>?_);rw[if_pos (by rfl)];refine e5 lM (.tmp 73) (.tmp 75) (by rfl) bd.1.ms bd.2 (fb.2 rfl:(ey ⟨iF i,false,(1+cO)⟩).rep Z _ _) (by rfl) (by rfl) (by rfl) ad ad ad ?_;intro j cj fn bK T c0 cR;have bn:∀b,(Value.slice MA i mc).ownBlock=some b→w.heap.size+1+1+1≤b:=fun b O=>(bd.1.ms.lt O).1;have a5:=bd.1.blk.on T (fun O=>by have:=bn _ O;omega);have a7:=ag bK T;clear bK T c0 cR bn;obtain⟨a0,ai,af⟩:=a5.two;clear a5;refine dO hK ?_;clear hK K
    iterate 3 refine pf ?_
    refine ax rfl (fun K hK=>?_);go_simp;refine dO hK ?_;clear hK K;refine aE ?_;generalize bq:World.setCell _ _ _=hg;have f:=bd.1.add a7.1 a7.2 ad (m3.snoc bd.1.ok aW (re:=false) (sz:=(1+cO)) ad ad (by intro h;cases h));rw[bq] at f;have bY:=ae f;clear bq f a0 ai af;go_wp2_with(fail);go_roundw
    case rel=>exact⟨i+1,j,cj,M++[⟨iF i,false,(1+cO)⟩],by go_num,ad,bY.o⟩
    case measure=>exact aH
   ·have q1:(b2 == 1)=false:=by simpa using ac
    have cB:(b2 == 2)=false:=by simpa using av
    clear ac av x S;go_upto_region 12 with(fail);obtain⟨a0,ai,af⟩:=bC.1.blk.two;obtain⟨d0,aL,aM⟩:=bC.2.two;refine eK (fun _=>False) [(0,3),(1,3),(2,3),(3,3),(4,3),(5,0),(6,0),(7,1),(8,2),(9,3),(10,3),(11,3),(12,2)] ?_
    iterate 5 refine pf ?_
    iterate 2 refine ph ?_
    refine q0 ?_;generalize bu:World.drew (World.alloc _ _)=Z;have a9:=gF bu;have bh:=kp bu;have bp:=bC.1.ai a9;have bd:=ag bp bh;have bj:=a9.size;clear bu a9 bh bp a0 ai af d0 aL aM;refine ax rfl (fun K hK=>?_);rw[if_pos (by rfl)];refine e5 lM (.tmp 73) (.tmp 75) (by rfl) bd.1.ms bd.2 (fb.2 rfl:(ey ⟨iF i,false,0⟩).rep Z _ _) (by rfl) (by rfl) (by rfl) ad ad ad ?_;intro j cj fn bK T c0 cR;have bn:∀b,(Value.slice MA i mc).ownBlock=some b→w.heap.size+1+1+1≤b:=fun b O=>(bd.1.ms.lt O).1;have a5:=bd.1.blk.on T (fun O=>by have:=bn _ O;omega);have a7:=ag bK T;clear bK T c0 cR bn;obtain⟨a0,ai,af⟩:=a5.two;clear a5;refine dO hK ?_;clear hK K
    iterate 3 refine pf ?_
    refine ax rfl (fun K hK=>?_);go_simp;refine dO hK ?_;clear hK K;refine aE ?_;generalize bq:World.setCell _ _ _=hg;have f:=bd.1.add a7.1 a7.2 ad (m3.snoc bd.1.ok aW (re:=false) (sz:=0) ad ad (by intro _;rfl));rw[bq] at f;have bY:=ae f;clear bq f a0 ai af;go_wp2_with(fail);go_roundw
    case rel=>exact⟨i+1,j,cj,M++[⟨iF i,false,0⟩],by go_num,ad,bY.o⟩
    case measure=>exact aH
  ·have gN:¬(i:Int)<1+(F:Int):=ad;go_upto_region 13 with(fail);have cp:=gX.o _ (by assumption);unfold ER at cp;exact cp I aP aK aO ar MA i mc M wr ad ck.o
theorem vz:ch prog 23 139 (.agg #[.string ⟨#[]⟩,.int .i64 0]) 2 24:=ch.mk' Tryz.underlying23 (by kernel_rfl) rfl ad
def rY(G:List (ByteArray×Int)):Prop:=∀i g,G[i]?=some g→g.1=dN i∧-2≤g.2∧g.2≤2
theorem rY.snoc{G:List (ByteArray×Int)}(h:rY G)(an:G.length=i){v:Int}(h0:-2≤v)(aV:v≤2):rY (G++[(dN i,v)]):=by
 intro k m hm;by_cases ap:k<G.length
 ·rw[List.getElem?_append_left ap] at hm;exact h k m hm
 ·rw[List.getElem?_append_right ad] at hm;have bX:k - G.length=0:=by
   exact vf
  rw[bX] at hm;simp at hm;subst hm;have:k=i:=ad;subst this;exact⟨rfl,h0,aV⟩
structure w9(S:World)(u:Nat)(w:World)(A:Ls)(n c:Nat)(l:List Int)(ar:Bool)(MA:Ls)(mn mc:Nat)(M:List bI)(GA:Ls)(gn gc:Nat)(G:List (ByteArray×Int))(au:Ls)(ba:Nat):Prop where
 src:cm w (S.heap.size+1) A n c l
 blk:aq w (S.heap.size+1+1) 134 #[.pointer (some ⟨S.heap.size+1,0,none⟩),.slice GA gn gc,.slice MA mn mc,.slice none 0 0,.int .i64 24,.bool ar]
 res:aq w S.heap.size 27 #[.slice none 0 0,.slice none 0 0,.slice none 0 0]
 ms:Sl w (fun b=>S.heap.size+1+1+1≤b∧b<u) MA mn (M.map ey)
 mc:mn≤mc
 rows:ld u 139 2 9 1 w GA gn gc (G.map iA) au gn ba ((G.map (·.1)).map D.s)
 nm:1≤mn∧mn≤4
 ok:m3 M
 ng:gn≤2
 yU:rY G
 ext:Ext S w
 hD:S.heap.size+1+1+1≤u∧u≤w.heap.size
section
variable {S w ab:World} {u:Nat} {A:Ls} {n c:Nat} {l:List Int} {ar:Bool} {MA:Ls} {mn mc:Nat} {M:List bI} {GA:Ls} {gn gc:Nat} {G:List (ByteArray×Int)} {au:Ls} {ba:Nat}
theorem oB.Jp(h:oB S w A n c l ar MA mn mc M)(ac:1≤mn):w9 S w.heap.size w A n c l ar MA mn mc M none 0 0 [] none 0:=
 ⟨h.src,h.blk,h.res,h.ms.sl (fun _ _ h=>h.elim) (fun b O aR=>⟨aR,O⟩),h.ms.cap.1,ld.nil _ _ _ _ _ _,⟨ac,h.nm⟩,h.ok,ad,(fun i g h=>by cases h),h.ext,by have:=h.blk.lt;omega,KG _⟩
theorem w9.next(h:w9 S u w A n c l ar MA mn mc M GA gn gc G au ba)(hs:cm ab (S.heap.size+1) A n c l)(O:Fr (fun b=>b=S.heap.size+1) w ab):w9 S u ab A n c l ar MA mn mc M GA gn gc G au ba:=by
 have hD:=h.hD;exact⟨hs,h.blk.on O ad,h.res.on O ad,h.ms.ak fun b hp=>O.block b (aD hp.2) (aD hp.1),h.mc,h.rows.c4 O (fun b O _=>ad),h.nm,h.ok,h.ng,h.yU,Fr.low (M:=fun b=>b=S.heap.size+1) ((h.ext.mono fun _ h=>h.elim).trans O) fun k ap=>ad,hD.1,by have:=O.size;omega⟩
theorem w9.ai(h:w9 S u w A n c l ar MA mn mc M GA gn gc G au ba)(O:Ext w ab):w9 S u ab A n c l ar MA mn mc M GA gn gc G au ba:=h.next (h.src.cQ O fun _ _ h=>h) (O.mono fun _ h=>h.elim)
theorem w9.add(h:w9 S u w A n c l ar MA mn mc M GA gn gc G au ba){aZ z:Ls}{bc am:Nat}{g:ByteArray×Int}(a5:ld u 139 2 9 1 ab aZ (gn+1) bc ((G++[g]).map iA) z (gn+1) am (((G++[g]).map (·.1)).map D.s))
  (J:Fr (fun b=>(Value.slice GA gn gc).ownBlock=some b∨(Value.slice au gn ba).ownBlock=some b) w ab) (hn:gn+1≤2) (bZ:rY (G++[g])) :
  w9 S u (ab.setCell ⟨S.heap.size+1+1,1,none⟩ (.slice aZ (gn+1) bc)) A n c l ar MA mn mc M aZ (gn+1) bc (G++[g]) z am:=by
 have hD:=h.hD;have bn:∀b,((Value.slice GA gn gc).ownBlock=some b∨(Value.slice au gn ba).ownBlock=some b)→u≤b:=fun b O=>by
  rcases O with O|O
  ·exact(h.rows.one.lt O).1
  ·exact(h.rows.two.lt O).1
 have az:Fr (fun b=>b=S.heap.size+1+1) ab (ab.setCell ⟨S.heap.size+1+1,1,none⟩ (.slice aZ (gn+1) bc)):=(Fr.refl (fun b=>b=S.heap.size+1+1) ab).setCell (.inl rfl) _;have hs:=J.size;have bO:=az.size;refine⟨(h.src.cQ J fun b O ah=>by have:=bn b ah;omega).cQ az (fun b O ah=>ad),(h.blk.on J fun ah=>by have:=bn _ ah;omega).aM 1 _,(h.res.on J fun ah=>by have:=bn _ ah;omega).on az ad,
  h.ms.ak fun b hp=>(az.block b (aD hp.2) (aD hp.1)).trans (J.block b (aD hp.2) fun ah=>by have:=bn b ah;have:=hp.2;omega),h.mc,a5.c4 az (fun b O _=>ad),h.nm,h.ok,hn,bZ,?_,hD.1,ad⟩
 have ac:Ext S ab:=Fr.low (M:=fun b=>(Value.slice GA gn gc).ownBlock=some b∨(Value.slice au gn ba).ownBlock=some b) ((h.ext.mono fun _ h=>h.elim).trans J) fun k ap=>by have:=bn k ap;omega
 exact zt
end
def ES(S:World)(gQ:Value)(Q:Exit→Act→World→Prop)(K:Act→World→Prop):Prop:=∀(u:Nat) (A:Ls) (n c:Nat) (l:List Int) (ar:Bool) (MA:Ls) (mn mc:Nat) (M:List bI) (GA:Ls) (gn gc:Nat) (G:List (ByteArray×Int)) (au:Ls) (ba:Nat) {hs hu gK gO u8 gL eO go gp cc bR bS u16 gq gr eR eS eT eU eV eW eY eZ e3 e6 e7 e8 e9 u32 fa fb fd fe ff fh fi fk fl fm fo fp fq fr fs ft fv fw fx fy fz fA fB fC fD fE fF fG fH fI fJ u64 fK fL fM fN fO fP fQ fR fS fT fU fV fW fX fY fZ f3 f4 f5 f6 f7 f8 f9 ga gb gd ge gf gg gh gi gj gk gl gm H I am aF aL aM aN aU a1 a8 bb be bj bo br bt bA bF bG bL bM bW bZ b1 b2 b8 ca cb ce cj cn co cw cy cz cA cD cE cF cG cH cJ cM cO cP cQ cS cT cU cV cW cX cY cZ c4 c5 c6 c7 c8 c9 da db dc dd de df dg dh di dj dk dl dm dn dp dr dt du dv dw dx dy dA dB dD dE dF dG dH dJ dK dM dQ dR dS dT dV dW dX dY dZ d0 d1 d2 d3 d4 d5 d6 d7 d8 d9 ea eb ec ed ee ef eg eh ei ej ek el em en eo ep eq er es et eu ev ew ex ey ez eA eB eC eD eE eF eG eH eI eJ eL eM gu gv gw gx gy gz gA gB gC gD gE gG gH gI gJ:Value} (w:World),w9 S u w A n c l ar MA mn mc M GA gn gc G au ba→
 Code.wp prog (wv 19) (Exit.then K Q) ⟨#[gQ,hs,.pointer (some ⟨S.heap.size,0,none⟩),.pointer (some ⟨S.heap.size+1+1,0,none⟩),hu,gK,gO,.slice au gn ba,u8,gL,eO,go,gp,cc,bR,bS,u16,gq,gr,eR,eS,eT,eU,eV,eW,eY,eZ,e3,e6,e7,e8,e9,u32,fa,fb,fd,fe,ff,fh,fi,fk,fl,fm,fo,fp,fq,fr,fs,ft,fv,fw,fx,fy,fz,fA,fB,fC,fD,fE,fF,fG,fH,fI,fJ,u64,fK,fL,fM,fN,fO,fP,fQ,fR,fS,fT,fU,fV,fW,fX,fY,fZ,f3,f4,f5,f6,f7,f8,f9,ga,gb,gd,ge,gf,gg,gh,gi,gj,gk,gl,gm,H,I,am,aF,aL,aM,aN,aU,a1,a8,bb,be,bj,bo,br,bt,bA,bF,bG,bL,bM,bW,bZ,b1,b2,b8,ca,cb,ce,cj,cn,co,cw,cy,cz,cA,cD,cE,cF,cG,cH,cJ,cM,cO,cP,cQ,cS,cT,cU,cV,cW,cX,cY,cZ,c4,c5,c6,c7,c8,c9,da,db,dc,dd,de,df,dg,dh,di,dj,dk,dl,dm,dn,dp,dr,dt,du,dv,dw,dx,dy,dA,dB,dD,dE,dF,dG,dH,dJ,dK,dM,dQ,dR,dS,dT,dV,dW,dX,dY,dZ,d0,d1,d2,d3,d4,d5,d6,d7,d8,d9,ea,eb,ec,ed,ee,ef,eg,eh,ei,ej,ek,el,em,en,eo,ep,eq,er,es,et,eu,ev,ew,ex,ey,ez,eA,eB,eC,eD,eE,eF,eG,eH,eI,eJ,eL,eM,gu,gv,gw,gx,gy,gz,gA,gB,gC,gD,gE,gG,gH,gI,gJ],[]⟩ w
theorem s0{w:World}{x:ByteArray×Int}{cs:List Value}:(iA x).rep w P cs↔cs=[.string x.1,.int .i64 x.2]:=by
 unfold iA;rw[bK,cp];exact C7
theorem qG{P:Program}{ops:Array Oper}{Q:Exit→Act→World→Prop}{R:World→World→Prop}{tails:List Nat}{j k:Nat}{f:Nat→PT}{a:Act}{w:World}(h:oh P ops Q R tails i (f i) a w)(av:oh P ops Q R tails j (f j) a w)(aV:oh P ops Q R tails k (f k) a w):cP P ops Q R tails (.pick [i,j,k] f) a w:=fun m hm=>by
 simp only[KW,List.not_mem_nil,or_false] at hm;rcases hm with rfl|rfl|rfl
 ·exact h
 ·exact av
 ·exact aV
theorem DK(an:i<3){bv:Int}(O:IntKind.u8.wrap (IntKind.i64.wrap (48+(i:Int)))=bv):(⟨#[103]⟩++strOf [byteOf bv]:ByteArray)=dN i:=by
 subst O;have h:∀k:Fin 3,(⟨#[103]⟩++strOf [byteOf (IntKind.u8.wrap (IntKind.i64.wrap (48+((k.val:Nat):Int))))]:ByteArray)=dN k.val:=by decide
 exact h ⟨i,an⟩
theorem fu(V:World)(g:Nat)(v1:Int)(h0:V.cell? ⟨g,0,none⟩=some (.int .u8 v1)) :
  (convert 136 9 (.slice (some ⟨g,0,none⟩) 1 1)).run prog V=.ok (.string (strOf [byteOf v1])) V:=by
 have:=run_convert_bytes_arg (P:=prog) V 136 5 Tryz.underlying136 Tryz.underlying5 g 0 1 1 [v1] rfl (fun i an=>by
  obtain rfl:i=0:=ad;exact h0) 9 Tryz.underlying9
 rw[this];rfl
end Go.Proofs.YtnhhdaggkiomoaaGreat

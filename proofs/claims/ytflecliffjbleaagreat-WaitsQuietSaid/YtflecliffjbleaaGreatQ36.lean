/- Part 36 of the proof. No condition of its own. -/
import Derived.Test.YtflecliffjbleaaGreatQ35
namespace Go.Proofs.YtflecliffjbleaaGreat
open Go.RowKit Go.Proofs.Tryz
set_option maxRecDepth 1000000
set_option maxHeartbeats 25600000
set_option linter.unusedVariables false
variable{bv:Int}{ps:List (ByteArray×Bool)}{i:Nat}{P:Nat->Prop}
def jY(n:Nat):Code->Option Code
 | .seq a b=>match a with
  | .region k _ _=>if k=n then some (.seq a b) else jY n b
  | .seq x y=>match jY n (.seq x y) with
   | some c=>some c
   | none=>jY n b
  | _=>jY n b
 | _=>none
noncomputable def wI(n:Nat):Code:=match (Tryz.f56.body.bind (jY n)).getD .skip with
 | .seq a _=>a
 | c=>c
noncomputable def nM(n:Nat):Code:=match (Tryz.f56.body.bind (jY n)).getD .skip with
 | .seq _ b=>b
 | _=>.skip
noncomputable def GX(n:Nat):Code:=(Tryz.f56.body.bind (jY n)).getD .skip
def kj(w:World)(e:Ending)(ac:World):Prop:=∃(p:bD) (GA:LP) (gn gc:Nat) (MA:LP) (mn mc:Nat) (FA:LP) (fn fc:Nat),e=.returned (.agg #[.slice GA gn gc,.slice MA mn mc,.slice FA fn fc])/\oK p/\gn<=gc/\mn<=mc/\fn<=fc/\
 Sl ac (fresh w ac) GA gn (p.globals.map ix)/\Sl ac (fresh w ac) MA mn (p.ae.map ek)/\Sl ac (fresh w ac) FA fn (p.funcs.map dr)/\Ext w ac
def nr(M:List bF):Prop:=∀i m,M[i]?=some m->m.name=iC i/\0<=m.size/\m.size<=3/\(m.re=true->m.size=0)
structure pw(S w:World)(A:LP)(n c:Nat)(l:List Int)(ar:Bool)(MA:LP)(mn mc:Nat)(M:List bF):Prop where
 src:cc w (S.heap.size+1) A n c l
 blk:an w (S.heap.size+1+1) 169 #[.pointer (some ⟨S.heap.size+1,0,none⟩),.slice none 0 0,.slice MA mn mc,.slice none 0 0,.int .i64 24,.bool ar]
 res:an w S.heap.size 70 #[.slice none 0 0,.slice none 0 0,.slice none 0 0]
 ms:Gr (λ_=>False) (S.heap.size+1+1+1) 131 3 w MA mn mc (M.map ek)
 nm:mn<=4
 ok:nr M
 ext:Ext S w
section
variable {S w ac:World} {A:LP} {n c:Nat} {l:List Int} {ar:Bool} {MA:LP} {mn mc:Nat} {M:List bF}
theorem pw.next(h:pw S w A n c l ar MA mn mc M)(hs:cc ac (S.heap.size+1) A n c l)(O:Fr (λb=>b=S.heap.size+1) w ac):pw S ac A n c l ar MA mn mc M:=
 ⟨hs,h.blk.on O ab,h.res.on O ab,h.ms.cS O (λb O _=>⟨λh=>h,ab⟩),h.nm,h.ok,Fr.low (M:=λb=>b=S.heap.size+1) ((h.ext.mono λ_ h=>h.elim).trans O) λk ai=>ab⟩
theorem pw.aj(h:pw S w A n c l ar MA mn mc M)(O:Ext w ac):pw S ac A n c l ar MA mn mc M:=h.next (h.src.cM O λ_ _ h=>h) (O.mono λ_ h=>h.elim)
theorem pw.fresh(h:pw S w A n c l ar MA mn mc M){g:Nat}(aK:S.heap.size+1+1<g)(bl:(Value.slice MA mn mc).ownBlock≠some g)(O:Fr (λb=>b=g) w ac):pw S ac A n c l ar MA mn mc M:=
 ⟨h.src.cM O (λb O h=>ab),h.blk.on O ab,h.res.on O ab,h.ms.c7 O.size (λb aw hp=>O.block b aw (hp.elim (λh=>h.elim) λhp j=>by subst j;exact bl hp)),h.nm,h.ok,Fr.low (M:=λb=>b=g) ((h.ext.mono λ_ h=>h.elim).trans O) λk ai=>ab⟩
theorem pw.add(h:pw S w A n c l ar MA mn mc M){ej:LP}{eu:Nat}{m:bF}(aK:Gr (λ_=>False) (S.heap.size+1+1+1) 131 3 ac ej (mn+1) eu (M.map ek++[ek m]))(J:Fr (λb=>(Value.slice MA mn mc).ownBlock=some b) w ac)
  (hn:mn+1<=4) (cc:nr (M++[m])):pw S (ac.setCell ⟨S.heap.size+1+1,2,none⟩ (.slice ej (mn+1) eu)) A n c l ar ej (mn+1) eu (M++[m]):=by
 have bl:∀b,(Value.slice MA mn mc).ownBlock=some b->S.heap.size+1+1+1<=b:=λb O=>(h.ms.lt O).1;have ay:Fr (λb=>b=S.heap.size+1+1) ac (ac.setCell ⟨S.heap.size+1+1,2,none⟩ (.slice ej (mn+1) eu)):=(Fr.refl (λb=>b=S.heap.size+1+1) ac).setCell (.inl rfl) _;refine⟨(h.src.cM J λb O aH=>by have:=bl b aH;omega).cM ay (λb O aH=>ab),(h.blk.on J λaH=>by have:=bl _ aH;omega).aD 2 _,(h.res.on J λaH=>by have:=bl _ aH;omega).on ay ab,?_,hn,cc,
  Fr.low (M:=λb=>b=S.heap.size+1+1) ((Fr.low (M:=λb=>(Value.slice MA mn mc).ownBlock=some b) ((h.ext.mono λ_ h=>h.elim).trans J) λk ai=>by have:=bl k ai;omega).mono (λ_ h=>h.elim) |>.trans ay) λk ai=>ab⟩
 rw[Li,Lh,Ly];exact aK.cS ay (λb O _=>⟨λh=>h,ab⟩)
end
theorem nr.snoc{M:List bF}(h:nr M)(ak:M.length=i){re:Bool}{sz:Int}(h0:0<=sz)(aU:sz<=3)(bx:re=true->sz=0):nr (M++[⟨iC i,re,sz⟩]):=by
 intro k m hm;by_cases ai:k<M.length
 .rw[List.getElem?_append_left ai] at hm;exact h k m hm
 .rw[List.getElem?_append_right ab] at hm;have co:k - M.length=0:=by
   exact vx
  rw[co] at hm;simp at hm;subst hm;have:k=i:=ab;subst this;exact⟨rfl,h0,aU,bx⟩
def EO(S:World)(gM:Value)(Q:Exit->Act->World->Prop)(K:Act->World->Prop):Prop:=∀(A:LP) (n c:Nat) (l:List Int) (ar:Bool) (MA:LP) (mn mc:Nat) (M:List bF) {hr hs gD gJ o u8 gF eK br gl ch aK a1 u16 bo bM eN eO eP eQ eR eS eV eW eY eZ e3 e4 e5 u32 e6 e7 e8 e9 fa fb fd fe ff fh fi fl fm fo fp fq fr fs ft fu fv fw fx fy fz fA fB fC fD fE fF u64 fG fH fI fJ fK fL fM fN fO fP fQ fR fS fT fU fX fY fZ f3 f4 f5 f6 f7 f8 f9 ga gb gd ge gf gg gh gi gj gk H am aF aI aJ aS a3 bb be bq bw bC bN bO bW bX b1 b2 b5 b6 ca ci cl cm co cq cr cu cv cw cx cA cC cD cE cF cG cH cI cK cL cM cN cO cP cQ cR cS cT cU cV cW cX cY cZ c4 c5 c6 c7 c8 c9 da db dc dd de df dg dh di dk dl dm dn dr ds dt du dv dw dx dy dz dA dB dC dE dF dH dI dJ dK dM dN dO dP dQ dS dT dU dV dW dX dY dZ d0 d1 d2 d3 d4 d5 d6 d7 d8 d9 ea eb ec ed ee ef eg eh ej ek el em en eo ep eq er es et eu ev ew ex ey ez eA eB eC eD eE eF eG eH eI bQ go gp gq gr gs gt gu gv gw gx gy gz gB gC:Value} (w:World),1<=mn->pw S w A n c l ar MA mn mc M->
 Code.wp prog (wI 13) (Exit.then K Q) ⟨#[gM,hr,.pointer (some ⟨S.heap.size,0,none⟩),.pointer (some ⟨S.heap.size+1+1,0,none⟩),hs,gD,gJ,o,u8,gF,eK,br,gl,ch,aK,a1,u16,bo,bM,eN,eO,eP,eQ,eR,eS,eV,eW,eY,eZ,e3,e4,e5,u32,e6,e7,e8,e9,fa,fb,fd,fe,ff,fh,fi,fl,fm,fo,fp,fq,fr,fs,ft,fu,fv,fw,fx,fy,fz,fA,fB,fC,fD,fE,fF,u64,fG,fH,fI,fJ,fK,fL,fM,fN,fO,fP,fQ,fR,fS,fT,fU,fX,fY,fZ,f3,f4,f5,f6,f7,f8,f9,ga,gb,gd,ge,gf,gg,gh,gi,gj,gk,H,am,aF,aI,aJ,aS,a3,bb,be,bq,bw,bC,bN,bO,bW,bX,b1,b2,b5,b6,ca,ci,cl,cm,co,cq,cr,cu,cv,cw,cx,cA,cC,cD,cE,cF,cG,cH,cI,cK,cL,cM,cN,cO,cP,cQ,cR,cS,cT,cU,cV,cW,cX,cY,cZ,c4,c5,c6,c7,c8,c9,da,db,dc,dd,de,df,dg,dh,di,dk,dl,dm,dn,dr,ds,dt,du,dv,dw,dx,dy,dz,dA,dB,dC,dE,dF,dH,dI,dJ,dK,dM,dN,dO,dP,dQ,dS,dT,dU,dV,dW,dX,dY,dZ,d0,d1,d2,d3,d4,d5,d6,d7,d8,d9,ea,eb,ec,ed,ee,ef,eg,eh,ej,ek,el,em,en,eo,ep,eq,er,es,et,eu,ev,ew,ex,ey,ez,eA,eB,eC,eD,eE,eF,eG,eH,eI,bQ,go,gp,gq,gr,gs,gt,gu,gv,gw,gx,gy,gz,gB,gC],[]⟩ w
theorem cK.I8{α:Type}{f:α->List Value}{sz:Nat}{w:World}{B n m:Nat}{A:LP}{l:List α}(h:cK (EF f) sz w B A n l)(hm:m<=n):cK (EF f) sz w B A m (l.take m):=by
 refine⟨by have:=h.1;simp;omega,λh0=>?_⟩;obtain⟨b,o,bp,O,hc⟩:=h.2 ab;exact⟨b,o,bp,O,λk x hx=>hc k x ((List.getElem?_take_of_lt (i:=k) (by have:=(List.getElem?_eq_some_iff.1 hx).1;simp at this;omega)).symm.trans hx)⟩
theorem Da(m:Nat)(A:LP)(n c:Nat)(l:List Int)(w:World)(hm:m<=1000)(h:cK (EF b5) 1 w w.heap.size A n l)(hc:n<=c) :
  Calls prog 94 #[.slice A n c,.int .i64 (m:Int)] w λe ac=>(∃I a5 aA,e=.returned (.slice I a5 aA)/\a5<=m/\∃aW,cK (EF b5) 1 w w.heap.size I a5 aW)/\w=ac:=by
 have H:=ad h;by_cases hn:n<=m
 .have q:decide ((n:Int) > (m:Int))=false:=by simp;omega
  clear h;go_enter func94,ntmps94;go_wp2;go_ret;exact⟨⟨A,n,c,rfl,hn,l,H.o⟩,rfl⟩
 .obtain⟨b,o,rfl,O⟩:=h.some_ ab;have q:decide ((n:Int) > (m:Int))=true:=by simp;omega
  have fW:(0:Int)<=(m:Int):=ab;have ck:(m:Int)<=(c:Int):=ab;clear h;go_enter func94,ntmps94;go_wp2;go_ret;exact⟨⟨_,m,_,rfl,Lb _,_,H.I8 ab⟩,rfl⟩
theorem DM(ak:i<4):strOf [byteOf (97+(i:Int))]=iC i:=by
 have h:∀k:Fin 4,strOf [byteOf (97+((k.val:Nat):Int))]=iC k.val:=by decide
 exact h ⟨i,ak⟩
theorem vR:ca prog 67 128 (.agg #[.string ⟨#[]⟩,.int .i64 0]) 2 24:=ca.mk' Tryz.underlying67 (by kernel_rfl) rfl ab
def sq(G:List (ByteArray×Int)):Prop:=∀i g,G[i]?=some g->g.1=dL i∧-2<=g.2/\g.2<=2
theorem sq.snoc{G:List (ByteArray×Int)}(h:sq G)(ak:G.length=i){v:Int}(h0:-2<=v)(aU:v<=2):sq (G++[(dL i,v)]):=by
 intro k m hm;by_cases ai:k<G.length
 .rw[List.getElem?_append_left ai] at hm;exact h k m hm
 .rw[List.getElem?_append_right ab] at hm;have co:k - G.length=0:=by
   exact vx
  rw[co] at hm;simp at hm;subst hm;have:k=i:=ab;subst this;exact⟨rfl,h0,aU⟩
structure xp(S:World)(u:Nat)(w:World)(A:LP)(n c:Nat)(l:List Int)(ar:Bool)(MA:LP)(mn mc:Nat)(M:List bF)(GA:LP)(gn gc:Nat)(G:List (ByteArray×Int))(au:LP)(a8:Nat):Prop where
 src:cc w (S.heap.size+1) A n c l
 blk:an w (S.heap.size+1+1) 169 #[.pointer (some ⟨S.heap.size+1,0,none⟩),.slice GA gn gc,.slice MA mn mc,.slice none 0 0,.int .i64 24,.bool ar]
 res:an w S.heap.size 70 #[.slice none 0 0,.slice none 0 0,.slice none 0 0]
 ms:Sl w (λb=>S.heap.size+1+1+1<=b/\b<u) MA mn (M.map ek)
 mc:mn<=mc
 rows:lG u 128 2 9 1 w GA gn gc (G.map ix) au gn a8 ((G.map (·.1)).map D.s)
 nm:1<=mn/\mn<=4
 ok:nr M
 ng:gn<=2
 zp:sq G
 ext:Ext S w
 hD:S.heap.size+1+1+1<=u/\u<=w.heap.size
section
variable {S w ac:World} {u:Nat} {A:LP} {n c:Nat} {l:List Int} {ar:Bool} {MA:LP} {mn mc:Nat} {M:List bF} {GA:LP} {gn gc:Nat} {G:List (ByteArray×Int)} {au:LP} {a8:Nat}
theorem pw.JF(h:pw S w A n c l ar MA mn mc M)(ae:1<=mn):xp S w.heap.size w A n c l ar MA mn mc M none 0 0 [] none 0:=
 ⟨h.src,h.blk,h.res,h.ms.sl (λ_ _ h=>h.elim) (λb O aN=>⟨aN,O⟩),h.ms.cap.1,lG.nil _ _ _ _ _ _,⟨ae,h.nm⟩,h.ok,ab,(λi g h=>by cases h),h.ext,by have:=h.blk.lt;omega,Lb _⟩
theorem xp.next(h:xp S u w A n c l ar MA mn mc M GA gn gc G au a8)(hs:cc ac (S.heap.size+1) A n c l)(O:Fr (λb=>b=S.heap.size+1) w ac):xp S u ac A n c l ar MA mn mc M GA gn gc G au a8:=by
 have hD:=h.hD;exact⟨hs,h.blk.on O ab,h.res.on O ab,h.ms.ai λb hp=>O.block b (aC hp.2) (aC hp.1),h.mc,h.rows.cS O (λb O _=>ab),h.nm,h.ok,h.ng,h.zp,Fr.low (M:=λb=>b=S.heap.size+1) ((h.ext.mono λ_ h=>h.elim).trans O) λk ai=>ab,hD.1,by have:=O.size;omega⟩
theorem xp.aj(h:xp S u w A n c l ar MA mn mc M GA gn gc G au a8)(O:Ext w ac):xp S u ac A n c l ar MA mn mc M GA gn gc G au a8:=h.next (h.src.cM O λ_ _ h=>h) (O.mono λ_ h=>h.elim)
theorem xp.add(h:xp S u w A n c l ar MA mn mc M GA gn gc G au a8){ee P:LP}{bG Y:Nat}{g:ByteArray×Int}(aQ:lG u 128 2 9 1 ac ee (gn+1) bG ((G++[g]).map ix) P (gn+1) Y (((G++[g]).map (·.1)).map D.s))
  (J:Fr (λb=>(Value.slice GA gn gc).ownBlock=some b\/(Value.slice au gn a8).ownBlock=some b) w ac) (hn:gn+1<=2) (cc:sq (G++[g])) :
  xp S u (ac.setCell ⟨S.heap.size+1+1,1,none⟩ (.slice ee (gn+1) bG)) A n c l ar MA mn mc M ee (gn+1) bG (G++[g]) P Y:=by
 have hD:=h.hD;have bl:∀b,((Value.slice GA gn gc).ownBlock=some b\/(Value.slice au gn a8).ownBlock=some b)->u<=b:=λb O=>by
  rcases O with O|O
  .exact(h.rows.one.lt O).1
  .exact(h.rows.two.lt O).1
 have ay:Fr (λb=>b=S.heap.size+1+1) ac (ac.setCell ⟨S.heap.size+1+1,1,none⟩ (.slice ee (gn+1) bG)):=(Fr.refl (λb=>b=S.heap.size+1+1) ac).setCell (.inl rfl) _;have hs:=J.size;have bv:=ay.size;refine⟨(h.src.cM J λb O aH=>by have:=bl b aH;omega).cM ay (λb O aH=>ab),(h.blk.on J λaH=>by have:=bl _ aH;omega).aD 1 _,(h.res.on J λaH=>by have:=bl _ aH;omega).on ay ab,
  h.ms.ai λb hp=>(ay.block b (aC hp.2) (aC hp.1)).trans (J.block b (aC hp.2) λaH=>by have:=bl b aH;have:=hp.2;omega),h.mc,aQ.cS ay (λb O _=>ab),h.nm,h.ok,hn,cc,?_,hD.1,ab⟩
 have ae:Ext S ac:=Fr.low (M:=λb=>(Value.slice GA gn gc).ownBlock=some b\/(Value.slice au gn a8).ownBlock=some b) ((h.ext.mono λ_ h=>h.elim).trans J) λk ai=>by have:=bl k ai;omega
 exact zJ
end
def EP(S:World)(gM:Value)(Q:Exit->Act->World->Prop)(K:Act->World->Prop):Prop:=∀(u:Nat) (A:LP) (n c:Nat) (l:List Int) (ar:Bool) (MA:LP) (mn mc:Nat) (M:List bF) (GA:LP) (gn gc:Nat) (G:List (ByteArray×Int)) (au:LP) (a8:Nat) {hr hs gD gJ u8 gF eK br gl ch aK a1 u16 bo bM eN eO eP eQ eR eS eV eW eY eZ e3 e4 e5 u32 e6 e7 e8 e9 fa fb fd fe ff fh fi fl fm fo fp fq fr fs ft fu fv fw fx fy fz fA fB fC fD fE fF u64 fG fH fI fJ fK fL fM fN fO fP fQ fR fS fT fU fX fY fZ f3 f4 f5 f6 f7 f8 f9 ga gb gd ge gf gg gh gi gj gk H am aF aI aJ aS a3 bb be bq bw bC bN bO bW bX b1 b2 b5 b6 ca ci cl cm co cq cr cu cv cw cx cA cC cD cE cF cG cH cI cK cL cM cN cO cP cQ cR cS cT cU cV cW cX cY cZ c4 c5 c6 c7 c8 c9 da db dc dd de df dg dh di dk dl dm dn dr ds dt du dv dw dx dy dz dA dB dC dE dF dH dI dJ dK dM dN dO dP dQ dS dT dU dV dW dX dY dZ d0 d1 d2 d3 d4 d5 d6 d7 d8 d9 ea eb ec ed ee ef eg eh ej ek el em en eo ep eq er es et eu ev ew ex ey ez eA eB eC eD eE eF eG eH eI bQ go gp gq gr gs gt gu gv gw gx gy gz gB gC:Value} (w:World),xp S u w A n c l ar MA mn mc M GA gn gc G au a8->
 Code.wp prog (wI 19) (Exit.then K Q) ⟨#[gM,hr,.pointer (some ⟨S.heap.size,0,none⟩),.pointer (some ⟨S.heap.size+1+1,0,none⟩),hs,gD,gJ,.slice au gn a8,u8,gF,eK,br,gl,ch,aK,a1,u16,bo,bM,eN,eO,eP,eQ,eR,eS,eV,eW,eY,eZ,e3,e4,e5,u32,e6,e7,e8,e9,fa,fb,fd,fe,ff,fh,fi,fl,fm,fo,fp,fq,fr,fs,ft,fu,fv,fw,fx,fy,fz,fA,fB,fC,fD,fE,fF,u64,fG,fH,fI,fJ,fK,fL,fM,fN,fO,fP,fQ,fR,fS,fT,fU,fX,fY,fZ,f3,f4,f5,f6,f7,f8,f9,ga,gb,gd,ge,gf,gg,gh,gi,gj,gk,H,am,aF,aI,aJ,aS,a3,bb,be,bq,bw,bC,bN,bO,bW,bX,b1,b2,b5,b6,ca,ci,cl,cm,co,cq,cr,cu,cv,cw,cx,cA,cC,cD,cE,cF,cG,cH,cI,cK,cL,cM,cN,cO,cP,cQ,cR,cS,cT,cU,cV,cW,cX,cY,cZ,c4,c5,c6,c7,c8,c9,da,db,dc,dd,de,df,dg,dh,di,dk,dl,dm,dn,dr,ds,dt,du,dv,dw,dx,dy,dz,dA,dB,dC,dE,dF,dH,dI,dJ,dK,dM,dN,dO,dP,dQ,dS,dT,dU,dV,dW,dX,dY,dZ,d0,d1,d2,d3,d4,d5,d6,d7,d8,d9,ea,eb,ec,ed,ee,ef,eg,eh,ej,ek,el,em,en,eo,ep,eq,er,es,et,eu,ev,ew,ex,ey,ez,eA,eB,eC,eD,eE,eF,eG,eH,eI,bQ,go,gp,gq,gr,gs,gt,gu,gv,gw,gx,gy,gz,gB,gC],[]⟩ w
theorem tk{w:World}{x:ByteArray×Int}{cs:List Value}:(ix x).rep w P cs↔cs=[.string x.1,.int .i64 x.2]:=by
 unfold ix;rw[bB,ch];exact CR
theorem qX{P:Program}{ops:Array Oper}{Q:Exit->Act->World->Prop}{R:World->World->Prop}{tails:List Nat}{j k:Nat}{f:Nat->PT}{a:Act}{w:World}(h:so P ops Q R tails i (f i) a w)(aD:so P ops Q R tails j (f j) a w)(aU:so P ops Q R tails k (f k) a w):cQ P ops Q R tails (.pick [i,j,k] f) a w:=λm hm=>by
 simp only[Lr,List.not_mem_nil,or_false] at hm;rcases hm with rfl|rfl|rfl
 .exact h
 .exact aD
 .exact aU
theorem Dx(ak:i<3)(O:IntKind.u8.wrap (IntKind.i64.wrap (48+(i:Int)))=bv):(⟨#[103]⟩++strOf [byteOf bv]:ByteArray)=dL i:=by
 subst O;have h:∀k:Fin 3,(⟨#[103]⟩++strOf [byteOf (IntKind.u8.wrap (IntKind.i64.wrap (48+((k.val:Nat):Int))))]:ByteArray)=dL k.val:=by decide
 exact h ⟨i,ak⟩
theorem fk(V:World)(g:Nat)(v1:Int)(h0:V.cell? ⟨g,0,none⟩=some (.int .u8 v1)) :
  (convert 78 9 (.slice (some ⟨g,0,none⟩) 1 1)).run prog V=.ok (.string (strOf [byteOf v1])) V:=by
 have:=run_convert_bytes_arg (P:=prog) V 78 5 Tryz.underlying78 Tryz.underlying5 g 0 1 1 [v1] rfl (λi ak=>by
  obtain rfl:i=0:=ab;exact h0) 9 Tryz.underlying9
 rw[this];rfl
theorem Hg:ca prog 68 137 (.agg #[.string ⟨#[]⟩,.slice none 0 0,.slice none 0 0]) 3 64:=ca.mk' Tryz.underlying68 (by kernel_rfl) rfl ab
theorem CZ:ca prog 134 173 (.agg #[.string ⟨#[]⟩,.bool false]) 2 24:=ca.mk' Tryz.underlying134 (by kernel_rfl) rfl ab
def rh(F:List aA):Prop:=∀i f,F[i]?=some f->f.name=jD i/\(∃n,n<=2/\f.params.map (·.1)=eT n)/\(i=0->f.params=[])/\f.body=.nil
theorem rh.snoc{F:List aA}(h:rh F)(ak:F.length=i){n:Nat}(hn:n<=2)(hp:ps.map (·.1)=eT n)(h0:i=0->ps=[]):rh (F++[⟨jD i,ps,.nil⟩]):=by
 intro k m hm;by_cases ai:k<F.length
 .rw[List.getElem?_append_left ai] at hm;exact h k m hm
 .rw[List.getElem?_append_right ab] at hm;have co:k - F.length=0:=by
   exact vx
  rw[co] at hm;simp at hm;subst hm;have:k=i:=ab;subst this;exact⟨rfl,⟨n,hn,hp⟩,h0,rfl⟩
theorem FI{w:World}{nm:ByteArray}{PA:LP}{pn pc:Nat}(hc:pn<=pc)(h:Sl w P PA pn (ps.map ct)):(dr ⟨nm,ps,.nil⟩).rep w P [.string nm,.slice PA pn pc,.slice none 0 0]:=by
 unfold dr;rw[bB];exact ch.2 ⟨_,rfl,aF.2 ⟨PA,pn,pc,_,rfl,hc,h,aF.2 ⟨none,0,0,[],rfl,Lb _,Sl.bN _,aK.2 rfl⟩⟩⟩
structure zv(S:World)(u:Nat)(w:World)(A:LP)(n c:Nat)(l:List Int)(ar:Bool)(MA:LP)(mn mc:Nat)(M:List bF)(GA:LP)(gn gc:Nat)(G:List (ByteArray×Int))(au:LP)(a8:Nat)(FA:LP)(fn fc:Nat)(F:List aA):Prop where
 src:cc w (S.heap.size+1) A n c l
 blk:an w (S.heap.size+1+1) 169 #[.pointer (some ⟨S.heap.size+1,0,none⟩),.slice GA gn gc,.slice MA mn mc,.slice FA fn fc,.int .i64 24,.bool ar]
 res:an w S.heap.size 70 #[.slice none 0 0,.slice none 0 0,.slice none 0 0]
 ms:Sl w (λb=>S.heap.size+1+1+1<=b/\b<u) MA mn (M.map ek)
 gs:Sl w (λb=>S.heap.size+1+1+1<=b/\b<u) GA gn (G.map ix)
 vs:Sl w (λb=>S.heap.size+1+1+1<=b/\b<u) au gn ((G.map (·.1)).map D.s)
 fs:Gr (λb=>u<=b) u 137 3 w FA fn fc (F.map dr)
 mc:mn<=mc
 gc:gn<=gc
 nm:1<=mn/\mn<=4
 ok:nr M
 ng:gn<=2
 zp:sq G
 nf:fn<=4
 Js:rh F
 ext:Ext S w
 hD:S.heap.size+1+1+1<=u/\u<=w.heap.size
section
variable {S w ac:World} {u io:Nat} {A:LP} {n c:Nat} {l:List Int} {ar:Bool} {MA:LP} {mn mc:Nat} {M:List bF} {GA:LP} {gn gc:Nat} {G:List (ByteArray×Int)} {au:LP} {a8:Nat} {FA:LP} {fn fc:Nat} {F:List aA}
theorem xp.JG(h:xp S io w A n c l ar MA mn mc M GA gn gc G au a8):zv S w.heap.size w A n c l ar MA mn mc M GA gn gc G au a8 none 0 0 []:=by
 have hD:=h.hD;exact⟨h.src,h.blk,h.res,h.ms.mono λb hp=>⟨hp.1,by have:=hp.2;omega⟩,h.rows.one.sl (λb O hp=>⟨by have:=hp.1;omega,O⟩) (λb O aN=>⟨ab,O⟩),h.rows.two.sl (λb O hp=>⟨by have:=hp.1;omega,O⟩) (λb O aN=>⟨ab,O⟩),Gr.nil _ _ _ _ _,h.mc,h.rows.one.cap.1,h.nm,h.ok,h.ng,h.zp,ab,(λi f h=>by cases h),h.ext,ab,Lb _⟩
theorem zv.next(h:zv S u w A n c l ar MA mn mc M GA gn gc G au a8 FA fn fc F)(hs:cc ac (S.heap.size+1) A n c l)(O:Fr (λb=>b=S.heap.size+1) w ac):zv S u ac A n c l ar MA mn mc M GA gn gc G au a8 FA fn fc F:=by
 have hD:=h.hD;have ai:∀b,(S.heap.size+1+1+1<=b/\b<u)->ac.heap[b]?=w.heap[b]?:=λb hp=>O.block b (aC hp.2) (aC hp.1);exact⟨hs,h.blk.on O ab,h.res.on O ab,h.ms.ai ai,h.gs.ai ai,h.vs.ai ai,h.fs.cS O (λb O _=>⟨ab,ab⟩),h.mc,h.gc,h.nm,h.ok,h.ng,h.zp,h.nf,h.Js,Fr.low (M:=λb=>b=S.heap.size+1) ((h.ext.mono λ_ h=>h.elim).trans O) λk ai=>ab,hD.1,by have:=O.size;omega⟩
theorem zv.add(h:zv S u w A n c l ar MA mn mc M GA gn gc G au a8 FA fn fc F){cV:LP}{cd:Nat}{f:aA}(aK:Gr (λb=>u<=b) u 137 3 ac cV (fn+1) cd (F.map dr++[dr f]))(J:Fr (λb=>(Value.slice FA fn fc).ownBlock=some b) w ac)
  (hn:fn+1<=4) (cc:rh (F++[f])):zv S u (ac.setCell ⟨S.heap.size+1+1,3,none⟩ (.slice cV (fn+1) cd)) A n c l ar MA mn mc M GA gn gc G au a8 cV (fn+1) cd (F++[f]):=by
 have hD:=h.hD;have bl:∀b,(Value.slice FA fn fc).ownBlock=some b->u<=b:=λb O=>(h.fs.lt O).1;have ay:Fr (λb=>b=S.heap.size+1+1) ac (ac.setCell ⟨S.heap.size+1+1,3,none⟩ (.slice cV (fn+1) cd)):=(Fr.refl (λb=>b=S.heap.size+1+1) ac).setCell (.inl rfl) _;have hs:=J.size;have bv:=ay.size;have ai:∀b,(S.heap.size+1+1+1<=b/\b<u)->(ac.setCell ⟨S.heap.size+1+1,3,none⟩ (.slice cV (fn+1) cd)).heap[b]?=w.heap[b]?:=λb hp=>(ay.block b (aC hp.2) (aC hp.1)).trans (J.block b (aC hp.2) λaH=>by have:=bl b aH;have:=hp.2;omega);refine⟨(h.src.cM J λb O aH=>by have:=bl b aH;omega).cM ay (λb O aH=>ab),(h.blk.on J λaH=>by have:=bl _ aH;omega).aD 3 _,(h.res.on J λaH=>by have:=bl _ aH;omega).on ay ab,h.ms.ai ai,h.gs.ai ai,h.vs.ai ai,?_,h.mc,h.gc,h.nm,h.ok,h.ng,h.zp,hn,cc,?_,hD.1,ab⟩
 .rw[Li,Lh,Ly];exact aK.cS ay (λb O _=>⟨ab,ab⟩)
 .have ae:Ext S ac:=Fr.low (M:=λb=>(Value.slice FA fn fc).ownBlock=some b) ((h.ext.mono λ_ h=>h.elim).trans J) λk ai=>by have:=bl k ai;omega
  exact zJ
end
def ER(S:World)(gM:Value)(Q:Exit->Act->World->Prop)(K:Act->World->Prop):Prop:=∀(u:Nat) (A:LP) (n c:Nat) (l:List Int) (ar:Bool) (MA:LP) (mn mc:Nat) (M:List bF) (GA:LP) (gn gc:Nat) (G:List (ByteArray×Int)) (au:LP) (a8:Nat) (FA:LP) (fn fc:Nat) (F:List aA) {hr hs gD gJ u8 gF eK br gl ch aK a1 u16 bo bM eN eO eP eQ eR eS eV eW eY eZ e3 e4 e5 u32 e6 e7 e8 e9 fa fb fd fe ff fh fi fl fm fo fp fq fr fs ft fu fv fw fx fy fz fA fB fC fD fE fF u64 fG fH fI fJ fK fL fM fN fO fP fQ fR fS fT fU fX fY fZ f3 f4 f5 f6 f7 f8 f9 ga gb gd ge gf gg gh gi gj gk H am aF aI aJ aS a3 bb be bq bw bC bN bO bW bX b1 b2 b5 b6 ca ci cl cm co cq cr cu cv cw cx cA cC cD cE cF cG cH cI cK cL cM cN cO cP cQ cR cS cT cU cV cW cX cY cZ c4 c5 c6 c7 c8 c9 da db dc dd de df dg dh di dk dl dm dn dr ds dt du dv dw dx dy dz dA dB dC dE dF dH dI dJ dK dM dN dO dP dQ dS dT dU dV dW dX dY dZ d0 d1 d2 d3 d4 d5 d6 d7 d8 d9 ea eb ec ed ee ef eg eh ej ek el em en eo ep eq er es et eu ev ew ex ey ez eA eB eC eD eE eF eG eH eI bQ go gp gq gr gs gt gu gv gw gx gy gz gB gC:Value} (w:World),1<=fn->zv S u w A n c l ar MA mn mc M GA gn gc G au a8 FA fn fc F->
 Code.wp prog (wI 32) (Exit.then K Q) ⟨#[gM,hr,.pointer (some ⟨S.heap.size,0,none⟩),.pointer (some ⟨S.heap.size+1+1,0,none⟩),hs,gD,gJ,.slice au gn a8,u8,gF,eK,br,gl,ch,aK,a1,u16,bo,bM,eN,eO,eP,eQ,eR,eS,eV,eW,eY,eZ,e3,e4,e5,u32,e6,e7,e8,e9,fa,fb,fd,fe,ff,fh,fi,fl,fm,fo,fp,fq,fr,fs,ft,fu,fv,fw,fx,fy,fz,fA,fB,fC,fD,fE,fF,u64,fG,fH,fI,fJ,fK,fL,fM,fN,fO,fP,fQ,fR,fS,fT,fU,fX,fY,fZ,f3,f4,f5,f6,f7,f8,f9,ga,gb,gd,ge,gf,gg,gh,gi,gj,gk,H,am,aF,aI,aJ,aS,a3,bb,be,bq,bw,bC,bN,bO,bW,bX,b1,b2,b5,b6,ca,ci,cl,cm,co,cq,cr,cu,cv,cw,cx,cA,cC,cD,cE,cF,cG,cH,cI,cK,cL,cM,cN,cO,cP,cQ,cR,cS,cT,cU,cV,cW,cX,cY,cZ,c4,c5,c6,c7,c8,c9,da,db,dc,dd,de,df,dg,dh,di,dk,dl,dm,dn,dr,ds,dt,du,dv,dw,dx,dy,dz,dA,dB,dC,dE,dF,dH,dI,dJ,dK,dM,dN,dO,dP,dQ,dS,dT,dU,dV,dW,dX,dY,dZ,d0,d1,d2,d3,d4,d5,d6,d7,d8,d9,ea,eb,ec,ed,ee,ef,eg,eh,ej,ek,el,em,en,eo,ep,eq,er,es,et,eu,ev,ew,ex,ey,ez,eA,eB,eC,eD,eE,eF,eG,eH,eI,bQ,go,gp,gq,gr,gs,gt,gu,gv,gw,gx,gy,gz,gB,gC],[]⟩ w
theorem Dr(ak:i<4)(h0:i≠0)(O:bv=48+(i:Int)):(⟨#[102]⟩++strOf [byteOf bv]:ByteArray)=jD i:=by
 subst O;have h:∀k:Fin 4,k.val≠0->(⟨#[102]⟩++strOf [byteOf (48+((k.val:Nat):Int))]:ByteArray)=jD k.val:=by decide
 exact h ⟨i,ak⟩ h0
theorem DW(ak:i<3)(O:IntKind.u8.wrap (IntKind.i64.wrap (48+(i:Int)))=bv):(⟨#[112]⟩++strOf [byteOf bv]:ByteArray)=uB i:=by
 subst O;have h:∀k:Fin 3,(⟨#[112]⟩++strOf [byteOf (IntKind.u8.wrap (IntKind.i64.wrap (48+((k.val:Nat):Int))))]:ByteArray)=uB k.val:=by decide
 exact h ⟨i,ak⟩
namespace Cs
theorem fW{p:Prop}(h:p:=by
 generalize fn:World.setCell _ _ _=gR;have f:=bc.1.add ba.1 ba.2 ab (nr.snoc bc.1.ok a6 (re:=true) (sz:=0) ab ab (by intro _;rfl));rw[fn] at f;have bx:=ad f;clear fn f a0 ap aj;go_wp2_with(fail);go_roundw
 case rel=>exact⟨i+1,r,da,M++[⟨iC i,true,0⟩],by go_num,ab,bx.o⟩
 case measure=>exact az
 ):p:=h
end Cs
open Cs in
theorem Kv(A:LP)(n c:Nat)(l:List Int)(w:World)(h:cK (EF b5) 1 w w.heap.size A n l)(hc:n<=c)
  (s:∀K,(∀a ac,Code.wp prog (nM 13) (bodyPost prog Tryz.f56 (kj w)) a ac->K a ac)->EO w (.slice A n c) (bodyPost prog Tryz.f56 (kj w)) K) :
  Calls prog 56 #[.slice A n c] w (kj w):=by
 obtain⟨H,gW⟩:=aM h s;clear h s;go_enter func56,ntmps56;go_upto_region 1 with(fail);generalize be:World.alloc _ _=W;have aE:=bb be;have cg:=aT be;have cE:W.heap.size=w.heap.size+1:=by rw[<-be];simp
 have y:=H.cS (Fr.ext aE) aE.size;have aH:=aL aE cg y;clear be aE cg y;go_wp2_with(fail);refine(Da 400 A n c l W ab aH.2.2 hc).mono ?_;rintro e aP ⟨⟨I,a5,aA,rfl,bT,aW,ax⟩,rfl⟩;have bN:=ad ax;clear ax;go_upto_region 2 with(fail);generalize hX:World.alloc _ _=X;have bq:=im hX;have q:an X (w.heap.size+1) 167 #[.slice I a5 aA,.int .i64 0]:=hX▸(an.hY _ _ _ cE.symm).alloc _;have u:an X (w.heap.size+1+1) 169 #[.pointer (some ⟨w.heap.size+1,0,none⟩),.slice none 0 0,.slice none 0 0,.slice none 0 0,.int .i64 24,.bool false]:=hX▸an.hY _ _ _ (by simp[cE]);have av:cc X (w.heap.size+1) I a5 aA aW:=⟨q.lt,by rw[q.cell];rfl,⟨0,ab,by rw[q.cell];rfl⟩,q.frozen 1,(by have:=bN.o;rw[cE] at this;exact this.gf (bq.below ab λ_ _ h=>h)),ab⟩
 have H1:=bG av u (aH.2.1.aj bq) (aH.1.trans bq);clear hX bq q u av aH bN;obtain⟨a0,ap,aj⟩:=H1.2.1.two;go_wp2_with(fail);refine(aX X (w.heap.size+1) I a5 aA aW 3 H1.1 ab ab).mono ?_;rintro e aV ⟨cd,rfl,a2,bL,h,he⟩;have bt:=bG h (H1.2.1.on he.fr ab) (H1.2.2.1.on he.fr ab) (Fr.low (M:=λb=>b=w.heap.size+1) ((H1.2.2.2.mono λ_ h=>h.elim).trans he.fr) λk ai=>ab);clear h he a2 bL a0 ap aj H1;obtain⟨a0,ap,aj⟩:=bt.2.1.two;go_upto_region 3 with(fail);generalize (cd == 1)=ar;generalize hX:World.setCell _ _ _=cA;have J:=dj hX;have u:an cA (w.heap.size+1+1) 169 #[.pointer (some ⟨w.heap.size+1,0,none⟩),.slice none 0 0,.slice none 0 0,.slice none 0 0,.int .i64 24,.bool ar]:=hX▸bt.2.1.aD 5 _;have ao:=bG (bt.1.cM J λb O h=>ab) u (bt.2.2.1.on J ab) (Fr.low (M:=λb=>b=w.heap.size+1+1) ((bt.2.2.2.mono λ_ h=>h.elim).trans J) λk ai=>ab);clear hX J u bt a0 ap aj;obtain⟨a0,ap,aj⟩:=ao.2.1.two;go_wp2_with(fail);refine(aX cA (w.heap.size+1) I a5 aA aW 4 ao.1 ab ab).mono ?_;rintro e cz ⟨bJ,rfl,a2,bL,h,he⟩;obtain⟨F,rfl⟩:=Lg a2;have E:F<4:=ab;have P:=bG h (ao.2.1.on he.fr ab) (ao.2.2.1.on he.fr ab) (Fr.low (M:=λb=>b=w.heap.size+1) ((ao.2.2.2.mono λ_ h=>h.elim).trans he.fr) λk ai=>ab);clear h he a2 bL a0 ap aj ao;go_wp2_with(fail);go_loopw [4] (λce wr=>∃(i:Nat) (MA:LP) (mc:Nat) (M:List bF),ce=.int .i64 i/\i<=1+F/\pw w wr I a5 aA aW ar MA i mc M) (λce _=>1+F - (intOf ce).toNat)
 case atStart=>exact⟨0,none,0,[],rfl,ab,⟨P.1,P.2.1,P.2.2.1,Gr.nil _ _ _ _ _,ab,(λi m h=>by cases h),P.2.2.2⟩⟩
 case round=>
  obtain⟨i,MA,mc,M,rfl,ak,aY⟩:=hrel;clear P;have cb:=ad aY;obtain⟨a0,ap,aj⟩:=aY.blk.two;have a6:M.length=i:=by have:=aY.ms.len;simpa using this
  have b8:=aY.blk.lt;clear aY;by_cases aw:i<1+F
  .have T:(i:Int)<1+(F:Int):=ab;have e2:i<=3:=ab;have bU:=λ(W:World) (v:Int)=>k7 W v;go_upto_region 7 with(fail);clear bU;generalize hX:World.alloc _ _=g8;have a4:=im hX;have hb:an g8 (wr.heap.size+1) 131 #[.string (iC i),.bool false,.int .i64 0]:=by
    rw[<-hX,<-DM (by omega:i<4)];exact an.hY _ _ _ (by simp)
   have bV:=ah (cb.aj a4) hb;have a9:(Value.slice MA i mc).ownBlock≠some (wr.heap.size+1):=λO=>by have:=(cb.ms.lt O).2;omega
   have aI:=ad a9;clear hX a4 hb a0 ap aj a9;obtain⟨a0,ap,aj⟩:=bV.1.blk.two;go_wp2_with(fail);refine(aX g8 (w.heap.size+1) I a5 aA aW 5 bV.1.src ab ab).mono ?_;rintro e Y ⟨a7,rfl,x,aC,h,he⟩;have bP:=ah (bV.1.next h he.fr) (bV.2.on he.fr ab);have cy:wr.heap.size+1<Y.heap.size:=bP.2.lt;clear h he a0 ap aj;by_cases ae:a7=1
   .have q1:(a7 == 1)=true:=by simpa using ae
    clear ae x aC;obtain⟨d0,af,aS⟩:=bP.2.two;go_upto_region 12 with(fail);generalize hX:World.setCell _ _ _=db;have J:=dj hX;have hM:an db (wr.heap.size+1) 131 #[.string (iC i),.bool true,.int .i64 0]:=hX▸bP.2.aD 1 _;have j:=ah (bP.1.fresh ab aI.o J) hM;clear hX J hM d0 af aS bP;obtain⟨a0,ap,aj⟩:=j.1.blk.two;obtain⟨d0,af,aS⟩:=j.2.two;have G:=j.2.lt;refine eU (λ_=>False) [(0,3),(1,3),(2,3),(3,3),(4,3),(5,0),(6,0),(7,1),(8,2),(9,3),(10,3),(11,3),(12,2)] ?_
    iterate 5 refine pf ?_
    iterate 2 refine ph ?_
    refine r9 ?_;generalize bD:World.drew (World.alloc _ _)=Z;have bn:=gX bD;have bH:=lN bD;have bp:=j.1.aj bn;have bc:=ah bp bH;have b0:=bn.size;clear bD bn bH bp a0 ap aj d0 af aS;refine aq rfl (λK hK=>?_);rw[if_pos (by rfl)];refine eX l5 (.tmp 73) (.tmp 75) (by rfl) bc.1.ms bc.2 (e4.2 rfl:(ek ⟨iC i,true,0⟩).rep Z _ _) (by rfl) (by rfl) (by rfl) ab ab ab ?_;intro r da gL bu z c0 ck;have bl:∀b,(Value.slice MA i mc).ownBlock=some b->w.heap.size+1+1+1<=b:=λb O=>(bc.1.ms.lt O).1;have aQ:=bc.1.blk.on z (λO=>by have:=bl _ O;omega);have ba:=ah bu z;clear bu z c0 ck bl;obtain⟨a0,ap,aj⟩:=aQ.two;clear aQ;refine eL hK ?_;clear hK K
    iterate 3 refine pf ?_
    exact fV
   by_cases aD:a7=2
   .have q1:(a7 == 1)=false:=by simpa using ae
    have cp:(a7 == 2)=true:=by simpa using aD
    clear ae aD x aC;obtain⟨a0,ap,aj⟩:=bP.1.blk.two;go_wp2_with(fail);refine(aX Y (w.heap.size+1) I a5 aA aW 3 bP.1.src ab ab).mono ?_;rintro e g9 ⟨cn,rfl,L,aa,h,he⟩;have bd:=ah (bP.1.next h he.fr) (bP.2.on he.fr ab);clear h he a0 ap aj bP;obtain⟨d0,af,aS⟩:=bd.2.two;go_upto_region 12 with(fail);generalize hX:World.setCell _ _ _=db;have J:=dj hX;have hM:an db (wr.heap.size+1) 131 #[.string (iC i),.bool false,.int .i64 (1+cn)]:=hX▸bd.2.aD 2 _;have j:=ah (bd.1.fresh ab aI.o J) hM;clear hX J hM d0 af aS bd;obtain⟨a0,ap,aj⟩:=j.1.blk.two;obtain⟨d0,af,aS⟩:=j.2.two;have G:=j.2.lt;refine eU (λ_=>False) [(0,3),(1,3),(2,3),(3,3),(4,3),(5,0),(6,0),(7,1),(8,2),(9,3),(10,3),(11,3),(12,2)] ?_
    iterate 5 refine pf ?_
    iterate 2 refine ph ?_
    refine r9 ?_;generalize bD:World.drew (World.alloc _ _)=Z;have bn:=gX bD;have bH:=lN bD;have bp:=j.1.aj bn;have bc:=ah bp bH;have b0:=bn.size;clear bD bn bH bp a0 ap aj d0 af aS;refine aq rfl (λK hK=>?_);rw[if_pos (by rfl)];refine eX l5 (.tmp 73) (.tmp 75) (by rfl) bc.1.ms bc.2 (e4.2 rfl:(ek ⟨iC i,false,(1+cn)⟩).rep Z _ _) (by rfl) (by rfl) (by rfl) ab ab ab ?_;intro r da gL bu z c0 ck;have bl:∀b,(Value.slice MA i mc).ownBlock=some b->w.heap.size+1+1+1<=b:=λb O=>(bc.1.ms.lt O).1;have aQ:=bc.1.blk.on z (λO=>by have:=bl _ O;omega);have ba:=ah bu z;clear bu z c0 ck bl;obtain⟨a0,ap,aj⟩:=aQ.two;clear aQ;refine eL hK ?_;clear hK K
    iterate 3 refine pf ?_
    refine aq rfl (λK hK=>?_);go_simp;refine eL hK ?_;clear hK K;refine aB ?_;generalize fn:World.setCell _ _ _=gR;have f:=bc.1.add ba.1 ba.2 ab (nr.snoc bc.1.ok a6 (re:=false) (sz:=(1+cn)) ab ab (by intro h;cases h));rw[fn] at f;have bx:=ad f;clear fn f a0 ap aj;go_wp2_with(fail);go_roundw
    case rel=>exact⟨i+1,r,da,M++[⟨iC i,false,(1+cn)⟩],by go_num,ab,bx.o⟩
    case measure=>exact az
   .have q1:(a7 == 1)=false:=by simpa using ae
    have cp:(a7 == 2)=false:=by simpa using aD
    clear ae aD x aC;go_upto_region 12 with(fail);obtain⟨a0,ap,aj⟩:=bP.1.blk.two;obtain⟨d0,af,aS⟩:=bP.2.two;refine eU (λ_=>False) [(0,3),(1,3),(2,3),(3,3),(4,3),(5,0),(6,0),(7,1),(8,2),(9,3),(10,3),(11,3),(12,2)] ?_
    iterate 5 refine pf ?_
    iterate 2 refine ph ?_
    refine r9 ?_;generalize bD:World.drew (World.alloc _ _)=Z;have bn:=gX bD;have bH:=lN bD;have bp:=bP.1.aj bn;have bc:=ah bp bH;have b0:=bn.size;clear bD bn bH bp a0 ap aj d0 af aS;refine aq rfl (λK hK=>?_);rw[if_pos (by rfl)];refine eX l5 (.tmp 73) (.tmp 75) (by rfl) bc.1.ms bc.2 (e4.2 rfl:(ek ⟨iC i,false,0⟩).rep Z _ _) (by rfl) (by rfl) (by rfl) ab ab ab ?_;intro r da gL bu z c0 ck;have bl:∀b,(Value.slice MA i mc).ownBlock=some b->w.heap.size+1+1+1<=b:=λb O=>(bc.1.ms.lt O).1;have aQ:=bc.1.blk.on z (λO=>by have:=bl _ O;omega);have ba:=ah bu z;clear bu z c0 ck bl;obtain⟨a0,ap,aj⟩:=aQ.two;clear aQ;refine eL hK ?_;clear hK K
    iterate 3 refine pf ?_
    refine aq rfl (λK hK=>?_);go_simp;refine eL hK ?_;clear hK K;refine aB ?_;generalize fn:World.setCell _ _ _=gR;have f:=bc.1.add ba.1 ba.2 ab (nr.snoc bc.1.ok a6 (re:=false) (sz:=0) ab ab (by intro _;rfl));rw[fn] at f;have bx:=ad f;clear fn f a0 ap aj;go_wp2_with(fail);go_roundw
    case rel=>exact⟨i+1,r,da,M++[⟨iC i,false,0⟩],by go_num,ab,bx.o⟩
    case measure=>exact az
  .have T:¬(i:Int)<1+(F:Int):=ab;go_upto_region 13 with(fail);have bR:=gW.o _ (by assumption);unfold EO at bR;exact bR I a5 aA aW ar MA i mc M wr ab cb.o
end Go.Proofs.YtflecliffjbleaaGreat

/- Part 35 of the proof. No condition of its own. -/
import Derived.Test.YtbkhhfajcgkpgaaGreatQ33
namespace Go.Proofs.YtbkhhfajcgkpgaaGreat
open Go.RowKit Go.Proofs.Tryz
set_option maxRecDepth 1000000
set_option maxHeartbeats 25600000
set_option linter.unusedVariables false
variable{bv:Int}{ps:List (ByteArray×Bool)}{cs:List Value}{B g j k z:Nat}{P:Nat→Prop}{e:TypeId}{b:al}{f:az}
def jJ(n:Nat):Code→Option Code
 | .seq a b=>match a with
  | .region k _ _=>if k=n then some (.seq a b) else jJ n b
  | .seq x y=>match jJ n (.seq x y) with
   | some c=>some c
   | none=>jJ n b
  | _=>jJ n b
 | _=>none
noncomputable def vJ(n:Nat):Code:=match (Tryz.f59.body.bind (jJ n)).getD .skip with
 | .seq a _=>a
 | c=>c
noncomputable def m5(n:Nat):Code:=match (Tryz.f59.body.bind (jJ n)).getD .skip with
 | .seq _ b=>b
 | _=>.skip
noncomputable def FV(n:Nat):Code:=(Tryz.f59.body.bind (jJ n)).getD .skip
def j2(w:World)(e:Ending)(ac:World):Prop:=∃(p:bB) (GA:Kr) (gn gc:Nat) (MA:Kr) (mn mc:Nat) (FA:Kr) (fn fc:Nat),e=.returned (.agg #[.slice GA gn gc,.slice MA mn mc,.slice FA fn fc])∧oE p∧gn≤gc∧mn≤mc∧fn≤fc∧
 Sl ac (fresh w ac) GA gn (p.globals.map h8)∧Sl ac (fresh w ac) MA mn (p.ae.map dZ)∧Sl ac (fresh w ac) FA fn (p.funcs.map dd)∧Ext w ac
def mM(M:List bA):Prop:=∀i m,M[i]?=some m→m.name=gk i∧0≤m.size∧m.size≤3∧(m.re=true→m.size=0)
structure oK(J w:World)(A:Kr)(n c:Nat)(l:List Int)(ar:Bool)(MA:Kr)(mn mc:Nat)(M:List bA):Prop where
 src:b0 w (J.heap.size+1) A n c l
 blk:af w (J.heap.size+1+1) 170 #[.pointer (some ⟨J.heap.size+1,0,none⟩),.slice none 0 0,.slice MA mn mc,.slice none 0 0,.int .i64 24,.bool ar]
 res:af w J.heap.size 71 #[.slice none 0 0,.slice none 0 0,.slice none 0 0]
 ms:Gr (fun _=>False) (J.heap.size+1+1+1) 125 3 w MA mn mc (M.map dZ)
 nm:mn≤4
 ok:mM M
 ext:Ext J w
section
variable {J w ac:World} {A:Kr} {n c:Nat} {l:List Int} {ar:Bool} {MA:Kr} {mn mc:Nat} {M:List bA}
theorem oK.next(h:oK J w A n c l ar MA mn mc M)(hs:b0 ac (J.heap.size+1) A n c l)(O:Fr (fun b=>b=J.heap.size+1) w ac):oK J ac A n c l ar MA mn mc M:=
 ⟨hs,h.blk.on O ab,h.res.on O ab,h.ms.cO O (fun b O _=>⟨fun h=>h,ab⟩),h.nm,h.ok,Fr.low (M:=fun b=>b=J.heap.size+1) ((h.ext.mono fun _ h=>h.elim).trans O) fun k aj=>ab⟩
theorem oK.ak(h:oK J w A n c l ar MA mn mc M)(O:Ext w ac):oK J ac A n c l ar MA mn mc M:=h.next (h.src.cG O fun _ _ h=>h) (O.mono fun _ h=>h.elim)
theorem oK.fresh(h:oK J w A n c l ar MA mn mc M)(aJ:J.heap.size+1+1<g)(a8:(Value.slice MA mn mc).ownBlock≠some g)(O:Fr (fun b=>b=g) w ac):oK J ac A n c l ar MA mn mc M:=
 ⟨h.src.cG O (fun b O h=>ab),h.blk.on O ab,h.res.on O ab,h.ms.c7 O.size (fun b aw hp=>O.block b aw (hp.elim (fun h=>h.elim) fun hp j=>by subst j;exact a8 hp)),h.nm,h.ok,Fr.low (M:=fun b=>b=g) ((h.ext.mono fun _ h=>h.elim).trans O) fun k aj=>ab⟩
theorem oK.add(h:oK J w A n c l ar MA mn mc M){eh:Kr}{er:Nat}{m:bA}(aJ:Gr (fun _=>False) (J.heap.size+1+1+1) 125 3 ac eh (mn+1) er (M.map dZ++[dZ m]))(aD:Fr (fun b=>(Value.slice MA mn mc).ownBlock=some b) w ac)
  (hn:mn+1≤4) (b9:mM (M++[m])):oK J (ac.setCell ⟨J.heap.size+1+1,2,none⟩ (.slice eh (mn+1) er)) A n c l ar eh (mn+1) er (M++[m]):=by
 have a8:∀b,(Value.slice MA mn mc).ownBlock=some b→J.heap.size+1+1+1≤b:=fun b O=>(h.ms.lt O).1;have ay:Fr (fun b=>b=J.heap.size+1+1) ac (ac.setCell ⟨J.heap.size+1+1,2,none⟩ (.slice eh (mn+1) er)):=(Fr.refl (fun b=>b=J.heap.size+1+1) ac).setCell (.inl rfl) _;refine⟨(h.src.cG aD fun b O aQ=>by have:=a8 b aQ;omega).cG ay (fun b O aQ=>ab),(h.blk.on aD fun aQ=>by have:=a8 _ aQ;omega).aC 2 _,(h.res.on aD fun aQ=>by have:=a8 _ aQ;omega).on ay ab,?_,hn,b9,
  Fr.low (M:=fun b=>b=J.heap.size+1+1) ((Fr.low (M:=fun b=>(Value.slice MA mn mc).ownBlock=some b) ((h.ext.mono fun _ h=>h.elim).trans aD) fun k aj=>by have:=a8 k aj;omega).mono (fun _ h=>h.elim) |>.trans ay) fun k aj=>ab⟩
 rw[JX,JW,Kd];exact aJ.cO ay (fun b O _=>⟨fun h=>h,ab⟩)
end
theorem mM.snoc{M:List bA}(h:mM M){i:Nat}(al:M.length=i){re:Bool}{sz:Int}(h0:0≤sz)(aT:sz≤3)(b0:re=true→sz=0):mM (M++[⟨gk i,re,sz⟩]):=by
 intro k m hm;by_cases aj:k<M.length
 ·rw[List.getElem?_append_left aj] at hm;exact h k m hm
 ·rw[List.getElem?_append_right ab] at hm;have cn:k - M.length=0:=by
   exact uK
  rw[cn] at hm;simp at hm;subst hm;have:k=i:=ab;subst this;exact⟨rfl,h0,aT,b0⟩
def DS(J:World)(gM:Value)(Q:Exit→Act→World→Prop)(K:Act→World→Prop):Prop:=∀(A:Kr) (n c:Nat) (l:List Int) (ar:Bool) (MA:Kr) (mn mc:Nat) (M:List bA) {hi hj gC gJ Z u8 gF eH cc gd ax bL b9 u16 gj gk eJ eK eM eP eQ eR eS eT eU eV eW eX eY u32 e3 e5 e6 e7 e8 e9 fa fb fd fe ff fh fi fj fk fl fm fo fp fq fr fs ft fu fv fw fx fy fz fA fB u64 fC fD fE fF fG fH fI fL fM fN fO fP fQ fR fS fT fU fV fW fX fY fZ f3 f4 f5 f6 f7 f8 f9 ga gb ge gf gg gh H ag aI aR a6 a9 bf bh bi bo bx bK bP bQ bY bZ b1 b2 b3 cb cd cj ck cm co cp cq cr ct cu cv cx cy cz cA cC cD cE cF cG cH cI cJ cK cL cM cN cO cP cQ cR cS cT cU cV cW cX cY cZ c4 c5 c6 c7 c8 c9 da db dd de dg dh di dj dk dl dm dn dp dq dr ds dt du dx dy dB dC dD dE dF dG dH dI dJ dK dM dN dO dP dQ dR dS dT dU dV dX dY dZ d0 d1 d2 d3 d4 d5 d6 d7 d8 d9 ea eb ec ed ee ef eg eh ei ej ek el em en eo ep eq er es et eu ev ew ex ey ez eA eB eC eF eG gl gm go gp gr gs gt gu gv gw gx gy gz gA gB:Value} (w:World),1≤mn→oK J w A n c l ar MA mn mc M→
 Code.wp prog (vJ 13) (Exit.then K Q) ⟨#[gM,hi,.pointer (some ⟨J.heap.size,0,none⟩),.pointer (some ⟨J.heap.size+1+1,0,none⟩),hj,gC,gJ,Z,u8,gF,eH,cc,gd,ax,bL,b9,u16,gj,gk,eJ,eK,eM,eP,eQ,eR,eS,eT,eU,eV,eW,eX,eY,u32,e3,e5,e6,e7,e8,e9,fa,fb,fd,fe,ff,fh,fi,fj,fk,fl,fm,fo,fp,fq,fr,fs,ft,fu,fv,fw,fx,fy,fz,fA,fB,u64,fC,fD,fE,fF,fG,fH,fI,fL,fM,fN,fO,fP,fQ,fR,fS,fT,fU,fV,fW,fX,fY,fZ,f3,f4,f5,f6,f7,f8,f9,ga,gb,ge,gf,gg,gh,H,ag,aI,aR,a6,a9,bf,bh,bi,bo,bx,bK,bP,bQ,bY,bZ,b1,b2,b3,cb,cd,cj,ck,cm,co,cp,cq,cr,ct,cu,cv,cx,cy,cz,cA,cC,cD,cE,cF,cG,cH,cI,cJ,cK,cL,cM,cN,cO,cP,cQ,cR,cS,cT,cU,cV,cW,cX,cY,cZ,c4,c5,c6,c7,c8,c9,da,db,dd,de,dg,dh,di,dj,dk,dl,dm,dn,dp,dq,dr,ds,dt,du,dx,dy,dB,dC,dD,dE,dF,dG,dH,dI,dJ,dK,dM,dN,dO,dP,dQ,dR,dS,dT,dU,dV,dX,dY,dZ,d0,d1,d2,d3,d4,d5,d6,d7,d8,d9,ea,eb,ec,ed,ee,ef,eg,eh,ei,ej,ek,el,em,en,eo,ep,eq,er,es,et,eu,ev,ew,ex,ey,ez,eA,eB,eC,eF,eG,gl,gm,go,gp,gr,gs,gt,gu,gv,gw,gx,gy,gz,gA,gB],[]⟩ w
theorem cC.HU{α:Type}{f:α→List Value}{sz:Nat}{w:World}{n m:Nat}{A:Kr}{l:List α}(h:cC (EF f) sz w B A n l)(hm:m≤n):cC (EF f) sz w B A m (l.take m):=by
 refine⟨by have:=h.1;simp;omega,fun h0=>?_⟩;obtain⟨b,o,bk,O,hc⟩:=h.2 ab;exact⟨b,o,bk,O,fun k x hx=>hc k x ((List.getElem?_take_of_lt (i:=k) (by have:=(List.getElem?_eq_some_iff.1 hx).1;simp at this;omega)).symm.trans hx)⟩
theorem Cs(m:Nat)(A:Kr)(n c:Nat)(l:List Int)(w:World)(hm:m≤1000)(h:cC (EF b2) 1 w w.heap.size A n l)(hc:n≤c) :
  Calls prog 95 #[.slice A n c,.int .i64 (m:Int)] w fun e ac=>(∃I aZ az,e=.returned (.slice I aZ az)∧aZ≤m∧∃aV,cC (EF b2) 1 w w.heap.size I aZ aV)∧w=ac:=by
 have H:=ad h;by_cases hn:n≤m
 ·have q:decide ((n:Int) > (m:Int))=false:=by simp;omega
  clear h;go_enter func95,ntmps95;go_wp2;go_ret;exact⟨⟨A,n,c,rfl,hn,l,H.o⟩,rfl⟩
 ·obtain⟨b,o,rfl,O⟩:=h.some_ ab;have q:decide ((n:Int) > (m:Int))=true:=by simp;omega
  have ci:(0:Int)≤(m:Int):=ab;have cf:(m:Int)≤(c:Int):=ab;clear h;go_enter func95,ntmps95;go_wp2;go_ret;exact⟨⟨_,m,_,rfl,JQ _,_,H.HU ab⟩,rfl⟩
theorem CZ{i:Nat}(al:i<4):strOf [byteOf (97+(i:Int))]=gk i:=by
 have h:∀k:Fin 4,strOf [byteOf (97+((k.val:Nat):Int))]=gk k.val:=by decide
 exact h ⟨i,al⟩
theorem u5:bX prog 68 136 (.agg #[.string ⟨#[]⟩,.int .i64 0]) 2 24:=bX.mk' Tryz.underlying68 (by kernel_rfl) rfl ab
def rJ(G:List (ByteArray×Int)):Prop:=∀i g,G[i]?=some g→g.1=dv i∧-2≤g.2∧g.2≤2
theorem rJ.snoc{G:List (ByteArray×Int)}(h:rJ G){i:Nat}(al:G.length=i){v:Int}(h0:-2≤v)(aT:v≤2):rJ (G++[(dv i,v)]):=by
 intro k m hm;by_cases aj:k<G.length
 ·rw[List.getElem?_append_left aj] at hm;exact h k m hm
 ·rw[List.getElem?_append_right ab] at hm;have cn:k - G.length=0:=by
   exact uK
  rw[cn] at hm;simp at hm;subst hm;have:k=i:=ab;subst this;exact⟨rfl,h0,aT⟩
structure wD(J:World)(I:Nat)(w:World)(A:Kr)(n c:Nat)(l:List Int)(ar:Bool)(MA:Kr)(mn mc:Nat)(M:List bA)(GA:Kr)(gn gc:Nat)(G:List (ByteArray×Int))(o:Kr)(u:Nat):Prop where
 src:b0 w (J.heap.size+1) A n c l
 blk:af w (J.heap.size+1+1) 170 #[.pointer (some ⟨J.heap.size+1,0,none⟩),.slice GA gn gc,.slice MA mn mc,.slice none 0 0,.int .i64 24,.bool ar]
 res:af w J.heap.size 71 #[.slice none 0 0,.slice none 0 0,.slice none 0 0]
 ms:Sl w (fun b=>J.heap.size+1+1+1≤b∧b<I) MA mn (M.map dZ)
 mc:mn≤mc
 rows:k4 I 136 2 9 1 w GA gn gc (G.map h8) o gn u ((G.map (·.1)).map D.s)
 nm:1≤mn∧mn≤4
 ok:mM M
 ng:gn≤2
 yz:rJ G
 ext:Ext J w
 hD:J.heap.size+1+1+1≤I∧I≤w.heap.size
section
variable {J w ac:World} {I:Nat} {A:Kr} {n c:Nat} {l:List Int} {ar:Bool} {MA:Kr} {mn mc:Nat} {M:List bA} {GA:Kr} {gn gc:Nat} {G:List (ByteArray×Int)} {o:Kr} {u:Nat}
theorem oK.Iu(h:oK J w A n c l ar MA mn mc M)(ae:1≤mn):wD J w.heap.size w A n c l ar MA mn mc M none 0 0 [] none 0:=
 ⟨h.src,h.blk,h.res,h.ms.sl (fun _ _ h=>h.elim) (fun b O aL=>⟨aL,O⟩),h.ms.cap.1,k4.nil _ _ _ _ _ _,⟨ae,h.nm⟩,h.ok,ab,(fun i g h=>by cases h),h.ext,by have:=h.blk.lt;omega,JQ _⟩
theorem wD.next(h:wD J I w A n c l ar MA mn mc M GA gn gc G o u)(hs:b0 ac (J.heap.size+1) A n c l)(O:Fr (fun b=>b=J.heap.size+1) w ac):wD J I ac A n c l ar MA mn mc M GA gn gc G o u:=by
 have hD:=h.hD;exact⟨hs,h.blk.on O ab,h.res.on O ab,h.ms.aj fun b hp=>O.block b (aH hp.2) (aH hp.1),h.mc,h.rows.cO O (fun b O _=>ab),h.nm,h.ok,h.ng,h.yz,Fr.low (M:=fun b=>b=J.heap.size+1) ((h.ext.mono fun _ h=>h.elim).trans O) fun k aj=>ab,hD.1,by have:=O.size;omega⟩
theorem wD.ak(h:wD J I w A n c l ar MA mn mc M GA gn gc G o u)(O:Ext w ac):wD J I ac A n c l ar MA mn mc M GA gn gc G o u:=h.next (h.src.cG O fun _ _ h=>h) (O.mono fun _ h=>h.elim)
theorem wD.add(h:wD J I w A n c l ar MA mn mc M GA gn gc G o u){ee Q:Kr}{bw aq:Nat}{g:ByteArray×Int}(aU:k4 I 136 2 9 1 ac ee (gn+1) bw ((G++[g]).map h8) Q (gn+1) aq (((G++[g]).map (·.1)).map D.s))
  (aD:Fr (fun b=>(Value.slice GA gn gc).ownBlock=some b∨(Value.slice o gn u).ownBlock=some b) w ac) (hn:gn+1≤2) (b9:rJ (G++[g])) :
  wD J I (ac.setCell ⟨J.heap.size+1+1,1,none⟩ (.slice ee (gn+1) bw)) A n c l ar MA mn mc M ee (gn+1) bw (G++[g]) Q aq:=by
 have hD:=h.hD;have a8:∀b,((Value.slice GA gn gc).ownBlock=some b∨(Value.slice o gn u).ownBlock=some b)→I≤b:=fun b O=>by
  rcases O with O|O
  ·exact(h.rows.one.lt O).1
  ·exact(h.rows.two.lt O).1
 have ay:Fr (fun b=>b=J.heap.size+1+1) ac (ac.setCell ⟨J.heap.size+1+1,1,none⟩ (.slice ee (gn+1) bw)):=(Fr.refl (fun b=>b=J.heap.size+1+1) ac).setCell (.inl rfl) _;have hs:=aD.size;have bz:=ay.size;refine⟨(h.src.cG aD fun b O aQ=>by have:=a8 b aQ;omega).cG ay (fun b O aQ=>ab),(h.blk.on aD fun aQ=>by have:=a8 _ aQ;omega).aC 1 _,(h.res.on aD fun aQ=>by have:=a8 _ aQ;omega).on ay ab,
  h.ms.aj fun b hp=>(ay.block b (aH hp.2) (aH hp.1)).trans (aD.block b (aH hp.2) fun aQ=>by have:=a8 b aQ;have:=hp.2;omega),h.mc,aU.cO ay (fun b O _=>ab),h.nm,h.ok,hn,b9,?_,hD.1,ab⟩
 have ae:Ext J ac:=Fr.low (M:=fun b=>(Value.slice GA gn gc).ownBlock=some b∨(Value.slice o gn u).ownBlock=some b) ((h.ext.mono fun _ h=>h.elim).trans aD) fun k aj=>by have:=a8 k aj;omega
 exact yR
end
def DT(J:World)(gM:Value)(Q:Exit→Act→World→Prop)(K:Act→World→Prop):Prop:=∀(I:Nat) (A:Kr) (n c:Nat) (l:List Int) (ar:Bool) (MA:Kr) (mn mc:Nat) (M:List bA) (GA:Kr) (gn gc:Nat) (G:List (ByteArray×Int)) (o:Kr) (u:Nat) {hi hj gC gJ u8 gF eH cc gd ax bL b9 u16 gj gk eJ eK eM eP eQ eR eS eT eU eV eW eX eY u32 e3 e5 e6 e7 e8 e9 fa fb fd fe ff fh fi fj fk fl fm fo fp fq fr fs ft fu fv fw fx fy fz fA fB u64 fC fD fE fF fG fH fI fL fM fN fO fP fQ fR fS fT fU fV fW fX fY fZ f3 f4 f5 f6 f7 f8 f9 ga gb ge gf gg gh H ag aI aR a6 a9 bf bh bi bo bx bK bP bQ bY bZ b1 b2 b3 cb cd cj ck cm co cp cq cr ct cu cv cx cy cz cA cC cD cE cF cG cH cI cJ cK cL cM cN cO cP cQ cR cS cT cU cV cW cX cY cZ c4 c5 c6 c7 c8 c9 da db dd de dg dh di dj dk dl dm dn dp dq dr ds dt du dx dy dB dC dD dE dF dG dH dI dJ dK dM dN dO dP dQ dR dS dT dU dV dX dY dZ d0 d1 d2 d3 d4 d5 d6 d7 d8 d9 ea eb ec ed ee ef eg eh ei ej ek el em en eo ep eq er es et eu ev ew ex ey ez eA eB eC eF eG gl gm go gp gr gs gt gu gv gw gx gy gz gA gB:Value} (w:World),wD J I w A n c l ar MA mn mc M GA gn gc G o u→
 Code.wp prog (vJ 19) (Exit.then K Q) ⟨#[gM,hi,.pointer (some ⟨J.heap.size,0,none⟩),.pointer (some ⟨J.heap.size+1+1,0,none⟩),hj,gC,gJ,.slice o gn u,u8,gF,eH,cc,gd,ax,bL,b9,u16,gj,gk,eJ,eK,eM,eP,eQ,eR,eS,eT,eU,eV,eW,eX,eY,u32,e3,e5,e6,e7,e8,e9,fa,fb,fd,fe,ff,fh,fi,fj,fk,fl,fm,fo,fp,fq,fr,fs,ft,fu,fv,fw,fx,fy,fz,fA,fB,u64,fC,fD,fE,fF,fG,fH,fI,fL,fM,fN,fO,fP,fQ,fR,fS,fT,fU,fV,fW,fX,fY,fZ,f3,f4,f5,f6,f7,f8,f9,ga,gb,ge,gf,gg,gh,H,ag,aI,aR,a6,a9,bf,bh,bi,bo,bx,bK,bP,bQ,bY,bZ,b1,b2,b3,cb,cd,cj,ck,cm,co,cp,cq,cr,ct,cu,cv,cx,cy,cz,cA,cC,cD,cE,cF,cG,cH,cI,cJ,cK,cL,cM,cN,cO,cP,cQ,cR,cS,cT,cU,cV,cW,cX,cY,cZ,c4,c5,c6,c7,c8,c9,da,db,dd,de,dg,dh,di,dj,dk,dl,dm,dn,dp,dq,dr,ds,dt,du,dx,dy,dB,dC,dD,dE,dF,dG,dH,dI,dJ,dK,dM,dN,dO,dP,dQ,dR,dS,dT,dU,dV,dX,dY,dZ,d0,d1,d2,d3,d4,d5,d6,d7,d8,d9,ea,eb,ec,ed,ee,ef,eg,eh,ei,ej,ek,el,em,en,eo,ep,eq,er,es,et,eu,ev,ew,ex,ey,ez,eA,eB,eC,eF,eG,gl,gm,go,gp,gr,gs,gt,gu,gv,gw,gx,gy,gz,gA,gB],[]⟩ w
theorem sH{w:World}{x:ByteArray×Int}:(h8 x).rep w P cs↔cs=[.string x.1,.int .i64 x.2]:=by
 unfold h8;rw[bu,b9];exact Ca
theorem qj{P:Program}{ops:Array Oper}{Q:Exit→Act→World→Prop}{R:World→World→Prop}{tails:List Nat}{i:Nat}{f:Nat→PT}{a:Act}{w:World}(h:rI P ops Q R tails i (f i) a w)(aC:rI P ops Q R tails j (f j) a w)(aT:rI P ops Q R tails k (f k) a w):c5 P ops Q R tails (.pick [i,j,k] f) a w:=fun m hm=>by
 simp only[J6,List.not_mem_nil,or_false] at hm;rcases hm with rfl|rfl|rfl
 ·exact h
 ·exact aC
 ·exact aT
theorem CN{i:Nat}(al:i<3)(O:IntKind.u8.wrap (IntKind.i64.wrap (48+(i:Int)))=bv):(⟨#[103]⟩++strOf [byteOf bv]:ByteArray)=dv i:=by
 subst O;have h:∀k:Fin 3,(⟨#[103]⟩++strOf [byteOf (IntKind.u8.wrap (IntKind.i64.wrap (48+((k.val:Nat):Int))))]:ByteArray)=dv k.val:=by decide
 exact h ⟨i,al⟩
theorem e4(V:World)(g:Nat)(v1:Int)(h0:V.cell? ⟨g,0,none⟩=some (.int .u8 v1)) :
  (convert 85 9 (.slice (some ⟨g,0,none⟩) 1 1)).run prog V=.ok (.string (strOf [byteOf v1])) V:=by
 have:=run_convert_bytes_arg (P:=prog) V 85 5 Tryz.underlying85 Tryz.underlying5 g 0 1 1 [v1] rfl (fun i al=>by
  obtain rfl:i=0:=ab;exact h0) 9 Tryz.underlying9
 rw[this];rfl
theorem Ge:bX prog 69 143 (.agg #[.string ⟨#[]⟩,.slice none 0 0,.slice none 0 0]) 3 64:=bX.mk' Tryz.underlying69 (by kernel_rfl) rfl ab
theorem Gj:bX prog 140 174 (.agg #[.string ⟨#[]⟩,.bool false]) 2 24:=bX.mk' Tryz.underlying140 (by kernel_rfl) rfl ab
def qx(F:List az):Prop:=∀i f,F[i]?=some f→f.name=iJ i∧(∃n,n≤2∧f.params.map (·.1)=eL n)∧(i=0→f.params=[])∧f.body=.nil
theorem qx.snoc{F:List az}(h:qx F){i:Nat}(al:F.length=i){n:Nat}(hn:n≤2)(hp:ps.map (·.1)=eL n)(h0:i=0→ps=[]):qx (F++[⟨iJ i,ps,.nil⟩]):=by
 intro k m hm;by_cases aj:k<F.length
 ·rw[List.getElem?_append_left aj] at hm;exact h k m hm
 ·rw[List.getElem?_append_right ab] at hm;have cn:k - F.length=0:=by
   exact uK
  rw[cn] at hm;simp at hm;subst hm;have:k=i:=ab;subst this;exact⟨rfl,⟨n,hn,hp⟩,h0,rfl⟩
theorem EN{w:World}{nm:ByteArray}{PA:Kr}{pn pc:Nat}(hc:pn≤pc)(h:Sl w P PA pn (ps.map df)):(dd ⟨nm,ps,.nil⟩).rep w P [.string nm,.slice PA pn pc,.slice none 0 0]:=by
 unfold dd;rw[bu];exact b9.2 ⟨_,rfl,aD.2 ⟨PA,pn,pc,_,rfl,hc,h,aD.2 ⟨none,0,0,[],rfl,JQ _,Sl.bG _,aJ.2 rfl⟩⟩⟩
structure yG(J:World)(I:Nat)(w:World)(A:Kr)(n c:Nat)(l:List Int)(ar:Bool)(MA:Kr)(mn mc:Nat)(M:List bA)(GA:Kr)(gn gc:Nat)(G:List (ByteArray×Int))(o:Kr)(u:Nat)(FA:Kr)(fn fc:Nat)(F:List az):Prop where
 src:b0 w (J.heap.size+1) A n c l
 blk:af w (J.heap.size+1+1) 170 #[.pointer (some ⟨J.heap.size+1,0,none⟩),.slice GA gn gc,.slice MA mn mc,.slice FA fn fc,.int .i64 24,.bool ar]
 res:af w J.heap.size 71 #[.slice none 0 0,.slice none 0 0,.slice none 0 0]
 ms:Sl w (fun b=>J.heap.size+1+1+1≤b∧b<I) MA mn (M.map dZ)
 gs:Sl w (fun b=>J.heap.size+1+1+1≤b∧b<I) GA gn (G.map h8)
 vs:Sl w (fun b=>J.heap.size+1+1+1≤b∧b<I) o gn ((G.map (·.1)).map D.s)
 fs:Gr (fun b=>I≤b) I 143 3 w FA fn fc (F.map dd)
 mc:mn≤mc
 gc:gn≤gc
 nm:1≤mn∧mn≤4
 ok:mM M
 ng:gn≤2
 yz:rJ G
 nf:fn≤4
 Ie:qx F
 ext:Ext J w
 hD:J.heap.size+1+1+1≤I∧I≤w.heap.size
section
variable {J w ac:World} {I ic:Nat} {A:Kr} {n c:Nat} {l:List Int} {ar:Bool} {MA:Kr} {mn mc:Nat} {M:List bA} {GA:Kr} {gn gc:Nat} {G:List (ByteArray×Int)} {o:Kr} {u:Nat} {FA:Kr} {fn fc:Nat} {F:List az}
theorem wD.Iv(h:wD J ic w A n c l ar MA mn mc M GA gn gc G o u):yG J w.heap.size w A n c l ar MA mn mc M GA gn gc G o u none 0 0 []:=by
 have hD:=h.hD;exact⟨h.src,h.blk,h.res,h.ms.mono fun b hp=>⟨hp.1,by have:=hp.2;omega⟩,h.rows.one.sl (fun b O hp=>⟨by have:=hp.1;omega,O⟩) (fun b O aL=>⟨ab,O⟩),h.rows.two.sl (fun b O hp=>⟨by have:=hp.1;omega,O⟩) (fun b O aL=>⟨ab,O⟩),Gr.nil _ _ _ _ _,h.mc,h.rows.one.cap.1,h.nm,h.ok,h.ng,h.yz,ab,(fun i f h=>by cases h),h.ext,ab,JQ _⟩
theorem yG.next(h:yG J I w A n c l ar MA mn mc M GA gn gc G o u FA fn fc F)(hs:b0 ac (J.heap.size+1) A n c l)(O:Fr (fun b=>b=J.heap.size+1) w ac):yG J I ac A n c l ar MA mn mc M GA gn gc G o u FA fn fc F:=by
 have hD:=h.hD;have aj:∀b,(J.heap.size+1+1+1≤b∧b<I)→ac.heap[b]?=w.heap[b]?:=fun b hp=>O.block b (aH hp.2) (aH hp.1);exact⟨hs,h.blk.on O ab,h.res.on O ab,h.ms.aj aj,h.gs.aj aj,h.vs.aj aj,h.fs.cO O (fun b O _=>⟨ab,ab⟩),h.mc,h.gc,h.nm,h.ok,h.ng,h.yz,h.nf,h.Ie,Fr.low (M:=fun b=>b=J.heap.size+1) ((h.ext.mono fun _ h=>h.elim).trans O) fun k aj=>ab,hD.1,by have:=O.size;omega⟩
theorem yG.add(h:yG J I w A n c l ar MA mn mc M GA gn gc G o u FA fn fc F){cR:Kr}{cM:Nat}(aJ:Gr (fun b=>I≤b) I 143 3 ac cR (fn+1) cM (F.map dd++[dd f]))(aD:Fr (fun b=>(Value.slice FA fn fc).ownBlock=some b) w ac)
  (hn:fn+1≤4) (b9:qx (F++[f])):yG J I (ac.setCell ⟨J.heap.size+1+1,3,none⟩ (.slice cR (fn+1) cM)) A n c l ar MA mn mc M GA gn gc G o u cR (fn+1) cM (F++[f]):=by
 have hD:=h.hD;have a8:∀b,(Value.slice FA fn fc).ownBlock=some b→I≤b:=fun b O=>(h.fs.lt O).1;have ay:Fr (fun b=>b=J.heap.size+1+1) ac (ac.setCell ⟨J.heap.size+1+1,3,none⟩ (.slice cR (fn+1) cM)):=(Fr.refl (fun b=>b=J.heap.size+1+1) ac).setCell (.inl rfl) _;have hs:=aD.size;have bz:=ay.size;have aj:∀b,(J.heap.size+1+1+1≤b∧b<I)→(ac.setCell ⟨J.heap.size+1+1,3,none⟩ (.slice cR (fn+1) cM)).heap[b]?=w.heap[b]?:=fun b hp=>(ay.block b (aH hp.2) (aH hp.1)).trans (aD.block b (aH hp.2) fun aQ=>by have:=a8 b aQ;have:=hp.2;omega);refine⟨(h.src.cG aD fun b O aQ=>by have:=a8 b aQ;omega).cG ay (fun b O aQ=>ab),(h.blk.on aD fun aQ=>by have:=a8 _ aQ;omega).aC 3 _,(h.res.on aD fun aQ=>by have:=a8 _ aQ;omega).on ay ab,h.ms.aj aj,h.gs.aj aj,h.vs.aj aj,?_,h.mc,h.gc,h.nm,h.ok,h.ng,h.yz,hn,b9,?_,hD.1,ab⟩
 ·rw[JX,JW,Kd];exact aJ.cO ay (fun b O _=>⟨ab,ab⟩)
 ·have ae:Ext J ac:=Fr.low (M:=fun b=>(Value.slice FA fn fc).ownBlock=some b) ((h.ext.mono fun _ h=>h.elim).trans aD) fun k aj=>by have:=a8 k aj;omega
  exact yR
end
def DU(J:World)(gM:Value)(Q:Exit→Act→World→Prop)(K:Act→World→Prop):Prop:=∀(I:Nat) (A:Kr) (n c:Nat) (l:List Int) (ar:Bool) (MA:Kr) (mn mc:Nat) (M:List bA) (GA:Kr) (gn gc:Nat) (G:List (ByteArray×Int)) (o:Kr) (u:Nat) (FA:Kr) (fn fc:Nat) (F:List az) {hi hj gC gJ u8 gF eH cc gd ax bL b9 u16 gj gk eJ eK eM eP eQ eR eS eT eU eV eW eX eY u32 e3 e5 e6 e7 e8 e9 fa fb fd fe ff fh fi fj fk fl fm fo fp fq fr fs ft fu fv fw fx fy fz fA fB u64 fC fD fE fF fG fH fI fL fM fN fO fP fQ fR fS fT fU fV fW fX fY fZ f3 f4 f5 f6 f7 f8 f9 ga gb ge gf gg gh H ag aI aR a6 a9 bf bh bi bo bx bK bP bQ bY bZ b1 b2 b3 cb cd cj ck cm co cp cq cr ct cu cv cx cy cz cA cC cD cE cF cG cH cI cJ cK cL cM cN cO cP cQ cR cS cT cU cV cW cX cY cZ c4 c5 c6 c7 c8 c9 da db dd de dg dh di dj dk dl dm dn dp dq dr ds dt du dx dy dB dC dD dE dF dG dH dI dJ dK dM dN dO dP dQ dR dS dT dU dV dX dY dZ d0 d1 d2 d3 d4 d5 d6 d7 d8 d9 ea eb ec ed ee ef eg eh ei ej ek el em en eo ep eq er es et eu ev ew ex ey ez eA eB eC eF eG gl gm go gp gr gs gt gu gv gw gx gy gz gA gB:Value} (w:World),1≤fn→yG J I w A n c l ar MA mn mc M GA gn gc G o u FA fn fc F→
 Code.wp prog (vJ 32) (Exit.then K Q) ⟨#[gM,hi,.pointer (some ⟨J.heap.size,0,none⟩),.pointer (some ⟨J.heap.size+1+1,0,none⟩),hj,gC,gJ,.slice o gn u,u8,gF,eH,cc,gd,ax,bL,b9,u16,gj,gk,eJ,eK,eM,eP,eQ,eR,eS,eT,eU,eV,eW,eX,eY,u32,e3,e5,e6,e7,e8,e9,fa,fb,fd,fe,ff,fh,fi,fj,fk,fl,fm,fo,fp,fq,fr,fs,ft,fu,fv,fw,fx,fy,fz,fA,fB,u64,fC,fD,fE,fF,fG,fH,fI,fL,fM,fN,fO,fP,fQ,fR,fS,fT,fU,fV,fW,fX,fY,fZ,f3,f4,f5,f6,f7,f8,f9,ga,gb,ge,gf,gg,gh,H,ag,aI,aR,a6,a9,bf,bh,bi,bo,bx,bK,bP,bQ,bY,bZ,b1,b2,b3,cb,cd,cj,ck,cm,co,cp,cq,cr,ct,cu,cv,cx,cy,cz,cA,cC,cD,cE,cF,cG,cH,cI,cJ,cK,cL,cM,cN,cO,cP,cQ,cR,cS,cT,cU,cV,cW,cX,cY,cZ,c4,c5,c6,c7,c8,c9,da,db,dd,de,dg,dh,di,dj,dk,dl,dm,dn,dp,dq,dr,ds,dt,du,dx,dy,dB,dC,dD,dE,dF,dG,dH,dI,dJ,dK,dM,dN,dO,dP,dQ,dR,dS,dT,dU,dV,dX,dY,dZ,d0,d1,d2,d3,d4,d5,d6,d7,d8,d9,ea,eb,ec,ed,ee,ef,eg,eh,ei,ej,ek,el,em,en,eo,ep,eq,er,es,et,eu,ev,ew,ex,ey,ez,eA,eB,eC,eF,eG,gl,gm,go,gp,gr,gs,gt,gu,gv,gw,gx,gy,gz,gA,gB],[]⟩ w
theorem CG{i:Nat}(al:i<4)(h0:i≠0)(O:bv=48+(i:Int)):(⟨#[102]⟩++strOf [byteOf bv]:ByteArray)=iJ i:=by
 subst O;have h:∀k:Fin 4,k.val≠0→(⟨#[102]⟩++strOf [byteOf (48+((k.val:Nat):Int))]:ByteArray)=iJ k.val:=by decide
 exact h ⟨i,al⟩ h0
theorem C9{i:Nat}(al:i<3)(O:IntKind.u8.wrap (IntKind.i64.wrap (48+(i:Int)))=bv):(⟨#[112]⟩++strOf [byteOf bv]:ByteArray)=tL i:=by
 subst O;have h:∀k:Fin 3,(⟨#[112]⟩++strOf [byteOf (IntKind.u8.wrap (IntKind.i64.wrap (48+((k.val:Nat):Int))))]:ByteArray)=tL k.val:=by decide
 exact h ⟨i,al⟩
theorem qx.la{G:List (ByteArray×Int)}{M:List bA}{F:List az}(aJ:rJ G)(bN:G.length≤2)(hm:mM M)(ay:1≤M.length∧M.length≤4)(aD:∀i f,F[i]?=some f→f.name=iJ i∧(∃n,n≤2∧f.params.map (·.1)=eL n)∧(i=0→f.params=[]))(ch:1≤F.length∧F.length≤4):gh ⟨G,M,F⟩:=
 ⟨bN,ay,ch,aJ,hm,aD⟩
theorem Di{F:List az}{i:Nat}(aD:F[i]?=some f)(b:al):(F.set i {f with body:=b}).map (fun f=>(f.name,f.params))=F.map fun f=>(f.name,f.params):=by
 exact FB
theorem yn{F:List az}{i:Nat}(aD:F[i]?=some f)(b:al):(F.set i {f with body:=b}).map (·.name)=F.map (·.name):=by
 exact FB
structure uD(G:List (ByteArray×Int))(M:List bA)(F:List az)(k L:Nat):Prop where
 la:∀i f,F[i]?=some f→f.name=iJ i∧(∃n,n≤2∧f.params.map (·.1)=eL n)∧(i=0→f.params=[])
 made:∀i f,F[i]?=some f→i<k→eN (gj ⟨G,M,F⟩ f) 2 (ft ⟨G,M,F⟩++cn f.params) (a5 ⟨G,M,F⟩++f.params.map (·.1)) f.body
 bG:∀i f,F[i]?=some f→k≤i→f.body=.nil
 num:(F.map fun f=>f.body.num).sum+2*L≤48
theorem qx.start{G:List (ByteArray×Int)}{M:List bA}{F:List az}(h:qx F):uD G M F 0 24:=by
 refine⟨fun i f aD=>⟨(h i f aD).1,(h i f aD).2.1,(h i f aD).2.2.1⟩,fun i f _ al=>ab,fun i f aD _=>(h i f aD).2.2.2,?_⟩;have h0:(F.map fun f=>f.body.num).sum=0:=by
  have ae:F.map (fun f=>f.body.num)=F.map fun _=>0:=List.map_congr_left fun f aD=>by
   obtain⟨i,al⟩:=List.getElem?_of_mem aD;rw[(h i f al).2.2.2];rfl
  rw[ae];clear ae h
  induction F with
  | nil=>rfl
  | cons f F ao=>simpa using ao
 omega
theorem EY{F:List az}:∀{i:Nat} {f:az},F[i]?=some f→f.body=.nil→((F.set i {f with body:=b}).map fun f=>f.body.num).sum=(F.map fun f=>f.body.num).sum+b.num:=by
 induction F with
 | nil=>intro i f aD;simp at aD
 | cons g F ao=>
  intro i f aD hn
  cases i with
  | zero=>
   simp at aD;subst aD;simp[hn,al.num]
   omega
  | succ i=>
   simp at aD;have:=ao (i:=i) aD hn;simp only[List.set_cons_succ,JW,List.sum_cons,this];omega
theorem uD.next{G:List (ByteArray×Int)}{M:List bA}{F:List az}{L X:Nat}(h:uD G M F k L)(aD:F[k]?=some f){ls:List ax}(hm:Made (gj ⟨G,M,F⟩ f) 2 (ft ⟨G,M,F⟩++cn f.params) (a5 ⟨G,M,F⟩++f.params.map (·.1)) L X ls):
  uD G M (F.set k {f with body:=.eA ls}) (k+1) X:=by
 have hs:=Di aD (.eA ls);have hn:=yn aD (.eA ls);have aw:=(List.getElem?_eq_some_iff.1 aD).1;have hG:∀g,gj ⟨G,M,F.set k {f with body:=.eA ls}⟩ g=gj ⟨G,M,F⟩ g:=fun g=>by simp only[gj,sigs,hs]
 have hT:a5 ⟨G,M,F.set k {f with body:=.eA ls}⟩=a5 ⟨G,M,F⟩:=by simp only[a5,ft,hn]
 have P:∀i g,(F.set k {f with body:=.eA ls})[i]?=some g→(i=k∧g={f with body:=.eA ls})∨(i≠k∧F[i]?=some g):=fun i g aJ=>by
  by_cases al:k=i
  ·subst al;rw[List.getElem?_set_self aw] at aJ;injection aJ with aJ;exact .inl ⟨rfl,aJ.symm⟩
  ·rw[List.getElem?_set_ne al] at aJ;exact .inr ⟨fun h=>al h.symm,aJ⟩
 refine⟨fun i g aJ=>?_,fun i g aJ al=>?_,fun i g aJ al=>?_,?_⟩
 ·rcases P i g aJ with⟨rfl,rfl⟩|⟨_,aC⟩
  ·exact h.la _ f aD
  ·exact h.la _ _ aC
 ·rw[hG,hT];rcases P i g aJ with⟨rfl,rfl⟩|⟨ae,aC⟩
  ·exact hm.wf
  ·exact h.made i g aC ab
 ·rcases P i g aJ with⟨rfl,rfl⟩|⟨ae,aC⟩
  ·omega
  ·exact h.bG i g aC ab
 ·rw[EY aD (h.bG k f aD (JQ _))];have ae:=hm.num;have aC:=hm.le;have aT:=h.num;omega
theorem uD.wf{G:List (ByteArray×Int)}{M:List bA}{F:List az}{L:Nat}(h:uD G M F F.length L)(aJ:rJ G)(bN:G.length≤2)(hm:mM M)(ay:1≤M.length∧M.length≤4)(ch:1≤F.length∧F.length≤4):oE ⟨G,M,F⟩:=by
 refine(qx.la aJ bN hm ay h.la ch).wf (fun f aD=>?_) (by have:=h.num;simp only;omega);obtain⟨i,al⟩:=List.getElem?_of_mem aD;have aw:=(List.getElem?_eq_some_iff.1 al).1;exact cW _ 2 4 _ _ _ _ (fun _ h=>h) (fun _ _ h=>h) ab (h.made i f al aw)
theorem lJ{w:World}:(dd f).rep w P cs↔∃(A:Kr) (n c:Nat) (A2:Kr) (n2 c2:Nat),cs=[.string f.name,.slice A n c,.slice A2 n2 c2]∧n≤c∧Sl w P A n (f.params.map df)∧n2≤c2∧Sl w P A2 n2 (cP f.body):=by
 unfold dd;rw[bu,b9];constructor
 ·rintro⟨y,rfl,h⟩;obtain⟨A,n,c,bm,rfl,hc,hs,h⟩:=aD.1 h;obtain⟨A2,n2,c2,aa,rfl,bJ,bz,h⟩:=aD.1 h;rw[aJ] at h;subst h;exact⟨A,n,c,A2,n2,c2,rfl,hc,hs,bJ,bz⟩
 ·rintro⟨A,n,c,A2,n2,c2,rfl,hc,hs,bJ,bz⟩;exact⟨_,rfl,aD.2 ⟨A,n,c,_,rfl,hc,hs,aD.2 ⟨A2,n2,c2,[],rfl,bJ,bz,aJ.2 rfl⟩⟩⟩
theorem qY(f:az):(dd f).sz=3:=rfl
theorem rz{w:World}{P:Nat→Prop}{b:al}{bs:Kr}{on bG:Nat}(hc:on≤bG)(c4:Sl w P bs on (cP b)):∀(F:List az) (i:Nat) (xs:List Value) (f:az),D.aI w P (F.map dd) xs→F[i]?=some f→D.aI w P ((F.set i {f with body:=b}).map dd) (xs.set (i*3+2) (.slice bs on bG))
 | [],i,xs,f,h,aD=>by simp at aD
 | x::F,0,xs,f,h,aD=>by
  simp only[List.getElem?_cons_zero,Ki] at aD;subst aD;rw[JW] at h;obtain⟨k,d,rfl,hx,a4⟩:=gD.1 h;obtain⟨A,n,c,A2,n2,c2,rfl,ae,aC,_,_⟩:=lJ.1 hx;rw[List.set_cons_zero,JW]
  exact gD.2 ⟨[.string x.name,.slice A n c,.slice bs on bG],d,rfl,lJ.2 ⟨A,n,c,bs,on,bG,rfl,ae,aC,hc,c4⟩,a4⟩
 | x::F,i+1,xs,f,h,aD=>by
  rw[List.getElem?_cons_succ] at aD;rw[JW] at h;obtain⟨k,d,rfl,hx,a4⟩:=gD.1 h;have hl:=(D.kY _ _ hx).trans (qY x);have ao:=rz hc c4 F i d f a4 aD;rw[List.set_cons_succ,JW,List.set_append_right _ _ ab,hl,show (i+1)*3+2 - 3=i*3+2 by omega];exact gD.2 ⟨_,_,rfl,hx,ao⟩
theorem Gr.IE{w:World}{n c i:Nat}{F:List az}{bs:Kr}{on bG:Nat}(h:Gr P B e 3 w (some ⟨g,0,none⟩) n c (F.map dd))(aD:F[i]?=some f)(hc:on≤bG)(c4:Sl w (lg P w (.slice (some ⟨g,0,none⟩) n c)) bs on (cP b)):
  Gr P B e 3 (w.setCell ⟨g,i*3+2,none⟩ (.slice bs on bG)) (some ⟨g,0,none⟩) n c ((F.set i {f with body:=b}).map dd):=by
 obtain⟨hl,xs,ae,aC⟩:=h;have H:Fr (fun b=>b=g) w (w.setCell ⟨g,i*3+2,none⟩ (.slice bs on bG)):=(Fr.refl (fun b=>b=g) w).setCell (.inl rfl) _;have hs:=H.size;have aK:=(List.getElem?_eq_some_iff.1 aD).1;refine⟨by simpa using hl,xs.set (i*3+2) (.slice bs on bG),⟨by rw[List.length_set];exact ae.1,?_⟩,?_⟩
 ·rcases ae.2 with⟨bD,_⟩|⟨ai,cap,cur,bD,O,aJ,hn,bx,U,ht⟩
  ·cases bD
  ·injection bD with aV _ Z;injection aV with aV;injection aV with aV;subst aV;refine .inr ⟨g,cap,cur.setIfInBounds (i*3+2) (.slice bs on bG),by rw[Z],O,af.aC (show af w g e cur from aJ) (i*3+2) _,hn,bx,by simpa using U,?_⟩;rw[Array.toList_setIfInBounds,List.take_set,ht]
 ·refine D.bK (fun b O=>⟨O.1,JR O.2.1 hs,O.2.2⟩) _ _ (D.bJ (fun b O=>H.block b O.2.1 fun j=>O.2.2 ?_) _ _ (rz hc c4 F i xs f aC aD));subst j;rfl
theorem Gr.H7{w:World}{n c:Nat}{A:Kr}{l:List D}(h:Gr P B e z w A n c l)(hn:0<n):∃g,A=some ⟨g,0,none⟩∧B≤g∧g<w.heap.size:=by
 obtain⟨_,xs,ae,_⟩:=h;rcases ae.2 with⟨_,h0⟩|⟨g,cap,cur,bD,O,aJ,_⟩
 ·omega
 ·injection bD with bD _ _;exact⟨g,bD,O,(Array.getElem?_eq_some_iff.1 aJ).1⟩
structure ob(J:World)(I:Nat)(A:Kr)(n c:Nat)(l:List Int)(ar:Bool)(MA:Kr)(mn mc:Nat)(M:List bA)(GA:Kr)(gn gc:Nat)(G:List (ByteArray×Int))(o:Kr)(u:Nat)(fg fn fc:Nat)(w:World)(F:List az)(i L:Nat):Prop where
 src:b0 w (J.heap.size+1) A n c l
 blk:af w (J.heap.size+1+1) 170 #[.pointer (some ⟨J.heap.size+1,0,none⟩),.slice GA gn gc,.slice MA mn mc,.slice (some ⟨fg,0,none⟩) fn fc,.int .i64 L,.bool ar]
 res:af w J.heap.size 71 #[.slice none 0 0,.slice none 0 0,.slice none 0 0]
 ms:Sl w (fun b=>J.heap.size+1+1+1≤b∧b<I) MA mn (M.map dZ)
 gs:Sl w (fun b=>J.heap.size+1+1+1≤b∧b<I) GA gn (G.map h8)
 vs:Sl w (fun b=>J.heap.size+1+1+1≤b∧b<I) o gn ((G.map (·.1)).map D.s)
 fs:Gr (fun b=>I≤b) I 143 3 w (some ⟨fg,0,none⟩) fn fc (F.map dd)
 mc:mn≤mc
 gc:gn≤gc
 nm:1≤mn∧mn≤4
 ok:mM M
 ng:gn≤2
 yz:rJ G
 nf:1≤fn∧fn≤4
 bd:uD G M F i L
 kr:L≤24
 ext:Ext J w
 hD:J.heap.size+1+1+1≤I∧I≤w.heap.size
section
variable {J w ac:World} {I:Nat} {A:Kr} {n c:Nat} {l:List Int} {ar:Bool} {MA:Kr} {mn mc:Nat} {M:List bA} {GA:Kr} {gn gc:Nat} {G:List (ByteArray×Int)} {o:Kr} {u:Nat} {FA:Kr} {fg fn fc:Nat} {F:List az} {i L X:Nat}
theorem yG.Iw(h:yG J I w A n c l ar MA mn mc M GA gn gc G o u FA fn fc F)(hn:1≤fn):∃fg,FA=some ⟨fg,0,none⟩∧ob J I A n c l ar MA mn mc M GA gn gc G o u fg fn fc w F 0 24:=by
 obtain⟨fg,rfl,_⟩:=h.fs.H7 ab;exact⟨fg,rfl,h.src,h.blk,h.res,h.ms,h.gs,h.vs,h.fs,h.mc,h.gc,h.nm,h.ok,h.ng,h.yz,⟨hn,h.nf⟩,h.Ie.start,JQ _,h.ext,h.hD⟩
theorem ob.len(h:ob J I A n c l ar MA mn mc M GA gn gc G o u fg fn fc w F i L):F.length=fn∧M.length=mn∧G.length=gn:=⟨by have:=h.fs.len;simpa using this,by have:=h.ms.1;simpa using this,by have:=h.gs.1;simpa using this⟩
theorem ob.own(h:ob J I A n c l ar MA mn mc M GA gn gc G o u fg fn fc w F i L):I≤fg∧fg<w.heap.size:=h.fs.lt rfl
theorem ob.jm(h:ob J I A n c l ar MA mn mc M GA gn gc G o u fg fn fc w F i L):∀f∈F,f.params.length≤2:=fun f aD=>by
 obtain⟨i,al⟩:=List.getElem?_of_mem aD;obtain⟨n,hn,hp⟩:=(h.bd.la i f al).2.1;have:=congrArg List.length hp;rw[JU,lQ] at this;omega
theorem ob.ak(h:ob J I A n c l ar MA mn mc M GA gn gc G o u fg fn fc w F i L)(O:Ext w ac):ob J I A n c l ar MA mn mc M GA gn gc G o u fg fn fc ac F i L:=by
 have hD:=h.hD;have aj:∀b,(J.heap.size+1+1+1≤b∧b<I)→ac.heap[b]?=w.heap[b]?:=fun b hp=>O.block b (aH hp.2) (fun h=>h);exact⟨h.src.cG O fun _ _ h=>h,h.blk.ak O,h.res.ak O,h.ms.aj aj,h.gs.aj aj,h.vs.aj aj,h.fs.ak O,h.mc,h.gc,h.nm,h.ok,h.ng,h.yz,h.nf,h.bd,h.kr,h.ext.trans O,hD.1,by have:=O.size;omega⟩
theorem ob.wr(h:ob J I A n c l ar MA mn mc M GA gn gc G o u fg fn fc w F i L):gd w ⟨J.heap.size+1,J.heap.size+1+1,A,n,c,l,GA,gn,gc,MA,mn,mc,some ⟨fg,0,none⟩,fn,fc,M,F,ar⟩ L:=by
 have hD:=h.hD;exact⟨h.src,h.blk,Nat.lt_succ_self _,h.ms.mono fun b O=>⟨ab,fun hm=>by rcases hm with hm|hm<;>(simp only at hm;omega)⟩,h.fs.sl (fun b O hp=>⟨O,fun hm=>by rcases hm with hm|hm<;>(simp only at hm;omega)⟩) (fun b O hp=>⟨O,fun hm=>by rcases hm with hm|hm<;>(simp only at hm;omega)⟩),h.nm,h.nf,
  fun m hm=>by obtain⟨k,aj⟩:=List.getElem?_of_mem hm;exact⟨(h.ok k m aj).2.1,(h.ok k m aj).2.2.1⟩,h.jm,h.kr⟩
theorem ob.la(h:ob J I A n c l ar MA mn mc M GA gn gc G o u fg fn fc w F i L):gh ⟨G,M,F⟩:=qx.la h.yz (oR h.len.2.2 h.ng) h.ok (oR h.len.2.1 h.nm) h.bd.la (oR h.len.1 h.nf)
theorem ob.body(h:ob J I A n c l ar MA mn mc M GA gn gc G o u fg fn fc w F i L){f:az}(aD:F[i]?=some f){ls:List ax}{bs:Kr}{on bG:Nat}
  (hw:gd ac ⟨J.heap.size+1,J.heap.size+1+1,A,n,c,l,GA,gn,gc,MA,mn,mc,some ⟨fg,0,none⟩,fn,fc,M,F,ar⟩ X) (O:Fr (fun b=>b=J.heap.size+1∨b=J.heap.size+1+1) w ac)
  (hm:Made (gj ⟨G,M,F⟩ f) 2 (ft ⟨G,M,F⟩++cn f.params) (a5 ⟨G,M,F⟩++f.params.map (·.1)) L X ls) (hc:on≤bG) (hs:Sl ac (fresh w ac) bs on (ls.map a2)) :
  ob J I A n c l ar MA mn mc M GA gn gc G o u fg fn fc (ac.setCell ⟨fg,i*3+2,none⟩ (.slice bs on bG)) (F.set i {f with body:=.eA ls}) (i+1) X:=by
 have hD:=h.hD;have a8:=h.own;have U:=O.size;have ay:Fr (fun b=>b=fg) ac (ac.setCell ⟨fg,i*3+2,none⟩ (.slice bs on bG)):=(Fr.refl (fun b=>b=fg) ac).setCell (.inl rfl) _;have bE:=ay.size;have aj:∀b,(J.heap.size+1+1+1≤b∧b<I)→(ac.setCell ⟨fg,i*3+2,none⟩ (.slice bs on bG)).heap[b]?=w.heap[b]?:=fun b hp=>(ay.block b (aH hp.2) (aH hp.2)).trans (O.block b (aH hp.2) fun aQ=>by have:=hp.1;rcases aQ with aQ|aQ<;>omega);have aJ:Gr (fun b=>I≤b) I 143 3 ac (some ⟨fg,0,none⟩) fn fc (F.map dd):=h.fs.cO O fun b hm _=>by rcases hm with hm|hm<;>exact⟨ab,ab⟩
 have aG:Ext J ac:=Fr.low (M:=fun b=>b=J.heap.size+1∨b=J.heap.size+1+1) ((h.ext.mono fun _ h=>h.elim).trans O) fun k aj=>by rcases aj with aj|aj<;>omega
 refine⟨hw.src.cG ay fun b aw aQ=>by simp only at aw;omega,hw.blk.on ay (by show ¬J.heap.size+1+1=fg;omega),(h.res.on O ab).on ay ab,h.ms.aj aj,h.gs.aj aj,h.vs.aj aj,?_,h.mc,h.gc,h.nm,h.ok,h.ng,h.yz,h.nf,h.bd.next aD hm,hw.kr,
  Fr.low (M:=fun b=>b=fg) ((aG.mono fun _ h=>h.elim).trans ay) fun k aj=>by have:=h.ext.size;omega,hD.1,ab⟩
 refine aJ.IE aD hc ?_;rw[ma];exact hs.mono fun b O=>⟨by have:=O.1;omega,O.2,fun h=>by injection h with h;have:=O.1;simp only at h;omega⟩
theorem ob.done(h:ob J I A n c l ar MA mn mc M GA gn gc G o u fg fn fc w F fn L):oE ⟨G,M,F⟩:=by
 have hl:=h.len;have O:=h.bd;rw[←hl.1] at O;exact O.wf h.yz (aH h.ng) h.ok (aH h.nm) (aH h.nf)
end
structure RW(s:Nat)(v0 v1 v2 r bP:Value)(w ac:World):Prop where
 fr:Fr (fun b=>b=s∨b=s+1) w ac
 wb:∀L:Int,af w (s+1) 170 #[v0,v1,v2,r,.int .i64 L,bP]→∃X:Int,af ac (s+1) 170 #[v0,v1,v2,r,.int .i64 X,bP]
theorem RW.refl{s:Nat}{v0 v1 v2 r bP:Value}(w:World):RW s v0 v1 v2 r bP w w:=⟨Kn,fun L h=>⟨L,h⟩⟩
theorem RW.trans{s:Nat}{v0 v1 v2 r bP:Value}{w ac aO:World}(h:RW s v0 v1 v2 r bP w ac)(k:RW s v0 v1 v2 r bP ac aO):RW s v0 v1 v2 r bP w aO:=⟨h.fr.trans k.fr,fun L O=>by
 obtain⟨aU,ae⟩:=h.wb L O;exact k.wb aU ae⟩
theorem DG(p:j7)(L:Nat)(V T:Ks)(R:Kr)(a8 bf:Nat)(aY:ByteArray)(ps:List (ByteArray×Bool))(QA:Kr)(ca qc:Nat)(bI:Value)(w:World)(hw:gd w p L)(hN:Sl w (off p.MW w) R a8 (V.map D.s))(hV:V.length+L≤60)(aD:l0 T L)
  (ch:Sl w (off p.MW w) QA ca (ps.map df)) (bm:ca≤2):Calls prog 97 #[.pointer (some ⟨p.wb,0,none⟩),.agg #[.string aY,.slice QA ca qc,bI],.slice R a8 bf,.int .i64 2,.int .i64 6] w (E9 p 2 V T ps L w):=
 wv p L 2 6 V T R a8 bf aY ps QA ca qc bI w ab ab hw hN hV aD ch bm
structure DR(fg i:Nat)(f:az)(QA:Kr)(ca qc:Nat)(f0:Kr)(bn eL:Nat)(w:World):Prop where
 c0:w.cell? ⟨fg,i*3,none⟩=some (.string f.name)
 c1:w.cell? ⟨fg,i*3+1,none⟩=some (.slice QA ca qc)
 c2:w.cell? ⟨fg,i*3+2,none⟩=some (.slice f0 bn eL)
theorem DR.aj{fg i:Nat}{f:az}{QA:Kr}{ca qc:Nat}{f0:Kr}{bn eL:Nat}{w ac:World}(h:DR fg i f QA ca qc f0 bn eL w)(aj:ac.heap[fg]?=w.heap[fg]?):DR fg i f QA ca qc f0 bn eL ac:=
 ⟨(World.cell?_of_block (w:=w) aj).trans h.c0,(World.cell?_of_block (w:=w) aj).trans h.c1,(World.cell?_of_block (w:=w) aj).trans h.c2⟩
theorem ob.Hx{J w:World}{I:Nat}{A:Kr}{n c:Nat}{l:List Int}{ar:Bool}{MA:Kr}{mn mc:Nat}{M:List bA}{GA:Kr}{gn gc:Nat}{G:List (ByteArray×Int)}{o:Kr}{u:Nat}{fg fn fc:Nat}{F:List az}{i L:Nat}
  (h:ob J I A n c l ar MA mn mc M GA gn gc G o u fg fn fc w F i L) (al:i<fn):∃(f:az) (QA:Kr) (ca qc:Nat) (f0:Kr) (bn eL:Nat),F[i]?=some f∧ca≤2∧ca≤qc∧Sl w (fun b=>I≤b∧b<w.heap.size) QA ca (f.params.map df)∧DR fg i f QA ca qc f0 bn eL w:=by
 obtain⟨b2,cE,f,cs,m,a5,r,aV,a3,hc⟩:=Sl.gN (z:=3) (h.fs.sl (Q:=fun b=>I≤b∧b<w.heap.size) (fun b aw h=>⟨h,aw⟩) (fun b aw h=>⟨h,aw⟩)) (fun _=>qY _) al;obtain⟨QA,ca,qc,f0,bn,eL,rfl,dw,e4,_,_⟩:=lJ.1 aV;injection m with m;injection m with ae aC aT;subst ae;subst aC;have bm:ca≤2:=by
  have a9:=h.jm f (JT r);have cl:=e4.1;rw[JU] at cl;omega
 have c0:=hc 0 _ rfl;have c1:=hc 1 _ rfl;have c2:=hc 2 _ rfl;simp only[J8,J0] at c0 c1 c2;exact⟨f,QA,ca,qc,f0,bn,eL,r,bm,dw,e4,c0,c1,c2⟩
theorem Gr.H6{w:World}{n c:Nat}{l:List D}(h:Gr P B e z w (some ⟨g,0,none⟩) n c l):∃cur,af w g e cur:=by
 obtain⟨_,xs,ae,_⟩:=h;rcases ae.2 with⟨bD,_⟩|⟨ai,cap,cur,bD,O,aJ,_⟩
 ·cases bD
 ·injection bD with bD _ _;injection bD with bD;injection bD with bD;subst bD;exact⟨cur,aJ⟩
theorem qF{q:ByteArray×Bool}(h:ps[j]?=some q):cn (ps.take (j+1))=cn (ps.take j)++(if q.2 then [] else [q.1]):=by
 unfold cn;rw[List.take_add_one,h];obtain⟨x,b⟩:=q;cases b<;>simp
theorem sn(ps:List (ByteArray×Bool)):(cn ps).length≤ps.length:=by
 unfold cn;rw[JU];exact List.length_filter_le _ _
theorem ob.IB{J w ac:World}{I:Nat}{A:Kr}{n c:Nat}{l:List Int}{ar:Bool}{MA:Kr}{mn mc:Nat}{M:List bA}{GA:Kr}{gn gc:Nat}{G:List (ByteArray×Int)}{o:Kr}{u:Nat}{fg fn fc:Nat}{F:List az}{L:Nat}
  (h:ob J I A n c l ar MA mn mc M GA gn gc G o u fg fn fc w F fn L) (O:Fr (fun b=>b=J.heap.size) w ac):j2 J (.returned (.agg #[.slice GA gn gc,.slice MA mn mc,.slice (some ⟨fg,0,none⟩) fn fc])) ac:=by
 have hD:=h.hD;have hs:=O.size;have aj:∀b,(J.heap.size+1+1+1≤b∧b<I)→ac.heap[b]?=w.heap[b]?:=fun b hp=>O.block b (aH hp.2) (aH hp.1);have aZ:Gr (fun b=>I≤b) I 143 3 ac (some ⟨fg,0,none⟩) fn fc (F.map dd):=h.fs.cO O fun b hm _=>⟨ab,ab⟩
 exact⟨⟨G,M,F⟩,GA,gn,gc,MA,mn,mc,_,fn,fc,rfl,h.done,h.gc,h.mc,h.fs.cap.1,(h.gs.aj aj).mono fun b hp=>⟨by have:=hp.1;omega,by have:=hp.2;omega⟩,(h.ms.aj aj).mono fun b hp=>⟨by have:=hp.1;omega,by have:=hp.2;omega⟩,
  aZ.sl (fun b aw hp=>⟨ab,aw⟩) (fun b aw hp=>⟨ab,aw⟩),Fr.low (M:=fun b=>b=J.heap.size) ((h.ext.mono fun _ h=>h.elim).trans O) fun k aj=>ab⟩
end Go.Proofs.YtbkhhfajcgkpgaaGreat

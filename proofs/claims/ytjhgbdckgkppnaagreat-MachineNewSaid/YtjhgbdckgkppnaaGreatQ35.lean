/- Part 35 of the proof (PgA Pg1 PgB), without conditions of its own. -/
import Derived.Test.YtjhgbdckgkppnaaGreatQ34
namespace Go.Proofs.YtjhgbdckgkppnaaGreat
open Go.RowKit Go.Proofs.Tryz
set_option maxRecDepth 1000000
set_option maxHeartbeats 25600000
set_option linter.unusedVariables false
variable{i:Nat}{p:Prop}
def iX(n:Nat):Code→Option Code
 | .seq a b=>match a with
  | .region k _ _=>if k=n then some (.seq a b) else iX n b
  | .seq x y=>match iX n (.seq x y) with
   | some c=>some c
   | none=>iX n b
  | _=>iX n b
 | _=>none
noncomputable def ts(n:Nat):Code:=match (Tryz.f24.body.bind (iX n)).getD .skip with
 | .seq a _=>a
 | c=>c
noncomputable def l3(n:Nat):Code:=match (Tryz.f24.body.bind (iX n)).getD .skip with
 | .seq _ b=>b
 | _=>.skip
noncomputable def DF(n:Nat):Code:=(Tryz.f24.body.bind (iX n)).getD .skip
def jh(w:World)(e:Ending)(ab:World):Prop:=∃(p:bC) (GA:GR) (gn gc:Nat) (MA:GR) (mn mc:Nat) (FA:GR) (fn fc:Nat),e=.returned (.agg #[.slice GA gn gc,.slice MA mn mc,.slice FA fn fc])∧mU p∧gn≤gc∧mn≤mc∧fn≤fc∧
 Sl ab (fresh w ab) GA gn (p.globals.map hq)∧Sl ab (fresh w ab) MA mn (p.af.map d4)∧Sl ab (fresh w ab) FA fn (p.funcs.map c7)∧Ext w ab
def lM(M:List bF):Prop:=∀i m,M[i]?=some m→m.name=fK i∧0≤m.size∧m.size≤3∧(m.re=true→m.size=0)
structure mM(S w:World)(A:GR)(n c:Nat)(l:List Int)(ar:Bool)(MA:GR)(mn mc:Nat)(M:List bF):Prop where
 src:bV w (S.heap.size+1) A n c l
 blk:ag w (S.heap.size+1+1) 129 #[.pointer (some ⟨S.heap.size+1,0,none⟩),.slice none 0 0,.slice MA mn mc,.slice none 0 0,.int .i64 24,.bool ar]
 res:ag w S.heap.size 27 #[.slice none 0 0,.slice none 0 0,.slice none 0 0]
 ms:Gr (fun _=>False) (S.heap.size+1+1+1) 133 3 w MA mn mc (M.map d4)
 nm:mn≤4
 ok:lM M
 ext:Ext S w
section
variable {S w ab:World} {A:GR} {n c:Nat} {l:List Int} {ar:Bool} {MA:GR} {mn mc:Nat} {M:List bF}
theorem mM.next(h:mM S w A n c l ar MA mn mc M)(hs:bV ab (S.heap.size+1) A n c l)(O:Fr (fun b=>b=S.heap.size+1) w ab):mM S ab A n c l ar MA mn mc M:=
 ⟨hs,h.blk.on O ad,h.res.on O ad,h.ms.cZ O (fun b O _=>⟨fun h=>h,ad⟩),h.nm,h.ok,Fr.low (M:=fun b=>b=S.heap.size+1) ((h.ext.mono fun _ h=>h.elim).trans O) fun k ap=>ad⟩
theorem mM.al(h:mM S w A n c l ar MA mn mc M)(O:Ext w ab):mM S ab A n c l ar MA mn mc M:=h.next (h.src.ch O fun _ _ h=>h) (O.mono fun _ h=>h.elim)
theorem mM.fresh(h:mM S w A n c l ar MA mn mc M){g:Nat}(aM:S.heap.size+1+1<g)(bi:(Value.slice MA mn mc).ownBlock≠some g)(O:Fr (fun b=>b=g) w ab):mM S ab A n c l ar MA mn mc M:=
 ⟨h.src.ch O (fun b O h=>ad),h.blk.on O ad,h.res.on O ad,h.ms.cz O.size (fun b ao hp=>O.block b ao (hp.elim (fun h=>h.elim) fun hp j=>by subst j;exact bi hp)),h.nm,h.ok,Fr.low (M:=fun b=>b=g) ((h.ext.mono fun _ h=>h.elim).trans O) fun k ap=>ad⟩
theorem mM.add(h:mM S w A n c l ar MA mn mc M){cO:GR}{cS:Nat}{m:bF}(aM:Gr (fun _=>False) (S.heap.size+1+1+1) 133 3 ab cO (mn+1) cS (M.map d4++[d4 m]))(aw:Fr (fun b=>(Value.slice MA mn mc).ownBlock=some b) w ab)
  (hn:mn+1≤4) (ch:lM (M++[m])):mM S (ab.setCell ⟨S.heap.size+1+1,2,none⟩ (.slice cO (mn+1) cS)) A n c l ar cO (mn+1) cS (M++[m]):=by
 have bi:∀b,(Value.slice MA mn mc).ownBlock=some b→S.heap.size+1+1+1≤b:=fun b O=>(h.ms.lt O).1;have aq:Fr (fun b=>b=S.heap.size+1+1) ab (ab.setCell ⟨S.heap.size+1+1,2,none⟩ (.slice cO (mn+1) cS)):=(Fr.refl (fun b=>b=S.heap.size+1+1) ab).setCell (.inl rfl) _;refine⟨(h.src.ch aw fun b O aj=>by have:=bi b aj;omega).ch aq (fun b O aj=>ad),(h.blk.on aw fun aj=>by have:=bi _ aj;omega).aH 2 _,(h.res.on aw fun aj=>by have:=bi _ aj;omega).on aq ad,?_,hn,ch,
  Fr.low (M:=fun b=>b=S.heap.size+1+1) ((Fr.low (M:=fun b=>(Value.slice MA mn mc).ownBlock=some b) ((h.ext.mono fun _ h=>h.elim).trans aw) fun k ap=>by have:=bi k ap;omega).mono (fun _ h=>h.elim) |>.trans aq) fun k ap=>ad⟩
 rw[Gi,Gh,GC];exact aM.cZ aq (fun b O _=>⟨fun h=>h,ad⟩)
end
theorem lM.snoc{M:List bF}(h:lM M)(aJ:M.length=i){re:Bool}{sz:Int}(h0:0≤sz)(aS:sz≤3)(aa:re=true→sz=0):lM (M++[⟨fK i,re,sz⟩]):=by
 intro k m hm;by_cases ap:k<M.length
 ·rw[List.getElem?_append_left ap] at hm;exact h k m hm
 ·rw[List.getElem?_append_right ad] at hm;have az:k - M.length=0:=by
   exact sb
  rw[az] at hm;simp at hm;subst hm;have:k=i:=ad;subst this;exact⟨rfl,h0,aS,aa⟩
def BG(S:World)(gW:Value)(Q:Exit→Act→World→Prop)(K:Act→World→Prop):Prop:=∀(A:GR) (n c:Nat) (l:List Int) (ar:Bool) (MA:GR) (mn mc:Nat) (M:List bF) {hZ h0 gE gM E u8 gG eO gi gj b8 bi g u16 s bG eP eQ eR eS eT eU eV eW eX eY eZ e3 e4 u32 e5 e6 e7 e8 e9 fa fb fd fe ff fh fi fj fk fl fm fo fp fq fr fs ft fu fv fw fx fy fz fA fB fC u64 fD fF fG fH fI fJ fK fL fM fN fO fP fQ fR fS fT fU fV fW fX fY fZ f0 f1 f2 f3 f6 f7 f8 f9 ga gb gd ge gf am aE aL aP a3 a4 a6 a7 bg bh bk bp br bs bt bz bC bL bY b0 b6 b7 ca cg ci cn cq ct cv cw cx cz cB cC cD cE cF cG cH cI cJ cK cL cM cN cO cP cQ cR cS cT cU cV cX cY cZ c5 c7 c8 c9 da db dc dd de df dg dh dj dk dl dm dn dp dq ds dt du dv dx dy dz dB dC dD dE dF dG dH dI dJ dK dL dM dO dP dQ dR dT dV dW dX dY dZ d0 d1 d2 d3 d4 d5 d6 d7 d9 ea eb ec ed ee ef eg ei ek el em en eo ep eq er es et eu ev ew ex ey ez eA eB eC eD eE eF eG eH eI eJ eK eM bu go gp gq gr gs gt gu gv gw gx gA gB gC gD:Value} (w:World),1≤mn→mM S w A n c l ar MA mn mc M→
 Code.wp prog (ts 13) (Exit.then K Q) ⟨#[gW,hZ,.pointer (some ⟨S.heap.size,0,none⟩),.pointer (some ⟨S.heap.size+1+1,0,none⟩),h0,gE,gM,E,u8,gG,eO,gi,gj,b8,bi,g,u16,s,bG,eP,eQ,eR,eS,eT,eU,eV,eW,eX,eY,eZ,e3,e4,u32,e5,e6,e7,e8,e9,fa,fb,fd,fe,ff,fh,fi,fj,fk,fl,fm,fo,fp,fq,fr,fs,ft,fu,fv,fw,fx,fy,fz,fA,fB,fC,u64,fD,fF,fG,fH,fI,fJ,fK,fL,fM,fN,fO,fP,fQ,fR,fS,fT,fU,fV,fW,fX,fY,fZ,f0,f1,f2,f3,f6,f7,f8,f9,ga,gb,gd,ge,gf,am,aE,aL,aP,a3,a4,a6,a7,bg,bh,bk,bp,br,bs,bt,bz,bC,bL,bY,b0,b6,b7,ca,cg,ci,cn,cq,ct,cv,cw,cx,cz,cB,cC,cD,cE,cF,cG,cH,cI,cJ,cK,cL,cM,cN,cO,cP,cQ,cR,cS,cT,cU,cV,cX,cY,cZ,c5,c7,c8,c9,da,db,dc,dd,de,df,dg,dh,dj,dk,dl,dm,dn,dp,dq,ds,dt,du,dv,dx,dy,dz,dB,dC,dD,dE,dF,dG,dH,dI,dJ,dK,dL,dM,dO,dP,dQ,dR,dT,dV,dW,dX,dY,dZ,d0,d1,d2,d3,d4,d5,d6,d7,d9,ea,eb,ec,ed,ee,ef,eg,ei,ek,el,em,en,eo,ep,eq,er,es,et,eu,ev,ew,ex,ey,ez,eA,eB,eC,eD,eE,eF,eG,eH,eI,eJ,eK,eM,bu,go,gp,gq,gr,gs,gt,gu,gv,gw,gx,gA,gB,gC,gD],[]⟩ w
theorem cG.Fi{α:Type}{f:α→List Value}{sz:Nat}{w:World}{B n m:Nat}{A:GR}{l:List α}(h:cG (EF f) sz w B A n l)(hm:m≤n):cG (EF f) sz w B A m (l.take m):=by
 refine⟨by have:=h.1;simp;omega,fun h0=>?_⟩;obtain⟨b,o,bb,O,hc⟩:=h.2 ad;exact⟨b,o,bb,O,fun k x hx=>hc k x ((List.getElem?_take_of_lt (i:=k) (by have:=(List.getElem?_eq_some_iff.1 hx).1;simp at this;omega)).symm.trans hx)⟩
theorem Ah(m:Nat)(A:GR)(n c:Nat)(l:List Int)(w:World)(hm:m≤1000)(h:cG (EF dB) 1 w w.heap.size A n l)(hc:n≤c) :
  Calls prog 72 #[.slice A n c,.int .i64 (m:Int)] w fun e ab=>(∃az L aG,e=.returned (.slice az L aG)∧L≤m∧∃y,cG (EF dB) 1 w w.heap.size az L y)∧w=ab:=by
 have H:=ae h;by_cases hn:n≤m
 ·have q:decide ((n:Int) > (m:Int))=false:=by simp;omega
  clear h;go_enter func72,ntmps72;go_wp2;go_ret;exact⟨⟨A,n,c,rfl,hn,l,H.o⟩,rfl⟩
 ·obtain⟨b,o,rfl,O⟩:=h.some_ ad;have q:decide ((n:Int) > (m:Int))=true:=by simp;omega
  have an:(0:Int)≤(m:Int):=ad;have dK:(m:Int)≤(c:Int):=ad;clear h;go_enter func72,ntmps72;go_wp2;go_ret;exact⟨⟨_,m,_,rfl,Gb _,_,H.Fi ad⟩,rfl⟩
theorem AP(aJ:i<4):strOf [byteOf (97+(i:Int))]=fK i:=by
 have h:∀k:Fin 4,strOf [byteOf (97+((k.val:Nat):Int))]=fK k.val:=by decide
 exact h ⟨i,aJ⟩
namespace zJ
theorem h6(h:p:=by
 refine aD ?_;generalize dw:World.setCell _ _ _=gL;have f:=bf.1.add bd.1 bd.2 ad (lM.snoc bf.1.ok bj (re:=false) (sz:=(1+cC)) ad ad (by intro h;cases h));rw[dw] at f;have ch:=ae f;clear dw f a0 al af;go_wp2_with (fail);go_roundw
 case rel=>exact⟨i+1,g,bR,M++[⟨fK i,false,(1+cC)⟩],by go_num,ad,ch.o⟩
 case measure=>simp[intOf];omega
 ):p:=h
theorem di(h:p:=by
 generalize dw:World.setCell _ _ _=gL;have f:=bf.1.add bd.1 bd.2 ad (lM.snoc bf.1.ok bj (re:=true) (sz:=0) ad ad (by intro _;rfl));rw[dw] at f;have ch:=ae f;clear dw f a0 al af;go_wp2_with (fail);go_roundw
 case rel=>exact⟨i+1,g,bR,M++[⟨fK i,true,0⟩],by go_num,ad,ch.o⟩
 case measure=>simp[intOf];omega
 ):p:=h
theorem gB(h:p:=by
 have b6:ag W w.heap.size 27 #[.slice none 0 0,.slice none 0 0,.slice none 0 0]:=bg▸GO;have cH:W.heap.size=w.heap.size+1:=by rw[←bg];simp
 have ck:=H.cZ (Fr.ext av) av.size;have aj:=aK av b6 ck;clear bg av b6 ck;go_wp2_with (fail);refine(Ah 400 A n c l W ad aj.2.2 hc).mono ?_;rintro e aH ⟨⟨az,L,aG,rfl,o,y,aa⟩,rfl⟩;have b0:=ae aa;clear aa;go_upto_region 2 with(fail);generalize ah:World.alloc _ _=X;have br:Ext W X:=ah▸(GN.alloc _).alloc _;have q:ag X (w.heap.size+1) 127 #[.slice az L aG,.int .i64 0]:=ah▸(ag.bR _ _ _ cH.symm).alloc _;have r:ag X (w.heap.size+1+1) 129 #[.pointer (some ⟨w.heap.size+1,0,none⟩),.slice none 0 0,.slice none 0 0,.slice none 0 0,.int .i64 24,.bool false]:=ah▸ag.bR _ _ _ (by simp[cH]);have aC:bV X (w.heap.size+1) az L aG y:=⟨q.lt,by rw[q.cell];rfl,⟨0,ad,by rw[q.cell];rfl⟩,q.frozen 1,(by have:=b0.o;rw[cH] at this;exact this.d9 (br.below ad fun _ _ h=>h)),ad⟩
 have H1:=bO aC r (aj.2.1.al br) (aj.1.trans br);clear ah br q r aC aj b0;obtain⟨a0,al,af⟩:=H1.2.1.two;go_wp2_with (fail);refine(aN X (w.heap.size+1) az L aG y 3 H1.1 ad ad).mono ?_;rintro e aQ ⟨cm,rfl,aM,bQ,h,he⟩;have bk:=bO h (H1.2.1.on he.fr ad) (H1.2.2.1.on he.fr ad) (Fr.low (M:=fun b=>b=w.heap.size+1) ((H1.2.2.2.mono fun _ h=>h.elim).trans he.fr) fun k ap=>ad);clear h he aM bQ a0 al af H1;obtain⟨a0,al,af⟩:=bk.2.1.two;go_upto_region 3 with(fail);generalize (cm == 1)=ar;generalize ah:World.setCell _ _ _=bE;have aw:Fr (fun b=>b=w.heap.size+1+1) aQ bE:=ah▸(Fr.refl (fun b=>b=w.heap.size+1+1) aQ).setCell (.inl rfl) _;have r:ag bE (w.heap.size+1+1) 129 #[.pointer (some ⟨w.heap.size+1,0,none⟩),.slice none 0 0,.slice none 0 0,.slice none 0 0,.int .i64 24,.bool ar]:=ah▸bk.2.1.aH 5 _;have bH:=bO (bk.1.ch aw fun b O h=>ad) r (bk.2.2.1.on aw ad) (Fr.low (M:=fun b=>b=w.heap.size+1+1) ((bk.2.2.2.mono fun _ h=>h.elim).trans aw) fun k ap=>ad);clear ah aw r bk a0 al af;obtain⟨a0,al,af⟩:=bH.2.1.two;go_wp2_with (fail);refine(aN bE (w.heap.size+1) az L aG y 4 bH.1 ad ad).mono ?_;rintro e cy ⟨bZ,rfl,aM,bQ,h,he⟩;obtain⟨x,rfl⟩:=Gg aM;have u:x<4:=ad;have cw:=bO h (bH.2.1.on he.fr ad) (bH.2.2.1.on he.fr ad) (Fr.low (M:=fun b=>b=w.heap.size+1) ((bH.2.2.2.mono fun _ h=>h.elim).trans he.fr) fun k ap=>ad);clear h he aM bQ a0 al af bH;go_wp2_with (fail)
 go_loopw [4] (fun cp wr=>∃(i:Nat) (MA:GR) (mc:Nat) (M:List bF),cp=.int .i64 i∧i≤1+x∧mM w wr az L aG y ar MA i mc M) (fun cp _=>1+x - (intOf cp).toNat)
 case atStart=>exact⟨0,none,0,[],rfl,ad,⟨cw.1,cw.2.1,cw.2.2.1,Gr.nil _ _ _ _ _,ad,(fun i m h=>by cases h),cw.2.2.2⟩⟩
 case round=>
  obtain⟨i,MA,mc,M,rfl,aJ,U⟩:=hrel;clear cw;have b9:=ae U;obtain⟨a0,al,af⟩:=U.blk.two;have bj:M.length=i:=by have:=U.ms.len;simpa using this
  have cc:=U.blk.lt;clear U;by_cases ao:i<1+x
  ·have gH:(i:Int)<1+(x:Int):=ad;have b4:i≤3:=ad;have bJ:=fun(W:World) (v:Int)=>jS W v;go_upto_region 7 with(fail);clear bJ;generalize ah:World.alloc _ _=gK;have cj:Ext wr gK:=ah▸(GN.alloc _).alloc _;have hE:ag gK (wr.heap.size+1) 133 #[.string (fK i),.bool false,.int .i64 0]:=by
    rw[←ah,←AP (by omega:i<4)];exact ag.bR _ _ _ (by simp)
   have c4:=ai (b9.al cj) hE;have cr:(Value.slice MA i mc).ownBlock≠some (wr.heap.size+1):=fun O=>by have:=(b9.ms.lt O).2;omega
   have aO:=ae cr;clear ah cj hE a0 al af cr;obtain⟨a0,al,af⟩:=c4.1.blk.two;go_wp2_with (fail);refine(aN gK (w.heap.size+1) az L aG y 5 c4.1.src ad ad).mono ?_;rintro e Y ⟨cT,rfl,s,aB,h,he⟩;have bM:=ai (c4.1.next h he.fr) (c4.2.on he.fr ad);have bT:wr.heap.size+1<Y.heap.size:=bM.2.lt;clear h he a0 al af;by_cases ac:cT=1
   ·have co:(cT == 1)=true:=by simpa using ac
    clear ac s aB;obtain⟨a6,aL,aP⟩:=bM.2.two;go_upto_region 12 with(fail);generalize ah:World.setCell _ _ _=cS;have aw:Fr (fun b=>b=wr.heap.size+1) Y cS:=ah▸(Fr.refl (fun b=>b=wr.heap.size+1) Y).setCell (.inl rfl) _;have a5:ag cS (wr.heap.size+1) 133 #[.string (fK i),.bool true,.int .i64 0]:=ah▸bM.2.aH 1 _;have j:=ai (bM.1.fresh ad aO.o aw) a5;clear ah aw a5 a6 aL aP bM;obtain⟨a0,al,af⟩:=j.1.blk.two;obtain⟨a6,aL,aP⟩:=j.2.two;have z:=j.2.lt;refine eh (fun _=>False) [(0,3),(1,3),(2,3),(3,3),(4,3),(5,0),(6,0),(7,1),(8,2),(9,3),(10,3),(11,3),(12,2)] ?_
    iterate 5 refine pf ?_
    iterate 2 refine ph ?_
    refine rC ?_;generalize bo:World.drew (World.alloc _ _)=Z;have a9:Ext cS Z:=bo▸(GN.alloc _).drew;have bm:ag Z cS.heap.size 133 #[.string (fK i),.bool true,.int .i64 0]:=bo▸GO;have bN:=j.1.al a9;have bf:=ai bN bm;have bC:=a9.size;clear bo a9 bm bN a0 al af a6 aL aP;refine ax rfl (fun K hK=>?_);rw[if_pos (by rfl)];refine d8 kx (.tmp 73) (.tmp 75) (by rfl) bf.1.ms bf.2 (ez.2 rfl:(d4 ⟨fK i,true,0⟩).rep Z _ _) (by rfl) (by rfl) (by rfl) ad ad ad ?_;intro g bR fg bP aW gN gz;have bi:∀b,(Value.slice MA i mc).ownBlock=some b→w.heap.size+1+1+1≤b:=fun b O=>(bf.1.ms.lt O).1;have aX:=bf.1.blk.on aW (fun O=>by have:=bi _ O;omega);have bd:=ai bP aW;clear bP aW gN gz bi;obtain⟨a0,al,af⟩:=aX.two;clear aX;refine hK _ _ ?_;clear hK K
    try simp only[PU]
    iterate 3 refine pf ?_
    exact dN
   by_cases J:cT=2
   ·have co:(cT == 1)=false:=by simpa using ac
    have ej:(cT == 2)=true:=by simpa using J
    clear ac J s aB;obtain⟨a0,al,af⟩:=bM.1.blk.two;go_wp2_with (fail);refine(aN Y (w.heap.size+1) az L aG y 3 bM.1.src ad ad).mono ?_;rintro e hb ⟨cC,rfl,E,R,h,he⟩;have t:=ai (bM.1.next h he.fr) (bM.2.on he.fr ad);clear h he a0 al af bM;obtain⟨a6,aL,aP⟩:=t.2.two;go_upto_region 12 with(fail);generalize ah:World.setCell _ _ _=cS;have aw:Fr (fun b=>b=wr.heap.size+1) hb cS:=ah▸(Fr.refl (fun b=>b=wr.heap.size+1) hb).setCell (.inl rfl) _;have a5:ag cS (wr.heap.size+1) 133 #[.string (fK i),.bool false,.int .i64 (1+cC)]:=ah▸t.2.aH 2 _;have j:=ai (t.1.fresh ad aO.o aw) a5;clear ah aw a5 a6 aL aP t;obtain⟨a0,al,af⟩:=j.1.blk.two;obtain⟨a6,aL,aP⟩:=j.2.two;have z:=j.2.lt;refine eh (fun _=>False) [(0,3),(1,3),(2,3),(3,3),(4,3),(5,0),(6,0),(7,1),(8,2),(9,3),(10,3),(11,3),(12,2)] ?_
    iterate 5 refine pf ?_
    iterate 2 refine ph ?_
    refine rC ?_;generalize bo:World.drew (World.alloc _ _)=Z;have a9:Ext cS Z:=bo▸(GN.alloc _).drew;have bm:ag Z cS.heap.size 133 #[.string (fK i),.bool false,.int .i64 (1+cC)]:=bo▸GO;have bN:=j.1.al a9;have bf:=ai bN bm;have bC:=a9.size;clear bo a9 bm bN a0 al af a6 aL aP;refine ax rfl (fun K hK=>?_);rw[if_pos (by rfl)];refine d8 kx (.tmp 73) (.tmp 75) (by rfl) bf.1.ms bf.2 (ez.2 rfl:(d4 ⟨fK i,false,(1+cC)⟩).rep Z _ _) (by rfl) (by rfl) (by rfl) ad ad ad ?_;intro g bR fg bP aW gN gz;have bi:∀b,(Value.slice MA i mc).ownBlock=some b→w.heap.size+1+1+1≤b:=fun b O=>(bf.1.ms.lt O).1;have aX:=bf.1.blk.on aW (fun O=>by have:=bi _ O;omega);have bd:=ai bP aW;clear bP aW gN gz bi;obtain⟨a0,al,af⟩:=aX.two;clear aX;refine hK _ _ ?_;clear hK K
    try simp only[PU]
    iterate 3 refine pf ?_
    exact h5
   ·have co:(cT == 1)=false:=by simpa using ac
    have ej:(cT == 2)=false:=by simpa using J
    clear ac J s aB;go_upto_region 12 with(fail);obtain⟨a0,al,af⟩:=bM.1.blk.two;obtain⟨a6,aL,aP⟩:=bM.2.two;refine eh (fun _=>False) [(0,3),(1,3),(2,3),(3,3),(4,3),(5,0),(6,0),(7,1),(8,2),(9,3),(10,3),(11,3),(12,2)] ?_
    iterate 5 refine pf ?_
    iterate 2 refine ph ?_
    refine rC ?_;generalize bo:World.drew (World.alloc _ _)=Z;have a9:Ext Y Z:=bo▸(GN.alloc _).drew;have bm:ag Z Y.heap.size 133 #[.string (fK i),.bool false,.int .i64 0]:=bo▸GO;have bN:=bM.1.al a9;have bf:=ai bN bm;have bC:=a9.size;clear bo a9 bm bN a0 al af a6 aL aP;refine ax rfl (fun K hK=>?_);rw[if_pos (by rfl)];refine d8 kx (.tmp 73) (.tmp 75) (by rfl) bf.1.ms bf.2 (ez.2 rfl:(d4 ⟨fK i,false,0⟩).rep Z _ _) (by rfl) (by rfl) (by rfl) ad ad ad ?_;intro g bR fg bP aW gN gz;have bi:∀b,(Value.slice MA i mc).ownBlock=some b→w.heap.size+1+1+1≤b:=fun b O=>(bf.1.ms.lt O).1;have aX:=bf.1.blk.on aW (fun O=>by have:=bi _ O;omega);have bd:=ai bP aW;clear bP aW gN gz bi;obtain⟨a0,al,af⟩:=aX.two;clear aX;refine hK _ _ ?_;clear hK K
    try simp only[PU]
    iterate 3 refine pf ?_
    refine ax rfl (fun K hK=>?_);go_simp;refine hK _ _ ?_;clear hK K
    try simp only[PU]
    refine aD ?_;generalize dw:World.setCell _ _ _=gL;have f:=bf.1.add bd.1 bd.2 ad (lM.snoc bf.1.ok bj (re:=false) (sz:=0) ad ad (by intro _;rfl));rw[dw] at f;have ch:=ae f;clear dw f a0 al af;go_wp2_with (fail);go_roundw
    case rel=>exact⟨i+1,g,bR,M++[⟨fK i,false,0⟩],by go_num,ad,ch.o⟩
    case measure=>simp[intOf];omega
  ·have gH:¬(i:Int)<1+(x:Int):=ad;go_upto_region 13 with(fail);have ce:=hS.o _ (by assumption);unfold BG at ce;exact ce az L aG y ar MA i mc M wr ad b9.o
 ):p:=h
end zJ
open zJ in
theorem F8(A:GR)(n c:Nat)(l:List Int)(w:World)(h:cG (EF dB) 1 w w.heap.size A n l)(hc:n≤c)
  (aA:∀K,(∀a ab,Code.wp prog (l3 13) (bodyPost prog Tryz.f24 (jh w)) a ab→K a ab)→BG w (.slice A n c) (bodyPost prog Tryz.f24 (jh w)) K) :
  Calls prog 24 #[.slice A n c] w (jh w):=by
 have H:=ae h;have hS:=ae aA;clear h aA;go_enter func24,ntmps24;exact gA
theorem sI:b0 prog 23 136 (.agg #[.string ⟨#[]⟩,.int .i64 0]) 2 24:=b0.mk' Tryz.underlying23 (by kernel_rfl) rfl ad
def pO(G:List (ByteArray×Int)):Prop:=∀i g,G[i]?=some g→g.1=dr i∧-2≤g.2∧g.2≤2
theorem pO.snoc{G:List (ByteArray×Int)}(h:pO G)(aJ:G.length=i){v:Int}(h0:-2≤v)(aS:v≤2):pO (G++[(dr i,v)]):=by
 intro k m hm;by_cases ap:k<G.length
 ·rw[List.getElem?_append_left ap] at hm;exact h k m hm
 ·rw[List.getElem?_append_right ad] at hm;have az:k - G.length=0:=by
   exact sb
  rw[az] at hm;simp at hm;subst hm;have:k=i:=ad;subst this;exact⟨rfl,h0,aS⟩
structure t7(S:World)(I:Nat)(w:World)(A:GR)(n c:Nat)(l:List Int)(ar:Bool)(MA:GR)(mn mc:Nat)(M:List bF)(GA:GR)(gn gc:Nat)(G:List (ByteArray×Int))(o:GR)(u:Nat):Prop where
 src:bV w (S.heap.size+1) A n c l
 blk:ag w (S.heap.size+1+1) 129 #[.pointer (some ⟨S.heap.size+1,0,none⟩),.slice GA gn gc,.slice MA mn mc,.slice none 0 0,.int .i64 24,.bool ar]
 res:ag w S.heap.size 27 #[.slice none 0 0,.slice none 0 0,.slice none 0 0]
 ms:Sl w (fun b=>S.heap.size+1+1+1≤b∧b<I) MA mn (M.map d4)
 mc:mn≤mc
 rows:jO I 136 2 9 1 w GA gn gc (G.map hq) o gn u ((G.map (·.1)).map D.s)
 nm:1≤mn∧mn≤4
 ok:lM M
 ng:gn≤2
 vW:pO G
 ext:Ext S w
 hD:S.heap.size+1+1+1≤I∧I≤w.heap.size
section
variable {S w ab:World} {I:Nat} {A:GR} {n c:Nat} {l:List Int} {ar:Bool} {MA:GR} {mn mc:Nat} {M:List bF} {GA:GR} {gn gc:Nat} {G:List (ByteArray×Int)} {o:GR} {u:Nat}
theorem mM.FJ(h:mM S w A n c l ar MA mn mc M)(ac:1≤mn):t7 S w.heap.size w A n c l ar MA mn mc M none 0 0 [] none 0:=
 ⟨h.src,h.blk,h.res,h.ms.sl (fun _ _ h=>h.elim) (fun b O aT=>⟨aT,O⟩),h.ms.cap.1,jO.nil _ _ _ _ _ _,⟨ac,h.nm⟩,h.ok,ad,(fun i g h=>by cases h),h.ext,by have:=h.blk.lt;omega,Gb _⟩
theorem t7.next(h:t7 S I w A n c l ar MA mn mc M GA gn gc G o u)(hs:bV ab (S.heap.size+1) A n c l)(O:Fr (fun b=>b=S.heap.size+1) w ab):t7 S I ab A n c l ar MA mn mc M GA gn gc G o u:=by
 have hD:=h.hD;exact⟨hs,h.blk.on O ad,h.res.on O ad,h.ms.ao fun b hp=>O.block b (aB hp.2) (aB hp.1),h.mc,h.rows.cZ O (fun b O _=>ad),h.nm,h.ok,h.ng,h.vW,Fr.low (M:=fun b=>b=S.heap.size+1) ((h.ext.mono fun _ h=>h.elim).trans O) fun k ap=>ad,hD.1,by have:=O.size;omega⟩
theorem t7.al(h:t7 S I w A n c l ar MA mn mc M GA gn gc G o u)(O:Ext w ab):t7 S I ab A n c l ar MA mn mc M GA gn gc G o u:=h.next (h.src.ch O fun _ _ h=>h) (O.mono fun _ h=>h.elim)
theorem t7.add(h:t7 S I w A n c l ar MA mn mc M GA gn gc G o u){bc z:GR}{aN Y:Nat}{g:ByteArray×Int}(aX:jO I 136 2 9 1 ab bc (gn+1) aN ((G++[g]).map hq) z (gn+1) Y (((G++[g]).map (·.1)).map D.s))
  (aw:Fr (fun b=>(Value.slice GA gn gc).ownBlock=some b∨(Value.slice o gn u).ownBlock=some b) w ab) (hn:gn+1≤2) (ch:pO (G++[g])) :
  t7 S I (ab.setCell ⟨S.heap.size+1+1,1,none⟩ (.slice bc (gn+1) aN)) A n c l ar MA mn mc M bc (gn+1) aN (G++[g]) z Y:=by
 have hD:=h.hD;have bi:∀b,((Value.slice GA gn gc).ownBlock=some b∨(Value.slice o gn u).ownBlock=some b)→I≤b:=fun b O=>by
  rcases O with O|O
  ·exact(h.rows.one.lt O).1
  ·exact(h.rows.two.lt O).1
 have aq:Fr (fun b=>b=S.heap.size+1+1) ab (ab.setCell ⟨S.heap.size+1+1,1,none⟩ (.slice bc (gn+1) aN)):=(Fr.refl (fun b=>b=S.heap.size+1+1) ab).setCell (.inl rfl) _;have hs:=aw.size;have bK:=aq.size;refine⟨(h.src.ch aw fun b O aj=>by have:=bi b aj;omega).ch aq (fun b O aj=>ad),(h.blk.on aw fun aj=>by have:=bi _ aj;omega).aH 1 _,(h.res.on aw fun aj=>by have:=bi _ aj;omega).on aq ad,
  h.ms.ao fun b hp=>(aq.block b (aB hp.2) (aB hp.1)).trans (aw.block b (aB hp.2) fun aj=>by have:=bi b aj;have:=hp.2;omega),h.mc,aX.cZ aq (fun b O _=>ad),h.nm,h.ok,hn,ch,?_,hD.1,ad⟩
 have ac:Ext S ab:=Fr.low (M:=fun b=>(Value.slice GA gn gc).ownBlock=some b∨(Value.slice o gn u).ownBlock=some b) ((h.ext.mono fun _ h=>h.elim).trans aw) fun k ap=>by have:=bi k ap;omega
 exact wu
end
def BH(S:World)(gW:Value)(Q:Exit→Act→World→Prop)(K:Act→World→Prop):Prop:=∀(I:Nat) (A:GR) (n c:Nat) (l:List Int) (ar:Bool) (MA:GR) (mn mc:Nat) (M:List bF) (GA:GR) (gn gc:Nat) (G:List (ByteArray×Int)) (o:GR) (u:Nat) {hZ h0 gE gM u8 gG eO gi gj b8 bi g u16 s bG eP eQ eR eS eT eU eV eW eX eY eZ e3 e4 u32 e5 e6 e7 e8 e9 fa fb fd fe ff fh fi fj fk fl fm fo fp fq fr fs ft fu fv fw fx fy fz fA fB fC u64 fD fF fG fH fI fJ fK fL fM fN fO fP fQ fR fS fT fU fV fW fX fY fZ f0 f1 f2 f3 f6 f7 f8 f9 ga gb gd ge gf am aE aL aP a3 a4 a6 a7 bg bh bk bp br bs bt bz bC bL bY b0 b6 b7 ca cg ci cn cq ct cv cw cx cz cB cC cD cE cF cG cH cI cJ cK cL cM cN cO cP cQ cR cS cT cU cV cX cY cZ c5 c7 c8 c9 da db dc dd de df dg dh dj dk dl dm dn dp dq ds dt du dv dx dy dz dB dC dD dE dF dG dH dI dJ dK dL dM dO dP dQ dR dT dV dW dX dY dZ d0 d1 d2 d3 d4 d5 d6 d7 d9 ea eb ec ed ee ef eg ei ek el em en eo ep eq er es et eu ev ew ex ey ez eA eB eC eD eE eF eG eH eI eJ eK eM bu go gp gq gr gs gt gu gv gw gx gA gB gC gD:Value} (w:World),t7 S I w A n c l ar MA mn mc M GA gn gc G o u→
 Code.wp prog (ts 19) (Exit.then K Q) ⟨#[gW,hZ,.pointer (some ⟨S.heap.size,0,none⟩),.pointer (some ⟨S.heap.size+1+1,0,none⟩),h0,gE,gM,.slice o gn u,u8,gG,eO,gi,gj,b8,bi,g,u16,s,bG,eP,eQ,eR,eS,eT,eU,eV,eW,eX,eY,eZ,e3,e4,u32,e5,e6,e7,e8,e9,fa,fb,fd,fe,ff,fh,fi,fj,fk,fl,fm,fo,fp,fq,fr,fs,ft,fu,fv,fw,fx,fy,fz,fA,fB,fC,u64,fD,fF,fG,fH,fI,fJ,fK,fL,fM,fN,fO,fP,fQ,fR,fS,fT,fU,fV,fW,fX,fY,fZ,f0,f1,f2,f3,f6,f7,f8,f9,ga,gb,gd,ge,gf,am,aE,aL,aP,a3,a4,a6,a7,bg,bh,bk,bp,br,bs,bt,bz,bC,bL,bY,b0,b6,b7,ca,cg,ci,cn,cq,ct,cv,cw,cx,cz,cB,cC,cD,cE,cF,cG,cH,cI,cJ,cK,cL,cM,cN,cO,cP,cQ,cR,cS,cT,cU,cV,cX,cY,cZ,c5,c7,c8,c9,da,db,dc,dd,de,df,dg,dh,dj,dk,dl,dm,dn,dp,dq,ds,dt,du,dv,dx,dy,dz,dB,dC,dD,dE,dF,dG,dH,dI,dJ,dK,dL,dM,dO,dP,dQ,dR,dT,dV,dW,dX,dY,dZ,d0,d1,d2,d3,d4,d5,d6,d7,d9,ea,eb,ec,ed,ee,ef,eg,ei,ek,el,em,en,eo,ep,eq,er,es,et,eu,ev,ew,ex,ey,ez,eA,eB,eC,eD,eE,eF,eG,eH,eI,eJ,eK,eM,bu,go,gp,gq,gr,gs,gt,gu,gv,gw,gx,gA,gB,gC,gD],[]⟩ w
theorem qv{w:World}{P:Nat→Prop}{x:ByteArray×Int}{cs:List Value}:(hq x).rep w P cs↔cs=[.string x.1,.int .i64 x.2]:=by
 unfold hq;rw[bw,ca];exact zT
theorem hM{P:Program}{ops:Array Oper}{Q:Exit→Act→World→Prop}{R:World→World→Prop}{tails:List Nat}{j k:Nat}{f:Nat→PT}{a:Act}{w:World}(h:lL P ops Q R tails i (f i) a w)(J:lL P ops Q R tails j (f j) a w)(aS:lL P ops Q R tails k (f k) a w):cN P ops Q R tails (.pick [i,j,k] f) a w:=fun m hm=>by
 simp only[Gt,List.not_mem_nil,or_false] at hm;rcases hm with rfl|rfl|rfl
 ·exact h
 ·exact J
 ·exact aS
theorem AB(aJ:i<3){bv:Int}(O:IntKind.u8.wrap (IntKind.i64.wrap (48+(i:Int)))=bv):(⟨#[103]⟩++strOf [byteOf bv]:ByteArray)=dr i:=by
 subst O;have h:∀k:Fin 3,(⟨#[103]⟩++strOf [byteOf (IntKind.u8.wrap (IntKind.i64.wrap (48+((k.val:Nat):Int))))]:ByteArray)=dr k.val:=by decide
 exact h ⟨i,aJ⟩
theorem c6(V:World)(g:Nat)(v1:Int)(h0:V.cell? ⟨g,0,none⟩=some (.int .u8 v1)) :
  (convert 131 9 (.slice (some ⟨g,0,none⟩) 1 1)).run prog V=.ok (.string (strOf [byteOf v1])) V:=by
 have:=run_convert_bytes_arg (P:=prog) V 131 5 Tryz.underlying131 Tryz.underlying5 g 0 1 1 [v1] rfl (fun i aJ=>by
  obtain rfl:i=0:=ad;exact h0) 9 Tryz.underlying9
 rw[this];rfl
end Go.Proofs.YtjhgbdckgkppnaaGreat

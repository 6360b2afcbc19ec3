/- Part 36 of the proof. No condition of its own. -/
import Derived.Test.YtpkfopfkdgkfkaaGreatQ12
import Derived.Test.YtpkfopfkdgkfkaaGreatQ33
namespace Go.Proofs.YtpkfopfkdgkfkaaGreat
open Go.RowKit Go.Proofs.Tryz
set_option maxRecDepth 1000000
set_option maxHeartbeats 25600000
set_option linter.unusedVariables false
variable{bv:Int}{ps:List (ByteArray×Bool)}{T:List Tok}{B g k z:Nat}{P:Nat->Prop}{p:Prop}{e:TypeId}{v0 v1 v2:Value}{f:aL}{b:ao}
namespace CV
theorem AT(h:p:=by
 refine(show Calls prog 88 #[.pointer (some ⟨g,0,none⟩),.string ⟨#[91]⟩] X _ from cJ [91] g A n c T (k+1) deep X aN.1 false bN.2.2 (λh=>by cases h)).mono ?_;rintro e aT ⟨rfl,bg,hF⟩;have bM:=aN.2.2.1.on hF ad;have cK:=aN.2.2.2.on hF ad;have bc:=az (show bI aT g A n c T (k+1) deep from by simpa using bg) (aN.2.1.trans hF) bM;clear bg hF aN;obtain⟨d0,aK,aM⟩:=cK.two;obtain⟨bl,aD,aP⟩:=bM.two;clear cK bM;go_wp2_with(fail);generalize co:World.setCell _ _ _=Y;obtain⟨bH,bG,bx⟩:=ei (M:=λb=>b=g) (w:=w) [.string (strOf t.text),()] (by rfl) bc.2.2 bc.2.1 (LK _) co;have bC:=ag (bc.1.on bx λb O=>ad) bG;clear co bG bx bl aD aP;obtain⟨bl,aD,aP⟩:=bH.two;refine Mn (v:=.agg #[.string (strOf t.text),()]) (by simp[results,Tryz.results145,go_sem,bl]) rfl ?_;exact⟨rfl,bC.1,bC.2⟩
 ):p:=h
end CV
open CV in
theorem w1(g:Nat)(A:Mt)(n c:Nat)(T:List Tok)(k deep:Nat)(w:World)(t:Tok)(h:bI w g A n c T k deep)(ht:T[k]?=some t)(bK:t.kind=1)(bm:ca [91] T (k+1)=false)(aj:k+1<n) :
  Calls prog 145 #[.pointer (some ⟨g,0,none⟩)] w λe ab=>e=.returned (.agg #[.string (strOf t.text),()])/\bI ab g A n c T (k+1) deep/\Fr (λb=>b=g) w ab:=by
 have H:=ae h;have bN:=az ht bK bm;have cl:=h.blk.lt;clear h bK ht bm;go_enter func145,ntmps145;go_upto_region 1 with(fail);generalize ba:World.alloc _ _=W;have aw:=aU ba;have cv:=aI ba;have ah:=az (H.aj aw) aw cv;clear ba aw cv;go_wp2_with(fail);refine(mU g A n c T k deep W t ah.1 bN.1 bN.2.1 aj).mono ?_;exact AS
theorem GD(g:Nat)(A:Mt)(n c:Nat)(T:List Tok)(k deep:Nat)(w:World)(h:bI w g A n c T k deep)(ac:ca [40] T k=true)(ap:ca [41] T (k+1)=true)(aj:k+2<n) :
  Calls prog 144 #[.pointer (some ⟨g,0,none⟩)] w λe ab=>e=.returned (.slice none 0 0)/\bI ab g A n c T (k+2) deep/\Fr (λb=>b=g) w ab:=by
 have H:=ae h;have bN:=ag ac ap;clear h ac ap;go_enter func144,ntmps144;exact Hp
theorem y9(g:Nat)(A:Mt)(n c:Nat)(T:List Tok)(k deep:Nat)(w:World)(h:bI w g A n c T k deep)(ac:ca [40] T k=true)(ap:ca [41] T (k+1)=true)(aj:k+2<n) :
  Calls prog 92 #[.pointer (some ⟨g,0,none⟩)] w λe ab=>e=.returned (.slice none 0 0)/\bI ab g A n c T (k+2) deep/\Fr (λb=>b=g) w ab:=by
 have H:=ae h;have bN:=ag ac ap;clear h ac ap;go_enter func92,ntmps92;exact Hp
namespace CW
theorem AT(h:p:=by
 refine(show Calls prog 88 #[.pointer (some ⟨g,0,none⟩),.string ⟨#[91]⟩] X _ from cJ [91] g A n c T (k+1) deep X aN.1 false bN.2.2.1 (λh=>by cases h)).mono ?_;rintro e aT ⟨rfl,bg,hF⟩;have bc:=bF (show bI aT g A n c T (k+1) deep from by simpa using bg) (aN.2.1.trans hF) (aN.2.2.1.on hF ad) (aN.2.2.2.on hF ad);clear bg hF aN;go_wp2_with(fail);refine(show Calls prog 129 #[.pointer (some ⟨g,0,none⟩),.string ⟨#[59]⟩] aT _ from kb [59] g A n c T (k+1) deep aT bc.1 bN.2.2.2 ad).mono ?_;rintro e b7 ⟨rfl,bg,hF⟩;have bM:=bc.2.2.1.on hF ad;have cK:=bc.2.2.2.on hF ad;have bQ:=az bg (bc.2.1.trans hF) bM;clear bg hF bc;obtain⟨d0,aK,aM⟩:=cK.two;obtain⟨bl,aD,aP⟩:=bM.two;clear cK bM;go_wp2_with(fail);generalize co:World.setCell _ _ _=Y;obtain⟨bH,bG,bx⟩:=ei (M:=λb=>b=g) (w:=w) [.string (strOf t.text),false,(0:Int)] (by rfl) bQ.2.2 bQ.2.1 (LK _) co;have bC:=ag (bQ.1.on bx λb O=>ad) bG;clear co bG bx bl aD aP;obtain⟨bl,aD,aP⟩:=bH.two;refine Mn (v:=.agg #[.string (strOf t.text),false,(0:Int)]) (by simp[results,Tryz.results90,go_sem,bl]) rfl ?_;exact⟨rfl,bC.1,bC.2⟩
 ):p:=h
end CW
open CW in
theorem Ff(g:Nat)(A:Mt)(n c:Nat)(T:List Tok)(k deep:Nat)(w:World)(t:Tok)(h:bI w g A n c T k deep)(ht:T[k]?=some t)(bK:t.kind=1)(bm:ca [91] T (k+1)=false)(ap:ca [59] T (k+1)=true)(aj:k+2<n) :
  Calls prog 90 #[.pointer (some ⟨g,0,none⟩),false] w λe ab=>e=.returned (.agg #[.string (strOf t.text),false,(0:Int)])/\bI ab g A n c T (k+2) deep/\Fr (λb=>b=g) w ab:=by
 have H:=ae h;have bN:=bF ht bK bm ap;have cl:=h.blk.lt;clear h bK ht bm ap;go_enter func90,ntmps90;go_upto_region 1 with(fail);generalize ba:World.alloc _ _=W;have aw:=aU ba;have cv:=aI ba;have ah:=az (H.aj aw) aw cv;clear ba aw cv;go_wp2_with(fail);refine(mU g A n c T k deep W t ah.1 bN.1 bN.2.1 ad).mono ?_;exact AS
theorem Ij:cn prog 29 96 (.agg #[Mq,(),()]) 3 64:=cn.mk' Tryz.underlying29 (by kernel_rfl) rfl ad
theorem D3:cn prog 93 98 (.agg #[Mq,false]) 2 24:=cn.mk' Tryz.underlying93 (by kernel_rfl) rfl ad
def qZ(F:List aL):Prop:=∀i f,F[i]?=some f->f.name=jF i/\(∃n,n<=2/\f.params.map (·.1)=fh n)/\(i=0->f.params=[])/\f.body=.nil
theorem qZ.snoc{F:List aL}(h:qZ F){i:Nat}(aX:F.length=i){n:Nat}(hn:n<=2)(hp:ps.map (·.1)=fh n)(h0:i=0->ps=[]):qZ (F++[⟨jF i,ps,.nil⟩]):=by
 intro k m hm;by_cases aj:k<F.length
 .rw[List.getElem?_append_left aj] at hm;exact h k m hm
 .rw[List.getElem?_append_right ad] at hm;have cu:k - F.length=0:=by
   exact vw
  rw[cu] at hm;simp at hm;subst hm;have:k=i:=ad;subst this;exact⟨rfl,⟨n,hn,hp⟩,h0,rfl⟩
theorem GN{w:World}{nm:ByteArray}{PA:Mt}{pn pc:Nat}(hc:pn<=pc)(h:Sl w P PA pn (ps.map cD)):(dD ⟨nm,ps,.nil⟩).rep w P [nm,.slice PA pn pc,()]:=by
 unfold dD;rw[bN];exact cu.2 ⟨_,rfl,aO.2 ⟨PA,pn,pc,_,rfl,hc,h,aO.2 ⟨none,0,0,[],rfl,LK _,Sl.bS _,aR.2 rfl⟩⟩⟩
structure zx(S:World)(u:Nat)(w:World)(A:Mt)(n c:Nat)(l:List Int)(ar:Bool)(MA:Mt)(mn mc:Nat)(M:List bM)(GA:Mt)(gn gc:Nat)(G:List (ByteArray×Int))(aq:Mt)(ba:Nat)(FA:Mt)(fn fc:Nat)(F:List aL):Prop where
 src:cr w (S.heap.size+1) A n c l
 blk:au w (S.heap.size+1+1) 85 #[.pointer (some ⟨S.heap.size+1,0,none⟩),.slice GA gn gc,.slice MA mn mc,.slice FA fn fc,.int .i64 24,.bool ar]
 res:au w S.heap.size 31 #[.slice none 0 0,.slice none 0 0,.slice none 0 0]
 ms:Sl w (λb=>S.heap.size+1+1+1<=b/\b<u) MA mn (M.map eK)
 gs:Sl w (λb=>S.heap.size+1+1+1<=b/\b<u) GA gn (G.map iG)
 vs:Sl w (λb=>S.heap.size+1+1+1<=b/\b<u) aq gn ((G.map (·.1)).map D.s)
 fs:Gr (λb=>u<=b) u 96 3 w FA fn fc (F.map dD)
 mc:mn<=mc
 gc:gn<=gc
 nm:1<=mn/\mn<=4
 ok:na M
 ng:gn<=2
 zp:sd G
 nf:fn<=4
 Kd:qZ F
 ext:Ext S w
 hD:S.heap.size+1+1+1<=u/\u<=w.heap.size
section
variable {S w ab:World} {u iq:Nat} {A:Mt} {n c:Nat} {l:List Int} {ar:Bool} {MA:Mt} {mn mc:Nat} {M:List bM} {GA:Mt} {gn gc:Nat} {G:List (ByteArray×Int)} {aq:Mt} {ba:Nat} {FA:Mt} {fn fc:Nat} {F:List aL}
theorem xF.Ks(h:xF S iq w A n c l ar MA mn mc M GA gn gc G aq ba):zx S w w A n c l ar MA mn mc M GA gn gc G aq ba none 0 0 []:=by
 have hD:=h.hD;exact⟨h.src,h.blk,h.res,h.ms.mono λb hp=>⟨hp.1,by have:=hp.2;omega⟩,h.rows.one.sl (λb O hp=>⟨by have:=hp.1;omega,O⟩) (λb O aQ=>⟨ad,O⟩),h.rows.two.sl (λb O hp=>⟨by have:=hp.1;omega,O⟩) (λb O aQ=>⟨ad,O⟩),Gr.nil _ _ _ _ _,h.mc,h.rows.one.cap.1,h.nm,h.ok,h.ng,h.zp,ad,(λi f h=>by cases h),h.ext,ad,LK _⟩
theorem zx.next(h:zx S u w A n c l ar MA mn mc M GA gn gc G aq ba FA fn fc F)(hs:cr ab (S.heap.size+1) A n c l)(O:Fr (λb=>b=S.heap.size+1) w ab):zx S u ab A n c l ar MA mn mc M GA gn gc G aq ba FA fn fc F:=by
 have hD:=h.hD;have aj:∀b,(S.heap.size+1+1+1<=b/\b<u)->ab.heap[b]?=w.heap[b]?:=λb hp=>O.block b (ay hp.2) (ay hp.1);exact⟨hs,h.blk.on O ad,h.res.on O ad,h.ms.ai aj,h.gs.ai aj,h.vs.ai aj,h.fs.cZ O (λb O _=>⟨ad,ad⟩),h.mc,h.gc,h.nm,h.ok,h.ng,h.zp,h.nf,h.Kd,Fr.low (M:=λb=>b=S.heap.size+1) ((h.ext.mono λ_ h=>h.elim).trans O) λk aj=>ad,hD.1,by have:=O.size;omega⟩
theorem zx.add(h:zx S u w A n c l ar MA mn mc M GA gn gc G aq ba FA fn fc F){cD:Mt}{ck:Nat}(aR:Gr (λb=>u<=b) u 96 3 ab cD (fn+1) ck (F.map dD++[dD f]))(J:Fr (λb=>(Value.slice FA fn fc).ownBlock=some b) w ab)
  (hn:fn+1<=4) (ca:qZ (F++[f])):zx S u (ab.setCell ⟨S.heap.size+1+1,3,none⟩ (.slice cD (fn+1) ck)) A n c l ar MA mn mc M GA gn gc G aq ba cD (fn+1) ck (F++[f]):=by
 have hD:=h.hD;have bn:∀b,(Value.slice FA fn fc).ownBlock=some b->u<=b:=λb O=>(h.fs.lt O).1;have aC:Fr (λb=>b=S.heap.size+1+1) ab (ab.setCell ⟨S.heap.size+1+1,3,none⟩ (.slice cD (fn+1) ck)):=(Fr.refl (λb=>b=S.heap.size+1+1) ab).setCell (.inl rfl) _;have hs:=J.size;have bS:=aC.size;have aj:∀b,(S.heap.size+1+1+1<=b/\b<u)->(ab.setCell ⟨S.heap.size+1+1,3,none⟩ (.slice cD (fn+1) ck)).heap[b]?=w.heap[b]?:=λb hp=>(aC.block b (ay hp.2) (ay hp.1)).trans (J.block b (ay hp.2) λah=>by have:=bn b ah;have:=hp.2;omega);refine⟨(h.src.cT J λb O ah=>by have:=bn b ah;omega).cT aC (λb O ah=>ad),(h.blk.on J λah=>by have:=bn _ ah;omega).aN 3 _,(h.res.on J λah=>by have:=bn _ ah;omega).on aC ad,h.ms.ai aj,h.gs.ai aj,h.vs.ai aj,?_,h.mc,h.gc,h.nm,h.ok,h.ng,h.zp,hn,ca,?_,hD.1,ad⟩
 .rw[LR,LQ,Me];exact aR.cZ aC (λb O _=>⟨ad,ad⟩)
 .have ac:Ext S ab:=Fr.low (M:=λb=>(Value.slice FA fn fc).ownBlock=some b) ((h.ext.mono λ_ h=>h.elim).trans J) λk aj=>by have:=bn k aj;omega
  exact zZ
end
def FW(S:World)(gY:Value)(Q:Exit->Act->World->Prop)(K:Act->World->Prop):Prop:=∀(u:Nat) (A:Mt) (n c:Nat) (l:List Int) (ar:Bool) (MA:Mt) (mn mc:Nat) (M:List bM) (GA:Mt) (gn gc:Nat) (G:List (ByteArray×Int)) (aq:Mt) (ba:Nat) (FA:Mt) (fn fc:Nat) (F:List aL) {hu hw gR gV u8 gS eW bK gw gv cc bD u16 gx gy eX eY eZ e3 e4 e5 e6 e7 e8 e9 fa fb fd u32 fe ff fi fj fk fl fp fq fr fs ft fu fv fw fx fz fA fB fC fD fE fF fG fI fJ fK fL fM fN fO fP u64 fR fS fT fU fV fW fX fY fZ f3 f4 f5 f6 f7 f8 f9 ga gb gd ge gf gg gh gi gj gk gl gm go gp gq gr gs gt gu H I am aG aK aM aU a4 bb bf bm bo bp bq bu bz bB bI bW b6 b9 ca cd cj ck cm cq cu cw cy cB cE cF cH cK cM cN cO cQ cR cT cV cW cX cY c4 c5 c6 c7 c8 c9 da db dc dd de df dg dh di dj dk dl dm dn dp dr ds dt du dv dw dx dy dz dA dD dE dF dG dH dI dJ dK dL dM dO dP dR dS dT dU dV dY dZ d0 d1 d2 d3 d4 d5 d6 d7 d8 d9 ea eb ec ed ee ef eg eh ej ek el em en eo ep eq er es et ev ew ex ey ez eA eB eC eD eE eF eG eH eI eK eL eM eN eO eP eQ eR eT eU eV gB gC gD gE gF gG gH gI gJ gK gL gM gN gO gP:Value} (w:World),1<=fn->zx S u w A n c l ar MA mn mc M GA gn gc G aq ba FA fn fc F->
 Code.wp prog (wW 32) (Exit.then K Q) ⟨#[gY,hu,.pointer (some ⟨S.heap.size,0,none⟩),.pointer (some ⟨S.heap.size+1+1,0,none⟩),hw,gR,gV,.slice aq gn ba,u8,gS,eW,bK,gw,gv,cc,bD,u16,gx,gy,eX,eY,eZ,e3,e4,e5,e6,e7,e8,e9,fa,fb,fd,u32,fe,ff,fi,fj,fk,fl,fp,fq,fr,fs,ft,fu,fv,fw,fx,fz,fA,fB,fC,fD,fE,fF,fG,fI,fJ,fK,fL,fM,fN,fO,fP,u64,fR,fS,fT,fU,fV,fW,fX,fY,fZ,f3,f4,f5,f6,f7,f8,f9,ga,gb,gd,ge,gf,gg,gh,gi,gj,gk,gl,gm,go,gp,gq,gr,gs,gt,gu,H,I,am,aG,aK,aM,aU,a4,bb,bf,bm,bo,bp,bq,bu,bz,bB,bI,bW,b6,b9,ca,cd,cj,ck,cm,cq,cu,cw,cy,cB,cE,cF,cH,cK,cM,cN,cO,cQ,cR,cT,cV,cW,cX,cY,c4,c5,c6,c7,c8,c9,da,db,dc,dd,de,df,dg,dh,di,dj,dk,dl,dm,dn,dp,dr,ds,dt,du,dv,dw,dx,dy,dz,dA,dD,dE,dF,dG,dH,dI,dJ,dK,dL,dM,dO,dP,dR,dS,dT,dU,dV,dY,dZ,d0,d1,d2,d3,d4,d5,d6,d7,d8,d9,ea,eb,ec,ed,ee,ef,eg,eh,ej,ek,el,em,en,eo,ep,eq,er,es,et,ev,ew,ex,ey,ez,eA,eB,eC,eD,eE,eF,eG,eH,eI,eK,eL,eM,eN,eO,eP,eQ,eR,eT,eU,eV,gB,gC,gD,gE,gF,gG,gH,gI,gJ,gK,gL,gM,gN,gO,gP],[]⟩ w
theorem Ev{i:Nat}(aX:i<4)(h0:i≠0)(O:bv=48+(i:Int)):(⟨#[102]⟩++strOf [byteOf bv]:ByteArray)=jF i:=by
 subst O;have h:∀k:Fin 4,k.val≠0->(⟨#[102]⟩++strOf [byteOf (48+((k.val:Nat):Int))]:ByteArray)=jF k.val:=by decide
 exact h ⟨i,aX⟩ h0
theorem E8{i:Nat}(aX:i<3)(O:IntKind.u8.wrap (IntKind.i64.wrap (48+(i:Int)))=bv):(⟨#[112]⟩++strOf [byteOf bv]:ByteArray)=uz i:=by
 subst O;have h:∀k:Fin 3,(⟨#[112]⟩++strOf [byteOf (IntKind.u8.wrap (IntKind.i64.wrap (48+((k.val:Nat):Int))))]:ByteArray)=uz k.val:=by decide
 exact h ⟨i,aX⟩
theorem fv{a b:List UInt8}(h:ca a T k=true)(hn:strOf a≠strOf b):ca b T k=false:=by
 unfold ca at h ⊢
 cases hT:T[k]? with
 | none=>rfl
 | some t=>
  rw[hT] at h;simp only[LY,Ml] at h;simp only[Bool.and_eq_false_iff,decide_eq_false_iff_not];exact .inr λO=>hn (h.2.symm.trans O)
def EK:Value->Nat
 | .slice _ n _=>n
 | _=>0
structure FT(T:List Tok)(k:Nat)(r:List Tok):Prop where
 pos:0<r.length
 ja:r.length<=6
 mu:∀j,j<r.length->ca [109,117,116,101,120] T (k+3*j)=true
 nm:∀j t,r[j]?=some t->T[k+3*j+1]?=some t/\t.kind=1
 co:∀j,j<r.length->ca [44] T (k+3*j+2)=decide (j+1<r.length)
 cl:∀j,j+1=r.length->ca [41] T (k+3*j+2)=true
def kt(t:Tok):ByteArray×Bool:=(strOf t.text,true)
theorem yL{w:World}(s:ByteArray)(b:Bool):(cD (s,b)).rep w P [s,b]:=by
 unfold cD;simp only[D.rep,D.aM]
 first|exact⟨_,rfl,_,rfl,rfl⟩|(simp;done)|skip
theorem Fr.cut{M:Nat->Prop}{w ab:World}(h:Fr (λb=>M b\/w.heap.size<=b) w ab):Fr M w ab:=⟨h.os,h.tape,h.output,h.size,λk aj hn=>h.block k aj λhm=>hm.elim hn λh=>ad⟩
namespace C8
theorem AE(h:p:=by
 have hd:(cD (kt t)).rep Y (lh (λb=>w.heap.size<=b) Y (.slice D j l)) (#[.string (strOf t.text),true]:Array Value).toList:=yL _ _;obtain⟨b4,aA⟩:=aJ hd bv;clear co bx bH bj bv y F ci bO b5 hd;go_wp2_with(at_builtin;refine bL D3 rfl (.tmp 33) (.tmp 35) rfl bC.2.2.1 (d:=cD (kt t)) (cs:=#[.string (strOf t.text),.bool true]) b4.o rfl rfl rfl ad ad ad ?_;intro cC c3 c6 bT g2 cP db;have bX:=az bT g2 db;clear bT g2 cP db);have G:bI c6 g A n c T (k+1+3*j+2) deep:=bC.1.on bX.2.1 λb O=>by have:=(aA.o b O).1;omega
 have i:Fr (λb=>b=g) w c6:=Fr.cut (Fr.trans bC.2.1 (bX.2.1.mono λb O=>.inr (aA.o b O).1));have x:Gr (λb=>w.heap.size<=b) w.heap.size 98 2 c6 cC (j+1) c3 (((r.take (j+1)).map kt).map cD):=by
  exact Am
 exact Hc
 ):p:=h
theorem AZ(h:p:=by
 have dr:((j:Int) == 6)=false:=by simp;omega
 clear bg hF hG ht bv;go_wp2_with(fail);refine(show Calls prog 88 #[.pointer (some ⟨g,0,none⟩),.string ⟨#[109,117,116,101,120]⟩] wr _ from cJ [109,117,116,101,120] g A n c T (k+1+3*j) deep wr a3.1 true (bN.2.2.mu j ad) (λ_=>ad)).mono ?_;rintro e b7 ⟨rfl,bg,a2⟩;have bQ:=ag (show bI b7 g A n c T (k+1+3*j+1) deep from by simpa using bg) a2;have cQ:=a2.size;clear bg a2 dd b9 J;go_upto_region 9 with(fail);generalize hX:World.alloc _ _=X;have bu:=aU hX;have bp:=aI hX;have aN:=az (bQ.1.aj bu) bu bp;have L:=bp.lt;clear hX bu bp;go_wp2_with(fail);refine(mU g A n c T (k+1+3*j+1) deep X t aN.1 (bN.2.2.nm j t a3.2.2.2.1).1 (bN.2.2.nm j t a3.2.2.2.1).2 ad).mono ?_;rintro e cS ⟨rfl,bg,z⟩;have bZ:=aN.2.2.on z ad;have P:=az (show bI cS g A n c T (k+1+3*j+2) deep from bg) z bZ;have du:=z.size;obtain⟨ci,bO,b5⟩:=bZ.two;clear bg z bZ;go_upto_region 10 with(fail);generalize co:World.setCell _ _ _=Y;have bx:=cp co;have bH:au Y b7 98 #[.string (strOf t.text),true]:=co▸P.2.2.aN 0 _;have c4:=bx.size;have bj:Fr (λb=>b=g\/b=b7.heap.size) wr Y:=Fr.trans (Fr.trans (Fr.trans (bQ.2.mono λ_ h=>.inl h) (aN.2.1.mono λ_ h=>h.elim)) (P.2.1.mono λ_ h=>.inl h)) (bx.mono λ_ h=>.inr h);exact AD
 ):p:=h
theorem Az(h:p:=by
 go_loopw [3] (λU wr=>∃(j:Nat) (D:Mt) (l:Nat),U=.slice D j l/\j<N/\bI wr g A n c T (k+1+3*j) deep/\Fr (λb=>b=g) w wr/\Gr (λb=>w.heap.size<=b) w.heap.size 98 2 wr D j l (((r.take j).map kt).map cD)) (λU _=>N - EK U)
 case atStart=>exact⟨0,none,0,rfl,u,bc.1,bc.2,Gr.nil _ _ _ _ _⟩
 case round=>
  exact AY
 ):p:=h
end C8
open C8 in
theorem w0(g:Nat)(A:Mt)(n c:Nat)(T:List Tok)(k deep:Nat)(r:List Tok)(w:World)(h:bI w g A n c T k deep)(ac:ca [40] T k=true)(ap:ca [41] T (k+1)=false)(bD:FT T (k+1) r)(aj:k+1+3*r.length<n) :
  Calls prog 92 #[.pointer (some ⟨g,0,none⟩)] w λe ab=>∃D m l,e=.returned (.slice D m l)/\m<=l/\bI ab g A n c T (k+1+3*r.length) deep/\Fr (λb=>b=g) w ab/\Sl ab (fresh w ab) D m ((r.map kt).map cD):=by
 have H:=ae h;have cl:=h.blk.lt;have u:=bD.pos;have I:=bD.ja;have bN:=az ac ap bD;clear h ac ap bD;go_enter func92,ntmps92;exact Ay
def kq(t:Tok):dt:=.mx ⟨strOf t.text,none⟩
theorem yB{w:World}(t:Tok):(eU (kq t)).rep w P [true,.string (strOf t.text),(),(0:Int),(0:Int),Mq,()]:=by
 have h:=yh (w:=w) (P:=P) (r:=⟨strOf t.text,none⟩) (IA:=none) (i:=0) (ic:=0) (Sl.bS _) (LK _);exact h
namespace C9
theorem AE(h:p:=by
 have hd:(eU (kq t)).rep Y (lh (λb=>w.heap.size<=b) Y (.slice D j l)) (#[true,.string (strOf t.text),(),(0:Int),(0:Int),Mq,()]:Array Value).toList:=yB t;obtain⟨b4,aA⟩:=aJ hd bv;clear co bx bH bj bv y F ci bO b5 hd;go_wp2_with(at_builtin;refine bL sM rfl (.tmp 23) (.tmp 25) rfl bC.2.2.1 (d:=eU (kq t)) (cs:=#[.bool true,.string (strOf t.text),.slice none 0 0,.int .i64 0,.int .i64 0,.string ⟨#[]⟩,.slice none 0 0]) b4.o rfl rfl rfl ad ad ad ?_;intro cC c3 c6 bT g2 cP db;have bX:=az bT g2 db;clear bT g2 cP db);have G:bI c6 g A n c T (k+1+3*j+2) deep:=bC.1.on bX.2.1 λb O=>by have:=(aA.o b O).1;omega
 have i:Fr (λb=>b=g) w c6:=Fr.cut (Fr.trans bC.2.1 (bX.2.1.mono λb O=>.inr (aA.o b O).1));have x:Gr (λb=>w.heap.size<=b) w.heap.size 197 7 c6 cC (j+1) c3 (((r.take (j+1)).map kq).map eU):=by
  exact Am
 exact Hc
 ):p:=h
theorem AZ(h:p:=by
 have bm:ca [91] T (k+1+3*j+1+1)=false:=by
  by_cases dN:j+1<N
  .exact fv (by rw[bN.2.2.co j ad];exact decide_eq_true ad) (by decide)
  .exact fv (bN.2.2.cl j ad) (by decide)
 have aD:=ae bm;clear bg hF hG ht bv bm;go_upto_region 7 with(fail);generalize hX:World.alloc _ _=X;have bu:=aU hX;have bp:=aI hX;have aN:=az (a3.1.aj bu) bu bp;have L:=bp.lt;clear hX bu bp dd b9 J;go_wp2_with(fail);refine(show Calls prog 88 #[.pointer (some ⟨g,0,none⟩),.string ⟨#[109,117,116,101,120]⟩] X _ from cJ [109,117,116,101,120] g A n c T (k+1+3*j) deep X aN.1 true (bN.2.2.mu j ad) (λ_=>ad)).mono ?_;rintro e b7 ⟨rfl,bg,a2⟩;have bQ:=az (show bI b7 g A n c T (k+1+3*j+1) deep from by simpa using bg) a2 (aN.2.2.on a2 ad);have cQ:=a2.size;clear bg a2;go_wp2_with(fail);refine(w1 g A n c T (k+1+3*j+1) deep b7 t bQ.1 (bN.2.2.nm j t a3.2.2.2.1).1 (bN.2.2.nm j t a3.2.2.2.1).2 aD.o ad).mono ?_;rintro e cS ⟨rfl,bg,z⟩;have bZ:=bQ.2.2.on z ad;have P:=az (show bI cS g A n c T (k+1+3*j+2) deep from bg) z bZ;have du:=z.size;obtain⟨ci,bO,b5⟩:=bZ.two;clear bg z bZ;go_upto_region 10 with(fail);generalize co:World.setCell _ _ _=Y;obtain⟨bH,bx⟩:=jG 0 [true,.string (strOf t.text),(),(0:Int),(0:Int),Mq,()] P.2.2 co;have bH:au Y wr 197 #[true,.string (strOf t.text),(),(0:Int),(0:Int),Mq,()]:=bH;have c4:=bx.size;have bj:Fr (λb=>b=g\/b=wr.heap.size) wr Y:=Fr.trans (Fr.trans (Fr.trans (aN.2.1.mono λ_ h=>h.elim) (bQ.2.1.mono λ_ h=>.inl h)) (P.2.1.mono λ_ h=>.inl h)) (bx.mono λ_ h=>.inr h);exact AD
 ):p:=h
theorem Az(h:p:=by
 go_loopw [3] (λU wr=>∃(j:Nat) (D:Mt) (l:Nat),U=.slice D j l/\j<N/\bI wr g A n c T (k+1+3*j) deep/\Fr (λb=>b=g) w wr/\Gr (λb=>w.heap.size<=b) w.heap.size 197 7 wr D j l (((r.take j).map kq).map eU)) (λU _=>N - EK U)
 case atStart=>exact⟨0,none,0,rfl,u,bc.1,bc.2,Gr.nil _ _ _ _ _⟩
 case round=>
  exact AY
 ):p:=h
end C9
open C9 in
theorem Fc(g:Nat)(A:Mt)(n c:Nat)(T:List Tok)(k deep:Nat)(r:List Tok)(w:World)(h:bI w g A n c T k deep)(ac:ca [40] T k=true)(ap:ca [41] T (k+1)=false)(bD:FT T (k+1) r)(aj:k+1+3*r.length<n) :
  Calls prog 144 #[.pointer (some ⟨g,0,none⟩)] w λe ab=>∃D m l,e=.returned (.slice D m l)/\m<=l/\bI ab g A n c T (k+1+3*r.length) deep/\Fr (λb=>b=g) w ab/\Sl ab (fresh w ab) D m ((r.map kq).map eU):=by
 have H:=ae h;have cl:=h.blk.lt;have u:=bD.pos;have I:=bD.ja;have bN:=az ac ap bD;clear h ac ap bD;go_enter func144,ntmps144;exact Ay
def yx(T:List Tok)(k:Nat)(r:List Tok):Prop:=ca [40] T k=true/\((r=[]/\ca [41] T (k+1)=true)\/(ca [41] T (k+1)=false/\FT T (k+1) r))
def eW(k:Nat)(r:List Tok):Nat:=if r.length=0 then k+2 else k+1+3*r.length
theorem Fb(g:Nat)(A:Mt)(n c:Nat)(T:List Tok)(k deep:Nat)(r:List Tok)(w:World)(h:bI w g A n c T k deep)(bD:yx T k r)(aj:eW k r<n) :
  Calls prog 144 #[.pointer (some ⟨g,0,none⟩)] w λe ab=>∃D m l,e=.returned (.slice D m l)/\m<=l/\bI ab g A n c T (eW k r) deep/\Fr (λb=>b=g) w ab/\Sl ab (fresh w ab) D m ((r.map kq).map eU):=by
 obtain⟨h0,bD|bD⟩:=bD
 .obtain⟨rfl,ac⟩:=bD;refine(GD g A n c T k deep w h h0 ac aj).mono ?_;exact z8
 .have hp:r.length≠0:=by have:=bD.2.pos;omega
  have he:eW k r=k+1+3*r.length:=by unfold eW;rw[if_neg hp]
  rw[he] at aj ⊢;exact Fc g A n c T k deep r w h h0 bD.1 bD.2 aj
theorem wZ(g:Nat)(A:Mt)(n c:Nat)(T:List Tok)(k deep:Nat)(r:List Tok)(w:World)(h:bI w g A n c T k deep)(bD:yx T k r)(aj:eW k r<n) :
  Calls prog 92 #[.pointer (some ⟨g,0,none⟩)] w λe ab=>∃D m l,e=.returned (.slice D m l)/\m<=l/\bI ab g A n c T (eW k r) deep/\Fr (λb=>b=g) w ab/\Sl ab (fresh w ab) D m ((r.map kt).map cD):=by
 obtain⟨h0,bD|bD⟩:=bD
 .obtain⟨rfl,ac⟩:=bD;refine(y9 g A n c T k deep w h h0 ac aj).mono ?_;exact z8
 .have hp:r.length≠0:=by have:=bD.2.pos;omega
  have he:eW k r=k+1+3*r.length:=by unfold eW;rw[if_neg hp]
  rw[he] at aj ⊢;exact w0 g A n c T k deep r w h h0 bD.1 bD.2 aj
def ET(T:List Tok):Nat->Nat->Option (List Tok)
 | 0,_=>none
 | f+1,k=>match T[k+1]? with
  | none=>none
  | some t=>
   if t.kind=1 then
    if ca [109,117,116,101,120] T k then
     if ca [44] T (k+2) then (ET T f (k+3)).map (t::·) else if ca [41] T (k+2) then some [t] else none
    else none
   else none
def wF(T:List Tok)(k:Nat):Option (List Tok):=if ca [40] T k then (if ca [41] T (k+1) then some [] else ET T 6 (k+1)) else none
theorem EU:∀(f k:Nat) (r:List Tok),f<=6->ET T f k=some r->FT T k r/\r.length<=f:=by
 intro f
 induction f with
 | zero=>intro k r _ h;cases h
 | succ f Z=>
  intro k r J h;simp only[ET] at h;split at h
  .cases h
  .rename_i t ht;split at h
   .rename_i bK;split at h
    .rename_i hm;split at h
     .rename_i hc
      cases a5:ET T f (k+3) with
      | none=>rw[a5] at h;cases h
      | some l=>
       rw[a5] at h;simp only[Option.map_some] at h;injection h with h;subst h;obtain⟨hl,hn⟩:=Z (k+3) l ad a5;have hp:=hl.pos;refine⟨⟨by simp,by simp;omega,?_,?_,?_,?_⟩,by simp;omega⟩
       .intro j bd
        cases j with
        | zero=>exact hm
        | succ j=>rw[show k+3*(j+1)=k+3+3*j by omega];exact hl.mu j (by simpa using bd)
       .intro j d i
        cases j with
        | zero=>injection i with i;subst i;exact⟨ht,bK⟩
        | succ j=>rw[show k+3*(j+1)=k+3+3*j by omega];exact hl.nm j d (by simpa using i)
       .intro j bd
        cases j with
        | zero=>rw[show k+3*0+2=k+2 by omega,hc];simp;omega
        | succ j=>rw[show k+3*(j+1)+2=k+3+3*j+2 by omega,hl.co j (by simpa using bd)];simp
       .intro j bd
        cases j with
        | zero=>simp only[LZ] at bd;omega
        | succ j=>rw[show k+3*(j+1)+2=k+3+3*j+2 by omega];exact hl.cl j (by simpa using bd)
     .rename_i hc;split at h
      .rename_i aV;injection h with h;subst h;refine⟨⟨by simp,by simp,?_,?_,?_,?_⟩,by simp⟩
       .intro j bd;have:j=0:=by simp at bd;omega
        subst this;exact hm
       .intro j d i
        cases j with
        | zero=>injection i with i;subst i;exact⟨ht,bK⟩
        | succ j=>cases i
       .intro j bd;have:j=0:=by simp at bd;omega
        subst this;simpa using hc
       .intro j bd;have:j=0:=by simp at bd;omega
        subst this;exact aV
      .cases h
    .cases h
   .cases h
theorem uj{r:List Tok}(h:wF T k=some r):yx T k r:=by
 unfold wF at h;split at h
 .rename_i h0;split at h
  .rename_i ac;injection h with h;exact⟨h0,.inl ⟨h.symm,ac⟩⟩
  .rename_i ac;exact⟨h0,.inr ⟨by simpa using ac,(EU 6 _ _ (LK _) h).1⟩⟩
 .cases h
theorem x9(k:Nat)(r:List Tok):k+2<=eW k r:=by
 unfold eW;split<;>omega
theorem qZ.lI{G:List (ByteArray×Int)}{M:List bM}{F:List aL}(aR:sd G)(cl:G.length<=2)(hm:na M)(cj:1<=M.length/\M.length<=4)(J:∀i f,F[i]?=some f->f.name=jF i/\(∃n,n<=2/\f.params.map (·.1)=fh n)/\(i=0->f.params=[]))(ce:1<=F.length/\F.length<=4):gM ⟨G,M,F⟩:=
 ⟨cl,cj,ce,aR,hm,J⟩
theorem Fj{F:List aL}{i:Nat}(J:F[i]?=some f)(b:ao):(F.set i {f with body:=b}).map (λf=>(f.name,f.params))=F.map λf=>(f.name,f.params):=by
 exact zH
theorem zf{F:List aL}{i:Nat}(J:F[i]?=some f)(b:ao):(F.set i {f with body:=b}).map (·.name)=F.map (·.name):=by
 exact zH
structure vl(G:List (ByteArray×Int))(M:List bM)(F:List aL)(k L:Nat):Prop where
 lI:∀i f,F[i]?=some f->f.name=jF i/\(∃n,n<=2/\f.params.map (·.1)=fh n)/\(i=0->f.params=[])
 made:∀i f,F[i]?=some f->i<k->fm (h7 ⟨G,M,F⟩ f) 2 (fC ⟨G,M,F⟩++cz f.params) (bk ⟨G,M,F⟩++f.params.map (·.1)) f.body
 bS:∀i f,F[i]?=some f->k<=i->f.body=.nil
 num:(F.map λf=>f.body.num).sum+2*L<=48
theorem qZ.start{G:List (ByteArray×Int)}{M:List bM}{F:List aL}(h:qZ F):vl G M F 0 24:=by
 refine⟨λi f J=>⟨(h i f J).1,(h i f J).2.1,(h i f J).2.2.1⟩,λi f _ aX=>ad,λi f J _=>(h i f J).2.2.2,?_⟩;have h0:(F.map λf=>f.body.num).sum=0:=by
  have ac:F.map (λf=>f.body.num)=F.map λ_=>0:=List.map_congr_left λf J=>by
   obtain⟨i,aX⟩:=List.getElem?_of_mem J;rw[(h i f aX).2.2.2];rfl
  rw[ac];clear ac h
  induction F with
  | nil=>rfl
  | cons f F Z=>simpa using Z
 omega
theorem GX{F:List aL}:∀{i:Nat} {f:aL},F[i]?=some f->f.body=.nil->((F.set i {f with body:=b}).map λf=>f.body.num).sum=(F.map λf=>f.body.num).sum+b.num:=by
 induction F with
 | nil=>intro i f J;simp at J
 | cons g F Z=>
  intro i f J hn
  cases i with
  | zero=>
   simp at J;subst J;simp[hn,ao.num]
   omega
  | succ i=>
   simp at J;have:=Z (i:=i) J hn;simp only[List.set_cons_succ,LQ,List.sum_cons,this];omega
theorem vl.next{G:List (ByteArray×Int)}{M:List bM}{F:List aL}{L R:Nat}(h:vl G M F k L)(J:F[k]?=some f){ls:List aD}(hm:Made (h7 ⟨G,M,F⟩ f) 2 (fC ⟨G,M,F⟩++cz f.params) (bk ⟨G,M,F⟩++f.params.map (·.1)) L R ls):
  vl G M (F.set k {f with body:=.eY ls}) (k+1) R:=by
 have hs:=Fj J (.eY ls);have hn:=zf J (.eY ls);have an:=(List.getElem?_eq_some_iff.1 J).1;have hG:∀g,h7 ⟨G,M,F.set k {f with body:=.eY ls}⟩ g=h7 ⟨G,M,F⟩ g:=λg=>by simp only[h7,sigs,hs]
 have hT:bk ⟨G,M,F.set k {f with body:=.eY ls}⟩=bk ⟨G,M,F⟩:=by simp only[bk,fC,hn]
 have I:∀i g,(F.set k {f with body:=.eY ls})[i]?=some g->(i=k/\g={f with body:=.eY ls})\/(i≠k/\F[i]?=some g):=λi g aR=>by
  by_cases aX:k=i
  .subst aX;rw[List.getElem?_set_self an] at aR;injection aR with aR;exact .inl ⟨rfl,aR.symm⟩
  .rw[List.getElem?_set_ne aX] at aR;exact .inr ⟨λh=>aX h.symm,aR⟩
 refine⟨λi g aR=>?_,λi g aR aX=>?_,λi g aR aX=>?_,?_⟩
 .rcases I i g aR with⟨rfl,rfl⟩|⟨_,ap⟩
  .exact h.lI _ f J
  .exact h.lI _ _ ap
 .rw[hG,hT];rcases I i g aR with⟨rfl,rfl⟩|⟨ac,ap⟩
  .exact hm.wf
  .exact h.made i g ap ad
 .rcases I i g aR with⟨rfl,rfl⟩|⟨ac,ap⟩
  .omega
  .exact h.bS i g ap ad
 .rw[GX J (h.bS k f J (LK _))];have ac:=hm.num;have ap:=hm.le;have aV:=h.num;omega
theorem vl.wf{G:List (ByteArray×Int)}{M:List bM}{F:List aL}{L:Nat}(h:vl G M F F.length L)(aR:sd G)(cl:G.length<=2)(hm:na M)(cj:1<=M.length/\M.length<=4)(ce:1<=F.length/\F.length<=4):oJ ⟨G,M,F⟩:=by
 refine(qZ.lI aR cl hm cj h.lI ce).wf (λf J=>?_) (by have:=h.num;simp only;omega);obtain⟨i,aX⟩:=List.getElem?_of_mem J;have an:=(List.getElem?_eq_some_iff.1 aX).1;exact ds _ 2 4 _ _ _ _ (λ_ h=>h) (λ_ _ h=>h) ad (h.made i f aX an)
theorem l3{w:World}{cs:List Value}:(dD f).rep w P cs↔∃(A:Mt) (n c:Nat) (A2:Mt) (n2 c2:Nat),cs=[.string f.name,.slice A n c,.slice A2 n2 c2]/\n<=c/\Sl w P A n (f.params.map cD)/\n2<=c2/\Sl w P A2 n2 (dc f.body):=by
 unfold dD;rw[bN,cu];constructor
 .rintro⟨y,rfl,h⟩;obtain⟨A,n,c,cX,rfl,hc,hs,h⟩:=aO.1 h;obtain⟨A2,n2,c2,bx,rfl,cb,bS,h⟩:=aO.1 h;rw[aR] at h;subst h;exact⟨A,n,c,A2,n2,c2,rfl,hc,hs,cb,bS⟩
 .rintro⟨A,n,c,A2,n2,c2,rfl,hc,hs,cb,bS⟩;exact⟨_,rfl,aO.2 ⟨A,n,c,_,rfl,hc,hs,aO.2 ⟨A2,n2,c2,[],rfl,cb,bS,aR.2 rfl⟩⟩⟩
theorem rD(f:aL):(dD f).sz=3:=rfl
theorem rY{w:World}{P:Nat->Prop}{b:ao}{br:Mt}{on bZ:Nat}(hc:on<=bZ)(b6:Sl w P br on (dc b)):∀(F:List aL) (i:Nat) (xs:List Value) (f:aL),D.aM w P (F.map dD) xs->F[i]?=some f->D.aM w P ((F.set i {f with body:=b}).map dD) (xs.set (i*3+2) (.slice br on bZ))
 | [],i,xs,f,h,J=>by simp at J
 | x::F,0,xs,f,h,J=>by
  simp only[List.getElem?_cons_zero,Mj] at J;subst J;rw[LQ] at h;obtain⟨j,d,rfl,hx,bb⟩:=g3.1 h;obtain⟨A,n,c,A2,n2,c2,rfl,ac,ap,_,_⟩:=l3.1 hx;rw[List.set_cons_zero,LQ]
  exact g3.2 ⟨[.string x.name,.slice A n c,.slice br on bZ],d,rfl,l3.2 ⟨A,n,c,br,on,bZ,rfl,ac,ap,hc,b6⟩,bb⟩
 | x::F,i+1,xs,f,h,J=>by
  rw[List.getElem?_cons_succ] at J;rw[LQ] at h;obtain⟨j,d,rfl,hx,bb⟩:=g3.1 h;have hl:=(D.gD _ _ hx).trans (rD x);have Z:=rY hc b6 F i d f bb J;rw[List.set_cons_succ,LQ,List.set_append_right _ _ ad,hl,show (i+1)*3+2 - 3=i*3+2 by omega];exact g3.2 ⟨_,_,rfl,hx,Z⟩
theorem Gr.KB{w:World}{n c i:Nat}{F:List aL}{br:Mt}{on bZ:Nat}(h:Gr P B e 3 w (some ⟨g,0,none⟩) n c (F.map dD))(J:F[i]?=some f)(hc:on<=bZ)(b6:Sl w (lh P w (.slice (some ⟨g,0,none⟩) n c)) br on (dc b)):
  Gr P B e 3 (w.setCell ⟨g,i*3+2,none⟩ (.slice br on bZ)) (some ⟨g,0,none⟩) n c ((F.set i {f with body:=b}).map dD):=by
 obtain⟨hl,xs,ac,ap⟩:=h;have cg:Fr (λb=>b=g) w (w.setCell ⟨g,i*3+2,none⟩ (.slice br on bZ)):=(Fr.refl (λb=>b=g) w).setCell (.inl rfl) _;have hs:=cg.size;have a6:=(List.getElem?_eq_some_iff.1 J).1;refine⟨by simpa using hl,xs.set (i*3+2) (.slice br on bZ),⟨by rw[List.length_set];exact ac.1,?_⟩,?_⟩
 .rcases ac.2 with⟨bE,_⟩|⟨ag,cap,cur,bE,O,aR,hn,bb,U,ht⟩
  .cases bE
  .injection bE with aZ _ a4;injection aZ with aZ;injection aZ with aZ;subst aZ;refine .inr ⟨g,cap,cur.setIfInBounds (i*3+2) (.slice br on bZ),by rw[a4],O,au.aN (show au w g e cur from aR) (i*3+2) _,hn,bb,by simpa using U,?_⟩;rw[Array.toList_setIfInBounds,List.take_set,ht]
 .refine D.bK (λb O=>⟨O.1,LL O.2.1 hs,O.2.2⟩) _ _ (D.bG (λb O=>cg.block b O.2.1 λj=>O.2.2 ?_) _ _ (rY hc b6 F i xs f ap J));subst j;rfl
theorem Gr.J6{w:World}{n c:Nat}{A:Mt}{l:List D}(h:Gr P B e z w A n c l)(hn:0<n):∃g,A=some ⟨g,0,none⟩/\B<=g/\g<w.heap.size:=by
 obtain⟨_,xs,ac,_⟩:=h;rcases ac.2 with⟨_,h0⟩|⟨g,cap,cur,bE,O,aR,_⟩
 .omega
 .injection bE with bE _ _;exact⟨g,bE,O,(Array.getElem?_eq_some_iff.1 aR).1⟩
structure oN(S:World)(u:Nat)(A:Mt)(n c:Nat)(l:List Int)(ar:Bool)(MA:Mt)(mn mc:Nat)(M:List bM)(GA:Mt)(gn gc:Nat)(G:List (ByteArray×Int))(aq:Mt)(ba:Nat)(fg fn fc:Nat)(w:World)(F:List aL)(i L:Nat):Prop where
 src:cr w (S.heap.size+1) A n c l
 blk:au w (S.heap.size+1+1) 85 #[.pointer (some ⟨S.heap.size+1,0,none⟩),.slice GA gn gc,.slice MA mn mc,.slice (some ⟨fg,0,none⟩) fn fc,.int .i64 L,.bool ar]
 res:au w S.heap.size 31 #[.slice none 0 0,.slice none 0 0,.slice none 0 0]
 ms:Sl w (λb=>S.heap.size+1+1+1<=b/\b<u) MA mn (M.map eK)
 gs:Sl w (λb=>S.heap.size+1+1+1<=b/\b<u) GA gn (G.map iG)
 vs:Sl w (λb=>S.heap.size+1+1+1<=b/\b<u) aq gn ((G.map (·.1)).map D.s)
 fs:Gr (λb=>u<=b) u 96 3 w (some ⟨fg,0,none⟩) fn fc (F.map dD)
 mc:mn<=mc
 gc:gn<=gc
 nm:1<=mn/\mn<=4
 ok:na M
 ng:gn<=2
 zp:sd G
 nf:1<=fn/\fn<=4
 bd:vl G M F i L
 kO:L<=24
 ext:Ext S w
 hD:S.heap.size+1+1+1<=u/\u<=w.heap.size
section
variable {S w ab:World} {u:Nat} {A:Mt} {n c:Nat} {l:List Int} {ar:Bool} {MA:Mt} {mn mc:Nat} {M:List bM} {GA:Mt} {gn gc:Nat} {G:List (ByteArray×Int)} {aq:Mt} {ba:Nat} {FA:Mt} {fg fn fc:Nat} {F:List aL} {i L R:Nat}
theorem zx.Kt(h:zx S u w A n c l ar MA mn mc M GA gn gc G aq ba FA fn fc F)(hn:1<=fn):∃fg,FA=some ⟨fg,0,none⟩/\oN S u A n c l ar MA mn mc M GA gn gc G aq ba fg fn fc w F 0 24:=by
 obtain⟨fg,rfl,_⟩:=h.fs.J6 ad;exact⟨fg,rfl,h.src,h.blk,h.res,h.ms,h.gs,h.vs,h.fs,h.mc,h.gc,h.nm,h.ok,h.ng,h.zp,⟨hn,h.nf⟩,h.Kd.start,LK _,h.ext,h.hD⟩
theorem oN.len(h:oN S u A n c l ar MA mn mc M GA gn gc G aq ba fg fn fc w F i L):F.length=fn/\M.length=mn/\G.length=gn:=⟨by have:=h.fs.len;simpa using this,by have:=h.ms.1;simpa using this,by have:=h.gs.1;simpa using this⟩
theorem oN.own(h:oN S u A n c l ar MA mn mc M GA gn gc G aq ba fg fn fc w F i L):u<=fg/\fg<w:=h.fs.lt rfl
theorem oN.ja(h:oN S u A n c l ar MA mn mc M GA gn gc G aq ba fg fn fc w F i L):∀f∈F,f.params.length<=2:=λf J=>by
 obtain⟨i,aX⟩:=List.getElem?_of_mem J;obtain⟨n,hn,hp⟩:=(h.bd.lI i f aX).2.1;have:=congrArg List.length hp;rw[LO,me] at this;omega
theorem oN.aj(h:oN S u A n c l ar MA mn mc M GA gn gc G aq ba fg fn fc w F i L)(O:Ext w ab):oN S u A n c l ar MA mn mc M GA gn gc G aq ba fg fn fc ab F i L:=by
 have hD:=h.hD;have aj:∀b,(S.heap.size+1+1+1<=b/\b<u)->ab.heap[b]?=w.heap[b]?:=λb hp=>O.block b (ay hp.2) (λh=>h);exact⟨h.src.cT O λ_ _ h=>h,h.blk.aj O,h.res.aj O,h.ms.ai aj,h.gs.ai aj,h.vs.ai aj,h.fs.aj O,h.mc,h.gc,h.nm,h.ok,h.ng,h.zp,h.nf,h.bd,h.kO,h.ext.trans O,hD.1,by have:=O.size;omega⟩
theorem oN.wr(h:oN S u A n c l ar MA mn mc M GA gn gc G aq ba fg fn fc w F i L):gJ w ⟨S.heap.size+1,S.heap.size+1+1,A,n,c,l,GA,gn,gc,MA,mn,mc,some ⟨fg,0,none⟩,fn,fc,M,F,ar⟩ L:=by
 have hD:=h.hD;exact⟨h.src,h.blk,Nat.lt_succ_self _,h.ms.mono λb O=>⟨ad,λhm=>by rcases hm with hm|hm<;>(simp only at hm;omega)⟩,h.fs.sl (λb O hp=>⟨O,λhm=>by rcases hm with hm|hm<;>(simp only at hm;omega)⟩) (λb O hp=>⟨O,λhm=>by rcases hm with hm|hm<;>(simp only at hm;omega)⟩),h.nm,h.nf,
  λm hm=>by obtain⟨k,aj⟩:=List.getElem?_of_mem hm;exact⟨(h.ok k m aj).2.1,(h.ok k m aj).2.2.1⟩,h.ja,h.kO⟩
theorem oN.lI(h:oN S u A n c l ar MA mn mc M GA gn gc G aq ba fg fn fc w F i L):gM ⟨G,M,F⟩:=qZ.lI h.zp (lV h.len.2.2 h.ng) h.ok (lV h.len.2.1 h.nm) h.bd.lI (lV h.len.1 h.nf)
theorem oN.body(h:oN S u A n c l ar MA mn mc M GA gn gc G aq ba fg fn fc w F i L){f:aL}(J:F[i]?=some f){ls:List aD}{br:Mt}{on bZ:Nat}
  (hw:gJ ab ⟨S.heap.size+1,S.heap.size+1+1,A,n,c,l,GA,gn,gc,MA,mn,mc,some ⟨fg,0,none⟩,fn,fc,M,F,ar⟩ R) (O:Fr (λb=>b=S.heap.size+1\/b=S.heap.size+1+1) w ab)
  (hm:Made (h7 ⟨G,M,F⟩ f) 2 (fC ⟨G,M,F⟩++cz f.params) (bk ⟨G,M,F⟩++f.params.map (·.1)) L R ls) (hc:on<=bZ) (hs:Sl ab (fresh w ab) br on (ls.map bj)) :
  oN S u A n c l ar MA mn mc M GA gn gc G aq ba fg fn fc (ab.setCell ⟨fg,i*3+2,none⟩ (.slice br on bZ)) (F.set i {f with body:=.eY ls}) (i+1) R:=by
 have hD:=h.hD;have bn:=h.own;have U:=O.size;have aC:Fr (λb=>b=fg) ab (ab.setCell ⟨fg,i*3+2,none⟩ (.slice br on bZ)):=(Fr.refl (λb=>b=fg) ab).setCell (.inl rfl) _;have bG:=aC.size;have aj:∀b,(S.heap.size+1+1+1<=b/\b<u)->(ab.setCell ⟨fg,i*3+2,none⟩ (.slice br on bZ)).heap[b]?=w.heap[b]?:=λb hp=>(aC.block b (ay hp.2) (ay hp.2)).trans (O.block b (ay hp.2) λah=>by have:=hp.1;rcases ah with ah|ah<;>omega);have aR:Gr (λb=>u<=b) u 96 3 ab (some ⟨fg,0,none⟩) fn fc (F.map dD):=h.fs.cZ O λb hm _=>by rcases hm with hm|hm<;>exact⟨ad,ad⟩
 have aO:Ext S ab:=Fr.low (M:=λb=>b=S.heap.size+1\/b=S.heap.size+1+1) ((h.ext.mono λ_ h=>h.elim).trans O) λk aj=>by rcases aj with aj|aj<;>omega
 refine⟨hw.src.cT aC λb an ah=>by simp only at an;omega,hw.blk.on aC (by show ¬S.heap.size+1+1=fg;omega),(h.res.on O ad).on aC ad,h.ms.ai aj,h.gs.ai aj,h.vs.ai aj,?_,h.mc,h.gc,h.nm,h.ok,h.ng,h.zp,h.nf,h.bd.next J hm,hw.kO,
  Fr.low (M:=λb=>b=fg) ((aO.mono λ_ h=>h.elim).trans aC) λk aj=>by have:=h.ext.size;omega,hD.1,ad⟩
 refine aR.KB J hc ?_;rw[mD];exact hs.mono λb O=>⟨by have:=O.1;omega,O.2,λh=>by injection h with h;have:=O.1;simp only at h;omega⟩
theorem oN.done(h:oN S u A n c l ar MA mn mc M GA gn gc G aq ba fg fn fc w F fn L):oJ ⟨G,M,F⟩:=by
 have hl:=h.len;have O:=h.bd;rw[<-hl.1] at O;exact O.wf h.zp (ay h.ng) h.ok (ay h.nm) (ay h.nf)
end
structure RW(s:Nat)(v0 v1 v2 cr a1:Value)(w ab:World):Prop where
 fr:Fr (λb=>b=s\/b=s+1) w ab
 wb:∀L:Int,au w (s+1) 85 #[v0,v1,v2,cr,.int .i64 L,a1]->∃R:Int,au ab (s+1) 85 #[v0,v1,v2,cr,.int .i64 R,a1]
theorem RW.refl{s:Nat}{cr a1:Value}(w:World):RW s v0 v1 v2 cr a1 w w:=⟨Mo,λL h=>⟨L,h⟩⟩
theorem RW.trans{s:Nat}{v0 v1 v2 cr a1:Value}{w ab aT:World}(h:RW s v0 v1 v2 cr a1 w ab)(k:RW s v0 v1 v2 cr a1 ab aT):RW s v0 v1 v2 cr a1 w aT:=⟨h.fr.trans k.fr,λL O=>by
 obtain⟨aP,ac⟩:=h.wb L O;exact k.wb aP ac⟩
theorem FG(p:kx)(L:Nat)(V T:Mu)(N:Mt)(bA bk:Nat)(aY:ByteArray)(ps:List (ByteArray×Bool))(QA:Mt)(b1 qc:Nat)(bg:Value)(w:World)(hw:gJ w p L)(hN:Sl w (off p.MW w) N bA (V.map D.s))(hV:V.length+L<=60)(J:mq T L)
  (bO:Sl w (off p.MW w) QA b1 (ps.map cD)) (bK:b1<=2):Calls prog 31 #[.pointer (some ⟨p.wb,0,none⟩),.agg #[aY,.slice QA b1 qc,bg],.slice N bA bk,(2:Int),(6:Int)] w (G6 p 2 V T ps L w):=
 xy p L 2 6 V T N bA bk aY ps QA b1 qc bg w ad ad hw hN hV J bO bK
structure FR(fg i:Nat)(f:aL)(QA:Mt)(b1 qc:Nat)(ce:Mt)(bn bc:Nat)(w:World):Prop where
 c0:w.cell? ⟨fg,i*3,none⟩=some (.string f.name)
 c1:w.cell? ⟨fg,i*3+1,none⟩=some (.slice QA b1 qc)
 c2:w.cell? ⟨fg,i*3+2,none⟩=some (.slice ce bn bc)
theorem FR.ai{fg i:Nat}{QA:Mt}{b1 qc:Nat}{ce:Mt}{bn bc:Nat}{w ab:World}(h:FR fg i f QA b1 qc ce bn bc w)(aj:ab.heap[fg]?=w.heap[fg]?):FR fg i f QA b1 qc ce bn bc ab:=
 ⟨(World.cell?_of_block (w:=w) aj).trans h.c0,(World.cell?_of_block (w:=w) aj).trans h.c1,(World.cell?_of_block (w:=w) aj).trans h.c2⟩
theorem oN.Jv{S w:World}{u:Nat}{A:Mt}{n c:Nat}{l:List Int}{ar:Bool}{MA:Mt}{mn mc:Nat}{M:List bM}{GA:Mt}{gn gc:Nat}{G:List (ByteArray×Int)}{aq:Mt}{ba:Nat}{fg fn fc:Nat}{F:List aL}{i L:Nat}
  (h:oN S u A n c l ar MA mn mc M GA gn gc G aq ba fg fn fc w F i L) (aX:i<fn):∃(f:aL) (QA:Mt) (b1 qc:Nat) (ce:Mt) (bn bc:Nat),F[i]?=some f/\b1<=2/\b1<=qc/\Sl w (λb=>u<=b/\b<w.heap.size) QA b1 (f.params.map cD)/\FR fg i f QA b1 qc ce bn bc w:=by
 obtain⟨cm,da,f,cs,bj,cy,r,a6,bh,hc⟩:=Sl.hf (z:=3) (h.fs.sl (Q:=λb=>u<=b/\b<w.heap.size) (λb an h=>⟨h,an⟩) (λb an h=>⟨h,an⟩)) (λ_=>rD _) aX;obtain⟨QA,b1,qc,ce,bn,bc,rfl,fh,cG,_,_⟩:=l3.1 a6;injection bj with bj;injection bj with ac ap aV;subst ac;subst ap;have bK:b1<=2:=by
  have bz:=h.ja f (LN r);have cI:=cG.1;rw[LO] at cI;omega
 have c0:=hc 0 _ rfl;have c1:=hc 1 _ rfl;have c2:=hc 2 _ rfl;simp only[L8,LW] at c0 c1 c2;exact⟨f,QA,b1,qc,ce,bn,bc,r,bK,fh,cG,c0,c1,c2⟩
theorem Gr.J5{w:World}{n c:Nat}{l:List D}(h:Gr P B e z w (some ⟨g,0,none⟩) n c l):∃cur,au w g e cur:=by
 obtain⟨_,xs,ac,_⟩:=h;rcases ac.2 with⟨bE,_⟩|⟨ag,cap,cur,bE,O,aR,_⟩
 .cases bE
 .injection bE with bE _ _;injection bE with bE;injection bE with bE;subst bE;exact⟨cur,aR⟩
theorem ra{j:Nat}{q:ByteArray×Bool}(h:ps[j]?=some q):cz (ps.take (j+1))=cz (ps.take j)++(if q.2 then [] else [q.1]):=by
 unfold cz;rw[List.take_add_one,h];obtain⟨x,b⟩:=q;cases b<;>simp
theorem s0(ps:List (ByteArray×Bool)):(cz ps).length<=ps.length:=by
 unfold cz;rw[LO];exact List.length_filter_le _ _
theorem oN.Kx{S w ab:World}{u:Nat}{A:Mt}{n c:Nat}{l:List Int}{ar:Bool}{MA:Mt}{mn mc:Nat}{M:List bM}{GA:Mt}{gn gc:Nat}{G:List (ByteArray×Int)}{aq:Mt}{ba:Nat}{fg fn fc:Nat}{F:List aL}{L:Nat}
  (h:oN S u A n c l ar MA mn mc M GA gn gc G aq ba fg fn fc w F fn L) (O:Fr (λb=>b=S.heap.size) w ab):kp S (.returned (.agg #[.slice GA gn gc,.slice MA mn mc,.slice (some ⟨fg,0,none⟩) fn fc])) ab:=by
 have hD:=h.hD;have hs:=O.size;have aj:∀b,(S.heap.size+1+1+1<=b/\b<u)->ab.heap[b]?=w.heap[b]?:=λb hp=>O.block b (ay hp.2) (ay hp.1);have cI:Gr (λb=>u<=b) u 96 3 ab (some ⟨fg,0,none⟩) fn fc (F.map dD):=h.fs.cZ O λb hm _=>⟨ad,ad⟩
 exact⟨⟨G,M,F⟩,GA,gn,gc,MA,mn,mc,_,fn,fc,rfl,h.done,h.gc,h.mc,h.fs.cap.1,(h.gs.ai aj).mono λb hp=>⟨by have:=hp.1;omega,by have:=hp.2;omega⟩,(h.ms.ai aj).mono λb hp=>⟨by have:=hp.1;omega,by have:=hp.2;omega⟩,
  cI.sl (λb an hp=>⟨ad,an⟩) (λb an hp=>⟨ad,an⟩),Fr.low (M:=λb=>b=S.heap.size) ((h.ext.mono λ_ h=>h.elim).trans O) λk aj=>ad⟩
section
open Go.ChangeShapes Go.WideShapes Go.ChangeAt Go.RowKit Go.Deep
theorem GR{w:World}{x:Addr}{v:Value}(h:w.cell? x=some v):x.spot=none:=by
 cases hs:x.spot with
 | none=>rfl
 | some s=>
  rw[World.cell?] at h;split at h
  .rw[hs] at h;simp at h
  .cases h
section
variable {H:Type} {enc:TypeId×Value->H} {w:World} {base:Nat} {spare:Nat->Bool} {held:Bool}
theorem pe{α:Type}{t:TypeId}{fuel:Nat}{cs:List Value}{x:DataW H×List MemPlace}{f:α->D}(ht:prog.underlying t=some (.slice e))(hc:prog.cellsOf e=z)(aL:0<z)(U:∀a,(f a).sz=z)(E:α->Prop)[Inhabited α]
  (bn:∀(k:Nat) (r:List Value) (y:DataW H×List MemPlace),DataW.trod enc prog w base spare held k e r=some y->∃a,(f a).rep w (aq w) r/\E a)
  (h:DataW.trod enc prog w base spare held fuel t cs=some x):∃(A:Mt) (len cap:Nat) (l:List α),cs=[.slice A len cap]/\len<=cap/\cap<=maxLen/\Sl w (aq w) A len (l.map f)/\l.length=len/\∀a∈l,E a:=by
 rcases open_slice ht h with⟨rfl,_⟩|⟨a,len,cap,m,k,B,C,rfl,_,hl,bC,hm,_,aX⟩
 .exact⟨none,0,0,[],rfl,LK _,by unfold maxLen;omega,Sl.bS _,rfl,λa h=>by cases h⟩
 .have u:len<=m:=by rw[hm];split<;>omega
  have key:∀i,∃(b:α) (r:List Value),i<len->(f b).rep w (aq w) r/\E b/\∀j v,r[j]?=some v->w.cell? (a.add (i*z+j))=some v:=by
   intro i;by_cases c9:i<len
   .obtain⟨r,a4,G⟩:=aX i ad;obtain⟨b,O,hp⟩:=bn _ _ _ G;obtain⟨_,_,I⟩:=World.cells?_some a4;refine⟨b,r,λ_=>⟨O,hp,λj v bd=>?_⟩⟩;rw[hc] at I;have bt:j<z:=by have:=D.gD _ _ O;rw[U] at this;have:=(List.getElem?_eq_some_iff.1 bd).1;omega
    have:=I j bt;rw[Go.Deep.add_add] at this;rw[this];exact bd
   .exact⟨default,[],λh=>absurd h c9⟩
  refine⟨some a,len,cap,(List.range len).map λi=>(key i).choose,rfl,hl,bC,?_,by simp,λb O=>?_⟩
  .refine⟨by simp,λhn=>?_⟩;obtain⟨d,h0⟩:=(key 0).choose_spec;obtain⟨s,_,L⟩:=h0 hn;have o:=D.gD _ _ s;rw[U] at o;have bv:=L 0 (d[0]'ad) (List.getElem?_eq_getElem _);have hx:a.spot=none:=GR (by simpa[Addr.add] using bv);have T:=World.block_lt_of_cell? w _ bv;have c:∀q,a.add q=⟨a.block,a.off+q,none⟩:=by
    intro q;unfold Addr.add;split
    .rename_i h0;rw[show a.off+q=a.off by omega,<-hx]
    .rfl
   have all:∀n,n<=len->∃xs,D.aM w (aq w) (((List.range n).map λi=>(key i).choose).map f) xs/\xs.length=n*z/\∀j v,xs[j]?=some v->w.cell? ⟨a.block,a.off+j,none⟩=some v:=by
    intro n
    induction n with
    | zero=>intro _;exact⟨[],by simp only[List.range_zero,Me,D.aM],by simp,λj v h=>by simp at h⟩
    | succ n Z=>
     intro c8;obtain⟨xs,b6,a7,bi⟩:=Z ad;obtain⟨g,ac⟩:=(key n).choose_spec;obtain⟨c7,_,cz⟩:=ac ad;refine⟨xs++g,?_,?_,λj v bd=>?_⟩
     .rw[List.range_succ,LR,LR];exact D.cA b6 (D.bg.2 c7)
     .have:=D.gD _ _ c7;rw[U] at this;rw[LM,a7,this,Nat.succ_mul]
     .by_cases db:j<xs.length
      .rw[List.getElem?_append_left db] at bd;exact bi j v bd
      .rw[List.getElem?_append_right ad] at bd;have:=cz _ v bd;rw[c,show n*z+(j - xs.length)=j by omega] at this;exact this
   obtain⟨xs,b6,_,bi⟩:=all len (LK _);exact⟨a.block,a.off,xs,by rw[<-hx],by simpa[Addr.add] using T,b6,bi⟩
  .obtain⟨i,c0,rfl⟩:=Mf.1 O;obtain⟨_,ac⟩:=(key i).choose_spec;exact(ac (List.mem_range.1 c0)).2.1
theorem sS:prog.cellsOf 3=1:=by kernel_rfl
theorem tQ:prog.cellsOf 22=1:=by kernel_rfl
theorem v8:prog.cellsOf 44=1:=by kernel_rfl
theorem tP:prog.cellsOf 79=2:=by kernel_rfl
theorem rz:prog.cellsOf 50=4:=by kernel_rfl
theorem pN:prog.cellsOf 46=1:=by kernel_rfl
variable {n:Nat} {cs:List Value} {x:DataW H×List MemPlace}
theorem EJ(h:DataW.trod enc prog w base spare held n 3 cs=some x):∃a:Int,(D.i a).rep w (aq w) cs/\True:=by
 obtain⟨a,aZ,_,_⟩:=DataW.trod_int Tryz.underlying3 h;exact⟨a,by rw[aZ];exact mW.2 rfl,trivial⟩
theorem nA(h:DataW.trod enc prog w base spare held n 22 cs=some x):∃(A:Mt) (len cap:Nat) (l:List Int),cs=[.slice A len cap]/\len<=cap/\cap<=maxLen/\Sl w (aq w) A len (l.map D.i)/\l.length=len/\∀a∈l,True:=
 pe (f:=D.i) (z:=1) Tryz.underlying22 sS ad (λ_=>rfl) (λ_=>True) (λ_ _ _ h=>EJ h) h
namespace DP
theorem BC(h:p:=by
 obtain⟨_,h0⟩:=h0;obtain⟨_,ac⟩:=ac;obtain⟨a,aZ,_,_⟩:=DataW.trod_int Tryz.underlying3 h0;obtain⟨b,O,_,_⟩:=DataW.trod_int Tryz.underlying3 ac;injection aZ with aZ;injection O with O;subst aZ O;exact⟨⟨a,b⟩,qA.2 rfl,trivial⟩
 ):p:=h
end DP
open DP in
theorem wo(h:DataW.trod enc prog w base spare held n 79 cs=some x):∃hd:cx,(ky hd).rep w (aq w) cs/\True:=by
 obtain⟨xs,m,_,_,hlen,aY,J⟩:=DataW.trod_struct Tryz.underlying79 h;rw[tP] at hlen
 match cs,hlen with
 | [c0,c1],_=>
  exact BB
namespace DQ
theorem BC(h:p:=by
 have ap:∃y,DataW.trod enc prog w base spare held m 22 [c2]=some y:=by
  have e:=tQ;have:=J 2 _ rfl;exact tK
 have aV:∃y,DataW.trod enc prog w base spare held m 22 [c3]=some y:=by
  have e:=tQ;have:=J 3 _ rfl;exact tK
 obtain⟨_,h0⟩:=h0;obtain⟨_,ac⟩:=ac;obtain⟨_,ap⟩:=ap;obtain⟨_,aV⟩:=aV;obtain⟨a,aZ,_,_⟩:=DataW.trod_int Tryz.underlying3 h0;obtain⟨b,O,_,_⟩:=DataW.trod_int Tryz.underlying3 ac;obtain⟨IA,i,ic,l,hc,cH,_,hs,hl,_⟩:=nA ap;obtain⟨bw,y,lc,k,hd,cx,hm,aj,bP,_⟩:=nA aV;injection aZ with aZ;injection O with O;injection hc with hc;injection hd with hd;subst aZ O hc hd;exact⟨⟨a,b,l,k⟩,c7.2 ⟨IA,i,ic,bw,y,lc,rfl,cH,cx,hs,aj⟩,by show k.length<=maxLen;omega⟩
 ):p:=h
end DQ
open DQ in
theorem wi(h:DataW.trod enc prog w base spare held n 50 cs=some x):∃f:al,(dh f).rep w (aq w) cs/\f.an.length<=maxLen:=by
 obtain⟨xs,m,_,_,hlen,aY,J⟩:=DataW.trod_struct Tryz.underlying50 h;rw[rz] at hlen
 match cs,hlen with
 | [c0,c1,c2,c3],_=>
  exact BB
theorem vb(h:DataW.trod enc prog w base spare held n 46 cs=some x):∃t:List al,(fI t).rep w (aq w) cs/\t.length<=maxLen/\∀f∈t,f.an.length<=maxLen:=by
 obtain⟨xs,m,_,_,hlen,aY,J⟩:=DataW.trod_struct Tryz.underlying46 h;rw[pN] at hlen
 match cs,hlen with
 | [c0],_=>
  have h0:∃y,DataW.trod enc prog w base spare held m 44 [c0]=some y:=by
   have e:=v8;have:=J 0 _ rfl;exact tK
  obtain⟨_,h0⟩:=h0
  haveI:Inhabited al:=⟨⟨0,0,[],[]⟩⟩
  obtain⟨FA,dv,fc,l,hc,aJ,hm,hs,hl,hp⟩:=pe (f:=dh) (z:=4) Tryz.underlying44 rz ad (λ_=>rfl) (λf=>f.an.length<=maxLen) (λ_ _ _ h=>wi h) h0;injection hc with hc;subst hc;exact⟨l,dn.2 ⟨FA,dv,fc,rfl,aJ,hs⟩,ad,hp⟩
theorem xd{cr:Value}{cK cp cX bx:DataW H×List MemPlace}(h0:DataW.trod enc prog w base spare held n 22 [v0]=some cK)(ac:DataW.trod enc prog w base spare held n 23 [v1]=some cp)(ap:DataW.trod enc prog w base spare held n 24 [v2]=some cX)
  (aV:DataW.trod enc prog w base spare held n 3 [cr]=some bx):∃(s:ak) (q:SV),#[v0,v1,v2,cr]=q.val s/\q.Ok w s/\s.threads.length<=maxLen/\∀t∈s.threads,t.length<=maxLen/\∀f∈t,f.an.length<=maxLen:=by
 obtain⟨GA,gn,gc,g,e0,S,_,aR,_,_⟩:=nA h0
 haveI:Inhabited cx:=⟨⟨0,0⟩⟩
 obtain⟨TA,tn,tc,t,e1,b,_,ht,_,_⟩:=pe (f:=ky) (z:=2) Tryz.underlying23 tP ad (λ_=>rfl) (λ_=>True) (λ_ _ _ h=>wo h) ac;obtain⟨HA,hn,hc,l,e2,o,hm,ah,hl,hp⟩:=pe (f:=fI) (z:=1) Tryz.underlying24 pN ad (λ_=>rfl) (λt=>t.length<=maxLen/\∀f∈t,f.an.length<=maxLen) (λ_ _ _ h=>vb h) ap;obtain⟨a,aZ,_,_⟩:=DataW.trod_int Tryz.underlying3 aV;injection e0 with e0;injection e1 with e1;injection e2 with e2;injection aZ with aZ;subst e0 e1 e2 aZ;exact⟨⟨g,t,l,a⟩,⟨GA,gn,gc,TA,tn,tc,HA,hn,hc⟩,rfl,⟨⟨aR,ht,ah⟩,S,b,o⟩,by show l.length<=maxLen;omega,hp⟩
end
end
end Go.Proofs.YtpkfopfkdgkfkaaGreat

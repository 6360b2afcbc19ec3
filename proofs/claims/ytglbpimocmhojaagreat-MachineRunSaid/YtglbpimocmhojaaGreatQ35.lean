/- Part 35 of the proof. No condition of its own. -/
import Derived.Test.YtglbpimocmhojaaGreatQ14
import Derived.Test.YtglbpimocmhojaaGreatQ34
namespace Go.Proofs.YtglbpimocmhojaaGreat
open Go.RowKit Go.Proofs.Tryz
set_option maxRecDepth 1000000
set_option maxHeartbeats 25600000
set_option linter.unusedVariables false
variable{i:Nat}{p:bK}{e:dL}
theorem Db(ds:uT)(U:ho)(nk:Int)(F:List aJ)(b:an)(G:Env)(d:Nat)(l:List dL)(n:Int)(st:Nat)(code:List az)(sites:List Int)(g B:Nat)(S:Lp)(ln lc:Nat)(bx:Lp)(bK:Nat)(bR:Lp)(bC:Nat)(A:Lp)(m c:Nat)(w:World)(bo:Lr (Sl w (off (Ms g (.slice bx code.length bK) (.slice bR sites.length bC)) w) A m (b.list.map bg)))(cq:Lr (∀s∈b.list,lB U nk F s.th/\lB U nk F s.el))(dN:Lr (∀f∈F,f.params.length<=1000))(bL:Lr (b.list.length=m))(eN:m<=100000)(dU:st+b.num<=100000)(dq:Exit->Act->World->Prop)(hQ0:∀c a d v w,dq (.panic c) (a.put d v) w->dq (.panic c) a w)(x:∀r j,EC U nk F b G d l n st code sites g B S ln lc bx bK bR bC A m c w r j->dq (.exit 0) r j)
  (a:Act) (wr:World) (hI:iQ U nk F b G d l n st code sites g B S ln lc bx bK bR bC A m c w a wr):Code.wp prog sw (Exit.then (λr j=>iQ U nk F b G d l n st code sites g B S ln lc bx bK bR bC A m c w r j/\jm m r j<jm m a wr) dq) a wr:=by
 unfold iQ at hI
 iterate 240 obtain⟨_,hI⟩:=hI
 obtain⟨hI,rfl⟩:=hI;have e:=hI;obtain⟨k,rest,aO,aU,a9,aP,ab,u,y,bZ,a2,cK,Y,ag,al,aG,rfl,ap,ba,aV,aw,a4,hS,bF,bj,cf,bH,bI,bw,hM⟩:=hI;by_cases ak:k<m
 .suffices aR:BK rest from aR ds U nk F b G d l n st code sites g B S ln lc bx bK bR bC A m c w bo cq dN bL eN dU k aO aU a9 aP ab u y bZ a2 cK Y ag al aG wr ak ba aV aw a4 hS bF bj cf bH bI bw hM dq hQ0
  exact He rest
 .obtain rfl:m=k:=ad;have a7:=ae e;clear e ba aV aw a4 hS bF bj cf bH bI bw hM;conv=>arg 2;whnf
  go_wp2;unfold EC
  iterate 240 apply Exists.intro
  exact⟨a7.o,rfl,rfl⟩
theorem ER(ds:uT)(U:ho)(nk:Int)(F:List aJ)(b:an)(G:Env)(d:Nat)(l:List dL)(n:Int)(st:Nat)(code:List az)(sites:List Int)(g B:Nat)(S:Lp)(ln lc:Nat)(bx:Lp)(bK:Nat)(bR:Lp)(bC:Nat)(A:Lp)(m c:Nat)(w:World)(bo:Lr (Sl w (off (Ms g (.slice bx code.length bK) (.slice bR sites.length bC)) w) A m (b.list.map bg)))(cq:Lr (∀s∈b.list,lB U nk F s.th/\lB U nk F s.el))(dN:Lr (∀f∈F,f.params.length<=1000))(bL:Lr (b.list.length=m))(eN:m<=100000)(dU:st+b.num<=100000)(dq:Exit->Act->World->Prop)(hQ0:∀c a d v w,dq (.panic c) (a.put d v) w->dq (.panic c) a w)(x:∀r j,EC U nk F b G d l n st code sites g B S ln lc bx bK bR bC A m c w r j->dq (.exit 0) r j)
  (wr:World) {gJ gN z u8 gK eO go gp cc bQ eR eS eT eU eV eW eY eZ e3 e6 e7 e8 e9 u32 fa fb fd fe ff fh fi fk fl fm fo fp fq fr fs ft fv fw fx fy fz fA fB fC fD fE fF fG fH fI fJ u64 fK fL fM fN fO fP fQ fR fS fT fU fV fW fX fY fZ f3 f4 f5 f6 f7 f8 f9 ga gb gd ge gf gg gh gi gj gk gl gm H I am aF aL aM aN aX a1 a8 bb bd bm bp bt bz bA bD bJ bV bY b1 b5 b8 b9 cb ce ch cj cl co cp cx cy cz cA cB cD cE cG cH cM cN cO cP cR cS cT cU cV cW cX cY cZ c4 c5 c6 c7 c8 c9 da db dc dd de df dg dh di dj dk dl dm dn dp dr dt du dv dw dx dy dA dC dD dE dF dG dI dJ dK dM dQ dR dS dT dV dW dX dY dZ d0 d1 d2 d3 d4 d5 d6 d7 d8 d9 ea eb ec ed ee ef eg eh ei ej ek el em en eo ep eq er es et eu ev ew ex ey ez eA eB eC eD eE eF eG eH eI eJ eL eM:Value} (hI:oe U nk F b G d l n st code sites g B S ln lc bx bK bR bC A m c w gJ wr):Code.wp prog (Code.loop sw) dq ⟨#[.pointer (some ⟨g,0,none⟩),.slice A m c,undef,undef,.slice S ln lc,gJ,gN,z,u8,gK,eO,go,gp,cc,bQ,.pointer (some ⟨g,0,none⟩),.pointer (some ⟨g,0,none⟩),.pointer (some ⟨g,3,none⟩),.slice S ln lc,eR,eS,eT,eU,eV,eW,eY,eZ,e3,e6,e7,e8,e9,u32,fa,fb,fd,fe,ff,fh,fi,fk,fl,fm,fo,fp,fq,fr,fs,ft,fv,fw,fx,fy,fz,fA,fB,fC,fD,fE,fF,fG,fH,fI,fJ,u64,fK,fL,fM,fN,fO,fP,fQ,fR,fS,fT,fU,fV,fW,fX,fY,fZ,f3,f4,f5,f6,f7,f8,f9,ga,gb,gd,ge,gf,gg,gh,gi,gj,gk,gl,gm,H,I,am,aF,aL,aM,aN,aX,a1,a8,bb,bd,bm,bp,bt,bz,bA,bD,bJ,bV,bY,b1,b5,b8,b9,cb,ce,ch,cj,cl,co,cp,cx,cy,cz,cA,cB,cD,cE,cG,cH,cM,cN,cO,cP,cR,cS,cT,cU,cV,cW,cX,cY,cZ,c4,c5,c6,c7,c8,c9,da,db,dc,dd,de,df,dg,dh,di,dj,dk,dl,dm,dn,dp,dr,dt,du,dv,dw,dx,dy,dA,dC,dD,dE,dF,dG,dI,dJ,dK,dM,dQ,dR,dS,dT,dV,dW,dX,dY,dZ,d0,d1,d2,d3,d4,d5,d6,d7,d8,d9,ea,eb,ec,ed,ee,ef,eg,eh,ei,ej,ek,el,em,en,eo,ep,eq,er,es,et,eu,ev,ew,ex,ey,ez,eA,eB,eC,eD,eE,eF,eG,eH,eI,eJ,eL,eM,undef,undef,undef,undef],[]⟩ wr:=by
 refine wp_loop (iQ U nk F b G d l n st code sites g B S ln lc bx bK bR bC A m c w) (jm m) ?_ (λa j hI=>Db ds U nk F b G d l n st code sites g B S ln lc bx bK bR bC A m c w bo cq dN bL eN dU dq hQ0 x a j hI);unfold iQ
 iterate 240 apply Exists.intro
 exact⟨hI,rfl⟩
theorem vB(ds:uT)(U:ho)(nk:Int)(F:List aJ)(b:an)(ao:∀s∈b.list,lB U nk F s.th/\lB U nk F s.el):lB U nk F b:=by
 intro G d l V T n st code sites g B S ln lc bx bK bR bC A m c w a4 hS bF i h hs bj cf bH dU bI;have ce:b.list.length=m:=by rw[<-hs.1,cF,KH]
 have eN:m<=100000:=by have:=gK b;omega
 rw[cF] at hs;obtain⟨GA,gn,gc,MA,mn,mc,FA,fn,fc,aR,_⟩:=h.blk;obtain⟨bo,cq,dN,bL⟩:=iS hs ao i ce;obtain⟨a8,am,aF⟩:=aR.two;have aW:=ae (show oe U nk F b G d l n st code sites g B S ln lc bx bK bR bC A m c w (.int .i64 0) w from
  ⟨0,b,l,V,T,n,st,code,sites,S,ln,lc,bx,bK,bR,bC,rfl,ad,rfl,rfl,rfl,a4,hS,bF,bj,cf,bH,bI,h,Mv.refl _ _ _ _⟩)
 have b9:=ah h.names.1 h.names.2;clear hs ao a4 hS bF i h bj cf bH bI aR ce;go_enter func104,ntmps104;go_wp2;clear a8 am aF;refine ER ds U nk F b G d l n st code sites g B S ln lc bx bK bR bC A m c w bo cq dN bL eN dU _ ?hQ ?hX _ aW.o
 case hQ=>exact λ_ _ d _ _ h=>by cases d<;>exact h
 case hX=>
  intro r wr e;unfold EC at e
  iterate 240 obtain⟨_,e⟩:=e
  obtain⟨hI,f,rfl⟩:=e;obtain⟨k,rest,aO,aU,a9,aP,ab,u,y,bZ,a2,cK,Y,ag,al,aG,j,ap,ba,aV,aw,a4,hS,bF,bj,cf,bH,bI,bw,hM⟩:=hI;have L:m=k:=by
   rw[j] at f;injection f with _ ac;omega
  subst L;clear aW j f;obtain⟨aZ,cr,bc,ev,go,eC,cR,fZ,co,aR,_⟩:=bw.blk;have bW:rest.list=[]:=ba▸Lh (by rw[bL.o];exact KD _);obtain rfl:rest=.nil:=by cases rest<;>simp_all [an.list]
  have d4:dH b l n code=(u,aP):=aV.symm;obtain⟨a8,am,aF⟩:=aR.two;obtain⟨HA,cQ⟩:=aH bw hM;clear bw hM aR;go_wp2;generalize hX:World.setCell _ _ _=X;obtain⟨eV,dT⟩:=HA.DR b9.1 (b9.2.cO cQ.o) hX;have fl:=cQ.trans dT;clear a8 am aF hX dT;rw[d4];refine bodyPost_end (v:=.tuple #[]) (by simp[results,Tryz.results104,go_sem]) rfl ?_;obtain rfl:ab=st+b.num:=by simp only[an.num] at aw;omega
  exact⟨rfl,Y,ag,al,aG,y,cf,eV,fl⟩
theorem x3(ds:uT)(U:ho)(nk:Int)(F:List aJ):∀b:an,lB U nk F b:=an.Dc (C:=lB U nk F) λb ao=>vB ds U nk F b ao
theorem mw{α:Type}(f:α->ByteArray)(k:Int):∀(l:List α) (j i:Nat),(iA f k l j)[i]?=(l[i]?).map λx=>⟨f x,k,((j+i:Nat):Int)⟩
 | [],j,i=>by simp[iA]
 | x::l,j,0=>by simp[iA]
 | x::l,j,i+1=>by
  rw[iA,List.getElem?_cons_succ,List.getElem?_cons_succ,mw f k l (j+1) i,show j+1+i=j+(i+1) by omega]
theorem eD{α:Type}(f:α->ByteArray)(k:Int):∀(l:List α) (j:Nat),(iA f k l j).length=l.length
 | [],_=>rfl
 | x::l,j=>by simp[iA,eD f k l (j+1)]
theorem kP(p:bK):(bo p).length=p.globals.length+p.af.length+p.funcs.length:=by simp[bo,eD];omega
theorem ET{g:ByteArray×Int}(h:p.globals[i]?=some g):(bo p)[i]?=some ⟨g.1,1,(i:Int)⟩:=by
 have hl:=(List.getElem?_eq_some_iff.1 h).1;unfold bo;rw[List.getElem?_append_left (by simp[eD];omega),List.getElem?_append_left (by simp[eD];omega),mw,h];simp
theorem EU{m:bG}(h:p.af[i]?=some m):(bo p)[p.globals.length+i]?=some ⟨m.name,2,(i:Int)⟩:=by
 have hl:=(List.getElem?_eq_some_iff.1 h).1;unfold bo;rw[List.getElem?_append_left (by simp[eD];omega),List.getElem?_append_right (by simp[eD]),eD,mw,show p.globals.length+i - p.globals.length=i by omega,h];simp
theorem xq{f:aJ}(h:p.funcs[i]?=some f):(bo p)[p.globals.length+p.af.length+i]?=some ⟨f.name,3,(i:Int)⟩:=by
 unfold bo;rw[List.getElem?_append_right (by simp[eD]),KF,eD,eD,mw,show p.globals.length+p.af.length+i - (p.globals.length+p.af.length)=i by omega,h];simp
theorem kz{L:List dL}(hn:(L.map (·.name)).Nodup)(he:L[i]?=some e):dA (L.take i) e.name=none:=by
 refine jR λj x bi hx=>?_;have az:j<i:=by have:=(List.getElem?_eq_some_iff.1 bi).1;simp at this;omega
 have f:L[j]?=some x:=by rw[<-bi,List.getElem?_take_of_lt az]
 have ac:(L.map (·.name))[j]?=some x.name:=by rw[List.getElem?_map,f];rfl
 have au:(L.map (·.name))[i]?=some e.name:=by rw[List.getElem?_map,he];rfl
 have aU:=(List.getElem?_eq_some_iff.1 ac).1;have cg:=(List.getElem?_eq_some_iff.1 au).1;rw[List.getElem?_eq_getElem aU] at ac;rw[List.getElem?_eq_getElem cg] at au;injection ac with ac;injection au with au;have:=(List.getElem_inj hn).1 (ac.trans (hx.trans au.symm));omega
theorem nL(hp:ot p):((bo p).map (·.name)).Nodup:=by rw[fP];exact hp.nodup
def EE(w:World)(p:bK)(e:Ending)(ab:World):Prop:=∃(S:Lp) (lc:Nat),e=.returned (.tuple #[.slice S (bo p).length lc,.int .i64 (-1)])/\Sl ab (fresh w ab) S (bo p).length ((bo p).map bY)/\Ext w ab
theorem nE{k:Nat}(h:(bo p)[k]?=some e):((bo p).take (k+1)).map bY=((bo p).take k).map bY++[bY e]:=by rw[aZ h,KK];rfl
namespace BG
theorem dB{p:Prop}(h:p:=by
 generalize hV:World.drew (World.alloc _ _)=V;have L:=gG hV;have b7:aq V wr.heap.size 145 #[.string f.name,.int .i64 3,.int .i64 j]:=hV▸(Lm).drew;obtain⟨bN,aI⟩:=aH L b7;have a4:=ae (bq.trans L);have br:=ae (b1.ai L);have P:=ae (bO.ai L);have a6:=kz n.o d;have y:=P.sl (Q:=av V) (λb _ h=>h.elim) (λb _ h=>by assumption);clear hV L b7 c0 aV a0 ai af;obtain⟨d0,aL,aM⟩:=aI.two;go_wp2_with(fail);refine(dV A (gn+mn+j) c _ f.name _ y ad).mono ?_;rintro e aS ⟨rfl,ar⟩
 try simp only at a6
 rw[a6];simp only[iU];have a9:=ae (a4.trans ar);have a7:=ae (br.ai ar);have bf:=ae (P.ai ar);have i:=aI.ai ar;clear d0 aL aM ar y;go_upto_region 15 with(fail);generalize ct:World.alloc _ _=Y;have s:=aX ct;have l:=i.ai s;have r:=ae (bf.ai s);have cj:=ae (a9.trans s);have T:=ae (a7.ai s);clear ct i s;obtain⟨d0,aL,aM⟩:=l.two;have cR:=cj.size;have bu:=T.lt;clear l;go_wp2_with((at_builtin;refine bP jd rfl (.tmp 88) (.tmp 90) rfl r.o (jQ ⟨f.name,3,(j:Int)⟩) rfl rfl rfl ad ad ad ?_;intro A2 c2 aT bF az al ci));have aP:Gr (λ_=>False) (w.heap.size+1) 145 3 aT A2 (gn+mn+j+1) c2 (((bo p).take (gn+mn+j+1)).map bY):=by rw[nE d];exact bF
 have b0:Ext w aT:=Fr.low (M:=λb=>w.heap.size<=b) ((cj.mono λ_ h=>h.elim).trans (az.mono λb O=>by have:=(r.lt O).1;omega)) λ_ h=>h;have ce:=T.on az λO=>by have:=(r.lt O).1;omega
 have b4:=aD aP b0 ce;clear aP b0 ce bF az al d0 aL aM;go_wp2;go_roundw
 case rel=>exact⟨rfl,(gn+mn+j)+1,A2,c2,ad,by go_num,rfl,b4.o⟩
 case measure=>exact aG
 ):p:=h
theorem so{p:Prop}(h:p:=by
 have n:=ae (nL hp);obtain⟨cC,cQ,bT⟩:=eh a2 hm J;have F:=ae (kP p);have cy:(bo p).length=gn+mn+fn:=by rw[kP,dv,lm,lf]
 have b9:=aD dv lm lf;clear h a2 hm J hp dv lm lf;go_enter func68,ntmps68;go_upto_region 1 with(fail);generalize ba:World.alloc _ _=W;have aw:=aX ba;have aR:=aK ba;obtain⟨bq,b1⟩:=aH aw aR;obtain⟨a0,ai,af⟩:=aR.two;clear ba aw aR;go_wp2;clear a0 ai af;go_loopw [4,5,7] (λgO bv cu wr=>bv=.int .i64 (-1)/\∃(k:Nat) (A:Lp) (c:Nat),k<=gn+mn+fn/\cu=.int .i64 k/\gO=.slice A k c/\Gr (λ_=>False) (w.heap.size+1) 145 3 wr A k c (((bo p).take k).map bY)/\Ext w wr/\aq wr w.heap.size 27 #[.slice GA gn gc,.slice MA mn mc,.slice FA fn fc]) (λ_ _ cu _=>gn+mn+fn - (intOf cu).toNat)
 case atStart=>exact⟨rfl,0,none,0,ad,rfl,rfl,Gr.nil _ _ _ _ _,bq.o,b1.o⟩
 case round=>
  obtain⟨rfl,k,A,c,ap,rfl,rfl,hG,aw,aR⟩:=hrel;clear bq b1;obtain⟨bO,bq,b1⟩:=eh hG aw aR;obtain⟨a0,ai,af⟩:=aR.two;have m0:=aw.size;clear hG aw aR;by_cases ak:k<gn+mn+fn
  .by_cases ac:k<gn
   ·
    obtain⟨b,o,g,cs,rfl,O,hx,a5,bj,Z⟩:=(cC.on (Fr.ext bq.o)).g0 oC ac;obtain rfl:=mu.1 a5;have c0:=Z 0 _ rfl;simp only[KN] at c0;have aV:b<wr.heap.size:=O;have d:=ET hx;have q1:decide ((k:Int) - (gn:Int)<0)=true:=by first|(simp;done)|(simp;omega)
    clear a5 bj Z hx O;go_upto_region 14 with(fail);generalize hV:World.alloc _ _=V;have L:=aX hV;have b7:=aK hV;obtain⟨bN,aI⟩:=aH L b7;have a4:=ae (bq.trans L);have br:=ae (b1.ai L);have P:=ae (bO.ai L);have a6:=kz n.o d;have y:=P.sl (Q:=av V) (λb _ h=>h.elim) (λb _ h=>by assumption);clear hV L b7 c0 aV a0 ai af;obtain⟨d0,aL,aM⟩:=aI.two;go_wp2_with(fail);refine(dV A k c _ g.1 _ y ad).mono ?_;rintro e aS ⟨rfl,ar⟩
    try simp only at a6
    rw[a6];simp only[iU];have a9:=ae (a4.trans ar);have a7:=ae (br.ai ar);have bf:=ae (P.ai ar);have i:=aI.ai ar;clear d0 aL aM ar y;go_upto_region 15 with(fail);generalize ct:World.alloc _ _=Y;have s:=aX ct;have l:=i.ai s;have r:=ae (bf.ai s);have cj:=ae (a9.trans s);have T:=ae (a7.ai s);clear ct i s;obtain⟨d0,aL,aM⟩:=l.two;have cR:=cj.size;have bu:=T.lt;clear l;go_wp2_with((at_builtin;refine bP jd rfl (.tmp 88) (.tmp 90) rfl r.o (jQ ⟨g.1,1,(k:Int)⟩) rfl rfl rfl ad ad ad ?_;intro A2 c2 aT bF az al ci));have aP:Gr (λ_=>False) (w.heap.size+1) 145 3 aT A2 (k+1) c2 (((bo p).take (k+1)).map bY):=by rw[nE d];exact bF
    have b0:Ext w aT:=Fr.low (M:=λb=>w.heap.size<=b) ((cj.mono λ_ h=>h.elim).trans (az.mono λb O=>by have:=(r.lt O).1;omega)) λ_ h=>h;have ce:=T.on az λO=>by have:=(r.lt O).1;omega
    have b4:=aD aP b0 ce;clear aP b0 ce bF az al d0 aL aM;go_wp2;go_roundw
    case rel=>exact⟨rfl,k+1,A2,c2,ad,by go_num,rfl,b4.o⟩
    case measure=>exact aG
   .by_cases au:k - gn<mn
    ·
     obtain⟨b,o,m,cs,rfl,O,hx,a5,bj,Z⟩:=(cQ.on (Fr.ext bq.o)).g0 sE au;obtain rfl:=fb.1 a5;have c0:=Z 0 _ rfl;simp only[KN] at c0;have aV:b<wr.heap.size:=O;have d:=EU hx;obtain⟨j,bi⟩:∃j,k=gn+j:=⟨k - gn,ad⟩
     subst bi;have dL:gn+j - gn=j:=ad;rw[dL] at c0 au d hx;rw[b9.1] at d;have q:(gn:Int)+(j:Int) - (gn:Int)=(j:Int):=ad;have q1:decide ((j:Int)<0)=false:=by first|(simp;done)|(simp;omega)
     have cI:((j:Int)<(mn:Int)):=ad;clear a5 bj Z hx O;go_upto_region 14 with(fail);generalize hV:World.alloc _ _=V;have L:=aX hV;have b7:=aK hV;obtain⟨bN,aI⟩:=aH L b7;have a4:=ae (bq.trans L);have br:=ae (b1.ai L);have P:=ae (bO.ai L);have a6:=kz n.o d;have y:=P.sl (Q:=av V) (λb _ h=>h.elim) (λb _ h=>by assumption);clear hV L b7 c0 aV a0 ai af;obtain⟨d0,aL,aM⟩:=aI.two;go_wp2_with(fail);refine(dV A (gn+j) c _ m.name _ y ad).mono ?_;rintro e aS ⟨rfl,ar⟩
     try simp only at a6
     rw[a6];simp only[iU];have a9:=ae (a4.trans ar);have a7:=ae (br.ai ar);have bf:=ae (P.ai ar);have i:=aI.ai ar;clear d0 aL aM ar y;go_upto_region 15 with(fail);generalize ct:World.alloc _ _=Y;have s:=aX ct;have l:=i.ai s;have r:=ae (bf.ai s);have cj:=ae (a9.trans s);have T:=ae (a7.ai s);clear ct i s;obtain⟨d0,aL,aM⟩:=l.two;have cR:=cj.size;have bu:=T.lt;clear l;go_wp2_with((at_builtin;refine bP jd rfl (.tmp 88) (.tmp 90) rfl r.o (jQ ⟨m.name,2,(j:Int)⟩) rfl rfl rfl ad ad ad ?_;intro A2 c2 aT bF az al ci));have aP:Gr (λ_=>False) (w.heap.size+1) 145 3 aT A2 (gn+j+1) c2 (((bo p).take (gn+j+1)).map bY):=by rw[nE d];exact bF
     have b0:Ext w aT:=Fr.low (M:=λb=>w.heap.size<=b) ((cj.mono λ_ h=>h.elim).trans (az.mono λb O=>by have:=(r.lt O).1;omega)) λ_ h=>h;have ce:=T.on az λO=>by have:=(r.lt O).1;omega
     have b4:=aD aP b0 ce;clear aP b0 ce bF az al d0 aL aM;go_wp2;go_roundw
     case rel=>exact⟨rfl,(gn+j)+1,A2,c2,ad,by go_num,rfl,b4.o⟩
     case measure=>exact aG
    ·
     have aU:k - gn - mn<fn:=ad;obtain⟨b,o,f,cs,rfl,O,hx,a5,bj,Z⟩:=(bT.on (Fr.ext bq.o)).g0 pD aU;obtain⟨PA,pn,pc,fu,bn,bc,rfl,_,_⟩:=ku a5;have c0:=Z 0 _ rfl;simp only[KN] at c0;have aV:b<wr.heap.size:=O;have d:=xq hx;obtain⟨j,bi⟩:∃j,k=gn+mn+j:=⟨k - gn - mn,ad⟩
     subst bi;have dL:gn+mn+j - gn - mn=j:=ad;rw[dL] at c0 aU d hx;rw[b9.1,b9.2.1] at d;have q:(gn:Int)+(mn:Int)+(j:Int) - (gn:Int)=(mn:Int)+(j:Int):=ad;have ao:(mn:Int)+(j:Int) - (mn:Int)=(j:Int):=ad;have q1:decide ((mn:Int)+(j:Int)<0)=false:=by first|(simp;done)|(simp;omega)
     have cI:decide ((mn:Int)+(j:Int)<(mn:Int))=false:=by first|(simp;done)|(simp;omega)
     have u:IntKind.i64.wrap (j:Int)=j:=IntWalk.i64_in _ ad;clear a5 bj Z hx O;go_wp2;refine eK (λ_=>False) [(0,3),(1,0),(2,3),(3,3),(4,0),(5,3),(6,3),(7,3),(8,3),(9,0),(10,3),(11,3),(12,0),(13,3),(14,3),(15,3),(16,2)] ?_;refine pf ?_;refine ph ?_
     iterate 2 refine pf ?_
     refine ph ?_
     iterate 4 refine pf ?_
     refine ph ?_
     iterate 2 refine pf ?_
     refine ph ?_
     iterate 3 refine pf ?_
     exact eP
  .obtain rfl:gn+mn+fn=k:=ad;go_wp2
   go_ret2
   refine⟨A,c,by rw[cy];rfl,?_,bq.o⟩;have:=bO.o;rw[KL ad] at this;rw[cy];exact this.sl (λb _ h=>h.elim) λb ac au=>⟨ad,ac⟩
 ):p:=h
theorem vi{p:Prop}(h:p:=by
 exact sn
 ):p:=h
end BG
open BG in
theorem sC(p:bK)(hp:ot p)(GA:Lp)(gn gc:Nat)(MA:Lp)(mn mc:Nat)(FA:Lp)(fn fc:Nat)(w:World)(h:hk w (av w) p GA gn MA mn FA fn) :
  Calls prog 68 #[.agg #[.slice GA gn gc,.slice MA mn mc,.slice FA fn fc]] w (EE w p):=by
 exact vh
end Go.Proofs.YtglbpimocmhojaaGreat

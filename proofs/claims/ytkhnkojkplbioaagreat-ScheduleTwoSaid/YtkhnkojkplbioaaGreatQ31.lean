/- Part 31 of the proof. No condition of its own. -/
import Derived.Test.YtkhnkojkplbioaaGreatQ14
import Derived.Test.YtkhnkojkplbioaaGreatQ30
namespace Go.Proofs.YtkhnkojkplbioaaGreat
open Go.RowKit Go.Proofs.Tryz
set_option maxRecDepth 1000000
set_option maxHeartbeats 25600000
set_option linter.unusedVariables false
variable{i:Nat}{p:bP}{e:dO}
theorem DY(dR:vF)(U:hz)(nk:Int)(F:List aK)(b:an)(G:Env)(d:Nat)(l:List dO)(n:Int)(st:Nat)(code:List az)(sites:List Int)(g B:Nat)(S:L3)(ln lc:Nat)(bz:L3)(b3:Nat)(bU:L3)(bE:Nat)(A:L3)(m c:Nat)(w:World)(bq:L5 (Sl w (off (Ms g (.slice bz code.length b3) (.slice bU sites.length bE)) w) A m (b.list.map bj)))(ck:L5 (∀s∈b.list,lQ U nk F s.th/\lQ U nk F s.el))(dY:L5 (∀f∈F,f.params.length<=1000))(bJ:L5 (b.list.length=m))(e4:m<=100000)(e0:st+b.num<=100000)(dt:Exit->Act->World->Prop)(hQ0:∀c a d v w,dt (.panic c) (a.put d v) w->dt (.panic c) a w)(j:∀r J,Ft U nk F b G d l n st code sites g B S ln lc bz b3 bU bE A m c w r J->dt (.exit 0) r J)
  (a:Act) (wr:World) (hI:iV U nk F b G d l n st code sites g B S ln lc bz b3 bU bE A m c w a wr):Code.wp prog s6 (Exit.then (λr J=>iV U nk F b G d l n st code sites g B S ln lc bz b3 bU bE A m c w r J/\jt m r J<jt m a wr) dt) a wr:=by
 unfold iV at hI
 iterate 240 obtain⟨_,hI⟩:=hI
 obtain⟨hI,rfl⟩:=hI;have e:=hI;obtain⟨k,rest,aO,aY,aw,aP,ab,u,y,bH,bd,bP,Y,ah,aH,bc,rfl,ap,bA,aT,a9,a1,hS,bn,a8,cm,ca,bM,aX,hM⟩:=hI;by_cases al:k<m
 .suffices aR:BK rest from aR dR U nk F b G d l n st code sites g B S ln lc bz b3 bU bE A m c w bq ck dY bJ e4 e0 k aO aY aw aP ab u y bH bd bP Y ah aH bc wr al bA aT a9 a1 hS bn a8 cm ca bM aX hM dt hQ0
  exact H0 rest
 .obtain rfl:m=k:=ad;have a4:=ae e;clear e bA aT a9 a1 hS bn a8 cm ca bM aX hM;conv=>arg 2;whnf
  go_wp2;unfold Ft
  iterate 240 apply Exists.intro
  exact⟨a4.o,rfl,rfl⟩
theorem FG(dR:vF)(U:hz)(nk:Int)(F:List aK)(b:an)(G:Env)(d:Nat)(l:List dO)(n:Int)(st:Nat)(code:List az)(sites:List Int)(g B:Nat)(S:L3)(ln lc:Nat)(bz:L3)(b3:Nat)(bU:L3)(bE:Nat)(A:L3)(m c:Nat)(w:World)(bq:L5 (Sl w (off (Ms g (.slice bz code.length b3) (.slice bU sites.length bE)) w) A m (b.list.map bj)))(ck:L5 (∀s∈b.list,lQ U nk F s.th/\lQ U nk F s.el))(dY:L5 (∀f∈F,f.params.length<=1000))(bJ:L5 (b.list.length=m))(e4:m<=100000)(e0:st+b.num<=100000)(dt:Exit->Act->World->Prop)(hQ0:∀c a d v w,dt (.panic c) (a.put d v) w->dt (.panic c) a w)(j:∀r J,Ft U nk F b G d l n st code sites g B S ln lc bz b3 bU bE A m c w r J->dt (.exit 0) r J)
  (wr:World) {gJ gQ z u8 gL eR bm bL ce bV eS eV eW eX eY eZ e3 e5 e7 e8 e9 fb fd u32 fe ff fh fi fj fk fl fm fo fq fr fs ft fu fv fw fx fz fA fB fC fD fE fF fG fH fI fJ fK fL fM u64 fN fO fP fQ fR fS fT fU fV fW fX fY fZ f3 f4 f5 f6 f7 f8 f9 ga gb gd ge gf gg gh gi gj gk gl gm go gp gq H I am aF aL aM aN aV aW a7 bb be bg bo br bs bw bI bO bW b2 b5 b8 cc cd cf ch cj cp cr ct cx cA cB cC cD cF cG cH cL cM cP cQ cS cT cU cV cW cX cY cZ c4 c5 c6 c7 c8 c9 da db dc dd de df dg dh di dj dk dl dm dn dp dr ds du dw dx dy dz dA dB dC dD dF dG dH dI dJ dK dM dN dQ dS dU dV dW dX dZ d0 d1 d2 d3 d4 d5 d6 d7 d8 d9 ea eb ec ed ee ef eg eh ei ej ek el em en eo ep eq er es et eu ev ew ex ey ez eA eB eD eE eF eG eH eI eJ eK eL eM eN eO eP:Value} (hI:oJ U nk F b G d l n st code sites g B S ln lc bz b3 bU bE A m c w gJ wr):Code.wp prog (Code.loop s6) dt ⟨#[.pointer (some ⟨g,0,none⟩),.slice A m c,undef,undef,.slice S ln lc,gJ,gQ,z,u8,gL,eR,bm,bL,ce,bV,.pointer (some ⟨g,0,none⟩),.pointer (some ⟨g,0,none⟩),.pointer (some ⟨g,3,none⟩),.slice S ln lc,eS,eV,eW,eX,eY,eZ,e3,e5,e7,e8,e9,fb,fd,u32,fe,ff,fh,fi,fj,fk,fl,fm,fo,fq,fr,fs,ft,fu,fv,fw,fx,fz,fA,fB,fC,fD,fE,fF,fG,fH,fI,fJ,fK,fL,fM,u64,fN,fO,fP,fQ,fR,fS,fT,fU,fV,fW,fX,fY,fZ,f3,f4,f5,f6,f7,f8,f9,ga,gb,gd,ge,gf,gg,gh,gi,gj,gk,gl,gm,go,gp,gq,H,I,am,aF,aL,aM,aN,aV,aW,a7,bb,be,bg,bo,br,bs,bw,bI,bO,bW,b2,b5,b8,cc,cd,cf,ch,cj,cp,cr,ct,cx,cA,cB,cC,cD,cF,cG,cH,cL,cM,cP,cQ,cS,cT,cU,cV,cW,cX,cY,cZ,c4,c5,c6,c7,c8,c9,da,db,dc,dd,de,df,dg,dh,di,dj,dk,dl,dm,dn,dp,dr,ds,du,dw,dx,dy,dz,dA,dB,dC,dD,dF,dG,dH,dI,dJ,dK,dM,dN,dQ,dS,dU,dV,dW,dX,dZ,d0,d1,d2,d3,d4,d5,d6,d7,d8,d9,ea,eb,ec,ed,ee,ef,eg,eh,ei,ej,ek,el,em,en,eo,ep,eq,er,es,et,eu,ev,ew,ex,ey,ez,eA,eB,eD,eE,eF,eG,eH,eI,eJ,eK,eL,eM,eN,eO,eP,undef,undef,undef,undef],[]⟩ wr:=by
 refine wp_loop (iV U nk F b G d l n st code sites g B S ln lc bz b3 bU bE A m c w) (jt m) ?_ (λa J hI=>DY dR U nk F b G d l n st code sites g B S ln lc bz b3 bU bE A m c w bq ck dY bJ e4 e0 dt hQ0 j a J hI);unfold iV
 iterate 240 apply Exists.intro
 exact⟨hI,rfl⟩
theorem wk(dR:vF)(U:hz)(nk:Int)(F:List aK)(b:an)(ao:∀s∈b.list,lQ U nk F s.th/\lQ U nk F s.el):lQ U nk F b:=by
 intro G d l V T n st code sites g B S ln lc bz b3 bU bE A m c w a1 hS bn i h hs a8 cm ca e0 bM;have cf:b.list.length=m:=by rw[<-hs.1,cG,Lo]
 have e4:m<=100000:=by have:=gP b;omega
 rw[cG] at hs;obtain⟨GA,gn,gc,MA,mn,mc,FA,fn,fc,aR,_⟩:=h.blk;obtain⟨bq,ck,dY,bJ⟩:=iX hs ao i cf;obtain⟨a7,am,aF⟩:=aR.two;have a3:=ae (show oJ U nk F b G d l n st code sites g B S ln lc bz b3 bU bE A m c w (.int .i64 0) w from
  ⟨0,b,l,V,T,n,st,code,sites,S,ln,lc,bz,b3,bU,bE,rfl,ad,rfl,rfl,rfl,a1,hS,bn,a8,cm,ca,bM,h,Mv.refl _ _ _ _⟩)
 have b8:=ag h.names.1 h.names.2;clear hs ao a1 hS bn i h a8 cm ca bM aR cf;go_enter func133,ntmps133;go_wp2;clear a7 am aF;refine FG dR U nk F b G d l n st code sites g B S ln lc bz b3 bU bE A m c w bq ck dY bJ e4 e0 _ ?hQ ?hX _ a3.o
 case hQ=>exact λ_ _ d _ _ h=>by cases d<;>exact h
 case hX=>
  intro r wr e;unfold Ft at e
  iterate 240 obtain⟨_,e⟩:=e
  obtain⟨hI,f,rfl⟩:=e;obtain⟨k,rest,aO,aY,aw,aP,ab,u,y,bH,bd,bP,Y,ah,aH,bc,j,ap,bA,aT,a9,a1,hS,bn,a8,cm,ca,bM,aX,hM⟩:=hI;have L:m=k:=by
   rw[j] at f;injection f with _ ac;omega
  subst L;clear a3 j f;obtain⟨bF,cp,a5,eu,gp,eB,cM,fZ,cH,aR,_⟩:=aX.blk;have bo:rest.list=[]:=bA▸LQ (by rw[bJ.o];exact Lk _);obtain rfl:rest=.nil:=by cases rest<;>simp_all [an.list]
  have d0:dL b l n code=(u,aP):=aT.symm;obtain⟨a7,am,aF⟩:=aR.two;obtain⟨HA,cR⟩:=aJ aX hM;clear aX hM aR;go_wp2;generalize hX:World.setCell _ _ _=X;obtain⟨eS,dO⟩:=HA.EE b8.1 (b8.2.cS cR.o) hX;have fk:=cR.trans dO;clear a7 am aF hX dO;rw[d0];refine bodyPost_end (v:=.tuple #[]) (by simp[results,Tryz.results133,go_sem]) rfl ?_;obtain rfl:ab=st+b.num:=by simp only[an.num] at a9;omega
  exact⟨rfl,Y,ah,aH,bc,y,cm,eS,fk⟩
theorem yI(dR:vF)(U:hz)(nk:Int)(F:List aK):∀b:an,lQ U nk F b:=an.DZ (C:=lQ U nk F) λb ao=>wk dR U nk F b ao
theorem mK{α:Type}(f:α->ByteArray)(k:Int):∀(l:List α) (j i:Nat),(iE f k l j)[i]?=(l[i]?).map λx=>⟨f x,k,((j+i:Nat):Int)⟩
 | [],j,i=>by simp[iE]
 | x::l,j,0=>by simp[iE]
 | x::l,j,i+1=>by
  rw[iE,List.getElem?_cons_succ,List.getElem?_cons_succ,mK f k l (j+1) i,show j+1+i=j+(i+1) by omega]
theorem eH{α:Type}(f:α->ByteArray)(k:Int):∀(l:List α) (j:Nat),(iE f k l j).length=l.length
 | [],_=>rfl
 | x::l,j=>by simp[iE,eH f k l (j+1)]
theorem k1(p:bP):(br p).length=p.globals.length+p.af.length+p.funcs.length:=by simp[br,eH];omega
theorem FI{g:ByteArray×Int}(h:p.globals[i]?=some g):(br p)[i]?=some ⟨g.1,1,(i:Int)⟩:=by
 have hl:=(List.getElem?_eq_some_iff.1 h).1;unfold br;rw[List.getElem?_append_left (by simp[eH];omega),List.getElem?_append_left (by simp[eH];omega),mK,h];simp
theorem FJ{m:bD}(h:p.af[i]?=some m):(br p)[p.globals.length+i]?=some ⟨m.name,2,(i:Int)⟩:=by
 have hl:=(List.getElem?_eq_some_iff.1 h).1;unfold br;rw[List.getElem?_append_left (by simp[eH];omega),List.getElem?_append_right (by simp[eH]),eH,mK,show p.globals.length+i - p.globals.length=i by omega,h];simp
theorem x4{f:aK}(h:p.funcs[i]?=some f):(br p)[p.globals.length+p.af.length+i]?=some ⟨f.name,3,(i:Int)⟩:=by
 unfold br;rw[List.getElem?_append_right (by simp[eH]),Lm,eH,eH,mK,show p.globals.length+p.af.length+i - (p.globals.length+p.af.length)=i by omega,h];simp
theorem kI{L:List dO}(hn:(L.map (·.name)).Nodup)(he:L[i]?=some e):dD (L.take i) e.name=none:=by
 refine jY λj x bi hx=>?_;have az:j<i:=by have:=(List.getElem?_eq_some_iff.1 bi).1;simp at this;omega
 have f:L[j]?=some x:=by rw[<-bi,List.getElem?_take_of_lt az]
 have ac:(L.map (·.name))[j]?=some x.name:=by rw[List.getElem?_map,f];rfl
 have au:(L.map (·.name))[i]?=some e.name:=by rw[List.getElem?_map,he];rfl
 have bq:=(List.getElem?_eq_some_iff.1 ac).1;have cF:=(List.getElem?_eq_some_iff.1 au).1;rw[List.getElem?_eq_getElem bq] at ac;rw[List.getElem?_eq_getElem cF] at au;injection ac with ac;injection au with au;have:=(List.getElem_inj hn).1 (ac.trans (hx.trans au.symm));omega
theorem oa(hp:oR p):((br p).map (·.name)).Nodup:=by rw[fS];exact hp.nodup
def Fv(w:World)(p:bP)(e:Ending)(ab:World):Prop:=∃(S:L3) (lc:Nat),e=.returned (.tuple #[.slice S (br p).length lc,.int .i64 (-1)])/\Sl ab (fresh w ab) S (br p).length ((br p).map b2)/\Ext w ab
theorem nV{k:Nat}(h:(br p)[k]?=some e):((br p).take (k+1)).map b2=((br p).take k).map b2++[b2 e]:=by rw[a1 h,Lr];rfl
namespace Cr
theorem dE{p:Prop}(h:p:=by
 generalize hV:World.drew (World.alloc _ _)=V;have L:=gK hV;have b7:aq V wr.heap.size 166 #[.string f.name,.int .i64 3,.int .i64 j]:=hV▸(LX).drew;obtain⟨bN,aG⟩:=aJ L b7;have aX:=ae (bo.trans L);have bB:=ae (bO.aj L);have P:=ae (bS.aj L);have ak:=kI n.o d;have y:=P.sl (Q:=av V) (λb _ h=>h.elim) (λb _ h=>by assumption);clear hV L b7 c0 aT a0 aj af;obtain⟨d0,aL,aM⟩:=aG.two;go_wp2_with(fail);refine(dZ A (gn+mn+j) c _ f.name _ y ad).mono ?_;rintro e aS ⟨rfl,ar⟩
 try simp only at ak
 rw[ak];simp only[iZ];have bd:=ae (aX.trans ar);have a4:=ae (bB.aj ar);have bh:=ae (P.aj ar);have i:=aG.aj ar;clear d0 aL aM ar y;go_upto_region 15 with(fail);generalize cu:World.alloc _ _=Y;have s:=aW cu;have l:=i.aj s;have r:=ae (bh.aj s);have cc:=ae (bd.trans s);have T:=ae (a4.aj s);clear cu i s;obtain⟨d0,aL,aM⟩:=l.two;have cV:=cc.size;have b1:=T.lt;clear l;go_wp2_with((at_builtin;refine bT jj rfl (.tmp 88) (.tmp 90) rfl r.o (jX ⟨f.name,3,(j:Int)⟩) rfl rfl rfl ad ad ad ?_;intro A2 c2 aU bH az cl ca));have aP:Gr (λ_=>False) (w.heap.size+1) 166 3 aU A2 (gn+mn+j+1) c2 (((br p).take (gn+mn+j+1)).map b2):=by rw[nV d];exact bH
 have b0:Ext w aU:=Fr.low (M:=λb=>w.heap.size<=b) ((cc.mono λ_ h=>h.elim).trans (az.mono λb O=>by have:=(r.lt O).1;omega)) λ_ h=>h;have cf:=T.on az λO=>by have:=(r.lt O).1;omega
 have bY:=aE aP b0 cf;clear aP b0 cf bH az cl d0 aL aM;go_wp2;go_roundw
 case rel=>exact⟨rfl,(gn+mn+j)+1,A2,c2,ad,by go_num,rfl,bY.o⟩
 case measure=>exact aH
 ):p:=h
theorem sZ{p:Prop}(h:p:=by
 have n:=ae (oa hp);obtain⟨cX,cR,bX⟩:=ek a9 hm J;have F:=ae (k1 p);have cB:(br p).length=gn+mn+fn:=by rw[k1,ds,lm,lf]
 have b8:=aE ds lm lf;clear h a9 hm J hp ds lm lf;go_enter func91,ntmps91;go_upto_region 1 with(fail);generalize be:World.alloc _ _=W;have aw:=aW be;have aR:=aI be;obtain⟨bo,bO⟩:=aJ aw aR;obtain⟨a0,aj,af⟩:=aR.two;clear be aw aR;go_wp2;clear a0 aj af;go_loopw [4,5,7] (λgS bv cy wr=>bv=.int .i64 (-1)/\∃(k:Nat) (A:L3) (c:Nat),k<=gn+mn+fn/\cy=.int .i64 k/\gS=.slice A k c/\Gr (λ_=>False) (w.heap.size+1) 166 3 wr A k c (((br p).take k).map b2)/\Ext w wr/\aq wr w.heap.size 27 #[.slice GA gn gc,.slice MA mn mc,.slice FA fn fc]) (λ_ _ cy _=>gn+mn+fn - (intOf cy).toNat)
 case atStart=>exact⟨rfl,0,none,0,ad,rfl,rfl,Gr.nil _ _ _ _ _,bo.o,bO.o⟩
 case round=>
  obtain⟨rfl,k,A,c,ap,rfl,rfl,hG,aw,aR⟩:=hrel;clear bo bO;obtain⟨bS,bo,bO⟩:=ek hG aw aR;obtain⟨a0,aj,af⟩:=aR.two;have nt:=aw.size;clear hG aw aR;by_cases al:k<gn+mn+fn
  .by_cases ac:k<gn
   ·
    obtain⟨b,o,g,cs,rfl,O,hx,ba,a8,Z⟩:=(cX.on (Fr.ext bo.o)).g6 oZ ac;obtain rfl:=mI.1 ba;have c0:=Z 0 _ rfl;simp only[Lu] at c0;have aT:b<wr.heap.size:=O;have d:=FI hx;have q1:decide ((k:Int) - (gn:Int)<0)=true:=by first|(simp;done)|(simp;omega)
    clear ba a8 Z hx O;go_upto_region 14 with(fail);generalize hV:World.alloc _ _=V;have L:=aW hV;have b7:=aI hV;obtain⟨bN,aG⟩:=aJ L b7;have aX:=ae (bo.trans L);have bB:=ae (bO.aj L);have P:=ae (bS.aj L);have ak:=kI n.o d;have y:=P.sl (Q:=av V) (λb _ h=>h.elim) (λb _ h=>by assumption);clear hV L b7 c0 aT a0 aj af;obtain⟨d0,aL,aM⟩:=aG.two;go_wp2_with(fail);refine(dZ A k c _ g.1 _ y ad).mono ?_;rintro e aS ⟨rfl,ar⟩
    try simp only at ak
    rw[ak];simp only[iZ];have bd:=ae (aX.trans ar);have a4:=ae (bB.aj ar);have bh:=ae (P.aj ar);have i:=aG.aj ar;clear d0 aL aM ar y;go_upto_region 15 with(fail);generalize cu:World.alloc _ _=Y;have s:=aW cu;have l:=i.aj s;have r:=ae (bh.aj s);have cc:=ae (bd.trans s);have T:=ae (a4.aj s);clear cu i s;obtain⟨d0,aL,aM⟩:=l.two;have cV:=cc.size;have b1:=T.lt;clear l;go_wp2_with((at_builtin;refine bT jj rfl (.tmp 88) (.tmp 90) rfl r.o (jX ⟨g.1,1,(k:Int)⟩) rfl rfl rfl ad ad ad ?_;intro A2 c2 aU bH az cl ca));have aP:Gr (λ_=>False) (w.heap.size+1) 166 3 aU A2 (k+1) c2 (((br p).take (k+1)).map b2):=by rw[nV d];exact bH
    have b0:Ext w aU:=Fr.low (M:=λb=>w.heap.size<=b) ((cc.mono λ_ h=>h.elim).trans (az.mono λb O=>by have:=(r.lt O).1;omega)) λ_ h=>h;have cf:=T.on az λO=>by have:=(r.lt O).1;omega
    have bY:=aE aP b0 cf;clear aP b0 cf bH az cl d0 aL aM;go_wp2;go_roundw
    case rel=>exact⟨rfl,k+1,A2,c2,ad,by go_num,rfl,bY.o⟩
    case measure=>exact aH
   .by_cases au:k - gn<mn
    ·
     obtain⟨b,o,m,cs,rfl,O,hx,ba,a8,Z⟩:=(cR.on (Fr.ext bo.o)).g6 te au;obtain rfl:=fh.1 ba;have c0:=Z 0 _ rfl;simp only[Lu] at c0;have aT:b<wr.heap.size:=O;have d:=FJ hx;obtain⟨j,bi⟩:∃j,k=gn+j:=⟨k - gn,ad⟩
     subst bi;have f0:gn+j - gn=j:=ad;rw[f0] at c0 au d hx;rw[b8.1] at d;have q:(gn:Int)+(j:Int) - (gn:Int)=(j:Int):=ad;have q1:decide ((j:Int)<0)=false:=by first|(simp;done)|(simp;omega)
     have cN:((j:Int)<(mn:Int)):=ad;clear ba a8 Z hx O;go_upto_region 14 with(fail);generalize hV:World.alloc _ _=V;have L:=aW hV;have b7:=aI hV;obtain⟨bN,aG⟩:=aJ L b7;have aX:=ae (bo.trans L);have bB:=ae (bO.aj L);have P:=ae (bS.aj L);have ak:=kI n.o d;have y:=P.sl (Q:=av V) (λb _ h=>h.elim) (λb _ h=>by assumption);clear hV L b7 c0 aT a0 aj af;obtain⟨d0,aL,aM⟩:=aG.two;go_wp2_with(fail);refine(dZ A (gn+j) c _ m.name _ y ad).mono ?_;rintro e aS ⟨rfl,ar⟩
     try simp only at ak
     rw[ak];simp only[iZ];have bd:=ae (aX.trans ar);have a4:=ae (bB.aj ar);have bh:=ae (P.aj ar);have i:=aG.aj ar;clear d0 aL aM ar y;go_upto_region 15 with(fail);generalize cu:World.alloc _ _=Y;have s:=aW cu;have l:=i.aj s;have r:=ae (bh.aj s);have cc:=ae (bd.trans s);have T:=ae (a4.aj s);clear cu i s;obtain⟨d0,aL,aM⟩:=l.two;have cV:=cc.size;have b1:=T.lt;clear l;go_wp2_with((at_builtin;refine bT jj rfl (.tmp 88) (.tmp 90) rfl r.o (jX ⟨m.name,2,(j:Int)⟩) rfl rfl rfl ad ad ad ?_;intro A2 c2 aU bH az cl ca));have aP:Gr (λ_=>False) (w.heap.size+1) 166 3 aU A2 (gn+j+1) c2 (((br p).take (gn+j+1)).map b2):=by rw[nV d];exact bH
     have b0:Ext w aU:=Fr.low (M:=λb=>w.heap.size<=b) ((cc.mono λ_ h=>h.elim).trans (az.mono λb O=>by have:=(r.lt O).1;omega)) λ_ h=>h;have cf:=T.on az λO=>by have:=(r.lt O).1;omega
     have bY:=aE aP b0 cf;clear aP b0 cf bH az cl d0 aL aM;go_wp2;go_roundw
     case rel=>exact⟨rfl,(gn+j)+1,A2,c2,ad,by go_num,rfl,bY.o⟩
     case measure=>exact aH
    ·
     have aY:k - gn - mn<fn:=ad;obtain⟨b,o,f,cs,rfl,O,hx,ba,a8,Z⟩:=(bX.on (Fr.ext bo.o)).g6 p5 aY;obtain⟨PA,pn,pc,fy,bn,bc,rfl,_,_⟩:=kE ba;have c0:=Z 0 _ rfl;simp only[Lu] at c0;have aT:b<wr.heap.size:=O;have d:=x4 hx;obtain⟨j,bi⟩:∃j,k=gn+mn+j:=⟨k - gn - mn,ad⟩
     subst bi;have f0:gn+mn+j - gn - mn=j:=ad;rw[f0] at c0 aY d hx;rw[b8.1,b8.2.1] at d;have q:(gn:Int)+(mn:Int)+(j:Int) - (gn:Int)=(mn:Int)+(j:Int):=ad;have ao:(mn:Int)+(j:Int) - (mn:Int)=(j:Int):=ad;have q1:decide ((mn:Int)+(j:Int)<0)=false:=by first|(simp;done)|(simp;omega)
     have cN:decide ((mn:Int)+(j:Int)<(mn:Int))=false:=by first|(simp;done)|(simp;omega)
     have u:IntKind.i64.wrap (j:Int)=j:=IntWalk.i64_in _ ad;clear ba a8 Z hx O;go_wp2;refine eC (λ_=>False) [(0,3),(1,0),(2,3),(3,3),(4,0),(5,3),(6,3),(7,3),(8,3),(9,0),(10,3),(11,3),(12,0),(13,3),(14,3),(15,3),(16,2)] ?_;refine pf ?_;refine ph ?_
     iterate 2 refine pf ?_
     refine ph ?_
     iterate 4 refine pf ?_
     refine ph ?_
     iterate 2 refine pf ?_
     refine ph ?_
     iterate 3 refine pf ?_
     exact eT
  .obtain rfl:gn+mn+fn=k:=ad;go_wp2
   go_ret2
   refine⟨A,c,by rw[cB];rfl,?_,bo.o⟩;have:=bS.o;rw[Ls ad] at this;rw[cB];exact this.sl (λb _ h=>h.elim) λb ac au=>⟨ad,ac⟩
 ):p:=h
theorem vU{p:Prop}(h:p:=by
 exact sY
 ):p:=h
end Cr
open Cr in
theorem s9(p:bP)(hp:oR p)(GA:L3)(gn gc:Nat)(MA:L3)(mn mc:Nat)(FA:L3)(fn fc:Nat)(w:World)(h:hy w (av w) p GA gn MA mn FA fn) :
  Calls prog 91 #[.agg #[.slice GA gn gc,.slice MA mn mc,.slice FA fn fc]] w (Fv w p):=by
 exact vT
end Go.Proofs.YtkhnkojkplbioaaGreat

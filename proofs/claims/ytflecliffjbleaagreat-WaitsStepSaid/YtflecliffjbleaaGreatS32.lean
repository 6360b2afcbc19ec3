/- Part 32 of the proof. No condition of its own. -/
import Derived.Test.YtflecliffjbleaaGreatS14
import Derived.Test.YtflecliffjbleaaGreatS31
namespace Go.Proofs.YtflecliffjbleaaGreat
open Go.RowKit Go.Proofs.Tryz
set_option maxRecDepth 1000000
set_option maxHeartbeats 25600000
set_option linter.unusedVariables false
variable{i:Nat}{p:bM}{e:dQ}
theorem DU(ef:vE)(U:hW)(nk:Int)(F:List aG)(b:al)(G:Env)(d:Nat)(l:List dQ)(n:Int)(st:Nat)(code:List ay)(sites:List Int)(g B:Nat)(bB:Mk)(ln lc:Nat)(S:Mk)(br:Nat)(bE:Mk)(bw:Nat)(A:Mk)(m c:Nat)(w:World)(bM:Mm (Sl w (off (Ms g (.slice S code.length br) (.slice bE sites.length bw)) w) A m (b.list.map bg)))(cM:Mm (∀s∈b.list,lY U nk F s.th/\lY U nk F s.el))(dT:Mm (∀f∈F,f.params.length<=1000))(bA:Mm (b.list.length=m))(fg:m<=100000)(e0:st+b.num<=100000)(dx:Exit->Act->World->Prop)(hQ0:∀c a d v w,dx (.panic c) (a.put d v) w->dx (.panic c) a w)(x:∀r j,Fq U nk F b G d l n st code sites g B bB ln lc S br bE bw A m c w r j->dx (.exit 0) r j)
  (a:Act) (wr:World) (hI:ja U nk F b G d l n st code sites g B bB ln lc S br bE bw A m c w a wr):Code.wp prog sU (Exit.then (λr j=>ja U nk F b G d l n st code sites g B bB ln lc S br bE bw A m c w r j/\jA m r j<jA m a wr) dx) a wr:=by
 unfold ja at hI
 iterate 240 obtain⟨_,hI⟩:=hI
 obtain⟨hI,rfl⟩:=hI;have e:=hI;obtain⟨k,rest,aM,aY,a7,aQ,ab,u,y,ba,aF,b8,Y,ag,an,a1,rfl,aj,be,a4,aE,aU,hS,bj,bq,b0,cu,bG,bO,hM⟩:=hI;by_cases ap:k<m
 .suffices aS:BK rest from aS ef U nk F b G d l n st code sites g B bB ln lc S br bE bw A m c w bM cM dT bA fg e0 k aM aY a7 aQ ab u y ba aF b8 Y ag an a1 wr ap be a4 aE aU hS bj bq b0 cu bG bO hM dx hQ0
  exact H5 rest
 .obtain rfl:m=k:=ad;have a3:=ae e;clear e be a4 aE aU hS bj bq b0 cu bG bO hM;conv=>arg 2;whnf
  go_wp2;unfold Fq
  iterate 240 apply Exists.intro
  exact⟨a3.o,rfl,rfl⟩
theorem FF(ef:vE)(U:hW)(nk:Int)(F:List aG)(b:al)(G:Env)(d:Nat)(l:List dQ)(n:Int)(st:Nat)(code:List ay)(sites:List Int)(g B:Nat)(bB:Mk)(ln lc:Nat)(S:Mk)(br:Nat)(bE:Mk)(bw:Nat)(A:Mk)(m c:Nat)(w:World)(bM:Mm (Sl w (off (Ms g (.slice S code.length br) (.slice bE sites.length bw)) w) A m (b.list.map bg)))(cM:Mm (∀s∈b.list,lY U nk F s.th/\lY U nk F s.el))(dT:Mm (∀f∈F,f.params.length<=1000))(bA:Mm (b.list.length=m))(fg:m<=100000)(e0:st+b.num<=100000)(dx:Exit->Act->World->Prop)(hQ0:∀c a d v w,dx (.panic c) (a.put d v) w->dx (.panic c) a w)(x:∀r j,Fq U nk F b G d l n st code sites g B bB ln lc S br bE bw A m c w r j->dx (.exit 0) r j)
  (wr:World) {gO gU o u8 gQ eX gw gx cc bW eY eZ e3 e4 e5 e6 e7 e8 e9 fa fb fd fe u32 ff fi fj fl fo fp fq fr fs ft fu fv fw fx fy fz fA fB fC fE fF fG fH fI fJ fK fL fM fN fP fQ u64 fR fS fT fU fV fW fX fY fZ f3 f4 f5 f6 f7 f8 f9 ga gb gd ge gf gg gh gi gj gk gl gm go gp gq gs gt gu gv H I am aJ aK aL aO aZ a8 bb bd bf bo bs bz bC bK bZ b2 b6 b9 cd cg ch cl cm cn co cA cB cE cF cG cH cK cL cP cQ cR cS cT cU cV cW cY cZ c4 c5 c6 c7 c8 c9 da db dc de df dg dh di dj dk dl dm dn dp dq dr ds dt du dv dw dy dz dA dB dC dD dE dF dG dH dI dJ dK dM dN dO dR dS dV dW dX dY dZ d0 d1 d2 d3 d4 d5 d6 d7 d8 d9 ea eb ec ed ee eg eh ei ej ek el em en eo ep eq er es et ev ew ex ey ez eA eB eC eD eE eF eG eH eI eJ eL eN eO eP eQ eR eS eT eU:Value} (hI:oO U nk F b G d l n st code sites g B bB ln lc S br bE bw A m c w gO wr):Code.wp prog (Code.loop sU) dx ⟨#[.pointer (some ⟨g,0,none⟩),.slice A m c,undef,undef,.slice bB ln lc,gO,gU,o,u8,gQ,eX,gw,gx,cc,bW,.pointer (some ⟨g,0,none⟩),.pointer (some ⟨g,0,none⟩),.pointer (some ⟨g,3,none⟩),.slice bB ln lc,eY,eZ,e3,e4,e5,e6,e7,e8,e9,fa,fb,fd,fe,u32,ff,fi,fj,fl,fo,fp,fq,fr,fs,ft,fu,fv,fw,fx,fy,fz,fA,fB,fC,fE,fF,fG,fH,fI,fJ,fK,fL,fM,fN,fP,fQ,u64,fR,fS,fT,fU,fV,fW,fX,fY,fZ,f3,f4,f5,f6,f7,f8,f9,ga,gb,gd,ge,gf,gg,gh,gi,gj,gk,gl,gm,go,gp,gq,gs,gt,gu,gv,H,I,am,aJ,aK,aL,aO,aZ,a8,bb,bd,bf,bo,bs,bz,bC,bK,bZ,b2,b6,b9,cd,cg,ch,cl,cm,cn,co,cA,cB,cE,cF,cG,cH,cK,cL,cP,cQ,cR,cS,cT,cU,cV,cW,cY,cZ,c4,c5,c6,c7,c8,c9,da,db,dc,de,df,dg,dh,di,dj,dk,dl,dm,dn,dp,dq,dr,ds,dt,du,dv,dw,dy,dz,dA,dB,dC,dD,dE,dF,dG,dH,dI,dJ,dK,dM,dN,dO,dR,dS,dV,dW,dX,dY,dZ,d0,d1,d2,d3,d4,d5,d6,d7,d8,d9,ea,eb,ec,ed,ee,eg,eh,ei,ej,ek,el,em,en,eo,ep,eq,er,es,et,ev,ew,ex,ey,ez,eA,eB,eC,eD,eE,eF,eG,eH,eI,eJ,eL,eN,eO,eP,eQ,eR,eS,eT,eU,undef,undef,undef,undef],[]⟩ wr:=by
 refine wp_loop (ja U nk F b G d l n st code sites g B bB ln lc S br bE bw A m c w) (jA m) ?_ (λa j hI=>DU ef U nk F b G d l n st code sites g B bB ln lc S br bE bw A m c w bM cM dT bA fg e0 dx hQ0 x a j hI);unfold ja
 iterate 240 apply Exists.intro
 exact⟨hI,rfl⟩
theorem wh(ef:vE)(U:hW)(nk:Int)(F:List aG)(b:al)(aq:∀s∈b.list,lY U nk F s.th/\lY U nk F s.el):lY U nk F b:=by
 intro G d l V T n st code sites g B bB ln lc S br bE bw A m c w aU hS bj f h hs bq b0 cu e0 bG;have bY:b.list.length=m:=by rw[<-hs.1,cH,LG]
 have fg:m<=100000:=by have:=gU b;omega
 rw[cH] at hs;obtain⟨GA,gn,gc,MA,mn,mc,FA,fn,fc,aS,_⟩:=h.blk;obtain⟨bM,cM,dT,bA⟩:=jc hs aq f bY;obtain⟨a8,am,aJ⟩:=aS.two;have a2:=ae (show oO U nk F b G d l n st code sites g B bB ln lc S br bE bw A m c w (.int .i64 0) w from
  ⟨0,b,l,V,T,n,st,code,sites,bB,ln,lc,S,br,bE,bw,rfl,ad,rfl,rfl,rfl,aU,hS,bj,bq,b0,cu,bG,h,Mv.refl _ _ _ _⟩)
 have b2:=ah h.names.1 h.names.2;clear hs aq aU hS bj f h bq b0 cu bG aS bY;go_enter func111,ntmps111;go_wp2;clear a8 am aJ;refine FF ef U nk F b G d l n st code sites g B bB ln lc S br bE bw A m c w bM cM dT bA fg e0 _ ?hQ ?hX _ a2.o
 case hQ=>exact λ_ _ d _ _ h=>by cases d<;>exact h
 case hX=>
  intro r wr e;unfold Fq at e
  iterate 240 obtain⟨_,e⟩:=e
  obtain⟨hI,i,rfl⟩:=e;obtain⟨k,rest,aM,aY,a7,aQ,ab,u,y,ba,aF,b8,Y,ag,an,a1,j,aj,be,a4,aE,aU,hS,bj,bq,b0,cu,bG,bO,hM⟩:=hI;have M:m=k:=by
   rw[j] at i;injection i with _ ac;omega
  subst M;clear a2 j i;obtain⟨bc,cx,L,eq,go,ez,c5,f0,cY,aS,_⟩:=bO.blk;have cf:rest.list=[]:=be▸Mc (by rw[bA.o];exact Lz _);obtain rfl:rest=.nil:=by cases rest<;>simp_all [al.list]
  have dR:dL b l n code=(u,aQ):=a4.symm;obtain⟨a8,am,aJ⟩:=aS.two;obtain⟨HA,eV⟩:=aH bO hM;clear bO hM aS;go_wp2;generalize hX:World.setCell _ _ _=X;obtain⟨eQ,dM⟩:=HA.EC b2.1 (b2.2.cT eV.o) hX;have fj:=eV.trans dM;clear a8 am aJ hX dM;rw[dR];refine bodyPost_end (v:=.tuple #[]) (by simp[results,Tryz.results111,go_sem]) rfl ?_;obtain rfl:ab=st+b.num:=by simp only[al.num] at aE;omega
  exact⟨rfl,Y,ag,an,a1,y,b0,eQ,fj⟩
theorem yM(ef:vE)(U:hW)(nk:Int)(F:List aG):∀b:al,lY U nk F b:=al.DV (C:=lY U nk F) λb aq=>wh ef U nk F b aq
theorem mT{α:Type}(f:α->ByteArray)(k:Int):∀(l:List α) (j i:Nat),(iJ f k l j)[i]?=(l[i]?).map λx=>⟨f x,k,((j+i:Nat):Int)⟩
 | [],j,i=>by simp[iJ]
 | x::l,j,0=>by simp[iJ]
 | x::l,j,i+1=>by
  rw[iJ,List.getElem?_cons_succ,List.getElem?_cons_succ,mT f k l (j+1) i,show j+1+i=j+(i+1) by omega]
theorem eH{α:Type}(f:α->ByteArray)(k:Int):∀(l:List α) (j:Nat),(iJ f k l j).length=l.length
 | [],_=>rfl
 | x::l,j=>by simp[iJ,eH f k l (j+1)]
theorem ld(p:bM):(bm p).length=p.globals.length+p.af.length+p.funcs.length:=by simp[bm,eH];omega
theorem FM{g:ByteArray×Int}(h:p.globals[i]?=some g):(bm p)[i]?=some ⟨g.1,1,(i:Int)⟩:=by
 have hl:=(List.getElem?_eq_some_iff.1 h).1;unfold bm;rw[List.getElem?_append_left (by simp[eH];omega),List.getElem?_append_left (by simp[eH];omega),mT,h];simp
theorem FN{m:bL}(h:p.af[i]?=some m):(bm p)[p.globals.length+i]?=some ⟨m.name,2,(i:Int)⟩:=by
 have hl:=(List.getElem?_eq_some_iff.1 h).1;unfold bm;rw[List.getElem?_append_left (by simp[eH];omega),List.getElem?_append_right (by simp[eH]),eH,mT,show p.globals.length+i - p.globals.length=i by omega,h];simp
theorem x3{f:aG}(h:p.funcs[i]?=some f):(bm p)[p.globals.length+p.af.length+i]?=some ⟨f.name,3,(i:Int)⟩:=by
 unfold bm;rw[List.getElem?_append_right (by simp[eH]),LD,eH,eH,mT,show p.globals.length+p.af.length+i - (p.globals.length+p.af.length)=i by omega,h];simp
theorem kP{L:List dQ}(hn:(L.map (·.name)).Nodup)(he:L[i]?=some e):dD (L.take i) e.name=none:=by
 refine j2 λj x bi hx=>?_;have m:j<i:=by have:=(List.getElem?_eq_some_iff.1 bi).1;simp at this;omega
 have g:L[j]?=some x:=by rw[<-bi,List.getElem?_take_of_lt m]
 have ac:(L.map (·.name))[j]?=some x.name:=by rw[List.getElem?_map,g];rfl
 have ax:(L.map (·.name))[i]?=some e.name:=by rw[List.getElem?_map,he];rfl
 have a1:=(List.getElem?_eq_some_iff.1 ac).1;have cE:=(List.getElem?_eq_some_iff.1 ax).1;rw[List.getElem?_eq_getElem a1] at ac;rw[List.getElem?_eq_getElem cE] at ax;injection ac with ac;injection ax with ax;have:=(List.getElem_inj hn).1 (ac.trans (hx.trans ax.symm));omega
theorem om(hp:pB p):((bm p).map (·.name)).Nodup:=by rw[gb];exact hp.nodup
def Ft(w:World)(p:bM)(e:Ending)(ab:World):Prop:=∃(bB:Mk) (lc:Nat),e=.returned (.tuple #[.slice bB (bm p).length lc,.int .i64 (-1)])/\Sl ab (fresh w ab) bB (bm p).length ((bm p).map bY)/\Ext w ab
theorem oa{k:Nat}(h:(bm p)[k]?=some e):((bm p).take (k+1)).map bY=((bm p).take k).map bY++[bY e]:=by rw[aU h,LJ];rfl
namespace Da
theorem dd{p:Prop}(h:p:=by
 generalize hV:World.drew (World.alloc _ _)=V;have T:=hh hV;have b5:ao V wr.heap.size 147 #[.string f.name,.int .i64 3,.int .i64 j]:=hV▸(Mh).drew;obtain⟨bP,aI⟩:=aH T b5;have a7:=ae (bj.trans T);have b9:=ae (bH.aj T);have al:=ae (bZ.aj T);have aV:=kP n.o d;have y:=al.sl (Q:=av V) (λb _ h=>h.elim) (λb _ h=>by assumption);clear hV T b5 c0 a4 a0 ak af;obtain⟨d0,aK,aO⟩:=aI.two;go_wp2_with(fail);refine(eg A (gn+mn+j) c _ f.name _ y ad).mono ?_;rintro e aP ⟨rfl,ar⟩
 try simp only at aV
 rw[aV];simp only[jg];have ba:=ae (a7.trans ar);have a3:=ae (b9.aj ar);have aD:=ae (al.aj ar);have i:=aI.aj ar;clear d0 aK aO ar y;go_upto_region 15 with(fail);generalize cq:World.alloc _ _=Y;have s:=aZ cq;have l:=i.aj s;have r:=ae (aD.aj s);have cd:=ae (ba.trans s);have cg:=ae (a3.aj s);clear cq i s;obtain⟨d0,aK,aO⟩:=l.two;have bl:=cd.size;have bu:=cg.lt;clear l;go_wp2_with((at_builtin;refine bI js rfl (.tmp 88) (.tmp 90) rfl r.o (j1 ⟨f.name,3,(j:Int)⟩) rfl rfl rfl ad ad ad ?_;intro A2 c2 aW an ay b1 cf));have aQ:Gr (λ_=>False) (w.heap.size+1) 147 3 aW A2 (gn+mn+j+1) c2 (((bm p).take (gn+mn+j+1)).map bY):=by rw[oa d];exact an
 have b7:Ext w aW:=Fr.low (M:=λb=>w.heap.size<=b) ((cd.mono λ_ h=>h.elim).trans (ay.mono λb O=>by have:=(r.lt O).1;omega)) λ_ h=>h;have be:=cg.on ay λO=>by have:=(r.lt O).1;omega
 have ca:=aA aQ b7 be;clear aQ b7 be an ay b1 d0 aK aO;go_wp2;go_roundw
 case rel=>exact⟨rfl,(gn+mn+j)+1,A2,c2,ad,by go_num,rfl,ca.o⟩
 case measure=>exact aE
 ):p:=h
theorem sP{p:Prop}(h:p:=by
 have n:=ae (om hp);obtain⟨I,eV,bT⟩:=eS aY hm J;have F:=ae (ld p);have cr:(bm p).length=gn+mn+fn:=by rw[ld,dq,lm,lf]
 have b2:=aA dq lm lf;clear h aY hm J hp dq lm lf;go_enter func69,ntmps69;go_upto_region 1 with(fail);generalize bd:World.alloc _ _=W;have aF:=aZ bd;have aS:=aN bd;obtain⟨bj,bH⟩:=aH aF aS;obtain⟨a0,ak,af⟩:=aS.two;clear bd aF aS;go_wp2;clear a0 ak af;go_loopw [4,5,7] (λgV bv cw wr=>bv=.int .i64 (-1)/\∃(k:Nat) (A:Mk) (c:Nat),k<=gn+mn+fn/\cw=.int .i64 k/\gV=.slice A k c/\Gr (λ_=>False) (w.heap.size+1) 147 3 wr A k c (((bm p).take k).map bY)/\Ext w wr/\ao wr w.heap.size 70 #[.slice GA gn gc,.slice MA mn mc,.slice FA fn fc]) (λ_ _ cw _=>gn+mn+fn - (intOf cw).toNat)
 case atStart=>exact⟨rfl,0,none,0,ad,rfl,rfl,Gr.nil _ _ _ _ _,bj.o,bH.o⟩
 case round=>
  obtain⟨rfl,k,A,c,aj,rfl,rfl,hG,aF,aS⟩:=hrel;clear bj bH;obtain⟨bZ,bj,bH⟩:=eS hG aF aS;obtain⟨a0,ak,af⟩:=aS.two;have ns:=aF.size;clear hG aF aS;by_cases ap:k<gn+mn+fn
  .by_cases ac:k<gn
   ·
    obtain⟨b,o,g,cs,rfl,O,hx,a9,bq,Z⟩:=(I.on (Fr.ext bj.o)).g9 pd ac;obtain rfl:=mQ.1 a9;have c0:=Z 0 _ rfl;simp only[LM] at c0;have a4:b<wr.heap.size:=O;have d:=FM hx;have q1:decide ((k:Int) - (gn:Int)<0)=true:=by first|(simp;done)|(simp;omega)
    clear a9 bq Z hx O;go_upto_region 14 with(fail);generalize hV:World.alloc _ _=V;have T:=aZ hV;have b5:=aN hV;obtain⟨bP,aI⟩:=aH T b5;have a7:=ae (bj.trans T);have b9:=ae (bH.aj T);have al:=ae (bZ.aj T);have aV:=kP n.o d;have y:=al.sl (Q:=av V) (λb _ h=>h.elim) (λb _ h=>by assumption);clear hV T b5 c0 a4 a0 ak af;obtain⟨d0,aK,aO⟩:=aI.two;go_wp2_with(fail);refine(eg A k c _ g.1 _ y ad).mono ?_;rintro e aP ⟨rfl,ar⟩
    try simp only at aV
    rw[aV];simp only[jg];have ba:=ae (a7.trans ar);have a3:=ae (b9.aj ar);have aD:=ae (al.aj ar);have i:=aI.aj ar;clear d0 aK aO ar y;go_upto_region 15 with(fail);generalize cq:World.alloc _ _=Y;have s:=aZ cq;have l:=i.aj s;have r:=ae (aD.aj s);have cd:=ae (ba.trans s);have cg:=ae (a3.aj s);clear cq i s;obtain⟨d0,aK,aO⟩:=l.two;have bl:=cd.size;have bu:=cg.lt;clear l;go_wp2_with((at_builtin;refine bI js rfl (.tmp 88) (.tmp 90) rfl r.o (j1 ⟨g.1,1,(k:Int)⟩) rfl rfl rfl ad ad ad ?_;intro A2 c2 aW an ay b1 cf));have aQ:Gr (λ_=>False) (w.heap.size+1) 147 3 aW A2 (k+1) c2 (((bm p).take (k+1)).map bY):=by rw[oa d];exact an
    have b7:Ext w aW:=Fr.low (M:=λb=>w.heap.size<=b) ((cd.mono λ_ h=>h.elim).trans (ay.mono λb O=>by have:=(r.lt O).1;omega)) λ_ h=>h;have be:=cg.on ay λO=>by have:=(r.lt O).1;omega
    have ca:=aA aQ b7 be;clear aQ b7 be an ay b1 d0 aK aO;go_wp2;go_roundw
    case rel=>exact⟨rfl,k+1,A2,c2,ad,by go_num,rfl,ca.o⟩
    case measure=>exact aE
   .by_cases ax:k - gn<mn
    ·
     obtain⟨b,o,m,cs,rfl,O,hx,a9,bq,Z⟩:=(eV.on (Fr.ext bj.o)).g9 s4 ax;obtain rfl:=fq.1 a9;have c0:=Z 0 _ rfl;simp only[LM] at c0;have a4:b<wr.heap.size:=O;have d:=FN hx;obtain⟨j,bi⟩:∃j,k=gn+j:=⟨k - gn,ad⟩
     subst bi;have fm:gn+j - gn=j:=ad;rw[fm] at c0 ax d hx;rw[b2.1] at d;have q:(gn:Int)+(j:Int) - (gn:Int)=(j:Int):=ad;have q1:decide ((j:Int)<0)=false:=by first|(simp;done)|(simp;omega)
     have cO:((j:Int)<(mn:Int)):=ad;clear a9 bq Z hx O;go_upto_region 14 with(fail);generalize hV:World.alloc _ _=V;have T:=aZ hV;have b5:=aN hV;obtain⟨bP,aI⟩:=aH T b5;have a7:=ae (bj.trans T);have b9:=ae (bH.aj T);have al:=ae (bZ.aj T);have aV:=kP n.o d;have y:=al.sl (Q:=av V) (λb _ h=>h.elim) (λb _ h=>by assumption);clear hV T b5 c0 a4 a0 ak af;obtain⟨d0,aK,aO⟩:=aI.two;go_wp2_with(fail);refine(eg A (gn+j) c _ m.name _ y ad).mono ?_;rintro e aP ⟨rfl,ar⟩
     try simp only at aV
     rw[aV];simp only[jg];have ba:=ae (a7.trans ar);have a3:=ae (b9.aj ar);have aD:=ae (al.aj ar);have i:=aI.aj ar;clear d0 aK aO ar y;go_upto_region 15 with(fail);generalize cq:World.alloc _ _=Y;have s:=aZ cq;have l:=i.aj s;have r:=ae (aD.aj s);have cd:=ae (ba.trans s);have cg:=ae (a3.aj s);clear cq i s;obtain⟨d0,aK,aO⟩:=l.two;have bl:=cd.size;have bu:=cg.lt;clear l;go_wp2_with((at_builtin;refine bI js rfl (.tmp 88) (.tmp 90) rfl r.o (j1 ⟨m.name,2,(j:Int)⟩) rfl rfl rfl ad ad ad ?_;intro A2 c2 aW an ay b1 cf));have aQ:Gr (λ_=>False) (w.heap.size+1) 147 3 aW A2 (gn+j+1) c2 (((bm p).take (gn+j+1)).map bY):=by rw[oa d];exact an
     have b7:Ext w aW:=Fr.low (M:=λb=>w.heap.size<=b) ((cd.mono λ_ h=>h.elim).trans (ay.mono λb O=>by have:=(r.lt O).1;omega)) λ_ h=>h;have be:=cg.on ay λO=>by have:=(r.lt O).1;omega
     have ca:=aA aQ b7 be;clear aQ b7 be an ay b1 d0 aK aO;go_wp2;go_roundw
     case rel=>exact⟨rfl,(gn+j)+1,A2,c2,ad,by go_num,rfl,ca.o⟩
     case measure=>exact aE
    ·
     have a1:k - gn - mn<fn:=ad;obtain⟨b,o,f,cs,rfl,O,hx,a9,bq,Z⟩:=(bT.on (Fr.ext bj.o)).g9 qa a1;obtain⟨PA,pn,pc,fD,bn,bc,rfl,_,_⟩:=kJ a9;have c0:=Z 0 _ rfl;simp only[LM] at c0;have a4:b<wr.heap.size:=O;have d:=x3 hx;obtain⟨j,bi⟩:∃j,k=gn+mn+j:=⟨k - gn - mn,ad⟩
     subst bi;have fm:gn+mn+j - gn - mn=j:=ad;rw[fm] at c0 a1 d hx;rw[b2.1,b2.2.1] at d;have q:(gn:Int)+(mn:Int)+(j:Int) - (gn:Int)=(mn:Int)+(j:Int):=ad;have aG:(mn:Int)+(j:Int) - (mn:Int)=(j:Int):=ad;have q1:decide ((mn:Int)+(j:Int)<0)=false:=by first|(simp;done)|(simp;omega)
     have cO:decide ((mn:Int)+(j:Int)<(mn:Int))=false:=by first|(simp;done)|(simp;omega)
     have u:IntKind.i64.wrap (j:Int)=j:=IntWalk.i64_in _ ad;clear a9 bq Z hx O;go_wp2;refine eK (λ_=>False) [(0,3),(1,0),(2,3),(3,3),(4,0),(5,3),(6,3),(7,3),(8,3),(9,0),(10,3),(11,3),(12,0),(13,3),(14,3),(15,3),(16,2)] ?_;refine pf ?_;refine ph ?_
     iterate 2 refine pf ?_
     refine ph ?_
     iterate 4 refine pf ?_
     refine ph ?_
     iterate 2 refine pf ?_
     refine ph ?_
     iterate 3 refine pf ?_
     exact eM
  .obtain rfl:gn+mn+fn=k:=ad;go_wp2
   go_ret2
   refine⟨A,c,by rw[cr];rfl,?_,bj.o⟩;have:=bZ.o;rw[LK ad] at this;rw[cr];exact this.sl (λb _ h=>h.elim) λb ac ax=>⟨ad,ac⟩
 ):p:=h
theorem vT{p:Prop}(h:p:=by
 exact sO
 ):p:=h
end Da
open Da in
theorem sZ(p:bM)(hp:pB p)(GA:Mk)(gn gc:Nat)(MA:Mk)(mn mc:Nat)(FA:Mk)(fn fc:Nat)(w:World)(h:hP w (av w) p GA gn MA mn FA fn) :
  Calls prog 69 #[.agg #[.slice GA gn gc,.slice MA mn mc,.slice FA fn fc]] w (Ft w p):=by
 exact vS
end Go.Proofs.YtflecliffjbleaaGreat

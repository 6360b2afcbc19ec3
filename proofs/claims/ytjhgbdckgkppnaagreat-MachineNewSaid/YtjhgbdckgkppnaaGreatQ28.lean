/- Part 28 of the proof (LoHz LoI), without conditions of its own. -/
import Derived.Test.YtjhgbdckgkppnaaGreatQ13
import Derived.Test.YtjhgbdckgkppnaaGreatQ27
namespace Go.Proofs.YtjhgbdckgkppnaaGreat
open Go.RowKit Go.Proofs.Tryz
set_option maxRecDepth 1000000
set_option maxHeartbeats 25600000
set_option linter.unusedVariables false
variable{i:Nat}{p:bC}{e:dw}
theorem Ad(cp:r6)(U:gu)(nk:Int)(F:List aG)(b:aj)(G:Env)(d:Nat)(l:List dw)(n:Int)(st:Nat)(code:List aC)(sites:List Int)(g B:Nat)(bj:GR)(ln lc:Nat)(aV:GR)(bX:Nat)(bI:GR)(bq:Nat)(A:GR)(m c:Nat)(w:World)(a8:GU (Sl w (off (Ms g (.slice aV code.length bX) (.slice bI sites.length bq)) w) A m (b.list.map aW)))(cW:GU (∀s∈b.list,kT U nk F s.th∧kT U nk F s.el))(eL:GU (∀f∈F,f.params.length≤1000))(bO:GU (b.list.length=m))(eN:m≤100000)(dA:st+b.num≤100000)(c6:Exit→Act→World→Prop)(hQ0:∀c a d v w,c6 (.panic c) (a.put d v) w→c6 (.panic c) a w)(i:∀I j,BC U nk F b G d l n st code sites g B bj ln lc aV bX bI bq A m c w I j→c6 (.exit 0) I j)
  (a:Act) (wr:World) (hI:me U nk F b G d l n st code sites g B bj ln lc aV bX bI bq A m c w a wr):Code.wp prog p5 (Exit.then (fun I j=>me U nk F b G d l n st code sites g B bj ln lc aV bX bI bq A m c w I j∧np m I j<np m a wr) c6) a wr:=by
 unfold me at hI
 iterate 240 obtain⟨_,hI⟩:=hI
 obtain⟨hI,rfl⟩:=hI;have e:=hI;obtain⟨k,rest,y,ab,aM,L,W,o,u,bn,av,cr,Y,an,aS,be,rfl,ap,aq,bd,bu,aJ,hS,bx,a1,ck,ce,bG,bb,a5⟩:=hI;by_cases ao:k<m
 ·suffices aT:BK rest from aT cp U nk F b G d l n st code sites g B bj ln lc aV bX bI bq A m c w a8 cW eL bO eN dA k y ab aM L W o u bn av cr Y an aS be wr ao aq bd bu aJ hS bx a1 ck ce bG bb a5 c6 hQ0
  cases rest with
  | nil=>
   exfalso;have:=congrArg List.length aq;simp[aj.list] at this;have:=bO.o
   omega
  | set v nm ex rest=>
   cases v
   ·exact BR rest nm ex
   ·exact BS rest nm ex
  | call c7 nm aO rest=>
   cases c7
   ·exact z9 rest nm aO
   ·exact Aa rest nm aO
  | lock un r rest=>
   cases un
   ·exact Ab rest r
   ·exact Ac rest r
  | ite ex th el rest=>
   cases J:el.isNil with
   | true=>exact BP rest ex th el J
   | false=>exact BO rest ex th el J
  | fj ex th rest=>exact D4 rest ex th
  | ret rest=>exact D3 rest
 ·obtain rfl:m=k:=ad;have aF:=ae e;clear e aq bd bu aJ hS bx a1 ck ce bG bb a5;conv=>arg 2;whnf
  go_wp2;unfold BC
  iterate 240 apply Exists.intro
  exact⟨aF.o,rfl,rfl⟩
theorem BQ(cp:r6)(U:gu)(nk:Int)(F:List aG)(b:aj)(G:Env)(d:Nat)(l:List dw)(n:Int)(st:Nat)(code:List aC)(sites:List Int)(g B:Nat)(bj:GR)(ln lc:Nat)(aV:GR)(bX:Nat)(bI:GR)(bq:Nat)(A:GR)(m c:Nat)(w:World)(a8:GU (Sl w (off (Ms g (.slice aV code.length bX) (.slice bI sites.length bq)) w) A m (b.list.map aW)))(cW:GU (∀s∈b.list,kT U nk F s.th∧kT U nk F s.el))(eL:GU (∀f∈F,f.params.length≤1000))(bO:GU (b.list.length=m))(eN:m≤100000)(dA:st+b.num≤100000)(c6:Exit→Act→World→Prop)(hQ0:∀c a d v w,c6 (.panic c) (a.put d v) w→c6 (.panic c) a w)(i:∀I j,BC U nk F b G d l n st code sites g B bj ln lc aV bX bI bq A m c w I j→c6 (.exit 0) I j)
  (wr:World) {gE gM E u8 gG eO gi gj b8 bi eP eQ eR eS eT eU eV eW eX eY eZ e3 e4 u32 e5 e6 e7 e8 e9 fa fb fd fe ff fh fi fj fk fl fm fo fp fq fr fs ft fu fv fw fx fy fz fA fB fC u64 fD fF fG fH fI fJ fK fL fM fN fO fP fQ fR fS fT fU fV fW fX fY fZ f0 f1 f2 f3 f6 f7 f8 f9 ga gb gd ge gf am aE aL aP a3 a4 a6 a7 bg bh bk bp br bs bt bz bC bL bY b0 b6 b7 ca cg ci cn cq ct cv cw cx cz cB cC cD cE cF cG cH cI cJ cK cL cM cN cO cP cQ cR cS cT cU cV cX cY cZ c5 c7 c8 c9 da db dc dd de df dg dh dj dk dl dm dn dp dq ds dt du dv dx dy dz dB dC dD dE dF dG dH dI dJ dK dL dM dO dP dQ dR dT dV dW dX dY dZ d0 d1 d2 d3 d4 d5 d6 d7 d9 ea eb ec ed ee ef eg ei ek el em en eo ep eq er es et eu ev ew ex ey ez eA eB eC eD eE eF eG eH eI eJ eK eM:Value} (hI:u1 U nk F b G d l n st code sites g B bj ln lc aV bX bI bq A m c w gE wr):Code.wp prog (Code.loop p5) c6 ⟨#[.pointer (some ⟨g,0,none⟩),.slice A m c,undef,undef,.slice bj ln lc,gE,gM,E,u8,gG,eO,gi,gj,b8,bi,.pointer (some ⟨g,0,none⟩),.pointer (some ⟨g,0,none⟩),.pointer (some ⟨g,3,none⟩),.slice bj ln lc,eP,eQ,eR,eS,eT,eU,eV,eW,eX,eY,eZ,e3,e4,u32,e5,e6,e7,e8,e9,fa,fb,fd,fe,ff,fh,fi,fj,fk,fl,fm,fo,fp,fq,fr,fs,ft,fu,fv,fw,fx,fy,fz,fA,fB,fC,u64,fD,fF,fG,fH,fI,fJ,fK,fL,fM,fN,fO,fP,fQ,fR,fS,fT,fU,fV,fW,fX,fY,fZ,f0,f1,f2,f3,f6,f7,f8,f9,ga,gb,gd,ge,gf,am,aE,aL,aP,a3,a4,a6,a7,bg,bh,bk,bp,br,bs,bt,bz,bC,bL,bY,b0,b6,b7,ca,cg,ci,cn,cq,ct,cv,cw,cx,cz,cB,cC,cD,cE,cF,cG,cH,cI,cJ,cK,cL,cM,cN,cO,cP,cQ,cR,cS,cT,cU,cV,cX,cY,cZ,c5,c7,c8,c9,da,db,dc,dd,de,df,dg,dh,dj,dk,dl,dm,dn,dp,dq,ds,dt,du,dv,dx,dy,dz,dB,dC,dD,dE,dF,dG,dH,dI,dJ,dK,dL,dM,dO,dP,dQ,dR,dT,dV,dW,dX,dY,dZ,d0,d1,d2,d3,d4,d5,d6,d7,d9,ea,eb,ec,ed,ee,ef,eg,ei,ek,el,em,en,eo,ep,eq,er,es,et,eu,ev,ew,ex,ey,ez,eA,eB,eC,eD,eE,eF,eG,eH,eI,eJ,eK,eM,undef,undef,undef,undef],[]⟩ wr:=by
 refine wp_loop (me U nk F b G d l n st code sites g B bj ln lc aV bX bI bq A m c w) (np m) ?_ (fun a j hI=>Ad cp U nk F b G d l n st code sites g B bj ln lc aV bX bI bq A m c w a8 cW eL bO eN dA c6 hQ0 i a j hI);unfold me
 iterate 240 apply Exists.intro
 exact⟨hI,rfl⟩
theorem sR(cp:r6)(U:gu)(nk:Int)(F:List aG)(b:aj)(aa:∀s∈b.list,kT U nk F s.th∧kT U nk F s.el):kT U nk F b:=by
 intro G d l V T n st code sites g B bj ln lc aV bX bI bq A m c w aJ hS bx i h hs a1 ck ce dA bG;have aC:b.list.length=m:=by rw[←hs.1,cq,Gf]
 have eN:m≤100000:=by have:=fT b;omega
 rw[cq] at hs;obtain⟨GA,gn,gc,MA,mn,mc,FA,fn,fc,aT,_⟩:=h.blk;have a8:=ae hs;have cW:=ae aa;have eL:=ae i;have bO:=ae aC;obtain⟨a7,am,aE⟩:=aT.two;have aZ:=ae (show u1 U nk F b G d l n st code sites g B bj ln lc aV bX bI bq A m c w (.int .i64 0) w from
  ⟨0,b,l,V,T,n,st,code,sites,bj,ln,lc,aV,bX,bI,bq,rfl,ad,rfl,rfl,rfl,aJ,hS,bx,a1,ck,ce,bG,h,Mv.refl _ _ _ _⟩)
 have b0:=ai h.names.1 h.names.2;clear hs aa aJ hS bx i h a1 ck ce bG aT aC;go_enter func106,ntmps106;go_wp2;clear a7 am aE;refine BQ cp U nk F b G d l n st code sites g B bj ln lc aV bX bI bq A m c w a8 cW eL bO eN dA _ ?aU ?ah _ aZ.o
 case aU=>exact fun _ _ d _ _ h=>by cases d<;>exact h
 case ah=>
  intro I wr e;unfold BC at e
  iterate 240 obtain⟨_,e⟩:=e
  obtain⟨hI,f,rfl⟩:=e;obtain⟨k,rest,y,ab,aM,L,W,o,u,bn,av,cr,Y,an,aS,be,j,ap,aq,bd,bu,aJ,hS,bx,a1,ck,ce,bG,bb,a5⟩:=hI;have R:m=k:=by
   rw[j] at f;injection f with _ ac;omega
  subst R;clear aZ j f;obtain⟨bc,bE,aN,cO,ea,cS,cj,dE,b6,aT,_⟩:=bb.blk;have b3:rest.list=[]:=aq▸GJ (by rw[bO.o];exact Gb _);obtain rfl:rest=.nil:=by cases rest<;>simp_all [aj.list]
  have d4:b2 b l n code=(o,L):=bd.symm;obtain⟨a7,am,aE⟩:=aT.two;have HA:=ae bb;have dr:=ae a5;clear bb a5 aT;go_wp2;generalize ah:World.setCell _ _ _=X;obtain⟨db,cX⟩:=HA.AS b0.1 (b0.2.ch dr.o) ah;have bZ:=dr.trans cX;clear a7 am aE ah cX;rw[d4];refine bodyPost_end (v:=.tuple #[]) (by simp[results,Tryz.results106,go_sem]) rfl ?_;obtain rfl:W=st+b.num:=by simp only[aj.num] at bu;omega
  exact⟨rfl,Y,an,aS,be,u,ck,db,bZ⟩
theorem u9(cp:r6)(U:gu)(nk:Int)(F:List aG):∀b:aj,kT U nk F b:=aj.Ae (C:=kT U nk F) fun b aa=>sR cp U nk F b aa
theorem k7{α:Type}(f:α→ByteArray)(k:Int):∀(l:List α) (j i:Nat),(hr f k l j)[i]?=(l[i]?).map fun x=>⟨f x,k,((j+i:Nat):Int)⟩
 | [],j,i=>by simp[hr]
 | x::l,j,0=>by simp[hr]
 | x::l,j,i+1=>by
  rw[hr,List.getElem?_cons_succ,List.getElem?_cons_succ,k7 f k l (j+1) i,show j+1+i=j+(i+1) by omega]
theorem dZ{α:Type}(f:α→ByteArray)(k:Int):∀(l:List α) (j:Nat),(hr f k l j).length=l.length
 | [],_=>rfl
 | x::l,j=>by simp[hr,dZ f k l (j+1)]
theorem jT(p:bC):(bf p).length=p.globals.length+p.af.length+p.funcs.length:=by simp[bf,dZ];omega
theorem BU{g:ByteArray×Int}(h:p.globals[i]?=some g):(bf p)[i]?=some ⟨g.1,1,(i:Int)⟩:=by
 have hl:=(List.getElem?_eq_some_iff.1 h).1;unfold bf;rw[List.getElem?_append_left (by simp[dZ];omega),List.getElem?_append_left (by simp[dZ];omega),k7,h];simp
theorem BV{m:bF}(h:p.af[i]?=some m):(bf p)[p.globals.length+i]?=some ⟨m.name,2,(i:Int)⟩:=by
 have hl:=(List.getElem?_eq_some_iff.1 h).1;unfold bf;rw[List.getElem?_append_left (by simp[dZ];omega),List.getElem?_append_right (by simp[dZ]),dZ,k7,show p.globals.length+i - p.globals.length=i by omega,h];simp
theorem uB{f:aG}(h:p.funcs[i]?=some f):(bf p)[p.globals.length+p.af.length+i]?=some ⟨f.name,3,(i:Int)⟩:=by
 unfold bf;rw[List.getElem?_append_right (by simp[dZ]),Gd,dZ,dZ,k7,show p.globals.length+p.af.length+i - (p.globals.length+p.af.length)=i by omega,h];simp
theorem jD{L:List dw}(hn:(L.map (·.name)).Nodup)(he:L[i]?=some e):dh (L.take i) e.name=none:=by
 refine iW fun j x ba hx=>?_;have G:j<i:=by have:=(List.getElem?_eq_some_iff.1 ba).1;simp at this;omega
 have f:L[j]?=some x:=by rw[←ba,List.getElem?_take_of_lt G]
 have ac:(L.map (·.name))[j]?=some x.name:=by rw[List.getElem?_map,f];rfl
 have J:(L.map (·.name))[i]?=some e.name:=by rw[List.getElem?_map,he];rfl
 have a5:=(List.getElem?_eq_some_iff.1 ac).1;have cq:=(List.getElem?_eq_some_iff.1 J).1;rw[List.getElem?_eq_getElem a5] at ac;rw[List.getElem?_eq_getElem cq] at J;injection ac with ac;injection J with J;have:=(List.getElem_inj hn).1 (ac.trans (hx.trans J.symm));omega
theorem mh(hp:mU p):((bf p).map (·.name)).Nodup:=by rw[e5];exact hp.nodup
def BE(w:World)(p:bC)(e:Ending)(ab:World):Prop:=∃(bj:GR) (lc:Nat),e=.returned (.tuple #[.slice bj (bf p).length lc,.int .i64 (-1)])∧Sl ab (fresh w ab) bj (bf p).length ((bf p).map bN)∧Ext w ab
theorem l9{k:Nat}(h:(bf p)[k]?=some e):((bf p).take (k+1)).map bN=((bf p).take k).map bN++[bN e]:=by rw[bo h,Gi];rfl
namespace y0
theorem di{p:Prop}(h:p:=by
 generalize hV:World.drew (World.alloc _ _)=V;have t:Ext wr V:=hV▸(GN.alloc _).drew;have bP:ag V wr.heap.size 149 #[.string f.name,.int .i64 3,.int .i64 j]:=hV▸(GO).drew;have bs:=ae t;have aZ:=ae bP;have aW:=ae (bh.trans t);have bk:=ae (a4.al t);have P:=ae (bQ.al t);have ay:=jD q.o d;have ck:=P.sl (Q:=au V) (fun b _ h=>h.elim) (fun b _ h=>by assumption);clear hV t bP c0 aN a0 al af;obtain⟨a6,aL,aP⟩:=aZ.two;go_wp2_with (fail);refine(c8 A (gn+mn+j) c _ f.name _ ck ad).mono ?_;rintro e aH ⟨rfl,ar⟩
 try simp only at ay
 rw[ay];simp only[gM];have b6:=ae (aW.trans ar);have bK:=ae (bk.al ar);have az:=ae (P.al ar);have i:=aZ.al ar;clear a6 aL aP ar ck;go_upto_region 15 with(fail);generalize cb:World.alloc _ _=Y;have s:Ext aH Y:=cb▸GN.alloc _;have n:=i.al s;have z:=ae (az.al s);have cu:=ae (b6.trans s);have b7:=ae (bK.al s);clear cb i s;obtain⟨a6,aL,aP⟩:=n.two;have cF:=cu.size;have u:=b7.lt;clear n;go_wp2_with ((at_builtin;refine bS ib rfl (.tmp 88) (.tmp 90) rfl z.o (iV ⟨f.name,3,(j:Int)⟩) rfl rfl rfl ad ad ad ?_;intro A2 c2 aQ an aq b3 ce));have y:Gr (fun _=>False) (w.heap.size+1) 149 3 aQ A2 (gn+mn+j+1) c2 (((bf p).take (gn+mn+j+1)).map bN):=by rw[l9 d];exact an
 have cj:Ext w aQ:=Fr.low (M:=fun b=>w.heap.size≤b) ((cu.mono fun _ h=>h.elim).trans (aq.mono fun b O=>by have:=(z.lt O).1;omega)) fun _ h=>h;have ca:=b7.on aq fun O=>by have:=(z.lt O).1;omega
 have bB:=aK y cj ca;clear y cj ca an aq b3 a6 aL aP;go_wp2;go_roundw
 case rel=>exact⟨rfl,(gn+mn+j)+1,A2,c2,ad,by go_num,rfl,bB.o⟩
 case measure=>simp[intOf];omega
 ):p:=h
theorem gB{p:Prop}(h:p:=by
 have aT:ag W w.heap.size 27 #[.slice GA gn gc,.slice MA mn mc,.slice FA fn fc]:=bg▸GO;have bh:=ae av;have a4:=ae aT;obtain⟨a0,al,af⟩:=aT.two;clear bg av aT;go_wp2;clear a0 al af;go_loopw [4,5,7] (fun gW bv cp wr=>bv=.int .i64 (-1)∧∃(k:Nat) (A:GR) (c:Nat),k≤gn+mn+fn∧cp=.int .i64 k∧gW=.slice A k c∧Gr (fun _=>False) (w.heap.size+1) 149 3 wr A k c (((bf p).take k).map bN)∧Ext w wr∧ag wr w.heap.size 27 #[.slice GA gn gc,.slice MA mn mc,.slice FA fn fc]) (fun _ _ cp _=>gn+mn+fn - (intOf cp).toNat)
 case atStart=>exact⟨rfl,0,none,0,ad,rfl,rfl,Gr.nil _ _ _ _ _,bh.o,a4.o⟩
 case round=>
  obtain⟨rfl,k,A,c,ap,rfl,rfl,bR,av,aT⟩:=hrel;clear bh a4;have bQ:=ae bR;have bh:=ae av;have a4:=ae aT;obtain⟨a0,al,af⟩:=aT.two;have b9:=av.size;clear bR av aT;by_cases ao:k<gn+mn+fn
  ·by_cases ac:k<gn
   ·
    obtain⟨b,o,g,cs,rfl,O,hx,aX,a1,Z⟩:=(cK.on (Fr.ext bh.o)).fJ m0 ac;obtain rfl:=k5.1 aX;have c0:=Z 0 _ rfl;simp only[Gl] at c0;have aN:b<wr.heap.size:=O;have d:=BU hx;have co:decide ((k:Int) - (gn:Int)<0)=true:=by first|(simp;done)|(simp;omega)
    clear aX a1 Z hx O;go_upto_region 14 with(fail);generalize hV:World.alloc _ _=V;have t:Ext wr V:=hV▸GN.alloc _;have bP:ag V wr.heap.size 149 #[.string g.1,.int .i64 1,.int .i64 k]:=hV▸GO;have bs:=ae t;have aZ:=ae bP;have aW:=ae (bh.trans t);have bk:=ae (a4.al t);have P:=ae (bQ.al t);have ay:=jD q.o d;have ck:=P.sl (Q:=au V) (fun b _ h=>h.elim) (fun b _ h=>by assumption);clear hV t bP c0 aN a0 al af;obtain⟨a6,aL,aP⟩:=aZ.two;go_wp2_with (fail);refine(c8 A k c _ g.1 _ ck ad).mono ?_;rintro e aH ⟨rfl,ar⟩
    try simp only at ay
    rw[ay];simp only[gM];have b6:=ae (aW.trans ar);have bK:=ae (bk.al ar);have az:=ae (P.al ar);have i:=aZ.al ar;clear a6 aL aP ar ck;go_upto_region 15 with(fail);generalize cb:World.alloc _ _=Y;have s:Ext aH Y:=cb▸GN.alloc _;have n:=i.al s;have z:=ae (az.al s);have cu:=ae (b6.trans s);have b7:=ae (bK.al s);clear cb i s;obtain⟨a6,aL,aP⟩:=n.two;have cF:=cu.size;have u:=b7.lt;clear n;go_wp2_with ((at_builtin;refine bS ib rfl (.tmp 88) (.tmp 90) rfl z.o (iV ⟨g.1,1,(k:Int)⟩) rfl rfl rfl ad ad ad ?_;intro A2 c2 aQ an aq b3 ce));have y:Gr (fun _=>False) (w.heap.size+1) 149 3 aQ A2 (k+1) c2 (((bf p).take (k+1)).map bN):=by rw[l9 d];exact an
    have cj:Ext w aQ:=Fr.low (M:=fun b=>w.heap.size≤b) ((cu.mono fun _ h=>h.elim).trans (aq.mono fun b O=>by have:=(z.lt O).1;omega)) fun _ h=>h;have ca:=b7.on aq fun O=>by have:=(z.lt O).1;omega
    have bB:=aK y cj ca;clear y cj ca an aq b3 a6 aL aP;go_wp2;go_roundw
    case rel=>exact⟨rfl,k+1,A2,c2,ad,by go_num,rfl,bB.o⟩
    case measure=>simp[intOf];omega
   ·by_cases J:k - gn<mn
    ·
     obtain⟨b,o,m,cs,rfl,O,hx,aX,a1,Z⟩:=(dr.on (Fr.ext bh.o)).fJ qd J;obtain rfl:=ez.1 aX;have c0:=Z 0 _ rfl;simp only[Gl] at c0;have aN:b<wr.heap.size:=O;have d:=BV hx;obtain⟨j,ba⟩:∃j,k=gn+j:=⟨k - gn,ad⟩
     subst ba;have gl:gn+j - gn=j:=ad;rw[gl] at c0 J d hx;rw[b0.1] at d;have r:(gn:Int)+(j:Int) - (gn:Int)=(j:Int):=ad;have co:decide ((j:Int)<0)=false:=by first|(simp;done)|(simp;omega)
     have ej:((j:Int)<(mn:Int)):=ad;clear aX a1 Z hx O;go_upto_region 14 with(fail);generalize hV:World.alloc _ _=V;have t:Ext wr V:=hV▸GN.alloc _;have bP:ag V wr.heap.size 149 #[.string m.name,.int .i64 2,.int .i64 j]:=hV▸GO;have bs:=ae t;have aZ:=ae bP;have aW:=ae (bh.trans t);have bk:=ae (a4.al t);have P:=ae (bQ.al t);have ay:=jD q.o d;have ck:=P.sl (Q:=au V) (fun b _ h=>h.elim) (fun b _ h=>by assumption);clear hV t bP c0 aN a0 al af;obtain⟨a6,aL,aP⟩:=aZ.two;go_wp2_with (fail);refine(c8 A (gn+j) c _ m.name _ ck ad).mono ?_;rintro e aH ⟨rfl,ar⟩
     try simp only at ay
     rw[ay];simp only[gM];have b6:=ae (aW.trans ar);have bK:=ae (bk.al ar);have az:=ae (P.al ar);have i:=aZ.al ar;clear a6 aL aP ar ck;go_upto_region 15 with(fail);generalize cb:World.alloc _ _=Y;have s:Ext aH Y:=cb▸GN.alloc _;have n:=i.al s;have z:=ae (az.al s);have cu:=ae (b6.trans s);have b7:=ae (bK.al s);clear cb i s;obtain⟨a6,aL,aP⟩:=n.two;have cF:=cu.size;have u:=b7.lt;clear n;go_wp2_with ((at_builtin;refine bS ib rfl (.tmp 88) (.tmp 90) rfl z.o (iV ⟨m.name,2,(j:Int)⟩) rfl rfl rfl ad ad ad ?_;intro A2 c2 aQ an aq b3 ce));have y:Gr (fun _=>False) (w.heap.size+1) 149 3 aQ A2 (gn+j+1) c2 (((bf p).take (gn+j+1)).map bN):=by rw[l9 d];exact an
     have cj:Ext w aQ:=Fr.low (M:=fun b=>w.heap.size≤b) ((cu.mono fun _ h=>h.elim).trans (aq.mono fun b O=>by have:=(z.lt O).1;omega)) fun _ h=>h;have ca:=b7.on aq fun O=>by have:=(z.lt O).1;omega
     have bB:=aK y cj ca;clear y cj ca an aq b3 a6 aL aP;go_wp2;go_roundw
     case rel=>exact⟨rfl,(gn+j)+1,A2,c2,ad,by go_num,rfl,bB.o⟩
     case measure=>simp[intOf];omega
    ·
     have aS:k - gn - mn<fn:=ad;obtain⟨b,o,f,cs,rfl,O,hx,aX,a1,Z⟩:=(bW.on (Fr.ext bh.o)).fJ nR aS;obtain⟨PA,pn,pc,f4,bn,bc,rfl,_,_⟩:=jy aX;have c0:=Z 0 _ rfl;simp only[Gl] at c0;have aN:b<wr.heap.size:=O;have d:=uB hx;obtain⟨j,ba⟩:∃j,k=gn+mn+j:=⟨k - gn - mn,ad⟩
     subst ba;have gl:gn+mn+j - gn - mn=j:=ad;rw[gl] at c0 aS d hx;rw[b0.1,b0.2.1] at d;have r:(gn:Int)+(mn:Int)+(j:Int) - (gn:Int)=(mn:Int)+(j:Int):=ad;have cd:(mn:Int)+(j:Int) - (mn:Int)=(j:Int):=ad;have co:decide ((mn:Int)+(j:Int)<0)=false:=by first|(simp;done)|(simp;omega)
     have ej:decide ((mn:Int)+(j:Int)<(mn:Int))=false:=by first|(simp;done)|(simp;omega)
     have v:IntKind.i64.wrap (j:Int)=j:=IntWalk.i64_in _ ad;clear aX a1 Z hx O;go_wp2;refine eh (fun _=>False) [(0,3),(1,0),(2,3),(3,3),(4,0),(5,3),(6,3),(7,3),(8,3),(9,0),(10,3),(11,3),(12,0),(13,3),(14,3),(15,3),(16,2)] ?_;refine pf ?_;refine ph ?_
     iterate 2 refine pf ?_
     refine ph ?_
     iterate 4 refine pf ?_
     refine ph ?_
     iterate 2 refine pf ?_
     refine ph ?_
     iterate 3 refine pf ?_
     exact dN
  ·obtain rfl:gn+mn+fn=k:=ad;go_wp2
   go_ret2
   refine⟨A,c,by rw[cR];rfl,?_,bh.o⟩;have:=bQ.o;rw[Gj ad] at this;rw[cR];exact this.sl (fun b _ h=>h.elim) fun b ac J=>⟨ad,ac⟩
 ):p:=h
theorem pY{p:Prop}(h:p:=by
 have q:=ae (mh hp);have cK:=ae aM;have dr:=ae hm;have bW:=ae aw;have l:=ae (jT p);have cR:(bf p).length=gn+mn+fn:=by rw[jT,dA,lm,lf]
 have b0:=aK dA lm lf;clear h aM hm aw hp dA lm lf;go_enter func76,ntmps76;exact gA
 ):p:=h
theorem sn{p:Prop}(h:p:=by
 exact pX
 ):p:=h
end y0
open y0 in
theorem qb(p:bC)(hp:mU p)(GA:GR)(gn gc:Nat)(MA:GR)(mn mc:Nat)(FA:GR)(fn fc:Nat)(w:World)(h:gr w (au w) p GA gn MA mn FA fn) :
  Calls prog 76 #[.agg #[.slice GA gn gc,.slice MA mn mc,.slice FA fn fc]] w (BE w p):=by
 exact sk
end Go.Proofs.YtjhgbdckgkppnaaGreat

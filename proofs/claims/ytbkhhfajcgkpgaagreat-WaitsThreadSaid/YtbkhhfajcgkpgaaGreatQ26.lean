/- Part 26 of the proof. No condition of its own. -/
import Derived.Test.YtbkhhfajcgkpgaaGreatQ14
import Derived.Test.YtbkhhfajcgkpgaaGreatQ25
namespace Go.Proofs.YtbkhhfajcgkpgaaGreat
open Go.RowKit Go.Proofs.Tryz
set_option maxRecDepth 1000000
set_option maxHeartbeats 25600000
set_option linter.unusedVariables false
variable{i:Nat}{p:bB}{e:dz}
theorem Cm(dA:uG)(U:g4)(nk:Int)(F:List az)(b:al)(G:Env)(d:Nat)(l:List dz)(n:Int)(st:Nat)(code:List ay)(sites:List Int)(g B:Nat)(bj:Kr)(ln lc:Nat)(bI:Kr)(bO:Nat)(bp:Kr)(a7:Nat)(A:Kr)(m c:Nat)(w:World)(bu:Kt (Sl w (off (Ms g (.slice bI code.length bO) (.slice bp sites.length a7)) w) A m (b.list.map a2)))(b9:Kt (∀s∈b.list,lq U nk F s.th∧lq U nk F s.el))(dL:Kt (∀f∈F,f.params.length≤1000))(b8:Kt (b.list.length=m))(eL:m≤100000)(eI:st+b.num≤100000)(dc:Exit→Act→World→Prop)(hQ0:∀c a d v w,dc (.panic c) (a.put d v) w→dc (.panic c) a w)(t:∀r j,DO U nk F b G d l n st code sites g B bj ln lc bI bO bp a7 A m c w r j→dc (.exit 0) r j)
  (a:Act) (wr:World) (hI:iC U nk F b G d l n st code sites g B bj ln lc bI bO bp a7 A m c w a wr):Code.wp prog r5 (Exit.then (fun r j=>iC U nk F b G d l n st code sites g B bj ln lc bI bO bp a7 A m c w r j∧jd m r j<jd m a wr) dc) a wr:=by
 unfold iC at hI
 iterate 240 obtain⟨_,hI⟩:=hI
 obtain⟨hI,rfl⟩:=hI;have e:=hI;obtain⟨k,rest,aV,ac,aJ,aZ,z,o,u,aY,aF,bg,J,Y,an,aB,rfl,aj,bA,aW,W,S,hS,bn,a3,bT,bB,be,bk,hM⟩:=hI;by_cases aw:k<m
 ·suffices aL:BK rest from aL dA U nk F b G d l n st code sites g B bj ln lc bI bO bp a7 A m c w bu b9 dL b8 eL eI k aV ac aJ aZ z o u aY aF bg J Y an aB wr aw bA aW W S hS bn a3 bT bB be bk hM dc hQ0
  exact Gl rest
 ·obtain rfl:m=k:=ab;have au:=ad e;clear e bA aW W S hS bn a3 bT bB be bk hM;conv=>arg 2;whnf
  go_wp2;unfold DO
  iterate 240 apply Exists.intro
  exact⟨au.o,rfl,rfl⟩
theorem DZ(dA:uG)(U:g4)(nk:Int)(F:List az)(b:al)(G:Env)(d:Nat)(l:List dz)(n:Int)(st:Nat)(code:List ay)(sites:List Int)(g B:Nat)(bj:Kr)(ln lc:Nat)(bI:Kr)(bO:Nat)(bp:Kr)(a7:Nat)(A:Kr)(m c:Nat)(w:World)(bu:Kt (Sl w (off (Ms g (.slice bI code.length bO) (.slice bp sites.length a7)) w) A m (b.list.map a2)))(b9:Kt (∀s∈b.list,lq U nk F s.th∧lq U nk F s.el))(dL:Kt (∀f∈F,f.params.length≤1000))(b8:Kt (b.list.length=m))(eL:m≤100000)(eI:st+b.num≤100000)(dc:Exit→Act→World→Prop)(hQ0:∀c a d v w,dc (.panic c) (a.put d v) w→dc (.panic c) a w)(t:∀r j,DO U nk F b G d l n st code sites g B bj ln lc bI bO bp a7 A m c w r j→dc (.exit 0) r j)
  (wr:World) {gC gJ Z u8 gF eH cc gd ax bL eJ eK eM eP eQ eR eS eT eU eV eW eX eY u32 e3 e5 e6 e7 e8 e9 fa fb fd fe ff fh fi fj fk fl fm fo fp fq fr fs ft fu fv fw fx fy fz fA fB u64 fC fD fE fF fG fH fI fL fM fN fO fP fQ fR fS fT fU fV fW fX fY fZ f3 f4 f5 f6 f7 f8 f9 ga gb ge gf gg gh H ag aI aR a6 a9 bf bh bi bo bx bK bP bQ bY bZ b1 b2 b3 cb cd cj ck cm co cp cq cr ct cu cv cx cy cz cA cC cD cE cF cG cH cI cJ cK cL cM cN cO cP cQ cR cS cT cU cV cW cX cY cZ c4 c5 c6 c7 c8 c9 da db dd de dg dh di dj dk dl dm dn dp dq dr ds dt du dx dy dB dC dD dE dF dG dH dI dJ dK dM dN dO dP dQ dR dS dT dU dV dX dY dZ d0 d1 d2 d3 d4 d5 d6 d7 d8 d9 ea eb ec ed ee ef eg eh ei ej ek el em en eo ep eq er es et eu ev ew ex ey ez eA eB eC eF eG:Value} (hI:nV U nk F b G d l n st code sites g B bj ln lc bI bO bp a7 A m c w gC wr):Code.wp prog (Code.loop r5) dc ⟨#[.pointer (some ⟨g,0,none⟩),.slice A m c,undef,undef,.slice bj ln lc,gC,gJ,Z,u8,gF,eH,cc,gd,ax,bL,.pointer (some ⟨g,0,none⟩),.pointer (some ⟨g,0,none⟩),.pointer (some ⟨g,3,none⟩),.slice bj ln lc,eJ,eK,eM,eP,eQ,eR,eS,eT,eU,eV,eW,eX,eY,u32,e3,e5,e6,e7,e8,e9,fa,fb,fd,fe,ff,fh,fi,fj,fk,fl,fm,fo,fp,fq,fr,fs,ft,fu,fv,fw,fx,fy,fz,fA,fB,u64,fC,fD,fE,fF,fG,fH,fI,fL,fM,fN,fO,fP,fQ,fR,fS,fT,fU,fV,fW,fX,fY,fZ,f3,f4,f5,f6,f7,f8,f9,ga,gb,ge,gf,gg,gh,H,ag,aI,aR,a6,a9,bf,bh,bi,bo,bx,bK,bP,bQ,bY,bZ,b1,b2,b3,cb,cd,cj,ck,cm,co,cp,cq,cr,ct,cu,cv,cx,cy,cz,cA,cC,cD,cE,cF,cG,cH,cI,cJ,cK,cL,cM,cN,cO,cP,cQ,cR,cS,cT,cU,cV,cW,cX,cY,cZ,c4,c5,c6,c7,c8,c9,da,db,dd,de,dg,dh,di,dj,dk,dl,dm,dn,dp,dq,dr,ds,dt,du,dx,dy,dB,dC,dD,dE,dF,dG,dH,dI,dJ,dK,dM,dN,dO,dP,dQ,dR,dS,dT,dU,dV,dX,dY,dZ,d0,d1,d2,d3,d4,d5,d6,d7,d8,d9,ea,eb,ec,ed,ee,ef,eg,eh,ei,ej,ek,el,em,en,eo,ep,eq,er,es,et,eu,ev,ew,ex,ey,ez,eA,eB,eC,eF,eG,undef,undef,undef,undef],[]⟩ wr:=by
 refine wp_loop (iC U nk F b G d l n st code sites g B bj ln lc bI bO bp a7 A m c w) (jd m) ?_ (fun a j hI=>Cm dA U nk F b G d l n st code sites g B bj ln lc bI bO bp a7 A m c w bu b9 dL b8 eL eI dc hQ0 t a j hI);unfold iC
 iterate 240 apply Exists.intro
 exact⟨hI,rfl⟩
theorem ve(dA:uG)(U:g4)(nk:Int)(F:List az)(b:al)(ao:∀s∈b.list,lq U nk F s.th∧lq U nk F s.el):lq U nk F b:=by
 intro G d l V T n st code sites g B bj ln lc bI bO bp a7 A m c w S hS bn i h hs a3 bT bB eI be;have ay:b.list.length=m:=by rw[←hs.1,cx,JU]
 have eL:m≤100000:=by have:=gw b;omega
 rw[cx] at hs;obtain⟨GA,gn,gc,MA,mn,mc,FA,fn,fc,aL,_⟩:=h.blk;obtain⟨bu,b9,dL,b8⟩:=iF hs ao i ay;obtain⟨a6,am,aI⟩:=aL.two;have aX:=ad (show nV U nk F b G d l n st code sites g B bj ln lc bI bO bp a7 A m c w (.int .i64 0) w from
  ⟨0,b,l,V,T,n,st,code,sites,bj,ln,lc,bI,bO,bp,a7,rfl,ab,rfl,rfl,rfl,S,hS,bn,a3,bT,bB,be,h,Mv.refl _ _ _ _⟩)
 have bK:=ai h.names.1 h.names.2;clear hs ao S hS bn i h a3 bT bB be aL ay;go_enter func115,ntmps115;go_wp2;clear a6 am aI;refine DZ dA U nk F b G d l n st code sites g B bj ln lc bI bO bp a7 A m c w bu b9 dL b8 eL eI _ ?hQ ?hX _ aX.o
 case hQ=>exact fun _ _ d _ _ h=>by cases d<;>exact h
 case hX=>
  intro r wr e;unfold DO at e
  iterate 240 obtain⟨_,e⟩:=e
  obtain⟨hI,f,rfl⟩:=e;obtain⟨k,rest,aV,ac,aJ,aZ,z,o,u,aY,aF,bg,J,Y,an,aB,j,aj,bA,aW,W,S,hS,bn,a3,bT,bB,be,bk,hM⟩:=hI;have H:m=k:=by
   rw[j] at f;injection f with _ ae;omega
  subst H;clear aX j f;obtain⟨ee,cg,bw,eh,gj,er,cR,fU,cM,aL,_⟩:=bk.blk;have b6:rest.list=[]:=bA▸Kj (by rw[b8.o];exact JQ _);obtain rfl:rest=.nil:=by cases rest<;>simp_all [al.list]
  have dQ:dw b l n code=(o,aZ):=aW.symm;obtain⟨a6,am,aI⟩:=aL.two;obtain⟨HA,dv⟩:=aM bk hM;clear bk hM aL;go_wp2;generalize hX:World.setCell _ _ _=X;obtain⟨eM,dI⟩:=HA.C1 bK.1 (bK.2.cG dv.o) hX;have fd:=dv.trans dI;clear a6 am aI hX dI;rw[dQ];refine bodyPost_end (v:=.tuple #[]) (by simp[results,Tryz.results115,go_sem]) rfl ?_;obtain rfl:z=st+b.num:=by simp only[al.num] at W;omega
  exact⟨rfl,J,Y,an,aB,u,bT,eM,fd⟩
theorem xD(dA:uG)(U:g4)(nk:Int)(F:List az):∀b:al,lq U nk F b:=al.Cn (C:=lq U nk F) fun b ao=>ve dA U nk F b ao
theorem mh{α:Type}(f:α→ByteArray)(k:Int):∀(l:List α) (j i:Nat),(h9 f k l j)[i]?=(l[i]?).map fun x=>⟨f x,k,((j+i:Nat):Int)⟩
 | [],j,i=>by simp[h9]
 | x::l,j,0=>by simp[h9]
 | x::l,j,i+1=>by
  rw[h9,List.getElem?_cons_succ,List.getElem?_cons_succ,mh f k l (j+1) i,show j+1+i=j+(i+1) by omega]
theorem ek{α:Type}(f:α→ByteArray)(k:Int):∀(l:List α) (j:Nat),(h9 f k l j).length=l.length
 | [],_=>rfl
 | x::l,j=>by simp[h9,ek f k l (j+1)]
theorem kJ(p:bB):(ba p).length=p.globals.length+p.ae.length+p.funcs.length:=by simp[ba,ek];omega
theorem D6{g:ByteArray×Int}(h:p.globals[i]?=some g):(ba p)[i]?=some ⟨g.1,1,(i:Int)⟩:=by
 have hl:=(List.getElem?_eq_some_iff.1 h).1;unfold ba;rw[List.getElem?_append_left (by simp[ek];omega),List.getElem?_append_left (by simp[ek];omega),mh,h];simp
theorem D7{m:bA}(h:p.ae[i]?=some m):(ba p)[p.globals.length+i]?=some ⟨m.name,2,(i:Int)⟩:=by
 have hl:=(List.getElem?_eq_some_iff.1 h).1;unfold ba;rw[List.getElem?_append_left (by simp[ek];omega),List.getElem?_append_right (by simp[ek]),ek,mh,show p.globals.length+i - p.globals.length=i by omega,h];simp
theorem w3{f:az}(h:p.funcs[i]?=some f):(ba p)[p.globals.length+p.ae.length+i]?=some ⟨f.name,3,(i:Int)⟩:=by
 unfold ba;rw[List.getElem?_append_right (by simp[ek]),JS,ek,ek,mh,show p.globals.length+p.ae.length+i - (p.globals.length+p.ae.length)=i by omega,h];simp
theorem kp{L:List dz}(hn:(L.map (·.name)).Nodup)(he:L[i]?=some e):dk (L.take i) e.name=none:=by
 refine jI fun j x bc hx=>?_;have m:j<i:=by have:=(List.getElem?_eq_some_iff.1 bc).1;simp at this;omega
 have g:L[j]?=some x:=by rw[←bc,List.getElem?_take_of_lt m]
 have ae:(L.map (·.name))[j]?=some x.name:=by rw[List.getElem?_map,g];rfl
 have aC:(L.map (·.name))[i]?=some e.name:=by rw[List.getElem?_map,he];rfl
 have aT:=(List.getElem?_eq_some_iff.1 ae).1;have aM:=(List.getElem?_eq_some_iff.1 aC).1;rw[List.getElem?_eq_getElem aT] at ae;rw[List.getElem?_eq_getElem aM] at aC;injection ae with ae;injection aC with aC;have:=(List.getElem_inj hn).1 (ae.trans (hx.trans aC.symm));omega
theorem ny(hp:oE p):((ba p).map (·.name)).Nodup:=by rw[fA];exact hp.nodup
def DQ(w:World)(p:bB)(e:Ending)(ac:World):Prop:=∃(bj:Kr) (lc:Nat),e=.returned (.tuple #[.slice bj (ba p).length lc,.int .i64 (-1)])∧Sl ac (fresh w ac) bj (ba p).length ((ba p).map bN)∧Ext w ac
theorem nj{k:Nat}(h:(ba p)[k]?=some e):((ba p).take (k+1)).map bN=((ba p).take k).map bN++[bN e]:=by rw[a9 h,JX];rfl
namespace Bz
theorem fK{p:Prop}(h:p:=by
 generalize hV:World.drew (World.alloc _ _)=V;have t:Ext wr V:=hV▸(Kn.alloc _).drew;have bV:af V wr.heap.size 153 #[.string f.name,.int .i64 3,.int .i64 j]:=hV▸(Ko).drew;obtain⟨b1,aK⟩:=aM t bV;have J:=ad (a2.trans t);have bY:=ad (bs.ak t);have al:=ad (bu.ak t);have bd:=kp n.o d;have y:=al.sl (Q:=au V) (fun b _ h=>h.elim) (fun b _ h=>by assumption);clear hV t bV c0 aW a0 ap ak;obtain⟨d0,ag,aR⟩:=aK.two;go_wp2_with(fail);refine(dM A (gn+mn+j) c _ f.name _ y ab).mono ?_;rintro e aN ⟨rfl,ar⟩
 try simp only at bd
 rw[bd];simp only[iK];have bl:=ad (J.trans ar);have bz:=ad (bY.ak ar);have aE:=ad (al.ak ar);have i:=aK.ak ar;clear d0 ag aR ar y;go_upto_region 15 with(fail);generalize b6:World.alloc _ _=Y;have s:Ext aN Y:=b6▸Kn.alloc _;have l:=i.ak s;have r:=ad (aE.ak s);have bA:=ad (bl.trans s);have bD:=ad (bz.ak s);clear b6 i s;obtain⟨d0,ag,aR⟩:=l.two;have cv:=bA.size;have bI:=bD.lt;clear l;go_wp2_with((at_builtin;refine bR iV rfl (.tmp 88) (.tmp 90) rfl r.o (jH ⟨f.name,3,(j:Int)⟩) rfl rfl rfl ab ab ab ?_;intro A2 c2 aO an ay b8 bJ));have aV:Gr (fun _=>False) (w.heap.size+1) 153 3 aO A2 (gn+mn+j+1) c2 (((ba p).take (gn+mn+j+1)).map bN):=by rw[nj d];exact an
 have a4:Ext w aO:=Fr.low (M:=fun b=>w.heap.size≤b) ((bA.mono fun _ h=>h.elim).trans (ay.mono fun b O=>by have:=(r.lt O).1;omega)) fun _ h=>h;have aY:=bD.on ay fun O=>by have:=(r.lt O).1;omega
 have bW:=aQ aV a4 aY;clear aV a4 aY an ay b8 d0 ag aR;go_wp2;go_roundw
 case rel=>exact⟨rfl,(gn+mn+j)+1,A2,c2,ab,by go_num,rfl,bW.o⟩
 case measure=>exact aB
 ):p:=h
theorem jF{p:Prop}(h:p:=by
 have aL:af W w.heap.size 71 #[.slice GA gn gc,.slice MA mn mc,.slice FA fn fc]:=bg▸Ko;obtain⟨a2,bs⟩:=aM aF aL;obtain⟨a0,ap,ak⟩:=aL.two;clear bg aF aL;go_wp2;clear a0 ap ak;go_loopw [4,5,7] (fun gM bv cg wr=>bv=.int .i64 (-1)∧∃(k:Nat) (A:Kr) (c:Nat),k≤gn+mn+fn∧cg=.int .i64 k∧gM=.slice A k c∧Gr (fun _=>False) (w.heap.size+1) 153 3 wr A k c (((ba p).take k).map bN)∧Ext w wr∧af wr w.heap.size 71 #[.slice GA gn gc,.slice MA mn mc,.slice FA fn fc]) (fun _ _ cg _=>gn+mn+fn - (intOf cg).toNat)
 case atStart=>exact⟨rfl,0,none,0,ab,rfl,rfl,Gr.nil _ _ _ _ _,a2.o,bs.o⟩
 case round=>
  obtain⟨rfl,k,A,c,aj,rfl,rfl,hG,aF,aL⟩:=hrel;clear a2 bs;obtain⟨bu,a2,bs⟩:=ez hG aF aL;obtain⟨a0,ap,ak⟩:=aL.two;have nH:=aF.size;clear hG aF aL;by_cases aw:k<gn+mn+fn
  ·by_cases ae:k<gn
   ·
    obtain⟨b,o,g,cs,rfl,O,hx,aU,a3,Z⟩:=(bS.on (Fr.ext a2.o)).gN oi ae;obtain rfl:=mb.1 aU;have c0:=Z 0 _ rfl;simp only[J0] at c0;have aW:b<wr.heap.size:=O;have d:=D6 hx;have q1:decide ((k:Int) - (gn:Int)<0)=true:=by first|(simp;done)|(simp;omega)
    clear aU a3 Z hx O;go_upto_region 14 with(fail);generalize hV:World.alloc _ _=V;have t:Ext wr V:=hV▸Kn.alloc _;have bV:af V wr.heap.size 153 #[.string g.1,.int .i64 1,.int .i64 k]:=hV▸Ko;obtain⟨b1,aK⟩:=aM t bV;have J:=ad (a2.trans t);have bY:=ad (bs.ak t);have al:=ad (bu.ak t);have bd:=kp n.o d;have y:=al.sl (Q:=au V) (fun b _ h=>h.elim) (fun b _ h=>by assumption);clear hV t bV c0 aW a0 ap ak;obtain⟨d0,ag,aR⟩:=aK.two;go_wp2_with(fail);refine(dM A k c _ g.1 _ y ab).mono ?_;rintro e aN ⟨rfl,ar⟩
    try simp only at bd
    rw[bd];simp only[iK];have bl:=ad (J.trans ar);have bz:=ad (bY.ak ar);have aE:=ad (al.ak ar);have i:=aK.ak ar;clear d0 ag aR ar y;go_upto_region 15 with(fail);generalize b6:World.alloc _ _=Y;have s:Ext aN Y:=b6▸Kn.alloc _;have l:=i.ak s;have r:=ad (aE.ak s);have bA:=ad (bl.trans s);have bD:=ad (bz.ak s);clear b6 i s;obtain⟨d0,ag,aR⟩:=l.two;have cv:=bA.size;have bI:=bD.lt;clear l;go_wp2_with((at_builtin;refine bR iV rfl (.tmp 88) (.tmp 90) rfl r.o (jH ⟨g.1,1,(k:Int)⟩) rfl rfl rfl ab ab ab ?_;intro A2 c2 aO an ay b8 bJ));have aV:Gr (fun _=>False) (w.heap.size+1) 153 3 aO A2 (k+1) c2 (((ba p).take (k+1)).map bN):=by rw[nj d];exact an
    have a4:Ext w aO:=Fr.low (M:=fun b=>w.heap.size≤b) ((bA.mono fun _ h=>h.elim).trans (ay.mono fun b O=>by have:=(r.lt O).1;omega)) fun _ h=>h;have aY:=bD.on ay fun O=>by have:=(r.lt O).1;omega
    have bW:=aQ aV a4 aY;clear aV a4 aY an ay b8 d0 ag aR;go_wp2;go_roundw
    case rel=>exact⟨rfl,k+1,A2,c2,ab,by go_num,rfl,bW.o⟩
    case measure=>exact aB
   ·by_cases aC:k - gn<mn
    ·
     obtain⟨b,o,m,cs,rfl,O,hx,aU,a3,Z⟩:=(dv.on (Fr.ext a2.o)).gN sd aC;obtain rfl:=eR.1 aU;have c0:=Z 0 _ rfl;simp only[J0] at c0;have aW:b<wr.heap.size:=O;have d:=D7 hx;obtain⟨j,bc⟩:∃j,k=gn+j:=⟨k - gn,ab⟩
     subst bc;have f1:gn+j - gn=j:=ab;rw[f1] at c0 aC d hx;rw[bK.1] at d;have q:(gn:Int)+(j:Int) - (gn:Int)=(j:Int):=ab;have q1:decide ((j:Int)<0)=false:=by first|(simp;done)|(simp;omega)
     have cB:((j:Int)<(mn:Int)):=ab;clear aU a3 Z hx O;go_upto_region 14 with(fail);generalize hV:World.alloc _ _=V;have t:Ext wr V:=hV▸Kn.alloc _;have bV:af V wr.heap.size 153 #[.string m.name,.int .i64 2,.int .i64 j]:=hV▸Ko;obtain⟨b1,aK⟩:=aM t bV;have J:=ad (a2.trans t);have bY:=ad (bs.ak t);have al:=ad (bu.ak t);have bd:=kp n.o d;have y:=al.sl (Q:=au V) (fun b _ h=>h.elim) (fun b _ h=>by assumption);clear hV t bV c0 aW a0 ap ak;obtain⟨d0,ag,aR⟩:=aK.two;go_wp2_with(fail);refine(dM A (gn+j) c _ m.name _ y ab).mono ?_;rintro e aN ⟨rfl,ar⟩
     try simp only at bd
     rw[bd];simp only[iK];have bl:=ad (J.trans ar);have bz:=ad (bY.ak ar);have aE:=ad (al.ak ar);have i:=aK.ak ar;clear d0 ag aR ar y;go_upto_region 15 with(fail);generalize b6:World.alloc _ _=Y;have s:Ext aN Y:=b6▸Kn.alloc _;have l:=i.ak s;have r:=ad (aE.ak s);have bA:=ad (bl.trans s);have bD:=ad (bz.ak s);clear b6 i s;obtain⟨d0,ag,aR⟩:=l.two;have cv:=bA.size;have bI:=bD.lt;clear l;go_wp2_with((at_builtin;refine bR iV rfl (.tmp 88) (.tmp 90) rfl r.o (jH ⟨m.name,2,(j:Int)⟩) rfl rfl rfl ab ab ab ?_;intro A2 c2 aO an ay b8 bJ));have aV:Gr (fun _=>False) (w.heap.size+1) 153 3 aO A2 (gn+j+1) c2 (((ba p).take (gn+j+1)).map bN):=by rw[nj d];exact an
     have a4:Ext w aO:=Fr.low (M:=fun b=>w.heap.size≤b) ((bA.mono fun _ h=>h.elim).trans (ay.mono fun b O=>by have:=(r.lt O).1;omega)) fun _ h=>h;have aY:=bD.on ay fun O=>by have:=(r.lt O).1;omega
     have bW:=aQ aV a4 aY;clear aV a4 aY an ay b8 d0 ag aR;go_wp2;go_roundw
     case rel=>exact⟨rfl,(gn+j)+1,A2,c2,ab,by go_num,rfl,bW.o⟩
     case measure=>exact aB
    ·
     have aT:k - gn - mn<fn:=ab;obtain⟨b,o,f,cs,rfl,O,hx,aU,a3,Z⟩:=(bX.on (Fr.ext a2.o)).gN pg aT;obtain⟨PA,pn,pc,f0,bn,eL,rfl,_,_⟩:=kj aU;have c0:=Z 0 _ rfl;simp only[J0] at c0;have aW:b<wr.heap.size:=O;have d:=w3 hx;obtain⟨j,bc⟩:∃j,k=gn+mn+j:=⟨k - gn - mn,ab⟩
     subst bc;have f1:gn+mn+j - gn - mn=j:=ab;rw[f1] at c0 aT d hx;rw[bK.1,bK.2.1] at d;have q:(gn:Int)+(mn:Int)+(j:Int) - (gn:Int)=(mn:Int)+(j:Int):=ab;have aX:(mn:Int)+(j:Int) - (mn:Int)=(j:Int):=ab;have q1:decide ((mn:Int)+(j:Int)<0)=false:=by first|(simp;done)|(simp;omega)
     have cB:decide ((mn:Int)+(j:Int)<(mn:Int))=false:=by first|(simp;done)|(simp;omega)
     have u:IntKind.i64.wrap (j:Int)=j:=IntWalk.i64_in _ ab;clear aU a3 Z hx O;go_wp2;refine eE (fun _=>False) [(0,3),(1,0),(2,3),(3,3),(4,0),(5,3),(6,3),(7,3),(8,3),(9,0),(10,3),(11,3),(12,0),(13,3),(14,3),(15,3),(16,2)] ?_;refine pf ?_;refine ph ?_
     iterate 2 refine pf ?_
     refine ph ?_
     iterate 4 refine pf ?_
     refine ph ?_
     iterate 2 refine pf ?_
     refine ph ?_
     iterate 3 refine pf ?_
     exact fJ
  ·obtain rfl:gn+mn+fn=k:=ab;go_wp2
   go_ret2
   refine⟨A,c,by rw[bF];rfl,?_,a2.o⟩;have:=bu.o;rw[JY ab] at this;rw[bF];exact this.sl (fun b _ h=>h.elim) fun b ae aC=>⟨ab,ae⟩
 ):p:=h
theorem rZ{p:Prop}(h:p:=by
 have n:=ad (ny hp);obtain⟨bS,dv,bX⟩:=ez aJ hm aD;have F:=ad (kJ p);have bF:(ba p).length=gn+mn+fn:=by rw[kJ,di,lm,lf]
 have bK:=aQ di lm lf;clear h aJ hm aD hp di lm lf;go_enter func81,ntmps81;exact jE
 ):p:=h
theorem uU{p:Prop}(h:p:=by
 exact rY
 ):p:=h
end Bz
open Bz in
theorem sa(p:bB)(hp:oE p)(GA:Kr)(gn gc:Nat)(MA:Kr)(mn mc:Nat)(FA:Kr)(fn fc:Nat)(w:World)(h:g1 w (au w) p GA gn MA mn FA fn) :
  Calls prog 81 #[.agg #[.slice GA gn gc,.slice MA mn mc,.slice FA fn fc]] w (DQ w p):=by
 exact uT
end Go.Proofs.YtbkhhfajcgkpgaaGreat

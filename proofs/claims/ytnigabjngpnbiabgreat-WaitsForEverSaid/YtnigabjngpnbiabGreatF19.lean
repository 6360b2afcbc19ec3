/- Part 19 of the proof. No condition of its own. -/
import Derived.Test.YtnigabjngpnbiabGreatF10
import Derived.Test.YtnigabjngpnbiabGreatF11
import Derived.Test.YtnigabjngpnbiabGreatF16
namespace Go.Proofs.YtnigabjngpnbiabGreat
open Go.RowKit Go.Proofs.Tryz
set_option maxRecDepth 1000000
set_option maxHeartbeats 25600000
set_option linter.unusedVariables false
variable{t:Int}{cs:List Value}{c:List aA}{P:Nat->Prop}{I:NH}{f:aI}{r:eY}
section
variable {U:h2} {G:Env} {l:List dS} {V T:NI} {n nk:Int}
theorem Sc.gp(hS:Sc U G l V T n nk):∀(d:Nat) (x:VE),x.src V d->gp l x
 | d,.num k,h=>trivial
 | d,.gU s,h=>by
  have q:s∈V:=by cases d<;>exact h
  obtain⟨e,he,aj⟩:=hS.vars s q
  exact⟨e,he,aj.imp (λh=>h.1) (λh=>h.1)⟩
 | d,.loc _,h=>by cases d<;>exact h.elim
 | d,.ij _,h=>by cases d<;>exact h.elim
 | 0,.un _ _,h=>h.elim
 | 0,.bin _ _ _,h=>h.elim
 | d+1,.un op x,h=>⟨h.1,Sc.gp hS d x h.2⟩
 | d+1,.bin op x y,h=>⟨h.1,Sc.gp hS d x h.2.1,Sc.gp hS d y h.2.2⟩
theorem Sc.q2(hS:Sc U G l V T n nk)(r:eY)(h:rI G V r):q2 U.af l r:=by
 rcases h with⟨m,hm,hn,ac,az⟩|⟨hp,aN⟩
 .obtain⟨e,he,aj,h0,hu⟩:=hS.KO m hm;rw[hn] at he;exact⟨e,he,.inr ⟨aj,m,h0,hu,λhs=>by obtain⟨x,hx,aw⟩:=ac hs;exact⟨x,hx,hS.gp 2 x aw⟩,az⟩⟩
 .obtain⟨e,he,aj,_,_⟩:=hS.FC _ hp;exact⟨e,he,.inl ⟨aj,aN⟩⟩
end
def wm(F:List aI)(G:Env)(l:List dS):Prop:=∀s ps,(s,ps)∈G.funcs->∃(e:dS) (f:aI),dI l s=some e/\e.kind=3/\0<=e.n/\F[e.n.toNat]?=some f/\f.params=ps
theorem wm.app{F:List aI}{G:Env}{l:List dS}(h:wm F G l)(x:dS):wm F G (l++[x]):=λs ps hs=>by
 obtain⟨e,f,he,r⟩:=h s ps hs;exact⟨e,f,jU he,r⟩
theorem E2{p:bN}(hp:pe p)(J:f∈p.funcs):wm p.funcs (fG p f) (bp p++dZ f.params 0 0):=by
 intro s ps hs;have bb:((bp p++dZ f.params 0 0).map (·.name)).Nodup:=by
  rw[Na,gi,gg];exact(hp.funcs f J).fresh
 obtain⟨g,aR,bB⟩:=Ns.1 hs;injection bB with aY ao;subst aY ao;obtain⟨i,aN⟩:=List.getElem?_of_mem aR;have:=lB bb (Nc.2 (.inl (by unfold bp;exact Nc.2 (.inr (iB (·.name) 3 p.funcs 0 i g aN)))));refine⟨_,g,this,rfl,by show (0:Int)<=((0+i:Nat):Int);omega,?_,rfl⟩;show p.funcs[(((0+i:Nat):Int)).toNat]?=some g
 rw[Np,Nm];exact aN
def jA(M:List bM)(l:List dS):List (ByteArray×Bool)->List dq->Prop
 | [],[]=>True
 | p::ps,.mx r::aY=>(p.2=true/\q2 M l r)/\jA M l ps aY
 | p::ps,.ex e::aY=>(p.2=false/\gp l e)/\jA M l ps aY
 | _,_=>False
theorem Sc.jA{U:h2}{G:Env}{l:List dS}{V T:NI}{n nk:Int}(hS:Sc U G l V T n nk):∀(ps:List (ByteArray×Bool)) (aY:List dq),ix G V ps aY->jA U.af l ps aY
 | [],[],_=>trivial
 | p::ps,.mx r::aY,h=>⟨⟨h.1.1,hS.q2 r h.1.2⟩,Sc.jA hS ps aY h.2⟩
 | p::ps,.ex e::aY,h=>⟨⟨h.1.1,hS.gp 2 e h.1.2⟩,Sc.jA hS ps aY h.2⟩
 | [],_::_,h=>h.elim
 | _::_,[],h=>h.elim
theorem mg{M:List bM}{l:List dS}:∀{ps:List (ByteArray×Bool)} {aY:List dq},jA M l ps aY->ps.length=aY.length
 | [],[],_=>rfl
 | _::ps,.mx _::aY,h=>by simp[mg h.2]
 | _::ps,.ex _::aY,h=>by simp[mg h.2]
 | [],_::_,h=>h.elim
 | _::_,[],h=>h.elim
theorem nK{M:List bM}{l:List dS}:∀{ps:List (ByteArray×Bool)} {aY:List dq},jA M l ps aY->∀{k:Nat} {q:ByteArray×Bool} {a:dq},ps[k]?=some q->aY[k]?=some a->
  (∃r,a=.mx r/\q.2=true/\q2 M l r)\/(∃e,a=.ex e/\q.2=false/\gp l e)
 | [],[],_,k,q,a,h,_=>by simp at h
 | p::ps,.mx r::aY,h,0,q,a,ac,az=>by
  simp at ac az;subst ac az
  exact .inl ⟨r,rfl,h.1.1,h.1.2⟩
 | p::ps,.ex e::aY,h,0,q,a,ac,az=>by
  simp at ac az;subst ac az
  exact .inr ⟨e,rfl,h.1.1,h.1.2⟩
 | p::ps,.mx r::aY,h,k+1,q,a,ac,az=>nK h.2 (by simpa using ac) (by simpa using az)
 | p::ps,.ex e::aY,h,k+1,q,a,ac,az=>nK h.2 (by simpa using ac) (by simpa using az)
 | [],_::_,h,_,_,_,_,_=>h.elim
 | _::_,[],h,_,_,_,_,_=>h.elim
theorem im(l:List dS)(aY:List dq)(a:dq):bW l (aY++[a])=bW l aY++bW l [a]/\cG l (aY++[a])=cG l aY++cG l [a]:=by
 induction aY with
 | nil=>exact⟨rfl,rfl⟩
 | cons x aY aq=>cases x<;>simp[bW,cG,aq.1,aq.2]
structure Av(w:World)(g:Nat)(F:List aI):Prop where
 lt:g<w.heap.size
 ex:∃A n c,n<=1000000/\w.cell? ⟨g,2,none⟩=some (.slice A n c)/\Sl w (av w) A n (F.map dA)
theorem Av.on{w ab:World}{g:Nat}{F:List aI}(h:Av w g F)(O:Ext w ab):Av ab g F:=by
 exact Ev
theorem lr{w:World}:(dA f).rep w P cs↔∃A n c B m k,cs=[.string f.name,.slice A n c,.slice B m k]/\n<=c/\m<=k/\Sl w P A n (f.params.map cC)/\Sl w P B m (dc f.body):=by
 unfold dA;rw[bK,cx];constructor
 .rintro⟨y,rfl,h⟩;obtain⟨A,n,c,cr,rfl,hc,hs,h⟩:=aN.1 h;obtain⟨B,m,k,cf,rfl,aj,O,h⟩:=aN.1 h;rw[aR] at h;subst h;exact⟨A,n,c,B,m,k,rfl,hc,aj,hs,O⟩
 .rintro⟨A,n,c,B,m,k,rfl,hc,aj,hs,O⟩;exact⟨_,rfl,aN.2 ⟨A,n,c,_,rfl,hc,hs,aN.2 ⟨B,m,k,[],rfl,aj,O,aR.2 rfl⟩⟩⟩
theorem nQ(f:aI):(dA f).sz=3:=rfl
theorem sd(q:ByteArray×Bool):(cC q).sz=2:=rfl
theorem oC{w:World}{q:ByteArray×Bool}:(cC q).rep w P cs↔cs=[.string q.1,.bool q.2]:=by
 unfold cC;rw[bK,cx];constructor
 .rintro⟨y,rfl,h⟩;obtain⟨cf,rfl,az⟩:=fE.1 h;rw[aR] at az;subst az;rfl
 .rintro rfl;exact⟨_,rfl,fE.2 ⟨_,rfl,aR.2 rfl⟩⟩
theorem Jd:cq prog 40 39 (.agg #[false,(0:Int),()]) 3 40:=cq.mk' Tryz.underlying40 (by kernel_rfl) rfl ad
abbrev fH(op t:Int)(g:Bool)(IA:NH)(i ic:Nat)(bC:NH)(k lc:Nat):Array Value:=
 #[.int .i64 op,.int .i64 t,.bool g,.int .i64 0,.int .i64 0,.string ⟨#[]⟩,.slice none 0 0,.bool false,.int .i64 0,.slice none 0 0,.slice IA i ic,.slice bC k lc]
theorem EU{w:World}(h:(eP (.mx r)).rep w P cs):∃s A n c A2 c2,cs=[.bool true,.string s,.slice A n c,.int .i64 0,.int .i64 0,.string ⟨#[]⟩,.slice A2 0 c2]/\(kW r).rep w P [.string s,.slice A n c]:=by
 exact Ik
namespace CW
theorem wM{p:Prop}(h:p:=by
 obtain⟨A,n,c,cB,rfl,_,_,aI⟩:=aN.1 hx;rw[aR] at aI;subst aI;rw[D.bx] at bb;obtain⟨A2,cW,c2,rfl,_,_⟩:=aY.1 bb;exact⟨_,_,_,_,_,_,_,_,_,rfl,bb⟩
 ):p:=h
end CW
open CW in
theorem ES{w:World}{e:VE}(h:(eP (.ex e)).rep w P cs):∃cr cI rc op n s A m c,cs=[.bool false,.string ⟨#[]⟩,.slice cr cI rc,.int .i64 op,.int .i64 n,.string s,.slice A m c]/\(bo e).rep w P [.int .i64 op,.int .i64 n,.string s,.slice A m c]:=by
 exact wL
theorem q6{w:World}{l:List D}(h:D.aQ w P l cs):D.aQ w P (j7::l) (.int .i64 0::.int .i64 0::.string ⟨#[]⟩::.slice none 0 0::cs):=
 dL.2 ⟨[(0:Int),(0:Int),NF,()],cs,rfl,fy.2 ⟨none,0,rfl⟩,h⟩
theorem oQ{w:World}{l:List D}(h:D.aQ w P l cs):D.aQ w P (dg ky::l) (.bool false::.int .i64 0::.slice none 0 0::cs):=
 dL.2 ⟨[false,(0:Int),()],cs,rfl,dK.2 ⟨none,0,0,rfl,MU _,Sl.bY _⟩,h⟩
theorem jP{w:World}{op:Int}{g:Bool}{is:List VE}{ps:List bO}{IA:NH}{i ic:Nat}{bC:NH}{k lc:Nat}(ac:Sl w P IA i (is.map bo))(az:Sl w P bC k (ps.map dg))(c1:i<=ic)(c2:k<=lc):
  (er ⟨op,t,g,none,ky,is,ps⟩).rep w P (fH op t g IA i ic bC k lc).toList:=by
 unfold er;rw[bK];exact bj.2 ⟨_,rfl,bj.2 ⟨_,rfl,fE.2 ⟨_,rfl,q6 (oQ (aN.2 ⟨IA,i,ic,_,rfl,c1,ac,aN.2 ⟨bC,k,lc,[],rfl,c2,az,aR.2 rfl⟩⟩))⟩⟩⟩
theorem wT:cq prog 80 42 (.agg (fH 0 0 false none 0 0 none 0 0)) 12 168:=cq.mk' Tryz.underlying80 (by kernel_rfl) rfl ad
structure cU(w:World)(g B:Nat)(M:List bM)(F:List aI)(l:List dS)(bC:NH)(ln lc:Nat)(n:Int)(st:Nat)(code:List aA)(sites:List Int)(S:NH)(bQ:Nat)(bI:NH)(bx:Nat):Prop where
 blk:∃GA gn gc MA mn mc FA fn fc,an w g 181 #[.slice GA gn gc,.slice MA mn mc,.slice FA fn fc,.slice bC ln lc,.int .i64 n,.int .i64 st,.int .i64 0,.int .i64 0,.slice S code.length bQ,.slice bI sites.length bx]/\mn<=1000000/\fn<=1000000/\
  Sl w (off (Ms g (.slice S code.length bQ) (.slice bI sites.length bx)) w) MA mn (M.map eF)/\Sl w (off (Ms g (.slice S code.length bQ) (.slice bI sites.length bx)) w) FA fn (F.map dA)
 base:g<B/\B<=w.heap.size
 names:ln<=1000000/\Sl w (off (Ms g (.slice S code.length bQ) (.slice bI sites.length bx)) w) bC ln (l.map b2)
 rows:lS B 42 12 3 1 w S code.length bQ (code.map er) bI sites.length bx (sites.map D.i)
section
variable {w ab aO aW b6 cO X:World} {g B:Nat} {M:List bM} {F:List aI} {l:List dS} {bC:NH} {ln lc:Nat} {n:Int} {st:Nat} {code:List aA} {sites:List Int} {S:NH} {bQ:Nat} {bI:NH} {bx:Nat}
theorem cU.lt(h:cU w g B M F l bC ln lc n st code sites S bQ bI bx):g<w.heap.size:=by
 obtain⟨GA,gn,gc,MA,mn,mc,FA,fn,fc,aT,_⟩:=h.blk;exact aT.lt
theorem cU.L(h:cU w g B M F l bC ln lc n st code sites S bQ bI bx):ux w g l:=by
 obtain⟨GA,gn,gc,MA,mn,mc,FA,fn,fc,aT,_⟩:=h.blk;exact⟨aT.lt,bC,ln,lc,h.names.1,aT.cell 3,h.names.2.mono λb O=>O.1⟩
theorem cU.M_(h:cU w g B M F l bC ln lc n st code sites S bQ bI bx):zo w g M:=by
 obtain⟨GA,gn,gc,MA,mn,mc,FA,fn,fc,aT,ac,az,aV,aU⟩:=h.blk;exact⟨aT.lt,MA,mn,mc,ac,aT.cell 1,aV.mono λb O=>O.1⟩
theorem cU.F_(h:cU w g B M F l bC ln lc n st code sites S bQ bI bx):Av w g F:=by
 obtain⟨GA,gn,gc,MA,mn,mc,FA,fn,fc,aT,ac,az,aV,aU⟩:=h.blk;exact⟨aT.lt,FA,fn,fc,az,aT.cell 2,aU.mono λb O=>O.1⟩
theorem cU.aj(h:cU w g B M F l bC ln lc n st code sites S bQ bI bx)(he:Ext w ab):cU ab g B M F l bC ln lc n st code sites S bQ bI bx:=by
 obtain⟨GA,gn,gc,MA,mn,mc,FA,fn,fc,aT,ac,az,aV,aU⟩:=h.blk;exact⟨⟨GA,gn,gc,MA,mn,mc,FA,fn,fc,aT.aj he,ac,az,aV.cZ (Mv.hJ he),aU.cZ (Mv.hJ he)⟩,⟨h.base.1,Nl h.base.2 he.size⟩,⟨h.names.1,h.names.2.cZ (Mv.hJ he)⟩,h.rows.aj he⟩
abbrev LW(B g:Nat)(cv sv:Value)(w:World):Nat->Prop:=λb=>B<=b/\off (Ms g cv sv) w b
theorem cU.added(h:cU w g B M F l bC ln lc n st code sites S bQ bI bx){x:aA}{s:Int}{Y aH:NH}{ao aZ:Nat}(e1:Ext w aO)
  (ac:Gr (λb=>B<=b/\(Value.slice bI sites.length bx).ownBlock≠some b) B 42 12 aW Y (code.length+1) ao (code.map er++[er x])) (f1:Fr (λb=>(Value.slice S code.length bQ).ownBlock=some b) aO aW) (o1:dz aO S code.length bQ Y (code.length+1) ao)
  (e2:Ext aW b6) (az:Gr (λb=>B<=b/\(Value.slice Y (code.length+1) ao).ownBlock≠some b) B 3 1 cO aH (sites.length+1) aZ (sites.map D.i++[D.i s])) (f2:Fr (λb=>(Value.slice bI sites.length bx).ownBlock=some b) b6 cO) (gv:dz b6 bI sites.length bx aH (sites.length+1) aZ)
  (hX:(cO.setCell ⟨g,8,none⟩ (.slice Y (code.length+1) ao)).setCell ⟨g,9,none⟩ (.slice aH (sites.length+1) aZ)=X) :
  cU X g B M F l bC ln lc n st (code++[x]) (sites++[s]) Y ao aH aZ/\Mv g (.slice S code.length bQ) (.slice bI sites.length bx) w (.slice Y (code.length+1) ao) (.slice aH (sites.length+1) aZ) X:=by
 have ap:=h.lt;have b9:=GH hX;have s1:=e1.size;have s2:=f1.size;have cP:=e2.size;have hM:Mv g (.slice S code.length bQ) (.slice bI sites.length bx) w (.slice Y (code.length+1) ao) (.slice aH (sites.length+1) aZ) X:=by
  refine⟨Fr.trans (Fr.mono e1 λ_ h=>h.elim) (Fr.trans (f1.mono λb O=>.inr (.inl O)) (Fr.trans (Fr.mono e2 λ_ h=>h.elim) (Fr.trans (f2.mono λb O=>.inr (.inr O)) (b9.mono λb O=>.inl O)))),λb O hm=>?_⟩;rcases hm with hm|hm|hm
  .exact .inl hm
  .rcases o1 b hm with ac|ac
   .exact .inr (.inl ac)
   .omega
  .rcases gv b hm with ac|ac
   .exact .inr (.inr ac)
   .omega
 refine⟨?_,hM⟩;obtain⟨GA,gn,gc,MA,mn,mc,FA,fn,fc,aT,cw,bR,cS,H⟩:=h.blk;have a:∀b,(Value.slice S code.length bQ).ownBlock=some b->g<b:=λb O=>M0 h.base.1 (h.rows.one.lt O).1;have R:∀b,(Value.slice bI sites.length bx).ownBlock=some b->g<b:=λb O=>M0 h.base.1 (h.rows.two.lt O).1;have bX:an cO g _ _:=(((aT.aj e1).on f1 λO=>by have:=a _ O;omega).aj e2).on f2 λO=>by have:=R _ O;omega
 have bo:lS B 42 12 3 1 b6 Y (code.length+1) ao (code.map er++[er x]) bI sites.length bx (sites.map D.i):=((h.rows.aj e1).grow ac f1 o1).aj e2;have au:=(bo.swap.grow az f2 gv).swap;refine⟨⟨GA,gn,gc,MA,mn,mc,FA,fn,fc,?_,cw,bR,?_,?_⟩,⟨h.base.1,Nl h.base.2 hM.fr.size⟩,⟨h.names.1,?_⟩,?_⟩
 .rw[<-hX,M3,M3];exact(bX.aK 8 _).aK 9 _
 .rw[M3,M3];exact cS.cZ hM
 .rw[M3,M3];exact H.cZ hM
 .rw[M3,M3];exact h.names.2.cZ hM
 .rw[Na,Na,M3,M3];exact au.cD b9 λb O _=>by have:=h.base.1;omega
end
def I1(w:World)(g B:Nat)(M:List bM)(F:List aI)(l:List dS)(bC:NH)(ln lc:Nat)(n:Int)(st:Nat)(code:List aA)(sites:List Int)(S:NH)(bQ:Nat)(bI:NH)(bx:Nat)(x:aA)(s:Int)(e:Ending)(ab:World):Prop:=
 e=.returned (.int .i64 code.length)/\∃Y ao aH aZ,cU ab g B M F l bC ln lc n st (code++[x]) (sites++[s]) Y ao aH aZ/\Mv g (.slice S code.length bQ) (.slice bI sites.length bx) w (.slice Y (code.length+1) ao) (.slice aH (sites.length+1) aZ) ab
theorem hq{w:World}{g B:Nat}{M:List bM}{F:List aI}{l:List dS}{bC:NH}{ln lc:Nat}{n:Int}{st:Nat}{code:List aA}{sites:List Int}{S:NH}{bQ:Nat}{bI:NH}{bx:Nat}(h:cU w g B M F l bC ln lc n st code sites S bQ bI bx)
  (x:aA) (s:Int) {op t:Int} {gl:Bool} {eo en:Int} {es:ByteArray} {EA:NH} {em ec:Nat} {pb:Bool} {pi:Int} {PA:NH} {pm pc:Nat} {IA:NH} {i ic:Nat} {KA:NH} {k kc:Nat}
  (hx:(er x).rep w (LW B g (.slice S code.length bQ) (.slice bI sites.length bx) w) [op,t,gl,eo,en,es,.slice EA em ec,pb,pi,.slice PA pm pc,.slice IA i ic,.slice KA k kc])
  (ac:code.length<=100000) (az:sites.length<=100000) :
  Calls prog 84 #[.pointer (some ⟨g,0,none⟩),.agg #[op,t,gl,eo,en,es,.slice EA em ec,pb,pi,.slice PA pm pc,.slice IA i ic,.slice KA k kc],s] w
   (I1 w g B M F l bC ln lc n st code sites S bQ bI bx x s):=by
 obtain⟨H,aP⟩:=aJ h hx;obtain⟨GA,gn,gc,MA,mn,mc,FA,fn,fc,aT,_⟩:=h.blk;have bL:=ae aT;clear h hx aT;go_enter func84,ntmps84;go_upto_region 1 with(fail);generalize be:World.alloc _ _=W;have aF:=aX be;have bK:=aL be;clear be;obtain⟨bk,dU⟩:=aJ aF bK;obtain⟨a0,ak,af⟩:=bK.two;obtain⟨bs,am,aK⟩:=(bL.aj aF).two;have d1:=bL.lt;have mL:=aF.size;have dF:=H.base.1;have o:=H.base.2;clear aF bK;have gx:¬(Value.slice S code.length bQ).ownBlock=some g:=λO=>by have:=(H.rows.one.lt O).1;omega
 have aj:¬(Value.slice S code.length bQ).ownBlock=some w.heap.size:=λO=>by have:=(H.rows.one.lt O).2;omega
 have bo:∀b,(Value.slice S code.length bQ).ownBlock=some b->b<W.heap.size:=λb O=>by have:=(H.rows.one.lt O).2;omega
 have y:∀b,(Value.slice bI sites.length bx).ownBlock=some b->b<W.heap.size:=λb O=>by have:=(H.rows.two.lt O).2;omega
 have v:(er x).rep W (lD (λb=>B<=b/\(Value.slice bI sites.length bx).ownBlock≠some b) W (.slice S code.length bQ)) _:=
  D.aM (λb O=>⟨⟨O.1,λhc=>O.2.2 (.inr (.inr hc))⟩,M0 O.2.1 mL,λhc=>O.2.2 (.inr (.inl hc))⟩) _ _ (D.aO (λb O=>bk.block b O.2.1 λh=>h) _ _ aP.o)
 have r:=H.rows.aj bk.o;obtain⟨j,a8⟩:=aJ v r;clear v r;refine sK (λb=>(Value.slice S code.length bQ).ownBlock=some b) [15,18,21] (.free 0 (.free 1 (.free 2 (.free 3 (.free 4 (.held 5 (.held 6 (.free 9 (.free 10 (.free 11 (.held 12 (.free 13 (.pick [7,14] (λi=>bif i == 7 then .pick [8,14] (λi=>bif i == 8 then .pick [14] (λ_=>.pick [15] (λ_=>.free 16 (.free 17 (.pick [18] (λ_=>.free 19 (.free 20 (.pick [21] (λ_=>.stop)))))))) else .pick [8] (λ_=>.pick [15] (λ_=>.free 16 (.free 17 (.pick [18] (λ_=>.free 19 (.free 20 (.pick [21] (λ_=>.stop))))))))) else .pick [7] (λ_=>.pick [8] (λ_=>.pick [15] (λ_=>.free 16 (.free 17 (.pick [18] (λ_=>.free 19 (.free 20 (.pick [21] (λ_=>.stop))))))))))))))))))))))) ?_
 iterate 5 refine tf ?_
 iterate 2 refine pd ?_
 iterate 3 refine tf ?_
 refine pd ?_;refine tf ?_;refine jg (P:=?P1) (ops:=?o1) (Q:=?q1) (R:=?r1) (tails:=?t1) (rest:=.pick [15] (λ_=>.free 16 (.free 17 (.pick [18] (λ_=>.free 19 (.free 20 (.pick [21] (λ_=>.stop)))))))) (aa:=?MF)
  (C:=λ(_:Nat) br A2 c2 V=>True/\∃aO aW,Ext W aO/\Gr (λb=>B<=b/\(Value.slice bI sites.length bx).ownBlock≠some b) B 42 12 aW A2 (code.length+1) c2 (code.map er++[er x])/\Fr (λb=>(Value.slice S code.length bQ).ownBlock=some b) aO aW/\dz aO S code.length bQ A2 (code.length+1) c2/\Ext aW V/\an V br 3 #[s]) (λkey=>?KH) ?Ln
 case KH=>
  refine a2 ?_ ?_
  ·
   refine ep ?_;generalize hV:World.drew (World.alloc _ _)=c3;have e1:=hy hV;have bn:an c3 W 42 #[op,t,gl,eo,en,es,.slice EA em ec,pb,pi,.slice PA pm pc,.slice IA i ic,.slice KA k kc]:=hV▸ND;clear hV;refine a2 ?_ ?_
   ·
    refine aD rfl (λK hK=>?_) rfl;rw[if_pos (by rfl)];refine fq wT (.tmp 12) (.tmp 14) (by rfl) (a8.aj e1).one bn (xe j.o e1) (by rfl) (by rfl) (by rfl) ad ad (ax e1.size) ?_;intro Y ao aW cd f1 o1 c1;refine dB hK (f1) ?_;clear hK K;refine aq ?_;refine ep ?_;have F:True/\∃aO f,Ext W aO/\Gr (λb=>B<=b/\(Value.slice bI sites.length bx).ownBlock≠some b) B 42 12 f Y (code.length+1) ao (code.map er++[er x])/\Fr (λb=>(Value.slice S code.length bQ).ownBlock=some b) aO f/\dz aO S code.length bQ Y (code.length+1) ao/\Ext f (aW.alloc (.cells #[s] 3))/\an (aW.alloc (.cells #[s] 3)) (aW.heap.size) 3 #[s]:=
     ⟨trivial,c3,aW,e1,cd,f1,o1,NC.alloc _,ND⟩
    clear cd o1;revert F;generalize aW.heap.size=br;generalize W.heap.size=fk;intro F;exact key fk br Y ao _ F
   ·
    refine ep ?_;generalize hV:World.alloc _ _=m;have cl:an m c3 3 #[s]:=hV▸ND;have aU:=by have:=bn.alloc (.cells #[s] 3);rw[hV] at this;exact this
    have e2:Ext W m:=hV▸e1.alloc _;clear hV bn;refine aq ?_;refine aD rfl (λK hK=>?_) rfl;rw[if_pos (by rfl)];refine fq wT (.tmp 12) (.tmp 14) (by rfl) (a8.aj e2).one aU (xe j.o e2) (by rfl) (by rfl) (by rfl) ad ad (ax e2.size) ?_;intro Y ao aW cd f1 o1 c1;refine dB hK (f1) ?_;clear hK K;have bl:¬(Value.slice S code.length bQ).ownBlock=some c3.heap.size:=λO=>by have:=bo _ O;have:=e1.size;omega
    have F:True/\∃aO f,Ext W aO/\Gr (λb=>B<=b/\(Value.slice bI sites.length bx).ownBlock≠some b) B 42 12 f Y (code.length+1) ao (code.map er++[er x])/\Fr (λb=>(Value.slice S code.length bQ).ownBlock=some b) aO f/\dz aO S code.length bQ Y (code.length+1) ao/\Ext f aW/\an aW (c3.heap.size) 3 #[s]:=
     ⟨trivial,m,aW,e2,cd,f1,o1,NC,cl.on f1 bl⟩
    clear cd o1;revert F;generalize c3.heap.size=br;generalize W.heap.size=fk;intro F;exact key fk br Y ao _ F
  ·
   refine ep ?_;generalize hV:World.drew (World.alloc _ _)=c3;have cl:an c3 W 3 #[s]:=hV▸ND;have e1:=hy hV;clear hV;refine aq ?_;refine ep ?_;generalize hV:World.alloc _ _=m;have e2:Ext W m:=hV▸e1.alloc _;have bn:=aL hV;have aV:an m W 3 #[s]:=hV▸cl.alloc _;clear hV;refine aq ?_;refine aD rfl (λK hK=>?_) rfl;rw[if_pos (by rfl)];refine fq wT (.tmp 12) (.tmp 14) (by rfl) (a8.aj e2).one bn (xe j.o e2) (by rfl) (by rfl) (by rfl) ad ad (ax e2.size) ?_;intro Y ao aW cd f1 o1 c1;refine dB hK (f1) ?_;clear hK K;have bl:¬(Value.slice S code.length bQ).ownBlock=some W.heap.size:=λO=>by have:=bo _ O;omega
   have F:True/\∃aO f,Ext W aO/\Gr (λb=>B<=b/\(Value.slice bI sites.length bx).ownBlock≠some b) B 42 12 f Y (code.length+1) ao (code.map er++[er x])/\Fr (λb=>(Value.slice S code.length bQ).ownBlock=some b) aO f/\dz aO S code.length bQ Y (code.length+1) ao/\Ext f aW/\an aW (W.heap.size) 3 #[s]:=
    ⟨trivial,m,aW,e2,cd,f1,o1,NC,aV.on f1 bl⟩
   clear cd o1;revert F;generalize W.heap.size=br;generalize c3.heap.size=fk;intro F;exact key fk br Y ao _ F
 case Ln=>
  rintro fk br Y ao V ⟨z,aO,aW,e1,cd,f1,o1,e2,cl⟩;have s1:=e1.size;have s2:=f1.size;have cP:=e2.size;have hG:lS B 42 12 3 1 V Y (code.length+1) ao (code.map er++[er x]) bI sites.length bx (sites.map D.i):=((a8.aj e1).grow cd f1 o1).aj e2;have b4:an V g _ _:=(((bL.aj bk.o).aj e1).on f1 gx).aj e2;have u:¬(Value.slice bI sites.length bx).ownBlock=some g:=λO=>by have:=(H.rows.two.lt O).1;omega
  clear a0 ak af bs am aK;refine aq ?_;refine bP rfl (λK hK=>?_) rfl;rw[if_pos (by rfl)];refine fq cF (.tmp 19) (.tmp 21) (by rfl) hG.two cl (show (D.i s).rep V _ _ from by simp only[D.rep]) (by rfl) (by rfl) (by rfl) ad ad ad ?_;intro aH aZ cO g2 f2 gv c2;have b7:=ay g2 f2 gv;have bX:=b4.on f2 u;have cG:=cQ e1 cd f1 o1 e2;clear g2 f2 gv b4 cl e1 cd f1 o1 e2 hG;obtain⟨bs,am,aK⟩:=bX.two;refine dY hK ?_;clear hK K
  iterate 2 refine tf ?_
  refine aq ?_;refine bP rfl (λK hK=>?_) rfl;go_simp;refine dY hK ?_;clear hK K
  iterate 2 refine tf ?_
  refine aq ?_;refine bP rfl (λK hK=>?_) rfl;go_simp;refine dY hK ?_;clear hK K;refine cj ?_;generalize hX:World.setCell _ _ _=X;obtain⟨e1,cd,f1,o1,e2⟩:=cG.o;obtain⟨hS,hM⟩:=cU.added H.o (bk.trans e1) cd f1 o1 e2 b7.1 b7.2.1 b7.2.2 hX;have bH:=ah hS hM;obtain⟨bc,ct,L,ev,gp,eC,cB,f4,a4,bE,_⟩:=hS.blk;clear hX bs am aK bX hS hM e1 cd f1 o1 e2;obtain⟨bs,am,aK⟩:=bE.two;go_wp2;go_ret;refine⟨ret_int ?_,Y,ao,aH,aZ,?_⟩
  .simp
  .exact bH.o
def Gv(w:World)(x:aA)(e:Ending)(ab:World):Prop:=
 ∃(IA:NH) (i ic:Nat) (bC:NH) (k lc:Nat),e=.returned (.agg (fH x.op x.target x.du IA i ic bC k lc))/\(er x).rep ab (fresh w ab) (fH x.op x.target x.du IA i ic bC k lc).toList/\Ext w ab
structure kN(w wr:World)(l:List dS)(op al:Int)(aJ:Array Value)(aY:List dq)(k:Nat)(IA:NH)(i ic:Nat)(bC:NH)(j lc:Nat):Prop where
 ext:Ext w wr
 b4:an wr w.heap.size 175 aJ
 b6:an wr (w.heap.size+1) 42 (fH 0 0 false none 0 0 none 0 0)
 b7:an wr (w.heap.size+2) 42 (fH op al false IA i ic bC j lc)
 g2:lS (w.heap.size+3) 37 4 39 3 wr IA i ic ((bW l (aY.take k)).map bo) bC j lc ((cG l (aY.take k)).map dg)
section
variable {w wr aO aW X:World} {l:List dS} {op al:Int} {aJ:Array Value} {aY:List dq} {k:Nat} {IA:NH} {i ic:Nat} {bC:NH} {j lc:Nat}
theorem oE{own:Nat->Prop}{g:Nat}(h:Ext w wr)(he:Ext wr aO)(J:Fr own aO aW)(aB:∀b,own b->w.heap.size<=b)(aR:w.heap.size<=g)(hX:Fr (λb=>b=g) aW X):Ext w X:=by
 have e1:Fr (λb=>w.heap.size<=b) w X:=Fr.trans (Fr.mono h λ_ h=>h.elim) (Fr.trans (Fr.mono he λ_ h=>h.elim) (Fr.trans (J.mono aB) (hX.mono λb O=>by subst O;exact aR)));exact e1.low λ_ h=>h
theorem kN.place(h:kN w wr l op al aJ aY k IA i ic bC j lc)(he:Ext wr aO)(bg:aY[k]?=some (.mx r)){c9:NH}{df:Nat}
  (aR:Gr (λb=>w.heap.size+3<=b/\(Value.slice IA i ic).ownBlock≠some b) (w.heap.size+3) 39 3 aW c9 (j+1) df ((cG l (aY.take k)).map dg++[dg (mG l r)]))
  (J:Fr (λb=>(Value.slice bC j lc).ownBlock=some b) aO aW) (bD:dz aO bC j lc c9 (j+1) df) (hX:aW.setCell ⟨w.heap.size+2,11,none⟩ (.slice c9 (j+1) df)=X) :
  kN w X l op al aJ aY (k+1) IA i ic c9 (j+1) df:=by
 have b9:=cP hX;have ap:∀b,(Value.slice bC j lc).ownBlock=some b->w.heap.size+3<=b:=λb O=>(h.g2.two.lt O).1;refine⟨oE h.ext he J (λb O=>by have:=ap b O;omega) ad b9,?_,?_,?_,?_⟩
 .exact((h.b4.aj he).on J λO=>by have:=ap _ O;omega).on b9 ad
 .exact((h.b6.aj he).on J λO=>by have:=ap _ O;omega).on b9 ad
 .rw[<-hX];exact((h.b7.aj he).on J λO=>by have:=ap _ O;omega).aK 11 _
 .have e1:bW l (aY.take (k+1))=bW l (aY.take k):=by rw[aU bg,(im l _ _).1];simp[bW]
  have e2:(cG l (aY.take (k+1))).map dg=(cG l (aY.take k)).map dg++[dg (mG l r)]:=by rw[aU bg,(im l _ _).2];simp[cG]
  rw[e1,e2];exact(((h.g2.aj he).swap.grow aR J bD).swap).cD b9 λb O _=>ad
theorem kN.int(h:kN w wr l op al aJ aY k IA i ic bC j lc)(he:Ext wr aO){x:VE}(bg:aY[k]?=some (.ex x)){cX:Nat}
  (aR:Gr (λb=>w.heap.size+3<=b/\(Value.slice bC j lc).ownBlock≠some b) (w.heap.size+3) 37 4 aW I (i+1) cX ((bW l (aY.take k)).map bo++[bo (bL l x)]))
  (J:Fr (λb=>(Value.slice IA i ic).ownBlock=some b) aO aW) (bD:dz aO IA i ic I (i+1) cX) (hX:aW.setCell ⟨w.heap.size+2,10,none⟩ (.slice I (i+1) cX)=X) :
  kN w X l op al aJ aY (k+1) I (i+1) cX bC j lc:=by
 have b9:=cP hX;have ap:∀b,(Value.slice IA i ic).ownBlock=some b->w.heap.size+3<=b:=λb O=>(h.g2.one.lt O).1;refine⟨oE h.ext he J (λb O=>by have:=ap b O;omega) ad b9,?_,?_,?_,?_⟩
 .exact((h.b4.aj he).on J λO=>by have:=ap _ O;omega).on b9 ad
 .exact((h.b6.aj he).on J λO=>by have:=ap _ O;omega).on b9 ad
 .rw[<-hX];exact((h.b7.aj he).on J λO=>by have:=ap _ O;omega).aK 10 _
 .have e1:cG l (aY.take (k+1))=cG l (aY.take k):=by rw[aU bg,(im l _ _).2];simp[cG]
  have e2:(bW l (aY.take (k+1))).map bo=(bW l (aY.take k)).map bo++[bo (bL l x)]:=by rw[aU bg,(im l _ _).1];simp[bW]
  rw[e1,e2];exact((h.g2.aj he).grow aR J bD).cD b9 λb O _=>ad
end
theorem vb{V aO:World}{d:D}{B:Nat}{A:NH}{n c a6 aD:Nat}(h:d.rep aO (fresh V aO) cs)(aT:B<=V.heap.size)(ac:∀b,(Value.slice A n c).ownBlock=some b->b<V.heap.size)(az:∀b,(Value.slice I a6 aD).ownBlock=some b->b<V.heap.size):
  d.rep aO (lD (λb=>B<=b/\(Value.slice I a6 aD).ownBlock≠some b) aO (.slice A n c)) cs:=
 D.aM (λb O=>⟨⟨Nl aT O.1,λhc=>by have:=az b hc;have:=O.1;omega⟩,O.2,λhc=>by have:=ac b hc;have:=O.1;omega⟩) _ _ h
theorem EL(eg:wq)(g:Nat)(l:List dS)(M:List bM)(F:List aI)(bF:Bool)(s:ByteArray)(aY:List dq)(v:dS)(f:aI)(J:dI l s=some v)(aj:v.kind=3)(h0:0<=v.n)(hF:F[v.n.toNat]?=some f)(ca:jA M l f.params aY)(jo:f.params.length<=1000)
  (eo en:Int) (es:ByteArray) (EA:NH) (em ec:Nat) (rs:ByteArray) (cr:NH) (b5 rc:Nat) (cR:NH) (n1 c1:Nat) (A2:NH) (n2 c2:Nat) (cu:NH) (n3 c3:Nat) (st:Int)
  (w:World) (bx:ux w g l) (hM:zo w g M) (b6:Av w g F) (hs:Sl w (av w) cR n1 (aY.map eP)) :
  Calls prog 115 #[.pointer (some ⟨g,0,none⟩),.agg #[.int .i64 (if bF then 4 else 3),s,eo,en,es,.slice EA em ec,rs,.slice cr b5 rc,.slice cR n1 c1,.slice A2 n2 c2,.slice cu n3 c3],st] w
   (Gv w (lZ bF v.n (bW l aY) (cG l aY))):=by
 have hlen:=mg ca;have c5:aY.length=n1:=by rw[<-hs.1,M5]
 obtain⟨aD,bZ,ce,bT,dX,ck,bH⟩:=Es ca J hF bx hM b6 hs;obtain⟨bp,cz,bJ⟩:=v;simp only at aj h0 hF;subst aj;obtain⟨al,rfl⟩:=M6 h0;clear hs bx hM b6 ca J hF h0;obtain⟨op,cp⟩:∃op:Int,op=if bF then 3 else 2:=⟨_,rfl⟩
 have hx:lZ bF (al:Int) (bW l aY) (cG l aY)=⟨op,al,false,none,ky,bW l aY,cG l aY⟩:=by rw[cp];rfl
 rw[hx];clear hx;obtain⟨bN,ay⟩:∃bN:Int,bN=if bF then 4 else 3:=⟨_,rfl⟩
 have cL:(bN == 4)=bF:=by rw[ay];cases bF<;>rfl
 rw[<-ay];clear ay;go_enter func115,ntmps115;cases bF
 all_goals
  simp only[if_true,Nz,if_false] at cp;go_upto_region 4 with(fail);generalize be:World.alloc _ _=W;have aF:=l9 be;have bX:=kB be;have cy:=iL be;have ba:an W (w.heap.size+2) 42 (fH op 0 false none 0 0 none 0 0):=by rw[<-be,cp];exact an.gF _ _ _ (by simp)
  clear be cp;obtain⟨bk,cn,bD,fF⟩:=jl aF bX cy ba;obtain⟨aR,bC,ln,lc,du,cA,y⟩:=bT.on aF;have cf:=ae y;obtain⟨a0,ak,af⟩:=bX.two;clear aF bX cy ba y;refine sK (λ_=>False) [6,11] (.free 0 (.free 1 (.free 2 (.held 3 (.free 4 (.held 5 (.pick [6,10] (λi=>bif i == 6 then .free 7 (.free 8 (.free 9 (.pick [10] (λ_=>.pick [11] (λ_=>.free 12 (.stop)))))) else .pick [6] (λ_=>.free 7 (.free 8 (.free 9 (.pick [11] (λ_=>.free 12 (.stop)))))))))))))) ?_
  iterate 3 refine tf ?_
  refine th ?_;refine tf ?_;refine th ?_;refine lP (P:=?_) (ops:=?_) (Q:=?_) (R:=?_) (tails:=?_) (rest:=.pick [11] (λ_=>.free 12 (.stop))) (aa:=?_) (C:=λdd V=>Ext W V/\an V dd 128 #[NF,(0:Int),(0:Int)]/\W.heap.size<=dd) (λkey=>?_) ?_
  rotate_left 6
  ·
   refine a2 ?_ ?_
   ·
    refine bP rfl (λK hK=>?_) rfl;go_simp;refine(eh bC ln lc l s W.drew (cf.on (Fr.ext NC.drew)) du).mono ?_;rintro e aO ⟨rfl,ar⟩;rw[bZ.o];simp only[jq,rP];refine dY hK ?_;clear hK K
    iterate 3 refine tf ?_
    refine aq ?_;refine ep ?_;generalize hV:World.alloc _ _=V;have aT:=aL hV;have aC:Ext W V:=hV▸(Fr.aF ar).alloc _;have hle:=(Fr.aF ar).size;clear hV ar;generalize aO.heap.size=dd at *;exact key dd V ⟨aC,aT,hle⟩
   ·
    refine ep ?_;refine aq ?_;refine bP rfl (λK hK=>?_) rfl;go_simp;generalize hV:World.alloc _ _=V;have aT:=aL hV;have aC:=aX hV;clear hV;refine(eh bC ln lc l s V.drew (cf.on (Fr.ext aC.drew)) du).mono ?_;rintro e aO ⟨rfl,ar⟩;rw[bZ.o];simp only[jq,rP];refine dY hK ?_;clear hK K
    iterate 3 refine tf ?_
    have cg:=aT.aj (Fr.aF ar);have aM:=aC.trans (Fr.aF ar);clear aT aC ar;exact key W aO ⟨aM,cg,MU _⟩
  ·
   rintro dd V ⟨aC,b4,bd⟩;have cZ:=fF.lt;obtain⟨bs,am,aK⟩:=b4.two;clear a0 ak af cA;refine aq ?_;refine bP rfl (λK hK=>?_) rfl;go_simp;refine dY hK ?_;clear hK K;refine tf ?_;refine cj ?_;generalize hX:World.setCell _ _ _=X;obtain⟨bE,bt,_⟩:=qu b4 aC bd hX;have a8:=ae (bk.trans bt);have a3:=ae (cn.aj bt);have u:=ae (bD.aj bt);have m:=fF.aj bt;have bB:=ae m;clear hX bs am aK b4 aC bt;obtain⟨bs,am,aK⟩:=bE.two;obtain⟨a0,ak,af⟩:=m.two;clear m;go_upto_region 12 with(fail);generalize co:World.setCell _ _ _=Y;have cM:=u.lt;have bz:=cP co;have aZ:an Y (w.heap.size+2) 42 (fH op al false none 0 0 none 0 0):=co▸bB.aK 1 _;have bf:Ext w Y:=(Fr.trans (a8.mono λ_ h=>h.elim) bz).low (λb hm=>ad);have ag:=a3.on bz ad;have ax:=u.on bz ad;obtain⟨a4,bm,bj,bV⟩:=jl bf ag ax aZ;have bI:=bE.on bz ad;obtain⟨cv,FA,fn,fc,cm,f3,bR⟩:=ck.o;have cb:F[al]?=some f:=by have:=ce.o;simpa using this
   have aU:al<fn:=by have ac:=(List.getElem?_eq_some_iff.1 cb).1;have az:=bR.1;rw[M5] at az;omega
   obtain⟨ch,cT,b0,cs,rfl,cH,aB,b1,dh,a6⟩:=bR.g1 nQ aU;rw[cb] at aB;injection aB with aB;subst aB;obtain⟨PA,pn,pc,f0,bn,bc,rfl,c7,c6,cc,_⟩:=lr.1 b1;replace f3:=(bf.cell cv (λh=>h)).trans f3
   have f4:=(bf.cell cH (λh=>h)).trans (a6 1 _ rfl);have U:=bf.size;have cS:ch<Y:=M0 cH U;have dl:g<Y:=M0 cv U;have gM:f.params.length=pn:=by rw[<-cc.1,M5]
   have gN:=ae cc;obtain⟨bs,am,aK⟩:=bI.two;obtain⟨a0,ak,af⟩:=ag.two;obtain rfl:n1=pn:=ad;have bY:=ae (show kN w Y l op al #[bN,s,eo,en,es,.slice EA em ec,rs,.slice cr b5 rc,.slice cR n1 c1,.slice A2 n2 c2,.slice cu n3 c3] aY 0 none 0 0 none 0 0 from
    ⟨bf,ag,ax,aZ,lS.nil _ _ _ _ _ _⟩)
   clear co bz bf ax aZ bE bR b1 dh a6 cc cH a8 a3 u bB bd ag bI a4 bm bj bV;go_wp2;refine eJ (λ_=>False) [(0,3),(1,3),(2,3),(3,3),(4,0),(5,3),(6,0),(7,3),(8,3),(9,0),(10,3)] ?_
   iterate 4 refine pf ?_
   refine ph ?_;refine pf ?_;refine ph ?_
   iterate 2 refine pf ?_
   refine ph ?_;refine pf ?_;refine aG ?_;clear bs am aK f3 f4 cS;go_wp2;clear a0 ak af;go_loopw [11] (λL wr=>∃(k:Nat) (IA:NH) (i ic:Nat) (bC:NH) (j lc:Nat),k<=n1/\L=.int .i64 k/\i<=k/\j<=k/\kN w wr l op al #[bN,s,eo,en,es,.slice EA em ec,rs,.slice cr b5 rc,.slice cR n1 c1,.slice A2 n2 c2,.slice cu n3 c3] aY k IA i ic bC j lc) (λL _=>n1 - (intOf L).toNat)
   case atStart=>exact⟨0,none,0,0,none,0,0,ad,rfl,MU _,MU _,⟨bY.ext.drew,bY.b4,bY.b6,bY.b7,bY.g2.aj NC.drew⟩⟩
   case round=>
    obtain⟨k,IA,i,ic,bC,j,lc,aj,rfl,bw,aw,hC⟩:=hrel;clear bY;have bY:=ae hC;obtain⟨a0,ak,af⟩:=hC.b4.two;by_cases ap:k<n1
    .obtain⟨ab,cC,a,cs,rfl,H,bg,S,bu,Z⟩:=(bH.on (Fr.ext hC.ext)).g1 tx ap;obtain⟨pb,gR,q,cE,rfl,bl,bv,bG,bb,gS⟩:=(gN.on (Fr.ext hC.ext)).g1 sd ap;obtain rfl:=oC.1 bG;have aV:=gS 1 _ rfl;have N:pb<wr:=bl;have bK:ab<wr:=H;have HA:=ae bg;rcases nK aD.o bv bg with⟨r,rfl,eE,eF⟩|⟨x,rfl,eE,cd⟩
     .rw[eE] at aV;obtain⟨cI,cB,cx,cq,b9,zc,rfl,ah⟩:=EU S;have c0:=Z 0 _ rfl;have cU:=Z 1 _ rfl;have gP:=Z 2 _ rfl;have bi:=Z 3 _ rfl;have bO:=Z 4 _ rfl;have bQ:=Z 5 _ rfl;have bU:=Z 6 _ rfl;simp only[Nd] at c0;have bA:=ae ah;clear hC bu Z bG bb gS bl H S bg bv ah;go_upto_region 20 with(fail);generalize hV:World.alloc _ _=V;have ai:=aX hV;have n:=aL hV;have ba:=bY.b7.aj ai;replace aV:=((Fr.uk ai).1 pb _ N).trans aV
      replace N:pb<V:=M0 N ai.size
      have mL:=bY.b7.lt;have cl:=ai.size;clear hV a0 ak af c0 cU gP bi bO bQ bU bK;obtain⟨d0,aQ,aS⟩:=n.two;obtain⟨a0,ak,af⟩:=ba.two;clear ba n;go_wp2;refine eJ (λ_=>False) [(0,3),(1,0),(2,3),(3,3),(4,3),(5,3),(6,0),(7,3)] ?_;refine pf ?_;refine ph ?_
      iterate 4 refine pf ?_
      refine ph ?_;refine pf ?_;refine aG ?_;clear aV N;go_wp2;refine eJ (λ_=>False) [(0,3),(1,0),(2,3),(3,3),(4,0),(5,3),(6,1),(7,1),(8,2),(9,3),(10,2)] ?_;refine pf ?_;refine bS (v:=?_) rfl (by rfl) (λV hV=>?_) ?_;rotate_left
      .obtain⟨hVc,hVf⟩:=Fr.jF hV
       (go_simp<;>with_reducible rfl)
      try simp only[PU]
      iterate 2 refine pf ?_
      refine bS (v:=?_) rfl (by rfl) (λV hV=>?_) ?_;rotate_left
      .obtain⟨hVc,hVf⟩:=Fr.jF hV
       (go_simp<;>with_reducible rfl)
      try simp only[PU]
      refine pf ?_;refine aE rfl (λK hK=>?_);go_simp;refine(eg g l M r eF st cI cB cx cq _ (bT.on (bY.ext.trans ai).drew.drew) (dX.on (bY.ext.trans ai).drew.drew) (D.on bA.o (Fr.ext ai.drew.drew))).mono ?_;rintro e aO ⟨g6,eO,cW,bh,cY,rfl,cw,ar⟩;refine dB hK (ar) ?_;clear hK K;have aM:Ext V aO:=Fr.aF (Fr.aF ar);have z:(dg (mG l r)).rep aO (fresh V aO) [g6,eO,.slice cW bh cY]:=cw;have aC:=ai.trans aM;have aP:=aM.size;have ct:∀b,(Value.slice IA i ic).ownBlock=some b->b<V.heap.size:=λb O=>by have:=(bY.g2.one.lt O).2;omega
      have a7:∀b,(Value.slice bC j lc).ownBlock=some b->b<V.heap.size:=λb O=>by have:=(bY.g2.two.lt O).2;omega
      refine rS ?_;refine au rfl (λK hK=>?_);rw[if_pos (by rfl)];refine rA Jd (.tmp 92) (.tmp 98) (by rfl) (bY.g2.aj aC).two (vb z ad a7 ct) (by rfl) (by rfl) (by rfl) ad ad ad ?_;intro c9 df aW ao aA ci b8;have m:=(bY.b7.aj aC).on aA (λO=>by have:=(bY.g2.two.lt O).1;omega);have b7:=br ao aA ci aC;clear ao aA ci cw z ar aM aC ai a0 ak af d0 aQ aS ct a7 aP;obtain⟨a0,ak,af⟩:=m.two;clear m;refine dY hK ?_;clear hK K;refine pf ?_;refine au rfl (λK hK=>?_);go_simp;refine dY hK ?_;clear hK K;refine aG ?_;clear a0 ak af;generalize hX:World.setCell aW _ _=cD;have cF:=ae (bY.place b7.2.2.2 HA.o b7.1 b7.2.1 b7.2.2.1 hX);clear hX;go_wp2;go_roundw
      case rel=>exact⟨k+1,IA,i,ic,c9,j+1,df,ad,by go_num,ad,ad,cF.o⟩
      case measure=>exact aH
     .rw[eE] at aV;obtain⟨b9,aN,zc,cO,bh,xs,cW,cN,cY,rfl,ah⟩:=ES S;have c0:=Z 0 _ rfl;have cU:=Z 1 _ rfl;have gP:=Z 2 _ rfl;have bi:=Z 3 _ rfl;have bO:=Z 4 _ rfl;have bQ:=Z 5 _ rfl;have bU:=Z 6 _ rfl;simp only[Nd] at c0;have bA:=ae ah;clear hC bu Z bG bb gS bl H S bg bv ah;go_upto_region 20 with(fail);generalize hV:World.alloc _ _=V;have ai:=aX hV;have n:=aL hV;have ba:=bY.b7.aj ai;replace aV:=((Fr.uk ai).1 pb _ N).trans aV
      replace N:pb<V:=M0 N ai.size
      have mL:=bY.b7.lt;have cl:=ai.size;clear hV a0 ak af c0 cU gP bi bO bQ bU bK;obtain⟨d0,aQ,aS⟩:=n.two;obtain⟨a0,ak,af⟩:=ba.two;clear ba n;go_wp2;refine eJ (λ_=>False) [(0,3),(1,0),(2,3),(3,3),(4,3),(5,3),(6,0),(7,3)] ?_;refine pf ?_;refine ph ?_
      iterate 4 refine pf ?_
      refine ph ?_;refine pf ?_;refine aG ?_;clear aV N;go_wp2;refine eJ (λ_=>False) [(0,3),(1,0),(2,3),(3,3),(4,0),(5,3),(6,1),(7,1),(8,2),(9,3),(10,2)] ?_;refine pf ?_;refine bS (v:=?_) rfl (by rfl) (λV hV=>?_) ?_;rotate_left
      .obtain⟨hVc,hVf⟩:=Fr.jF hV
       (go_simp<;>with_reducible rfl)
      try simp only[PU]
      iterate 2 refine pf ?_
      refine bS (v:=?_) rfl (by rfl) (λV hV=>?_) ?_;rotate_left
      .obtain⟨hVc,hVf⟩:=Fr.jF hV
       (go_simp<;>with_reducible rfl)
      try simp only[PU]
      refine pf ?_;refine aE rfl (λK hK=>?_);go_simp;refine(gB l x cd g st _ _ _ _ _ _ _ (bT.on (bY.ext.trans ai).drew.drew) (D.on bA.o (Fr.ext ai.drew.drew))).mono ?_;rintro e aO ⟨cJ,da,b2,c8,de,db,rfl,cw,ar⟩;refine dB hK (ar) ?_;clear hK K;have aM:Ext V aO:=Fr.aF (Fr.aF ar);have z:(bo (bL l x)).rep aO (fresh V aO) [cJ,da,b2,.slice c8 de db]:=cw;have aC:=ai.trans aM;have aP:=aM.size;have ct:∀b,(Value.slice IA i ic).ownBlock=some b->b<V.heap.size:=λb O=>by have:=(bY.g2.one.lt O).2;omega
      have a7:∀b,(Value.slice bC j lc).ownBlock=some b->b<V.heap.size:=λb O=>by have:=(bY.g2.two.lt O).2;omega
      refine rS ?_;refine au rfl (λK hK=>?_);rw[if_pos (by rfl)];refine rA p2 (.tmp 102) (.tmp 108) (by rfl) (bY.g2.aj aC).one (vb z ad ct a7) (by rfl) (by rfl) (by rfl) ad ad ad ?_;intro I cX aW ao aA ci b8;have m:=(bY.b7.aj aC).on aA (λO=>by have:=(bY.g2.one.lt O).1;omega);have b7:=br ao aA ci aC;clear ao aA ci cw z ar aM aC ai a0 ak af d0 aQ aS ct a7 aP;obtain⟨a0,ak,af⟩:=m.two;clear m;refine dY hK ?_;clear hK K;refine pf ?_;refine au rfl (λK hK=>?_);go_simp;refine dY hK ?_;clear hK K;refine aG ?_;clear a0 ak af;generalize hX:World.setCell aW _ _=cD;have cF:=ae (bY.int b7.2.2.2 HA.o b7.1 b7.2.1 b7.2.2.1 hX);clear hX;go_wp2;go_roundw
      case rel=>exact⟨k+1,I,i+1,cX,bC,j,lc,ad,by go_num,ad,ad,cF.o⟩
      case measure=>exact aH
    .obtain rfl:k=n1:=ad;have ba:=hC.b7;have cy:=hC.b6;clear hC a0 ak af;obtain⟨a0,ak,af⟩:=ba.two;obtain⟨d0,aQ,aS⟩:=cy.two;clear ba;go_wp2;generalize hX:World.setCell _ _ _=cD;obtain⟨T,cK,b3⟩:=a9 (fH op al false IA i ic bC j lc).toList (by rfl) cy bY.ext ad hX;clear hX a0 ak af d0 aQ aS;obtain⟨bq,a1,a5⟩:=T.two;refine NB (v:=.agg (fH op al false IA i ic bC j lc)) (by simp[results,Tryz.results115,go_sem,bq]) rfl ?_;have hG:=bY.g2.cD b3 λb O _=>ad;have fd:=b3.size;rw[Nb ad] at hG;refine⟨IA,i,ic,bC,j,lc,rfl,?_,cK⟩;exact jP (hG.one.sl (λb ac az=>⟨by have:=az.1;omega,ac⟩) (λb ac az=>⟨ad,ac⟩)) (hG.two.sl (λb ac az=>⟨by have:=az.1;omega,ac⟩) (λb ac az=>⟨ad,ac⟩)) hG.one.cap.1 hG.two.cap.1
def k6(x:aA):Prop:=(x.op=2\/x.op=3)\/(x.ints=[]/\x.places=[])
def Gg(u:aw):Prop:=∀p∈u.procs,∀x∈p.code,k6 x
theorem eN{y:aA}(h:∀x∈c,k6 x)(bb:k6 y):∀x∈c++[y],k6 x:=λx hx=>by
 rcases Nc.1 hx with hx|hx
 .exact h x hx
 .rw[Nv.1 hx];exact bb
theorem kr{b:Nat}(h:∀x∈c,k6 x):∀x∈gw c b t,k6 x:=λx hx=>by
 rcases qH hx with hx|⟨y,bb,rfl⟩
 .exact h x hx
 .exact h y (M4 bb)
theorem dE:∀(b:al) (l:List dS) (n:Int) (c:List aA),(∀x∈c,k6 x)->∀x∈(dP b l n c).1,k6 x
 | .nil,_,_,c,h=>h
 | .set true s e rest,l,n,c,h=>dE rest _ _ _ (eN h (.inr ⟨rfl,rfl⟩))
 | .set false s e rest,l,n,c,h=>dE rest _ _ _ (eN h (.inr ⟨rfl,rfl⟩))
 | .call g s aY rest,l,n,c,h=>dE rest _ _ _ (eN h (.inl (by cases g<;>simp[lZ])))
 | .lock u r rest,l,n,c,h=>dE rest _ _ _ (eN h (.inr ⟨rfl,rfl⟩))
 | .ite e th el rest,l,n,c,h=>by
  have ac:=dE th l n _ (eN (y:=kM (bL l e) 0) h (.inr ⟨rfl,rfl⟩));simp only[dP];refine dE rest _ _ _ ?_;split
  .exact kr ac
  .exact kr (dE el l _ _ (kr (eN ac (.inr ⟨rfl,rfl⟩))))
 | .gM e th rest,l,n,c,h=>by
  have ac:=dE th l n _ (eN (y:=kM (bL l e) 0) h (.inr ⟨rfl,rfl⟩))
  exact dE rest _ _ _ (kr (eN ac (.inr ⟨rfl,rfl⟩)))
 | .ret rest,l,n,c,h=>dE rest _ _ _ (eN h (.inr ⟨rfl,rfl⟩))
theorem tL(p:bN):Gg (gQ p):=λq bv=>by
 simp only[gQ,Ns] at bv;obtain⟨f,_,rfl⟩:=bv;exact eN (dE _ _ _ _ (by simp)) (.inr ⟨rfl,rfl⟩)
structure yj(u:aw):Prop where
 ok:cT u
 sh:Gg u
theorem yj.KD{u:aw}{f:ao}(h:yj u)(hF:cf u f):∃cq x,u.procs[f.proc.toNat]?=some cq/\cq.code[f.pc.toNat]?=some x/\f.proc.toNat<u.procs.length/\f.pc.toNat<cq.code.length/\0<=f.proc/\0<=f.pc/\(∃len:Nat,cq.code.length=len+1/\ir (bg u) cq.locals cq.az len x)/\x.ints.length<=200/\x.places.length<=200/\(x.op≠8->f.pc+1<cq.code.length)/\qX (bg u) cq:=by
 obtain⟨cq,x,hp,bh,hx,len,hl,aN,hn⟩:=qB h.ok hF;have ac:=(List.getElem?_eq_some_iff.1 hp).1;have az:=(List.getElem?_eq_some_iff.1 hx).1;have hlen:x.ints.length<=200/\x.places.length<=200:=by
  rcases h.sh cq (M4 hp) x (M4 hx) with aV|⟨aV,aU⟩
  .rcases aN with⟨aU,_⟩|⟨_,_,sg,_,hs,cB,bG,_⟩|⟨aU,_⟩|⟨aU,_⟩|⟨aU,_⟩|⟨aU,_⟩
   .omega
   .simp only[bg,List.getElem?_map] at hs
    cases bv:u.procs[x.target.toNat]? with
    | none=>rw[bv] at hs;cases hs
    | some r=>
     rw[bv] at hs;simp only[Option.map_some,Nw] at hs;have ba:=h.ok.procs r (M4 bv);have:=ba.ints;have:=ba.az;subst hs;simp only at cB bG;omega
   .omega
   .omega
   .omega
   .omega
  .rw[aV,aU];simp
 exact⟨cq,x,hp,hx,ac,az,hF.proc,hF.pc,⟨len,hl,aN⟩,hlen.1,hlen.2,hn,bh⟩
def oN(l:List Int)(t:Int):Int:=if t<0 then -1 else l.getD t.toNat (-1)
def eA(l:List Int):Nat->Int->Int
 | 0,t=>t
 | k+1,t=>if t<0 then t else eA l k (oN l t)
def dh(l:List Int):Prop:=∀x∈l,-1<=x/\x<l.length
section
variable {l:List Int}
theorem yN(h:t<0):∀k,eA l k t=t
 | 0=>rfl
 | k+1=>by rw[eA,if_pos h]
theorem lC:∀(a b:Nat) (t:Int),eA l (a+b) t=eA l b (eA l a t)
 | 0,b,t=>by rw[Nm];rfl
 | a+1,b,t=>by
  rw[show a+1+b=(a+b)+1 by omega,eA,eA];split
  .rename_i h;rw[yN h]
  .exact lC a b _
theorem uZ(k:Nat)(t:Int):eA l (k+1) t=eA l 1 (eA l k t):=lC k 1 t
theorem G2(h:0<=t):eA l 1 t=oN l t:=by rw[eA,if_neg ad,eA]
theorem lJ(hl:dh l)(t:Int):-1<=oN l t/\oN l t<l.length:=by
 unfold oN;split
 .omega
 .rw[List.getD_eq_getElem?_getD]
  cases h:l[t.toNat]? with
  | none=>simp;omega
  | some x=>simpa using hl x (M4 h)
theorem sk(hl:dh l)(h0:-1<=t)(ac:t<l.length):∀k,-1<=eA l k t/\eA l k t<l.length:=by
 intro k
 induction k with
 | zero=>exact⟨h0,ac⟩
 | succ k aq=>
  rw[uZ,eA];split
  .exact aq
  .exact lJ hl _
theorem dO{j k:Nat}(h:0<=eA l k t)(bi:j<=k):0<=eA l j t:=by
 rcases Int.lt_or_le (eA l j t) 0 with hn|hn
 .have:=lC (l:=l) j (k - j) t;rw[show j+(k - j)=k by omega,yN hn] at this;omega
 .exact hn
theorem oM:∀(n:Nat) (m:List Nat),m.Nodup->(∀x∈m,x<n)->m.length<=n
 | 0,[],_,_=>MU _
 | 0,x::m,_,h=>absurd (h x (by simp)) ad
 | n+1,m,hn,h=>by
  have aq:=oM n (m.erase n) (hn.erase n) λx hx=>by
   have ac:=h x (List.mem_of_mem_erase hx);have az:x≠n:=λe=>by
    subst e;exact(List.Nodup.not_mem_erase hn) hx
   omega
  rw[List.length_erase] at aq;split at aq<;>omega
theorem zH(hl:dh l)(ac:t<l.length)(h:0<=eA l l.length t):∃i j,i<j/\j<=l.length/\eA l i t=eA l j t:=by
 have h0:0<=t:=dO (j:=0) h (Nq _);refine Classical.byContradiction λbY=>?_;have bb:((List.range (l.length+1)).map λk=>(eA l k t).toNat).Nodup:=by
  rw[List.Nodup,List.pairwise_iff_getElem];intro i j aN bi v heq;simp only[M5,List.length_range] at aN bi;simp only[List.getElem_map,List.getElem_range] at heq;have cl:=dO (j:=i) h ad;have cO:=dO (j:=j) h ad;exact bY ⟨i,j,v,ad,ad⟩
 have:=oM l.length _ bb λx hx=>by
  obtain⟨k,aj,rfl⟩:=Ns.1 hx;have a:=List.mem_range.1 aj;have az:=dO (j:=k) h ad;have aV:=(sk hl ad ac k).2;omega
 simp only[M5,List.length_range] at this;omega
def rW(l:List Int)(t:Int):Prop:=∀k,0<=eA l k t
theorem uY{c:Int}{d:Nat}(h:eA l d c=c):∀m,eA l (m*d) c=c
 | 0=>by rw[Nat.zero_mul];rfl
 | m+1=>by rw[Nat.succ_mul,lC,uY h m,h]
theorem wR{c:Int}{d:Nat}(h0:0<=c)(hd:0<d)(h:eA l d c=c):rW l c:=λk=>by
 refine dO (k:=k*d) (by rw[uY h];exact h0) ?_;exact Nat.le_mul_of_pos_right k hd
theorem pZ(hl:dh l)(ac:t<l.length)(h:0<=eA l l.length t):rW l t:=by
 obtain⟨i,j,v,bi,he⟩:=zH hl ac h;have hc:=dO (j:=i) h ad;have hd:eA l (j - i) (eA l i t)=eA l i t:=by rw[<-lC,show i+(j - i)=j by omega,he]
 have bg:=wR hc ad hd;intro k;have:=bg k;rw[<-lC] at this;exact dO this ad
theorem rW.next(h:rW l t):rW l (oN l t):=λk=>by
 have h0:=h 0;have:=h (k+1);rw[eA,if_neg (by exact Int.not_lt.2 h0)] at this;exact this
def fa(l:List Int):List Int:=((List.range l.length).map Int.ofNat).filter λt=>decide (0<=eA l (l.length+1) t)
theorem gk(hl:dh l):t∈fa l↔0<=t/\t<l.length/\rW l t:=by
 unfold fa;rw[List.mem_filter];constructor
 .rintro⟨ac,az⟩;obtain⟨k,aj,rfl⟩:=Ns.1 ac;have a:=List.mem_range.1 aj;have i:0<=eA l (l.length+1) (Int.ofNat k):=by simpa using az
  exact⟨Int.natCast_nonneg k,by show (k:Int)<_;omega,pZ hl (by show (k:Int)<_;omega) (dO i ad)⟩
 .rintro⟨h0,ac,az⟩;refine⟨Ns.2 ⟨t.toNat,List.mem_range.2 ad,by show ((t.toNat:Nat):Int)=t;omega⟩,by simpa using az _⟩
theorem uK(hl:dh l)(h:t∈fa l):oN l t∈fa l:=by
 obtain⟨h0,ac,az⟩:=(gk hl).1 h;exact(gk hl).2 ⟨az.next 0,(lJ hl t).2,az.next⟩
theorem w5(hl:dh l){S:Int->Prop}(hS:∀t,S t->0<=t/\S (oN l t))(ht:S t)(ac:t<l.length):t∈fa l:=by
 refine(gk hl).2 ⟨(hS t ht).1,ac,λk=>?_⟩;have:∀(k:Nat) (t:Int),S t->0<=eA l k t:=by
  intro k
  induction k with
  | zero=>exact λt ht=>(hS t ht).1
  | succ k aq=>
   intro t ht;rw[eA,if_neg (by have:=(hS t ht).1;omega)];exact aq _ (hS t ht).2
 exact this k t ht
def cX(l:List Int)(k:Nat)(t:Nat):Bool:=decide (t<l.length) && decide (0<=eA l k (t:Int))
def jZ(l:List Int)(f:Nat->Bool)(t:Nat):Bool:=decide (t<l.length) && f t && decide (0<=oN l (t:Int)) && f (oN l (t:Int)).toNat
theorem ni(hl:dh l)(k t:Nat):jZ l (cX l k) t=cX l (k+1) t:=by
 unfold jZ cX;by_cases ht:t<l.length
 .have hs:eA l (k+1) (t:Int)=eA l k (oN l t):=by rw[eA,if_neg ad]
  rw[hs];simp only[ht,decide_true,Bool.true_and];by_cases hn:0<=oN l (t:Int)
  .have ap:=(lJ hl (t:Int)).2;have e:((oN l (t:Int)).toNat:Int)=oN l t:=ad;have cG:(oN l (t:Int)).toNat<l.length:=ad;rw[e];simp only[hn,cG,decide_true,Bool.and_true,Bool.true_and];by_cases J:0<=eA l k (oN l (t:Int))
   .have:0<=eA l k (t:Int):=dO (k:=k+1) (by rw[hs];exact J) ad;simp[J,this]
   .simp[J]
  .have J:¬0<=eA l k (oN l (t:Int)):=λh=>hn (dO (j:=0) h (Nq _));simp[hn,J]
 .simp[ht]
theorem sO(hl:dh l){k:Nat}(h:∀t,t<l.length->cX l (k+1) t=cX l k t):∀m t,t<l.length->cX l (k+m) t=cX l k t
 | 0,t,_=>rfl
 | m+1,t,ht=>by
  have aq:=sO hl h m;rw[show k+(m+1)=(k+m)+1 by omega,<-ni hl,<-h t ht,<-ni hl];unfold jZ;have e1:∀t,t<l.length->cX l (k+m) t=cX l k t:=aq;rw[e1 t ht];by_cases hn:0<=oN l (t:Int)
  .have ap:=(lJ hl (t:Int)).2;rw[e1 (oN l (t:Int)).toNat ad]
  .simp[hn]
theorem Aa(hl:dh l){k:Nat}(h:∀t,t<l.length->cX l (k+1) t=cX l k t){t:Nat}(ht:t<l.length):cX l k t=true↔(t:Int)∈fa l:=by
 rw[gk hl];have ac:=sO hl h l.length t ht;constructor
 .intro aj;rw[aj] at ac;have az:0<=eA l (k+l.length) (t:Int):=by simpa[cX,ht] using ac
  exact⟨ad,ad,pZ hl ad (dO az ad)⟩
 .rintro⟨_,_,bg⟩;simp[cX,ht,bg k]
theorem vO{k t:Nat}(h:cX l (k+1) t=true):cX l k t=true:=by
 unfold cX at *;simp only[Ng,Ny] at h ⊢;exact⟨h.1,dO h.2 ad⟩
def jn(l:List Int)(t:Int):Option Nat:=(List.range l.length).find? λm=>decide (eA l (m+1) t=t)
def zw(l:List Int):List Int:=
 match ((List.range l.length).map Int.ofNat).find? λt=>(jn l t).isSome with
 | none=>[]
 | some t=>(List.range ((jn l t).getD 0+1)).map λk=>eA l k t
end
end Go.Proofs.YtnigabjngpnbiabGreat

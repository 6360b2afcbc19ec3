/- Part 23 of the proof. No condition of its own. -/
import Derived.Test.YtnigabjngpnbiabGreatF12
import Derived.Test.YtnigabjngpnbiabGreatF19
namespace Go.Proofs.YtnigabjngpnbiabGreat
open Go.RowKit Go.Proofs.Tryz
set_option maxRecDepth 1000000
set_option maxHeartbeats 25600000
set_option linter.unusedVariables false
variable{op t:Int}{b:Nat}{P:Nat->Prop}{p:Prop}
section
variable {w ab aO aW b6 cO X:World} {g B:Nat} {M:List bM} {F:List aI} {l:List dS} {bC:NH} {ln lc:Nat} {n:Int} {st:Nat} {code:List aA} {sites:List Int} {S:NH} {bQ:Nat} {bI:NH} {bx:Nat}
theorem cU.own(h:cU w g B M F l bC ln lc n st code sites S bQ bI bx){j:Nat}{v:Value}(hX:w.setCell ⟨g,j,none⟩ v=X):
  Mv g (.slice S code.length bQ) (.slice bI sites.length bx) w (.slice S code.length bQ) (.slice bI sites.length bx) X/\Fr (λb=>b=g) w X/\lS B 42 12 3 1 X S code.length bQ (code.map er) bI sites.length bx (sites.map D.i):=by
 have J:=cP hX;exact⟨Mv.KP (J.mono λb O=>.inl O),J,h.rows.cD J λb O _=>by have:=h.base.1;omega⟩
namespace C1
theorem Ch(h:p:=by
 rw[<-hX];exact aT.aK 5 _
 ):p:=h
end C1
open C1 in
theorem cU.stmt(h:cU w g B M F l bC ln lc n st code sites S bQ bI bx)(hX:w.setCell ⟨g,5,none⟩ (.int .i64 ((st+1:Nat):Int))=X) :
  cU X g B M F l bC ln lc n (st+1) code sites S bQ bI bx/\Mv g (.slice S code.length bQ) (.slice bI sites.length bx) w (.slice S code.length bQ) (.slice bI sites.length bx) X:=by
 exact Cg
namespace C2
theorem Ch(h:p:=by
 rw[<-hX];exact aT.aK 4 _
 ):p:=h
end C2
open C2 in
theorem cU.locals(h:cU w g B M F l bC ln lc n st code sites S bQ bI bx){a6:Int}(hX:w.setCell ⟨g,4,none⟩ a6=X):
  cU X g B M F l bC ln lc a6 st code sites S bQ bI bx/\Mv g (.slice S code.length bQ) (.slice bI sites.length bx) w (.slice S code.length bQ) (.slice bI sites.length bx) X:=by
 exact Cg
theorem cU.Fu(h:cU w g B M F l bC ln lc n st code sites S bQ bI bx){ag:List dS}{bn:NH}{a8 cq:Nat}(hn:a8<=1000000)(hl:Sl w (off (Ms g (.slice S code.length bQ) (.slice bI sites.length bx)) w) bn a8 (ag.map b2))(hX:w.setCell ⟨g,3,none⟩ (.slice bn a8 cq)=X):
  cU X g B M F ag bn a8 cq n st code sites S bQ bI bx/\Mv g (.slice S code.length bQ) (.slice bI sites.length bx) w (.slice S code.length bQ) (.slice bI sites.length bx) X:=by
 obtain⟨hM,J,hG⟩:=h.own hX;obtain⟨GA,gn,gc,MA,mn,mc,FA,fn,fc,aT,cw,bR,cS,H⟩:=h.blk;refine⟨⟨⟨GA,gn,gc,MA,mn,mc,FA,fn,fc,?_,cw,bR,cS.cZ hM,H.cZ hM⟩,⟨h.base.1,Nl h.base.2 hM.fr.size⟩,⟨hn,hl.cZ hM⟩,hG⟩,hM⟩;rw[<-hX];exact aT.aK 3 _
theorem cU.target(h:cU w g B M F l bC ln lc n st code sites S bQ bI bx)(O:b<code.length)(t:Int):∃aq,S=some ⟨aq,0,none⟩/\aq<w.heap.size/\w.frozen? ⟨aq,b*12+1,none⟩=false/\(∃u,w.cell? ⟨aq,b*12+1,none⟩=some (.int .i64 u))/\
  ∀X,w.setCell ⟨aq,b*12+1,none⟩ t=X->cU X g B M F l bC ln lc n st (gw code b t) sites S bQ bI bx/\Mv g (.slice S code.length bQ) (.slice bI sites.length bx) w (.slice S code.length bQ) (.slice bI sites.length bx) X:=by
 obtain⟨hl,xs,ac,az⟩:=h.rows.one;obtain⟨aq,bF,C,R,bg,a8,L⟩:=iF ac ad;have U:xs.length=code.length*12:=by rw[D.hP _ _ az,D.hi (z:=12) (λd hd=>by obtain⟨x,_,rfl⟩:=Ns.1 hd;exact mX x),M5]
 have ap:b*12+1<xs.length:=by rw[U];omega
 have bf:xs[b*12+1]?=some (xs[b*12+1]'ap):=List.getElem?_eq_getElem _;have hint:∃u,xs[b*12+1]?=some (.int .i64 u):=by
  have hm:(code.map er)[b]?=some (er (code[b]'O)):=by rw[List.getElem?_map,List.getElem?_eq_getElem O];rfl
  obtain⟨cs,ba,bu,bi⟩:=D.pJ az (z:=12) (λd hd=>by obtain⟨x,_,rfl⟩:=Ns.1 hd;exact mX x) hm;unfold er at ba;rw[bK,bj] at ba;obtain⟨y,rfl,ba⟩:=ba;rw[bj] at ba;obtain⟨cf,rfl,ba⟩:=ba;exact⟨_,bi 1 _ rfl⟩
 refine⟨aq,bF,R,a8 _,?_,λX hX=>?_⟩
 .obtain⟨u,hu⟩:=hint;exact⟨u,bg _ _ hu⟩
 have aB:(Value.slice S code.length bQ).ownBlock=some aq:=by rw[bF];rfl
 have J:=cP hX;have hM:Mv g (.slice S code.length bQ) (.slice bI sites.length bx) w (.slice S code.length bQ) (.slice bI sites.length bx) X:=Mv.KP (J.mono λb O=>by subst O;exact .inr (.inl aB));have a:¬(Value.slice bI sites.length bx).ownBlock=some aq:=h.rows.ne aq aB;obtain⟨GA,gn,gc,MA,mn,mc,FA,fn,fc,aT,cw,bR,cS,H⟩:=h.blk;refine⟨⟨⟨GA,gn,gc,MA,mn,mc,FA,fn,fc,?_,cw,bR,?_,?_⟩,⟨h.base.1,Nl h.base.2 hM.fr.size⟩,⟨h.names.1,?_⟩,?_⟩,hM⟩
 .rw[cA];exact aT.on J (ax h.base.1)
 .rw[cA];exact cS.cZ hM
 .rw[cA];exact H.cZ hM
 .rw[cA];exact h.names.2.cZ hM
 .have bO:=L (b*12+1) t ad;rw[hX] at bO;rw[cA];refine⟨⟨by rw[M5,cA],_,bO,?_⟩,?_,h.rows.ne⟩
  .refine sJ t code xs b ?_ O;exact D.b0 (λb O=>⟨O.1,by have:=J.size;have:=O.2.1;omega,O.2.2⟩) _ _ (D.bZ (λb aZ=>J.block b aZ.2.1 λhe=>aZ.2.2 (by rw[aB,he])) _ _ az)
  .exact h.rows.two.dm J.size λb ap hp=>J.block b ap λhe=>by
    subst he;rcases hp with hp|hp
    .exact hp.2 aB
    .exact a hp
end
theorem an.cZ{w ab:World}{g:Nat}{t:TypeId}{cs:Array Value}{cv sv a f:Value}(h:an w b t cs)(hn:¬Ms g cv sv b)(hM:Mv g cv sv w a f ab):an ab b t cs/\¬Ms g a f b:=
 ⟨h.on hM.fr hn,λhm=>hn (hM.own b h.lt hm)⟩
theorem qD(b:al):b.isNil=decide (b.list.length=0):=by cases b<;>simp[al.isNil,al.list]
theorem uN(b:al):(dc b).length=b.list.length:=by rw[cM,M5]
def EK(e:dS):List Value:=[.string e.name,.int .i64 e.kind,.int .i64 e.n]
theorem jz:cq prog 124 128 (.agg #[NF,(0:Int),(0:Int)]) 3 32:=cq.mk' Tryz.underlying124 (by kernel_rfl) rfl ad
theorem ka{w:World}(e:dS):(b2 e).rep w P (EK e):=iQ.2 rfl
theorem lv{w:World}(l:List dS):D.aQ w P (l.map b2) (l.flatMap EK):=nj ka l
theorem uT{w:World}{P Q:Nat->Prop}:∀{l:List dS} {xs:List Value},D.aQ w P (l.map b2) xs->D.aQ w Q (l.map b2) xs
 | [],xs,h=>by simpa only[Nr,D.aQ] using h
 | e::l,xs,h=>by
  rw[M7] at h ⊢;obtain⟨x,y,rfl,hx,bb⟩:=dL.1 h;exact dL.2 ⟨x,y,rfl,iQ.2 (iQ.1 hx),uT bb⟩
theorem kX{w:World}{A:NH}{n:Nat}{l:List dS}(h:Sl w (av w) A n (l.map b2)):Src w 3 A n (l.flatMap EK):=
 Src.l0 (Sl.K7 (f:=EK) (sz:=3) (λ_ _ _ _ h=>iQ.1 h) (λ_=>rfl) h) (λ_ _=>rfl) (λx _ u hu=>by
  simp only[EK,Nk,List.not_mem_nil,or_false] at hu;rcases hu with rfl|rfl|rfl<;>rfl) ad
theorem iC{w aO:World}{g B:Nat}{M:List bM}{F:List aI}{l:List dS}{bC:NH}{ln lc:Nat}{n:Int}{st:Nat}{code:List aA}{sites:List Int}{S:NH}{bQ:Nat}{bI:NH}{bx:Nat}(h:cU w g B M F l bC ln lc n st code sites S bQ bI bx){d:D}{cs:List Value}(hd:d.rep aO (fresh w aO) cs):
  d.rep aO (LW B g (.slice S code.length bQ) (.slice bI sites.length bx) aO) cs:=by
 have ap:=h.lt;have u:=h.base;refine D.aM (λb O=>⟨by have:=O.1;omega,O.2,λhm=>?_⟩) _ _ hd;have ac:=O.1;rcases hm with hm|hm|hm
 .omega
 .have:=(h.rows.one.lt hm).2;omega
 .have:=(h.rows.two.lt hm).2;omega
theorem lu{w:World}{g:Bool}{e:VE}{eo en:Int}{es:ByteArray}{EA:NH}{em ec:Nat}(h:(bo e).rep w P [eo,en,es,.slice EA em ec]):
  (er ⟨op,t,g,some e,ky,[],[]⟩).rep w P [op,t,g,eo,en,es,.slice EA em ec,false,(0:Int),(),(),()]:=by
 unfold er;rw[bK];exact bj.2 ⟨_,rfl,bj.2 ⟨_,rfl,fE.2 ⟨_,rfl,dL.2 ⟨[_,_,_,_],_,rfl,h,oQ (aN.2 ⟨none,0,0,_,rfl,MU _,Sl.bY _,aN.2 ⟨none,0,0,[],rfl,MU _,Sl.bY _,aR.2 rfl⟩⟩)⟩⟩⟩⟩
theorem w9{w:World}{g:Bool}{p:bO}{pb:Bool}{pi:Int}{PA:NH}{pm pc:Nat}(h:(dg p).rep w P [pb,pi,.slice PA pm pc]):
  (er ⟨op,t,g,none,p,[],[]⟩).rep w P [op,t,g,(0:Int),(0:Int),NF,(),pb,pi,.slice PA pm pc,(),()]:=by
 unfold er;rw[bK];exact bj.2 ⟨_,rfl,bj.2 ⟨_,rfl,fE.2 ⟨_,rfl,q6 (dL.2 ⟨[_,_,_],_,rfl,h,aN.2 ⟨none,0,0,_,rfl,MU _,Sl.bY _,aN.2 ⟨none,0,0,[],rfl,MU _,Sl.bY _,aR.2 rfl⟩⟩⟩)⟩⟩⟩
def l6(U:h2)(nk:Int)(F:List aI)(b:al):Prop:=
 ∀(G:Env) (d:Nat) (l:List dS) (V T:NI) (n:Int) (st:Nat) (code:List aA) (sites:List Int) (g B:Nat) (bC:NH) (ln lc:Nat) (S:NH) (bQ:Nat) (bI:NH) (bx:Nat) (A:NH) (m c:Nat) (w:World),
  eX G d V T b->Sc U G l V T n nk->wm F G l->(∀f∈F,f.params.length<=1000)->cU w g B U.af F l bC ln lc n st code sites S bQ bI bx->Sl w (off (Ms g (.slice S code.length bQ) (.slice bI sites.length bx)) w) A m (dc b)->
  code.length+2*b.num<=100000->sites.length=code.length->n+b.num<=100000->st+b.num<=100000->l.length+b.num<=100000->
  Calls prog 83 #[.pointer (some ⟨g,0,none⟩),.slice A m c] w λe ab=>e=.returned (.tuple #[])/\∃Y ao aH aZ y,y.length=(dP b l n code).1.length/\
   cU ab g B U.af F l bC ln lc (dP b l n code).2 (st+b.num) (dP b l n code).1 y Y ao aH aZ/\
   Mv g (.slice S code.length bQ) (.slice bI sites.length bx) w (.slice Y (dP b l n code).1.length ao) (.slice aH y.length aZ) ab
theorem g5:∀b:al,b.list.length<=b.num
 | .nil=>by simp[al.list]
 | .set _ _ _ rest=>by simp[al.list,al.num,g5 rest]
 | .call _ _ _ rest=>by simp[al.list,al.num,g5 rest]
 | .lock _ _ rest=>by simp[al.list,al.num,g5 rest]
 | .ite _ th el rest=>by simp[al.list,al.num];have:=g5 rest;omega
 | .gM _ th rest=>by simp[al.list,al.num];have:=g5 rest;omega
 | .ret rest=>by simp[al.list,al.num,g5 rest]
def gj:Code->Option Code
 | .loop c=>some c
 | .seq a b=>match gj a with
  | some c=>some c
  | none=>gj b
 | .block _ c=>gj c
 | .scope c=>gj c
 | .cond _ a b=>match gj a with
  | some c=>some c
  | none=>gj b
 | _=>none
noncomputable def tq:Code:=((Tryz.f83.body.bind gj).getD .skip)
def oY(U:h2)(nk:Int)(F:List aI)(b:al)(G:Env)(d:Nat)(l:List dS)(n:Int)(st:Nat)(code:List aA)(sites:List Int)(g B:Nat)(bC:NH)(ln lc:Nat)(S:NH)(bQ:Nat)(bI:NH)(bx:Nat)(A:NH)(m c:Nat)(w:World)(L:Value)(wr:World):Prop:=∃(k:Nat) (rest:al) (ag:List dS) (aU a9:NI) (a6:Int) (ab:Nat) (u:List aA) (y:List Int) (bn:NH) (a8 cq:Nat) (Y:NH) (ao:Nat) (aH:NH) (aZ:Nat),L=.int .i64 k/\k<=m/\b.list.drop k=rest.list/\dP rest ag a6 u=dP b l n code/\ab+rest.num=st+b.num/\
   eX G d aU a9 rest/\Sc U G ag aU a9 a6 nk/\wm F G ag/\u.length+2*rest.num<=100000/\y.length=u.length/\a6+rest.num<=100000/\ag.length+rest.num<=100000/\cU wr g B U.af F ag bn a8 cq a6 ab u y Y ao aH aZ/\
   Mv g (.slice S code.length bQ) (.slice bI sites.length bx) w (.slice Y u.length ao) (.slice aH y.length aZ) wr
def jj(U:h2)(nk:Int)(F:List aI)(b:al)(G:Env)(d:Nat)(l:List dS)(n:Int)(st:Nat)(code:List aA)(sites:List Int)(g B:Nat)(bC:NH)(ln lc:Nat)(S:NH)(bQ:Nat)(bI:NH)(bx:Nat)(A:NH)(m c:Nat)(w:World)(a:Act)(wr:World):Prop:=∃gL gQ o u8 gO eY T av bY aR eZ e3 e4 e5 e6 e7 e8 e9 fa fb fd fe ff u32 fh fi fj fl fm fo fp fr fs ft fu fv fw fx fy fz fA fB fD fE fF fG fH fI fJ fK fL fM fN fO fP u64 fR fS fT fU fV fW fX fY fZ f3 f4 f5 f6 f7 f8 f9 ga gb gd ge gf gg gh gi gj gk gl gm go gp gq gr gs gt gu H I am aK aM aS aX aY a4 bb bs bt bD bE bT bU b1 b9 ca cb ce cf cg ch cn cp ct cx cy cz cE cF cI cJ cK cM cN cR cS cT cV cW cX cY cZ c5 c6 c7 c8 c9 da db dc dd de df dg dh di dj dk dl dm dn dp dq dr ds dt du dv dw dx dy dA dC dD dE dF dG dH dI dJ dK dL dM dN dO dQ dR dT dU dV dW dZ d0 d1 d2 d3 d4 d5 d6 d7 d8 d9 ea eb ec ed ee ef eh ei ej ek el em en eo eq er es et eu ev ex ey ez eA eB eC eD eF eG eH eI eK eL eM eN eO eP eQ eR eS eT eU eV eW:Value,oY U nk F b G d l n st code sites g B bC ln lc S bQ bI bx A m c w gL wr/\a=⟨#[.pointer (some ⟨g,0,none⟩),.slice A m c,undef,undef,.slice bC ln lc,gL,gQ,o,u8,gO,eY,T,av,bY,aR,.pointer (some ⟨g,0,none⟩),.pointer (some ⟨g,0,none⟩),.pointer (some ⟨g,3,none⟩),.slice bC ln lc,eZ,e3,e4,e5,e6,e7,e8,e9,fa,fb,fd,fe,ff,u32,fh,fi,fj,fl,fm,fo,fp,fr,fs,ft,fu,fv,fw,fx,fy,fz,fA,fB,fD,fE,fF,fG,fH,fI,fJ,fK,fL,fM,fN,fO,fP,u64,fR,fS,fT,fU,fV,fW,fX,fY,fZ,f3,f4,f5,f6,f7,f8,f9,ga,gb,gd,ge,gf,gg,gh,gi,gj,gk,gl,gm,go,gp,gq,gr,gs,gt,gu,H,I,am,aK,aM,aS,aX,aY,a4,bb,bs,bt,bD,bE,bT,bU,b1,b9,ca,cb,ce,cf,cg,ch,cn,cp,ct,cx,cy,cz,cE,cF,cI,cJ,cK,cM,cN,cR,cS,cT,cV,cW,cX,cY,cZ,c5,c6,c7,c8,c9,da,db,dc,dd,de,df,dg,dh,di,dj,dk,dl,dm,dn,dp,dq,dr,ds,dt,du,dv,dw,dx,dy,dA,dC,dD,dE,dF,dG,dH,dI,dJ,dK,dL,dM,dN,dO,dQ,dR,dT,dU,dV,dW,dZ,d0,d1,d2,d3,d4,d5,d6,d7,d8,d9,ea,eb,ec,ed,ee,ef,eh,ei,ej,ek,el,em,en,eo,eq,er,es,et,eu,ev,ex,ey,ez,eA,eB,eC,eD,eF,eG,eH,eI,eK,eL,eM,eN,eO,eP,eQ,eR,eS,eT,eU,eV,eW,undef,undef,undef,undef],[]⟩
def jH(m:Nat)(a:Act)(_:World):Nat:=m - (intOf (a.tmps.getD 5 undef)).toNat
def Gu(U:h2)(nk:Int)(F:List aI)(b:al)(G:Env)(d:Nat)(l:List dS)(n:Int)(st:Nat)(code:List aA)(sites:List Int)(g B:Nat)(bC:NH)(ln lc:Nat)(S:NH)(bQ:Nat)(bI:NH)(bx:Nat)(A:NH)(m c:Nat)(w:World)(a:Act)(wr:World):Prop:=∃gL gQ o u8 gO eY T av bY aR eZ e3 e4 e5 e6 e7 e8 e9 fa fb fd fe ff u32 fh fi fj fl fm fo fp fr fs ft fu fv fw fx fy fz fA fB fD fE fF fG fH fI fJ fK fL fM fN fO fP u64 fR fS fT fU fV fW fX fY fZ f3 f4 f5 f6 f7 f8 f9 ga gb gd ge gf gg gh gi gj gk gl gm go gp gq gr gs gt gu H I am aK aM aS aX aY a4 bb bs bt bD bE bT bU b1 b9 ca cb ce cf cg ch cn cp ct cx cy cz cE cF cI cJ cK cM cN cR cS cT cV cW cX cY cZ c5 c6 c7 c8 c9 da db dc dd de df dg dh di dj dk dl dm dn dp dq dr ds dt du dv dw dx dy dA dC dD dE dF dG dH dI dJ dK dL dM dN dO dQ dR dT dU dV dW dZ d0 d1 d2 d3 d4 d5 d6 d7 d8 d9 ea eb ec ed ee ef eh ei ej ek el em en eo eq er es et eu ev ex ey ez eA eB eC eD eF eG eH eI eK eL eM eN eO eP eQ eR eS eT eU eV eW:Value,oY U nk F b G d l n st code sites g B bC ln lc S bQ bI bx A m c w gL wr/\gL=.int .i64 m/\a=⟨#[.pointer (some ⟨g,0,none⟩),.slice A m c,undef,undef,.slice bC ln lc,gL,gQ,o,u8,gO,eY,T,av,bY,aR,.pointer (some ⟨g,0,none⟩),.pointer (some ⟨g,0,none⟩),.pointer (some ⟨g,3,none⟩),.slice bC ln lc,eZ,e3,e4,e5,e6,e7,e8,e9,fa,fb,fd,fe,ff,u32,fh,fi,fj,fl,fm,fo,fp,fr,fs,ft,fu,fv,fw,fx,fy,fz,fA,fB,fD,fE,fF,fG,fH,fI,fJ,fK,fL,fM,fN,fO,fP,u64,fR,fS,fT,fU,fV,fW,fX,fY,fZ,f3,f4,f5,f6,f7,f8,f9,ga,gb,gd,ge,gf,gg,gh,gi,gj,gk,gl,gm,go,gp,gq,gr,gs,gt,gu,H,I,am,aK,aM,aS,aX,aY,a4,bb,bs,bt,bD,bE,bT,bU,b1,b9,ca,cb,ce,cf,cg,ch,cn,cp,ct,cx,cy,cz,cE,cF,cI,cJ,cK,cM,cN,cR,cS,cT,cV,cW,cX,cY,cZ,c5,c6,c7,c8,c9,da,db,dc,dd,de,df,dg,dh,di,dj,dk,dl,dm,dn,dp,dq,dr,ds,dt,du,dv,dw,dx,dy,dA,dC,dD,dE,dF,dG,dH,dI,dJ,dK,dL,dM,dN,dO,dQ,dR,dT,dU,dV,dW,dZ,d0,d1,d2,d3,d4,d5,d6,d7,d8,d9,ea,eb,ec,ed,ee,ef,eh,ei,ej,ek,el,em,en,eo,eq,er,es,et,eu,ev,ex,ey,ez,eA,eB,eC,eD,eF,eG,eH,eI,eK,eL,eM,eN,eO,eP,eQ,eR,eS,eT,eU,eV,eW,undef,undef,undef,undef],[]⟩
def BK(X:al):Prop:=∀(eg:wq) (U:h2) (nk:Int) (F:List aI) (b:al) (G:Env) (d:Nat) (l:List dS) (n:Int) (st:Nat) (code:List aA) (sites:List Int) (g B:Nat) (bC:NH) (ln lc:Nat) (S:NH) (bQ:Nat) (bI:NH) (bx:Nat) (A:NH) (m c:Nat) (w:World) (bH:NJ (Sl w (off (Ms g (.slice S code.length bQ) (.slice bI sites.length bx)) w) A m (b.list.map bk))) (cC:NJ (∀s∈b.list,l6 U nk F s.th/\l6 U nk F s.el)) (eE:NJ (∀f∈F,f.params.length<=1000)) (bp:NJ (b.list.length=m)) (f0:m<=100000) (e0:st+b.num<=100000) (k:Nat) (ag:List dS) (aU a9:NI) (a6:Int) (ab:Nat) (u:List aA) (y:List Int) (bn:NH) (a8 cq:Nat) (Y:NH) (ao:Nat) (aH:NH) (aZ:Nat) (wr:World) (ap:k<m) (be:b.list.drop k=X.list) (aQ:dP X ag a6 u=dP b l n code) (aF:ab+X.num=st+b.num) (aN:eX G d aU a9 X) (hS:Sc U G ag aU a9 a6 nk) (bf:wm F G ag) (bu:u.length+2*X.num<=100000) (bS:y.length=u.length) (cD:a6+X.num<=100000) (bK:ag.length+X.num<=100000) (bF:cU wr g B U.af F ag bn a8 cq a6 ab u y Y ao aH aZ) (hM:Mv g (.slice S code.length bQ) (.slice bI sites.length bx) w (.slice Y u.length ao) (.slice aH y.length aZ) wr)
  (dz:Exit->Act->World->Prop) (hQ0:∀c a d v w,dz (.panic c) (a.put d v) w->dz (.panic c) a w)
  {gQ o u8 gO eY T av bY aR eZ e3 e4 e5 e6 e7 e8 e9 fa fb fd fe ff u32 fh fi fj fl fm fo fp fr fs ft fu fv fw fx fy fz fA fB fD fE fF fG fH fI fJ fK fL fM fN fO fP u64 fR fS fT fU fV fW fX fY fZ f3 f4 f5 f6 f7 f8 f9 ga gb gd ge gf gg gh gi gj gk gl gm go gp gq gr gs gt gu H I am aK aM aS aX aY a4 bb bs bt bD bE bT bU b1 b9 ca cb ce cf cg ch cn cp ct cx cy cz cE cF cI cJ cK cM cN cR cS cT cV cW cX cY cZ c5 c6 c7 c8 c9 da db dc dd de df dg dh di dj dk dl dm dn dp dq dr ds dt du dv dw dx dy dA dC dD dE dF dG dH dI dJ dK dL dM dN dO dQ dR dT dU dV dW dZ d0 d1 d2 d3 d4 d5 d6 d7 d8 d9 ea eb ec ed ee ef eh ei ej ek el em en eo eq er es et eu ev ex ey ez eA eB eC eD eF eG eH eI eK eL eM eN eO eP eQ eR eS eT eU eV eW:Value},
  Code.wp prog tq (Exit.then (λr j=>jj U nk F b G d l n st code sites g B bC ln lc S bQ bI bx A m c w r j/\jH m r j<jH m ⟨#[.pointer (some ⟨g,0,none⟩),.slice A m c,undef,undef,.slice bC ln lc,(.int .i64 k),gQ,o,u8,gO,eY,T,av,bY,aR,.pointer (some ⟨g,0,none⟩),.pointer (some ⟨g,0,none⟩),.pointer (some ⟨g,3,none⟩),.slice bC ln lc,eZ,e3,e4,e5,e6,e7,e8,e9,fa,fb,fd,fe,ff,u32,fh,fi,fj,fl,fm,fo,fp,fr,fs,ft,fu,fv,fw,fx,fy,fz,fA,fB,fD,fE,fF,fG,fH,fI,fJ,fK,fL,fM,fN,fO,fP,u64,fR,fS,fT,fU,fV,fW,fX,fY,fZ,f3,f4,f5,f6,f7,f8,f9,ga,gb,gd,ge,gf,gg,gh,gi,gj,gk,gl,gm,go,gp,gq,gr,gs,gt,gu,H,I,am,aK,aM,aS,aX,aY,a4,bb,bs,bt,bD,bE,bT,bU,b1,b9,ca,cb,ce,cf,cg,ch,cn,cp,ct,cx,cy,cz,cE,cF,cI,cJ,cK,cM,cN,cR,cS,cT,cV,cW,cX,cY,cZ,c5,c6,c7,c8,c9,da,db,dc,dd,de,df,dg,dh,di,dj,dk,dl,dm,dn,dp,dq,dr,ds,dt,du,dv,dw,dx,dy,dA,dC,dD,dE,dF,dG,dH,dI,dJ,dK,dL,dM,dN,dO,dQ,dR,dT,dU,dV,dW,dZ,d0,d1,d2,d3,d4,d5,d6,d7,d8,d9,ea,eb,ec,ed,ee,ef,eh,ei,ej,ek,el,em,en,eo,eq,er,es,et,eu,ev,ex,ey,ez,eA,eB,eC,eD,eF,eG,eH,eI,eK,eL,eM,eN,eO,eP,eQ,eR,eS,eT,eU,eV,eW,undef,undef,undef,undef],[]⟩ wr) dz) ⟨#[.pointer (some ⟨g,0,none⟩),.slice A m c,undef,undef,.slice bC ln lc,(.int .i64 k),gQ,o,u8,gO,eY,T,av,bY,aR,.pointer (some ⟨g,0,none⟩),.pointer (some ⟨g,0,none⟩),.pointer (some ⟨g,3,none⟩),.slice bC ln lc,eZ,e3,e4,e5,e6,e7,e8,e9,fa,fb,fd,fe,ff,u32,fh,fi,fj,fl,fm,fo,fp,fr,fs,ft,fu,fv,fw,fx,fy,fz,fA,fB,fD,fE,fF,fG,fH,fI,fJ,fK,fL,fM,fN,fO,fP,u64,fR,fS,fT,fU,fV,fW,fX,fY,fZ,f3,f4,f5,f6,f7,f8,f9,ga,gb,gd,ge,gf,gg,gh,gi,gj,gk,gl,gm,go,gp,gq,gr,gs,gt,gu,H,I,am,aK,aM,aS,aX,aY,a4,bb,bs,bt,bD,bE,bT,bU,b1,b9,ca,cb,ce,cf,cg,ch,cn,cp,ct,cx,cy,cz,cE,cF,cI,cJ,cK,cM,cN,cR,cS,cT,cV,cW,cX,cY,cZ,c5,c6,c7,c8,c9,da,db,dc,dd,de,df,dg,dh,di,dj,dk,dl,dm,dn,dp,dq,dr,ds,dt,du,dv,dw,dx,dy,dA,dC,dD,dE,dF,dG,dH,dI,dJ,dK,dL,dM,dN,dO,dQ,dR,dT,dU,dV,dW,dZ,d0,d1,d2,d3,d4,d5,d6,d7,d8,d9,ea,eb,ec,ed,ee,ef,eh,ei,ej,ek,el,em,en,eo,eq,er,es,et,eu,ev,ex,ey,ez,eA,eB,eC,eD,eF,eG,eH,eI,eK,eL,eM,eN,eO,eP,eQ,eR,eS,eT,eU,eV,eW,undef,undef,undef,undef],[]⟩ wr
end Go.Proofs.YtnigabjngpnbiabGreat

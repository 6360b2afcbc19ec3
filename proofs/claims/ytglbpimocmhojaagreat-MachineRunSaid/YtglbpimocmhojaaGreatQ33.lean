/- Part 33 of the proof. No condition of its own. -/
import Derived.Test.YtglbpimocmhojaaGreatQ13
import Derived.Test.YtglbpimocmhojaaGreatQ32
namespace Go.Proofs.YtglbpimocmhojaaGreat
open Go.RowKit Go.Proofs.Tryz
set_option maxRecDepth 1000000
set_option maxHeartbeats 25600000
set_option linter.unusedVariables false
variable{op t:Int}{b:Nat}{P:Nat->Prop}{p:Prop}
section
variable {w ab aS aT bX cL X:World} {g B:Nat} {M:List bG} {F:List aJ} {l:List dL} {S:Lp} {ln lc:Nat} {n:Int} {st:Nat} {code:List az} {sites:List Int} {bx:Lp} {bK:Nat} {bR:Lp} {bC:Nat}
theorem cI.own(h:cI w g B M F l S ln lc n st code sites bx bK bR bC){j:Nat}{v:Value}(hX:w.setCell ⟨g,j,none⟩ v=X):
  Mv g (.slice bx code.length bK) (.slice bR sites.length bC) w (.slice bx code.length bK) (.slice bR sites.length bC) X/\Fr (λb=>b=g) w X/\la B 58 12 3 1 X bx code.length bK (code.map ef) bR sites.length bC (sites.map D.i):=by
 have J:=cJ hX;exact⟨Mv.Iy (J.mono λb O=>.inl O),J,h.rows.c8 J λb O _=>by have:=h.base.1;omega⟩
namespace Bq
theorem Aw(h:p:=by
 rw[<-hX];exact aR.aM 5 _
 ):p:=h
end Bq
open Bq in
theorem cI.stmt(h:cI w g B M F l S ln lc n st code sites bx bK bR bC)(hX:w.setCell ⟨g,5,none⟩ (.int .i64 ((st+1:Nat):Int))=X) :
  cI X g B M F l S ln lc n (st+1) code sites bx bK bR bC/\Mv g (.slice bx code.length bK) (.slice bR sites.length bC) w (.slice bx code.length bK) (.slice bR sites.length bC) X:=by
 exact Av
namespace Br
theorem Aw(h:p:=by
 rw[<-hX];exact aR.aM 4 _
 ):p:=h
end Br
open Br in
theorem cI.locals(h:cI w g B M F l S ln lc n st code sites bx bK bR bC){aP:Int}(hX:w.setCell ⟨g,4,none⟩ (.int .i64 aP)=X):
  cI X g B M F l S ln lc aP st code sites bx bK bR bC/\Mv g (.slice bx code.length bK) (.slice bR sites.length bC) w (.slice bx code.length bK) (.slice bR sites.length bC) X:=by
 exact Av
theorem cI.DR(h:cI w g B M F l S ln lc n st code sites bx bK bR bC){aO:List dL}{bZ:Lp}{a2 cK:Nat}(hn:a2<=1000000)(hl:Sl w (off (Ms g (.slice bx code.length bK) (.slice bR sites.length bC)) w) bZ a2 (aO.map bY))(hX:w.setCell ⟨g,3,none⟩ (.slice bZ a2 cK)=X):
  cI X g B M F aO bZ a2 cK n st code sites bx bK bR bC/\Mv g (.slice bx code.length bK) (.slice bR sites.length bC) w (.slice bx code.length bK) (.slice bR sites.length bC) X:=by
 obtain⟨hM,J,hG⟩:=h.own hX;obtain⟨GA,gn,gc,MA,mn,mc,FA,fn,fc,aR,cv,bO,cV,H⟩:=h.blk;refine⟨⟨⟨GA,gn,gc,MA,mn,mc,FA,fn,fc,?_,cv,bO,cV.cO hM,H.cO hM⟩,⟨h.base.1,KU h.base.2 hM.fr.size⟩,⟨hn,hl.cO hM⟩,hG⟩,hM⟩;rw[<-hX];exact aR.aM 3 _
theorem cI.target(h:cI w g B M F l S ln lc n st code sites bx bK bR bC)(O:b<code.length)(t:Int):∃N,bx=some ⟨N,0,none⟩/\N<w.heap.size/\w.frozen? ⟨N,b*12+1,none⟩=false/\(∃u,w.cell? ⟨N,b*12+1,none⟩=some (.int .i64 u))/\
  ∀X,w.setCell ⟨N,b*12+1,none⟩ (.int .i64 t)=X->cI X g B M F l S ln lc n st (fX code b t) sites bx bK bR bC/\Mv g (.slice bx code.length bK) (.slice bR sites.length bC) w (.slice bx code.length bK) (.slice bR sites.length bC) X:=by
 obtain⟨hl,xs,ac,au⟩:=h.rows.one;obtain⟨N,bw,C,P,a4,dv,L⟩:=ia ac ad;have bZ:xs.length=code.length*12:=by rw[D.hb _ _ au,D.gT (z:=12) (λd hd=>by obtain⟨x,_,rfl⟩:=Lc.1 hd;exact mv x),KH]
 have ak:b*12+1<xs.length:=by rw[bZ];omega
 have b4:xs[b*12+1]?=some (xs[b*12+1]'ak):=List.getElem?_eq_getElem _;have hint:∃u,xs[b*12+1]?=some (.int .i64 u):=by
  have hm:(code.map ef)[b]?=some (ef (code[b]'O)):=by rw[List.getElem?_map,List.getElem?_eq_getElem O];rfl
  obtain⟨cs,a5,bj,bi⟩:=D.oP au (z:=12) (λd hd=>by obtain⟨x,_,rfl⟩:=Lc.1 hd;exact mv x) hm;unfold ef at a5;rw[bI,bm] at a5;obtain⟨y,rfl,a5⟩:=a5;rw[bm] at a5;obtain⟨cd,rfl,a5⟩:=a5;exact⟨_,bi 1 _ rfl⟩
 refine⟨N,bw,P,dv _,?_,λX hX=>?_⟩
 .obtain⟨u,hu⟩:=hint;exact⟨u,a4 _ _ hu⟩
 have aB:(Value.slice bx code.length bK).ownBlock=some N:=by rw[bw];rfl
 have J:=cJ hX;have hM:Mv g (.slice bx code.length bK) (.slice bR sites.length bC) w (.slice bx code.length bK) (.slice bR sites.length bC) X:=Mv.Iy (J.mono λb O=>by subst O;exact .inr (.inl aB));have a:¬(Value.slice bR sites.length bC).ownBlock=some N:=h.rows.ne N aB;obtain⟨GA,gn,gc,MA,mn,mc,FA,fn,fc,aR,cv,bO,cV,H⟩:=h.blk;refine⟨⟨⟨GA,gn,gc,MA,mn,mc,FA,fn,fc,?_,cv,bO,?_,?_⟩,⟨h.base.1,KU h.base.2 hM.fr.size⟩,⟨h.names.1,?_⟩,?_⟩,hM⟩
 .rw[cu];exact aR.on J (aC h.base.1)
 .rw[cu];exact cV.cO hM
 .rw[cu];exact H.cO hM
 .rw[cu];exact h.names.2.cO hM
 .have bN:=L (b*12+1) (.int .i64 t) ad;rw[hX] at bN;rw[cu];refine⟨⟨by rw[KH,cu],_,bN,?_⟩,?_,h.rows.ne⟩
  .refine rK t code xs b ?_ O;exact D.bV (λb O=>⟨O.1,by have:=J.size;have:=O.2.1;omega,O.2.2⟩) _ _ (D.bU (λb aV=>J.block b aV.2.1 λhe=>aV.2.2 (by rw[aB,he])) _ _ au)
  .exact h.rows.two.dj J.size λb ak hp=>J.block b ak λhe=>by
    subst he;rcases hp with hp|hp
    .exact hp.2 aB
    .exact a hp
end
theorem aq.cO{w ab:World}{g:Nat}{t:TypeId}{cs:Array Value}{cv sv a f:Value}(h:aq w b t cs)(hn:¬Ms g cv sv b)(hM:Mv g cv sv w a f ab):aq ab b t cs/\¬Ms g a f b:=
 ⟨h.on hM.fr hn,λhm=>hn (hM.own b h.lt hm)⟩
theorem pR(b:an):b.isNil=decide (b.list.length=0):=by cases b<;>simp[an.isNil,an.list]
theorem tx(b:an):(c4 b).length=b.list.length:=by rw[cF,KH]
def De(e:dL):List Value:=[.string e.name,.int .i64 e.kind,.int .i64 e.n]
theorem jd:ch prog 141 145 (.agg #[.string ⟨#[]⟩,.int .i64 0,.int .i64 0]) 3 32:=ch.mk' Tryz.underlying141 (by kernel_rfl) rfl ad
theorem jQ{w:World}(e:dL):(bY e).rep w P (De e):=iy.2 rfl
theorem kT{w:World}(l:List dL):D.aQ w P (l.map bY) (l.flatMap De):=mN jQ l
theorem tE{w:World}{P Q:Nat->Prop}:∀{l:List dL} {xs:List Value},D.aQ w P (l.map bY) xs->D.aQ w Q (l.map bY) xs
 | [],xs,h=>by simpa only[Lb,D.aQ] using h
 | e::l,xs,h=>by
  rw[KJ] at h ⊢;obtain⟨x,y,rfl,hx,bb⟩:=dD.1 h;exact dD.2 ⟨x,y,rfl,iy.2 (iy.1 hx),tE bb⟩
theorem ky{w:World}{A:Lp}{n:Nat}{l:List dL}(h:Sl w (av w) A n (l.map bY)):Src w 3 A n (l.flatMap De):=
 Src.lv (Sl.IQ (f:=De) (sz:=3) (λ_ _ _ _ h=>iy.1 h) (λ_=>rfl) h) (λ_ _=>rfl) (λx _ u hu=>by
  simp only[De,KT,List.not_mem_nil,or_false] at hu;rcases hu with rfl|rfl|rfl<;>rfl) ad
theorem h8{w aS:World}{g B:Nat}{M:List bG}{F:List aJ}{l:List dL}{S:Lp}{ln lc:Nat}{n:Int}{st:Nat}{code:List az}{sites:List Int}{bx:Lp}{bK:Nat}{bR:Lp}{bC:Nat}(h:cI w g B M F l S ln lc n st code sites bx bK bR bC){d:D}{cs:List Value}(hd:d.rep aS (fresh w aS) cs):
  d.rep aS (JG B g (.slice bx code.length bK) (.slice bR sites.length bC) aS) cs:=by
 have ak:=h.lt;have C:=h.base;refine D.aL (λb O=>⟨by have:=O.1;omega,O.2,λhm=>?_⟩) _ _ hd;have ac:=O.1;rcases hm with hm|hm|hm
 .omega
 .have:=(h.rows.one.lt hm).2;omega
 .have:=(h.rows.two.lt hm).2;omega
theorem kS{w:World}{g:Bool}{e:VE}{eo en:Int}{es:ByteArray}{EA:Lp}{em ec:Nat}(h:(bk e).rep w P [.int .i64 eo,.int .i64 en,.string es,.slice EA em ec]):
  (ef ⟨op,t,g,some e,j9,[],[]⟩).rep w P [.int .i64 op,.int .i64 t,.bool g,.int .i64 eo,.int .i64 en,.string es,.slice EA em ec,.bool false,.int .i64 0,.slice none 0 0,.slice none 0 0,.slice none 0 0]:=by
 unfold ef;rw[bI];exact bm.2 ⟨_,rfl,bm.2 ⟨_,rfl,fp.2 ⟨_,rfl,dD.2 ⟨[_,_,_,_],_,rfl,h,nZ (aN.2 ⟨none,0,0,_,rfl,KD _,Sl.bN _,aN.2 ⟨none,0,0,[],rfl,KD _,Sl.bN _,aP.2 rfl⟩⟩)⟩⟩⟩⟩
theorem vF{w:World}{g:Bool}{p:bQ}{pb:Bool}{pi:Int}{PA:Lp}{pm pc:Nat}(h:(di p).rep w P [.bool pb,.int .i64 pi,.slice PA pm pc]):
  (ef ⟨op,t,g,none,p,[],[]⟩).rep w P [.int .i64 op,.int .i64 t,.bool g,.int .i64 0,.int .i64 0,.string ⟨#[]⟩,.slice none 0 0,.bool pb,.int .i64 pi,.slice PA pm pc,.slice none 0 0,.slice none 0 0]:=by
 unfold ef;rw[bI];exact bm.2 ⟨_,rfl,bm.2 ⟨_,rfl,fp.2 ⟨_,rfl,qp (dD.2 ⟨[_,_,_],_,rfl,h,aN.2 ⟨none,0,0,_,rfl,KD _,Sl.bN _,aN.2 ⟨none,0,0,[],rfl,KD _,Sl.bN _,aP.2 rfl⟩⟩⟩)⟩⟩⟩
def lB(U:ho)(nk:Int)(F:List aJ)(b:an):Prop:=
 ∀(G:Env) (d:Nat) (l:List dL) (V T:Lq) (n:Int) (st:Nat) (code:List az) (sites:List Int) (g B:Nat) (S:Lp) (ln lc:Nat) (bx:Lp) (bK:Nat) (bR:Lp) (bC:Nat) (A:Lp) (m c:Nat) (w:World),
  e4 G d V T b->Sc U G l V T n nk->uR F G l->(∀f∈F,f.params.length<=1000)->cI w g B U.af F l S ln lc n st code sites bx bK bR bC->Sl w (off (Ms g (.slice bx code.length bK) (.slice bR sites.length bC)) w) A m (c4 b)->
  code.length+2*b.num<=100000->sites.length=code.length->n+b.num<=100000->st+b.num<=100000->l.length+b.num<=100000->
  Calls prog 104 #[.pointer (some ⟨g,0,none⟩),.slice A m c] w λe ab=>e=.returned (.tuple #[])/\∃Y ag al aG y,y.length=(dH b l n code).1.length/\
   cI ab g B U.af F l S ln lc (dH b l n code).2 (st+b.num) (dH b l n code).1 y Y ag al aG/\
   Mv g (.slice bx code.length bK) (.slice bR sites.length bC) w (.slice Y (dH b l n code).1.length ag) (.slice al y.length aG) ab
theorem gK:∀b:an,b.list.length<=b.num
 | .nil=>by simp[an.list]
 | .set _ _ _ rest=>by simp[an.list,an.num,gK rest]
 | .call _ _ _ rest=>by simp[an.list,an.num,gK rest]
 | .lock _ _ rest=>by simp[an.list,an.num,gK rest]
 | .ite _ th el rest=>by simp[an.list,an.num];have:=gK rest;omega
 | .gv _ th rest=>by simp[an.list,an.num];have:=gK rest;omega
 | .ret rest=>by simp[an.list,an.num,gK rest]
def fQ:Code->Option Code
 | .loop c=>some c
 | .seq a b=>match fQ a with
  | some c=>some c
  | none=>fQ b
 | .block _ c=>fQ c
 | .scope c=>fQ c
 | .cond _ a b=>match fQ a with
  | some c=>some c
  | none=>fQ b
 | _=>none
noncomputable def sw:Code:=((Tryz.f104.body.bind fQ).getD .skip)
def oe(U:ho)(nk:Int)(F:List aJ)(b:an)(G:Env)(d:Nat)(l:List dL)(n:Int)(st:Nat)(code:List az)(sites:List Int)(g B:Nat)(S:Lp)(ln lc:Nat)(bx:Lp)(bK:Nat)(bR:Lp)(bC:Nat)(A:Lp)(m c:Nat)(w:World)(bd:Value)(wr:World):Prop:=∃(k:Nat) (rest:an) (aO:List dL) (aU a9:Lq) (aP:Int) (ab:Nat) (u:List az) (y:List Int) (bZ:Lp) (a2 cK:Nat) (Y:Lp) (ag:Nat) (al:Lp) (aG:Nat),bd=.int .i64 k/\k<=m/\b.list.drop k=rest.list/\dH rest aO aP u=dH b l n code/\ab+rest.num=st+b.num/\
   e4 G d aU a9 rest/\Sc U G aO aU a9 aP nk/\uR F G aO/\u.length+2*rest.num<=100000/\y.length=u.length/\aP+rest.num<=100000/\aO.length+rest.num<=100000/\cI wr g B U.af F aO bZ a2 cK aP ab u y Y ag al aG/\
   Mv g (.slice bx code.length bK) (.slice bR sites.length bC) w (.slice Y u.length ag) (.slice al y.length aG) wr
def iQ(U:ho)(nk:Int)(F:List aJ)(b:an)(G:Env)(d:Nat)(l:List dL)(n:Int)(st:Nat)(code:List az)(sites:List Int)(g B:Nat)(S:Lp)(ln lc:Nat)(bx:Lp)(bK:Nat)(bR:Lp)(bC:Nat)(A:Lp)(m c:Nat)(w:World)(a:Act)(wr:World):Prop:=∃gJ gN z u8 gK eO go gp cc bQ eR eS eT eU eV eW eY eZ e3 e6 e7 e8 e9 u32 fa fb fd fe ff fh fi fk fl fm fo fp fq fr fs ft fv fw fx fy fz fA fB fC fD fE fF fG fH fI fJ u64 fK fL fM fN fO fP fQ fR fS fT fU fV fW fX fY fZ f3 f4 f5 f6 f7 f8 f9 ga gb gd ge gf gg gh gi gj gk gl gm H I am aF aL aM aN aX a1 a8 bb bd bm bp bt bz bA bD bJ bV bY b1 b5 b8 b9 cb ce ch cj cl co cp cx cy cz cA cB cD cE cG cH cM cN cO cP cR cS cT cU cV cW cX cY cZ c4 c5 c6 c7 c8 c9 da db dc dd de df dg dh di dj dk dl dm dn dp dr dt du dv dw dx dy dA dC dD dE dF dG dI dJ dK dM dQ dR dS dT dV dW dX dY dZ d0 d1 d2 d3 d4 d5 d6 d7 d8 d9 ea eb ec ed ee ef eg eh ei ej ek el em en eo ep eq er es et eu ev ew ex ey ez eA eB eC eD eE eF eG eH eI eJ eL eM:Value,oe U nk F b G d l n st code sites g B S ln lc bx bK bR bC A m c w gJ wr/\a=⟨#[.pointer (some ⟨g,0,none⟩),.slice A m c,undef,undef,.slice S ln lc,gJ,gN,z,u8,gK,eO,go,gp,cc,bQ,.pointer (some ⟨g,0,none⟩),.pointer (some ⟨g,0,none⟩),.pointer (some ⟨g,3,none⟩),.slice S ln lc,eR,eS,eT,eU,eV,eW,eY,eZ,e3,e6,e7,e8,e9,u32,fa,fb,fd,fe,ff,fh,fi,fk,fl,fm,fo,fp,fq,fr,fs,ft,fv,fw,fx,fy,fz,fA,fB,fC,fD,fE,fF,fG,fH,fI,fJ,u64,fK,fL,fM,fN,fO,fP,fQ,fR,fS,fT,fU,fV,fW,fX,fY,fZ,f3,f4,f5,f6,f7,f8,f9,ga,gb,gd,ge,gf,gg,gh,gi,gj,gk,gl,gm,H,I,am,aF,aL,aM,aN,aX,a1,a8,bb,bd,bm,bp,bt,bz,bA,bD,bJ,bV,bY,b1,b5,b8,b9,cb,ce,ch,cj,cl,co,cp,cx,cy,cz,cA,cB,cD,cE,cG,cH,cM,cN,cO,cP,cR,cS,cT,cU,cV,cW,cX,cY,cZ,c4,c5,c6,c7,c8,c9,da,db,dc,dd,de,df,dg,dh,di,dj,dk,dl,dm,dn,dp,dr,dt,du,dv,dw,dx,dy,dA,dC,dD,dE,dF,dG,dI,dJ,dK,dM,dQ,dR,dS,dT,dV,dW,dX,dY,dZ,d0,d1,d2,d3,d4,d5,d6,d7,d8,d9,ea,eb,ec,ed,ee,ef,eg,eh,ei,ej,ek,el,em,en,eo,ep,eq,er,es,et,eu,ev,ew,ex,ey,ez,eA,eB,eC,eD,eE,eF,eG,eH,eI,eJ,eL,eM,undef,undef,undef,undef],[]⟩
def jm(m:Nat)(a:Act)(_:World):Nat:=m - (intOf (a.tmps.getD 5 undef)).toNat
def EC(U:ho)(nk:Int)(F:List aJ)(b:an)(G:Env)(d:Nat)(l:List dL)(n:Int)(st:Nat)(code:List az)(sites:List Int)(g B:Nat)(S:Lp)(ln lc:Nat)(bx:Lp)(bK:Nat)(bR:Lp)(bC:Nat)(A:Lp)(m c:Nat)(w:World)(a:Act)(wr:World):Prop:=∃gJ gN z u8 gK eO go gp cc bQ eR eS eT eU eV eW eY eZ e3 e6 e7 e8 e9 u32 fa fb fd fe ff fh fi fk fl fm fo fp fq fr fs ft fv fw fx fy fz fA fB fC fD fE fF fG fH fI fJ u64 fK fL fM fN fO fP fQ fR fS fT fU fV fW fX fY fZ f3 f4 f5 f6 f7 f8 f9 ga gb gd ge gf gg gh gi gj gk gl gm H I am aF aL aM aN aX a1 a8 bb bd bm bp bt bz bA bD bJ bV bY b1 b5 b8 b9 cb ce ch cj cl co cp cx cy cz cA cB cD cE cG cH cM cN cO cP cR cS cT cU cV cW cX cY cZ c4 c5 c6 c7 c8 c9 da db dc dd de df dg dh di dj dk dl dm dn dp dr dt du dv dw dx dy dA dC dD dE dF dG dI dJ dK dM dQ dR dS dT dV dW dX dY dZ d0 d1 d2 d3 d4 d5 d6 d7 d8 d9 ea eb ec ed ee ef eg eh ei ej ek el em en eo ep eq er es et eu ev ew ex ey ez eA eB eC eD eE eF eG eH eI eJ eL eM:Value,oe U nk F b G d l n st code sites g B S ln lc bx bK bR bC A m c w gJ wr/\gJ=.int .i64 m/\a=⟨#[.pointer (some ⟨g,0,none⟩),.slice A m c,undef,undef,.slice S ln lc,gJ,gN,z,u8,gK,eO,go,gp,cc,bQ,.pointer (some ⟨g,0,none⟩),.pointer (some ⟨g,0,none⟩),.pointer (some ⟨g,3,none⟩),.slice S ln lc,eR,eS,eT,eU,eV,eW,eY,eZ,e3,e6,e7,e8,e9,u32,fa,fb,fd,fe,ff,fh,fi,fk,fl,fm,fo,fp,fq,fr,fs,ft,fv,fw,fx,fy,fz,fA,fB,fC,fD,fE,fF,fG,fH,fI,fJ,u64,fK,fL,fM,fN,fO,fP,fQ,fR,fS,fT,fU,fV,fW,fX,fY,fZ,f3,f4,f5,f6,f7,f8,f9,ga,gb,gd,ge,gf,gg,gh,gi,gj,gk,gl,gm,H,I,am,aF,aL,aM,aN,aX,a1,a8,bb,bd,bm,bp,bt,bz,bA,bD,bJ,bV,bY,b1,b5,b8,b9,cb,ce,ch,cj,cl,co,cp,cx,cy,cz,cA,cB,cD,cE,cG,cH,cM,cN,cO,cP,cR,cS,cT,cU,cV,cW,cX,cY,cZ,c4,c5,c6,c7,c8,c9,da,db,dc,dd,de,df,dg,dh,di,dj,dk,dl,dm,dn,dp,dr,dt,du,dv,dw,dx,dy,dA,dC,dD,dE,dF,dG,dI,dJ,dK,dM,dQ,dR,dS,dT,dV,dW,dX,dY,dZ,d0,d1,d2,d3,d4,d5,d6,d7,d8,d9,ea,eb,ec,ed,ee,ef,eg,eh,ei,ej,ek,el,em,en,eo,ep,eq,er,es,et,eu,ev,ew,ex,ey,ez,eA,eB,eC,eD,eE,eF,eG,eH,eI,eJ,eL,eM,undef,undef,undef,undef],[]⟩
def BK(X:an):Prop:=∀(ds:uT) (U:ho) (nk:Int) (F:List aJ) (b:an) (G:Env) (d:Nat) (l:List dL) (n:Int) (st:Nat) (code:List az) (sites:List Int) (g B:Nat) (S:Lp) (ln lc:Nat) (bx:Lp) (bK:Nat) (bR:Lp) (bC:Nat) (A:Lp) (m c:Nat) (w:World) (bo:Lr (Sl w (off (Ms g (.slice bx code.length bK) (.slice bR sites.length bC)) w) A m (b.list.map bg))) (cq:Lr (∀s∈b.list,lB U nk F s.th/\lB U nk F s.el)) (dN:Lr (∀f∈F,f.params.length<=1000)) (bL:Lr (b.list.length=m)) (eN:m<=100000) (dU:st+b.num<=100000) (k:Nat) (aO:List dL) (aU a9:Lq) (aP:Int) (ab:Nat) (u:List az) (y:List Int) (bZ:Lp) (a2 cK:Nat) (Y:Lp) (ag:Nat) (al:Lp) (aG:Nat) (wr:World) (ak:k<m) (ba:b.list.drop k=X.list) (aV:dH X aO aP u=dH b l n code) (aw:ab+X.num=st+b.num) (a4:e4 G d aU a9 X) (hS:Sc U G aO aU a9 aP nk) (bF:uR F G aO) (bj:u.length+2*X.num<=100000) (cf:y.length=u.length) (bH:aP+X.num<=100000) (bI:aO.length+X.num<=100000) (bw:cI wr g B U.af F aO bZ a2 cK aP ab u y Y ag al aG) (hM:Mv g (.slice bx code.length bK) (.slice bR sites.length bC) w (.slice Y u.length ag) (.slice al y.length aG) wr)
  (dq:Exit->Act->World->Prop) (hQ0:∀c a d v w,dq (.panic c) (a.put d v) w->dq (.panic c) a w)
  {gN z u8 gK eO go gp cc bQ eR eS eT eU eV eW eY eZ e3 e6 e7 e8 e9 u32 fa fb fd fe ff fh fi fk fl fm fo fp fq fr fs ft fv fw fx fy fz fA fB fC fD fE fF fG fH fI fJ u64 fK fL fM fN fO fP fQ fR fS fT fU fV fW fX fY fZ f3 f4 f5 f6 f7 f8 f9 ga gb gd ge gf gg gh gi gj gk gl gm H I am aF aL aM aN aX a1 a8 bb bd bm bp bt bz bA bD bJ bV bY b1 b5 b8 b9 cb ce ch cj cl co cp cx cy cz cA cB cD cE cG cH cM cN cO cP cR cS cT cU cV cW cX cY cZ c4 c5 c6 c7 c8 c9 da db dc dd de df dg dh di dj dk dl dm dn dp dr dt du dv dw dx dy dA dC dD dE dF dG dI dJ dK dM dQ dR dS dT dV dW dX dY dZ d0 d1 d2 d3 d4 d5 d6 d7 d8 d9 ea eb ec ed ee ef eg eh ei ej ek el em en eo ep eq er es et eu ev ew ex ey ez eA eB eC eD eE eF eG eH eI eJ eL eM:Value},
  Code.wp prog sw (Exit.then (λr j=>iQ U nk F b G d l n st code sites g B S ln lc bx bK bR bC A m c w r j/\jm m r j<jm m ⟨#[.pointer (some ⟨g,0,none⟩),.slice A m c,undef,undef,.slice S ln lc,(.int .i64 k),gN,z,u8,gK,eO,go,gp,cc,bQ,.pointer (some ⟨g,0,none⟩),.pointer (some ⟨g,0,none⟩),.pointer (some ⟨g,3,none⟩),.slice S ln lc,eR,eS,eT,eU,eV,eW,eY,eZ,e3,e6,e7,e8,e9,u32,fa,fb,fd,fe,ff,fh,fi,fk,fl,fm,fo,fp,fq,fr,fs,ft,fv,fw,fx,fy,fz,fA,fB,fC,fD,fE,fF,fG,fH,fI,fJ,u64,fK,fL,fM,fN,fO,fP,fQ,fR,fS,fT,fU,fV,fW,fX,fY,fZ,f3,f4,f5,f6,f7,f8,f9,ga,gb,gd,ge,gf,gg,gh,gi,gj,gk,gl,gm,H,I,am,aF,aL,aM,aN,aX,a1,a8,bb,bd,bm,bp,bt,bz,bA,bD,bJ,bV,bY,b1,b5,b8,b9,cb,ce,ch,cj,cl,co,cp,cx,cy,cz,cA,cB,cD,cE,cG,cH,cM,cN,cO,cP,cR,cS,cT,cU,cV,cW,cX,cY,cZ,c4,c5,c6,c7,c8,c9,da,db,dc,dd,de,df,dg,dh,di,dj,dk,dl,dm,dn,dp,dr,dt,du,dv,dw,dx,dy,dA,dC,dD,dE,dF,dG,dI,dJ,dK,dM,dQ,dR,dS,dT,dV,dW,dX,dY,dZ,d0,d1,d2,d3,d4,d5,d6,d7,d8,d9,ea,eb,ec,ed,ee,ef,eg,eh,ei,ej,ek,el,em,en,eo,ep,eq,er,es,et,eu,ev,ew,ex,ey,ez,eA,eB,eC,eD,eE,eF,eG,eH,eI,eJ,eL,eM,undef,undef,undef,undef],[]⟩ wr) dq) ⟨#[.pointer (some ⟨g,0,none⟩),.slice A m c,undef,undef,.slice S ln lc,(.int .i64 k),gN,z,u8,gK,eO,go,gp,cc,bQ,.pointer (some ⟨g,0,none⟩),.pointer (some ⟨g,0,none⟩),.pointer (some ⟨g,3,none⟩),.slice S ln lc,eR,eS,eT,eU,eV,eW,eY,eZ,e3,e6,e7,e8,e9,u32,fa,fb,fd,fe,ff,fh,fi,fk,fl,fm,fo,fp,fq,fr,fs,ft,fv,fw,fx,fy,fz,fA,fB,fC,fD,fE,fF,fG,fH,fI,fJ,u64,fK,fL,fM,fN,fO,fP,fQ,fR,fS,fT,fU,fV,fW,fX,fY,fZ,f3,f4,f5,f6,f7,f8,f9,ga,gb,gd,ge,gf,gg,gh,gi,gj,gk,gl,gm,H,I,am,aF,aL,aM,aN,aX,a1,a8,bb,bd,bm,bp,bt,bz,bA,bD,bJ,bV,bY,b1,b5,b8,b9,cb,ce,ch,cj,cl,co,cp,cx,cy,cz,cA,cB,cD,cE,cG,cH,cM,cN,cO,cP,cR,cS,cT,cU,cV,cW,cX,cY,cZ,c4,c5,c6,c7,c8,c9,da,db,dc,dd,de,df,dg,dh,di,dj,dk,dl,dm,dn,dp,dr,dt,du,dv,dw,dx,dy,dA,dC,dD,dE,dF,dG,dI,dJ,dK,dM,dQ,dR,dS,dT,dV,dW,dX,dY,dZ,d0,d1,d2,d3,d4,d5,d6,d7,d8,d9,ea,eb,ec,ed,ee,ef,eg,eh,ei,ej,ek,el,em,en,eo,ep,eq,er,es,et,eu,ev,ew,ex,ey,ez,eA,eB,eC,eD,eE,eF,eG,eH,eI,eJ,eL,eM,undef,undef,undef,undef],[]⟩ wr
end Go.Proofs.YtglbpimocmhojaaGreat

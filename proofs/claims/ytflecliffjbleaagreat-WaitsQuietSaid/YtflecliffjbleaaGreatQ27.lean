/- Part 27 of the proof. No condition of its own. -/
import Derived.Test.YtflecliffjbleaaGreatQ13
import Derived.Test.YtflecliffjbleaaGreatQ26
namespace Go.Proofs.YtflecliffjbleaaGreat
open Go.RowKit Go.Proofs.Tryz
set_option maxRecDepth 1000000
set_option maxHeartbeats 25600000
set_option linter.unusedVariables false
variable{op t:Int}{b:Nat}{P:Nat->Prop}{p:Prop}
section
variable {w ac aP aV b3 cz X:World} {g B:Nat} {M:List bF} {F:List aA} {l:List dG} {S:LP} {ln lc:Nat} {n:Int} {st:Nat} {code:List ay} {sites:List Int} {bQ:LP} {bT:Nat} {bM:LP} {bo:Nat}
theorem cJ.own(h:cJ w g B M F l S ln lc n st code sites bQ bT bM bo){j:Nat}{v:Value}(hX:w.setCell ⟨g,j,none⟩ v=X):
  Mv g (.slice bQ code.length bT) (.slice bM sites.length bo) w (.slice bQ code.length bT) (.slice bM sites.length bo) X/\Fr (λb=>b=g) w X/\lG B 61 12 3 1 X bQ code.length bT (code.map dV) bM sites.length bo (sites.map D.i):=by
 have J:=dj hX;exact⟨Mv.IY (J.mono λb O=>.inl O),J,h.rows.cS J λb O _=>by have:=h.base.1;omega⟩
namespace B3
theorem AQ(h:p:=by
 rw[<-hX];exact aN.aD 5 _
 ):p:=h
end B3
open B3 in
theorem cJ.stmt(h:cJ w g B M F l S ln lc n st code sites bQ bT bM bo)(hX:w.setCell ⟨g,5,none⟩ (.int .i64 ((st+1:Nat):Int))=X) :
  cJ X g B M F l S ln lc n (st+1) code sites bQ bT bM bo/\Mv g (.slice bQ code.length bT) (.slice bM sites.length bo) w (.slice bQ code.length bT) (.slice bM sites.length bo) X:=by
 exact AP
namespace B4
theorem AQ(h:p:=by
 rw[<-hX];exact aN.aD 4 _
 ):p:=h
end B4
open B4 in
theorem cJ.locals(h:cJ w g B M F l S ln lc n st code sites bQ bT bM bo){a5:Int}(hX:w.setCell ⟨g,4,none⟩ (.int .i64 a5)=X):
  cJ X g B M F l S ln lc a5 st code sites bQ bT bM bo/\Mv g (.slice bQ code.length bT) (.slice bM sites.length bo) w (.slice bQ code.length bT) (.slice bM sites.length bo) X:=by
 exact AP
theorem cJ.DO(h:cJ w g B M F l S ln lc n st code sites bQ bT bM bo){aW:List dG}{a8:LP}{aY bn:Nat}(hn:aY<=1000000)(hl:Sl w (off (Ms g (.slice bQ code.length bT) (.slice bM sites.length bo)) w) a8 aY (aW.map bS))(hX:w.setCell ⟨g,3,none⟩ (.slice a8 aY bn)=X):
  cJ X g B M F aW a8 aY bn n st code sites bQ bT bM bo/\Mv g (.slice bQ code.length bT) (.slice bM sites.length bo) w (.slice bQ code.length bT) (.slice bM sites.length bo) X:=by
 obtain⟨hM,J,hG⟩:=h.own hX;obtain⟨GA,gn,gc,MA,mn,mc,FA,fn,fc,aN,cd,bJ,aZ,H⟩:=h.blk;refine⟨⟨⟨GA,gn,gc,MA,mn,mc,FA,fn,fc,?_,cd,bJ,aZ.cM hM,H.cM hM⟩,⟨h.base.1,Ls h.base.2 hM.fr.size⟩,⟨hn,hl.cM hM⟩,hG⟩,hM⟩;rw[<-hX];exact aN.aD 3 _
theorem cJ.target(h:cJ w g B M F l S ln lc n st code sites bQ bT bM bo)(O:b<code.length)(t:Int):∃aa,bQ=some ⟨aa,0,none⟩/\aa<w.heap.size/\w.frozen? ⟨aa,b*12+1,none⟩=false/\(∃u,w.cell? ⟨aa,b*12+1,none⟩=some (.int .i64 u))/\
  ∀X,w.setCell ⟨aa,b*12+1,none⟩ (.int .i64 t)=X->cJ X g B M F l S ln lc n st (fR code b t) sites bQ bT bM bo/\Mv g (.slice bQ code.length bT) (.slice bM sites.length bo) w (.slice bQ code.length bT) (.slice bM sites.length bo) X:=by
 obtain⟨hl,xs,ae,aD⟩:=h.rows.one;obtain⟨aa,bp,r,bI,aI,e,am⟩:=h9 ae ab;have U:xs.length=code.length*12:=by rw[D.g8 _ _ aD,D.gN (z:=12) (λd hd=>by obtain⟨x,_,rfl⟩:=Lz.1 hd;exact mR x),Lf]
 have aw:b*12+1<xs.length:=by rw[U];omega
 have bm:xs[b*12+1]?=some (xs[b*12+1]'aw):=List.getElem?_eq_getElem _;have hint:∃u,xs[b*12+1]?=some (.int .i64 u):=by
  have hm:(code.map dV)[b]?=some (dV (code[b]'O)):=by rw[List.getElem?_map,List.getElem?_eq_getElem O];rfl
  obtain⟨cs,aQ,bi,bd⟩:=D.pe aD (z:=12) (λd hd=>by obtain⟨x,_,rfl⟩:=Lz.1 hd;exact mR x) hm;unfold dV at aQ;rw[bB,a5] at aQ;obtain⟨y,rfl,aQ⟩:=aQ;rw[a5] at aQ;obtain⟨br,rfl,aQ⟩:=aQ;exact⟨_,bd 1 _ rfl⟩
 refine⟨aa,bp,bI,e _,?_,λX hX=>?_⟩
 .obtain⟨u,hu⟩:=hint;exact⟨u,aI _ _ hu⟩
 have ax:(Value.slice bQ code.length bT).ownBlock=some aa:=by rw[bp];rfl
 have J:=dj hX;have hM:Mv g (.slice bQ code.length bT) (.slice bM sites.length bo) w (.slice bQ code.length bT) (.slice bM sites.length bo) X:=Mv.IY (J.mono λb O=>by subst O;exact .inr (.inl ax));have a:¬(Value.slice bM sites.length bo).ownBlock=some aa:=h.rows.ne aa ax;obtain⟨GA,gn,gc,MA,mn,mc,FA,fn,fc,aN,cd,bJ,aZ,H⟩:=h.blk;refine⟨⟨⟨GA,gn,gc,MA,mn,mc,FA,fn,fc,?_,cd,bJ,?_,?_⟩,⟨h.base.1,Ls h.base.2 hM.fr.size⟩,⟨h.names.1,?_⟩,?_⟩,hM⟩
 .rw[cp];exact aN.on J (aC h.base.1)
 .rw[cp];exact aZ.cM hM
 .rw[cp];exact H.cM hM
 .rw[cp];exact h.names.2.cM hM
 .have bv:=am (b*12+1) (.int .i64 t) ab;rw[hX] at bv;rw[cp];refine⟨⟨by rw[Lf,cp],_,bv,?_⟩,?_,h.rows.ne⟩
  .refine sc t code xs b ?_ O;exact D.bQ (λb O=>⟨O.1,by have:=J.size;have:=O.2.1;omega,O.2.2⟩) _ _ (D.bP (λb aX=>J.block b aX.2.1 λhe=>aX.2.2 (by rw[ax,he])) _ _ aD)
  .exact h.rows.two.c7 J.size λb aw hp=>J.block b aw λhe=>by
    subst he;rcases hp with hp|hp
    .exact hp.2 ax
    .exact a hp
end
theorem an.cM{w ac:World}{g:Nat}{t:TypeId}{cs:Array Value}{cv sv a f:Value}(h:an w b t cs)(hn:¬Ms g cv sv b)(hM:Mv g cv sv w a f ac):an ac b t cs/\¬Ms g a f b:=
 ⟨h.on hM.fr hn,λhm=>hn (hM.own b h.lt hm)⟩
theorem qj(b:ak):b.isNil=decide (b.list.length=0):=by cases b<;>simp[ak.isNil,ak.list]
theorem tW(b:ak):(cY b).length=b.list.length:=by rw[cC,Lf]
def C7(e:dG):List Value:=[.string e.name,.int .i64 e.kind,.int .i64 e.n]
theorem ji:ca prog 143 147 (.agg #[.string ⟨#[]⟩,.int .i64 0,.int .i64 0]) 3 32:=ca.mk' Tryz.underlying143 (by kernel_rfl) rfl ab
theorem jW{w:World}(e:dG):(bS e).rep w P (C7 e):=iw.2 rfl
theorem lg{w:World}(l:List dG):D.aJ w P (l.map bS) (l.flatMap C7):=m7 jW l
theorem uc{w:World}{P Q:Nat->Prop}:∀{l:List dG} {xs:List Value},D.aJ w P (l.map bS) xs->D.aJ w Q (l.map bS) xs
 | [],xs,h=>by simpa only[Ly,D.aJ] using h
 | e::l,xs,h=>by
  rw[Lh] at h ⊢;obtain⟨x,y,rfl,hx,a4⟩:=dy.1 h;exact dy.2 ⟨x,y,rfl,iw.2 (iw.1 hx),uc a4⟩
theorem kK{w:World}{A:LP}{n:Nat}{l:List dG}(h:Sl w (au w) A n (l.map bS)):Src w 3 A n (l.flatMap C7):=
 Src.ov (Sl.Jd (f:=C7) (sz:=3) (λ_ _ _ _ h=>iw.1 h) (λ_=>rfl) h) (λ_ _=>rfl) (λx _ u hu=>by
  simp only[C7,Lr,List.not_mem_nil,or_false] at hu;rcases hu with rfl|rfl|rfl<;>rfl) ab
theorem h6{w aP:World}{g B:Nat}{M:List bF}{F:List aA}{l:List dG}{S:LP}{ln lc:Nat}{n:Int}{st:Nat}{code:List ay}{sites:List Int}{bQ:LP}{bT:Nat}{bM:LP}{bo:Nat}(h:cJ w g B M F l S ln lc n st code sites bQ bT bM bo){d:D}{cs:List Value}(hd:d.rep aP (fresh w aP) cs):
  d.rep aP (J2 B g (.slice bQ code.length bT) (.slice bM sites.length bo) aP) cs:=by
 have aw:=h.lt;have u:=h.base;refine D.aE (λb O=>⟨by have:=O.1;omega,O.2,λhm=>?_⟩) _ _ hd;have ae:=O.1;rcases hm with hm|hm|hm
 .omega
 .have:=(h.rows.one.lt hm).2;omega
 .have:=(h.rows.two.lt hm).2;omega
theorem ld{w:World}{g:Bool}{e:VE}{eo en:Int}{es:ByteArray}{EA:LP}{em ec:Nat}(h:(bf e).rep w P [.int .i64 eo,.int .i64 en,.string es,.slice EA em ec]):
  (dV ⟨op,t,g,some e,kh,[],[]⟩).rep w P [.int .i64 op,.int .i64 t,.bool g,.int .i64 eo,.int .i64 en,.string es,.slice EA em ec,.bool false,.int .i64 0,.slice none 0 0,.slice none 0 0,.slice none 0 0]:=by
 unfold dV;rw[bB];exact a5.2 ⟨_,rfl,a5.2 ⟨_,rfl,fi.2 ⟨_,rfl,dy.2 ⟨[_,_,_,_],_,rfl,h,ox (aF.2 ⟨none,0,0,_,rfl,Lb _,Sl.bN _,aF.2 ⟨none,0,0,[],rfl,Lb _,Sl.bN _,aK.2 rfl⟩⟩)⟩⟩⟩⟩
theorem wa{w:World}{g:Bool}{p:bJ}{pb:Bool}{pi:Int}{PA:LP}{pm pc:Nat}(h:(ds p).rep w P [.bool pb,.int .i64 pi,.slice PA pm pc]):
  (dV ⟨op,t,g,none,p,[],[]⟩).rep w P [.int .i64 op,.int .i64 t,.bool g,.int .i64 0,.int .i64 0,.string ⟨#[]⟩,.slice none 0 0,.bool pb,.int .i64 pi,.slice PA pm pc,.slice none 0 0,.slice none 0 0]:=by
 unfold dV;rw[bB];exact a5.2 ⟨_,rfl,a5.2 ⟨_,rfl,fi.2 ⟨_,rfl,qN (dy.2 ⟨[_,_,_],_,rfl,h,aF.2 ⟨none,0,0,_,rfl,Lb _,Sl.bN _,aF.2 ⟨none,0,0,[],rfl,Lb _,Sl.bN _,aK.2 rfl⟩⟩⟩)⟩⟩⟩
def lX(U:hi)(nk:Int)(F:List aA)(b:ak):Prop:=
 ∀(G:Env) (d:Nat) (l:List dG) (V T:LQ) (n:Int) (st:Nat) (code:List ay) (sites:List Int) (g B:Nat) (S:LP) (ln lc:Nat) (bQ:LP) (bT:Nat) (bM:LP) (bo:Nat) (A:LP) (m c:Nat) (w:World),
  eM G d V T b->Sc U G l V T n nk->vq F G l->(∀f∈F,f.params.length<=1000)->cJ w g B U.ae F l S ln lc n st code sites bQ bT bM bo->Sl w (off (Ms g (.slice bQ code.length bT) (.slice bM sites.length bo)) w) A m (cY b)->
  code.length+2*b.num<=100000->sites.length=code.length->n+b.num<=100000->st+b.num<=100000->l.length+b.num<=100000->
  Calls prog 111 #[.pointer (some ⟨g,0,none⟩),.slice A m c] w λe ac=>e=.returned (.tuple #[])/\∃Y af al aH y,y.length=(dD b l n code).1.length/\
   cJ ac g B U.ae F l S ln lc (dD b l n code).2 (st+b.num) (dD b l n code).1 y Y af al aH/\
   Mv g (.slice bQ code.length bT) (.slice bM sites.length bo) w (.slice Y (dD b l n code).1.length af) (.slice al y.length aH) ac
theorem gD:∀b:ak,b.list.length<=b.num
 | .nil=>by simp[ak.list]
 | .set _ _ _ rest=>by simp[ak.list,ak.num,gD rest]
 | .call _ _ _ rest=>by simp[ak.list,ak.num,gD rest]
 | .lock _ _ rest=>by simp[ak.list,ak.num,gD rest]
 | .ite _ th el rest=>by simp[ak.list,ak.num];have:=gD rest;omega
 | .gp _ th rest=>by simp[ak.list,ak.num];have:=gD rest;omega
 | .ret rest=>by simp[ak.list,ak.num,gD rest]
def fN:Code->Option Code
 | .loop c=>some c
 | .seq a b=>match fN a with
  | some c=>some c
  | none=>fN b
 | .block _ c=>fN c
 | .scope c=>fN c
 | .cond _ a b=>match fN a with
  | some c=>some c
  | none=>fN b
 | _=>none
noncomputable def sM:Code:=((Tryz.f111.body.bind fN).getD .skip)
def oD(U:hi)(nk:Int)(F:List aA)(b:ak)(G:Env)(d:Nat)(l:List dG)(n:Int)(st:Nat)(code:List ay)(sites:List Int)(g B:Nat)(S:LP)(ln lc:Nat)(bQ:LP)(bT:Nat)(bM:LP)(bo:Nat)(A:LP)(m c:Nat)(w:World)(bc:Value)(wr:World):Prop:=∃(k:Nat) (rest:ak) (aW:List dG) (az a7:LQ) (a5:Int) (ac:Nat) (u:List ay) (y:List Int) (a8:LP) (aY bn:Nat) (Y:LP) (af:Nat) (al:LP) (aH:Nat),bc=.int .i64 k/\k<=m/\b.list.drop k=rest.list/\dD rest aW a5 u=dD b l n code/\ac+rest.num=st+b.num/\
   eM G d az a7 rest/\Sc U G aW az a7 a5 nk/\vq F G aW/\u.length+2*rest.num<=100000/\y.length=u.length/\a5+rest.num<=100000/\aW.length+rest.num<=100000/\cJ wr g B U.ae F aW a8 aY bn a5 ac u y Y af al aH/\
   Mv g (.slice bQ code.length bT) (.slice bM sites.length bo) w (.slice Y u.length af) (.slice al y.length aH) wr
def iP(U:hi)(nk:Int)(F:List aA)(b:ak)(G:Env)(d:Nat)(l:List dG)(n:Int)(st:Nat)(code:List ay)(sites:List Int)(g B:Nat)(S:LP)(ln lc:Nat)(bQ:LP)(bT:Nat)(bM:LP)(bo:Nat)(A:LP)(m c:Nat)(w:World)(a:Act)(wr:World):Prop:=∃gD gJ o u8 gF eK br gl ch aK eN eO eP eQ eR eS eV eW eY eZ e3 e4 e5 u32 e6 e7 e8 e9 fa fb fd fe ff fh fi fl fm fo fp fq fr fs ft fu fv fw fx fy fz fA fB fC fD fE fF u64 fG fH fI fJ fK fL fM fN fO fP fQ fR fS fT fU fX fY fZ f3 f4 f5 f6 f7 f8 f9 ga gb gd ge gf gg gh gi gj gk H am aF aI aJ aS a3 bb be bq bw bC bN bO bW bX b1 b2 b5 b6 ca ci cl cm co cq cr cu cv cw cx cA cC cD cE cF cG cH cI cK cL cM cN cO cP cQ cR cS cT cU cV cW cX cY cZ c4 c5 c6 c7 c8 c9 da db dc dd de df dg dh di dk dl dm dn dr ds dt du dv dw dx dy dz dA dB dC dE dF dH dI dJ dK dM dN dO dP dQ dS dT dU dV dW dX dY dZ d0 d1 d2 d3 d4 d5 d6 d7 d8 d9 ea eb ec ed ee ef eg eh ej ek el em en eo ep eq er es et eu ev ew ex ey ez eA eB eC eD eE eF eG eH eI:Value,oD U nk F b G d l n st code sites g B S ln lc bQ bT bM bo A m c w gD wr/\a=⟨#[.pointer (some ⟨g,0,none⟩),.slice A m c,undef,undef,.slice S ln lc,gD,gJ,o,u8,gF,eK,br,gl,ch,aK,.pointer (some ⟨g,0,none⟩),.pointer (some ⟨g,0,none⟩),.pointer (some ⟨g,3,none⟩),.slice S ln lc,eN,eO,eP,eQ,eR,eS,eV,eW,eY,eZ,e3,e4,e5,u32,e6,e7,e8,e9,fa,fb,fd,fe,ff,fh,fi,fl,fm,fo,fp,fq,fr,fs,ft,fu,fv,fw,fx,fy,fz,fA,fB,fC,fD,fE,fF,u64,fG,fH,fI,fJ,fK,fL,fM,fN,fO,fP,fQ,fR,fS,fT,fU,fX,fY,fZ,f3,f4,f5,f6,f7,f8,f9,ga,gb,gd,ge,gf,gg,gh,gi,gj,gk,H,am,aF,aI,aJ,aS,a3,bb,be,bq,bw,bC,bN,bO,bW,bX,b1,b2,b5,b6,ca,ci,cl,cm,co,cq,cr,cu,cv,cw,cx,cA,cC,cD,cE,cF,cG,cH,cI,cK,cL,cM,cN,cO,cP,cQ,cR,cS,cT,cU,cV,cW,cX,cY,cZ,c4,c5,c6,c7,c8,c9,da,db,dc,dd,de,df,dg,dh,di,dk,dl,dm,dn,dr,ds,dt,du,dv,dw,dx,dy,dz,dA,dB,dC,dE,dF,dH,dI,dJ,dK,dM,dN,dO,dP,dQ,dS,dT,dU,dV,dW,dX,dY,dZ,d0,d1,d2,d3,d4,d5,d6,d7,d8,d9,ea,eb,ec,ed,ee,ef,eg,eh,ej,ek,el,em,en,eo,ep,eq,er,es,et,eu,ev,ew,ex,ey,ez,eA,eB,eC,eD,eE,eF,eG,eH,eI,undef,undef,undef,undef],[]⟩
def jt(m:Nat)(a:Act)(_:World):Nat:=m - (intOf (a.tmps.getD 5 undef)).toNat
def EJ(U:hi)(nk:Int)(F:List aA)(b:ak)(G:Env)(d:Nat)(l:List dG)(n:Int)(st:Nat)(code:List ay)(sites:List Int)(g B:Nat)(S:LP)(ln lc:Nat)(bQ:LP)(bT:Nat)(bM:LP)(bo:Nat)(A:LP)(m c:Nat)(w:World)(a:Act)(wr:World):Prop:=∃gD gJ o u8 gF eK br gl ch aK eN eO eP eQ eR eS eV eW eY eZ e3 e4 e5 u32 e6 e7 e8 e9 fa fb fd fe ff fh fi fl fm fo fp fq fr fs ft fu fv fw fx fy fz fA fB fC fD fE fF u64 fG fH fI fJ fK fL fM fN fO fP fQ fR fS fT fU fX fY fZ f3 f4 f5 f6 f7 f8 f9 ga gb gd ge gf gg gh gi gj gk H am aF aI aJ aS a3 bb be bq bw bC bN bO bW bX b1 b2 b5 b6 ca ci cl cm co cq cr cu cv cw cx cA cC cD cE cF cG cH cI cK cL cM cN cO cP cQ cR cS cT cU cV cW cX cY cZ c4 c5 c6 c7 c8 c9 da db dc dd de df dg dh di dk dl dm dn dr ds dt du dv dw dx dy dz dA dB dC dE dF dH dI dJ dK dM dN dO dP dQ dS dT dU dV dW dX dY dZ d0 d1 d2 d3 d4 d5 d6 d7 d8 d9 ea eb ec ed ee ef eg eh ej ek el em en eo ep eq er es et eu ev ew ex ey ez eA eB eC eD eE eF eG eH eI:Value,oD U nk F b G d l n st code sites g B S ln lc bQ bT bM bo A m c w gD wr/\gD=.int .i64 m/\a=⟨#[.pointer (some ⟨g,0,none⟩),.slice A m c,undef,undef,.slice S ln lc,gD,gJ,o,u8,gF,eK,br,gl,ch,aK,.pointer (some ⟨g,0,none⟩),.pointer (some ⟨g,0,none⟩),.pointer (some ⟨g,3,none⟩),.slice S ln lc,eN,eO,eP,eQ,eR,eS,eV,eW,eY,eZ,e3,e4,e5,u32,e6,e7,e8,e9,fa,fb,fd,fe,ff,fh,fi,fl,fm,fo,fp,fq,fr,fs,ft,fu,fv,fw,fx,fy,fz,fA,fB,fC,fD,fE,fF,u64,fG,fH,fI,fJ,fK,fL,fM,fN,fO,fP,fQ,fR,fS,fT,fU,fX,fY,fZ,f3,f4,f5,f6,f7,f8,f9,ga,gb,gd,ge,gf,gg,gh,gi,gj,gk,H,am,aF,aI,aJ,aS,a3,bb,be,bq,bw,bC,bN,bO,bW,bX,b1,b2,b5,b6,ca,ci,cl,cm,co,cq,cr,cu,cv,cw,cx,cA,cC,cD,cE,cF,cG,cH,cI,cK,cL,cM,cN,cO,cP,cQ,cR,cS,cT,cU,cV,cW,cX,cY,cZ,c4,c5,c6,c7,c8,c9,da,db,dc,dd,de,df,dg,dh,di,dk,dl,dm,dn,dr,ds,dt,du,dv,dw,dx,dy,dz,dA,dB,dC,dE,dF,dH,dI,dJ,dK,dM,dN,dO,dP,dQ,dS,dT,dU,dV,dW,dX,dY,dZ,d0,d1,d2,d3,d4,d5,d6,d7,d8,d9,ea,eb,ec,ed,ee,ef,eg,eh,ej,ek,el,em,en,eo,ep,eq,er,es,et,eu,ev,ew,ex,ey,ez,eA,eB,eC,eD,eE,eF,eG,eH,eI,undef,undef,undef,undef],[]⟩
def BK(X:ak):Prop:=∀(dq:vt) (U:hi) (nk:Int) (F:List aA) (b:ak) (G:Env) (d:Nat) (l:List dG) (n:Int) (st:Nat) (code:List ay) (sites:List Int) (g B:Nat) (S:LP) (ln lc:Nat) (bQ:LP) (bT:Nat) (bM:LP) (bo:Nat) (A:LP) (m c:Nat) (w:World) (bB:LR (Sl w (off (Ms g (.slice bQ code.length bT) (.slice bM sites.length bo)) w) A m (b.list.map a9))) (ct:LR (∀s∈b.list,lX U nk F s.th/\lX U nk F s.el)) (eJ:LR (∀f∈F,f.params.length<=1000)) (dp:LR (b.list.length=m)) (fg:m<=100000) (e0:st+b.num<=100000) (k:Nat) (aW:List dG) (az a7:LQ) (a5:Int) (ac:Nat) (u:List ay) (y:List Int) (a8:LP) (aY bn:Nat) (Y:LP) (af:Nat) (al:LP) (aH:Nat) (wr:World) (aw:k<m) (bD:b.list.drop k=X.list) (aX:dD X aW a5 u=dD b l n code) (aE:ac+X.num=st+b.num) (a1:eM G d az a7 X) (hS:Sc U G aW az a7 a5 nk) (bx:vq F G aW) (bi:u.length+2*X.num<=100000) (bZ:y.length=u.length) (bj:a5+X.num<=100000) (bg:aW.length+X.num<=100000) (bp:cJ wr g B U.ae F aW a8 aY bn a5 ac u y Y af al aH) (hM:Mv g (.slice bQ code.length bT) (.slice bM sites.length bo) w (.slice Y u.length af) (.slice al y.length aH) wr)
  (dR:Exit->Act->World->Prop) (hQ0:∀c a d v w,dR (.panic c) (a.put d v) w->dR (.panic c) a w)
  {gJ o u8 gF eK br gl ch aK eN eO eP eQ eR eS eV eW eY eZ e3 e4 e5 u32 e6 e7 e8 e9 fa fb fd fe ff fh fi fl fm fo fp fq fr fs ft fu fv fw fx fy fz fA fB fC fD fE fF u64 fG fH fI fJ fK fL fM fN fO fP fQ fR fS fT fU fX fY fZ f3 f4 f5 f6 f7 f8 f9 ga gb gd ge gf gg gh gi gj gk H am aF aI aJ aS a3 bb be bq bw bC bN bO bW bX b1 b2 b5 b6 ca ci cl cm co cq cr cu cv cw cx cA cC cD cE cF cG cH cI cK cL cM cN cO cP cQ cR cS cT cU cV cW cX cY cZ c4 c5 c6 c7 c8 c9 da db dc dd de df dg dh di dk dl dm dn dr ds dt du dv dw dx dy dz dA dB dC dE dF dH dI dJ dK dM dN dO dP dQ dS dT dU dV dW dX dY dZ d0 d1 d2 d3 d4 d5 d6 d7 d8 d9 ea eb ec ed ee ef eg eh ej ek el em en eo ep eq er es et eu ev ew ex ey ez eA eB eC eD eE eF eG eH eI:Value},
  Code.wp prog sM (Exit.then (λr j=>iP U nk F b G d l n st code sites g B S ln lc bQ bT bM bo A m c w r j/\jt m r j<jt m ⟨#[.pointer (some ⟨g,0,none⟩),.slice A m c,undef,undef,.slice S ln lc,(.int .i64 k),gJ,o,u8,gF,eK,br,gl,ch,aK,.pointer (some ⟨g,0,none⟩),.pointer (some ⟨g,0,none⟩),.pointer (some ⟨g,3,none⟩),.slice S ln lc,eN,eO,eP,eQ,eR,eS,eV,eW,eY,eZ,e3,e4,e5,u32,e6,e7,e8,e9,fa,fb,fd,fe,ff,fh,fi,fl,fm,fo,fp,fq,fr,fs,ft,fu,fv,fw,fx,fy,fz,fA,fB,fC,fD,fE,fF,u64,fG,fH,fI,fJ,fK,fL,fM,fN,fO,fP,fQ,fR,fS,fT,fU,fX,fY,fZ,f3,f4,f5,f6,f7,f8,f9,ga,gb,gd,ge,gf,gg,gh,gi,gj,gk,H,am,aF,aI,aJ,aS,a3,bb,be,bq,bw,bC,bN,bO,bW,bX,b1,b2,b5,b6,ca,ci,cl,cm,co,cq,cr,cu,cv,cw,cx,cA,cC,cD,cE,cF,cG,cH,cI,cK,cL,cM,cN,cO,cP,cQ,cR,cS,cT,cU,cV,cW,cX,cY,cZ,c4,c5,c6,c7,c8,c9,da,db,dc,dd,de,df,dg,dh,di,dk,dl,dm,dn,dr,ds,dt,du,dv,dw,dx,dy,dz,dA,dB,dC,dE,dF,dH,dI,dJ,dK,dM,dN,dO,dP,dQ,dS,dT,dU,dV,dW,dX,dY,dZ,d0,d1,d2,d3,d4,d5,d6,d7,d8,d9,ea,eb,ec,ed,ee,ef,eg,eh,ej,ek,el,em,en,eo,ep,eq,er,es,et,eu,ev,ew,ex,ey,ez,eA,eB,eC,eD,eE,eF,eG,eH,eI,undef,undef,undef,undef],[]⟩ wr) dR) ⟨#[.pointer (some ⟨g,0,none⟩),.slice A m c,undef,undef,.slice S ln lc,(.int .i64 k),gJ,o,u8,gF,eK,br,gl,ch,aK,.pointer (some ⟨g,0,none⟩),.pointer (some ⟨g,0,none⟩),.pointer (some ⟨g,3,none⟩),.slice S ln lc,eN,eO,eP,eQ,eR,eS,eV,eW,eY,eZ,e3,e4,e5,u32,e6,e7,e8,e9,fa,fb,fd,fe,ff,fh,fi,fl,fm,fo,fp,fq,fr,fs,ft,fu,fv,fw,fx,fy,fz,fA,fB,fC,fD,fE,fF,u64,fG,fH,fI,fJ,fK,fL,fM,fN,fO,fP,fQ,fR,fS,fT,fU,fX,fY,fZ,f3,f4,f5,f6,f7,f8,f9,ga,gb,gd,ge,gf,gg,gh,gi,gj,gk,H,am,aF,aI,aJ,aS,a3,bb,be,bq,bw,bC,bN,bO,bW,bX,b1,b2,b5,b6,ca,ci,cl,cm,co,cq,cr,cu,cv,cw,cx,cA,cC,cD,cE,cF,cG,cH,cI,cK,cL,cM,cN,cO,cP,cQ,cR,cS,cT,cU,cV,cW,cX,cY,cZ,c4,c5,c6,c7,c8,c9,da,db,dc,dd,de,df,dg,dh,di,dk,dl,dm,dn,dr,ds,dt,du,dv,dw,dx,dy,dz,dA,dB,dC,dE,dF,dH,dI,dJ,dK,dM,dN,dO,dP,dQ,dS,dT,dU,dV,dW,dX,dY,dZ,d0,d1,d2,d3,d4,d5,d6,d7,d8,d9,ea,eb,ec,ed,ee,ef,eg,eh,ej,ek,el,em,en,eo,ep,eq,er,es,et,eu,ev,ew,ex,ey,ez,eA,eB,eC,eD,eE,eF,eG,eH,eI,undef,undef,undef,undef],[]⟩ wr
end Go.Proofs.YtflecliffjbleaaGreat

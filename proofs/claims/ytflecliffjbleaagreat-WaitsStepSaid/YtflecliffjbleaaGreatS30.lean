/- Part 30 of the proof. No condition of its own. -/
import Derived.Test.YtflecliffjbleaaGreatS13
import Derived.Test.YtflecliffjbleaaGreatS29
namespace Go.Proofs.YtflecliffjbleaaGreat
open Go.RowKit Go.Proofs.Tryz
set_option maxRecDepth 1000000
set_option maxHeartbeats 25600000
set_option linter.unusedVariables false
variable{op t:Int}{b:Nat}{P:Nat->Prop}{p:Prop}
section
variable {w ab aP aW b4 cI X:World} {g B:Nat} {M:List bL} {F:List aG} {l:List dQ} {bB:Mk} {ln lc:Nat} {n:Int} {st:Nat} {code:List ay} {sites:List Int} {S:Mk} {br:Nat} {bE:Mk} {bw:Nat}
theorem cN.own(h:cN w g B M F l bB ln lc n st code sites S br bE bw){j:Nat}{v:Value}(hX:w.setCell ⟨g,j,none⟩ v=X):
  Mv g (.slice S code.length br) (.slice bE sites.length bw) w (.slice S code.length br) (.slice bE sites.length bw) X/\Fr (λb=>b=g) w X/\lL B 61 12 3 1 X S code.length br (code.map ep) bE sites.length bw (sites.map D.i):=by
 have J:=cJ hX;exact⟨Mv.JA (J.mono λb O=>.inl O),J,h.rows.cS J λb O _=>by have:=h.base.1;omega⟩
namespace CS
theorem Bu(h:p:=by
 rw[<-hX];exact aS.aJ 5 _
 ):p:=h
end CS
open CS in
theorem cN.stmt(h:cN w g B M F l bB ln lc n st code sites S br bE bw)(hX:w.setCell ⟨g,5,none⟩ (.int .i64 ((st+1:Nat):Int))=X) :
  cN X g B M F l bB ln lc n (st+1) code sites S br bE bw/\Mv g (.slice S code.length br) (.slice bE sites.length bw) w (.slice S code.length br) (.slice bE sites.length bw) X:=by
 exact Bt
namespace CT
theorem Bu(h:p:=by
 rw[<-hX];exact aS.aJ 4 _
 ):p:=h
end CT
open CT in
theorem cN.locals(h:cN w g B M F l bB ln lc n st code sites S br bE bw){aQ:Int}(hX:w.setCell ⟨g,4,none⟩ (.int .i64 aQ)=X):
  cN X g B M F l bB ln lc aQ st code sites S br bE bw/\Mv g (.slice S code.length br) (.slice bE sites.length bw) w (.slice S code.length br) (.slice bE sites.length bw) X:=by
 exact Bt
theorem cN.EC(h:cN w g B M F l bB ln lc n st code sites S br bE bw){aM:List dQ}{ba:Mk}{aF b8:Nat}(hn:aF<=1000000)(hl:Sl w (off (Ms g (.slice S code.length br) (.slice bE sites.length bw)) w) ba aF (aM.map bY))(hX:w.setCell ⟨g,3,none⟩ (.slice ba aF b8)=X):
  cN X g B M F aM ba aF b8 n st code sites S br bE bw/\Mv g (.slice S code.length br) (.slice bE sites.length bw) w (.slice S code.length br) (.slice bE sites.length bw) X:=by
 obtain⟨hM,J,hG⟩:=h.own hX;obtain⟨GA,gn,gc,MA,mn,mc,FA,fn,fc,aS,cv,bR,cR,H⟩:=h.blk;refine⟨⟨⟨GA,gn,gc,MA,mn,mc,FA,fn,fc,?_,cv,bR,cR.cT hM,H.cT hM⟩,⟨h.base.1,LU h.base.2 hM.fr.size⟩,⟨hn,hl.cT hM⟩,hG⟩,hM⟩;rw[<-hX];exact aS.aJ 3 _
theorem cN.target(h:cN w g B M F l bB ln lc n st code sites S br bE bw)(O:b<code.length)(t:Int):∃R,S=some ⟨R,0,none⟩/\R<w.heap.size/\w.frozen? ⟨R,b*12+1,none⟩=false/\(∃u,w.cell? ⟨R,b*12+1,none⟩=some (.int .i64 u))/\
  ∀X,w.setCell ⟨R,b*12+1,none⟩ (.int .i64 t)=X->cN X g B M F l bB ln lc n st (gm code b t) sites S br bE bw/\Mv g (.slice S code.length br) (.slice bE sites.length bw) w (.slice S code.length br) (.slice bE sites.length bw) X:=by
 obtain⟨hl,xs,ac,ax⟩:=h.rows.one;obtain⟨R,bO,C,aQ,cb,de,L⟩:=iv ac ad;have U:xs.length=code.length*12:=by rw[D.hA _ _ ax,D.g5 (z:=12) (λd hd=>by obtain⟨x,_,rfl⟩:=L5.1 hd;exact mR x),LG]
 have ap:b*12+1<xs.length:=by rw[U];omega
 have bd:xs[b*12+1]?=some (xs[b*12+1]'ap):=List.getElem?_eq_getElem _;have hint:∃u,xs[b*12+1]?=some (.int .i64 u):=by
  have hm:(code.map ep)[b]?=some (ep (code[b]'O)):=by rw[List.getElem?_map,List.getElem?_eq_getElem O];rfl
  obtain⟨cs,a9,bq,bi⟩:=D.px ax (z:=12) (λd hd=>by obtain⟨x,_,rfl⟩:=L5.1 hd;exact mR x) hm;unfold ep at a9;rw[bJ,bf] at a9;obtain⟨y,rfl,a9⟩:=a9;rw[bf] at a9;obtain⟨cm,rfl,a9⟩:=a9;exact⟨_,bi 1 _ rfl⟩
 refine⟨R,bO,aQ,de _,?_,λX hX=>?_⟩
 .obtain⟨u,hu⟩:=hint;exact⟨u,cb _ _ hu⟩
 have az:(Value.slice S code.length br).ownBlock=some R:=by rw[bO];rfl
 have J:=cJ hX;have hM:Mv g (.slice S code.length br) (.slice bE sites.length bw) w (.slice S code.length br) (.slice bE sites.length bw) X:=Mv.JA (J.mono λb O=>by subst O;exact .inr (.inl az));have a:¬(Value.slice bE sites.length bw).ownBlock=some R:=h.rows.ne R az;obtain⟨GA,gn,gc,MA,mn,mc,FA,fn,fc,aS,cv,bR,cR,H⟩:=h.blk;refine⟨⟨⟨GA,gn,gc,MA,mn,mc,FA,fn,fc,?_,cv,bR,?_,?_⟩,⟨h.base.1,LU h.base.2 hM.fr.size⟩,⟨h.names.1,?_⟩,?_⟩,hM⟩
 .rw[cw];exact aS.on J (aB h.base.1)
 .rw[cw];exact cR.cT hM
 .rw[cw];exact H.cT hM
 .rw[cw];exact h.names.2.cT hM
 .have bP:=L (b*12+1) (.int .i64 t) ad;rw[hX] at bP;rw[cw];refine⟨⟨by rw[LG,cw],_,bP,?_⟩,?_,h.rows.ne⟩
  .refine sd t code xs b ?_ O;exact D.bV (λb O=>⟨O.1,by have:=J.size;have:=O.2.1;omega,O.2.2⟩) _ _ (D.bU (λb a4=>J.block b a4.2.1 λhe=>a4.2.2 (by rw[az,he])) _ _ ax)
  .exact h.rows.two.dh J.size λb ap hp=>J.block b ap λhe=>by
    subst he;rcases hp with hp|hp
    .exact hp.2 az
    .exact a hp
end
theorem ao.cT{w ab:World}{g:Nat}{t:TypeId}{cs:Array Value}{cv sv a f:Value}(h:ao w b t cs)(hn:¬Ms g cv sv b)(hM:Mv g cv sv w a f ab):ao ab b t cs/\¬Ms g a f b:=
 ⟨h.on hM.fr hn,λhm=>hn (hM.own b h.lt hm)⟩
theorem qp(b:al):b.isNil=decide (b.list.length=0):=by cases b<;>simp[al.isNil,al.list]
theorem ue(b:al):(c7 b).length=b.list.length:=by rw[cH,LG]
def DX(e:dQ):List Value:=[.string e.name,.int .i64 e.kind,.int .i64 e.n]
theorem js:cm prog 143 147 (.agg #[.string ⟨#[]⟩,.int .i64 0,.int .i64 0]) 3 32:=cm.mk' Tryz.underlying143 (by kernel_rfl) rfl ad
theorem j1{w:World}(e:dQ):(bY e).rep w P (DX e):=iH.2 rfl
theorem ll{w:World}(l:List dQ):D.aO w P (l.map bY) (l.flatMap DX):=m7 j1 l
theorem um{w:World}{P Q:Nat->Prop}:∀{l:List dQ} {xs:List Value},D.aO w P (l.map bY) xs->D.aO w Q (l.map bY) xs
 | [],xs,h=>by simpa only[L4,D.aO] using h
 | e::l,xs,h=>by
  rw[LI] at h ⊢;obtain⟨x,y,rfl,hx,bb⟩:=dG.1 h;exact dG.2 ⟨x,y,rfl,iH.2 (iH.1 hx),um bb⟩
theorem kM{w:World}{A:Mk}{n:Nat}{l:List dQ}(h:Sl w (av w) A n (l.map bY)):Src w 3 A n (l.flatMap DX):=
 Src.lT (Sl.JP (f:=DX) (sz:=3) (λ_ _ _ _ h=>iH.1 h) (λ_=>rfl) h) (λ_ _=>rfl) (λx _ u hu=>by
  simp only[DX,LS,List.not_mem_nil,or_false] at hu;rcases hu with rfl|rfl|rfl<;>rfl) ad
theorem ir{w aP:World}{g B:Nat}{M:List bL}{F:List aG}{l:List dQ}{bB:Mk}{ln lc:Nat}{n:Int}{st:Nat}{code:List ay}{sites:List Int}{S:Mk}{br:Nat}{bE:Mk}{bw:Nat}(h:cN w g B M F l bB ln lc n st code sites S br bE bw){d:D}{cs:List Value}(hd:d.rep aP (fresh w aP) cs):
  d.rep aP (KD B g (.slice S code.length br) (.slice bE sites.length bw) aP) cs:=by
 have ap:=h.lt;have u:=h.base;refine D.aK (λb O=>⟨by have:=O.1;omega,O.2,λhm=>?_⟩) _ _ hd;have ac:=O.1;rcases hm with hm|hm|hm
 .omega
 .have:=(h.rows.one.lt hm).2;omega
 .have:=(h.rows.two.lt hm).2;omega
theorem lj{w:World}{g:Bool}{e:VE}{eo en:Int}{es:ByteArray}{EA:Mk}{em ec:Nat}(h:(bk e).rep w P [.int .i64 eo,.int .i64 en,.string es,.slice EA em ec]):
  (ep ⟨op,t,g,some e,ko,[],[]⟩).rep w P [.int .i64 op,.int .i64 t,.bool g,.int .i64 eo,.int .i64 en,.string es,.slice EA em ec,.bool false,.int .i64 0,.slice none 0 0,.slice none 0 0,.slice none 0 0]:=by
 unfold ep;rw[bJ];exact bf.2 ⟨_,rfl,bf.2 ⟨_,rfl,fB.2 ⟨_,rfl,dG.2 ⟨[_,_,_,_],_,rfl,h,oI (aL.2 ⟨none,0,0,_,rfl,Lz _,Sl.bT _,aL.2 ⟨none,0,0,[],rfl,Lz _,Sl.bT _,aQ.2 rfl⟩⟩)⟩⟩⟩⟩
theorem wu{w:World}{g:Bool}{p:bP}{pb:Bool}{pi:Int}{PA:Mk}{pm pc:Nat}(h:(ds p).rep w P [.bool pb,.int .i64 pi,.slice PA pm pc]):
  (ep ⟨op,t,g,none,p,[],[]⟩).rep w P [.int .i64 op,.int .i64 t,.bool g,.int .i64 0,.int .i64 0,.string ⟨#[]⟩,.slice none 0 0,.bool pb,.int .i64 pi,.slice PA pm pc,.slice none 0 0,.slice none 0 0]:=by
 unfold ep;rw[bJ];exact bf.2 ⟨_,rfl,bf.2 ⟨_,rfl,fB.2 ⟨_,rfl,qR (dG.2 ⟨[_,_,_],_,rfl,h,aL.2 ⟨none,0,0,_,rfl,Lz _,Sl.bT _,aL.2 ⟨none,0,0,[],rfl,Lz _,Sl.bT _,aQ.2 rfl⟩⟩⟩)⟩⟩⟩
def lY(U:hW)(nk:Int)(F:List aG)(b:al):Prop:=
 ∀(G:Env) (d:Nat) (l:List dQ) (V T:Ml) (n:Int) (st:Nat) (code:List ay) (sites:List Int) (g B:Nat) (bB:Mk) (ln lc:Nat) (S:Mk) (br:Nat) (bE:Mk) (bw:Nat) (A:Mk) (m c:Nat) (w:World),
  fk G d V T b->Sc U G l V T n nk->vC F G l->(∀f∈F,f.params.length<=1000)->cN w g B U.af F l bB ln lc n st code sites S br bE bw->Sl w (off (Ms g (.slice S code.length br) (.slice bE sites.length bw)) w) A m (c7 b)->
  code.length+2*b.num<=100000->sites.length=code.length->n+b.num<=100000->st+b.num<=100000->l.length+b.num<=100000->
  Calls prog 111 #[.pointer (some ⟨g,0,none⟩),.slice A m c] w λe ab=>e=.returned (.tuple #[])/\∃Y ag an a1 y,y.length=(dL b l n code).1.length/\
   cN ab g B U.af F l bB ln lc (dL b l n code).2 (st+b.num) (dL b l n code).1 y Y ag an a1/\
   Mv g (.slice S code.length br) (.slice bE sites.length bw) w (.slice Y (dL b l n code).1.length ag) (.slice an y.length a1) ab
theorem gU:∀b:al,b.list.length<=b.num
 | .nil=>by simp[al.list]
 | .set _ _ _ rest=>by simp[al.list,al.num,gU rest]
 | .call _ _ _ rest=>by simp[al.list,al.num,gU rest]
 | .lock _ _ rest=>by simp[al.list,al.num,gU rest]
 | .ite _ th el rest=>by simp[al.list,al.num];have:=gU rest;omega
 | .gG _ th rest=>by simp[al.list,al.num];have:=gU rest;omega
 | .ret rest=>by simp[al.list,al.num,gU rest]
def gd:Code->Option Code
 | .loop c=>some c
 | .seq a b=>match gd a with
  | some c=>some c
  | none=>gd b
 | .block _ c=>gd c
 | .scope c=>gd c
 | .cond _ a b=>match gd a with
  | some c=>some c
  | none=>gd b
 | _=>none
noncomputable def sU:Code:=((Tryz.f111.body.bind gd).getD .skip)
def oO(U:hW)(nk:Int)(F:List aG)(b:al)(G:Env)(d:Nat)(l:List dQ)(n:Int)(st:Nat)(code:List ay)(sites:List Int)(g B:Nat)(bB:Mk)(ln lc:Nat)(S:Mk)(br:Nat)(bE:Mk)(bw:Nat)(A:Mk)(m c:Nat)(w:World)(L:Value)(wr:World):Prop:=∃(k:Nat) (rest:al) (aM:List dQ) (aY a7:Ml) (aQ:Int) (ab:Nat) (u:List ay) (y:List Int) (ba:Mk) (aF b8:Nat) (Y:Mk) (ag:Nat) (an:Mk) (a1:Nat),L=.int .i64 k/\k<=m/\b.list.drop k=rest.list/\dL rest aM aQ u=dL b l n code/\ab+rest.num=st+b.num/\
   fk G d aY a7 rest/\Sc U G aM aY a7 aQ nk/\vC F G aM/\u.length+2*rest.num<=100000/\y.length=u.length/\aQ+rest.num<=100000/\aM.length+rest.num<=100000/\cN wr g B U.af F aM ba aF b8 aQ ab u y Y ag an a1/\
   Mv g (.slice S code.length br) (.slice bE sites.length bw) w (.slice Y u.length ag) (.slice an y.length a1) wr
def ja(U:hW)(nk:Int)(F:List aG)(b:al)(G:Env)(d:Nat)(l:List dQ)(n:Int)(st:Nat)(code:List ay)(sites:List Int)(g B:Nat)(bB:Mk)(ln lc:Nat)(S:Mk)(br:Nat)(bE:Mk)(bw:Nat)(A:Mk)(m c:Nat)(w:World)(a:Act)(wr:World):Prop:=∃gO gU o u8 gQ eX gw gx cc bW eY eZ e3 e4 e5 e6 e7 e8 e9 fa fb fd fe u32 ff fi fj fl fo fp fq fr fs ft fu fv fw fx fy fz fA fB fC fE fF fG fH fI fJ fK fL fM fN fP fQ u64 fR fS fT fU fV fW fX fY fZ f3 f4 f5 f6 f7 f8 f9 ga gb gd ge gf gg gh gi gj gk gl gm go gp gq gs gt gu gv H I am aJ aK aL aO aZ a8 bb bd bf bo bs bz bC bK bZ b2 b6 b9 cd cg ch cl cm cn co cA cB cE cF cG cH cK cL cP cQ cR cS cT cU cV cW cY cZ c4 c5 c6 c7 c8 c9 da db dc de df dg dh di dj dk dl dm dn dp dq dr ds dt du dv dw dy dz dA dB dC dD dE dF dG dH dI dJ dK dM dN dO dR dS dV dW dX dY dZ d0 d1 d2 d3 d4 d5 d6 d7 d8 d9 ea eb ec ed ee eg eh ei ej ek el em en eo ep eq er es et ev ew ex ey ez eA eB eC eD eE eF eG eH eI eJ eL eN eO eP eQ eR eS eT eU:Value,oO U nk F b G d l n st code sites g B bB ln lc S br bE bw A m c w gO wr/\a=⟨#[.pointer (some ⟨g,0,none⟩),.slice A m c,undef,undef,.slice bB ln lc,gO,gU,o,u8,gQ,eX,gw,gx,cc,bW,.pointer (some ⟨g,0,none⟩),.pointer (some ⟨g,0,none⟩),.pointer (some ⟨g,3,none⟩),.slice bB ln lc,eY,eZ,e3,e4,e5,e6,e7,e8,e9,fa,fb,fd,fe,u32,ff,fi,fj,fl,fo,fp,fq,fr,fs,ft,fu,fv,fw,fx,fy,fz,fA,fB,fC,fE,fF,fG,fH,fI,fJ,fK,fL,fM,fN,fP,fQ,u64,fR,fS,fT,fU,fV,fW,fX,fY,fZ,f3,f4,f5,f6,f7,f8,f9,ga,gb,gd,ge,gf,gg,gh,gi,gj,gk,gl,gm,go,gp,gq,gs,gt,gu,gv,H,I,am,aJ,aK,aL,aO,aZ,a8,bb,bd,bf,bo,bs,bz,bC,bK,bZ,b2,b6,b9,cd,cg,ch,cl,cm,cn,co,cA,cB,cE,cF,cG,cH,cK,cL,cP,cQ,cR,cS,cT,cU,cV,cW,cY,cZ,c4,c5,c6,c7,c8,c9,da,db,dc,de,df,dg,dh,di,dj,dk,dl,dm,dn,dp,dq,dr,ds,dt,du,dv,dw,dy,dz,dA,dB,dC,dD,dE,dF,dG,dH,dI,dJ,dK,dM,dN,dO,dR,dS,dV,dW,dX,dY,dZ,d0,d1,d2,d3,d4,d5,d6,d7,d8,d9,ea,eb,ec,ed,ee,eg,eh,ei,ej,ek,el,em,en,eo,ep,eq,er,es,et,ev,ew,ex,ey,ez,eA,eB,eC,eD,eE,eF,eG,eH,eI,eJ,eL,eN,eO,eP,eQ,eR,eS,eT,eU,undef,undef,undef,undef],[]⟩
def jA(m:Nat)(a:Act)(_:World):Nat:=m - (intOf (a.tmps.getD 5 undef)).toNat
def Fq(U:hW)(nk:Int)(F:List aG)(b:al)(G:Env)(d:Nat)(l:List dQ)(n:Int)(st:Nat)(code:List ay)(sites:List Int)(g B:Nat)(bB:Mk)(ln lc:Nat)(S:Mk)(br:Nat)(bE:Mk)(bw:Nat)(A:Mk)(m c:Nat)(w:World)(a:Act)(wr:World):Prop:=∃gO gU o u8 gQ eX gw gx cc bW eY eZ e3 e4 e5 e6 e7 e8 e9 fa fb fd fe u32 ff fi fj fl fo fp fq fr fs ft fu fv fw fx fy fz fA fB fC fE fF fG fH fI fJ fK fL fM fN fP fQ u64 fR fS fT fU fV fW fX fY fZ f3 f4 f5 f6 f7 f8 f9 ga gb gd ge gf gg gh gi gj gk gl gm go gp gq gs gt gu gv H I am aJ aK aL aO aZ a8 bb bd bf bo bs bz bC bK bZ b2 b6 b9 cd cg ch cl cm cn co cA cB cE cF cG cH cK cL cP cQ cR cS cT cU cV cW cY cZ c4 c5 c6 c7 c8 c9 da db dc de df dg dh di dj dk dl dm dn dp dq dr ds dt du dv dw dy dz dA dB dC dD dE dF dG dH dI dJ dK dM dN dO dR dS dV dW dX dY dZ d0 d1 d2 d3 d4 d5 d6 d7 d8 d9 ea eb ec ed ee eg eh ei ej ek el em en eo ep eq er es et ev ew ex ey ez eA eB eC eD eE eF eG eH eI eJ eL eN eO eP eQ eR eS eT eU:Value,oO U nk F b G d l n st code sites g B bB ln lc S br bE bw A m c w gO wr/\gO=.int .i64 m/\a=⟨#[.pointer (some ⟨g,0,none⟩),.slice A m c,undef,undef,.slice bB ln lc,gO,gU,o,u8,gQ,eX,gw,gx,cc,bW,.pointer (some ⟨g,0,none⟩),.pointer (some ⟨g,0,none⟩),.pointer (some ⟨g,3,none⟩),.slice bB ln lc,eY,eZ,e3,e4,e5,e6,e7,e8,e9,fa,fb,fd,fe,u32,ff,fi,fj,fl,fo,fp,fq,fr,fs,ft,fu,fv,fw,fx,fy,fz,fA,fB,fC,fE,fF,fG,fH,fI,fJ,fK,fL,fM,fN,fP,fQ,u64,fR,fS,fT,fU,fV,fW,fX,fY,fZ,f3,f4,f5,f6,f7,f8,f9,ga,gb,gd,ge,gf,gg,gh,gi,gj,gk,gl,gm,go,gp,gq,gs,gt,gu,gv,H,I,am,aJ,aK,aL,aO,aZ,a8,bb,bd,bf,bo,bs,bz,bC,bK,bZ,b2,b6,b9,cd,cg,ch,cl,cm,cn,co,cA,cB,cE,cF,cG,cH,cK,cL,cP,cQ,cR,cS,cT,cU,cV,cW,cY,cZ,c4,c5,c6,c7,c8,c9,da,db,dc,de,df,dg,dh,di,dj,dk,dl,dm,dn,dp,dq,dr,ds,dt,du,dv,dw,dy,dz,dA,dB,dC,dD,dE,dF,dG,dH,dI,dJ,dK,dM,dN,dO,dR,dS,dV,dW,dX,dY,dZ,d0,d1,d2,d3,d4,d5,d6,d7,d8,d9,ea,eb,ec,ed,ee,eg,eh,ei,ej,ek,el,em,en,eo,ep,eq,er,es,et,ev,ew,ex,ey,ez,eA,eB,eC,eD,eE,eF,eG,eH,eI,eJ,eL,eN,eO,eP,eQ,eR,eS,eT,eU,undef,undef,undef,undef],[]⟩
def BK(X:al):Prop:=∀(ef:vE) (U:hW) (nk:Int) (F:List aG) (b:al) (G:Env) (d:Nat) (l:List dQ) (n:Int) (st:Nat) (code:List ay) (sites:List Int) (g B:Nat) (bB:Mk) (ln lc:Nat) (S:Mk) (br:Nat) (bE:Mk) (bw:Nat) (A:Mk) (m c:Nat) (w:World) (bM:Mm (Sl w (off (Ms g (.slice S code.length br) (.slice bE sites.length bw)) w) A m (b.list.map bg))) (cM:Mm (∀s∈b.list,lY U nk F s.th/\lY U nk F s.el)) (dT:Mm (∀f∈F,f.params.length<=1000)) (bA:Mm (b.list.length=m)) (fg:m<=100000) (e0:st+b.num<=100000) (k:Nat) (aM:List dQ) (aY a7:Ml) (aQ:Int) (ab:Nat) (u:List ay) (y:List Int) (ba:Mk) (aF b8:Nat) (Y:Mk) (ag:Nat) (an:Mk) (a1:Nat) (wr:World) (ap:k<m) (be:b.list.drop k=X.list) (a4:dL X aM aQ u=dL b l n code) (aE:ab+X.num=st+b.num) (aU:fk G d aY a7 X) (hS:Sc U G aM aY a7 aQ nk) (bj:vC F G aM) (bq:u.length+2*X.num<=100000) (b0:y.length=u.length) (cu:aQ+X.num<=100000) (bG:aM.length+X.num<=100000) (bO:cN wr g B U.af F aM ba aF b8 aQ ab u y Y ag an a1) (hM:Mv g (.slice S code.length br) (.slice bE sites.length bw) w (.slice Y u.length ag) (.slice an y.length a1) wr)
  (dx:Exit->Act->World->Prop) (hQ0:∀c a d v w,dx (.panic c) (a.put d v) w->dx (.panic c) a w)
  {gU o u8 gQ eX gw gx cc bW eY eZ e3 e4 e5 e6 e7 e8 e9 fa fb fd fe u32 ff fi fj fl fo fp fq fr fs ft fu fv fw fx fy fz fA fB fC fE fF fG fH fI fJ fK fL fM fN fP fQ u64 fR fS fT fU fV fW fX fY fZ f3 f4 f5 f6 f7 f8 f9 ga gb gd ge gf gg gh gi gj gk gl gm go gp gq gs gt gu gv H I am aJ aK aL aO aZ a8 bb bd bf bo bs bz bC bK bZ b2 b6 b9 cd cg ch cl cm cn co cA cB cE cF cG cH cK cL cP cQ cR cS cT cU cV cW cY cZ c4 c5 c6 c7 c8 c9 da db dc de df dg dh di dj dk dl dm dn dp dq dr ds dt du dv dw dy dz dA dB dC dD dE dF dG dH dI dJ dK dM dN dO dR dS dV dW dX dY dZ d0 d1 d2 d3 d4 d5 d6 d7 d8 d9 ea eb ec ed ee eg eh ei ej ek el em en eo ep eq er es et ev ew ex ey ez eA eB eC eD eE eF eG eH eI eJ eL eN eO eP eQ eR eS eT eU:Value},
  Code.wp prog sU (Exit.then (λr j=>ja U nk F b G d l n st code sites g B bB ln lc S br bE bw A m c w r j/\jA m r j<jA m ⟨#[.pointer (some ⟨g,0,none⟩),.slice A m c,undef,undef,.slice bB ln lc,(.int .i64 k),gU,o,u8,gQ,eX,gw,gx,cc,bW,.pointer (some ⟨g,0,none⟩),.pointer (some ⟨g,0,none⟩),.pointer (some ⟨g,3,none⟩),.slice bB ln lc,eY,eZ,e3,e4,e5,e6,e7,e8,e9,fa,fb,fd,fe,u32,ff,fi,fj,fl,fo,fp,fq,fr,fs,ft,fu,fv,fw,fx,fy,fz,fA,fB,fC,fE,fF,fG,fH,fI,fJ,fK,fL,fM,fN,fP,fQ,u64,fR,fS,fT,fU,fV,fW,fX,fY,fZ,f3,f4,f5,f6,f7,f8,f9,ga,gb,gd,ge,gf,gg,gh,gi,gj,gk,gl,gm,go,gp,gq,gs,gt,gu,gv,H,I,am,aJ,aK,aL,aO,aZ,a8,bb,bd,bf,bo,bs,bz,bC,bK,bZ,b2,b6,b9,cd,cg,ch,cl,cm,cn,co,cA,cB,cE,cF,cG,cH,cK,cL,cP,cQ,cR,cS,cT,cU,cV,cW,cY,cZ,c4,c5,c6,c7,c8,c9,da,db,dc,de,df,dg,dh,di,dj,dk,dl,dm,dn,dp,dq,dr,ds,dt,du,dv,dw,dy,dz,dA,dB,dC,dD,dE,dF,dG,dH,dI,dJ,dK,dM,dN,dO,dR,dS,dV,dW,dX,dY,dZ,d0,d1,d2,d3,d4,d5,d6,d7,d8,d9,ea,eb,ec,ed,ee,eg,eh,ei,ej,ek,el,em,en,eo,ep,eq,er,es,et,ev,ew,ex,ey,ez,eA,eB,eC,eD,eE,eF,eG,eH,eI,eJ,eL,eN,eO,eP,eQ,eR,eS,eT,eU,undef,undef,undef,undef],[]⟩ wr) dx) ⟨#[.pointer (some ⟨g,0,none⟩),.slice A m c,undef,undef,.slice bB ln lc,(.int .i64 k),gU,o,u8,gQ,eX,gw,gx,cc,bW,.pointer (some ⟨g,0,none⟩),.pointer (some ⟨g,0,none⟩),.pointer (some ⟨g,3,none⟩),.slice bB ln lc,eY,eZ,e3,e4,e5,e6,e7,e8,e9,fa,fb,fd,fe,u32,ff,fi,fj,fl,fo,fp,fq,fr,fs,ft,fu,fv,fw,fx,fy,fz,fA,fB,fC,fE,fF,fG,fH,fI,fJ,fK,fL,fM,fN,fP,fQ,u64,fR,fS,fT,fU,fV,fW,fX,fY,fZ,f3,f4,f5,f6,f7,f8,f9,ga,gb,gd,ge,gf,gg,gh,gi,gj,gk,gl,gm,go,gp,gq,gs,gt,gu,gv,H,I,am,aJ,aK,aL,aO,aZ,a8,bb,bd,bf,bo,bs,bz,bC,bK,bZ,b2,b6,b9,cd,cg,ch,cl,cm,cn,co,cA,cB,cE,cF,cG,cH,cK,cL,cP,cQ,cR,cS,cT,cU,cV,cW,cY,cZ,c4,c5,c6,c7,c8,c9,da,db,dc,de,df,dg,dh,di,dj,dk,dl,dm,dn,dp,dq,dr,ds,dt,du,dv,dw,dy,dz,dA,dB,dC,dD,dE,dF,dG,dH,dI,dJ,dK,dM,dN,dO,dR,dS,dV,dW,dX,dY,dZ,d0,d1,d2,d3,d4,d5,d6,d7,d8,d9,ea,eb,ec,ed,ee,eg,eh,ei,ej,ek,el,em,en,eo,ep,eq,er,es,et,ev,ew,ex,ey,ez,eA,eB,eC,eD,eE,eF,eG,eH,eI,eJ,eL,eN,eO,eP,eQ,eR,eS,eT,eU,undef,undef,undef,undef],[]⟩ wr
end Go.Proofs.YtflecliffjbleaaGreat

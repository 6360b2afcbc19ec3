/- Part 24 of the proof. No condition of its own. -/
import Derived.Test.YtbkhhfajcgkpgaaGreatQ13
import Derived.Test.YtbkhhfajcgkpgaaGreatQ23
namespace Go.Proofs.YtbkhhfajcgkpgaaGreat
open Go.RowKit Go.Proofs.Tryz
set_option maxRecDepth 1000000
set_option maxHeartbeats 25600000
set_option linter.unusedVariables false
variable{op t:Int}{b:Nat}{P:Nat→Prop}{p:Prop}
section
variable {w ac aN aO bU ci X:World} {g B:Nat} {M:List bA} {F:List az} {l:List dz} {bj:Kr} {ln lc:Nat} {n:Int} {st:Nat} {code:List ay} {sites:List Int} {bI:Kr} {bO:Nat} {bp:Kr} {a7:Nat}
theorem cB.own(h:cB w g B M F l bj ln lc n st code sites bI bO bp a7){j:Nat}{v:Value}(hX:w.setCell ⟨g,j,none⟩ v=X):
  Mv g (.slice bI code.length bO) (.slice bp sites.length a7) w (.slice bI code.length bO) (.slice bp sites.length a7) X∧Fr (fun b=>b=g) w X∧k4 B 62 12 3 1 X bI code.length bO (code.map dP) bp sites.length a7 (sites.map D.i):=by
 have aD:Fr (fun b=>b=g) w X:=hX▸(Fr.refl (fun b=>b=g) w).setCell (.inl rfl) _;exact⟨Mv.HK (aD.mono fun b O=>.inl O),aD,h.rows.cO aD fun b O _=>by have:=h.base.1;omega⟩
namespace Bj
theorem zZ(h:p:=by
 rw[←hX];exact aL.aC 5 _
 ):p:=h
end Bj
open Bj in
theorem cB.stmt(h:cB w g B M F l bj ln lc n st code sites bI bO bp a7)(hX:w.setCell ⟨g,5,none⟩ (.int .i64 ((st+1:Nat):Int))=X) :
  cB X g B M F l bj ln lc n (st+1) code sites bI bO bp a7∧Mv g (.slice bI code.length bO) (.slice bp sites.length a7) w (.slice bI code.length bO) (.slice bp sites.length a7) X:=by
 exact zY
namespace Bk
theorem zZ(h:p:=by
 rw[←hX];exact aL.aC 4 _
 ):p:=h
end Bk
open Bk in
theorem cB.locals(h:cB w g B M F l bj ln lc n st code sites bI bO bp a7){aZ:Int}(hX:w.setCell ⟨g,4,none⟩ (.int .i64 aZ)=X):
  cB X g B M F l bj ln lc aZ st code sites bI bO bp a7∧Mv g (.slice bI code.length bO) (.slice bp sites.length a7) w (.slice bI code.length bO) (.slice bp sites.length a7) X:=by
 exact zY
theorem cB.C1(h:cB w g B M F l bj ln lc n st code sites bI bO bp a7){aV:List dz}{aY:Kr}{aF bg:Nat}(hn:aF≤1000000)(hl:Sl w (off (Ms g (.slice bI code.length bO) (.slice bp sites.length a7)) w) aY aF (aV.map bN))(hX:w.setCell ⟨g,3,none⟩ (.slice aY aF bg)=X):
  cB X g B M F aV aY aF bg n st code sites bI bO bp a7∧Mv g (.slice bI code.length bO) (.slice bp sites.length a7) w (.slice bI code.length bO) (.slice bp sites.length a7) X:=by
 obtain⟨hM,aD,hG⟩:=h.own hX;obtain⟨GA,gn,gc,MA,mn,mc,FA,fn,fc,aL,b5,bE,cx,H⟩:=h.blk;refine⟨⟨⟨GA,gn,gc,MA,mn,mc,FA,fn,fc,?_,b5,bE,cx.cG hM,H.cG hM⟩,⟨h.base.1,J7 h.base.2 hM.fr.size⟩,⟨hn,hl.cG hM⟩,hG⟩,hM⟩;rw[←hX];exact aL.aC 3 _
theorem cB.target(h:cB w g B M F l bj ln lc n st code sites bI bO bp a7)(O:b<code.length)(t:Int):∃R,bI=some ⟨R,0,none⟩∧R<w.heap.size∧w.frozen? ⟨R,b*12+1,none⟩=false∧(∃u,w.cell? ⟨R,b*12+1,none⟩=some (.int .i64 u))∧
  ∀X,w.setCell ⟨R,b*12+1,none⟩ (.int .i64 t)=X→cB X g B M F l bj ln lc n st (fG code b t) sites bI bO bp a7∧Mv g (.slice bI code.length bO) (.slice bp sites.length a7) w (.slice bI code.length bO) (.slice bp sites.length a7) X:=by
 obtain⟨hl,xs,ae,aC⟩:=h.rows.one;obtain⟨R,bk,r,bS,aV,e,aq⟩:=hR ae ab;have U:xs.length=code.length*12:=by rw[D.gU _ _ aC,D.gG (z:=12) (fun d hd=>by obtain⟨x,_,rfl⟩:=Ke.1 hd;exact mf x),JU]
 have aw:b*12+1<xs.length:=by rw[U];omega
 have bg:xs[b*12+1]?=some (xs[b*12+1]'aw):=List.getElem?_eq_getElem _;have hint:∃u,xs[b*12+1]?=some (.int .i64 u):=by
  have hm:(code.map dP)[b]?=some (dP (code[b]'O)):=by rw[List.getElem?_map,List.getElem?_eq_getElem O];rfl
  obtain⟨cs,aU,a3,bc⟩:=D.oA aC (z:=12) (fun d hd=>by obtain⟨x,_,rfl⟩:=Ke.1 hd;exact mf x) hm;unfold dP at aU;rw[bu,aZ] at aU;obtain⟨y,rfl,aU⟩:=aU;rw[aZ] at aU;obtain⟨bm,rfl,aU⟩:=aU;exact⟨_,bc 1 _ rfl⟩
 refine⟨R,bk,bS,e _,?_,fun X hX=>?_⟩
 ·obtain⟨u,hu⟩:=hint;exact⟨u,aV _ _ hu⟩
 have S:(Value.slice bI code.length bO).ownBlock=some R:=by rw[bk];rfl
 have aD:Fr (fun b=>b=R) w X:=hX▸(Fr.refl (fun b=>b=R) w).setCell (.inl rfl) _;have hM:Mv g (.slice bI code.length bO) (.slice bp sites.length a7) w (.slice bI code.length bO) (.slice bp sites.length a7) X:=Mv.HK (aD.mono fun b O=>by subst O;exact .inr (.inl S));have a:¬(Value.slice bp sites.length a7).ownBlock=some R:=h.rows.ne R S;obtain⟨GA,gn,gc,MA,mn,mc,FA,fn,fc,aL,b5,bE,cx,H⟩:=h.blk;refine⟨⟨⟨GA,gn,gc,MA,mn,mc,FA,fn,fc,?_,b5,bE,?_,?_⟩,⟨h.base.1,J7 h.base.2 hM.fr.size⟩,⟨h.names.1,?_⟩,?_⟩,hM⟩
 ·rw[cc];exact aL.on aD (aH h.base.1)
 ·rw[cc];exact cx.cG hM
 ·rw[cc];exact H.cG hM
 ·rw[cc];exact h.names.2.cG hM
 ·have bz:=aq (b*12+1) (.int .i64 t) ab;rw[hX] at bz;rw[cc];refine⟨⟨by rw[JU,cc],_,bz,?_⟩,?_,h.rows.ne⟩
  ·refine rA t code xs b ?_ O;exact D.bK (fun b O=>⟨O.1,by have:=aD.size;have:=O.2.1;omega,O.2.2⟩) _ _ (D.bJ (fun b aW=>aD.block b aW.2.1 fun he=>aW.2.2 (by rw[S,he])) _ _ aC)
  ·exact h.rows.two.c7 aD.size fun b aw hp=>aD.block b aw fun he=>by
    subst he;rcases hp with hp|hp
    ·exact hp.2 S
    ·exact a hp
end
theorem af.cG{w ac:World}{g:Nat}{t:TypeId}{cs:Array Value}{cv sv a f:Value}(h:af w b t cs)(hn:¬Ms g cv sv b)(hM:Mv g cv sv w a f ac):af ac b t cs∧¬Ms g a f b:=
 ⟨h.on hM.fr hn,fun hm=>hn (hM.own b h.lt hm)⟩
theorem pB(b:al):b.isNil=decide (b.list.length=0):=by cases b<;>simp[al.isNil,al.list]
theorem tm(b:al):(cP b).length=b.list.length:=by rw[cx,JU]
def Cp(e:dz):List Value:=[.string e.name,.int .i64 e.kind,.int .i64 e.n]
theorem iV:bX prog 149 153 (.agg #[.string ⟨#[]⟩,.int .i64 0,.int .i64 0]) 3 32:=bX.mk' Tryz.underlying149 (by kernel_rfl) rfl ab
theorem jH{w:World}(e:dz):(bN e).rep w P (Cp e):=h7.2 rfl
theorem kN{w:World}(l:List dz):D.aI w P (l.map bN) (l.flatMap Cp):=mC jH l
theorem tu{w:World}{P Q:Nat→Prop}:∀{l:List dz} {xs:List Value},D.aI w P (l.map bN) xs→D.aI w Q (l.map bN) xs
 | [],xs,h=>by simpa only[Kd,D.aI] using h
 | e::l,xs,h=>by
  rw[JW] at h ⊢;obtain⟨x,y,rfl,hx,a4⟩:=dq.1 h;exact dq.2 ⟨x,y,rfl,h7.2 (h7.1 hx),tu a4⟩
theorem kn{w:World}{A:Kr}{n:Nat}{l:List dz}(h:Sl w (au w) A n (l.map bN)):Src w 3 A n (l.flatMap Cp):=
 Src.nP (Sl.HY (f:=Cp) (sz:=3) (fun _ _ _ _ h=>h7.1 h) (fun _=>rfl) h) (fun _ _=>rfl) (fun x _ u hu=>by
  simp only[Cp,J6,List.not_mem_nil,or_false] at hu;rcases hu with rfl|rfl|rfl<;>rfl) ab
theorem hO{w aN:World}{g B:Nat}{M:List bA}{F:List az}{l:List dz}{bj:Kr}{ln lc:Nat}{n:Int}{st:Nat}{code:List ay}{sites:List Int}{bI:Kr}{bO:Nat}{bp:Kr}{a7:Nat}(h:cB w g B M F l bj ln lc n st code sites bI bO bp a7){d:D}{cs:List Value}(hd:d.rep aN (fresh w aN) cs):
  d.rep aN (IQ B g (.slice bI code.length bO) (.slice bp sites.length a7) aN) cs:=by
 have aw:=h.lt;have u:=h.base;refine D.aF (fun b O=>⟨by have:=O.1;omega,O.2,fun hm=>?_⟩) _ _ hd;have ae:=O.1;rcases hm with hm|hm|hm
 ·omega
 ·have:=(h.rows.one.lt hm).2;omega
 ·have:=(h.rows.two.lt hm).2;omega
theorem kM{w:World}{g:Bool}{e:VE}{eo en:Int}{es:ByteArray}{EA:Kr}{em ec:Nat}(h:(bb e).rep w P [.int .i64 eo,.int .i64 en,.string es,.slice EA em ec]):
  (dP ⟨op,t,g,some e,j0,[],[]⟩).rep w P [.int .i64 op,.int .i64 t,.bool g,.int .i64 eo,.int .i64 en,.string es,.slice EA em ec,.bool false,.int .i64 0,.slice none 0 0,.slice none 0 0,.slice none 0 0]:=by
 unfold dP;rw[bu];exact aZ.2 ⟨_,rfl,aZ.2 ⟨_,rfl,eX.2 ⟨_,rfl,dq.2 ⟨[_,_,_,_],_,rfl,h,nR (aD.2 ⟨none,0,0,_,rfl,JQ _,Sl.bG _,aD.2 ⟨none,0,0,[],rfl,JQ _,Sl.bG _,aJ.2 rfl⟩⟩)⟩⟩⟩⟩
theorem vk{w:World}{g:Bool}{p:bC}{pb:Bool}{pi:Int}{PA:Kr}{pm pc:Nat}(h:(de p).rep w P [.bool pb,.int .i64 pi,.slice PA pm pc]):
  (dP ⟨op,t,g,none,p,[],[]⟩).rep w P [.int .i64 op,.int .i64 t,.bool g,.int .i64 0,.int .i64 0,.string ⟨#[]⟩,.slice none 0 0,.bool pb,.int .i64 pi,.slice PA pm pc,.slice none 0 0,.slice none 0 0]:=by
 unfold dP;rw[bu];exact aZ.2 ⟨_,rfl,aZ.2 ⟨_,rfl,eX.2 ⟨_,rfl,p9 (dq.2 ⟨[_,_,_],_,rfl,h,aD.2 ⟨none,0,0,_,rfl,JQ _,Sl.bG _,aD.2 ⟨none,0,0,[],rfl,JQ _,Sl.bG _,aJ.2 rfl⟩⟩⟩)⟩⟩⟩
def lq(U:g4)(nk:Int)(F:List az)(b:al):Prop:=
 ∀(G:Env) (d:Nat) (l:List dz) (V T:Ks) (n:Int) (st:Nat) (code:List ay) (sites:List Int) (g B:Nat) (bj:Kr) (ln lc:Nat) (bI:Kr) (bO:Nat) (bp:Kr) (a7:Nat) (A:Kr) (m c:Nat) (w:World),
  eN G d V T b→Sc U G l V T n nk→uE F G l→(∀f∈F,f.params.length≤1000)→cB w g B U.ae F l bj ln lc n st code sites bI bO bp a7→Sl w (off (Ms g (.slice bI code.length bO) (.slice bp sites.length a7)) w) A m (cP b)→
  code.length+2*b.num≤100000→sites.length=code.length→n+b.num≤100000→st+b.num≤100000→l.length+b.num≤100000→
  Calls prog 115 #[.pointer (some ⟨g,0,none⟩),.slice A m c] w fun e ac=>e=.returned (.tuple #[])∧∃J Y an aB u,u.length=(dw b l n code).1.length∧
   cB ac g B U.ae F l bj ln lc (dw b l n code).2 (st+b.num) (dw b l n code).1 u J Y an aB∧
   Mv g (.slice bI code.length bO) (.slice bp sites.length a7) w (.slice J (dw b l n code).1.length Y) (.slice an u.length aB) ac
theorem gw:∀b:al,b.list.length≤b.num
 | .nil=>by simp[al.list]
 | .set _ _ _ rest=>by simp[al.list,al.num,gw rest]
 | .call _ _ _ rest=>by simp[al.list,al.num,gw rest]
 | .lock _ _ rest=>by simp[al.list,al.num,gw rest]
 | .ite _ th el rest=>by simp[al.list,al.num];have:=gw rest;omega
 | .gb _ th rest=>by simp[al.list,al.num];have:=gw rest;omega
 | .ret rest=>by simp[al.list,al.num,gw rest]
def fB:Code→Option Code
 | .loop c=>some c
 | .seq a b=>match fB a with
  | some c=>some c
  | none=>fB b
 | .block _ c=>fB c
 | .scope c=>fB c
 | .cond _ a b=>match fB a with
  | some c=>some c
  | none=>fB b
 | _=>none
noncomputable def r5:Code:=((Tryz.f115.body.bind fB).getD .skip)
def nV(U:g4)(nk:Int)(F:List az)(b:al)(G:Env)(d:Nat)(l:List dz)(n:Int)(st:Nat)(code:List ay)(sites:List Int)(g B:Nat)(bj:Kr)(ln lc:Nat)(bI:Kr)(bO:Nat)(bp:Kr)(a7:Nat)(A:Kr)(m c:Nat)(w:World)(ba:Value)(wr:World):Prop:=∃(k:Nat) (rest:al) (aV:List dz) (ac aJ:Ks) (aZ:Int) (z:Nat) (o:List ay) (u:List Int) (aY:Kr) (aF bg:Nat) (J:Kr) (Y:Nat) (an:Kr) (aB:Nat),ba=.int .i64 k∧k≤m∧b.list.drop k=rest.list∧dw rest aV aZ o=dw b l n code∧z+rest.num=st+b.num∧
   eN G d ac aJ rest∧Sc U G aV ac aJ aZ nk∧uE F G aV∧o.length+2*rest.num≤100000∧u.length=o.length∧aZ+rest.num≤100000∧aV.length+rest.num≤100000∧cB wr g B U.ae F aV aY aF bg aZ z o u J Y an aB∧
   Mv g (.slice bI code.length bO) (.slice bp sites.length a7) w (.slice J o.length Y) (.slice an u.length aB) wr
def iC(U:g4)(nk:Int)(F:List az)(b:al)(G:Env)(d:Nat)(l:List dz)(n:Int)(st:Nat)(code:List ay)(sites:List Int)(g B:Nat)(bj:Kr)(ln lc:Nat)(bI:Kr)(bO:Nat)(bp:Kr)(a7:Nat)(A:Kr)(m c:Nat)(w:World)(a:Act)(wr:World):Prop:=∃gC gJ Z u8 gF eH cc gd ax bL eJ eK eM eP eQ eR eS eT eU eV eW eX eY u32 e3 e5 e6 e7 e8 e9 fa fb fd fe ff fh fi fj fk fl fm fo fp fq fr fs ft fu fv fw fx fy fz fA fB u64 fC fD fE fF fG fH fI fL fM fN fO fP fQ fR fS fT fU fV fW fX fY fZ f3 f4 f5 f6 f7 f8 f9 ga gb ge gf gg gh H ag aI aR a6 a9 bf bh bi bo bx bK bP bQ bY bZ b1 b2 b3 cb cd cj ck cm co cp cq cr ct cu cv cx cy cz cA cC cD cE cF cG cH cI cJ cK cL cM cN cO cP cQ cR cS cT cU cV cW cX cY cZ c4 c5 c6 c7 c8 c9 da db dd de dg dh di dj dk dl dm dn dp dq dr ds dt du dx dy dB dC dD dE dF dG dH dI dJ dK dM dN dO dP dQ dR dS dT dU dV dX dY dZ d0 d1 d2 d3 d4 d5 d6 d7 d8 d9 ea eb ec ed ee ef eg eh ei ej ek el em en eo ep eq er es et eu ev ew ex ey ez eA eB eC eF eG:Value,nV U nk F b G d l n st code sites g B bj ln lc bI bO bp a7 A m c w gC wr∧a=⟨#[.pointer (some ⟨g,0,none⟩),.slice A m c,undef,undef,.slice bj ln lc,gC,gJ,Z,u8,gF,eH,cc,gd,ax,bL,.pointer (some ⟨g,0,none⟩),.pointer (some ⟨g,0,none⟩),.pointer (some ⟨g,3,none⟩),.slice bj ln lc,eJ,eK,eM,eP,eQ,eR,eS,eT,eU,eV,eW,eX,eY,u32,e3,e5,e6,e7,e8,e9,fa,fb,fd,fe,ff,fh,fi,fj,fk,fl,fm,fo,fp,fq,fr,fs,ft,fu,fv,fw,fx,fy,fz,fA,fB,u64,fC,fD,fE,fF,fG,fH,fI,fL,fM,fN,fO,fP,fQ,fR,fS,fT,fU,fV,fW,fX,fY,fZ,f3,f4,f5,f6,f7,f8,f9,ga,gb,ge,gf,gg,gh,H,ag,aI,aR,a6,a9,bf,bh,bi,bo,bx,bK,bP,bQ,bY,bZ,b1,b2,b3,cb,cd,cj,ck,cm,co,cp,cq,cr,ct,cu,cv,cx,cy,cz,cA,cC,cD,cE,cF,cG,cH,cI,cJ,cK,cL,cM,cN,cO,cP,cQ,cR,cS,cT,cU,cV,cW,cX,cY,cZ,c4,c5,c6,c7,c8,c9,da,db,dd,de,dg,dh,di,dj,dk,dl,dm,dn,dp,dq,dr,ds,dt,du,dx,dy,dB,dC,dD,dE,dF,dG,dH,dI,dJ,dK,dM,dN,dO,dP,dQ,dR,dS,dT,dU,dV,dX,dY,dZ,d0,d1,d2,d3,d4,d5,d6,d7,d8,d9,ea,eb,ec,ed,ee,ef,eg,eh,ei,ej,ek,el,em,en,eo,ep,eq,er,es,et,eu,ev,ew,ex,ey,ez,eA,eB,eC,eF,eG,undef,undef,undef,undef],[]⟩
def jd(m:Nat)(a:Act)(_:World):Nat:=m - (intOf (a.tmps.getD 5 undef)).toNat
def DO(U:g4)(nk:Int)(F:List az)(b:al)(G:Env)(d:Nat)(l:List dz)(n:Int)(st:Nat)(code:List ay)(sites:List Int)(g B:Nat)(bj:Kr)(ln lc:Nat)(bI:Kr)(bO:Nat)(bp:Kr)(a7:Nat)(A:Kr)(m c:Nat)(w:World)(a:Act)(wr:World):Prop:=∃gC gJ Z u8 gF eH cc gd ax bL eJ eK eM eP eQ eR eS eT eU eV eW eX eY u32 e3 e5 e6 e7 e8 e9 fa fb fd fe ff fh fi fj fk fl fm fo fp fq fr fs ft fu fv fw fx fy fz fA fB u64 fC fD fE fF fG fH fI fL fM fN fO fP fQ fR fS fT fU fV fW fX fY fZ f3 f4 f5 f6 f7 f8 f9 ga gb ge gf gg gh H ag aI aR a6 a9 bf bh bi bo bx bK bP bQ bY bZ b1 b2 b3 cb cd cj ck cm co cp cq cr ct cu cv cx cy cz cA cC cD cE cF cG cH cI cJ cK cL cM cN cO cP cQ cR cS cT cU cV cW cX cY cZ c4 c5 c6 c7 c8 c9 da db dd de dg dh di dj dk dl dm dn dp dq dr ds dt du dx dy dB dC dD dE dF dG dH dI dJ dK dM dN dO dP dQ dR dS dT dU dV dX dY dZ d0 d1 d2 d3 d4 d5 d6 d7 d8 d9 ea eb ec ed ee ef eg eh ei ej ek el em en eo ep eq er es et eu ev ew ex ey ez eA eB eC eF eG:Value,nV U nk F b G d l n st code sites g B bj ln lc bI bO bp a7 A m c w gC wr∧gC=.int .i64 m∧a=⟨#[.pointer (some ⟨g,0,none⟩),.slice A m c,undef,undef,.slice bj ln lc,gC,gJ,Z,u8,gF,eH,cc,gd,ax,bL,.pointer (some ⟨g,0,none⟩),.pointer (some ⟨g,0,none⟩),.pointer (some ⟨g,3,none⟩),.slice bj ln lc,eJ,eK,eM,eP,eQ,eR,eS,eT,eU,eV,eW,eX,eY,u32,e3,e5,e6,e7,e8,e9,fa,fb,fd,fe,ff,fh,fi,fj,fk,fl,fm,fo,fp,fq,fr,fs,ft,fu,fv,fw,fx,fy,fz,fA,fB,u64,fC,fD,fE,fF,fG,fH,fI,fL,fM,fN,fO,fP,fQ,fR,fS,fT,fU,fV,fW,fX,fY,fZ,f3,f4,f5,f6,f7,f8,f9,ga,gb,ge,gf,gg,gh,H,ag,aI,aR,a6,a9,bf,bh,bi,bo,bx,bK,bP,bQ,bY,bZ,b1,b2,b3,cb,cd,cj,ck,cm,co,cp,cq,cr,ct,cu,cv,cx,cy,cz,cA,cC,cD,cE,cF,cG,cH,cI,cJ,cK,cL,cM,cN,cO,cP,cQ,cR,cS,cT,cU,cV,cW,cX,cY,cZ,c4,c5,c6,c7,c8,c9,da,db,dd,de,dg,dh,di,dj,dk,dl,dm,dn,dp,dq,dr,ds,dt,du,dx,dy,dB,dC,dD,dE,dF,dG,dH,dI,dJ,dK,dM,dN,dO,dP,dQ,dR,dS,dT,dU,dV,dX,dY,dZ,d0,d1,d2,d3,d4,d5,d6,d7,d8,d9,ea,eb,ec,ed,ee,ef,eg,eh,ei,ej,ek,el,em,en,eo,ep,eq,er,es,et,eu,ev,ew,ex,ey,ez,eA,eB,eC,eF,eG,undef,undef,undef,undef],[]⟩
def BK(X:al):Prop:=∀(dA:uG) (U:g4) (nk:Int) (F:List az) (b:al) (G:Env) (d:Nat) (l:List dz) (n:Int) (st:Nat) (code:List ay) (sites:List Int) (g B:Nat) (bj:Kr) (ln lc:Nat) (bI:Kr) (bO:Nat) (bp:Kr) (a7:Nat) (A:Kr) (m c:Nat) (w:World) (bu:Kt (Sl w (off (Ms g (.slice bI code.length bO) (.slice bp sites.length a7)) w) A m (b.list.map a2))) (b9:Kt (∀s∈b.list,lq U nk F s.th∧lq U nk F s.el)) (dL:Kt (∀f∈F,f.params.length≤1000)) (b8:Kt (b.list.length=m)) (eL:m≤100000) (eI:st+b.num≤100000) (k:Nat) (aV:List dz) (ac aJ:Ks) (aZ:Int) (z:Nat) (o:List ay) (u:List Int) (aY:Kr) (aF bg:Nat) (J:Kr) (Y:Nat) (an:Kr) (aB:Nat) (wr:World) (aw:k<m) (bA:b.list.drop k=X.list) (aW:dw X aV aZ o=dw b l n code) (W:z+X.num=st+b.num) (S:eN G d ac aJ X) (hS:Sc U G aV ac aJ aZ nk) (bn:uE F G aV) (a3:o.length+2*X.num≤100000) (bT:u.length=o.length) (bB:aZ+X.num≤100000) (be:aV.length+X.num≤100000) (bk:cB wr g B U.ae F aV aY aF bg aZ z o u J Y an aB) (hM:Mv g (.slice bI code.length bO) (.slice bp sites.length a7) w (.slice J o.length Y) (.slice an u.length aB) wr)
  (dc:Exit→Act→World→Prop) (hQ0:∀c a d v w,dc (.panic c) (a.put d v) w→dc (.panic c) a w)
  {gJ Z u8 gF eH cc gd ax bL eJ eK eM eP eQ eR eS eT eU eV eW eX eY u32 e3 e5 e6 e7 e8 e9 fa fb fd fe ff fh fi fj fk fl fm fo fp fq fr fs ft fu fv fw fx fy fz fA fB u64 fC fD fE fF fG fH fI fL fM fN fO fP fQ fR fS fT fU fV fW fX fY fZ f3 f4 f5 f6 f7 f8 f9 ga gb ge gf gg gh H ag aI aR a6 a9 bf bh bi bo bx bK bP bQ bY bZ b1 b2 b3 cb cd cj ck cm co cp cq cr ct cu cv cx cy cz cA cC cD cE cF cG cH cI cJ cK cL cM cN cO cP cQ cR cS cT cU cV cW cX cY cZ c4 c5 c6 c7 c8 c9 da db dd de dg dh di dj dk dl dm dn dp dq dr ds dt du dx dy dB dC dD dE dF dG dH dI dJ dK dM dN dO dP dQ dR dS dT dU dV dX dY dZ d0 d1 d2 d3 d4 d5 d6 d7 d8 d9 ea eb ec ed ee ef eg eh ei ej ek el em en eo ep eq er es et eu ev ew ex ey ez eA eB eC eF eG:Value},
  Code.wp prog r5 (Exit.then (fun r j=>iC U nk F b G d l n st code sites g B bj ln lc bI bO bp a7 A m c w r j∧jd m r j<jd m ⟨#[.pointer (some ⟨g,0,none⟩),.slice A m c,undef,undef,.slice bj ln lc,(.int .i64 k),gJ,Z,u8,gF,eH,cc,gd,ax,bL,.pointer (some ⟨g,0,none⟩),.pointer (some ⟨g,0,none⟩),.pointer (some ⟨g,3,none⟩),.slice bj ln lc,eJ,eK,eM,eP,eQ,eR,eS,eT,eU,eV,eW,eX,eY,u32,e3,e5,e6,e7,e8,e9,fa,fb,fd,fe,ff,fh,fi,fj,fk,fl,fm,fo,fp,fq,fr,fs,ft,fu,fv,fw,fx,fy,fz,fA,fB,u64,fC,fD,fE,fF,fG,fH,fI,fL,fM,fN,fO,fP,fQ,fR,fS,fT,fU,fV,fW,fX,fY,fZ,f3,f4,f5,f6,f7,f8,f9,ga,gb,ge,gf,gg,gh,H,ag,aI,aR,a6,a9,bf,bh,bi,bo,bx,bK,bP,bQ,bY,bZ,b1,b2,b3,cb,cd,cj,ck,cm,co,cp,cq,cr,ct,cu,cv,cx,cy,cz,cA,cC,cD,cE,cF,cG,cH,cI,cJ,cK,cL,cM,cN,cO,cP,cQ,cR,cS,cT,cU,cV,cW,cX,cY,cZ,c4,c5,c6,c7,c8,c9,da,db,dd,de,dg,dh,di,dj,dk,dl,dm,dn,dp,dq,dr,ds,dt,du,dx,dy,dB,dC,dD,dE,dF,dG,dH,dI,dJ,dK,dM,dN,dO,dP,dQ,dR,dS,dT,dU,dV,dX,dY,dZ,d0,d1,d2,d3,d4,d5,d6,d7,d8,d9,ea,eb,ec,ed,ee,ef,eg,eh,ei,ej,ek,el,em,en,eo,ep,eq,er,es,et,eu,ev,ew,ex,ey,ez,eA,eB,eC,eF,eG,undef,undef,undef,undef],[]⟩ wr) dc) ⟨#[.pointer (some ⟨g,0,none⟩),.slice A m c,undef,undef,.slice bj ln lc,(.int .i64 k),gJ,Z,u8,gF,eH,cc,gd,ax,bL,.pointer (some ⟨g,0,none⟩),.pointer (some ⟨g,0,none⟩),.pointer (some ⟨g,3,none⟩),.slice bj ln lc,eJ,eK,eM,eP,eQ,eR,eS,eT,eU,eV,eW,eX,eY,u32,e3,e5,e6,e7,e8,e9,fa,fb,fd,fe,ff,fh,fi,fj,fk,fl,fm,fo,fp,fq,fr,fs,ft,fu,fv,fw,fx,fy,fz,fA,fB,u64,fC,fD,fE,fF,fG,fH,fI,fL,fM,fN,fO,fP,fQ,fR,fS,fT,fU,fV,fW,fX,fY,fZ,f3,f4,f5,f6,f7,f8,f9,ga,gb,ge,gf,gg,gh,H,ag,aI,aR,a6,a9,bf,bh,bi,bo,bx,bK,bP,bQ,bY,bZ,b1,b2,b3,cb,cd,cj,ck,cm,co,cp,cq,cr,ct,cu,cv,cx,cy,cz,cA,cC,cD,cE,cF,cG,cH,cI,cJ,cK,cL,cM,cN,cO,cP,cQ,cR,cS,cT,cU,cV,cW,cX,cY,cZ,c4,c5,c6,c7,c8,c9,da,db,dd,de,dg,dh,di,dj,dk,dl,dm,dn,dp,dq,dr,ds,dt,du,dx,dy,dB,dC,dD,dE,dF,dG,dH,dI,dJ,dK,dM,dN,dO,dP,dQ,dR,dS,dT,dU,dV,dX,dY,dZ,d0,d1,d2,d3,d4,d5,d6,d7,d8,d9,ea,eb,ec,ed,ee,ef,eg,eh,ei,ej,ek,el,em,en,eo,ep,eq,er,es,et,eu,ev,ew,ex,ey,ez,eA,eB,eC,eF,eG,undef,undef,undef,undef],[]⟩ wr
end Go.Proofs.YtbkhhfajcgkpgaaGreat

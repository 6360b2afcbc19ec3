/- Part 27 of the proof (LoH LoHRet LoHLockF LoHLockT LoHCallF LoHCallT LoHSetF LoHSetT LoHWhl LoHIteN LoHIteE), without conditions of its own. -/
import Derived.Test.YtjhgbdckgkppnaaGreatQ26
namespace Go.Proofs.YtjhgbdckgkppnaaGreat
open Go.RowKit Go.Proofs.Tryz
set_option maxRecDepth 1000000
set_option maxHeartbeats 25600000
set_option linter.unusedVariables false
variable{p:Prop}
theorem fT:∀b:aj,b.list.length≤b.num
 | .nil=>by simp[aj.list]
 | .set _ _ _ rest=>by simp[aj.list,aj.num,fT rest]
 | .call _ _ _ rest=>by simp[aj.list,aj.num,fT rest]
 | .lock _ _ rest=>by simp[aj.list,aj.num,fT rest]
 | .ite _ th el rest=>by simp[aj.list,aj.num];have:=fT rest;omega
 | .fj _ th rest=>by simp[aj.list,aj.num];have:=fT rest;omega
 | .ret rest=>by simp[aj.list,aj.num,fT rest]
def e6:Code→Option Code
 | .loop c=>some c
 | .seq a b=>match e6 a with
  | some c=>some c
  | none=>e6 b
 | .block _ c=>e6 c
 | .scope c=>e6 c
 | .cond _ a b=>match e6 a with
  | some c=>some c
  | none=>e6 b
 | _=>none
noncomputable def p5:Code:=((Tryz.f106.body.bind e6).getD .skip)
def u1(U:gu)(nk:Int)(F:List aG)(b:aj)(G:Env)(d:Nat)(l:List dw)(n:Int)(st:Nat)(code:List aC)(sites:List Int)(g B:Nat)(bj:GR)(ln lc:Nat)(aV:GR)(bX:Nat)(bI:GR)(bq:Nat)(A:GR)(m c:Nat)(w:World)(E:Value)(wr:World):Prop:=∃(k:Nat) (rest:aj) (y:List dw) (ab aM:GS) (L:Int) (W:Nat) (o:List aC) (u:List Int) (bn:GR) (av cr:Nat) (Y:GR) (an:Nat) (aS:GR) (be:Nat),E=.int .i64 k∧k≤m∧b.list.drop k=rest.list∧b2 rest y L o=b2 b l n code∧W+rest.num=st+b.num∧
   ej G d ab aM rest∧Sc U G y ab aM L nk∧r4 F G y∧o.length+2*rest.num≤100000∧u.length=o.length∧L+rest.num≤100000∧y.length+rest.num≤100000∧cu wr g B U.af F y bn av cr L W o u Y an aS be∧
   Mv g (.slice aV code.length bX) (.slice bI sites.length bq) w (.slice Y o.length an) (.slice aS u.length be) wr
def me(U:gu)(nk:Int)(F:List aG)(b:aj)(G:Env)(d:Nat)(l:List dw)(n:Int)(st:Nat)(code:List aC)(sites:List Int)(g B:Nat)(bj:GR)(ln lc:Nat)(aV:GR)(bX:Nat)(bI:GR)(bq:Nat)(A:GR)(m c:Nat)(w:World)(a:Act)(wr:World):Prop:=∃gE gM E u8 gG eO gi gj b8 bi eP eQ eR eS eT eU eV eW eX eY eZ e3 e4 u32 e5 e6 e7 e8 e9 fa fb fd fe ff fh fi fj fk fl fm fo fp fq fr fs ft fu fv fw fx fy fz fA fB fC u64 fD fF fG fH fI fJ fK fL fM fN fO fP fQ fR fS fT fU fV fW fX fY fZ f0 f1 f2 f3 f6 f7 f8 f9 ga gb gd ge gf am aE aL aP a3 a4 a6 a7 bg bh bk bp br bs bt bz bC bL bY b0 b6 b7 ca cg ci cn cq ct cv cw cx cz cB cC cD cE cF cG cH cI cJ cK cL cM cN cO cP cQ cR cS cT cU cV cX cY cZ c5 c7 c8 c9 da db dc dd de df dg dh dj dk dl dm dn dp dq ds dt du dv dx dy dz dB dC dD dE dF dG dH dI dJ dK dL dM dO dP dQ dR dT dV dW dX dY dZ d0 d1 d2 d3 d4 d5 d6 d7 d9 ea eb ec ed ee ef eg ei ek el em en eo ep eq er es et eu ev ew ex ey ez eA eB eC eD eE eF eG eH eI eJ eK eM:Value,u1 U nk F b G d l n st code sites g B bj ln lc aV bX bI bq A m c w gE wr∧a=⟨#[.pointer (some ⟨g,0,none⟩),.slice A m c,undef,undef,.slice bj ln lc,gE,gM,E,u8,gG,eO,gi,gj,b8,bi,.pointer (some ⟨g,0,none⟩),.pointer (some ⟨g,0,none⟩),.pointer (some ⟨g,3,none⟩),.slice bj ln lc,eP,eQ,eR,eS,eT,eU,eV,eW,eX,eY,eZ,e3,e4,u32,e5,e6,e7,e8,e9,fa,fb,fd,fe,ff,fh,fi,fj,fk,fl,fm,fo,fp,fq,fr,fs,ft,fu,fv,fw,fx,fy,fz,fA,fB,fC,u64,fD,fF,fG,fH,fI,fJ,fK,fL,fM,fN,fO,fP,fQ,fR,fS,fT,fU,fV,fW,fX,fY,fZ,f0,f1,f2,f3,f6,f7,f8,f9,ga,gb,gd,ge,gf,am,aE,aL,aP,a3,a4,a6,a7,bg,bh,bk,bp,br,bs,bt,bz,bC,bL,bY,b0,b6,b7,ca,cg,ci,cn,cq,ct,cv,cw,cx,cz,cB,cC,cD,cE,cF,cG,cH,cI,cJ,cK,cL,cM,cN,cO,cP,cQ,cR,cS,cT,cU,cV,cX,cY,cZ,c5,c7,c8,c9,da,db,dc,dd,de,df,dg,dh,dj,dk,dl,dm,dn,dp,dq,ds,dt,du,dv,dx,dy,dz,dB,dC,dD,dE,dF,dG,dH,dI,dJ,dK,dL,dM,dO,dP,dQ,dR,dT,dV,dW,dX,dY,dZ,d0,d1,d2,d3,d4,d5,d6,d7,d9,ea,eb,ec,ed,ee,ef,eg,ei,ek,el,em,en,eo,ep,eq,er,es,et,eu,ev,ew,ex,ey,ez,eA,eB,eC,eD,eE,eF,eG,eH,eI,eJ,eK,eM,undef,undef,undef,undef],[]⟩
def np(m:Nat)(a:Act)(_:World):Nat:=m - (intOf (a.tmps.getD 5 undef)).toNat
def BC(U:gu)(nk:Int)(F:List aG)(b:aj)(G:Env)(d:Nat)(l:List dw)(n:Int)(st:Nat)(code:List aC)(sites:List Int)(g B:Nat)(bj:GR)(ln lc:Nat)(aV:GR)(bX:Nat)(bI:GR)(bq:Nat)(A:GR)(m c:Nat)(w:World)(a:Act)(wr:World):Prop:=∃gE gM E u8 gG eO gi gj b8 bi eP eQ eR eS eT eU eV eW eX eY eZ e3 e4 u32 e5 e6 e7 e8 e9 fa fb fd fe ff fh fi fj fk fl fm fo fp fq fr fs ft fu fv fw fx fy fz fA fB fC u64 fD fF fG fH fI fJ fK fL fM fN fO fP fQ fR fS fT fU fV fW fX fY fZ f0 f1 f2 f3 f6 f7 f8 f9 ga gb gd ge gf am aE aL aP a3 a4 a6 a7 bg bh bk bp br bs bt bz bC bL bY b0 b6 b7 ca cg ci cn cq ct cv cw cx cz cB cC cD cE cF cG cH cI cJ cK cL cM cN cO cP cQ cR cS cT cU cV cX cY cZ c5 c7 c8 c9 da db dc dd de df dg dh dj dk dl dm dn dp dq ds dt du dv dx dy dz dB dC dD dE dF dG dH dI dJ dK dL dM dO dP dQ dR dT dV dW dX dY dZ d0 d1 d2 d3 d4 d5 d6 d7 d9 ea eb ec ed ee ef eg ei ek el em en eo ep eq er es et eu ev ew ex ey ez eA eB eC eD eE eF eG eH eI eJ eK eM:Value,u1 U nk F b G d l n st code sites g B bj ln lc aV bX bI bq A m c w gE wr∧gE=.int .i64 m∧a=⟨#[.pointer (some ⟨g,0,none⟩),.slice A m c,undef,undef,.slice bj ln lc,gE,gM,E,u8,gG,eO,gi,gj,b8,bi,.pointer (some ⟨g,0,none⟩),.pointer (some ⟨g,0,none⟩),.pointer (some ⟨g,3,none⟩),.slice bj ln lc,eP,eQ,eR,eS,eT,eU,eV,eW,eX,eY,eZ,e3,e4,u32,e5,e6,e7,e8,e9,fa,fb,fd,fe,ff,fh,fi,fj,fk,fl,fm,fo,fp,fq,fr,fs,ft,fu,fv,fw,fx,fy,fz,fA,fB,fC,u64,fD,fF,fG,fH,fI,fJ,fK,fL,fM,fN,fO,fP,fQ,fR,fS,fT,fU,fV,fW,fX,fY,fZ,f0,f1,f2,f3,f6,f7,f8,f9,ga,gb,gd,ge,gf,am,aE,aL,aP,a3,a4,a6,a7,bg,bh,bk,bp,br,bs,bt,bz,bC,bL,bY,b0,b6,b7,ca,cg,ci,cn,cq,ct,cv,cw,cx,cz,cB,cC,cD,cE,cF,cG,cH,cI,cJ,cK,cL,cM,cN,cO,cP,cQ,cR,cS,cT,cU,cV,cX,cY,cZ,c5,c7,c8,c9,da,db,dc,dd,de,df,dg,dh,dj,dk,dl,dm,dn,dp,dq,ds,dt,du,dv,dx,dy,dz,dB,dC,dD,dE,dF,dG,dH,dI,dJ,dK,dL,dM,dO,dP,dQ,dR,dT,dV,dW,dX,dY,dZ,d0,d1,d2,d3,d4,d5,d6,d7,d9,ea,eb,ec,ed,ee,ef,eg,ei,ek,el,em,en,eo,ep,eq,er,es,et,eu,ev,ew,ex,ey,ez,eA,eB,eC,eD,eE,eF,eG,eH,eI,eJ,eK,eM,undef,undef,undef,undef],[]⟩
def BK(X:aj):Prop:=∀(cp:r6) (U:gu) (nk:Int) (F:List aG) (b:aj) (G:Env) (d:Nat) (l:List dw) (n:Int) (st:Nat) (code:List aC) (sites:List Int) (g B:Nat) (bj:GR) (ln lc:Nat) (aV:GR) (bX:Nat) (bI:GR) (bq:Nat) (A:GR) (m c:Nat) (w:World) (a8:GU (Sl w (off (Ms g (.slice aV code.length bX) (.slice bI sites.length bq)) w) A m (b.list.map aW))) (cW:GU (∀s∈b.list,kT U nk F s.th∧kT U nk F s.el)) (eL:GU (∀f∈F,f.params.length≤1000)) (bO:GU (b.list.length=m)) (eN:m≤100000) (dA:st+b.num≤100000) (k:Nat) (y:List dw) (ab aM:GS) (L:Int) (W:Nat) (o:List aC) (u:List Int) (bn:GR) (av cr:Nat) (Y:GR) (an:Nat) (aS:GR) (be:Nat) (wr:World) (ao:k<m) (aq:b.list.drop k=X.list) (bd:b2 X y L o=b2 b l n code) (bu:W+X.num=st+b.num) (aJ:ej G d ab aM X) (hS:Sc U G y ab aM L nk) (bx:r4 F G y) (a1:o.length+2*X.num≤100000) (ck:u.length=o.length) (ce:L+X.num≤100000) (bG:y.length+X.num≤100000) (bb:cu wr g B U.af F y bn av cr L W o u Y an aS be) (a5:Mv g (.slice aV code.length bX) (.slice bI sites.length bq) w (.slice Y o.length an) (.slice aS u.length be) wr)
  (c6:Exit→Act→World→Prop) (hQ0:∀c a d v w,c6 (.panic c) (a.put d v) w→c6 (.panic c) a w)
  {gM E u8 gG eO gi gj b8 bi eP eQ eR eS eT eU eV eW eX eY eZ e3 e4 u32 e5 e6 e7 e8 e9 fa fb fd fe ff fh fi fj fk fl fm fo fp fq fr fs ft fu fv fw fx fy fz fA fB fC u64 fD fF fG fH fI fJ fK fL fM fN fO fP fQ fR fS fT fU fV fW fX fY fZ f0 f1 f2 f3 f6 f7 f8 f9 ga gb gd ge gf am aE aL aP a3 a4 a6 a7 bg bh bk bp br bs bt bz bC bL bY b0 b6 b7 ca cg ci cn cq ct cv cw cx cz cB cC cD cE cF cG cH cI cJ cK cL cM cN cO cP cQ cR cS cT cU cV cX cY cZ c5 c7 c8 c9 da db dc dd de df dg dh dj dk dl dm dn dp dq ds dt du dv dx dy dz dB dC dD dE dF dG dH dI dJ dK dL dM dO dP dQ dR dT dV dW dX dY dZ d0 d1 d2 d3 d4 d5 d6 d7 d9 ea eb ec ed ee ef eg ei ek el em en eo ep eq er es et eu ev ew ex ey ez eA eB eC eD eE eF eG eH eI eJ eK eM:Value},
  Code.wp prog p5 (Exit.then (fun I j=>me U nk F b G d l n st code sites g B bj ln lc aV bX bI bq A m c w I j∧np m I j<np m ⟨#[.pointer (some ⟨g,0,none⟩),.slice A m c,undef,undef,.slice bj ln lc,(.int .i64 k),gM,E,u8,gG,eO,gi,gj,b8,bi,.pointer (some ⟨g,0,none⟩),.pointer (some ⟨g,0,none⟩),.pointer (some ⟨g,3,none⟩),.slice bj ln lc,eP,eQ,eR,eS,eT,eU,eV,eW,eX,eY,eZ,e3,e4,u32,e5,e6,e7,e8,e9,fa,fb,fd,fe,ff,fh,fi,fj,fk,fl,fm,fo,fp,fq,fr,fs,ft,fu,fv,fw,fx,fy,fz,fA,fB,fC,u64,fD,fF,fG,fH,fI,fJ,fK,fL,fM,fN,fO,fP,fQ,fR,fS,fT,fU,fV,fW,fX,fY,fZ,f0,f1,f2,f3,f6,f7,f8,f9,ga,gb,gd,ge,gf,am,aE,aL,aP,a3,a4,a6,a7,bg,bh,bk,bp,br,bs,bt,bz,bC,bL,bY,b0,b6,b7,ca,cg,ci,cn,cq,ct,cv,cw,cx,cz,cB,cC,cD,cE,cF,cG,cH,cI,cJ,cK,cL,cM,cN,cO,cP,cQ,cR,cS,cT,cU,cV,cX,cY,cZ,c5,c7,c8,c9,da,db,dc,dd,de,df,dg,dh,dj,dk,dl,dm,dn,dp,dq,ds,dt,du,dv,dx,dy,dz,dB,dC,dD,dE,dF,dG,dH,dI,dJ,dK,dL,dM,dO,dP,dQ,dR,dT,dV,dW,dX,dY,dZ,d0,d1,d2,d3,d4,d5,d6,d7,d9,ea,eb,ec,ed,ee,ef,eg,ei,ek,el,em,en,eo,ep,eq,er,es,et,eu,ev,ew,ex,ey,ez,eA,eB,eC,eD,eE,eF,eG,eH,eI,eJ,eK,eM,undef,undef,undef,undef],[]⟩ wr) c6) ⟨#[.pointer (some ⟨g,0,none⟩),.slice A m c,undef,undef,.slice bj ln lc,(.int .i64 k),gM,E,u8,gG,eO,gi,gj,b8,bi,.pointer (some ⟨g,0,none⟩),.pointer (some ⟨g,0,none⟩),.pointer (some ⟨g,3,none⟩),.slice bj ln lc,eP,eQ,eR,eS,eT,eU,eV,eW,eX,eY,eZ,e3,e4,u32,e5,e6,e7,e8,e9,fa,fb,fd,fe,ff,fh,fi,fj,fk,fl,fm,fo,fp,fq,fr,fs,ft,fu,fv,fw,fx,fy,fz,fA,fB,fC,u64,fD,fF,fG,fH,fI,fJ,fK,fL,fM,fN,fO,fP,fQ,fR,fS,fT,fU,fV,fW,fX,fY,fZ,f0,f1,f2,f3,f6,f7,f8,f9,ga,gb,gd,ge,gf,am,aE,aL,aP,a3,a4,a6,a7,bg,bh,bk,bp,br,bs,bt,bz,bC,bL,bY,b0,b6,b7,ca,cg,ci,cn,cq,ct,cv,cw,cx,cz,cB,cC,cD,cE,cF,cG,cH,cI,cJ,cK,cL,cM,cN,cO,cP,cQ,cR,cS,cT,cU,cV,cX,cY,cZ,c5,c7,c8,c9,da,db,dc,dd,de,df,dg,dh,dj,dk,dl,dm,dn,dp,dq,ds,dt,du,dv,dx,dy,dz,dB,dC,dD,dE,dF,dG,dH,dI,dJ,dK,dL,dM,dO,dP,dQ,dR,dT,dV,dW,dX,dY,dZ,d0,d1,d2,d3,d4,d5,d6,d7,d9,ea,eb,ec,ed,ee,ef,eg,ei,ek,el,em,en,eo,ep,eq,er,es,et,eu,ev,ew,ex,ey,ez,eA,eB,eC,eD,eE,eF,eG,eH,eI,eJ,eK,eM,undef,undef,undef,undef],[]⟩ wr
namespace yN
theorem kt(h:p:=by
 have wf:=(show ej G d ab aM rest by cases d<;>exact aJ)
 exact⟨k+1,rest,y,ab,aM,L,W+1,o++[lX],u++[(W:Int)],bn,av,cr,bM,bY,ci,cD,by go_num,ad,bS.symm,bd,by simp only[aj.num] at bu;omega,wf,hS,bx,by simp only[aj.num] at a1;simp only[Gd,Gm];omega,by simp only[Gd,Gm];omega,by simp only[aj.num] at ce;omega,by simp only[aj.num] at bG;omega,b9.1,by rw[Gd,Gd];exact b9.2⟩
 ):p:=h
theorem h9(h:p:=by
 have aG:ag X wr.heap.size 175 #[.int .i64 9,.string ⟨#[]⟩,.int .i64 eo,.int .i64 en,.string es,.slice EA em ec,.string rs,.slice bH bC rc,.slice cC n1 c1,.slice A2 bl c2,.slice cl cn c3]:=bz;clear bz;have cm:=ae aG;obtain⟨a0,al,af⟩:=aG.two;clear aG;go_wp2_with (fail);refine(fu z.o (lX) (W:Int) (g0 (is:=[]) (ps:=[]) (Sl.bu _) (Sl.bu _) (Gb _) (Gb _)) ad ad).mono ?_;rintro e aH ⟨rfl,bM,bY,ci,cD,cg,c4⟩;have b9:=ai cg (cZ.trans c4);clear cg c4 a0 al af a7 am aE;exact ny
 ):p:=h
theorem h2(h:p:=by
 exact h8
 ):p:=h
theorem h7(h:p:=by
 exact h1
 ):p:=h
theorem h4(h:p:=by
 have b3:(aj.ret rest).list=s::b.list.drop (k+1):=aq▸(List.drop_eq_getElem?_toList_append▸(by rw[b8];rfl));exact iU
 ):p:=h
end yN
open yN in
theorem D3(rest:aj):BK (aj.ret rest):=by
 exact h3
namespace yO
theorem kt(h:p:=by
 have wf:=(show ej G d ab aM rest by cases d<;>exact aJ.2)
 exact⟨k+1,rest,y,ab,aM,L,W+1,o++[lj false (jq y r)],u++[(W:Int)],bn,av,cr,bM,bY,ci,cD,by go_num,ad,bS.symm,bd,by simp only[aj.num] at bu;omega,wf,hS,bx,by simp only[aj.num] at a1;simp only[Gd,Gm];omega,by simp only[Gd,Gm];omega,by simp only[aj.num] at ce;omega,by simp only[aj.num] at bG;omega,b9.1,by rw[Gd,Gd];exact b9.2⟩
 ):p:=h
theorem xb(h:p:=by
 refine(fu S (lj false (jq y r)) (W:Int) (nS aL) ad ad).mono ?_;exact xZ
 ):p:=h
theorem h9(h:p:=by
 have aG:ag X wr.heap.size 175 #[.int .i64 5,.string ⟨#[]⟩,.int .i64 eo,.int .i64 en,.string es,.slice EA em ec,.string rs,.slice bH bC rc,.slice cC n1 c1,.slice A2 bl c2,.slice cl cn c3]:=bz;exact xa
 ):p:=h
theorem h2(h:p:=by
 exact h8
 ):p:=h
theorem h7(h:p:=by
 exact h1
 ):p:=h
theorem h4(h:p:=by
 have b3:(aj.lock false r rest).list=s::b.list.drop (k+1):=aq▸(List.drop_eq_getElem?_toList_append▸(by rw[b8];rfl));exact iU
 ):p:=h
end yO
open yO in
theorem Ab(rest:aj)(r:d2):BK (aj.lock false r rest):=by
 exact h3
namespace yP
theorem kt(h:p:=by
 have wf:=(show ej G d ab aM rest by cases d<;>exact aJ.2)
 exact⟨k+1,rest,y,ab,aM,L,W+1,o++[lj true (jq y r)],u++[(W:Int)],bn,av,cr,bM,bY,ci,cD,by go_num,ad,bS.symm,bd,by simp only[aj.num] at bu;omega,wf,hS,bx,by simp only[aj.num] at a1;simp only[Gd,Gm];omega,by simp only[Gd,Gm];omega,by simp only[aj.num] at ce;omega,by simp only[aj.num] at bG;omega,b9.1,by rw[Gd,Gd];exact b9.2⟩
 ):p:=h
theorem xb(h:p:=by
 refine(fu S (lj true (jq y r)) (W:Int) (nS aL) ad ad).mono ?_;exact xZ
 ):p:=h
theorem h9(h:p:=by
 have aG:ag X wr.heap.size 175 #[.int .i64 6,.string ⟨#[]⟩,.int .i64 eo,.int .i64 en,.string es,.slice EA em ec,.string rs,.slice bH bC rc,.slice cC n1 c1,.slice A2 bl c2,.slice cl cn c3]:=bz;exact xa
 ):p:=h
theorem h2(h:p:=by
 exact h8
 ):p:=h
theorem h7(h:p:=by
 exact h1
 ):p:=h
theorem h4(h:p:=by
 have b3:(aj.lock true r rest).list=s::b.list.drop (k+1):=aq▸(List.drop_eq_getElem?_toList_append▸(by rw[b8];rfl));exact iU
 ):p:=h
end yP
open yP in
theorem Ac(rest:aj)(r:d2):BK (aj.lock true r rest):=by
 exact h3
namespace yQ
theorem kt(h:p:=by
 have wf:=(show ej G d ab aM rest by cases d<;>exact aJ.2)
 exact⟨k+1,rest,y,ab,aM,L,W+1,o++[jj false v.n (bA y aO) (b5 y aO)],u++[(W:Int)],bn,av,cr,bM,bY,ci,cD,by go_num,ad,bS.symm,(by rw[←M];exact bd),by simp only[aj.num] at bu;omega,wf,hS,bx,by simp only[aj.num] at a1;simp only[Gd,Gm];omega,by simp only[Gd,Gm];omega,by simp only[aj.num] at ce;omega,by simp only[aj.num] at bG;omega,b9.1,by rw[Gd,Gd];exact b9.2⟩
 ):p:=h
theorem xd(h:p:=by
 refine(qX cp g y U.af F false nm aO v f aw Q h0 J N cL eo en es EA em ec rs bH bC rc cC n1 c1 A2 bl c2 cl cn c3 (W:Int) _ z.L z.M_ z.F_ r).mono ?_;rintro e aH ⟨IA,i,ic,KA,j,kc,rfl,bo,ar⟩;have S:=z.al ar;have aL:=g3 z.o bo;clear r N bo;go_wp2_with (fail);refine(fu S (jj false v.n (bA y aO) (b5 y aO)) (W:Int) (aL) ad ad).mono ?_;exact xX
 ):p:=h
theorem h9(h:p:=by
 have aG:ag X wr.heap.size 175 #[.int .i64 3,.string nm,.int .i64 eo,.int .i64 en,.string es,.slice EA em ec,.string rs,.slice bH bC rc,.slice cC n1 c1,.slice A2 bl c2,.slice cl cn c3]:=bz;exact xc
 ):p:=h
theorem h2(h:p:=by
 exact h8
 ):p:=h
theorem h7(h:p:=by
 exact h1
 ):p:=h
theorem h4(h:p:=by
 have b3:(aj.call false nm aO rest).list=s::b.list.drop (k+1):=aq▸(List.drop_eq_getElem?_toList_append▸(by rw[b8];rfl));exact iU
 ):p:=h
end yQ
open yQ in
theorem z9(rest:aj)(nm:ByteArray)(aO:List cQ):BK (aj.call false nm aO rest):=by
 exact h3
namespace yR
theorem kt(h:p:=by
 have wf:=(show ej G d ab aM rest by cases d<;>exact aJ.2)
 exact⟨k+1,rest,y,ab,aM,L,W+1,o++[jj true v.n (bA y aO) (b5 y aO)],u++[(W:Int)],bn,av,cr,bM,bY,ci,cD,by go_num,ad,bS.symm,(by rw[←M];exact bd),by simp only[aj.num] at bu;omega,wf,hS,bx,by simp only[aj.num] at a1;simp only[Gd,Gm];omega,by simp only[Gd,Gm];omega,by simp only[aj.num] at ce;omega,by simp only[aj.num] at bG;omega,b9.1,by rw[Gd,Gd];exact b9.2⟩
 ):p:=h
theorem xd(h:p:=by
 refine(qX cp g y U.af F true nm aO v f aw Q h0 J N cL eo en es EA em ec rs bH bC rc cC n1 c1 A2 bl c2 cl cn c3 (W:Int) _ z.L z.M_ z.F_ r).mono ?_;rintro e aH ⟨IA,i,ic,KA,j,kc,rfl,bo,ar⟩;have S:=z.al ar;have aL:=g3 z.o bo;clear r N bo;go_wp2_with (fail);refine(fu S (jj true v.n (bA y aO) (b5 y aO)) (W:Int) (aL) ad ad).mono ?_;exact xX
 ):p:=h
theorem h9(h:p:=by
 have aG:ag X wr.heap.size 175 #[.int .i64 4,.string nm,.int .i64 eo,.int .i64 en,.string es,.slice EA em ec,.string rs,.slice bH bC rc,.slice cC n1 c1,.slice A2 bl c2,.slice cl cn c3]:=bz;exact xc
 ):p:=h
theorem h2(h:p:=by
 exact h8
 ):p:=h
theorem h7(h:p:=by
 exact h1
 ):p:=h
theorem h4(h:p:=by
 have b3:(aj.call true nm aO rest).list=s::b.list.drop (k+1):=aq▸(List.drop_eq_getElem?_toList_append▸(by rw[b8];rfl));exact iU
 ):p:=h
end yR
open yR in
theorem Aa(rest:aj)(nm:ByteArray)(aO:List cQ):BK (aj.call true nm aO rest):=by
 exact h3
namespace yS
theorem kt(h:p:=by
 have wf:=(show ej G d ab aM rest by cases d<;>exact aJ.2.2)
 exact⟨k+1,rest,y,ab,aM,L,W+1,o++[km v.n (v.kind == 1) (bt y ex)],u++[(W:Int)],bn,av,cr,bM,bY,ci,cD,by go_num,ad,bS.symm,(by rw[←M,←j];exact bd),by simp only[aj.num] at bu;omega,wf,hS,bx,by simp only[aj.num] at a1;simp only[Gd,Gm];omega,by simp only[Gd,Gm];omega,by simp only[aj.num] at ce;omega,by simp only[aj.num] at bG;omega,b9.1,by rw[Gd,Gd];exact b9.2⟩
 ):p:=h
theorem h9(h:p:=by
 have aG:ag X wr.heap.size 175 #[.int .i64 2,.string nm,.int .i64 eo,.int .i64 en,.string es,.slice EA em ec,.string rs,.slice bH bC rc,.slice cC n1 c1,.slice A2 bl c2,.slice cl cn c3]:=bz;clear bz;have cm:=ae aG;obtain⟨a0,al,af⟩:=aG.two;clear aG;have ct:=(show nm∈ab∧ex.src ab 2 by have:=bf.2.2.1;cases d<;>exact⟨this.1,this.2.1⟩)
 obtain⟨v,aw,bF⟩:=bf.2.2.2.1.vars nm ct.1;have az:v.kind=1∨v.kind=4:=bF.imp (fun h=>h.1) (fun h=>h.1);have aC:=bf.2.2.2.1.fx 2 ex ct.2;have M:ij y nm=v.n:=by simp[ij,aw]
 have j:q6 y nm=v.kind:=by simp[q6,aw]
 have bQ:(a4 ex).rep X (au X) [.int .i64 eo,.int .i64 en,.string es,.slice EA em ec]:=D.aP (fun _ h=>h.1) _ _ (D.ch (d:=a4 ex) aZ.expr cK.o);have aU:=ai bQ aC;clear bQ bF;go_wp2_with (fail);refine(lF g y nm v aw az (W:Int) X z.L).mono ?_;rintro e aH ⟨rfl,ar⟩;simp only[mS];go_upto_region 18 with(fail);generalize hV:World.alloc _ _=bL;have t:Ext X bL:=hV▸ar.alloc _;have cQ:ag bL aH.heap.size 149 #[.string v.name,.int .i64 v.kind,.int .i64 v.n]:=hV▸GO;have bD:=cm.al t;have bi:=ae t;clear hV a0 al af a7 am aE ar t;obtain⟨a0,al,af⟩:=bD.two;obtain⟨a7,am,aE⟩:=cQ.two;clear cQ bD;go_wp2;refine eh (fun _=>False) [(0,3),(1,3),(2,0),(3,3),(4,0),(5,3),(6,3),(7,3),(8,0),(9,3),(12,3),(10,1),(11,3),(13,2)] ?_
 iterate 2 refine pf ?_
 refine ph ?_;refine pf ?_;refine ph ?_
 iterate 3 refine pf ?_
 refine ph ?_
 iterate 2 refine pf ?_
 refine aA rfl (fun K hK=>?_);go_simp;refine(fp y ex aC g (W:Int) _ _ _ _ _ _ _ (z.al bi.drew).L (D.on aU.1 (Fr.ext bi.drew))).mono ?_;rintro e bJ ⟨dS,co,s1,dg,cM,cJ,rfl,bo,bW⟩;refine hK _ _ (bW) ?_;clear hK K
 try simp only[PU]
 refine pf ?_;refine ax rfl (fun K hK=>?_);go_simp;have J:Ext X bJ:=bi.trans (Fr.aE bW);have cP:=z.al J;refine(fu cP (km v.n (v.kind == 1) (bt y ex)) (W:Int) (lU (g3 z.o (sX bo bi.size))) ad ad).mono ?_;rintro e aQ ⟨rfl,bM,bY,ci,cD,cg,c4⟩;refine hK _ _ ?_;clear hK K
 try simp only[PU]
 refine aD ?_;have b9:=ai cg ((cZ.trans (Mv.gP J)).trans c4);clear cg c4 a0 al af a7 am aE cP bo bW J;exact ny
 ):p:=h
theorem h2(h:p:=by
 exact h8
 ):p:=h
theorem h7(h:p:=by
 exact h1
 ):p:=h
theorem h4(h:p:=by
 have b3:(aj.set false nm ex rest).list=s::b.list.drop (k+1):=aq▸(List.drop_eq_getElem?_toList_append▸(by rw[b8];rfl));exact iU
 ):p:=h
end yS
open yS in
theorem BR(rest:aj)(nm:ByteArray)(ex:VE):BK (aj.set false nm ex rest):=by
 exact h3
namespace yT
theorem kt(h:p:=by
 have wf:=(show ej G d (ab++[nm]) (aM++[nm]) rest by cases d<;>exact aJ.2.2.2)
 exact⟨k+1,rest,y++[⟨nm,4,L⟩],ab++[nm],aM++[nm],L+1,W+1,o++[km L false (bt y ex)],u++[(W:Int)],dv,(av+1),cz,bM,bY,ci,cD,by go_num,ad,bS.symm,(show b2 rest (y++[⟨nm,4,L⟩]) (L+1) (o++[km L false (bt y ex)])=b2 b l n code from bd),by simp only[aj.num] at bu;omega,wf,hS.add ct.1,bx.app _,by simp only[aj.num] at a1;simp only[Gd,Gm];omega,by simp only[Gd,Gm];omega,by simp only[aj.num] at ce;omega,by simp only[aj.num] at bG;simp only[Gd,Gm];omega,b9.1,b9.2⟩
 ):p:=h
theorem gz(h:p:=by
 refine tf ?_;refine bU ?_;generalize df:World.setCell _ _ _=d1;obtain⟨_,cT,_⟩:=mq bP S a3 df;have cL:=ae cT;clear df c0 bw a2 bP S a3 bg;have gk:=cm.al cT;obtain⟨a0,al,af⟩:=gk.two;clear cT gk;go_wp2_with (fail);refine(fp y ex aC g (W:Int) _ _ _ _ _ _ _ (z.al cL.o).L (D.on aU.1 (Fr.ext cL.o))).mono ?_;rintro e aH ⟨dS,co,s1,dg,cM,cJ,rfl,bo,ar⟩;have bp:=ae (cL.trans ar);have c9:=ae bo;clear a0 al af ar bo;go_upto_region 13 with(fail);generalize hV:World.alloc _ _=bL;have t:Ext aH bL:=hV▸GN.alloc _;have cQ:ag bL aH.heap.size 55 #[.int .i64 dS,.int .i64 co,.string s1,.slice dg cM cJ]:=hV▸GO;have cg:=z.al (bp.trans t);obtain⟨eI,d2,dV,eK,el,eb,ey,dP,dK,bA,_⟩:=cg.blk;have bi:=ae (bp.trans t);have aL:(a4 (bt y ex)).rep bL (fresh X bL) [.int .i64 dS,.int .i64 co,.string s1,.slice dg cM cJ]:=
  D.aP (fun b O=>⟨Gu cL.size O.1,Gc O.2 t.size⟩) _ _ (D.bg (fun b O=>t.block b O.2 fun h=>h) _ _ c9.o)
 have dy:=ae aL;clear hV aL cg;obtain⟨a0,al,af⟩:=cQ.two;obtain⟨a7,am,aE⟩:=bA.two;clear cQ bA;go_wp2;refine eh (fun _=>False) [(0,3),(1,3),(2,3),(3,3),(4,0),(5,0),(6,3),(7,3),(8,2)] ?_
 iterate 4 refine pf ?_
 iterate 2 refine ph ?_
 iterate 2 refine pf ?_
 refine ax rfl (fun K hK=>?_);go_simp;have cg:=z.al bi.drew;refine(fu cg (km L false (bt y ex)) (W:Int) (lU (g3 z.o (Az dy.o GN.drew))) ad ad).mono ?_;rintro e aQ ⟨rfl,bM,bY,ci,cD,bW,cu⟩;refine hK _ _ ?_;clear hK K
 try simp only[PU]
 refine aD ?_;clear a0 al af a7 am aE cg;have c4:=ae bW;have v:Mv g (.slice Y o.length an) (.slice aS u.length be) bL.drew (.slice bM (o++[km L false (bt y ex)]).length bY) (.slice ci (u++[(W:Int)]).length cD) aQ:=by rw[Gd,Gd];exact cu
 have dz:av≤100000:=by have ac:=bf.2.2.2.2.2.2.2.2;rw[←cA,Gf];omega
 have aw:=ae (cZ.trans ((Mv.gP bi.drew).trans v));clear v;have b1:=(cm.al bi.drew).on cu.fr (by
  intro hm;rcases hm with hm|hm|hm
  ·have:=HA.lt;omega
  ·have:=(HA.rows.one.lt hm).2;omega
  ·have:=(HA.rows.two.lt hm).2;omega)
 obtain⟨a0,al,af⟩:=b1.two;obtain⟨eJ,d3,dW,eO,et,ed,eG,dQ,dM,bm,_⟩:=bW.blk;obtain⟨a7,am,aE⟩:=bm.two;have bk:=bW.names.2.mono (fun b (O:off _ aQ b)=>(show au aQ b from O.1));obtain⟨aO,cd⟩:∃N,N=aQ.heap.size:=⟨_,rfl⟩
 have dZ:¬aO≤g:=ad;have d0:¬aO≤wr.heap.size:=ad;clear bW cu b1 bm;go_wp2;refine o2 (fun b=>aO≤b) [15,18] (.free 0 (.free 2 (.free 3 (.free 4 (.held 5 (.free 7 (.held 8 (.free 9 (.free 10 (.free 11 (.held 12 (.free 13 (.pick [1,14] (fun i=>bif i == 1 then .pick [6,14] (fun i=>bif i == 6 then .pick [14] (fun _=>.pick [15] (fun _=>.free 16 (.free 17 (.pick [18] (fun _=>.stop))))) else .pick [6] (fun _=>.pick [15] (fun _=>.free 16 (.free 17 (.pick [18] (fun _=>.stop)))))) else .pick [1] (fun _=>.pick [6] (fun _=>.pick [15] (fun _=>.free 16 (.free 17 (.pick [18] (fun _=>.stop)))))))))))))))))))) ?_
 iterate 4 refine tf ?_
 refine mE ?_;refine tf ?_;refine mE ?_
 iterate 3 refine tf ?_
 refine mE ?_;refine tf ?_;clear a0 al af;refine f5 (P:=?mM) (ops:=?gQ) (Q:=?gR) (R:=?gS) (tails:=?gT) (rest:=.pick [15] (fun _=>.free 16 (.free 17 (.pick [18] (fun _=>.stop))))) (aa:=?gP)
  (C:=fun(_:Nat) a9 A2 bZ V=>Ext aQ V∧Gr (fun _=>False) aO 149 3 V A2 av bZ (y.map bN)∧ag V a9 149 #[.string nm,.int .i64 4,.int .i64 L]) (fun key=>?gh) ?gg
 case gh=>
  refine aR ?_ ?_
  ·
   refine ja ?_;generalize hV:World.drew (World.alloc _ _)=T;have e1:Ext aQ T:=hV▸(GN.alloc _).drew;have b5:Gr (fun _=>False) aO 149 3 T (some ⟨aQ.heap.size,0,none⟩) 0 0 []:=by rw[←hV,cd];exact(Gr.lit (w:=aQ) (n:=0) (l:=[]) rfl (by rfl) ad (by simp only[D.aL])).al GN.drew
   have cy:=jC (bk.on (Fr.ext e1));clear hV;refine aR ?_ ?_
   ·
    refine az rfl (fun K hK=>?_) rfl;rw[if_pos (by rfl)];refine f9 ib (.tmp 77) (.tmp 81) (by rfl) b5 (jW y) cA cy (fun h=>by subst h;exact Sl.none_ bk) (by rfl) (by rfl) ad ad (by rw[cd];exact e1.size) ?_;intro A2 bZ cv b4 aF dS c1;refine hK _ _ (aF.mono fun b O=>ad) ?_;clear hK K
    try simp only[PU]
    refine ak ?_;refine dU ?_;have e2:Ext aQ cv:=Fr.low (M:=fun b=>aQ.heap.size≤b) ((e1.mono fun _ h=>h.elim).trans (aF.mono fun b O=>ad)) fun _ h=>h;have F:Ext aQ (cv.alloc (.cells #[.string nm,.int .i64 4,.int .i64 L] 149))∧Gr (fun _=>False) aO 149 3 (cv.alloc (.cells #[.string nm,.int .i64 4,.int .i64 L] 149)) A2 av bZ (y.map bN)∧
      ag (cv.alloc (.cells #[.string nm,.int .i64 4,.int .i64 L] 149)) cv.heap.size 149 #[.string nm,.int .i64 4,.int .i64 L]:=⟨e2.alloc _,b4.al (GN.alloc _),GO⟩
    clear b4 b5 aF dS e1 e2 cy;revert F;generalize cv.heap.size=a9;generalize aQ.heap.size=cb;intro F;exact key cb a9 A2 bZ _ F
   ·
    refine dU ?_;generalize hV:World.alloc _ _=cH;have e2:Ext T cH:=hV▸GN.alloc _;have r:ag cH T.heap.size 149 #[.string nm,.int .i64 4,.int .i64 L]:=hV▸GO;have bF:=jC (bk.on (Fr.ext (e1.trans e2)));clear hV cy;have cq:aQ.heap.size<T.heap.size:=(b5.lt (g:=aQ.heap.size) rfl).2;refine ak ?_;refine az rfl (fun K hK=>?_) rfl;rw[if_pos (by rfl)];refine f9 ib (.tmp 77) (.tmp 81) (by rfl) (b5.al e2) (jW y) cA bF (fun h=>by subst h;exact Sl.none_ bk) (by rfl) (by rfl) ad ad (by rw[cd];exact(e1.trans e2).size) ?_;intro A2 bZ cv b4 aF dS c1;refine hK _ _ (aF.mono fun b O=>ad) ?_;clear hK K
    try simp only[PU]
    have e3:Ext aQ cv:=Fr.low (M:=fun b=>aQ.heap.size≤b) (((e1.trans e2).mono fun _ h=>h.elim).trans (aF.mono fun b O=>ad)) fun _ h=>h;have F:Ext aQ cv∧Gr (fun _=>False) aO 149 3 cv A2 av bZ (y.map bN)∧ag cv T.heap.size 149 #[.string nm,.int .i64 4,.int .i64 L]:=⟨e3,b4,r.on aF ad⟩
    clear b4 b5 aF dS e1 e2 e3 bF r cq;revert F;generalize T.heap.size=a9;generalize aQ.heap.size=cb;intro F;exact key cb a9 A2 bZ _ F
  ·
   refine ja ?_;generalize hV:World.drew (World.alloc _ _)=T;have e1:Ext aQ T:=hV▸(GN.alloc _).drew;have r:ag T aQ.heap.size 149 #[.string nm,.int .i64 4,.int .i64 L]:=hV▸GO;clear hV;refine ak ?_;refine dU ?_;generalize hV:World.alloc _ _=cH;have e2:Ext T cH:=hV▸GN.alloc _;have b5:Gr (fun _=>False) T.heap.size 149 3 cH (some ⟨T.heap.size,0,none⟩) 0 0 []:=hV▸Gr.lit (w:=T) (n:=0) (l:=[]) rfl (by rfl) ad (by simp only[D.aL]);have cc:=r.al e2;have bF:=jC (bk.on (Fr.ext (e1.trans e2)));have cq:aQ.heap.size<T.heap.size:=r.lt;clear hV r;refine ak ?_;refine az rfl (fun K hK=>?_) rfl;rw[if_pos (by rfl)];refine f9 ib (.tmp 77) (.tmp 81) (by rfl) b5 (jW y) cA bF (fun h=>by subst h;exact Sl.none_ bk) (by rfl) (by rfl) ad ad e2.size ?_;intro A2 bZ cv b4 aF dS c1;refine hK _ _ (aF.mono fun b O=>ad) ?_;clear hK K
   try simp only[PU]
   have e3:Ext aQ cv:=Fr.low (M:=fun b=>aQ.heap.size≤b) (((e1.trans e2).mono fun _ h=>h.elim).trans (aF.mono fun b O=>ad)) fun _ h=>h;have F:Ext aQ cv∧Gr (fun _=>False) aO 149 3 cv A2 av bZ (y.map bN)∧ag cv aQ.heap.size 149 #[.string nm,.int .i64 4,.int .i64 L]:=⟨e3,b4.base ad,cc.on aF ad⟩
   clear b4 b5 aF dS e1 e2 e3 bF cc;revert F;generalize T.heap.size=cb;generalize aQ.heap.size=a9;intro F;exact key cb a9 A2 bZ _ F
 case gg=>
  rintro cb a9 A2 bZ ds ⟨ch,cP,r⟩;have cY:=ch.size;have di:=c4.al ch;obtain⟨dG,d7,dX,dH,eu,eg,dF,dR,dN,bm,_⟩:=di.blk;clear a7 am aE di;refine ak ?_;refine aY rfl (fun K hK=>?_) rfl;rw[if_pos (by rfl)];refine d8 ib (.tmp 82) (.tmp 90) (by rfl) cP r (iV ⟨nm,4,L⟩) (by rfl) (by rfl) (by rfl) ad ad ad ?_;intro dv cz fg cU cB dk du;have bT:Ext aQ fg:=Fr.low (M:=fun b=>aQ.heap.size≤b) ((ch.mono fun _ h=>h.elim).trans (cB.mono fun b O=>by have:=(cP.lt O).1;omega)) fun _ h=>h;have aX:=bm.on cB (fun O=>by have:=(cP.lt O).1;omega);have bK:=ai cU bT;clear cU cB dk cP r bm ch bT cY;obtain⟨a7,am,aE⟩:=aX.two;refine hK _ _ ?_;clear hK K
  try simp only[PU]
  iterate 2 refine tf ?_
  refine ak ?_;refine aY rfl (fun K hK=>?_) rfl;go_simp;refine hK _ _ ?_;clear hK K
  try simp only[PU]
  refine bU ?_;generalize dw:World.setCell _ _ _=eE;have da:=c4.al bK.2;have dC:=bK.2.size;obtain⟨cI,cR⟩:=da.AS (y:=y++[⟨nm,4,L⟩]) ad (by
   rw[Gi];refine bK.1.sl (fun b _ h=>h.elim) fun b ac J=>⟨ac,fun hm=>?_⟩
   rcases hm with hm|hm|hm
   ·omega
   ·have:=(c4.rows.one.lt hm).2;omega
   ·have:=(c4.rows.two.lt hm).2;omega) dw
  have dx:=ae cI;have dl:=ae (aw.trans ((Mv.gP bK.2).trans cR));obtain⟨eH,d9,dY,MW,ev,ei,ew,dT,dO,bD,_⟩:=cI.blk;clear a7 am aE aX dw da cI cR bk;obtain⟨a7,am,aE⟩:=bD.two;clear bD;go_upto_region 3 with(fail);generalize cV:World.setCell _ _ _=dI;have hw:wrap64 (L+1)=L+1:=IntWalk.wrap64_in _ (by have h0:=bf.2.2.2.1.n0;have ac:=bf.2.2.2.2.2.2.2.1;omega);rw[hw] at cV;obtain⟨c5,c7⟩:=dx.locals cV;have b9:=ai c5 (dl.trans c7);clear cV c5 c7 a7 am aE;exact ny
 ):p:=h
theorem sF(h:p:=by
 exact key X.heap.size aH ⟨aI,cw,Gb _⟩
 ):p:=h
theorem sq(h:p:=by
 have S:Ext X V:=hV▸(Fr.aE ar).alloc _;exact zW
 ):p:=h
theorem xm(h:p:=by
 refine iL (P:=?ep) (ops:=?ez) (Q:=?eA) (R:=?eB) (tails:=?eC) (rest:=.pick [11] (fun _=>.free 12 (.stop))) (aa:=?eq) (C:=fun cG V=>Ext X V∧ag V cG 149 #[.string ⟨#[]⟩,.int .i64 0,.int .i64 0]∧X.heap.size≤cG) (fun key=>?dD) ?dB
 case dD=>
  refine aR ?_ ?_
  ·
   refine aY rfl (fun K hK=>?_) rfl;go_simp;refine(c8 bn av cr y nm X.drew (bg.on (Fr.ext GN.drew)) bJ).mono ?_;rintro e aH ⟨rfl,ar⟩;rw[ay];simp only[gM];exact so
  ·
   refine dU ?_;refine ak ?_;refine aY rfl (fun K hK=>?_) rfl;go_simp;generalize hV:World.alloc _ _=V;have aT:ag V X.heap.size 149 #[.string ⟨#[]⟩,.int .i64 0,.int .i64 0]:=hV▸GO;have S:Ext X V:=hV▸GN.alloc _;clear hV;refine(c8 bn av cr y nm V.drew (bg.on (Fr.ext S.drew)) bJ).mono ?_;rintro e aH ⟨rfl,ar⟩;rw[ay];simp only[gM];exact sE
 case dB=>
  rintro cG V ⟨S,bP,a3⟩;obtain⟨c0,bw,a2⟩:=bP.two;clear a0 al af a7 am aE;exact gy
 ):p:=h
theorem h9(h:p:=by
 have aG:ag X wr.heap.size 175 #[.int .i64 1,.string nm,.int .i64 eo,.int .i64 en,.string es,.slice EA em ec,.string rs,.slice bH bC rc,.slice cC n1 c1,.slice A2 bl c2,.slice cl cn c3]:=bz;clear bz;have cm:=ae aG;obtain⟨a0,al,af⟩:=aG.two;clear aG;have ct:=(show nm∉aM∧ex.src ab 2 by have:=bf.2.2.1;cases d<;>exact⟨this.2.1,this.2.2.1⟩)
 have ay:dh y nm=none:=iW fun j x ba hx=>ct.1 (hx▸bf.2.2.2.1.taken x (Ge ba));have aC:=bf.2.2.2.1.fx 2 ex ct.2;have bQ:(a4 ex).rep X (au X) [.int .i64 eo,.int .i64 en,.string es,.slice EA em ec]:=D.aP (fun _ h=>h.1) _ _ (D.ch (d:=a4 ex) aZ.expr cK.o);obtain⟨bJ,b7⟩:=z.names;have bg:=b7.mono (fun b (O:off _ X b)=>(show au X b from O.1));have aU:=aK bQ bg aC;have cA:(y.map bN).length=av:=bg.1;clear bQ b7;go_upto_region 9 with(fail);exact xl
 ):p:=h
theorem h2(h:p:=by
 exact h8
 ):p:=h
theorem h7(h:p:=by
 exact h1
 ):p:=h
theorem h4(h:p:=by
 have b3:(aj.set true nm ex rest).list=s::b.list.drop (k+1):=aq▸(List.drop_eq_getElem?_toList_append▸(by rw[b8];rfl));exact iU
 ):p:=h
end yT
open yT in
theorem BS(rest:aj)(nm:ByteArray)(ex:VE):BK (aj.set true nm ex rest):=by
 exact h3
namespace yU
theorem sw(h:p:=by
 exact⟨k+1,rest,y,ab,aM,bU,W+1+th.num,et (a2++[ds (o.length:Int)]) o.length ((a2.length+1:Nat):Int),j++[(W:Int)],bn,av,cr,some ⟨aY,0,none⟩,ba,aU,bg,by go_num,ad,bS.symm,az,ad,aJ.2.2,hS.mono a9,bx,by simp only[cd,Gd,Gm];omega,by simp only[cd,Gd,Gm];omega,ad,ad,b9.1,b9.2⟩
 ):p:=h
theorem di(h:p:=by
 generalize N:World.setCell _ _ _=r;clear a7 am aE aF aI aK aO;obtain⟨aa,R⟩:=T.o r (by rw[←N];simp);have P:=(aw.trans R).trans (Mv.gP (Fr.refl _ r).drew);have b9:=ai (aa.al GN.drew) (show Mv g (.slice aV code.length bX) (.slice bI sites.length bq) w (.slice (some ⟨aY,0,none⟩) (et (a2++[ds (o.length:Int)]) o.length ((a2.length+1:Nat):Int)).length ba) (.slice aU (j++[(W:Int)]).length bg) r.drew by rw[cd];exact P);clear aa R P N;exact su
 ):p:=h
theorem w3(h:p:=by
 exact dN
 ):p:=h
theorem si(h:p:=by
 go_wp2_with (fail);refine(fu c9.o (ds (o.length:Int)) (W:Int) (g0 (is:=[]) (ps:=[]) (Sl.bu _) (Sl.bu _) (Gb _) (Gb _)) ad ad).mono ?_;rintro e cy ⟨rfl,cz,ba,aU,bg,bW,cu⟩;have v:Mv g (.slice cV a2.length bF) (.slice cY j.length c7) bJ (.slice cz (a2++[ds (o.length:Int)]).length ba) (.slice aU (j++[(W:Int)]).length bg) cy:=by rw[Gd,Gd];exact cu
 have aw:=ae (df.trans v);clear cu v a0 al af;exact w2
 ):p:=h
theorem sc(h:p:=by
 have az:b2 rest y (b2 th y L (o++[hP (bt y ex) 0])).2 (et ((b2 th y L (o++[hP (bt y ex) 0])).1++[ds (o.length:Int)]) o.length (((b2 th y L (o++[hP (bt y ex) 0])).1.length+1:Nat):Int))=b2 b l n code:=bf.1;exact sf
 ):p:=h
theorem h9(h:p:=by
 have aG:ag X wr.heap.size 175 #[.int .i64 8,.string ⟨#[]⟩,.int .i64 eo,.int .i64 en,.string es,.slice EA em ec,.string rs,.slice bH bC rc,.slice cC n1 c1,.slice A2 bl c2,.slice cl cn c3]:=bz;exact wM
 ):p:=h
theorem h2(h:p:=by
 exact h8
 ):p:=h
theorem h7(h:p:=by
 exact h1
 ):p:=h
theorem h4(h:p:=by
 have b3:(aj.fj ex th rest).list=s::b.list.drop (k+1):=aq▸(List.drop_eq_getElem?_toList_append▸(by rw[b8];rfl));exact iU
 ):p:=h
end yU
open yU in
theorem D4(rest:aj)(ex:VE)(th:aj):BK (aj.fj ex th rest):=by
 exact h3
namespace yV
theorem sw(h:p:=by
 exact⟨k+1,rest,y,ab,aM,bU,W+1+th.num,et a2 o.length (a2.length:Int),j,bn,av,cr,some ⟨aY,0,none⟩,bF,cY,c7,by go_num,ad,bS.symm,az,ad,aJ.2.2.2,hS.mono a9,bx,by simp only[cd];omega,by simp only[cd];omega,ad,ad,b9.1,b9.2⟩
 ):p:=h
theorem di(h:p:=by
 generalize N:World.setCell _ _ _=r;clear a7 am aE aF aI aK aO;obtain⟨aa,R⟩:=T.o r N;have P:=(df.trans R).trans (Mv.gP (Fr.refl _ r).drew);have b9:=ai (aa.al GN.drew) (show Mv g (.slice aV code.length bX) (.slice bI sites.length bq) w (.slice (some ⟨aY,0,none⟩) (et a2 o.length (a2.length:Int)).length bF) (.slice cY j.length c7) r.drew by rw[cd];exact P);clear aa R P N;have aw:el.num=0:=by cases el<;>simp_all [aj.isNil,aj.num]
 exact su
 ):p:=h
theorem si(h:p:=by
 have v:cn=0:=by have:=aZ.el.1;rw[q1,show ay.el (.ite ex th el)=el from rfl] at this;rw[n7] at J;simp at J;rw[←this,J];rfl
 subst v;have ak:=c9.o;obtain⟨aY,bm,aF,aI,⟨eu,aK⟩,Q⟩:=ak.target (b:=o.length) ad ((a2.length:Int));subst bm;obtain⟨ei,dH,dG,eq,eb,d9,eg,dF,dD,O,_⟩:=c9.blk
 try simp only[Gd,Gm,cd] at O
 have aO:((o.length:Nat):Int)<(a2.length:Int):=ad;have T:=ae Q;have dx:=ae c9.o;clear Q ak;obtain⟨a7,am,aE⟩:=O.two;clear O;go_wp2;refine eh (fun _=>False) [(0,3),(1,3),(2,3),(3,0),(4,3),(5,3),(6,3),(7,3),(8,0),(9,3),(10,3),(11,3),(12,2)] ?_
 iterate 3 refine pf ?_
 refine ph ?_
 iterate 4 refine pf ?_
 refine ph ?_
 iterate 3 refine pf ?_
 exact dN
 ):p:=h
theorem sc(h:p:=by
 have az:b2 rest y (b2 th y L (o++[hP (bt y ex) 0])).2 (et (b2 th y L (o++[hP (bt y ex) 0])).1 o.length ((b2 th y L (o++[hP (bt y ex) 0])).1.length:Int))=b2 b l n code:=by
  rw[←bf.1];rw[b2,if_pos J]
 exact sf
 ):p:=h
theorem h9(h:p:=by
 exact xV
 ):p:=h
theorem h2(h:p:=by
 exact h8
 ):p:=h
theorem h7(h:p:=by
 exact h1
 ):p:=h
theorem h4(h:p:=by
 exact x0
 ):p:=h
end yV
open yV in
theorem BP(rest:aj)(ex:VE)(th el:aj)(J:el.isNil=true):BK (aj.ite ex th el rest):=by
 exact h3
namespace yW
theorem sw(h:p:=by
 exact⟨k+1,rest,y,ab,aM,ev,W+1+th.num+el.num,et co a2.length (co.length:Int),aR,bn,av,cr,some ⟨dB,0,none⟩,dC,dz,ed,by go_num,ad,bS.symm,az,ad,aJ.2.2.2,hS.mono ad,bx,by simp only[cd];omega,by simp only[cd];omega,ad,ad,b9.1,b9.2⟩
 ):p:=h
theorem h6(h:p:=by
 refine aD ?_;generalize cc:World.setCell _ _ _=c0;clear a7 am aE dO dP dT dV;obtain⟨dI,bZ⟩:=cG.o c0 cc;have P:=(dl.trans bZ).trans (Mv.gP (Fr.refl _ c0).drew);have b9:=ai (dI.al GN.drew) (show Mv g (.slice aV code.length bX) (.slice bI sites.length bq) w (.slice (some ⟨dB,0,none⟩) (et co a2.length (co.length:Int)).length dC) (.slice dz aR.length ed) c0.drew by rw[cd];exact P);clear dI bZ P cc;exact su
 ):p:=h
theorem di(h:p:=by
 generalize N:World.setCell _ _ _=r;clear a7 am aE aF aI aK aO;obtain⟨aa,R⟩:=T.o r (by rw[←N];simp);have cq:=b7.ch d1 R;have P:=(aw.trans R).trans (Mv.gP (Fr.refl _ r).drew);have bp:=(dw.trans R).trans (Mv.gP (Fr.refl _ r).drew);have eG:=cq.2;have da:=aa.al (Fr.refl (fun _=>False) r).drew;have aX:=cq.1.al (Fr.refl (fun _=>False) r).drew;have bT:(et (a2++[ds 0]) o.length ((a2.length+1:Nat):Int)).length=a2.length+1:=by rw[cd,Gd];rfl
 have b5:=Sl.ch (l:=cL el) aZ.el bp;have bN:=bf.2.2.1.2.2.1;have ep:=ae P;have ew:=ae bp;have ej:=ae da;have cT:=ae aX;clear aa R cq P bp N da;generalize r.drew=fg at *;obtain⟨a0,al,af⟩:=aX.two;clear aX;have c8:=dQ (U:=U) (nk:=nk) el cH y ab aM bU (et (a2++[ds 0]) o.length ((a2.length+1:Nat):Int)) bN (bf.2.2.2.1.mono a9);go_wp2_with (fail);refine((show kT U nk F el from dt.2) G cH y ab aM bU (W+1+th.num) (et (a2++[ds 0]) o.length ((a2.length+1:Nat):Int)) (j++[(W:Int)]) g B bn av cr (some ⟨aY,0,none⟩) ba aU bg cl cn c3 fg bN (bf.2.2.2.1.mono a9) bf.2.2.2.2.1 eL.o ej.o (by rw[cd];exact b5) (by rw[bT];omega) (by rw[bT];simp only[Gd,Gm];omega) ad ad ad).mono ?_;rintro e gL ⟨rfl,eQ,dC,dz,ed,aR,dk,cI,cR⟩;rw[cd] at cR;generalize b2 el y bU (et (a2++[ds 0]) o.length ((a2.length+1:Nat):Int))=q at *;obtain⟨co,ev⟩:=q;obtain⟨⟨e1,dh,d8,_⟩,cw,ch⟩:=c8;simp only[] at dk cI cR dh cw ch az;have a3:a2.length+1≤co.length∧co.length≤a2.length+1+2*el.num:=by rw[dh];simp only[Gd,bT];omega
 obtain⟨eJ,eK⟩:=a3;have dl:=ae (ep.trans cR);clear dh d8 cR a0 al af b5;have cb:=cI;obtain⟨dB,dK,dO,dP,⟨eV,dT⟩,bw⟩:=cb.target (b:=a2.length) ad ((co.length:Int));subst dK;obtain⟨eS,eC,eB,eU,eP,eO,eR,eA,ez,bi,_⟩:=cI.blk
 try simp only[Gd,Gm,cd] at bi
 have dV:((a2.length:Nat):Int)<(co.length:Int):=ad;have cG:=ae bw;have ey:=ae cI;clear bw cb;obtain⟨a7,am,aE⟩:=bi.two;clear bi;go_wp2;refine eh (fun _=>False) [(0,3),(1,3),(2,3),(3,0),(4,3),(5,3),(6,3),(7,3),(8,0),(9,3),(10,3),(11,3),(12,2)] ?_
 iterate 3 refine pf ?_
 refine ph ?_
 iterate 4 refine pf ?_
 refine ph ?_
 iterate 3 refine pf ?_
 exact h5
 ):p:=h
theorem w3(h:p:=by
 exact dN
 ):p:=h
theorem si(h:p:=by
 have dW:0<cn:=by have:=aZ.el.1;rw[q1,show ay.el (.ite ex th el)=el from rfl] at this;rw[n7] at J;simp at J;rw[←this];exact Nat.pos_of_ne_zero (by simpa using J)
 have eE:decide ((cn:Int) > 0)=true:=by simpa using dW
 go_wp2_with (fail);refine(fu c9.o (ds 0) (W:Int) (g0 (is:=[]) (ps:=[]) (Sl.bu _) (Sl.bu _) (Gb _) (Gb _)) ad ad).mono ?_;rintro e cy ⟨rfl,cz,ba,aU,bg,bW,cu⟩;have v:Mv g (.slice cV a2.length bF) (.slice cY j.length c7) bJ (.slice cz (a2++[ds 0]).length ba) (.slice aU (j++[(W:Int)]).length bg) cy:=by rw[Gd,Gd];exact cu
 have aw:=ae (df.trans v);have dw:=ae (dv.trans v);obtain⟨b1,d1⟩:=bK.ch d0 v;have b7:=ae b1;clear cu v a0 al af b1;exact w2
 ):p:=h
theorem sc(h:p:=by
 have az:b2 rest y (b2 el y (b2 th y L (o++[hP (bt y ex) 0])).2 (et ((b2 th y L (o++[hP (bt y ex) 0])).1++[ds 0]) o.length (((b2 th y L (o++[hP (bt y ex) 0])).1.length+1:Nat):Int))).2 (et (b2 el y (b2 th y L (o++[hP (bt y ex) 0])).2 (et ((b2 th y L (o++[hP (bt y ex) 0])).1++[ds 0]) o.length (((b2 th y L (o++[hP (bt y ex) 0])).1.length+1:Nat):Int))).1 (b2 th y L (o++[hP (bt y ex) 0])).1.length ((b2 el y (b2 th y L (o++[hP (bt y ex) 0])).2 (et ((b2 th y L (o++[hP (bt y ex) 0])).1++[ds 0]) o.length (((b2 th y L (o++[hP (bt y ex) 0])).1.length+1:Nat):Int))).1.length:Int))=b2 b l n code:=by
  rw[←bf.1];rw[b2,if_neg (by rw[J];simp)]
 exact sf
 ):p:=h
theorem h9(h:p:=by
 exact xV
 ):p:=h
theorem h2(h:p:=by
 exact h8
 ):p:=h
theorem h7(h:p:=by
 exact h1
 ):p:=h
theorem h4(h:p:=by
 exact x0
 ):p:=h
end yW
open yW in
theorem BO(rest:aj)(ex:VE)(th el:aj)(J:el.isNil=false):BK (aj.ite ex th el rest):=by
 exact h3
end Go.Proofs.YtjhgbdckgkppnaaGreat

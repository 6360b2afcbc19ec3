/- Part 32 of the proof. No condition of its own. -/
import Derived.Test.YtglbpimocmhojaaGreatQ12
import Derived.Test.YtglbpimocmhojaaGreatQ15
namespace Go.Proofs.YtglbpimocmhojaaGreat
open Go.RowKit Go.Proofs.Tryz
set_option maxRecDepth 1000000
set_option maxHeartbeats 25600000
set_option linter.unusedVariables false
variable{cs:List Value}{P:Nat->Prop}{I:Lp}{f:aJ}{r:eO}
section
variable {U:ho} {G:Env} {l:List dL} {V T:Lq} {n nk:Int}
theorem Sc.fS(hS:Sc U G l V T n nk):∀(d:Nat) (x:VE),x.src V d->fS l x
 | d,.num k,h=>trivial
 | d,.g1 s,h=>by
  have F:s∈V:=by cases d<;>exact h
  obtain⟨e,he,ap⟩:=hS.vars s F
  exact⟨e,he,ap.imp (λh=>h.1) (λh=>h.1)⟩
 | d,.loc _,h=>by cases d<;>exact h.elim
 | d,.iB _,h=>by cases d<;>exact h.elim
 | 0,.un _ _,h=>h.elim
 | 0,.bin _ _ _,h=>h.elim
 | d+1,.un op x,h=>⟨h.1,Sc.fS hS d x h.2⟩
 | d+1,.bin op x y,h=>⟨h.1,Sc.fS hS d x h.2.1,Sc.fS hS d y h.2.2⟩
theorem Sc.ql(hS:Sc U G l V T n nk)(r:eO)(h:rT G V r):ql U.af l r:=by
 rcases h with⟨m,hm,hn,ac,au⟩|⟨hp,an⟩
 .obtain⟨e,he,ap,h0,hu⟩:=hS.Ix m hm;rw[hn] at he;exact⟨e,he,.inr ⟨ap,m,h0,hu,λhs=>by obtain⟨x,hx,ay⟩:=ac hs;exact⟨x,hx,hS.fS 2 x ay⟩,au⟩⟩
 .obtain⟨e,he,ap,_,_⟩:=hS.DZ _ hp;exact⟨e,he,.inl ⟨ap,an⟩⟩
end
def uR(F:List aJ)(G:Env)(l:List dL):Prop:=∀s ps,(s,ps)∈G.funcs->∃(e:dL) (f:aJ),dA l s=some e/\e.kind=3/\0<=e.n/\F[e.n.toNat]?=some f/\f.params=ps
theorem uR.app{F:List aJ}{G:Env}{l:List dL}(h:uR F G l)(x:dL):uR F G (l++[x]):=λs ps hs=>by
 obtain⟨e,f,he,r⟩:=h s ps hs;exact⟨e,f,jz he,r⟩
theorem Du{p:bK}(hp:ot p)(J:f∈p.funcs):uR p.funcs (hR p f) (bo p++dQ f.params 0 0):=by
 intro s ps hs;have bu:((bo p++dQ f.params 0 0).map (·.name)).Nodup:=by
  rw[KK,fP,fM];exact(hp.funcs f J).fresh
 obtain⟨g,a2,co⟩:=Lc.1 hs;injection co with a7 bF;subst a7 bF;obtain⟨i,an⟩:=List.getElem?_of_mem a2;have:=kY bu (KM.2 (.inl (by unfold bo;exact KM.2 (.inr (h7 (·.name) 3 p.funcs 0 i g an)))));refine⟨_,g,this,rfl,by show (0:Int)<=((0+i:Nat):Int);omega,?_,rfl⟩;show p.funcs[(((0+i:Nat):Int)).toNat]?=some g
 rw[KY,KV];exact an
def je(M:List bG)(l:List dL):List (ByteArray×Bool)->List dn->Prop
 | [],[]=>True
 | p::ps,.mx r::a1=>(p.2=true/\ql M l r)/\je M l ps a1
 | p::ps,.ex e::a1=>(p.2=false/\fS l e)/\je M l ps a1
 | _,_=>False
theorem Sc.je{U:ho}{G:Env}{l:List dL}{V T:Lq}{n nk:Int}(hS:Sc U G l V T n nk):∀(ps:List (ByteArray×Bool)) (a1:List dn),iM G V ps a1->je U.af l ps a1
 | [],[],_=>trivial
 | p::ps,.mx r::a1,h=>⟨⟨h.1.1,hS.ql r h.1.2⟩,Sc.je hS ps a1 h.2⟩
 | p::ps,.ex e::a1,h=>⟨⟨h.1.1,hS.fS 2 e h.1.2⟩,Sc.je hS ps a1 h.2⟩
 | [],_::_,h=>h.elim
 | _::_,[],h=>h.elim
theorem lN{M:List bG}{l:List dL}:∀{ps:List (ByteArray×Bool)} {a1:List dn},je M l ps a1->ps.length=a1.length
 | [],[],_=>rfl
 | _::ps,.mx _::a1,h=>by simp[lN h.2]
 | _::ps,.ex _::a1,h=>by simp[lN h.2]
 | [],_::_,h=>h.elim
 | _::_,[],h=>h.elim
theorem m5{M:List bG}{l:List dL}:∀{ps:List (ByteArray×Bool)} {a1:List dn},je M l ps a1->∀{k:Nat} {q:ByteArray×Bool} {a:dn},ps[k]?=some q->a1[k]?=some a->
  (∃r,a=.mx r/\q.2=true/\ql M l r)\/(∃e,a=.ex e/\q.2=false/\fS l e)
 | [],[],_,k,q,a,h,_=>by simp at h
 | p::ps,.mx r::a1,h,0,q,a,ac,au=>by
  simp at ac au;subst ac au
  exact .inl ⟨r,rfl,h.1.1,h.1.2⟩
 | p::ps,.ex e::a1,h,0,q,a,ac,au=>by
  simp at ac au;subst ac au
  exact .inr ⟨e,rfl,h.1.1,h.1.2⟩
 | p::ps,.mx r::a1,h,k+1,q,a,ac,au=>m5 h.2 (by simpa using ac) (by simpa using au)
 | p::ps,.ex e::a1,h,k+1,q,a,ac,au=>m5 h.2 (by simpa using ac) (by simpa using au)
 | [],_::_,h,_,_,_,_,_=>h.elim
 | _::_,[],h,_,_,_,_,_=>h.elim
theorem hY(l:List dL)(a1:List dn)(a:dn):bS l (a1++[a])=bS l a1++bS l [a]/\cB l (a1++[a])=cB l a1++cB l [a]:=by
 induction a1 with
 | nil=>exact⟨rfl,rfl⟩
 | cons x a1 ao=>cases x<;>simp[bS,cB,ao.1,ao.2]
structure yX(w:World)(g:Nat)(F:List aJ):Prop where
 lt:g<w.heap.size
 ex:∃A n c,n<=1000000/\w.cell? ⟨g,2,none⟩=some (.slice A n c)/\Sl w (av w) A n (F.map dr)
theorem yX.on{w ab:World}{g:Nat}{F:List aJ}(h:yX w g F)(O:Ext w ab):yX ab g F:=by
 exact CZ
theorem kR{w:World}:(dr f).rep w P cs↔∃A n c B m k,cs=[.string f.name,.slice A n c,.slice B m k]/\n<=c/\m<=k/\Sl w P A n (f.params.map ds)/\Sl w P B m (c4 f.body):=by
 unfold dr;rw[bI,cp];constructor
 .rintro⟨y,rfl,h⟩;obtain⟨A,n,c,cy,rfl,hc,hs,h⟩:=aN.1 h;obtain⟨B,m,k,cd,rfl,ap,O,h⟩:=aN.1 h;rw[aP] at h;subst h;exact⟨A,n,c,B,m,k,rfl,hc,ap,hs,O⟩
 .rintro⟨A,n,c,B,m,k,rfl,hc,ap,hs,O⟩;exact⟨_,rfl,aN.2 ⟨A,n,c,_,rfl,hc,hs,aN.2 ⟨B,m,k,[],rfl,ap,O,aP.2 rfl⟩⟩⟩
theorem nc(f:aJ):(dr f).sz=3:=rfl
theorem rm(q:ByteArray×Bool):(ds q).sz=2:=rfl
theorem nO{w:World}{q:ByteArray×Bool}:(ds q).rep w P cs↔cs=[.string q.1,.bool q.2]:=by
 unfold ds;rw[bI,cp];constructor
 .rintro⟨y,rfl,h⟩;obtain⟨cd,rfl,au⟩:=fp.1 h;rw[aP] at au;subst au;rfl
 .rintro rfl;exact⟨_,rfl,fp.2 ⟨_,rfl,aP.2 rfl⟩⟩
theorem G8:ch prog 56 55 (.agg #[.bool false,.int .i64 0,.slice none 0 0]) 3 40:=ch.mk' Tryz.underlying56 (by kernel_rfl) rfl ad
abbrev fv(op t:Int)(g:Bool)(IA:Lp)(i ic:Nat)(S:Lp)(k lc:Nat):Array Value:=
 #[.int .i64 op,.int .i64 t,.bool g,.int .i64 0,.int .i64 0,.string ⟨#[]⟩,.slice none 0 0,.bool false,.int .i64 0,.slice none 0 0,.slice IA i ic,.slice S k lc]
theorem Dm{w:World}(h:(gI (.mx r)).rep w P cs):∃s A n c A2 c2,cs=[.bool true,.string s,.slice A n c,.int .i64 0,.int .i64 0,.string ⟨#[]⟩,.slice A2 0 c2]/\(kx r).rep w P [.string s,.slice A n c]:=by
 exact Gm
namespace Bl
theorem vm{p:Prop}(h:p:=by
 obtain⟨A,n,c,bF,rfl,_,_,bt⟩:=aN.1 hx;rw[aP] at bt;subst bt;rw[D.bj] at bb;obtain⟨A2,bi,c2,rfl,_,_⟩:=a1.1 bb;exact⟨_,_,_,_,_,_,_,_,_,rfl,bb⟩
 ):p:=h
end Bl
open Bl in
theorem Dk{w:World}{e:VE}(h:(gI (.ex e)).rep w P cs):∃cc bD rc op n s A m c,cs=[.bool false,.string ⟨#[]⟩,.slice cc bD rc,.int .i64 op,.int .i64 n,.string s,.slice A m c]/\(bk e).rep w P [.int .i64 op,.int .i64 n,.string s,.slice A m c]:=by
 exact vl
theorem qp{w:World}{l:List D}(h:D.aQ w P l cs):D.aQ w P (jL::l) (.int .i64 0::.int .i64 0::.string ⟨#[]⟩::.slice none 0 0::cs):=
 dD.2 ⟨[.int .i64 0,.int .i64 0,.string ⟨#[]⟩,.slice none 0 0],cs,rfl,fh.2 ⟨none,0,rfl⟩,h⟩
theorem nZ{w:World}{l:List D}(h:D.aQ w P l cs):D.aQ w P (di j9::l) (.bool false::.int .i64 0::.slice none 0 0::cs):=
 dD.2 ⟨[.bool false,.int .i64 0,.slice none 0 0],cs,rfl,dT.2 ⟨none,0,0,rfl,KD _,Sl.bN _⟩,h⟩
theorem ju{w:World}{op t:Int}{g:Bool}{is:List VE}{ps:List bQ}{IA:Lp}{i ic:Nat}{S:Lp}{k lc:Nat}(ac:Sl w P IA i (is.map bk))(au:Sl w P S k (ps.map di))(c1:i<=ic)(c2:k<=lc):
  (ef ⟨op,t,g,none,j9,is,ps⟩).rep w P (fv op t g IA i ic S k lc).toList:=by
 unfold ef;rw[bI];exact bm.2 ⟨_,rfl,bm.2 ⟨_,rfl,fp.2 ⟨_,rfl,qp (nZ (aN.2 ⟨IA,i,ic,_,rfl,c1,ac,aN.2 ⟨S,k,lc,[],rfl,c2,au,aP.2 rfl⟩⟩))⟩⟩⟩
theorem vt:ch prog 62 58 (.agg (fv 0 0 false none 0 0 none 0 0)) 12 168:=ch.mk' Tryz.underlying62 (by kernel_rfl) rfl ad
structure cI(w:World)(g B:Nat)(M:List bG)(F:List aJ)(l:List dL)(S:Lp)(ln lc:Nat)(n:Int)(st:Nat)(code:List az)(sites:List Int)(bx:Lp)(bK:Nat)(bR:Lp)(bC:Nat):Prop where
 blk:∃GA gn gc MA mn mc FA fn fc,aq w g 186 #[.slice GA gn gc,.slice MA mn mc,.slice FA fn fc,.slice S ln lc,.int .i64 n,.int .i64 st,.int .i64 0,.int .i64 0,.slice bx code.length bK,.slice bR sites.length bC]/\mn<=1000000/\fn<=1000000/\
  Sl w (off (Ms g (.slice bx code.length bK) (.slice bR sites.length bC)) w) MA mn (M.map ey)/\Sl w (off (Ms g (.slice bx code.length bK) (.slice bR sites.length bC)) w) FA fn (F.map dr)
 base:g<B/\B<=w.heap.size
 names:ln<=1000000/\Sl w (off (Ms g (.slice bx code.length bK) (.slice bR sites.length bC)) w) S ln (l.map bY)
 rows:la B 58 12 3 1 w bx code.length bK (code.map ef) bR sites.length bC (sites.map D.i)
section
variable {w ab aS aT bX cL X:World} {g B:Nat} {M:List bG} {F:List aJ} {l:List dL} {S:Lp} {ln lc:Nat} {n:Int} {st:Nat} {code:List az} {sites:List Int} {bx:Lp} {bK:Nat} {bR:Lp} {bC:Nat}
theorem cI.lt(h:cI w g B M F l S ln lc n st code sites bx bK bR bC):g<w.heap.size:=by
 obtain⟨GA,gn,gc,MA,mn,mc,FA,fn,fc,aR,_⟩:=h.blk;exact aR.lt
theorem cI.L(h:cI w g B M F l S ln lc n st code sites bx bK bR bC):tk w g l:=by
 obtain⟨GA,gn,gc,MA,mn,mc,FA,fn,fc,aR,_⟩:=h.blk;exact⟨aR.lt,S,ln,lc,h.names.1,aR.cell 3,h.names.2.mono λb O=>O.1⟩
theorem cI.M_(h:cI w g B M F l S ln lc n st code sites bx bK bR bC):xY w g M:=by
 obtain⟨GA,gn,gc,MA,mn,mc,FA,fn,fc,aR,ac,au,aU,bE⟩:=h.blk;exact⟨aR.lt,MA,mn,mc,ac,aR.cell 1,aU.mono λb O=>O.1⟩
theorem cI.F_(h:cI w g B M F l S ln lc n st code sites bx bK bR bC):yX w g F:=by
 obtain⟨GA,gn,gc,MA,mn,mc,FA,fn,fc,aR,ac,au,aU,bE⟩:=h.blk;exact⟨aR.lt,FA,fn,fc,au,aR.cell 2,bE.mono λb O=>O.1⟩
theorem cI.ai(h:cI w g B M F l S ln lc n st code sites bx bK bR bC)(he:Ext w ab):cI ab g B M F l S ln lc n st code sites bx bK bR bC:=by
 obtain⟨GA,gn,gc,MA,mn,mc,FA,fn,fc,aR,ac,au,aU,bE⟩:=h.blk;exact⟨⟨GA,gn,gc,MA,mn,mc,FA,fn,fc,aR.ai he,ac,au,aU.cO (Mv.g8 he),bE.cO (Mv.g8 he)⟩,⟨h.base.1,KU h.base.2 he.size⟩,⟨h.names.1,h.names.2.cO (Mv.g8 he)⟩,h.rows.ai he⟩
abbrev JG(B g:Nat)(cv sv:Value)(w:World):Nat->Prop:=λb=>B<=b/\off (Ms g cv sv) w b
theorem cI.added(h:cI w g B M F l S ln lc n st code sites bx bK bR bC){x:az}{s:Int}{Y al:Lp}{ag aG:Nat}(e1:Ext w aS)
  (ac:Gr (λb=>B<=b/\(Value.slice bR sites.length bC).ownBlock≠some b) B 58 12 aT Y (code.length+1) ag (code.map ef++[ef x])) (f1:Fr (λb=>(Value.slice bx code.length bK).ownBlock=some b) aS aT) (o1:dq aS bx code.length bK Y (code.length+1) ag)
  (e2:Ext aT bX) (au:Gr (λb=>B<=b/\(Value.slice Y (code.length+1) ag).ownBlock≠some b) B 3 1 cL al (sites.length+1) aG (sites.map D.i++[D.i s])) (f2:Fr (λb=>(Value.slice bR sites.length bC).ownBlock=some b) bX cL) (fg:dq bX bR sites.length bC al (sites.length+1) aG)
  (hX:(cL.setCell ⟨g,8,none⟩ (.slice Y (code.length+1) ag)).setCell ⟨g,9,none⟩ (.slice al (sites.length+1) aG)=X) :
  cI X g B M F l S ln lc n st (code++[x]) (sites++[s]) Y ag al aG/\Mv g (.slice bx code.length bK) (.slice bR sites.length bC) w (.slice Y (code.length+1) ag) (.slice al (sites.length+1) aG) X:=by
 have ak:=h.lt;have b8:=EM hX;have s1:=e1.size;have s2:=f1.size;have T:=e2.size;have hM:Mv g (.slice bx code.length bK) (.slice bR sites.length bC) w (.slice Y (code.length+1) ag) (.slice al (sites.length+1) aG) X:=by
  refine⟨Fr.trans (Fr.mono e1 λ_ h=>h.elim) (Fr.trans (f1.mono λb O=>.inr (.inl O)) (Fr.trans (Fr.mono e2 λ_ h=>h.elim) (Fr.trans (f2.mono λb O=>.inr (.inr O)) (b8.mono λb O=>.inl O)))),λb O hm=>?_⟩;rcases hm with hm|hm|hm
  .exact .inl hm
  .rcases o1 b hm with ac|ac
   .exact .inr (.inl ac)
   .omega
  .rcases fg b hm with ac|ac
   .exact .inr (.inr ac)
   .omega
 refine⟨?_,hM⟩;obtain⟨GA,gn,gc,MA,mn,mc,FA,fn,fc,aR,cv,bO,cV,H⟩:=h.blk;have a:∀b,(Value.slice bx code.length bK).ownBlock=some b->g<b:=λb O=>KE h.base.1 (h.rows.one.lt O).1;have R:∀b,(Value.slice bR sites.length bC).ownBlock=some b->g<b:=λb O=>KE h.base.1 (h.rows.two.lt O).1;have b6:aq cL g _ _:=(((aR.ai e1).on f1 λO=>by have:=a _ O;omega).ai e2).on f2 λO=>by have:=R _ O;omega
 have L:la B 58 12 3 1 bX Y (code.length+1) ag (code.map ef++[ef x]) bR sites.length bC (sites.map D.i):=((h.rows.ai e1).grow ac f1 o1).ai e2;have m:=(L.swap.grow au f2 fg).swap;refine⟨⟨GA,gn,gc,MA,mn,mc,FA,fn,fc,?_,cv,bO,?_,?_⟩,⟨h.base.1,KU h.base.2 hM.fr.size⟩,⟨h.names.1,?_⟩,?_⟩
 .rw[<-hX,KF,KF];exact(b6.aM 8 _).aM 9 _
 .rw[KF,KF];exact cV.cO hM
 .rw[KF,KF];exact H.cO hM
 .rw[KF,KF];exact h.names.2.cO hM
 .rw[KK,KK,KF,KF];exact m.c8 b8 λb O _=>by have:=h.base.1;omega
end
def GU(w:World)(g B:Nat)(M:List bG)(F:List aJ)(l:List dL)(S:Lp)(ln lc:Nat)(n:Int)(st:Nat)(code:List az)(sites:List Int)(bx:Lp)(bK:Nat)(bR:Lp)(bC:Nat)(x:az)(s:Int)(e:Ending)(ab:World):Prop:=
 e=.returned (.int .i64 code.length)/\∃Y ag al aG,cI ab g B M F l S ln lc n st (code++[x]) (sites++[s]) Y ag al aG/\Mv g (.slice bx code.length bK) (.slice bR sites.length bC) w (.slice Y (code.length+1) ag) (.slice al (sites.length+1) aG) ab
theorem g3{w:World}{g B:Nat}{M:List bG}{F:List aJ}{l:List dL}{S:Lp}{ln lc:Nat}{n:Int}{st:Nat}{code:List az}{sites:List Int}{bx:Lp}{bK:Nat}{bR:Lp}{bC:Nat}(h:cI w g B M F l S ln lc n st code sites bx bK bR bC)
  (x:az) (s:Int) {op t:Int} {gl:Bool} {eo en:Int} {es:ByteArray} {EA:Lp} {em ec:Nat} {pb:Bool} {pi:Int} {PA:Lp} {pm pc:Nat} {IA:Lp} {i ic:Nat} {KA:Lp} {k kc:Nat}
  (hx:(ef x).rep w (JG B g (.slice bx code.length bK) (.slice bR sites.length bC) w) [.int .i64 op,.int .i64 t,.bool gl,.int .i64 eo,.int .i64 en,.string es,.slice EA em ec,.bool pb,.int .i64 pi,.slice PA pm pc,.slice IA i ic,.slice KA k kc])
  (ac:code.length<=100000) (au:sites.length<=100000) :
  Calls prog 105 #[.pointer (some ⟨g,0,none⟩),.agg #[.int .i64 op,.int .i64 t,.bool gl,.int .i64 eo,.int .i64 en,.string es,.slice EA em ec,.bool pb,.int .i64 pi,.slice PA pm pc,.slice IA i ic,.slice KA k kc],.int .i64 s] w
   (GU w g B M F l S ln lc n st code sites bx bK bR bC x s):=by
 obtain⟨H,aQ⟩:=aH h hx;obtain⟨GA,gn,gc,MA,mn,mc,FA,fn,fc,aR,_⟩:=h.blk;have b1:=ae aR;clear h hx aR;go_enter func105,ntmps105;go_upto_region 1 with(fail);generalize ba:World.alloc _ _=W;have aw:=aX ba;have bF:=aK ba;clear ba;obtain⟨bq,dX⟩:=aH aw bF;obtain⟨a0,ai,af⟩:=bF.two;obtain⟨a8,am,aF⟩:=(b1.ai aw).two;have d2:=b1.lt;have m0:=aw.size;have dn:=H.base.1;have m:=H.base.2;clear aw bF;have a9:¬(Value.slice bx code.length bK).ownBlock=some g:=λO=>by have:=(H.rows.one.lt O).1;omega
 have ap:¬(Value.slice bx code.length bK).ownBlock=some w.heap.size:=λO=>by have:=(H.rows.one.lt O).2;omega
 have a2:∀b,(Value.slice bx code.length bK).ownBlock=some b->b<W.heap.size:=λb O=>by have:=(H.rows.one.lt O).2;omega
 have y:∀b,(Value.slice bR sites.length bC).ownBlock=some b->b<W.heap.size:=λb O=>by have:=(H.rows.two.lt O).2;omega
 have u:(ef x).rep W (lu (λb=>B<=b/\(Value.slice bR sites.length bC).ownBlock≠some b) W (.slice bx code.length bK)) _:=
  D.aL (λb O=>⟨⟨O.1,λhc=>O.2.2 (.inr (.inr hc))⟩,KE O.2.1 m0,λhc=>O.2.2 (.inr (.inl hc))⟩) _ _ (D.aS (λb O=>bq.block b O.2.1 λh=>h) _ _ aQ.o)
 have o:=H.rows.ai bq.o;obtain⟨j,aO⟩:=aH u o;clear u o;refine qY (λb=>(Value.slice bx code.length bK).ownBlock=some b) [15,18,21] (.free 0 (.free 1 (.free 2 (.free 3 (.free 4 (.held 5 (.held 6 (.free 9 (.free 10 (.free 11 (.held 12 (.free 13 (.pick [7,14] (λi=>bif i == 7 then .pick [8,14] (λi=>bif i == 8 then .pick [14] (λ_=>.pick [15] (λ_=>.free 16 (.free 17 (.pick [18] (λ_=>.free 19 (.free 20 (.pick [21] (λ_=>.stop)))))))) else .pick [8] (λ_=>.pick [15] (λ_=>.free 16 (.free 17 (.pick [18] (λ_=>.free 19 (.free 20 (.pick [21] (λ_=>.stop))))))))) else .pick [7] (λ_=>.pick [8] (λ_=>.pick [15] (λ_=>.free 16 (.free 17 (.pick [18] (λ_=>.free 19 (.free 20 (.pick [21] (λ_=>.stop))))))))))))))))))))))) ?_
 iterate 5 refine tf ?_
 iterate 2 refine mU ?_
 iterate 3 refine tf ?_
 refine mU ?_;refine tf ?_;refine iL (P:=?P1) (ops:=?o1) (Q:=?q1) (R:=?r1) (tails:=?t1) (rest:=.pick [15] (λ_=>.free 16 (.free 17 (.pick [18] (λ_=>.free 19 (.free 20 (.pick [21] (λ_=>.stop)))))))) (aa:=?Kn)
  (C:=λ(_:Nat) b2 A2 c2 V=>True/\∃aS aT,Ext W aS/\Gr (λb=>B<=b/\(Value.slice bR sites.length bC).ownBlock≠some b) B 58 12 aT A2 (code.length+1) c2 (code.map ef++[ef x])/\Fr (λb=>(Value.slice bx code.length bK).ownBlock=some b) aS aT/\dq aS bx code.length bK A2 (code.length+1) c2/\Ext aT V/\aq V b2 3 #[.int .i64 s]) (λkey=>?Im) ?Jb
 case Im=>
  refine aY ?_ ?_
  ·
   refine dP ?_;generalize hV:World.drew (World.alloc _ _)=cC;have e1:=gG hV;have b0:aq cC W.heap.size 58 #[.int .i64 op,.int .i64 t,.bool gl,.int .i64 eo,.int .i64 en,.string es,.slice EA em ec,.bool pb,.int .i64 pi,.slice PA pm pc,.slice IA i ic,.slice KA k kc]:=hV▸Lm;clear hV;refine aY ?_ ?_
   ·
    refine aB rfl (λK hK=>?_) rfl;rw[if_pos (by rfl)];refine e5 vt (.tmp 12) (.tmp 14) (by rfl) (aO.ai e1).one b0 (vO j.o e1) (by rfl) (by rfl) (by rfl) ad ad (aC e1.size) ?_;intro Y ag aT ca f1 o1 c1;refine dz hK (f1) ?_;clear hK K;refine ao ?_;refine dP ?_;have F:True/\∃aS f,Ext W aS/\Gr (λb=>B<=b/\(Value.slice bR sites.length bC).ownBlock≠some b) B 58 12 f Y (code.length+1) ag (code.map ef++[ef x])/\Fr (λb=>(Value.slice bx code.length bK).ownBlock=some b) aS f/\dq aS bx code.length bK Y (code.length+1) ag/\Ext f (aT.alloc (.cells #[.int .i64 s] 3))/\aq (aT.alloc (.cells #[.int .i64 s] 3)) (aT.heap.size) 3 #[.int .i64 s]:=
     ⟨trivial,cC,aT,e1,ca,f1,o1,Ll.alloc _,Lm⟩
    clear ca o1;revert F;generalize aT.heap.size=b2;generalize W.heap.size=eX;intro F;exact key eX b2 Y ag _ F
   ·
    refine dP ?_;generalize hV:World.alloc _ _=Z;have cd:aq Z cC.heap.size 3 #[.int .i64 s]:=hV▸Lm;have aU:=by have:=b0.alloc (.cells #[.int .i64 s] 3);rw[hV] at this;exact this
    have e2:Ext W Z:=hV▸e1.alloc _;clear hV b0;refine ao ?_;refine aB rfl (λK hK=>?_) rfl;rw[if_pos (by rfl)];refine e5 vt (.tmp 12) (.tmp 14) (by rfl) (aO.ai e2).one aU (vO j.o e2) (by rfl) (by rfl) (by rfl) ad ad (aC e2.size) ?_;intro Y ag aT ca f1 o1 c1;refine dz hK (f1) ?_;clear hK K;have be:¬(Value.slice bx code.length bK).ownBlock=some cC.heap.size:=λO=>by have:=a2 _ O;have:=e1.size;omega
    have F:True/\∃aS f,Ext W aS/\Gr (λb=>B<=b/\(Value.slice bR sites.length bC).ownBlock≠some b) B 58 12 f Y (code.length+1) ag (code.map ef++[ef x])/\Fr (λb=>(Value.slice bx code.length bK).ownBlock=some b) aS f/\dq aS bx code.length bK Y (code.length+1) ag/\Ext f aT/\aq aT (cC.heap.size) 3 #[.int .i64 s]:=
     ⟨trivial,Z,aT,e2,ca,f1,o1,Ll,cd.on f1 be⟩
    clear ca o1;revert F;generalize cC.heap.size=b2;generalize W.heap.size=eX;intro F;exact key eX b2 Y ag _ F
  ·
   refine dP ?_;generalize hV:World.drew (World.alloc _ _)=cC;have cd:aq cC W.heap.size 3 #[.int .i64 s]:=hV▸Lm;have e1:=gG hV;clear hV;refine ao ?_;refine dP ?_;generalize hV:World.alloc _ _=Z;have e2:Ext W Z:=hV▸e1.alloc _;have b0:=aK hV;have a5:aq Z W.heap.size 3 #[.int .i64 s]:=hV▸cd.alloc _;clear hV;refine ao ?_;refine aB rfl (λK hK=>?_) rfl;rw[if_pos (by rfl)];refine e5 vt (.tmp 12) (.tmp 14) (by rfl) (aO.ai e2).one b0 (vO j.o e2) (by rfl) (by rfl) (by rfl) ad ad (aC e2.size) ?_;intro Y ag aT ca f1 o1 c1;refine dz hK (f1) ?_;clear hK K;have be:¬(Value.slice bx code.length bK).ownBlock=some W.heap.size:=λO=>by have:=a2 _ O;omega
   have F:True/\∃aS f,Ext W aS/\Gr (λb=>B<=b/\(Value.slice bR sites.length bC).ownBlock≠some b) B 58 12 f Y (code.length+1) ag (code.map ef++[ef x])/\Fr (λb=>(Value.slice bx code.length bK).ownBlock=some b) aS f/\dq aS bx code.length bK Y (code.length+1) ag/\Ext f aT/\aq aT (W.heap.size) 3 #[.int .i64 s]:=
    ⟨trivial,Z,aT,e2,ca,f1,o1,Ll,a5.on f1 be⟩
   clear ca o1;revert F;generalize W.heap.size=b2;generalize cC.heap.size=eX;intro F;exact key eX b2 Y ag _ F
 case Jb=>
  rintro eX b2 Y ag V ⟨v,aS,aT,e1,ca,f1,o1,e2,cd⟩;have s1:=e1.size;have s2:=f1.size;have T:=e2.size;have hG:la B 58 12 3 1 V Y (code.length+1) ag (code.map ef++[ef x]) bR sites.length bC (sites.map D.i):=((aO.ai e1).grow ca f1 o1).ai e2;have b7:aq V g _ _:=(((b1.ai bq.o).ai e1).on f1 a9).ai e2;have r:¬(Value.slice bR sites.length bC).ownBlock=some g:=λO=>by have:=(H.rows.two.lt O).1;omega
  clear a0 ai af a8 am aF;refine ao ?_;refine bM rfl (λK hK=>?_) rfl;rw[if_pos (by rfl)];refine e5 de (.tmp 19) (.tmp 21) (by rfl) hG.two cd (show (D.i s).rep V _ _ from by simp only[D.rep]) (by rfl) (by rfl) (by rfl) ad ad ad ?_;intro al aG cL g2 f2 fg c2;have b4:=aD g2 f2 fg;have b6:=b7.on f2 r;have dh:=cK e1 ca f1 o1 e2;clear g2 f2 fg b7 cd e1 ca f1 o1 e2 hG;obtain⟨a8,am,aF⟩:=b6.two;refine dO hK ?_;clear hK K
  iterate 2 refine tf ?_
  refine ao ?_;refine bM rfl (λK hK=>?_) rfl;go_simp;refine dO hK ?_;clear hK K
  iterate 2 refine tf ?_
  refine ao ?_;refine bM rfl (λK hK=>?_) rfl;go_simp;refine dO hK ?_;clear hK K;refine b3 ?_;generalize hX:World.setCell _ _ _=X;obtain⟨e1,ca,f1,o1,e2⟩:=dh.o;obtain⟨hS,hM⟩:=cI.added H.o (bq.trans e1) ca f1 o1 e2 b4.1 b4.2.1 b4.2.2 hX;have bo:=ah hS hM;obtain⟨aZ,cr,bc,ev,go,eC,cR,fZ,co,bz,_⟩:=hS.blk;clear hX a8 am aF b6 hS hM e1 ca f1 o1 e2;obtain⟨a8,am,aF⟩:=bz.two;go_wp2;go_ret;refine⟨ret_int ?_,Y,ag,al,aG,?_⟩
  .simp
  .exact bo.o
def ED(w:World)(x:az)(e:Ending)(ab:World):Prop:=
 ∃(IA:Lp) (i ic:Nat) (S:Lp) (k lc:Nat),e=.returned (.agg (fv x.op x.target x.dg IA i ic S k lc))/\(ef x).rep ab (fresh w ab) (fv x.op x.target x.dg IA i ic S k lc).toList/\Ext w ab
structure kn(w wr:World)(l:List dL)(op ag:Int)(an:Array Value)(a1:List dn)(k:Nat)(IA:Lp)(i ic:Nat)(S:Lp)(j lc:Nat):Prop where
 ext:Ext w wr
 b4:aq wr w.heap.size 174 an
 b6:aq wr (w.heap.size+1) 58 (fv 0 0 false none 0 0 none 0 0)
 b7:aq wr (w.heap.size+2) 58 (fv op ag false IA i ic S j lc)
 g2:la (w.heap.size+3) 53 4 55 3 wr IA i ic ((bS l (a1.take k)).map bk) S j lc ((cB l (a1.take k)).map di)
section
variable {w wr aS aT X:World} {l:List dL} {op ag:Int} {an:Array Value} {a1:List dn} {k:Nat} {IA:Lp} {i ic:Nat} {S:Lp} {j lc:Nat}
theorem nQ{own:Nat->Prop}{g:Nat}(h:Ext w wr)(he:Ext wr aS)(J:Fr own aS aT)(aB:∀b,own b->w.heap.size<=b)(a2:w.heap.size<=g)(hX:Fr (λb=>b=g) aT X):Ext w X:=by
 have e1:Fr (λb=>w.heap.size<=b) w X:=Fr.trans (Fr.mono h λ_ h=>h.elim) (Fr.trans (Fr.mono he λ_ h=>h.elim) (Fr.trans (J.mono aB) (hX.mono λb O=>by subst O;exact a2)));exact e1.low λ_ h=>h
theorem kn.place(h:kn w wr l op ag an a1 k IA i ic S j lc)(he:Ext wr aS)(bx:a1[k]?=some (.mx r)){de:Lp}{dh:Nat}
  (a2:Gr (λb=>w.heap.size+3<=b/\(Value.slice IA i ic).ownBlock≠some b) (w.heap.size+3) 55 3 aT de (j+1) dh ((cB l (a1.take k)).map di++[di (l6 l r)]))
  (J:Fr (λb=>(Value.slice S j lc).ownBlock=some b) aS aT) (bn:dq aS S j lc de (j+1) dh) (hX:aT.setCell ⟨w.heap.size+2,11,none⟩ (.slice de (j+1) dh)=X) :
  kn w X l op ag an a1 (k+1) IA i ic de (j+1) dh:=by
 have b8:=cJ hX;have ak:∀b,(Value.slice S j lc).ownBlock=some b->w.heap.size+3<=b:=λb O=>(h.g2.two.lt O).1;refine⟨nQ h.ext he J (λb O=>by have:=ak b O;omega) ad b8,?_,?_,?_,?_⟩
 .exact((h.b4.ai he).on J λO=>by have:=ak _ O;omega).on b8 ad
 .exact((h.b6.ai he).on J λO=>by have:=ak _ O;omega).on b8 ad
 .rw[<-hX];exact((h.b7.ai he).on J λO=>by have:=ak _ O;omega).aM 11 _
 .have e1:bS l (a1.take (k+1))=bS l (a1.take k):=by rw[aZ bx,(hY l _ _).1];simp[bS]
  have e2:(cB l (a1.take (k+1))).map di=(cB l (a1.take k)).map di++[di (l6 l r)]:=by rw[aZ bx,(hY l _ _).2];simp[cB]
  rw[e1,e2];exact(((h.g2.ai he).swap.grow a2 J bn).swap).c8 b8 λb O _=>ad
theorem kn.int(h:kn w wr l op ag an a1 k IA i ic S j lc)(he:Ext wr aS){x:VE}(bx:a1[k]?=some (.ex x)){c4:Nat}
  (a2:Gr (λb=>w.heap.size+3<=b/\(Value.slice S j lc).ownBlock≠some b) (w.heap.size+3) 53 4 aT I (i+1) c4 ((bS l (a1.take k)).map bk++[bk (bJ l x)]))
  (J:Fr (λb=>(Value.slice IA i ic).ownBlock=some b) aS aT) (bn:dq aS IA i ic I (i+1) c4) (hX:aT.setCell ⟨w.heap.size+2,10,none⟩ (.slice I (i+1) c4)=X) :
  kn w X l op ag an a1 (k+1) I (i+1) c4 S j lc:=by
 have b8:=cJ hX;have ak:∀b,(Value.slice IA i ic).ownBlock=some b->w.heap.size+3<=b:=λb O=>(h.g2.one.lt O).1;refine⟨nQ h.ext he J (λb O=>by have:=ak b O;omega) ad b8,?_,?_,?_,?_⟩
 .exact((h.b4.ai he).on J λO=>by have:=ak _ O;omega).on b8 ad
 .exact((h.b6.ai he).on J λO=>by have:=ak _ O;omega).on b8 ad
 .rw[<-hX];exact((h.b7.ai he).on J λO=>by have:=ak _ O;omega).aM 10 _
 .have e1:cB l (a1.take (k+1))=cB l (a1.take k):=by rw[aZ bx,(hY l _ _).2];simp[cB]
  have e2:(bS l (a1.take (k+1))).map bk=(bS l (a1.take k)).map bk++[bk (bJ l x)]:=by rw[aZ bx,(hY l _ _).1];simp[bS]
  rw[e1,e2];exact((h.g2.ai he).grow a2 J bn).c8 b8 λb O _=>ad
end
theorem tK{V aS:World}{d:D}{B:Nat}{A:Lp}{n c aP aJ:Nat}(h:d.rep aS (fresh V aS) cs)(aR:B<=V.heap.size)(ac:∀b,(Value.slice A n c).ownBlock=some b->b<V.heap.size)(au:∀b,(Value.slice I aP aJ).ownBlock=some b->b<V.heap.size):
  d.rep aS (lu (λb=>B<=b/\(Value.slice I aP aJ).ownBlock≠some b) aS (.slice A n c)) cs:=
 D.aL (λb O=>⟨⟨KU aR O.1,λhc=>by have:=au b hc;have:=O.1;omega⟩,O.2,λhc=>by have:=ac b hc;have:=O.1;omega⟩) _ _ h
theorem Df(ds:uT)(g:Nat)(l:List dL)(M:List bG)(F:List aJ)(a3:Bool)(s:ByteArray)(a1:List dn)(v:dL)(f:aJ)(J:dA l s=some v)(ap:v.kind=3)(h0:0<=v.n)(hF:F[v.n.toNat]?=some f)(bY:je M l f.params a1)(jy:f.params.length<=1000)
  (eo en:Int) (es:ByteArray) (EA:Lp) (em ec:Nat) (rs:ByteArray) (cc:Lp) (cI rc:Nat) (bU:Lp) (n1 c1:Nat) (A2:Lp) (n2 c2:Nat) (cC:Lp) (n3 c3:Nat) (st:Int)
  (w:World) (bR:tk w g l) (hM:xY w g M) (ca:yX w g F) (hs:Sl w (av w) bU n1 (a1.map gI)) :
  Calls prog 137 #[.pointer (some ⟨g,0,none⟩),.agg #[.int .i64 (if a3 then 4 else 3),.string s,.int .i64 eo,.int .i64 en,.string es,.slice EA em ec,.string rs,.slice cc cI rc,.slice bU n1 c1,.slice A2 n2 c2,.slice cC n3 c3],.int .i64 st] w
   (ED w (lr a3 v.n (bS l a1) (cB l a1))):=by
 have hlen:=lN bY;have cY:a1.length=n1:=by rw[<-hs.1,KH]
 obtain⟨aP,bT,cu,b9,cQ,cy,bo⟩:=CT bY J hF bR hM ca hs;obtain⟨bi,cL,e4⟩:=v;simp only at ap h0 hF;subst ap;obtain⟨ag,rfl⟩:=KI h0;clear hs bR hM ca bY J hF h0;obtain⟨op,cx⟩:∃op:Int,op=if a3 then 3 else 2:=⟨_,rfl⟩
 have hx:lr a3 (ag:Int) (bS l a1) (cB l a1)=⟨op,ag,false,none,j9,bS l a1,cB l a1⟩:=by rw[cx];rfl
 rw[hx];clear hx;obtain⟨bE,aD⟩:∃bE:Int,bE=if a3 then 4 else 3:=⟨_,rfl⟩
 have cV:(bE == 4)=a3:=by rw[aD];cases a3<;>rfl
 rw[<-aD];clear aD;go_enter func137,ntmps137;cases a3
 all_goals
  simp only[if_true,Lj,if_false] at cx;go_upto_region 4 with(fail);generalize ba:World.alloc _ _=W;have aw:=lF ba;have b6:=jo ba;have cD:=ir ba;have a5:aq W (w.heap.size+2) 58 (fv op 0 false none 0 0 none 0 0):=by rw[<-ba,cx];exact aq.gz _ _ _ (by simp)
  clear ba cx;obtain⟨bq,T,bI,fD⟩:=iS aw b6 cD a5;obtain⟨a2,S,ln,lc,dt,cT,y⟩:=b9.on aw;have cf:=ae y;obtain⟨a0,ai,af⟩:=b6.two;clear aw b6 cD a5 y;refine qY (λ_=>False) [6,11] (.free 0 (.free 1 (.free 2 (.held 3 (.free 4 (.held 5 (.pick [6,10] (λi=>bif i == 6 then .free 7 (.free 8 (.free 9 (.pick [10] (λ_=>.pick [11] (λ_=>.free 12 (.stop)))))) else .pick [6] (λ_=>.free 7 (.free 8 (.free 9 (.pick [11] (λ_=>.free 12 (.stop)))))))))))))) ?_
  iterate 3 refine tf ?_
  refine th ?_;refine tf ?_;refine th ?_;refine k9 (P:=?_) (ops:=?_) (Q:=?_) (R:=?_) (tails:=?_) (rest:=.pick [11] (λ_=>.free 12 (.stop))) (aa:=?_) (C:=λc6 V=>Ext W V/\aq V c6 145 #[.string ⟨#[]⟩,.int .i64 0,.int .i64 0]/\W.heap.size<=c6) (λkey=>?_) ?_
  rotate_left 6
  ·
   refine aY ?_ ?_
   ·
    refine bM rfl (λK hK=>?_) rfl;go_simp;refine(dV S ln lc l s W.drew (cf.on (Fr.ext Ll.drew)) dt).mono ?_;rintro e aS ⟨rfl,ar⟩;rw[bT.o];simp only[iU,qT];refine dO hK ?_;clear hK K
    iterate 3 refine tf ?_
    refine ao ?_;refine dP ?_;generalize hV:World.alloc _ _=V;have aR:=aK hV;have bm:Ext W V:=hV▸(Fr.aF ar).alloc _;have hle:=(Fr.aF ar).size;clear hV ar;generalize aS.heap.size=c6 at *;exact key c6 V ⟨bm,aR,hle⟩
   ·
    refine dP ?_;refine ao ?_;refine bM rfl (λK hK=>?_) rfl;go_simp;generalize hV:World.alloc _ _=V;have aR:=aK hV;have bm:=aX hV;clear hV;refine(dV S ln lc l s V.drew (cf.on (Fr.ext bm.drew)) dt).mono ?_;rintro e aS ⟨rfl,ar⟩;rw[bT.o];simp only[iU,qT];refine dO hK ?_;clear hK K
    iterate 3 refine tf ?_
    have cE:=aR.ai (Fr.aF ar);have aN:=bm.trans (Fr.aF ar);clear aR bm ar;exact key W.heap.size aS ⟨aN,cE,KD _⟩
  ·
   rintro c6 V ⟨bm,b7,aj⟩;have cZ:=fD.lt;obtain⟨a8,am,aF⟩:=b7.two;clear a0 ai af cT;refine ao ?_;refine bM rfl (λK hK=>?_) rfl;go_simp;refine dO hK ?_;clear hK K;refine tf ?_;refine b3 ?_;generalize hX:World.setCell _ _ _=X;obtain⟨bz,bp,_⟩:=pI b7 bm aj hX;have a4:=ae (bq.trans bp);have bg:=ae (T.ai bp);have u:=ae (bI.ai bp);have m:=fD.ai bp;have aV:=ae m;clear hX a8 am aF b7 bm bp;obtain⟨a8,am,aF⟩:=bz.two;obtain⟨a0,ai,af⟩:=m.two;clear m;go_upto_region 12 with(fail);generalize ct:World.setCell _ _ _=Y;have H:=u.lt;have bH:=cJ ct;have aQ:aq Y (w.heap.size+2) 58 (fv op ag false none 0 0 none 0 0):=ct▸aV.aM 1 _;have a7:Ext w Y:=(Fr.trans (a4.mono λ_ h=>h.elim) bH).low (λb hm=>ad);have N:=bg.on bH ad;have aC:=u.on bH ad;obtain⟨a9,bu,bb,b2⟩:=iS a7 N aC aQ;have bB:=bz.on bH ad;obtain⟨ck,FA,fn,fc,bw,f3,bW⟩:=cy.o;have ce:F[ag]?=some f:=by have:=cu.o;simpa using this
   have aH:ag<fn:=by have ac:=(List.getElem?_eq_some_iff.1 ce).1;have au:=bW.1;rw[KH] at au;omega
   obtain⟨ch,c5,a6,cs,rfl,cw,bN,cb,cO,co⟩:=bW.g0 nc aH;rw[ce] at bN;injection bN with bN;subst bN;obtain⟨PA,pn,pc,fu,bn,bc,rfl,dc,cv,cl,_⟩:=kR.1 cb;replace f3:=(a7.cell ck (λh=>h)).trans f3
   have f4:=(a7.cell cw (λh=>h)).trans (co 1 _ rfl);have bZ:=a7.size;have bf:ch<Y.heap.size:=KE cw bZ;have cd:g<Y.heap.size:=KE ck bZ;have gs:f.params.length=pn:=by rw[<-cl.1,KH]
   have gL:=ae cl;obtain⟨a8,am,aF⟩:=bB.two;obtain⟨a0,ai,af⟩:=N.two;obtain rfl:n1=pn:=ad;have bQ:=ae (show kn w Y l op ag #[.int .i64 bE,.string s,.int .i64 eo,.int .i64 en,.string es,.slice EA em ec,.string rs,.slice cc cI rc,.slice bU n1 c1,.slice A2 n2 c2,.slice cC n3 c3] a1 0 none 0 0 none 0 0 from
    ⟨a7,N,aC,aQ,la.nil _ _ _ _ _ _⟩)
   clear ct bH a7 aC aQ bz bW cb cO co cl cw a4 bg u aV aj N bB a9 bu bb b2;go_wp2;refine eK (λ_=>False) [(0,3),(1,3),(2,3),(3,3),(4,0),(5,3),(6,0),(7,3),(8,3),(9,0),(10,3)] ?_
   iterate 4 refine pf ?_
   refine ph ?_;refine pf ?_;refine ph ?_
   iterate 2 refine pf ?_
   refine ph ?_;refine pf ?_;refine aE ?_;clear a8 am aF f3 f4 bf;go_wp2;clear a0 ai af;go_loopw [11] (λbd wr=>∃(k:Nat) (IA:Lp) (i ic:Nat) (S:Lp) (j lc:Nat),k<=n1/\bd=.int .i64 k/\i<=k/\j<=k/\kn w wr l op ag #[.int .i64 bE,.string s,.int .i64 eo,.int .i64 en,.string es,.slice EA em ec,.string rs,.slice cc cI rc,.slice bU n1 c1,.slice A2 n2 c2,.slice cC n3 c3] a1 k IA i ic S j lc) (λbd _=>n1 - (intOf bd).toNat)
   case atStart=>exact⟨0,none,0,0,none,0,0,ad,rfl,KD _,KD _,⟨bQ.ext.drew,bQ.b4,bQ.b6,bQ.b7,bQ.g2.ai Ll.drew⟩⟩
   case round=>
    obtain⟨k,IA,i,ic,S,j,lc,ap,rfl,bK,z,hC⟩:=hrel;clear bQ;have bQ:=ae hC;obtain⟨a0,ai,af⟩:=hC.b4.two;by_cases ak:k<n1
    .obtain⟨ab,cP,a,cs,rfl,ay,bx,ah,bj,Z⟩:=(bo.on (Fr.ext hC.ext)).g0 sD ak;obtain⟨pb,eX,q,cR,rfl,dN,bv,bC,aZ,gr⟩:=(gL.on (Fr.ext hC.ext)).g0 rm ak;obtain rfl:=nO.1 bC;have be:=gr 1 _ rfl;have bP:pb<wr.heap.size:=dN;have bV:ab<wr.heap.size:=ay;have HA:=ae bx;rcases m5 aP.o bv bx with⟨r,rfl,bs,eF⟩|⟨x,rfl,bs,cn⟩
     .rw[bs] at be;obtain⟨bD,cM,cH,cG,cU,zc,rfl,aB⟩:=Dm ah;have c0:=Z 0 _ rfl;have cp:=Z 1 _ rfl;have f0:=Z 2 _ rfl;have bh:=Z 3 _ rfl;have bX:=Z 4 _ rfl;have b0:=Z 5 _ rfl;have b1:=Z 6 _ rfl;simp only[KN] at c0;have U:=ae aB;clear hC bj Z bC aZ gr dN ay ah bx bv aB;go_upto_region 20 with(fail);generalize hV:World.alloc _ _=V;have L:=aX hV;have br:=aK hV;have a5:=bQ.b7.ai L;replace be:=((Fr.s6 L).1 pb _ bP).trans be
      replace bP:pb<V.heap.size:=KE bP L.size
      have m0:=bQ.b7.lt;have cz:=L.size;clear hV a0 ai af c0 cp f0 bh bX b0 b1 bV;obtain⟨d0,aL,aM⟩:=br.two;obtain⟨a0,ai,af⟩:=a5.two;clear a5 br;go_wp2;refine eK (λ_=>False) [(0,3),(1,0),(2,3),(3,3),(4,3),(5,3),(6,0),(7,3)] ?_;refine pf ?_;refine ph ?_
      iterate 4 refine pf ?_
      refine ph ?_;refine pf ?_;refine aE ?_;clear be bP;go_wp2;refine eK (λ_=>False) [(0,3),(1,0),(2,3),(3,3),(4,0),(5,3),(6,1),(7,1),(8,2),(9,3),(10,2)] ?_;refine pf ?_;refine bO (v:=?_) rfl (by rfl) (λV hV=>?_) ?_;rotate_left
      .obtain⟨hVc,hVf⟩:=Fr.jk hV
       (go_simp<;>with_reducible rfl)
      try simp only[PU]
      iterate 2 refine pf ?_
      refine bO (v:=?_) rfl (by rfl) (λV hV=>?_) ?_;rotate_left
      .obtain⟨hVc,hVf⟩:=Fr.jk hV
       (go_simp<;>with_reducible rfl)
      try simp only[PU]
      refine pf ?_;refine aI rfl (λK hK=>?_);go_simp;refine(ds g l M r eF st bD cM cH cG _ (b9.on (bQ.ext.trans L).drew.drew) (cQ.on (bQ.ext.trans L).drew.drew) (D.on U.o (Fr.ext L.drew.drew))).mono ?_;rintro e aS ⟨g6,g7,cA,cj,cF,rfl,cg,ar⟩;refine dz hK (ar) ?_;clear hK K;have aN:Ext V aS:=Fr.aF (Fr.aF ar);have n:(di (l6 l r)).rep aS (fresh V aS) [.bool g6,.int .i64 g7,.slice cA cj cF]:=cg;have bm:=L.trans aN;have aW:=aN.size;have cr:∀b,(Value.slice IA i ic).ownBlock=some b->b<V.heap.size:=λb O=>by have:=(bQ.g2.one.lt O).2;omega
      have aU:∀b,(Value.slice S j lc).ownBlock=some b->b<V.heap.size:=λb O=>by have:=(bQ.g2.two.lt O).2;omega
      refine qV ?_;refine ax rfl (λK hK=>?_);rw[if_pos (by rfl)];refine qD G8 (.tmp 92) (.tmp 98) (by rfl) (bQ.g2.ai bm).two (tK n ad aU cr) (by rfl) (by rfl) (by rfl) ad ad ad ?_;intro de dh aT bF az al ci;have m:=(bQ.b7.ai bm).on az (λO=>by have:=(bQ.g2.two.lt O).1;omega);have b4:=bL bF az al bm;clear bF az al cg n ar aN bm L a0 ai af d0 aL aM cr aU aW;obtain⟨a0,ai,af⟩:=m.two;clear m;refine dO hK ?_;clear hK K;refine pf ?_;refine ax rfl (λK hK=>?_);go_simp;refine dO hK ?_;clear hK K;refine aE ?_;clear a0 ai af;generalize hX:World.setCell aT _ _=cK;have bt:=ae (bQ.place b4.2.2.2 HA.o b4.1 b4.2.1 b4.2.2.1 hX);clear hX;go_wp2;go_roundw
      case rel=>exact⟨k+1,IA,i,ic,de,j+1,dh,ad,by go_num,ad,ad,bt.o⟩
      case measure=>exact aG
     .rw[bs] at be;obtain⟨cU,b8,zc,c7,cj,xs,cA,cW,cF,rfl,aB⟩:=Dk ah;have c0:=Z 0 _ rfl;have cp:=Z 1 _ rfl;have f0:=Z 2 _ rfl;have bh:=Z 3 _ rfl;have bX:=Z 4 _ rfl;have b0:=Z 5 _ rfl;have b1:=Z 6 _ rfl;simp only[KN] at c0;have U:=ae aB;clear hC bj Z bC aZ gr dN ay ah bx bv aB;go_upto_region 20 with(fail);generalize hV:World.alloc _ _=V;have L:=aX hV;have br:=aK hV;have a5:=bQ.b7.ai L;replace be:=((Fr.s6 L).1 pb _ bP).trans be
      replace bP:pb<V.heap.size:=KE bP L.size
      have m0:=bQ.b7.lt;have cz:=L.size;clear hV a0 ai af c0 cp f0 bh bX b0 b1 bV;obtain⟨d0,aL,aM⟩:=br.two;obtain⟨a0,ai,af⟩:=a5.two;clear a5 br;go_wp2;refine eK (λ_=>False) [(0,3),(1,0),(2,3),(3,3),(4,3),(5,3),(6,0),(7,3)] ?_;refine pf ?_;refine ph ?_
      iterate 4 refine pf ?_
      refine ph ?_;refine pf ?_;refine aE ?_;clear be bP;go_wp2;refine eK (λ_=>False) [(0,3),(1,0),(2,3),(3,3),(4,0),(5,3),(6,1),(7,1),(8,2),(9,3),(10,2)] ?_;refine pf ?_;refine bO (v:=?_) rfl (by rfl) (λV hV=>?_) ?_;rotate_left
      .obtain⟨hVc,hVf⟩:=Fr.jk hV
       (go_simp<;>with_reducible rfl)
      try simp only[PU]
      iterate 2 refine pf ?_
      refine bO (v:=?_) rfl (by rfl) (λV hV=>?_) ?_;rotate_left
      .obtain⟨hVc,hVf⟩:=Fr.jk hV
       (go_simp<;>with_reducible rfl)
      try simp only[PU]
      refine pf ?_;refine aI rfl (λK hK=>?_);go_simp;refine(gg l x cn g st _ _ _ _ _ _ _ (b9.on (bQ.ext.trans L).drew.drew) (D.on U.o (Fr.ext L.drew.drew))).mono ?_;rintro e aS ⟨cS,da,cN,cX,df,db,rfl,cg,ar⟩;refine dz hK (ar) ?_;clear hK K;have aN:Ext V aS:=Fr.aF (Fr.aF ar);have n:(bk (bJ l x)).rep aS (fresh V aS) [.int .i64 cS,.int .i64 da,.string cN,.slice cX df db]:=cg;have bm:=L.trans aN;have aW:=aN.size;have cr:∀b,(Value.slice IA i ic).ownBlock=some b->b<V.heap.size:=λb O=>by have:=(bQ.g2.one.lt O).2;omega
      have aU:∀b,(Value.slice S j lc).ownBlock=some b->b<V.heap.size:=λb O=>by have:=(bQ.g2.two.lt O).2;omega
      refine qV ?_;refine ax rfl (λK hK=>?_);rw[if_pos (by rfl)];refine qD po (.tmp 102) (.tmp 108) (by rfl) (bQ.g2.ai bm).one (tK n ad cr aU) (by rfl) (by rfl) (by rfl) ad ad ad ?_;intro I c4 aT bF az al ci;have m:=(bQ.b7.ai bm).on az (λO=>by have:=(bQ.g2.one.lt O).1;omega);have b4:=bL bF az al bm;clear bF az al cg n ar aN bm L a0 ai af d0 aL aM cr aU aW;obtain⟨a0,ai,af⟩:=m.two;clear m;refine dO hK ?_;clear hK K;refine pf ?_;refine ax rfl (λK hK=>?_);go_simp;refine dO hK ?_;clear hK K;refine aE ?_;clear a0 ai af;generalize hX:World.setCell aT _ _=cK;have bt:=ae (bQ.int b4.2.2.2 HA.o b4.1 b4.2.1 b4.2.2.1 hX);clear hX;go_wp2;go_roundw
      case rel=>exact⟨k+1,I,i+1,c4,S,j,lc,ad,by go_num,ad,ad,bt.o⟩
      case measure=>exact aG
    .obtain rfl:k=n1:=ad;have a5:=hC.b7;have cD:=hC.b6;clear hC a0 ai af;obtain⟨a0,ai,af⟩:=a5.two;obtain⟨d0,aL,aM⟩:=cD.two;clear a5;go_wp2;generalize hX:World.setCell _ _ _=cK;obtain⟨cm,cq,b5⟩:=bA (fv op ag false IA i ic S j lc).toList (by rfl) cD bQ.ext ad hX;clear hX a0 ai af d0 aL aM;obtain⟨bl,aA,aO⟩:=cm.two;refine Lk (v:=.agg (fv op ag false IA i ic S j lc)) (by simp[results,Tryz.results137,go_sem,bl]) rfl ?_;have hG:=bQ.g2.c8 b5 λb O _=>ad;have fd:=b5.size;rw[KL ad] at hG;refine⟨IA,i,ic,S,j,lc,rfl,?_,cq⟩;exact ju (hG.one.sl (λb ac au=>⟨by have:=au.1;omega,ac⟩) (λb ac au=>⟨ad,ac⟩)) (hG.two.sl (λb ac au=>⟨by have:=au.1;omega,ac⟩) (λb ac au=>⟨ad,ac⟩)) hG.one.cap.1 hG.two.cap.1
end Go.Proofs.YtglbpimocmhojaaGreat

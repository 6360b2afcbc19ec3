/- Part 15 of the proof. No condition of its own. -/
import Derived.Test.YtnigabjngpnbiaaGreatQ10
import Derived.Test.YtnigabjngpnbiaaGreatQ13
import Derived.Test.YtnigabjngpnbiaaGreatQ14
namespace Go.Proofs.YtnigabjngpnbiaaGreat
open Go.RowKit Go.Proofs.Tryz
set_option maxRecDepth 1000000
set_option maxHeartbeats 25600000
set_option linter.unusedVariables false
variable{cs:List Value}{P:Nat->Prop}{p:Prop}{f:a1}
section
variable {U:gJ} {G:Env} {l:List dv} {V T:Kk} {n nk:Int}
theorem Sc.fq(hS:Sc U G l V T n nk):∀(d:Nat) (x:VE),x.src V d->fq l x
 | d,.num k,h=>trivial
 | d,.eP s,h=>by
  have F:s∈V:=by cases d<;>exact h
  obtain⟨e,he,aj⟩:=hS.vars s F
  exact⟨e,he,aj.imp (λh=>h.1) (λh=>h.1)⟩
 | d,.loc _,h=>by cases d<;>exact h.elim
 | d,.hP _,h=>by cases d<;>exact h.elim
 | 0,.un _ _,h=>h.elim
 | 0,.bin _ _ _,h=>h.elim
 | d+1,.un op x,h=>⟨h.1,Sc.fq hS d x h.2⟩
 | d+1,.bin op x y,h=>⟨h.1,Sc.fq hS d x h.2.1,Sc.fq hS d y h.2.2⟩
theorem Sc.oU(hS:Sc U G l V T n nk)(r:eR)(h:wL G V r):oU U.af l r:=by
 rcases h with⟨m,hm,hn,ac,ap⟩|⟨hp,I⟩
 .obtain⟨e,he,aj,h0,hu⟩:=hS.HG m hm;rw[hn] at he;exact⟨e,he,.inr ⟨aj,m,h0,hu,λhs=>by obtain⟨x,hx,ay⟩:=ac hs;exact⟨x,hx,hS.fq 2 x ay⟩,ap⟩⟩
 .obtain⟨e,he,aj,_,_⟩:=hS.Dq _ hp;exact⟨e,he,.inl ⟨aj,I⟩⟩
end
def tg(F:List a1)(G:Env)(l:List dv):Prop:=∀s ps,(s,ps)∈G.funcs->∃(e:dv) (f:a1),dg l s=some e/\e.kind=3/\0<=e.n/\F[e.n.toNat]?=some f/\f.params=ps
theorem tg.app{F:List a1}{G:Env}{l:List dv}(h:tg F G l)(x:dv):tg F G (l++[x]):=λs ps hs=>by
 obtain⟨e,f,he,r⟩:=h s ps hs;exact⟨e,f,iO he,r⟩
theorem CX{p:bC}(hp:nE p)(aA:f∈p.funcs):tg p.funcs (kI p f) (a5 p++dy f.params 0 0):=by
 intro s ps hs;have aR:((a5 p++dy f.params 0 0).map (·.name)).Nodup:=by
  rw[JP,fo,fi];exact(hp.funcs f aA).fresh
 obtain⟨g,aS,aH⟩:=J6.1 hs;injection aH with N bb;subst N bb;obtain⟨i,I⟩:=List.getElem?_of_mem aS;have:=ko aR (JR.2 (.inl (by unfold a5;exact JR.2 (.inr (hg (·.name) 3 p.funcs 0 i g I)))));refine⟨_,g,this,rfl,by show (0:Int)<=((0+i:Nat):Int);omega,?_,rfl⟩;show p.funcs[(((0+i:Nat):Int)).toNat]?=some g
 rw[J3,J0];exact I
def iu(M:List bI)(l:List dv):List (ByteArray×Bool)->List dh->Prop
 | [],[]=>True
 | p::ps,.mx r::aH=>(p.2=true/\oU M l r)/\iu M l ps aH
 | p::ps,.ex e::aH=>(p.2=false/\fq l e)/\iu M l ps aH
 | _,_=>False
theorem Sc.iu{U:gJ}{G:Env}{l:List dv}{V T:Kk}{n nk:Int}(hS:Sc U G l V T n nk):∀(ps:List (ByteArray×Bool)) (aH:List dh),lp G V ps aH->iu U.af l ps aH
 | [],[],_=>trivial
 | p::ps,.mx r::aH,h=>⟨⟨h.1.1,hS.oU r h.1.2⟩,Sc.iu hS ps aH h.2⟩
 | p::ps,.ex e::aH,h=>⟨⟨h.1.1,hS.fq 2 e h.1.2⟩,Sc.iu hS ps aH h.2⟩
 | [],_::_,h=>h.elim
 | _::_,[],h=>h.elim
theorem kV{M:List bI}{l:List dv}:∀{ps:List (ByteArray×Bool)} {aH:List dh},iu M l ps aH->ps.length=aH.length
 | [],[],_=>rfl
 | _::ps,.mx _::aH,h=>by simp[kV h.2]
 | _::ps,.ex _::aH,h=>by simp[kV h.2]
 | [],_::_,h=>h.elim
 | _::_,[],h=>h.elim
theorem l8{M:List bI}{l:List dv}:∀{ps:List (ByteArray×Bool)} {aH:List dh},iu M l ps aH->∀{k:Nat} {q:ByteArray×Bool} {a:dh},ps[k]?=some q->aH[k]?=some a->
  (∃r,a=.mx r/\q.2=true/\oU M l r)\/(∃e,a=.ex e/\q.2=false/\fq l e)
 | [],[],_,k,q,a,h,_=>by simp at h
 | p::ps,.mx r::aH,h,0,q,a,ac,ap=>by
  simp at ac ap;subst ac ap
  exact .inl ⟨r,rfl,h.1.1,h.1.2⟩
 | p::ps,.ex e::aH,h,0,q,a,ac,ap=>by
  simp at ac ap;subst ac ap
  exact .inr ⟨e,rfl,h.1.1,h.1.2⟩
 | p::ps,.mx r::aH,h,k+1,q,a,ac,ap=>l8 h.2 (by simpa using ac) (by simpa using ap)
 | p::ps,.ex e::aH,h,k+1,q,a,ac,ap=>l8 h.2 (by simpa using ac) (by simpa using ap)
 | [],_::_,h,_,_,_,_,_=>h.elim
 | _::_,[],h,_,_,_,_,_=>h.elim
theorem g1(l:List dv)(aH:List dh)(a:dh):bL l (aH++[a])=bL l aH++bL l [a]/\cr l (aH++[a])=cr l aH++cr l [a]:=by
 induction aH with
 | nil=>exact⟨rfl,rfl⟩
 | cons x aH ab=>cases x<;>simp[bL,cr,ab.1,ab.2]
structure xU(w:World)(g:Nat)(F:List a1):Prop where
 lt:g<w.heap.size
 ex:∃A n c,n<=1000000/\w.cell? ⟨g,2,none⟩=some (.slice A n c)/\Sl w (ao w) A n (F.map fA)
theorem xU.on{w J:World}{g:Nat}{F:List a1}(h:xU w g F)(O:Ext w J):xU J g F:=by
 exact Cn
theorem iK{w:World}:(fA f).rep w P cs↔∃A n c B m k,cs=[.string f.name,.slice A n c,.slice B m k]/\n<=c/\m<=k/\Sl w P A n (f.params.map dU)/\Sl w P B m (dw f.body):=by
 unfold fA;rw[bK,dj];constructor
 .rintro⟨y,rfl,h⟩;obtain⟨A,n,c,b5,rfl,hc,hs,h⟩:=aO.1 h;obtain⟨B,m,k,b3,rfl,aj,O,h⟩:=aO.1 h;rw[aS] at h;subst h;exact⟨A,n,c,B,m,k,rfl,hc,aj,hs,O⟩
 .rintro⟨A,n,c,B,m,k,rfl,hc,aj,hs,O⟩;exact⟨_,rfl,aO.2 ⟨A,n,c,_,rfl,hc,hs,aO.2 ⟨B,m,k,[],rfl,aj,O,aS.2 rfl⟩⟩⟩
theorem mg(f:a1):(fA f).sz=3:=rfl
theorem p9(q:ByteArray×Bool):(dU q).sz=2:=rfl
theorem mM{w:World}{q:ByteArray×Bool}:(dU q).rep w P cs↔cs=[.string q.1,.bool q.2]:=by
 unfold dU;rw[bK,dj];constructor
 .rintro⟨y,rfl,h⟩;obtain⟨b3,rfl,ap⟩:=eN.1 h;rw[aS] at ap;subst ap;rfl
 .rintro rfl;exact⟨_,rfl,eN.2 ⟨_,rfl,aS.2 rfl⟩⟩
theorem Gt:cA prog 75 74 (.agg #[.bool false,.int .i64 0,.slice none 0 0]) 3 40:=cA.mk' Tryz.underlying75 (by kernel_rfl) rfl ad
abbrev eT(op t:Int)(g:Bool)(IA:Kj)(i ic:Nat)(bo:Kj)(k lc:Nat):Array Value:=
 #[.int .i64 op,.int .i64 t,.bool g,.int .i64 0,.int .i64 0,.string ⟨#[]⟩,.slice none 0 0,.bool false,.int .i64 0,.slice none 0 0,.slice IA i ic,.slice bo k lc]
theorem CN{w:World}{r:eR}(h:(eg (.mx r)).rep w P cs):∃s A n c bg c2,cs=[.bool true,.string s,.slice A n c,.int .i64 0,.int .i64 0,.string ⟨#[]⟩,.slice bg 0 c2]/\(kF r).rep w P [.string s,.slice A n c]:=by
 exact FK
namespace AM
theorem tG(h:p:=by
 obtain⟨A,n,c,bt,rfl,_,_,bi⟩:=aO.1 hx;rw[aS] at bi;subst bi;rw[D.bt] at aa;obtain⟨bg,cz,c2,rfl,_,_⟩:=bj.1 aa;exact⟨_,_,_,_,_,_,_,_,_,rfl,aa⟩
 ):p:=h
end AM
open AM in
theorem CL{w:World}{e:VE}(h:(eg (.ex e)).rep w P cs):∃cq cu rc op n s A m c,cs=[.bool false,.string ⟨#[]⟩,.slice cq cu rc,.int .i64 op,.int .i64 n,.string s,.slice A m c]/\(bB e).rep w P [.int .i64 op,.int .i64 n,.string s,.slice A m c]:=by
 exact tF
theorem oX{w:World}{l:List D}(h:D.aR w P l cs):D.aR w P (jM::l) (.int .i64 0::.int .i64 0::.string ⟨#[]⟩::.slice none 0 0::cs):=
 dm.2 ⟨[.int .i64 0,.int .i64 0,.string ⟨#[]⟩,.slice none 0 0],cs,rfl,eF.2 ⟨none,0,rfl⟩,h⟩
theorem mW{w:World}{l:List D}(h:D.aR w P l cs):D.aR w P (c8 jB::l) (.bool false::.int .i64 0::.slice none 0 0::cs):=
 dm.2 ⟨[.bool false,.int .i64 0,.slice none 0 0],cs,rfl,dB.2 ⟨none,0,0,rfl,JI _,Sl.c7 _⟩,h⟩
theorem iL{w:World}{op t:Int}{g:Bool}{is:List VE}{ps:List bN}{IA:Kj}{i ic:Nat}{bo:Kj}{k lc:Nat}(ac:Sl w P IA i (is.map bB))(ap:Sl w P bo k (ps.map c8))(c1:i<=ic)(c2:k<=lc):
  (dH ⟨op,t,g,none,jB,is,ps⟩).rep w P (eT op t g IA i ic bo k lc).toList:=by
 unfold dH;rw[bK];exact bm.2 ⟨_,rfl,bm.2 ⟨_,rfl,eN.2 ⟨_,rfl,oX (mW (aO.2 ⟨IA,i,ic,_,rfl,c1,ac,aO.2 ⟨bo,k,lc,[],rfl,c2,ap,aS.2 rfl⟩⟩))⟩⟩⟩
theorem tO:cA prog 101 77 (.agg (eT 0 0 false none 0 0 none 0 0)) 12 168:=cA.mk' Tryz.underlying101 (by kernel_rfl) rfl ad
structure cx(w:World)(g B:Nat)(M:List bI)(F:List a1)(l:List dv)(bo:Kj)(ln lc:Nat)(n:Int)(st:Nat)(code:List ax)(sites:List Int)(S:Kj)(bx:Nat)(bP:Kj)(bQ:Nat):Prop where
 blk:∃GA gn gc MA mn mc FA fn fc,au w g 191 #[.slice GA gn gc,.slice MA mn mc,.slice FA fn fc,.slice bo ln lc,.int .i64 n,.int .i64 st,.int .i64 0,.int .i64 0,.slice S code.length bx,.slice bP sites.length bQ]/\mn<=1000000/\fn<=1000000/\
  Sl w (off (Ms g (.slice S code.length bx) (.slice bP sites.length bQ)) w) MA mn (M.map eL)/\Sl w (off (Ms g (.slice S code.length bx) (.slice bP sites.length bQ)) w) FA fn (F.map fA)
 base:g<B/\B<=w.heap.size
 names:ln<=1000000/\Sl w (off (Ms g (.slice S code.length bx) (.slice bP sites.length bQ)) w) bo ln (l.map bR)
 rows:lu B 77 12 3 1 w S code.length bx (code.map dH) bP sites.length bQ (sites.map D.i)
section
variable {w J aL aV bV cE X:World} {g B:Nat} {M:List bI} {F:List a1} {l:List dv} {bo:Kj} {ln lc:Nat} {n:Int} {st:Nat} {code:List ax} {sites:List Int} {S:Kj} {bx:Nat} {bP:Kj} {bQ:Nat}
theorem cx.lt(h:cx w g B M F l bo ln lc n st code sites S bx bP bQ):g<w.heap.size:=by
 obtain⟨GA,gn,gc,MA,mn,mc,FA,fn,fc,aK,_⟩:=h.blk;exact aK.lt
theorem cx.L(h:cx w g B M F l bo ln lc n st code sites S bx bP bQ):r0 w g l:=by
 obtain⟨GA,gn,gc,MA,mn,mc,FA,fn,fc,aK,_⟩:=h.blk;exact⟨aK.lt,bo,ln,lc,h.names.1,aK.cell 3,h.names.2.mono λb O=>O.1⟩
theorem cx.M_(h:cx w g B M F l bo ln lc n st code sites S bx bP bQ):wT w g M:=by
 obtain⟨GA,gn,gc,MA,mn,mc,FA,fn,fc,aK,ac,ap,aD,bt⟩:=h.blk;exact⟨aK.lt,MA,mn,mc,ac,aK.cell 1,aD.mono λb O=>O.1⟩
theorem cx.F_(h:cx w g B M F l bo ln lc n st code sites S bx bP bQ):xU w g F:=by
 obtain⟨GA,gn,gc,MA,mn,mc,FA,fn,fc,aK,ac,ap,aD,bt⟩:=h.blk;exact⟨aK.lt,FA,fn,fc,ap,aK.cell 2,bt.mono λb O=>O.1⟩
theorem cx.aj(h:cx w g B M F l bo ln lc n st code sites S bx bP bQ)(he:Ext w J):cx J g B M F l bo ln lc n st code sites S bx bP bQ:=by
 obtain⟨GA,gn,gc,MA,mn,mc,FA,fn,fc,aK,ac,ap,aD,bt⟩:=h.blk;exact⟨⟨GA,gn,gc,MA,mn,mc,FA,fn,fc,aK.aj he,ac,ap,aD.gW (Mv.gB he),bt.gW (Mv.gB he)⟩,⟨h.base.1,JZ h.base.2 he.size⟩,⟨h.names.1,h.names.2.gW (Mv.gB he)⟩,h.rows.aj he⟩
abbrev IQ(B g:Nat)(cv sv:Value)(w:World):Nat->Prop:=λb=>B<=b/\off (Ms g cv sv) w b
theorem cx.added(h:cx w g B M F l bo ln lc n st code sites S bx bP bQ){x:ax}{s:Int}{ah aR:Kj}{ai aT:Nat}(e1:Ext w aL)
  (ac:Gr (λb=>B<=b/\(Value.slice bP sites.length bQ).ownBlock≠some b) B 77 12 aV ah (code.length+1) ai (code.map dH++[dH x])) (f1:Fr (λb=>(Value.slice S code.length bx).ownBlock=some b) aL aV) (o1:fT aL S code.length bx ah (code.length+1) ai)
  (e2:Ext aV bV) (ap:Gr (λb=>B<=b/\(Value.slice ah (code.length+1) ai).ownBlock≠some b) B 3 1 cE aR (sites.length+1) aT (sites.map D.i++[D.i s])) (f2:Fr (λb=>(Value.slice bP sites.length bQ).ownBlock=some b) bV cE) (dm:fT bV bP sites.length bQ aR (sites.length+1) aT)
  (hX:(cE.setCell ⟨g,8,none⟩ (.slice ah (code.length+1) ai)).setCell ⟨g,9,none⟩ (.slice aR (sites.length+1) aT)=X) :
  cx X g B M F l bo ln lc n st (code++[x]) (sites++[s]) ah ai aR aT/\Mv g (.slice S code.length bx) (.slice bP sites.length bQ) w (.slice ah (code.length+1) ai) (.slice aR (sites.length+1) aT) X:=by
 have aq:=h.lt;have bM:=Hh hX;have s1:=e1.size;have s2:=f1.size;have bs:=e2.size;have hM:Mv g (.slice S code.length bx) (.slice bP sites.length bQ) w (.slice ah (code.length+1) ai) (.slice aR (sites.length+1) aT) X:=by
  refine⟨Fr.trans (Fr.mono e1 λ_ h=>h.elim) (Fr.trans (f1.mono λb O=>.inr (.inl O)) (Fr.trans (Fr.mono e2 λ_ h=>h.elim) (Fr.trans (f2.mono λb O=>.inr (.inr O)) (bM.mono λb O=>.inl O)))),λb O hm=>?_⟩;rcases hm with hm|hm|hm
  .exact .inl hm
  .rcases o1 b hm with ac|ac
   .exact .inr (.inl ac)
   .omega
  .rcases dm b hm with ac|ac
   .exact .inr (.inr ac)
   .omega
 refine⟨?_,hM⟩;obtain⟨GA,gn,gc,MA,mn,mc,FA,fn,fc,aK,cp,bE,cB,aI⟩:=h.blk;have a:∀b,(Value.slice S code.length bx).ownBlock=some b->g<b:=λb O=>JJ h.base.1 (h.rows.one.lt O).1;have c:∀b,(Value.slice bP sites.length bQ).ownBlock=some b->g<b:=λb O=>JJ h.base.1 (h.rows.two.lt O).1;have bJ:au cE g _ _:=(((aK.aj e1).on f1 λO=>by have:=a _ O;omega).aj e2).on f2 λO=>by have:=c _ O;omega
 have bt:lu B 77 12 3 1 bV ah (code.length+1) ai (code.map dH++[dH x]) bP sites.length bQ (sites.map D.i):=((h.rows.aj e1).grow ac f1 o1).aj e2;have r:=(bt.swap.grow ap f2 dm).swap;refine⟨⟨GA,gn,gc,MA,mn,mc,FA,fn,fc,?_,cp,bE,?_,?_⟩,⟨h.base.1,JZ h.base.2 hM.fr.size⟩,⟨h.names.1,?_⟩,?_⟩
 .rw[<-hX,JK,JK];exact(bJ.bH 8 _).bH 9 _
 .rw[JK,JK];exact cB.gW hM
 .rw[JK,JK];exact aI.gW hM
 .rw[JK,JK];exact h.names.2.gW hM
 .rw[JP,JP,JK,JK];exact r.eQ bM λb O _=>by have:=h.base.1;omega
end
def Gg(w:World)(g B:Nat)(M:List bI)(F:List a1)(l:List dv)(bo:Kj)(ln lc:Nat)(n:Int)(st:Nat)(code:List ax)(sites:List Int)(S:Kj)(bx:Nat)(bP:Kj)(bQ:Nat)(x:ax)(s:Int)(e:Ending)(J:World):Prop:=
 e=.returned (.int .i64 code.length)/\∃ah ai aR aT,cx J g B M F l bo ln lc n st (code++[x]) (sites++[s]) ah ai aR aT/\Mv g (.slice S code.length bx) (.slice bP sites.length bQ) w (.slice ah (code.length+1) ai) (.slice aR (sites.length+1) aT) J
theorem gv{w:World}{g B:Nat}{M:List bI}{F:List a1}{l:List dv}{bo:Kj}{ln lc:Nat}{n:Int}{st:Nat}{code:List ax}{sites:List Int}{S:Kj}{bx:Nat}{bP:Kj}{bQ:Nat}(h:cx w g B M F l bo ln lc n st code sites S bx bP bQ)
  (x:ax) (s:Int) {op t:Int} {gl:Bool} {eo en:Int} {es:ByteArray} {EA:Kj} {em ec:Nat} {pb:Bool} {pi:Int} {PA:Kj} {pm pc:Nat} {IA:Kj} {i ic:Nat} {KA:Kj} {k kc:Nat}
  (hx:(dH x).rep w (IQ B g (.slice S code.length bx) (.slice bP sites.length bQ) w) [.int .i64 op,.int .i64 t,.bool gl,.int .i64 eo,.int .i64 en,.string es,.slice EA em ec,.bool pb,.int .i64 pi,.slice PA pm pc,.slice IA i ic,.slice KA k kc])
  (ac:code.length<=100000) (ap:sites.length<=100000) :
  Calls prog 109 #[.pointer (some ⟨g,0,none⟩),.agg #[.int .i64 op,.int .i64 t,.bool gl,.int .i64 eo,.int .i64 en,.string es,.slice EA em ec,.bool pb,.int .i64 pi,.slice PA pm pc,.slice IA i ic,.slice KA k kc],.int .i64 s] w
   (Gg w g B M F l bo ln lc n st code sites S bx bP bQ x s):=by
 obtain⟨H,aJ⟩:=aI h hx;obtain⟨GA,gn,gc,MA,mn,mc,FA,fn,fc,aK,_⟩:=h.blk;have bL:=ae aK;clear h hx aK;go_enter func109,ntmps109;go_upto_region 1 with(fail);generalize ba:World.alloc _ _=W;have ar:=aY ba;have j:=aF ba;clear ba;obtain⟨bd,L⟩:=aI ar j;obtain⟨a0,al,af⟩:=j.two;obtain⟨b0,am,aw⟩:=(bL.aj ar).two;have dq:=bL.lt;have l4:=ar.size;have dx:=H.base.1;have v:=H.base.2;clear ar j;have I:¬(Value.slice S code.length bx).ownBlock=some g:=λO=>by have:=(H.rows.one.lt O).1;omega
 have ao:¬(Value.slice S code.length bx).ownBlock=some w.heap.size:=λO=>by have:=(H.rows.one.lt O).2;omega
 have aS:∀b,(Value.slice S code.length bx).ownBlock=some b->b<W.heap.size:=λb O=>by have:=(H.rows.one.lt O).2;omega
 have bZ:∀b,(Value.slice bP sites.length bQ).ownBlock=some b->b<W.heap.size:=λb O=>by have:=(H.rows.two.lt O).2;omega
 have G:(dH x).rep W (mS (λb=>B<=b/\(Value.slice bP sites.length bQ).ownBlock≠some b) W (.slice S code.length bx)) _:=
  D.aA (λb O=>⟨⟨O.1,λhc=>O.2.2 (.inr (.inr hc))⟩,JJ O.2.1 l4,λhc=>O.2.2 (.inr (.inl hc))⟩) _ _ (D.aD (λb O=>bd.block b O.2.1 λh=>h) _ _ aJ.o)
 have y:=H.rows.aj bd.o;obtain⟨m,aM⟩:=aI G y;clear G y;refine uU (λb=>(Value.slice S code.length bx).ownBlock=some b) [15,18,21] (.free 0 (.free 1 (.free 2 (.free 3 (.free 4 (.held 5 (.held 6 (.free 9 (.free 10 (.free 11 (.held 12 (.free 13 (.pick [7,14] (λi=>bif i == 7 then .pick [8,14] (λi=>bif i == 8 then .pick [14] (λ_=>.pick [15] (λ_=>.free 16 (.free 17 (.pick [18] (λ_=>.free 19 (.free 20 (.pick [21] (λ_=>.stop)))))))) else .pick [8] (λ_=>.pick [15] (λ_=>.free 16 (.free 17 (.pick [18] (λ_=>.free 19 (.free 20 (.pick [21] (λ_=>.stop))))))))) else .pick [7] (λ_=>.pick [8] (λ_=>.pick [15] (λ_=>.free 16 (.free 17 (.pick [18] (λ_=>.free 19 (.free 20 (.pick [21] (λ_=>.stop))))))))))))))))))))))) ?_
 iterate 5 refine tf ?_
 iterate 2 refine pO ?_
 iterate 3 refine tf ?_
 refine pO ?_;refine tf ?_;refine lh (P:=?P1) (ops:=?o1) (Q:=?q1) (R:=?r1) (tails:=?t1) (rest:=.pick [15] (λ_=>.free 16 (.free 17 (.pick [18] (λ_=>.free 19 (.free 20 (.pick [21] (λ_=>.stop)))))))) (aa:=?Jy)
  (C:=λ(_:Nat) dM bg c2 V=>True/\∃aL aV,Ext W aL/\Gr (λb=>B<=b/\(Value.slice bP sites.length bQ).ownBlock≠some b) B 77 12 aV bg (code.length+1) c2 (code.map dH++[dH x])/\Fr (λb=>(Value.slice S code.length bx).ownBlock=some b) aL aV/\fT aL S code.length bx bg (code.length+1) c2/\Ext aV V/\au V dM 3 #[.int .i64 s]) (λkey=>?Hx) ?Ik
 case Hx=>
  refine b1 ?_ ?_
  ·
   refine gX ?_;generalize hV:World.drew (World.alloc _ _)=cQ;have e1:=jW hV;have bm:au cQ W.heap.size 77 #[.int .i64 op,.int .i64 t,.bool gl,.int .i64 eo,.int .i64 en,.string es,.slice EA em ec,.bool pb,.int .i64 pi,.slice PA pm pc,.slice IA i ic,.slice KA k kc]:=hV▸Kg;clear hV;refine b1 ?_ ?_
   ·
    refine bD rfl (λK hK=>?_) rfl;rw[if_pos (by rfl)];refine kb tO (.tmp 12) (.tmp 14) (by rfl) (aM.aj e1).one bm (uj m.o e1) (by rfl) (by rfl) (by rfl) ad ad (aC e1.size) ?_;intro ah ai aV bX f1 o1 c1;refine gu hK (f1) ?_;clear hK K;refine aB ?_;refine gX ?_;have F:True/\∃aL f,Ext W aL/\Gr (λb=>B<=b/\(Value.slice bP sites.length bQ).ownBlock≠some b) B 77 12 f ah (code.length+1) ai (code.map dH++[dH x])/\Fr (λb=>(Value.slice S code.length bx).ownBlock=some b) aL f/\fT aL S code.length bx ah (code.length+1) ai/\Ext f (aV.alloc (.cells #[.int .i64 s] 3))/\au (aV.alloc (.cells #[.int .i64 s] 3)) (aV.heap.size) 3 #[.int .i64 s]:=
     ⟨trivial,cQ,aV,e1,bX,f1,o1,Kf.alloc _,Kg⟩
    clear bX o1;revert F;generalize aV.heap.size=dM;generalize W.heap.size=dD;intro F;exact key dD dM ah ai _ F
   ·
    refine gX ?_;generalize hV:World.alloc _ _=o;have bS:au o cQ.heap.size 3 #[.int .i64 s]:=hV▸Kg;have r:=by have:=bm.alloc (.cells #[.int .i64 s] 3);rw[hV] at this;exact this
    have e2:Ext W o:=hV▸e1.alloc _;clear hV bm;refine aB ?_;refine bD rfl (λK hK=>?_) rfl;rw[if_pos (by rfl)];refine kb tO (.tmp 12) (.tmp 14) (by rfl) (aM.aj e2).one r (uj m.o e2) (by rfl) (by rfl) (by rfl) ad ad (aC e2.size) ?_;intro ah ai aV bX f1 o1 c1;refine gu hK (f1) ?_;clear hK K;have aH:¬(Value.slice S code.length bx).ownBlock=some cQ.heap.size:=λO=>by have:=aS _ O;have:=e1.size;omega
    have F:True/\∃aL f,Ext W aL/\Gr (λb=>B<=b/\(Value.slice bP sites.length bQ).ownBlock≠some b) B 77 12 f ah (code.length+1) ai (code.map dH++[dH x])/\Fr (λb=>(Value.slice S code.length bx).ownBlock=some b) aL f/\fT aL S code.length bx ah (code.length+1) ai/\Ext f aV/\au aV (cQ.heap.size) 3 #[.int .i64 s]:=
     ⟨trivial,o,aV,e2,bX,f1,o1,Kf,bS.on f1 aH⟩
    clear bX o1;revert F;generalize cQ.heap.size=dM;generalize W.heap.size=dD;intro F;exact key dD dM ah ai _ F
  ·
   refine gX ?_;generalize hV:World.drew (World.alloc _ _)=cQ;have bS:au cQ W.heap.size 3 #[.int .i64 s]:=hV▸Kg;have e1:=jW hV;clear hV;refine aB ?_;refine gX ?_;generalize hV:World.alloc _ _=o;have e2:Ext W o:=hV▸e1.alloc _;have bm:=aF hV;have u:au o W.heap.size 3 #[.int .i64 s]:=hV▸bS.alloc _;clear hV;refine aB ?_;refine bD rfl (λK hK=>?_) rfl;rw[if_pos (by rfl)];refine kb tO (.tmp 12) (.tmp 14) (by rfl) (aM.aj e2).one bm (uj m.o e2) (by rfl) (by rfl) (by rfl) ad ad (aC e2.size) ?_;intro ah ai aV bX f1 o1 c1;refine gu hK (f1) ?_;clear hK K;have aH:¬(Value.slice S code.length bx).ownBlock=some W.heap.size:=λO=>by have:=aS _ O;omega
   have F:True/\∃aL f,Ext W aL/\Gr (λb=>B<=b/\(Value.slice bP sites.length bQ).ownBlock≠some b) B 77 12 f ah (code.length+1) ai (code.map dH++[dH x])/\Fr (λb=>(Value.slice S code.length bx).ownBlock=some b) aL f/\fT aL S code.length bx ah (code.length+1) ai/\Ext f aV/\au aV (W.heap.size) 3 #[.int .i64 s]:=
    ⟨trivial,o,aV,e2,bX,f1,o1,Kf,u.on f1 aH⟩
   clear bX o1;revert F;generalize W.heap.size=dM;generalize cQ.heap.size=dD;intro F;exact key dD dM ah ai _ F
 case Ik=>
  rintro dD dM ah ai V ⟨N,aL,aV,e1,bX,f1,o1,e2,bS⟩;have s1:=e1.size;have s2:=f1.size;have bs:=e2.size;have hG:lu B 77 12 3 1 V ah (code.length+1) ai (code.map dH++[dH x]) bP sites.length bQ (sites.map D.i):=((aM.aj e1).grow bX f1 o1).aj e2;have b8:au V g _ _:=(((bL.aj bd.o).aj e1).on f1 I).aj e2;have z:¬(Value.slice bP sites.length bQ).ownBlock=some g:=λO=>by have:=(H.rows.two.lt O).1;omega
  clear a0 al af b0 am aw;refine aB ?_;refine ca rfl (λK hK=>?_) rfl;rw[if_pos (by rfl)];refine kb eK (.tmp 19) (.tmp 21) (by rfl) hG.two bS (show (D.i s).rep V _ _ from by simp only[D.rep]) (by rfl) (by rfl) (by rfl) ad ad ad ?_;intro aR aT cE g2 f2 dm c2;have bN:=av g2 f2 dm;have bJ:=b8.on f2 z;have cL:=dT e1 bX f1 o1 e2;clear g2 f2 dm b8 bS e1 bX f1 o1 e2 hG;obtain⟨b0,am,aw⟩:=bJ.two;refine eC hK ?_;clear hK K
  iterate 2 refine tf ?_
  refine aB ?_;refine ca rfl (λK hK=>?_) rfl;go_simp;refine eC hK ?_;clear hK K
  iterate 2 refine tf ?_
  refine aB ?_;refine ca rfl (λK hK=>?_) rfl;go_simp;refine eC hK ?_;clear hK K;refine cY ?_;generalize hX:World.setCell _ _ _=X;obtain⟨e1,bX,f1,o1,e2⟩:=cL.o;obtain⟨hS,hM⟩:=cx.added H.o (bd.trans e1) bX f1 o1 e2 bN.1 bN.2.1 bN.2.2 hX;have bF:=ak hS hM;obtain⟨aN,aU,a3,ee,go,et,cp,fX,b7,a6,_⟩:=hS.blk;clear hX b0 am aw bJ hS hM e1 bX f1 o1 e2;obtain⟨b0,am,aw⟩:=a6.two;go_wp2;go_ret;refine⟨ret_int ?_,ah,ai,aR,aT,?_⟩
  .simp
  .exact bF.o
section
attribute [local go_sem ↓] fH fI
theorem wo(a b c d:Int)(w:World):(binOp .neq 89 (.agg #[.int .i64 a,.int .i64 b]) (.agg #[.int .i64 c,.int .i64 d])).run prog w=.ok (.bool (decide (a≠c\/b≠d))) w:=by
 exact yA
theorem Ek(a b c d:Int)(w:World):(binOp .eql 89 (.agg #[.int .i64 a,.int .i64 b]) (.agg #[.int .i64 c,.int .i64 d])).run prog w=.ok (.bool (decide (a=c/\b=d))) w:=by
 exact yA
namespace BO
theorem q0(h:p:=by
 go_enter func31,ntmps31;exact qN
 ):p:=h
end BO
open BO in
theorem Dw(A bg:Kj)(n c n2 c2:Nat)(S T:List cp)(w:World)(hs:cB (EF bA) 2 w w.heap.size A n S)(ht:cB (EF bA) 2 w w.heap.size bg n2 T)(hn:n<=140737488355328) :
  Calls prog 31 #[.slice A n c,.slice bg n2 c2] w λr J=>r=.returned (.bool (decide (S=T)))/\Below w.heap.size w J:=by
 have hl:=hs.1;have bZ:=ht.1;by_cases aH:n=n2
 case neg=>
  exact qZ
 subst aH;obtain⟨bW,Q⟩:=aI hl bZ;clear hl bZ;have aT:((n:Int) != (n:Int))=false:=by simp
 go_enter func31,ntmps31;go_wp2;go_loopw [5] (λi wr=>∃k:Nat,k<=n/\i=.int .i64 k/\(∀j,j<k->S[j]?=T[j]?)/\Below w.heap.size w wr) (λi _=>n - (intOf i).toNat)
 case atStart=>exact⟨0,J4 _,rfl,λj be=>absurd be ad,Below.refl _ _⟩
 case round=>
  obtain⟨k,aj,rfl,bK,O⟩:=hrel;have ay:=ae bK;clear bK;by_cases aq:k<n
  .obtain⟨b,o,x,rfl,H,hx,c0,c1⟩:=(hs.ep O).hold aq;obtain⟨Y,ai,e,rfl,g,d,d0,d1⟩:=(ht.ep O).hold aq;have F:(0:Int)<=(k:Int):=ad;have bI:(k:Int)<(n:Int):=ad;have f:=wo;by_cases hd:x.owner≠e.owner\/x.depth≠e.depth
   .have a2:=ae (show decide (S=T)=false from decide_eq_false (λh=>by
     subst h;rw[hx] at d;injection d with d;subst d;simp at hd))
    have D:decide (x.owner≠e.owner\/x.depth≠e.depth)=true:=decide_eq_true hd;exact FH
   .have aJ:=ae (show S[k]?=T[k]? by
     have ac:x.owner=e.owner:=by
      by_cases an:x.owner=e.owner
      .exact an
      .exact absurd (.inl an) hd
     have ap:x.depth=e.depth:=by
      by_cases an:x.depth=e.depth
      .exact an
      .exact absurd (.inr an) hd
     rw[hx,d];congr 1
     cases x;cases e
     simp_all)
    have D:decide (x.owner≠e.owner\/x.depth≠e.depth)=false:=decide_eq_false hd;exact Ft
  .obtain rfl:k=n:=ad;exact vI
def Hp(X:List bI)(T:List cp)(m th:Int)(i:Nat):Int:=if (own X)[i]?=some m/\(jm T i).owner=th+1/\0<=th then (jm T i).depth else 0
def FW(X:List bI)(T:List cp)(m th:Int):Nat->Int
 | 0=>0
 | k+1=>FW X T m th k+Hp X T m th k
def depth(X:List bI)(T:List cp)(m th:Int):Int:=FW X T m th (own X).length
end
end Go.Proofs.YtnigabjngpnbiaaGreat

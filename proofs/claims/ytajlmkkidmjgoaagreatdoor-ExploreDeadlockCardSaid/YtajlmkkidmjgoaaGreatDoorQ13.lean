/- Part 13 of the proof. No condition of its own. -/
import Derived.Test.YtajlmkkidmjgoaaGreatDoorQ07
import Derived.Test.YtajlmkkidmjgoaaGreatDoorQ10
import Derived.Test.YtajlmkkidmjgoaaGreatDoorQ11
namespace Go.Proofs.YtajlmkkidmjgoaaGreatDoor
open Go.RowKit Go.Proofs.Tryz
set_option maxRecDepth 1000000
set_option maxHeartbeats 25600000
set_option linter.unusedVariables false
variable{cs:List Value}{k:Nat}{P:Nat->Prop}{p:Prop}{f:aE}
section
variable {U:gV} {G:Env} {l:List du} {V T:IQ} {n nk:Int}
theorem Sc.fH(hS:Sc U G l V T n nk):∀(d:Nat) (x:VE),x.src V d->fH l x
 | d,.num k,h=>trivial
 | d,.gI s,h=>by
  have F:s∈V:=by cases d<;>exact h
  obtain⟨e,he,ap⟩:=hS.vars s F
  exact⟨e,he,ap.imp (λh=>h.1) (λh=>h.1)⟩
 | d,.loc _,h=>by cases d<;>exact h.elim
 | d,.iq _,h=>by cases d<;>exact h.elim
 | 0,.un _ _,h=>h.elim
 | 0,.bin _ _ _,h=>h.elim
 | d+1,.un op x,h=>⟨h.1,Sc.fH hS d x h.2⟩
 | d+1,.bin op x y,h=>⟨h.1,Sc.fH hS d x h.2.1,Sc.fH hS d y h.2.2⟩
theorem Sc.pz(hS:Sc U G l V T n nk)(r:eC)(h:rU G V r):pz U.af l r:=by
 rcases h with⟨m,hm,hn,ac,J⟩|⟨hp,ak⟩
 .obtain⟨e,he,ap,h0,hu⟩:=hS.F6 m hm;rw[hn] at he;exact⟨e,he,.inr ⟨ap,m,h0,hu,λhs=>by obtain⟨x,hx,ao⟩:=ac hs;exact⟨x,hx,hS.fH 2 x ao⟩,J⟩⟩
 .obtain⟨e,he,ap,_,_⟩:=hS.BG _ hp;exact⟨e,he,.inl ⟨ap,ak⟩⟩
end
def tt(F:List aE)(G:Env)(l:List du):Prop:=∀s ps,(s,ps)∈G.funcs->∃(e:du) (f:aE),de l s=some e/\e.kind=3/\0<=e.n/\F[e.n.toNat]?=some f/\f.params=ps
theorem tt.app{F:List aE}{G:Env}{l:List du}(h:tt F G l)(x:du):tt F G (l++[x]):=λs ps hs=>by
 obtain⟨e,f,he,r⟩:=h s ps hs;exact⟨e,f,iV he,r⟩
theorem A4{p:bC}(hp:pH p)(aA:f∈p.funcs):tt p.funcs (ik p f) (a6 p++dB f.params 0 0):=by
 intro s ps hs;have bI:((a6 p++dB f.params 0 0).map (·.name)).Nodup:=by
  rw[Ig,fC,fw];exact(hp.funcs f aA).fresh
 obtain⟨g,aM,bY⟩:=Iz.1 hs;injection bY with bT bb;subst bT bb;obtain⟨i,ak⟩:=List.getElem?_of_mem aM;have:=kH bI (Ii.2 (.inl (by unfold a6;exact Ii.2 (.inr (ho (·.name) 3 p.funcs 0 i g ak)))));refine⟨_,g,this,rfl,by show (0:Int)<=((0+i:Nat):Int);omega,?_,rfl⟩;show p.funcs[(((0+i:Nat):Int)).toNat]?=some g
 rw[Iw,It];exact ak
def iB(M:List bJ)(l:List du):List (ByteArray×Bool)->List cW->Prop
 | [],[]=>True
 | p::ps,.mx r::aJ=>(p.2=true/\pz M l r)/\iB M l ps aJ
 | p::ps,.ex e::aJ=>(p.2=false/\fH l e)/\iB M l ps aJ
 | _,_=>False
theorem Sc.iB{U:gV}{G:Env}{l:List du}{V T:IQ}{n nk:Int}(hS:Sc U G l V T n nk):∀(ps:List (ByteArray×Bool)) (aJ:List cW),h9 G V ps aJ->iB U.af l ps aJ
 | [],[],_=>trivial
 | p::ps,.mx r::aJ,h=>⟨⟨h.1.1,hS.pz r h.1.2⟩,Sc.iB hS ps aJ h.2⟩
 | p::ps,.ex e::aJ,h=>⟨⟨h.1.1,hS.fH 2 e h.1.2⟩,Sc.iB hS ps aJ h.2⟩
 | [],_::_,h=>h.elim
 | _::_,[],h=>h.elim
theorem lq{M:List bJ}{l:List du}:∀{ps:List (ByteArray×Bool)} {aJ:List cW},iB M l ps aJ->ps.length=aJ.length
 | [],[],_=>rfl
 | _::ps,.mx _::aJ,h=>by simp[lq h.2]
 | _::ps,.ex _::aJ,h=>by simp[lq h.2]
 | [],_::_,h=>h.elim
 | _::_,[],h=>h.elim
theorem mK{M:List bJ}{l:List du}:∀{ps:List (ByteArray×Bool)} {aJ:List cW},iB M l ps aJ->∀{k:Nat} {q:ByteArray×Bool} {a:cW},ps[k]?=some q->aJ[k]?=some a->
  (∃r,a=.mx r/\q.2=true/\pz M l r)\/(∃e,a=.ex e/\q.2=false/\fH l e)
 | [],[],_,k,q,a,h,_=>by simp at h
 | p::ps,.mx r::aJ,h,0,q,a,ac,J=>by
  simp at ac J;subst ac J
  exact .inl ⟨r,rfl,h.1.1,h.1.2⟩
 | p::ps,.ex e::aJ,h,0,q,a,ac,J=>by
  simp at ac J;subst ac J
  exact .inr ⟨e,rfl,h.1.1,h.1.2⟩
 | p::ps,.mx r::aJ,h,k+1,q,a,ac,J=>mK h.2 (by simpa using ac) (by simpa using J)
 | p::ps,.ex e::aJ,h,k+1,q,a,ac,J=>mK h.2 (by simpa using ac) (by simpa using J)
 | [],_::_,h,_,_,_,_,_=>h.elim
 | _::_,[],h,_,_,_,_,_=>h.elim
theorem hb(l:List du)(aJ:List cW)(a:cW):bG l (aJ++[a])=bG l aJ++bG l [a]/\cj l (aJ++[a])=cj l aJ++cj l [a]:=by
 induction aJ with
 | nil=>exact⟨rfl,rfl⟩
 | cons x aJ aa=>cases x<;>simp[bG,cj,aa.1,aa.2]
structure xW(w:World)(g:Nat)(F:List aE):Prop where
 lt:g<w.heap.size
 ex:∃A n c,n<=1000000/\w.cell? ⟨g,2,none⟩=some (.slice A n c)/\Sl w (av w) A n (F.map c8)
theorem xW.on{w ab:World}{g:Nat}{F:List aE}(h:xW w g F)(O:Ext w ab):xW ab g F:=by
 exact Ay
theorem kA{w:World}:(c8 f).rep w P cs↔∃A n c B m k,cs=[.string f.name,.slice A n c,.slice B m k]/\n<=c/\m<=k/\Sl w P A n (f.params.map ch)/\Sl w P B m (cL f.body):=by
 unfold c8;rw[bw,b9];constructor
 .rintro⟨y,rfl,h⟩;obtain⟨A,n,c,cj,rfl,hc,hs,h⟩:=aA.1 h;obtain⟨B,m,k,bp,rfl,ap,O,h⟩:=aA.1 h;rw[aM] at h;subst h;exact⟨A,n,c,B,m,k,rfl,hc,ap,hs,O⟩
 .rintro⟨A,n,c,B,m,k,rfl,hc,ap,hs,O⟩;exact⟨_,rfl,aA.2 ⟨A,n,c,_,rfl,hc,hs,aA.2 ⟨B,m,k,[],rfl,ap,O,aM.2 rfl⟩⟩⟩
theorem mO(f:aE):(c8 f).sz=3:=rfl
theorem qh(q:ByteArray×Bool):(ch q).sz=2:=rfl
theorem nr{w:World}{q:ByteArray×Bool}:(ch q).rep w P cs↔cs=[.string q.1,.bool q.2]:=by
 unfold ch;rw[bw,b9];constructor
 .rintro⟨y,rfl,h⟩;obtain⟨bp,rfl,J⟩:=eS.1 h;rw[aM] at J;subst J;rfl
 .rintro rfl;exact⟨_,rfl,eS.2 ⟨_,rfl,aM.2 rfl⟩⟩
theorem EK:b2 prog 131 130 (.agg #[.bool false,.int .i64 0,.slice none 0 0]) 3 40:=b2.mk' Tryz.underlying131 (by kernel_rfl) rfl ad
abbrev eX(op t:Int)(g:Bool)(IA:IP)(i ic:Nat)(bo:IP)(k lc:Nat):Array Value:=
 #[.int .i64 op,.int .i64 t,.bool g,.int .i64 0,.int .i64 0,.string ⟨#[]⟩,.slice none 0 0,.bool false,.int .i64 0,.slice none 0 0,.slice IA i ic,.slice bo k lc]
theorem AX{w:World}{r:eC}(h:(ep (.mx r)).rep w P cs):∃s A n c A2 c2,cs=[.bool true,.string s,.slice A n c,.int .i64 0,.int .i64 0,.string ⟨#[]⟩,.slice A2 0 c2]/\(j9 r).rep w P [.string s,.slice A n c]:=by
 exact DU
namespace zs
theorem tJ(h:p:=by
 obtain⟨A,n,c,a5,rfl,_,_,bi⟩:=aA.1 hx;rw[aM] at bi;subst bi;rw[D.bo] at a4;obtain⟨A2,cI,c2,rfl,_,_⟩:=aW.1 a4;exact⟨_,_,_,_,_,_,_,_,_,rfl,a4⟩
 ):p:=h
end zs
open zs in
theorem AV{w:World}{e:VE}(h:(ep (.ex e)).rep w P cs):∃ce bO rc op n s A m c,cs=[.bool false,.string ⟨#[]⟩,.slice ce bO rc,.int .i64 op,.int .i64 n,.string s,.slice A m c]/\(a7 e).rep w P [.int .i64 op,.int .i64 n,.string s,.slice A m c]:=by
 exact tI
theorem pB{w:World}{l:List D}(h:D.aO w P l cs):D.aO w P (jl::l) (.int .i64 0::.int .i64 0::.string ⟨#[]⟩::.slice none 0 0::cs):=
 dj.2 ⟨[.int .i64 0,.int .i64 0,.string ⟨#[]⟩,.slice none 0 0],cs,rfl,eP.2 ⟨none,0,rfl⟩,h⟩
theorem nE{w:World}{l:List D}(h:D.aO w P l cs):D.aO w P (c9 jM::l) (.bool false::.int .i64 0::.slice none 0 0::cs):=
 dj.2 ⟨[.bool false,.int .i64 0,.slice none 0 0],cs,rfl,eh.2 ⟨none,0,0,rfl,Hx _,Sl.bH _⟩,h⟩
theorem iR{w:World}{op t:Int}{g:Bool}{is:List VE}{ps:List bK}{IA:IP}{i ic:Nat}{bo:IP}{lc:Nat}(ac:Sl w P IA i (is.map a7))(J:Sl w P bo k (ps.map c9))(c1:i<=ic)(c2:k<=lc):
  (dN ⟨op,t,g,none,jM,is,ps⟩).rep w P (eX op t g IA i ic bo k lc).toList:=by
 unfold dN;rw[bw];exact a2.2 ⟨_,rfl,a2.2 ⟨_,rfl,eS.2 ⟨_,rfl,pB (nE (aA.2 ⟨IA,i,ic,_,rfl,c1,ac,aA.2 ⟨bo,k,lc,[],rfl,c2,J,aM.2 rfl⟩⟩))⟩⟩⟩
theorem tQ:b2 prog 116 133 (.agg (eX 0 0 false none 0 0 none 0 0)) 12 168:=b2.mk' Tryz.underlying116 (by kernel_rfl) rfl ad
structure cw(w:World)(g B:Nat)(M:List bJ)(F:List aE)(l:List du)(bo:IP)(ln lc:Nat)(n:Int)(st:Nat)(code:List az)(sites:List Int)(S:IP)(bR:Nat)(bE:IP)(br:Nat):Prop where
 blk:∃GA gn gc MA mn mc FA fn fc,an w g 165 #[.slice GA gn gc,.slice MA mn mc,.slice FA fn fc,.slice bo ln lc,.int .i64 n,.int .i64 st,.int .i64 0,.int .i64 0,.slice S code.length bR,.slice bE sites.length br]/\mn<=1000000/\fn<=1000000/\
  Sl w (off (Ms g (.slice S code.length bR) (.slice bE sites.length br)) w) MA mn (M.map er)/\Sl w (off (Ms g (.slice S code.length bR) (.slice bE sites.length br)) w) FA fn (F.map c8)
 base:g<B/\B<=w.heap.size
 names:ln<=1000000/\Sl w (off (Ms g (.slice S code.length bR) (.slice bE sites.length br)) w) bo ln (l.map bP)
 rows:kV B 133 12 3 1 w S code.length bR (code.map dN) bE sites.length br (sites.map D.i)
section
variable {w ab aO aT b4 eG X:World} {g B:Nat} {M:List bJ} {F:List aE} {l:List du} {bo:IP} {ln lc:Nat} {n:Int} {st:Nat} {code:List az} {sites:List Int} {S:IP} {bR:Nat} {bE:IP} {br:Nat}
theorem cw.lt(h:cw w g B M F l bo ln lc n st code sites S bR bE br):g<w.heap.size:=by
 obtain⟨GA,gn,gc,MA,mn,mc,FA,fn,fc,aS,_⟩:=h.blk;exact aS.lt
theorem cw.L(h:cw w g B M F l bo ln lc n st code sites S bR bE br):r2 w g l:=by
 obtain⟨GA,gn,gc,MA,mn,mc,FA,fn,fc,aS,_⟩:=h.blk;exact⟨aS.lt,bo,ln,lc,h.names.1,aS.cell 3,h.names.2.mono λb O=>O.1⟩
theorem cw.M_(h:cw w g B M F l bo ln lc n st code sites S bR bE br):wP w g M:=by
 obtain⟨GA,gn,gc,MA,mn,mc,FA,fn,fc,aS,ac,J,aR,bv⟩:=h.blk;exact⟨aS.lt,MA,mn,mc,ac,aS.cell 1,aR.mono λb O=>O.1⟩
theorem cw.F_(h:cw w g B M F l bo ln lc n st code sites S bR bE br):xW w g F:=by
 obtain⟨GA,gn,gc,MA,mn,mc,FA,fn,fc,aS,ac,J,aR,bv⟩:=h.blk;exact⟨aS.lt,FA,fn,fc,J,aS.cell 2,bv.mono λb O=>O.1⟩
theorem cw.aj(h:cw w g B M F l bo ln lc n st code sites S bR bE br)(he:Ext w ab):cw ab g B M F l bo ln lc n st code sites S bR bE br:=by
 obtain⟨GA,gn,gc,MA,mn,mc,FA,fn,fc,aS,ac,J,aR,bv⟩:=h.blk;exact⟨⟨GA,gn,gc,MA,mn,mc,FA,fn,fc,aS.aj he,ac,J,aR.cz (Mv.gL he),bv.cz (Mv.gL he)⟩,⟨h.base.1,Ir h.base.2 he.size⟩,⟨h.names.1,h.names.2.cz (Mv.gL he)⟩,h.rows.aj he⟩
abbrev G2(B g:Nat)(cv sv:Value)(w:World):Nat->Prop:=λb=>B<=b/\off (Ms g cv sv) w b
theorem cw.added(h:cw w g B M F l bo ln lc n st code sites S bR bE br){x:az}{s:Int}{Y aM:IP}{aF bn:Nat}(e1:Ext w aO)
  (ac:Gr (λb=>B<=b/\(Value.slice bE sites.length br).ownBlock≠some b) B 133 12 aT Y (code.length+1) aF (code.map dN++[dN x])) (f1:Fr (λb=>(Value.slice S code.length bR).ownBlock=some b) aO aT) (o1:c6 aO S code.length bR Y (code.length+1) aF)
  (e2:Ext aT b4) (J:Gr (λb=>B<=b/\(Value.slice Y (code.length+1) aF).ownBlock≠some b) B 3 1 eG aM (sites.length+1) bn (sites.map D.i++[D.i s])) (f2:Fr (λb=>(Value.slice bE sites.length br).ownBlock=some b) b4 eG) (fg:c6 b4 bE sites.length br aM (sites.length+1) bn)
  (hX:(eG.setCell ⟨g,8,none⟩ (.slice Y (code.length+1) aF)).setCell ⟨g,9,none⟩ (.slice aM (sites.length+1) bn)=X) :
  cw X g B M F l bo ln lc n st (code++[x]) (sites++[s]) Y aF aM bn/\Mv g (.slice S code.length bR) (.slice bE sites.length br) w (.slice Y (code.length+1) aF) (.slice aM (sites.length+1) bn) X:=by
 have al:=h.lt;have bT:=CD hX;have s1:=e1.size;have s2:=f1.size;have bl:=e2.size;have a6:Mv g (.slice S code.length bR) (.slice bE sites.length br) w (.slice Y (code.length+1) aF) (.slice aM (sites.length+1) bn) X:=by
  refine⟨Fr.trans (Fr.mono e1 λ_ h=>h.elim) (Fr.trans (f1.mono λb O=>.inr (.inl O)) (Fr.trans (Fr.mono e2 λ_ h=>h.elim) (Fr.trans (f2.mono λb O=>.inr (.inr O)) (bT.mono λb O=>.inl O)))),λb O hm=>?_⟩;rcases hm with hm|hm|hm
  .exact .inl hm
  .rcases o1 b hm with ac|ac
   .exact .inr (.inl ac)
   .omega
  .rcases fg b hm with ac|ac
   .exact .inr (.inr ac)
   .omega
 refine⟨?_,a6⟩;obtain⟨GA,gn,gc,MA,mn,mc,FA,fn,fc,aS,cm,bZ,cC,b5⟩:=h.blk;have a:∀b,(Value.slice S code.length bR).ownBlock=some b->g<b:=λb O=>Hy h.base.1 (h.rows.one.lt O).1;have P:∀b,(Value.slice bE sites.length br).ownBlock=some b->g<b:=λb O=>Hy h.base.1 (h.rows.two.lt O).1;have bH:an eG g _ _:=(((aS.aj e1).on f1 λO=>by have:=a _ O;omega).aj e2).on f2 λO=>by have:=P _ O;omega
 have bI:kV B 133 12 3 1 b4 Y (code.length+1) aF (code.map dN++[dN x]) bE sites.length br (sites.map D.i):=((h.rows.aj e1).grow ac f1 o1).aj e2;have z:=(bI.swap.grow J f2 fg).swap;refine⟨⟨GA,gn,gc,MA,mn,mc,FA,fn,fc,?_,cm,bZ,?_,?_⟩,⟨h.base.1,Ir h.base.2 a6.fr.size⟩,⟨h.names.1,?_⟩,?_⟩
 .rw[<-hX,Hz,Hz];exact(bH.aI 8 _).aI 9 _
 .rw[Hz,Hz];exact cC.cz a6
 .rw[Hz,Hz];exact b5.cz a6
 .rw[Hz,Hz];exact h.names.2.cz a6
 .rw[Ig,Ig,Hz,Hz];exact z.dh bT λb O _=>by have:=h.base.1;omega
end
def Ex(w:World)(g B:Nat)(M:List bJ)(F:List aE)(l:List du)(bo:IP)(ln lc:Nat)(n:Int)(st:Nat)(code:List az)(sites:List Int)(S:IP)(bR:Nat)(bE:IP)(br:Nat)(x:az)(s:Int)(e:Ending)(ab:World):Prop:=
 e=.returned (.int .i64 code.length)/\∃Y aF aM bn,cw ab g B M F l bo ln lc n st (code++[x]) (sites++[s]) Y aF aM bn/\Mv g (.slice S code.length bR) (.slice bE sites.length br) w (.slice Y (code.length+1) aF) (.slice aM (sites.length+1) bn) ab
theorem gF{w:World}{g B:Nat}{M:List bJ}{F:List aE}{l:List du}{bo:IP}{ln lc:Nat}{n:Int}{st:Nat}{code:List az}{sites:List Int}{S:IP}{bR:Nat}{bE:IP}{br:Nat}(h:cw w g B M F l bo ln lc n st code sites S bR bE br)
  (x:az) (s:Int) {op t:Int} {gl:Bool} {eo en:Int} {es:ByteArray} {EA:IP} {em ec:Nat} {pb:Bool} {pi:Int} {PA:IP} {pm pc:Nat} {IA:IP} {i ic:Nat} {KA:IP} {k kc:Nat}
  (hx:(dN x).rep w (G2 B g (.slice S code.length bR) (.slice bE sites.length br) w) [.int .i64 op,.int .i64 t,.bool gl,.int .i64 eo,.int .i64 en,.string es,.slice EA em ec,.bool pb,.int .i64 pi,.slice PA pm pc,.slice IA i ic,.slice KA k kc])
  (ac:code.length<=100000) (J:sites.length<=100000) :
  Calls prog 55 #[.pointer (some ⟨g,0,none⟩),.agg #[.int .i64 op,.int .i64 t,.bool gl,.int .i64 eo,.int .i64 en,.string es,.slice EA em ec,.bool pb,.int .i64 pi,.slice PA pm pc,.slice IA i ic,.slice KA k kc],.int .i64 s] w
   (Ex w g B M F l bo ln lc n st code sites S bR bE br x s):=by
 obtain⟨H,aV⟩:=aN h hx;obtain⟨GA,gn,gc,MA,mn,mc,FA,fn,fc,aS,_⟩:=h.blk;have a7:=ae aS;clear h hx aS;go_enter func55,ntmps55;go_upto_region 1 with(fail);generalize ba:World.alloc _ _=W;have aw:=bm ba;have b5:=aU ba;clear ba;obtain⟨bf,dL⟩:=aN aw b5;obtain⟨aI,aj,af⟩:=b5.two;obtain⟨be,am,aH⟩:=(a7.aj aw).two;have dP:=a7.lt;have gp:=aw.size;have cX:=H.base.1;have r:=H.base.2;clear aw b5;have bV:¬(Value.slice S code.length bR).ownBlock=some g:=λO=>by have:=(H.rows.one.lt O).1;omega
 have m:¬(Value.slice S code.length bR).ownBlock=some w.heap.size:=λO=>by have:=(H.rows.one.lt O).2;omega
 have a2:∀b,(Value.slice S code.length bR).ownBlock=some b->b<W.heap.size:=λb O=>by have:=(H.rows.one.lt O).2;omega
 have y:∀b,(Value.slice bE sites.length br).ownBlock=some b->b<W.heap.size:=λb O=>by have:=(H.rows.two.lt O).2;omega
 have v:(dN x).rep W (kJ (λb=>B<=b/\(Value.slice bE sites.length br).ownBlock≠some b) W (.slice S code.length bR)) _:=
  D.aH (λb O=>⟨⟨O.1,λhc=>O.2.2 (.inr (.inr hc))⟩,Hy O.2.1 gp,λhc=>O.2.2 (.inr (.inl hc))⟩) _ _ (D.aT (λb O=>bf.block b O.2.1 λh=>h) _ _ aV.o)
 have o:=H.rows.aj bf.o;obtain⟨j,ay⟩:=aN v o;clear v o;refine sU (λb=>(Value.slice S code.length bR).ownBlock=some b) [15,18,21] (.free 0 (.free 1 (.free 2 (.free 3 (.free 4 (.held 5 (.held 6 (.free 9 (.free 10 (.free 11 (.held 12 (.free 13 (.pick [7,14] (λi=>bif i == 7 then .pick [8,14] (λi=>bif i == 8 then .pick [14] (λ_=>.pick [15] (λ_=>.free 16 (.free 17 (.pick [18] (λ_=>.free 19 (.free 20 (.pick [21] (λ_=>.stop)))))))) else .pick [8] (λ_=>.pick [15] (λ_=>.free 16 (.free 17 (.pick [18] (λ_=>.free 19 (.free 20 (.pick [21] (λ_=>.stop))))))))) else .pick [7] (λ_=>.pick [8] (λ_=>.pick [15] (λ_=>.free 16 (.free 17 (.pick [18] (λ_=>.free 19 (.free 20 (.pick [21] (λ_=>.stop))))))))))))))))))))))) ?_
 iterate 5 refine tf ?_
 iterate 2 refine rL ?_
 iterate 3 refine tf ?_
 refine rL ?_;refine tf ?_;refine h8 (P:=?P1) (ops:=?o1) (Q:=?q1) (R:=?r1) (tails:=?t1) (rest:=.pick [15] (λ_=>.free 16 (.free 17 (.pick [18] (λ_=>.free 19 (.free 20 (.pick [21] (λ_=>.stop)))))))) (aa:=?Hr)
  (C:=λ(_:Nat) b3 A2 c2 V=>True/\∃aO aT,Ext W aO/\Gr (λb=>B<=b/\(Value.slice bE sites.length br).ownBlock≠some b) B 133 12 aT A2 (code.length+1) c2 (code.map dN++[dN x])/\Fr (λb=>(Value.slice S code.length bR).ownBlock=some b) aO aT/\c6 aO S code.length bR A2 (code.length+1) c2/\Ext aT V/\an V b3 3 #[.int .i64 s]) (λkey=>?F0) ?GK
 case F0=>
  refine a5 ?_ ?_
  ·
   refine dS ?_;generalize hV:World.drew (World.alloc _ _)=cb;have e1:=gX hV;have cj:an cb W.heap.size 133 #[.int .i64 op,.int .i64 t,.bool gl,.int .i64 eo,.int .i64 en,.string es,.slice EA em ec,.bool pb,.int .i64 pi,.slice PA pm pc,.slice IA i ic,.slice KA k kc]:=hV▸IL;clear hV;refine a5 ?_ ?_
   ·
    refine aG rfl (λK hK=>?_) rfl;rw[if_pos (by rfl)];refine eK tQ (.tmp 12) (.tmp 14) (by rfl) (ay.aj e1).one cj (uk j.o e1) (by rfl) (by rfl) (by rfl) ad ad (aC e1.size) ?_;intro Y aF aT b0 f1 o1 c1;refine dA hK (f1) ?_;clear hK K;refine aq ?_;refine dS ?_;have F:True/\∃aO f,Ext W aO/\Gr (λb=>B<=b/\(Value.slice bE sites.length br).ownBlock≠some b) B 133 12 f Y (code.length+1) aF (code.map dN++[dN x])/\Fr (λb=>(Value.slice S code.length bR).ownBlock=some b) aO f/\c6 aO S code.length bR Y (code.length+1) aF/\Ext f (aT.alloc (.cells #[.int .i64 s] 3))/\an (aT.alloc (.cells #[.int .i64 s] 3)) (aT.heap.size) 3 #[.int .i64 s]:=
     ⟨trivial,cb,aT,e1,b0,f1,o1,IK.alloc _,IL⟩
    clear b0 o1;revert F;generalize aT.heap.size=b3;generalize W.heap.size=ck;intro F;exact key ck b3 Y aF _ F
   ·
    refine dS ?_;generalize hV:World.alloc _ _=T;have bq:an T cb.heap.size 3 #[.int .i64 s]:=hV▸IL;have aR:=by have:=cj.alloc (.cells #[.int .i64 s] 3);rw[hV] at this;exact this
    have e2:Ext W T:=hV▸e1.alloc _;clear hV cj;refine aq ?_;refine aG rfl (λK hK=>?_) rfl;rw[if_pos (by rfl)];refine eK tQ (.tmp 12) (.tmp 14) (by rfl) (ay.aj e2).one aR (uk j.o e2) (by rfl) (by rfl) (by rfl) ad ad (aC e2.size) ?_;intro Y aF aT b0 f1 o1 c1;refine dA hK (f1) ?_;clear hK K;have aZ:¬(Value.slice S code.length bR).ownBlock=some cb.heap.size:=λO=>by have:=a2 _ O;have:=e1.size;omega
    have F:True/\∃aO f,Ext W aO/\Gr (λb=>B<=b/\(Value.slice bE sites.length br).ownBlock≠some b) B 133 12 f Y (code.length+1) aF (code.map dN++[dN x])/\Fr (λb=>(Value.slice S code.length bR).ownBlock=some b) aO f/\c6 aO S code.length bR Y (code.length+1) aF/\Ext f aT/\an aT (cb.heap.size) 3 #[.int .i64 s]:=
     ⟨trivial,T,aT,e2,b0,f1,o1,IK,bq.on f1 aZ⟩
    clear b0 o1;revert F;generalize cb.heap.size=b3;generalize W.heap.size=ck;intro F;exact key ck b3 Y aF _ F
  ·
   refine dS ?_;generalize hV:World.drew (World.alloc _ _)=cb;have bq:an cb W.heap.size 3 #[.int .i64 s]:=hV▸IL;have e1:=gX hV;clear hV;refine aq ?_;refine dS ?_;generalize hV:World.alloc _ _=T;have e2:Ext W T:=hV▸e1.alloc _;have cj:=aU hV;have aY:an T W.heap.size 3 #[.int .i64 s]:=hV▸bq.alloc _;clear hV;refine aq ?_;refine aG rfl (λK hK=>?_) rfl;rw[if_pos (by rfl)];refine eK tQ (.tmp 12) (.tmp 14) (by rfl) (ay.aj e2).one cj (uk j.o e2) (by rfl) (by rfl) (by rfl) ad ad (aC e2.size) ?_;intro Y aF aT b0 f1 o1 c1;refine dA hK (f1) ?_;clear hK K;have aZ:¬(Value.slice S code.length bR).ownBlock=some W.heap.size:=λO=>by have:=a2 _ O;omega
   have F:True/\∃aO f,Ext W aO/\Gr (λb=>B<=b/\(Value.slice bE sites.length br).ownBlock≠some b) B 133 12 f Y (code.length+1) aF (code.map dN++[dN x])/\Fr (λb=>(Value.slice S code.length bR).ownBlock=some b) aO f/\c6 aO S code.length bR Y (code.length+1) aF/\Ext f aT/\an aT (W.heap.size) 3 #[.int .i64 s]:=
    ⟨trivial,T,aT,e2,b0,f1,o1,IK,aY.on f1 aZ⟩
   clear b0 o1;revert F;generalize W.heap.size=b3;generalize cb.heap.size=ck;intro F;exact key ck b3 Y aF _ F
 case GK=>
  rintro ck b3 Y aF V ⟨z,aO,aT,e1,b0,f1,o1,e2,bq⟩;have s1:=e1.size;have s2:=f1.size;have bl:=e2.size;have bS:kV B 133 12 3 1 V Y (code.length+1) aF (code.map dN++[dN x]) bE sites.length br (sites.map D.i):=((ay.aj e1).grow b0 f1 o1).aj e2;have bK:an V g _ _:=(((a7.aj bf.o).aj e1).on f1 bV).aj e2;have u:¬(Value.slice bE sites.length br).ownBlock=some g:=λO=>by have:=(H.rows.two.lt O).1;omega
  clear aI aj af be am aH;refine aq ?_;refine bA rfl (λK hK=>?_) rfl;rw[if_pos (by rfl)];refine eK dT (.tmp 19) (.tmp 21) (by rfl) bS.two bq (show (D.i s).rep V _ _ from by simp only[D.rep]) (by rfl) (by rfl) (by rfl) ad ad ad ?_;intro aM bn eG g2 f2 fg c2;have b2:=aL g2 f2 fg;have bH:=bK.on f2 u;have aD:=cK e1 b0 f1 o1 e2;clear g2 f2 fg bK bq e1 b0 f1 o1 e2 bS;obtain⟨be,am,aH⟩:=bH.two;refine dW hK ?_;clear hK K
  iterate 2 refine tf ?_
  refine aq ?_;refine bA rfl (λK hK=>?_) rfl;go_simp;refine dW hK ?_;clear hK K
  iterate 2 refine tf ?_
  refine aq ?_;refine bA rfl (λK hK=>?_) rfl;go_simp;refine dW hK ?_;clear hK K;refine cr ?_;generalize hX:World.setCell _ _ _=X;obtain⟨e1,b0,f1,o1,e2⟩:=aD.o;obtain⟨hS,a6⟩:=cw.added H.o (bf.trans e1) b0 f1 o1 e2 b2.1 b2.2.1 b2.2.2 hX;have bs:=ai hS a6;obtain⟨a4,cu,aW,et,gt,eA,cW,f7,cI,bQ,_⟩:=hS.blk;clear hX be am aH bH hS a6 e1 b0 f1 o1 e2;obtain⟨be,am,aH⟩:=bQ.two;go_wp2;go_ret;refine⟨ret_int ?_,Y,aF,aM,bn,?_⟩
  .simp
  .exact bs.o
def ia(t:Nat)(l:List ay):List UInt8:=(l.map (db t)).flatten
theorem wR{t:Nat}{l:List ay}{s:ay}(h:l[k]?=some s):ia t (l.take (k+1))=ia t (l.take k)++db t s:=by
 unfold ia;rw[List.take_add_one,h,Ig,List.flatten_append];simp
theorem vQ(t:Nat)(l:List ay)(k:Nat):(ia t (l.take k)).length<=(ia t l).length:=by
 conv=>rhs;rw[<-List.take_append_drop k l]
 unfold ia;rw[Ig,List.flatten_append,Hz];omega
theorem eF:∀b:ak,b.list.length<=b.num
 | .nil=>Hx _
 | .set v n e rest=>by have:=eF rest;simp[ak.list,ak.num];omega
 | .call g n aJ rest=>by have:=eF rest;simp[ak.list,ak.num];omega
 | .lock u r rest=>by have:=eF rest;simp[ak.list,ak.num];omega
 | .ite e th el rest=>by have:=eF rest;simp[ak.list,ak.num];omega
 | .fY e th rest=>by have:=eF rest;simp[ak.list,ak.num];omega
 | .ret rest=>by have:=eF rest;simp[ak.list,ak.num];omega
namespace zK
theorem yr(h:p:=by
 exact zj
 ):p:=h
theorem tD(h:p:=by
 have S:=ae E;clear Z dT E b1 m bd O;go_upto_region 7 with(fail);generalize ba:World.alloc wr _=W;have l:=bm ba;have aS:=aU ba;obtain⟨a7,R⟩:=aN aS l;have bq:=ae (D.on S.expr (Fr.ext l));have ab:=ae (D.on S.ref (Fr.ext l));have U:=ae (S.args.on (Fr.ext l));have aa:=ae (S.th.on (Fr.ext l));have Q:=ae (S.el.on (Fr.ext l));obtain⟨aI,aj,af⟩:=aS.two;clear ba l aS d0 d1 d2 d3 d4 d5 d6 d7 d8 d9 d10 S aX;have av:(strOf (ia t (b.list.take k))++T).size<=2000000:=by rw[ByteArray.size_append];omega
 generalize I:strOf (ia t (b.list.take k))++T=pre at *;have y:=ae I.symm;clear I bi
 cases s with
 | set v nm e=>
  obtain⟨N,d,hx⟩:=aQ.expr e rfl;have aV:=ae (ji N d e hx);have cr:(bM e).length<=262144:=by have:=aL.o;simp[db] at this;omega
  have f:=ae cr;have bu:(strOf (bM e)).size<=262144:=by rw[aK];exact cr
  have z:nm.size<=262144:=by have:=aL.o;simp[db] at this;have J:nm.size=nm.data.toList.length:=rfl;simp at J;omega
  clear cr hx;simp only[ay.kind,ay.name] at *;cases v
  .simp only[II,if_false] at *;have aP:=ae (show (((((pre++nm)++(⟨#[32,61,32]⟩:ByteArray))++strOf (bM e))++(⟨#[59]⟩:ByteArray))++(⟨#[10]⟩:ByteArray))=strOf (ia t (b.list.take (k+1))) by
    rw[i.o,y.o,<-bX.o];rw[show (⟨#[32,61,32]⟩:ByteArray)=strOf [32,61,32] from rfl];rw[show (⟨#[59]⟩:ByteArray)=strOf [59] from rfl];rw[show (⟨#[10]⟩:ByteArray)=strOf [10] from rfl];conv=>lhs;rw[<-cS nm]
    rw[ag,ag,ag,ag,ag,ag];simp[db])
   go_wp2;refine eB (λ_=>False) [(0,3),(1,3),(2,0),(3,3),(4,3),(5,3),(6,0),(7,1),(8,3),(9,3),(10,3)] ?_
   iterate 2 refine pf ?_
   refine ph ?_;refine a9 (v:=?_) rfl (by rfl) (λV=>?_) ?_;rotate_left
   .go_simp;exact dQ
   try simp only[PU]
   refine a9 (v:=?_) rfl (by rfl) (λV=>?_) ?_;rotate_left
   .go_simp;exact dQ
   try simp only[PU]
   refine pf ?_;refine ph ?_;refine aD rfl (λK hK=>?_);go_simp;refine(aV.o _ _ _ _ _ _ _ (D.on bq.o (Fr.ext IK.drew)) f.o).mono ?_;exact yq
  .simp only[if_true] at *;have aP:=ae (show ((((((pre++(⟨#[118,97,114,32]⟩:ByteArray))++nm)++(⟨#[32,61,32]⟩:ByteArray))++strOf (bM e))++(⟨#[59]⟩:ByteArray))++(⟨#[10]⟩:ByteArray))=strOf (ia t (b.list.take (k+1))) by
    rw[i.o,y.o,<-bX.o];rw[show (⟨#[118,97,114,32]⟩:ByteArray)=strOf [118,97,114,32] from rfl];rw[show (⟨#[32,61,32]⟩:ByteArray)=strOf [32,61,32] from rfl];rw[show (⟨#[59]⟩:ByteArray)=strOf [59] from rfl];rw[show (⟨#[10]⟩:ByteArray)=strOf [10] from rfl];conv=>lhs;rw[<-cS nm]
    rw[ag,ag,ag,ag,ag,ag,ag];simp[db])
   go_wp2;refine eB (λ_=>False) [(0,3),(1,3),(2,3),(3,0),(4,3),(5,3),(6,3),(7,0),(8,1),(9,3),(10,3),(11,3)] ?_;refine pf ?_;refine a9 (v:=?_) rfl (by rfl) (λV=>?_) ?_;rotate_left
   .go_simp;exact dQ
   try simp only[PU]
   refine pf ?_;refine ph ?_;refine a9 (v:=?_) rfl (by rfl) (λV=>?_) ?_;rotate_left
   .go_simp;exact dQ
   try simp only[PU]
   refine a9 (v:=?_) rfl (by rfl) (λV=>?_) ?_;rotate_left
   .go_simp;exact dQ
   try simp only[PU]
   refine pf ?_;refine ph ?_;refine aD rfl (λK hK=>?_);go_simp;refine(aV.o _ _ _ _ _ _ _ (D.on bq.o (Fr.ext IK.drew)) f.o).mono ?_
   exact zb
 | call g nm aJ=>
  have aV:=ae (q2 aJ aQ.args);have cr:(g6 aJ).length<=262144:=by have:=aL.o;simp[db] at this;omega
  have f:=ae cr;have cM:n1<=1000:=by have ac:=U.1;have J:=aQ.hW;simp[ay.args] at ac J;omega
  have Y:=ae cM;have bu:(strOf (g6 aJ)).size<=262144:=by rw[aK];exact cr
  have z:nm.size<=262144:=by have:=aL.o;simp[db] at this;have J:nm.size=nm.data.toList.length:=rfl;simp at J;omega
  clear cr cM;simp only[ay.kind,ay.name] at *;cases g
  .simp only[II,if_false] at *;have aP:=ae (show ((((pre++nm)++strOf (g6 aJ))++(⟨#[59]⟩:ByteArray))++(⟨#[10]⟩:ByteArray))=strOf (ia t (b.list.take (k+1))) by
    rw[i.o,y.o,<-bX.o];rw[show (⟨#[59]⟩:ByteArray)=strOf [59] from rfl];rw[show (⟨#[10]⟩:ByteArray)=strOf [10] from rfl];conv=>lhs;rw[<-cS nm]
    rw[ag,ag,ag,ag,ag];simp[db])
   go_wp2;refine eB (λ_=>False) [(0,3),(1,3),(2,0),(3,3),(4,3),(5,0),(6,1),(7,3),(8,3),(9,3)] ?_
   iterate 2 refine pf ?_
   exact zi
  .simp only[if_true] at *;have aP:=ae (show (((((pre++(⟨#[103,111,32]⟩:ByteArray))++nm)++strOf (g6 aJ))++(⟨#[59]⟩:ByteArray))++(⟨#[10]⟩:ByteArray))=strOf (ia t (b.list.take (k+1))) by
    rw[i.o,y.o,<-bX.o];rw[show (⟨#[103,111,32]⟩:ByteArray)=strOf [103,111,32] from rfl];rw[show (⟨#[59]⟩:ByteArray)=strOf [59] from rfl];rw[show (⟨#[10]⟩:ByteArray)=strOf [10] from rfl];conv=>lhs;rw[<-cS nm]
    rw[ag,ag,ag,ag,ag,ag];simp[db])
   go_wp2;refine eB (λ_=>False) [(0,3),(1,3),(2,3),(3,0),(4,3),(5,3),(6,0),(7,1),(8,3),(9,3),(10,3)] ?_;refine pf ?_;refine a9 (v:=?_) rfl (by rfl) (λV=>?_) ?_;rotate_left
   .go_simp;exact dQ
   try simp only[PU]
   refine pf ?_
   exact zi
 | lock u r=>
  have aV:=ae (kk r (aQ.ref r rfl));have cr:(fI r).length<=262144:=by have:=aL.o;simp[db] at this;omega
  have f:=ae cr;have bu:(strOf (fI r)).size<=262144:=by rw[aK];exact cr
  clear cr;simp only[ay.kind,ay.name] at *;cases u
  .simp only[II,if_false] at *;have aP:=ae (show ((((pre++(⟨#[108,111,99,107,32]⟩:ByteArray))++strOf (fI r))++(⟨#[59]⟩:ByteArray))++(⟨#[10]⟩:ByteArray))=strOf (ia t (b.list.take (k+1))) by
    rw[i.o,y.o,<-bX.o];rw[show (⟨#[108,111,99,107,32]⟩:ByteArray)=strOf [108,111,99,107,32] from rfl];rw[show (⟨#[59]⟩:ByteArray)=strOf [59] from rfl];rw[show (⟨#[10]⟩:ByteArray)=strOf [10] from rfl];rw[ag,ag,ag,ag,ag];simp[db])
   exact ze
  .simp only[if_true] at *;have aP:=ae (show ((((pre++(⟨#[117,110,108,111,99,107,32]⟩:ByteArray))++strOf (fI r))++(⟨#[59]⟩:ByteArray))++(⟨#[10]⟩:ByteArray))=strOf (ia t (b.list.take (k+1))) by
    rw[i.o,y.o,<-bX.o];rw[show (⟨#[117,110,108,111,99,107,32]⟩:ByteArray)=strOf [117,110,108,111,99,107,32] from rfl];rw[show (⟨#[59]⟩:ByteArray)=strOf [59] from rfl];rw[show (⟨#[10]⟩:ByteArray)=strOf [10] from rfl];rw[ag,ag,ag,ag,ag];simp[db])
   exact ze
 | fY e th=>
  obtain⟨N,d,hx⟩:=aQ.expr e rfl;have aV:=ae (ji N d e hx);have cr:(bM e).length<=262144:=by have:=aL.o;simp[db] at this;omega
  have bz:(cn (t+1) th).length<=262144:=by have:=aL.o;simp[db] at this;unfold cn;omega
  obtain⟨f,H⟩:=aN cr bz;have bu:(strOf (bM e)).size<=262144:=by rw[aK];exact cr
  have z:(strOf (cn (t+1) th)).size<=262144:=by rw[aK];exact bz
  have q:=ae (show T++⟨#[9]⟩=strOf (List.replicate (t+1) 9) by rw[<-bX.o,show (⟨#[9]⟩:ByteArray)=strOf [9] from rfl,ag,List.replicate_succ']);have L:=ae (show t+1+th.num<=1000000 by
   have ac:=ao.o;have J:=eF b;have aR:=bL.o;rcases aQ.E2 with h|h
   .simp only[ay.th] at h;omega
   .simp only[ay.th] at h;subst h;simp only[ak.num];omega)
  clear cr hx bz;simp only[ay.kind,ay.name] at *;obtain rfl:bY=0:=by have:=Q.1;simpa[ay.el,cL] using this.symm
  have aP:=ae (show (((((((pre++(⟨#[119,104,105,108,101,32]⟩:ByteArray))++strOf (bM e))++(⟨#[32,123,10]⟩:ByteArray))++strOf (cn (t+1) th))++T)++(⟨#[125]⟩:ByteArray))++(⟨#[10]⟩:ByteArray))=strOf (ia t (b.list.take (k+1))) by
   rw[i.o,y.o,<-bX.o];rw[show (⟨#[119,104,105,108,101,32]⟩:ByteArray)=strOf [119,104,105,108,101,32] from rfl];rw[show (⟨#[32,123,10]⟩:ByteArray)=strOf [32,123,10] from rfl];rw[show (⟨#[125]⟩:ByteArray)=strOf [125] from rfl];rw[show (⟨#[10]⟩:ByteArray)=strOf [10] from rfl];rw[ag,ag,ag,ag,ag,ag,ag,ag];simp[db,cn])
  exact za
 | ite e th el=>
  obtain⟨N,d,hx⟩:=aQ.expr e rfl;have aV:=ae (ji N d e hx);have cr:(bM e).length<=262144:=by have:=aL.o;simp[db] at this;omega
  have bz:(cn (t+1) th).length<=262144:=by have:=aL.o;simp[db] at this;unfold cn;omega
  obtain⟨f,H⟩:=aN cr bz;have bu:(strOf (bM e)).size<=262144:=by rw[aK];exact cr
  have z:(strOf (cn (t+1) th)).size<=262144:=by rw[aK];exact bz
  have q:=ae (show T++⟨#[9]⟩=strOf (List.replicate (t+1) 9) by rw[<-bX.o,show (⟨#[9]⟩:ByteArray)=strOf [9] from rfl,ag,List.replicate_succ']);have L:=ae (show t+1+th.num<=1000000 by
   have ac:=ao.o;have J:=eF b;have aR:=bL.o;rcases aQ.E2 with h|h
   .simp only[ay.th] at h;omega
   .simp only[ay.th] at h;subst h;simp only[ak.num];omega)
  clear cr hx bz;simp only[ay.kind,ay.name] at *;have x:=ae Q.1;by_cases dG:bY=0
  .subst dG;have j:=ae (show el.isNil=true by have ac:=x.o;simp only[ay.el,ct,Ib] at ac;cases el<;>first|rfl|simp[ak.list] at ac);have aP:=ae (show (((((((pre++(⟨#[105,102,32]⟩:ByteArray))++strOf (bM e))++(⟨#[32,123,10]⟩:ByteArray))++strOf (cn (t+1) th))++T)++(⟨#[125]⟩:ByteArray))++(⟨#[10]⟩:ByteArray))=strOf (ia t (b.list.take (k+1))) by
    rw[i.o,y.o,<-bX.o];rw[show (⟨#[105,102,32]⟩:ByteArray)=strOf [105,102,32] from rfl];rw[show (⟨#[32,123,10]⟩:ByteArray)=strOf [32,123,10] from rfl];rw[show (⟨#[125]⟩:ByteArray)=strOf [125] from rfl];rw[show (⟨#[10]⟩:ByteArray)=strOf [10] from rfl];rw[ag,ag,ag,ag,ag,ag,ag,ag];simp[db,cn,j.o])
   exact za
  .have j:=ae (show el.isNil=false by have ac:=x.o;simp only[ay.el,ct,Ib] at ac;cases el<;>first|rfl|(simp[ak.list] at ac;omega));have bS:(cn (t+1) el).length<=262144:=by have:=aL.o;simp[db,j.o] at this;unfold cn;omega
   have P:=ae bS;have aq:(strOf (cn (t+1) el)).size<=262144:=by rw[aK];exact bS
   have bH:=ae (show t+1+el.num<=1000000 by
    have ac:=ao.o;have J:=eF b;have aR:=bL.o;rcases aQ.E1 with h|h
    .simp only[ay.el] at h;omega
    .simp only[ay.el] at h;subst h;simp only[ak.num];omega)
   have ai:0<bY:=ad;clear bS;have aP:=ae (show (((((((((((pre++(⟨#[105,102,32]⟩:ByteArray))++strOf (bM e))++(⟨#[32,123,10]⟩:ByteArray))++strOf (cn (t+1) th))++T)++(⟨#[125]⟩:ByteArray))++(⟨#[32,101,108,115,101,32,123,10]⟩:ByteArray))++strOf (cn (t+1) el))++T)++(⟨#[125]⟩:ByteArray))++(⟨#[10]⟩:ByteArray))=strOf (ia t (b.list.take (k+1))) by
    rw[i.o,y.o,<-bX.o];rw[show (⟨#[105,102,32]⟩:ByteArray)=strOf [105,102,32] from rfl];rw[show (⟨#[32,123,10]⟩:ByteArray)=strOf [32,123,10] from rfl];rw[show (⟨#[125]⟩:ByteArray)=strOf [125] from rfl];rw[show (⟨#[32,101,108,115,101,32,123,10]⟩:ByteArray)=strOf [32,101,108,115,101,32,123,10] from rfl];rw[show (⟨#[10]⟩:ByteArray)=strOf [10] from rfl];rw[ag,ag,ag,ag,ag,ag,ag,ag,ag,ag,ag,ag];simp[db,cn,j.o])
   go_wp2;refine eB (λ_=>False) [(0,3),(1,3),(2,3),(3,3),(4,0),(8,3),(9,0),(10,3),(11,3),(14,3),(5,1),(6,3),(7,3),(12,2),(13,3),(15,3),(16,3),(17,3)] ?_
   iterate 2 refine pf ?_
   refine a9 (v:=?_) rfl (by rfl) (λV=>?_) ?_;rotate_left
   .go_simp;exact dQ
   try simp only[PU]
   refine pf ?_;refine ph ?_;refine pf ?_;refine ph ?_;refine pf ?_;refine a9 (v:=?_) rfl (by rfl) (λV=>?_) ?_;rotate_left
   .go_simp;exact dQ
   try simp only[PU]
   refine pf ?_;refine aD rfl (λK hK=>?_);go_simp;refine(aV.o _ _ _ _ _ _ _ (D.on bq.o (Fr.ext IK.drew)) f.o).mono ?_;rintro e aO ⟨rfl,ar⟩;refine dA hK (ar) ?_;clear hK K;refine a9 (v:=?_) rfl (by rfl) (λV=>?_) ?_;rotate_left
   .go_simp;exact dQ
   try simp only[PU]
   refine a9 (v:=?_) rfl (by rfl) (λV=>?_) ?_;rotate_left
   .go_simp;exact dQ
   try simp only[PU]
   refine au rfl (λK hK=>?_);go_simp;rw[q.o];refine((show gU th from aQ.th) (t+1) A2 cd c2 _ L.o (aa.on (Fr.ext (Fr.aJ ar))) H.o).mono ?_;rintro e aT ⟨rfl,bx⟩;refine dW hK ?_;clear hK K;refine a9 (v:=?_) rfl (by rfl) (λV=>?_) ?_;rotate_left
   .go_simp;exact dQ
   try simp only[PU]
   refine a9 (v:=?_) rfl (by rfl) (λV=>?_) ?_;rotate_left
   .go_simp;exact dQ
   try simp only[PU]
   refine a9 (v:=?_) rfl (by rfl) (λV=>?_) ?_;rotate_left
   .go_simp;exact dQ
   try simp only[PU]
   refine pf ?_;refine aB ?_;have bh:=ae ((Fr.aJ ar).trans bx);obtain⟨v0,ax⟩:=Fr.rP bh.o;clear ar bx;have dg:decide ((bY:Int) > 0)=true:=by simp;omega
   go_wp2_with(fail);rw[q.o];refine((show gU el from aQ.el) (t+1) cl bY c3 _ bH.o (Q.on (Fr.ext bh.o)) P.o).mono ?_;rintro e b4 ⟨rfl,bV⟩;have a3:=ae (bh.trans bV);clear bV;go_wp2;go_roundw
   case rel=>exact⟨k+1,ad,by go_num,by rw[<-aP.o],bf.trans (R.trans a3.o)⟩
   case measure=>exact aF
 | ret=>
  simp only[ay.kind,ay.name] at *;have aP:=ae (show ((pre++(⟨#[114,101,116,117,114,110,59]⟩:ByteArray))++(⟨#[10]⟩:ByteArray))=strOf (ia t (b.list.take (k+1))) by
   rw[i.o,y.o,<-bX.o];rw[show (⟨#[114,101,116,117,114,110,59]⟩:ByteArray)=strOf [114,101,116,117,114,110,59] from rfl];rw[show (⟨#[10]⟩:ByteArray)=strOf [10] from rfl];rw[ag,ag,ag];simp[db])
  have bh:=ae (Fr.refl (λ_=>False) W);exact vC
 ):p:=h
end zK
open zK in
theorem uv(b:ak)(M:∀s∈b.list,tw s b.num):gU b:=by
 intro t A n c w aA hs hlen;have hl:b.list.length=n:=by rw[<-hs.1,ct,Ib]
 have hn:n<=1000000:=by have:=eF b;omega
 have G:t<=1000000:=ad;have am:(strOf (List.replicate t 9)).size<=1000000:=by rw[aK,List.length_replicate];exact G
 rw[ct] at hs;rw[eE] at hlen ⊢;obtain⟨bL,bs,aC⟩:=eD hl hs M;have F:=ae (show (ia t b.list).length<=262144 from hlen);have ao:=ae aA;have X:=ae (show ia t (b.list.take n)=(b.list.map (db t)).flatten by rw[<-hl,List.take_length];rfl);clear hs M hlen hl aA G;generalize a5:strOf (List.replicate t 9)=T at *;have bX:=ae a5;clear a5;go_enter func90,ntmps90;go_wp2;go_loopw [5,6] (λsv ah wr=>∃k:Nat,k<=n/\ah=.int .i64 k/\sv=.string (strOf (ia t (b.list.take k)))/\Ext w wr) (λ_ ah _=>n - (intOf ah).toNat)
 case atStart=>exact⟨0,ad,rfl,rfl,IK⟩
 case round=>
  obtain⟨k,ap,rfl,rfl,aw⟩:=hrel;have bf:=ae aw;clear aw;have bi:(strOf (ia t (b.list.take k))).size<=262144:=by
   rw[aK];exact Ir (vQ t _ k) F.o
  by_cases al:k<n
  .obtain⟨bb,o,s,cs,rfl,O,b1,dT,bd,Z⟩:=(bs.on (Fr.ext bf.o)).gH mP al;have aX:bb<wr.heap.size:=O;have i:=ae (wR (t:=t) b1);have aQ:=ae (aC.o s (Ia b1));have m:(db t s).length<=262144:=by
    have ac:=vQ t b.list (k+1);rw[i.o] at ac;have J:=F.o;simp at ac;omega
   have aL:=ae m;obtain⟨eo,en,es,EA,em,ec,rs,ce,cX,rc,cF,n1,c1,A2,cd,c2,cl,bY,c3,rfl,E⟩:=kT dT;exact tC
  .obtain rfl:k=n:=ad;go_wp2;go_ret;exact⟨ret_str (by rw[X.o]),bf.o⟩
end Go.Proofs.YtajlmkkidmjgoaaGreatDoor

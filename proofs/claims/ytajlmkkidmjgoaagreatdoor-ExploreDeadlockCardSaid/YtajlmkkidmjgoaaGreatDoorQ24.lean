/- Part 24 of the proof. No condition of its own. -/
import Derived.Test.YtajlmkkidmjgoaaGreatDoorQ23
namespace Go.Proofs.YtajlmkkidmjgoaaGreatDoor
open Go.RowKit Go.Proofs.Tryz
set_option maxRecDepth 1000000
set_option maxHeartbeats 25600000
set_option linter.unusedVariables false
variable{a:Act}{t:Int}{l:List Int}{fs:List ao}{bytes k n size:Nat}{o:Oper}{p:Prop}{e:TypeId}{z:Value}{S W:World}{f i:ao}
section
variable {P:Program} {ops:Array Oper} {Q:Exit->Act->World->Prop} {R:World->World->Prop} {tails:List Nat}
theorem vk{rest:PT}{aa:Nat->Nat->Nat->Act}{C:Nat->Nat->Nat->World->Prop}{G:Prop}(h:(∀x y z V,C x y z V->di P ops Q R tails rest (aa x y z) V)->G)(key:∀x y z V,C x y z V->di P ops Q R tails rest (aa x y z) V):G:=h key
end
section
variable {P:Program} {ops:Array Oper} {Q:Exit->Act->World->Prop} {R:World->World->Prop} {tails:List Nat}
theorem Fh{i j:Nat}{f:Nat->PT}{w:World}(h:nK P ops Q R tails i (f i) a w)(J:nK P ops Q R tails j (f j) a w)(aR:nK P ops Q R tails k (f k) a w):di P ops Q R tails (.pick [i,j,k] f) a w:=λm hm=>by
 simp only[Iq,List.not_mem_nil,or_false] at hm;rcases hm with rfl|rfl|rfl
 .exact h
 .exact J
 .exact aR
end
theorem FZ(n:Nat):madeCells #[.int .i64 0] (n*1)=(List.replicate n (Value.int .i64 0)).toArray:=by
 apply Array.toList_inj.1
 rw[qv (f:=cD) (x:=0) (sz:=1) rfl rfl ad n,sq,List.map_replicate]
theorem s4(is:List Int)(n:Nat):splice (List.replicate n (Value.int .i64 0)) 0 (is.map dK)=(is++List.replicate (n - is.length) 0).map dK:=by
 unfold splice;simp[List.map_replicate]
theorem an.sl{w:World}{g:Nat}(h:an w g 3 (l.map dK).toArray)(hn:l.length=n){P:Nat->Prop}(U:P g):Sl w P (some ⟨g,0,none⟩) n (l.map D.i):=by
 refine⟨by simpa using hn,λ_=>⟨g,0,l.map dK,rfl,U,cB l,λj u hu=>?_⟩⟩;rw[It,h.cell];simpa using hu
structure Eu(W:World)(L l:Nat)(a b c:Nat)(V:World):Prop where
 ext:Ext W V
 ba:an V a 3 (List.replicate L (Value.int .i64 0)).toArray
 bb:an V b 3 (List.replicate l (Value.int .i64 0)).toArray
 bc:an V c 139 #[.int .i64 0,.int .i64 0,.slice none 0 0,.slice none 0 0]
 ab:a≠b
 ac:a≠c
 G1:b≠c
 lo:W.heap.size<=a/\W.heap.size<=b/\W.heap.size<=c
theorem g5(n:Nat):madeCells #[.int .i64 0] n=(List.replicate n (Value.int .i64 0)).toArray:=by have:=FZ n;rwa [Nat.mul_one] at this
theorem hB{V:World}{b ty c:TypeId}{j d a:Array Value}(hV:(((W.alloc (.cells j b)).alloc (.cells d ty)).alloc (.cells a c)).drew=V):Ext W V/\an V W.heap.size b j/\an V (W.heap.size+1) ty d/\an V (W.heap.size+1+1) c a:=by
 subst hV;exact⟨(((IK.alloc _).alloc _).alloc _).drew,((IL).alloc _).alloc _,(an.fu _ _ _ (by simp)).alloc _,an.fu _ _ _ (by simp)⟩
theorem qD{P:Program}{w:World}(e f ty elem:TypeId)(hu:P.underlying e=some (.slice elem))(bT:(P.info? elem).map (·.size)=some 1)
  {dp sp:IP} {c dCap d sCap:Nat} {g:Nat} {cur:List Value} {t:TypeId} (aM:an w g t cur.toArray) (cs:List Value) (hn:cs.length=Nat.min d c)
  (l:0<cs.length->dp=some ⟨g,0,none⟩/\∃a,sp=some a/\∀j v,cs[j]?=some v->w.cell? (a.add j)=some v)
  (i:cs.length<=cur.length) (ac:∀v∈cs,v.oneCell'=true) :
  ∃ab,(Builtin.copy_ #[e,f] ty #[.slice dp c dCap,.slice sp d sCap]).run P w=.ok (goInt cs.length) ab/\an ab g t (splice cur 0 cs).toArray/\Fr (λb=>b=g) w ab:=by
 by_cases h0:cs.length=0
 .obtain rfl:cs=[]:=List.eq_nil_of_length_eq_zero h0;exact⟨w,run_copy_none w e f ty elem dp sp c dCap d sCap hu bT (by simpa using hn.symm),by simpa[splice] using aM,IK⟩
 .obtain⟨rfl,a,rfl,ao⟩:=l ad;exact⟨_,_root_.Go.run_copy_row (P:=P) w e f ty elem g 0 c dCap a d sCap cur.toArray t cs hu bT aM hn ao (by simpa using i) ac,(show _=_ by simpa[splice] using setRow_heap w g _ _ t _ aM),⟨rfl,rfl,rfl,by simp[World.setRow],λk ap aZ=>setRow_other w g k _ aZ⟩⟩
theorem cJ.Ef{w:World}{B:Nat}{A:IP}(h:cJ (EF cD) 1 w B A n l):0<(l.map dK).length->∃a,A=some a/\∀j v,(l.map dK)[j]?=some v->w.cell? (a.add j)=some v:=λh0=>by
 have hl:=h.1;rw[Ib] at h0;obtain⟨b,o,bj,_,hc⟩:=h.2 ad;refine⟨_,bj,λj v a1=>?_⟩;rw[List.getElem?_map] at a1
 cases hx:l[j]? with
 | none=>rw[hx] at a1;cases a1
 | some x=>
  rw[hx] at a1;injection a1 with a1;subst a1;obtain⟨cs,rfl,_,Z⟩:=hc j x hx;have:=Z 0 _ rfl;rw[Nat.mul_one,Ij] at this;rw[show (⟨b,o,none⟩:Addr).add j=⟨b,o+j,none⟩ by unfold Addr.add;split<;>simp_all];exact this
def Fx(w:World)(f:ao)(e:Ending)(ab:World):Prop:=∃IA i ic bo l lc,e=.returned (.agg #[.int .i64 f.proc,.int .i64 f.pc,.slice IA i ic,.slice bo l lc])/\(gb f).rep ab (fresh w ab) [.int .i64 f.proc,.int .i64 f.pc,.slice IA i ic,.slice bo l lc]/\Ext w ab
namespace z6
theorem gj(h:p:=by
 refine tf ?_;generalize hV:World.drew (World.alloc _ _)=V;obtain⟨h0,ac,J,aR⟩:=hB hV;have hC:Eu W L l (W.heap.size+1+1) (W.heap.size) (W.heap.size+1) V:=⟨h0,by rw[<-g5];exact aR,by rw[<-g5];exact ac,J,ad,ad,ad,ad⟩
 clear hV h0 ac J aR;generalize W.heap.size+1+1=cB at hC ⊢;generalize W.heap.size+1=g2 at hC ⊢;generalize W.heap.size=b0 at hC ⊢;exact key cB b0 g2 _ hC
 ):p:=h
end z6
open z6 in
theorem mframe(u:ax)(k:Int)(ck:c7)(is ls:List Int)(IA bo:IP)(i ic l lc:Nat)(w:World)(p:UV)(hu:p.Ok w u)(h0:0<=k)(hp:u.procs[k.toNat]?=some ck)(hl:(is.length:Int)<=ck.locals)(bq:ck.locals<=200)(y:ls.length<=1000)
  (ak:Sl w (av w) IA i (is.map D.i)) (br:Sl w (av w) bo l (ls.map D.i)) :
  Calls prog 44 #[.agg (p.val u),.int .i64 k,.slice IA i ic,.slice bo l lc] w (Fx w (dv u k is ls)):=by
 obtain⟨GA,gn,gc,MA,mn,mc,PA,pn,pc⟩:=p;have b3:=hu.at_.p.1;rw[Ib] at b3;have b7:=(List.getElem?_eq_some_iff.1 hp).1;obtain⟨pb,gO,b2,S,aZ,bR,e,eJ,bH,b1,cj,bp,aJ,G,_,_⟩:=hu.at_.proc (k:=k.toNat) ad;simp only at e b3;subst e;rw[hp] at bH;injection bH with bH;subst bH;obtain⟨L,Y⟩:=Ic (a:=ck.locals) ad;rw[Y] at aJ;have cc:is.length=i:=by have:=ak.1;simpa using this
 have bz:ls.length=l:=by have:=br.1;simpa using this
 have hlen:i<=L:=ad;have df:L<=200:=ad;have aM:l<=1000:=ad;have bM:k<(pn:Int):=ad;have g:iY u k=L:=by unfold iY;rw[hp];simp[Y]
 have bL:=aL cc bz g;have bs:=ai ak br;have ah:=λW=>run_mk dT .i64 .i64 L ad ad W;have am:=λW=>run_mk dT .i64 .i64 l ad ad W;have N:pb<w.heap.size:=eJ;clear hu b3 b7 eJ hp b1 cj bp G Y cc bz g ak br hl bq y;dsimp only[UV.val];go_enter func44,ntmps44;go_upto_region 1 with(fail);generalize ba:World.alloc _ _=W;have aw:=hJ ba;have aS:=fA ba;have cy:=fB ba;have dr:=(aw.cell (j:=gO+k.toNat*5+3) N λh=>h).trans aJ;have aD:pb<W.heap.size:=Hy N aw.size;have aE:=cy.lt;have ay:=ai aw cy;obtain⟨aI,aj,af⟩:=aS.two;clear ba aw aS cy aJ N;refine sU (λ_=>False) [7,13] (.free 0 (.free 1 (.held 2 (.free 3 (.free 4 (.free 5 (.held 6 (.free 8 (.free 9 (.pick [7,10,12] (λi=>bif i == 7 then .pick [10,12] (λi=>bif i == 10 then .free 11 (.pick [12] (λ_=>.pick [13] (λ_=>.stop))) else .pick [10] (λ_=>.free 11 (.pick [13] (λ_=>.stop)))) else bif i == 10 then .pick [7,12] (λi=>bif i == 7 then .free 11 (.pick [12] (λ_=>.pick [13] (λ_=>.stop))) else .pick [7] (λ_=>.free 11 (.pick [13] (λ_=>.stop)))) else .pick [7,10] (λi=>bif i == 7 then .pick [10] (λ_=>.free 11 (.pick [13] (λ_=>.stop))) else .pick [7] (λ_=>.free 11 (.pick [13] (λ_=>.stop))))))))))))))) ?_
 iterate 2 refine tf ?_
 refine th ?_
 iterate 3 refine tf ?_
 refine th ?_
 iterate 2 refine tf ?_
 refine vk (P:=?P1) (ops:=?o1) (Q:=?q1) (R:=?r1) (tails:=?t1) (rest:=.pick [13] (λ_=>.stop)) (aa:=?aa) (C:=Eu W L l) (λkey=>?main) ?key
 case main=>
  refine Fh ?_ ?_ ?_
  ·
   refine bA rfl (λK hK=>?_) rfl;go_simp;refine dW hK ?_;clear hK K;refine a5 ?_ ?_
   ·
    refine dS ?_;refine tf ?_;refine aq ?_;refine dS ?_;generalize hV:World.drew (World.alloc _ _)=V;obtain⟨h0,ac,J,aR⟩:=hB hV;have hC:Eu W L l (W.heap.size) (W.heap.size+1) (W.heap.size+1+1) V:=⟨h0,by rw[<-g5];exact ac,by rw[<-g5];exact J,aR,ad,ad,ad,ad⟩
    clear hV h0 ac J aR;generalize W.heap.size+1+1=cB at hC ⊢;generalize W.heap.size+1=g2 at hC ⊢;generalize W.heap.size=b0 at hC ⊢;exact key b0 g2 cB _ hC
   ·
    refine dS ?_;refine aq ?_;refine dS ?_;refine tf ?_;generalize hV:World.drew (World.alloc _ _)=V;obtain⟨h0,ac,J,aR⟩:=hB hV;have hC:Eu W L l (W.heap.size) (W.heap.size+1+1) (W.heap.size+1) V:=⟨h0,by rw[<-g5];exact ac,by rw[<-g5];exact aR,J,ad,ad,ad,ad⟩
    clear hV h0 ac J aR;generalize W.heap.size+1+1=cB at hC ⊢;generalize W.heap.size+1=g2 at hC ⊢;generalize W.heap.size=b0 at hC ⊢;exact key b0 cB g2 _ hC
  ·
   refine dS ?_;refine a5 ?_ ?_
   ·
    refine bA rfl (λK hK=>?_) rfl;go_simp;refine dW hK ?_;clear hK K;refine tf ?_;refine aq ?_;refine dS ?_;generalize hV:World.drew (World.alloc _ _)=V;obtain⟨h0,ac,J,aR⟩:=hB hV;have hC:Eu W L l (W.heap.size+1) (W.heap.size) (W.heap.size+1+1) V:=⟨h0,by rw[<-g5];exact J,by rw[<-g5];exact ac,aR,ad,ad,ad,ad⟩
    clear hV h0 ac J aR;generalize W.heap.size+1+1=cB at hC ⊢;generalize W.heap.size+1=g2 at hC ⊢;generalize W.heap.size=b0 at hC ⊢;exact key g2 b0 cB _ hC
   ·
    refine dS ?_;exact gY
  ·
   refine dS ?_;refine a5 ?_ ?_
   ·
    refine bA rfl (λK hK=>?_) rfl;go_simp;refine dW hK ?_;clear hK K;refine aq ?_;refine dS ?_;refine tf ?_;generalize hV:World.drew (World.alloc _ _)=V;obtain⟨h0,ac,J,aR⟩:=hB hV;have hC:Eu W L l (W.heap.size+1) (W.heap.size+1+1) (W.heap.size) V:=⟨h0,by rw[<-g5];exact J,by rw[<-g5];exact aR,ac,ad,ad,ad,ad⟩
    clear hV h0 ac J aR;generalize W.heap.size+1+1=cB at hC ⊢;generalize W.heap.size+1=g2 at hC ⊢;generalize W.heap.size=b0 at hC ⊢;exact key g2 cB b0 _ hC
   ·
    refine dS ?_;refine aq ?_;refine bA rfl (λK hK=>?_) rfl;go_simp;refine dW hK ?_;clear hK K;refine tf ?_;generalize hV:World.drew (World.alloc _ _)=V;obtain⟨h0,ac,J,aR⟩:=hB hV;have hC:Eu W L l (W.heap.size+1+1) (W.heap.size+1) (W.heap.size) V:=⟨h0,by rw[<-g5];exact aR,by rw[<-g5];exact J,ac,ad,ad,ad,ad⟩
    clear hV h0 ac J aR;generalize W.heap.size+1+1=cB at hC ⊢;generalize W.heap.size+1=g2 at hC ⊢;generalize W.heap.size=b0 at hC ⊢;exact key cB g2 b0 _ hC
 intro o aN gc V hC;have bP:=ae hC;obtain⟨c0,cA,bN⟩:=hC.bc.two;clear hC aI aj af ah am dr;refine aq ?_;refine bA rfl (λK hK=>?_) rfl;go_simp;refine dW hK ?_;clear hK K;refine cr ?_;generalize hX:World.setCell _ _ _=X;obtain⟨bQ,bT⟩:=jR 0 [.int .i64 k,.int .i64 0,.slice (some ⟨o,0,none⟩) L L,.slice (some ⟨aN,0,none⟩) l l] bP.bc hX;have aS:an X gc 139 #[.int .i64 k,.int .i64 0,.slice (some ⟨o,0,none⟩) L L,.slice (some ⟨aN,0,none⟩) l l]:=by simpa[iw] using bQ
 have bj:=bP.ba.on bT bP.ac;have bU:=bP.bb.on bT bP.G1;have bW:Ext W X:=Fr.low (M:=λb=>b=gc) (Fr.trans (Fr.mono bP.ext λ_ h=>h.elim) bT) λb O=>by have:=bP.lo;omega
 have aV:=bF bW bj bU aS;obtain⟨d0,aP,aQ⟩:=aS.two;clear hX bQ bT aS bj bU bW c0 cA bN;have ag:Ext w X:=ay.1.trans aV.1;have cM:=ay.2.aj aV.1;have ao:=(bs.1.on (Fr.ext ag)).ints;have r:=bL.1;have s:=bL.2.1;have m:(is.map dK).length=Nat.min i L:=by rw[Ib];simp only[Nat.min_def];split<;>omega
 have F:=ao.Ef;have U:(is.map dK).length<=(List.replicate L (Value.int .i64 0)).length:=by simp;omega
 have z:=cK aV.2.1 aV.2.2.1 aV.2.2.2 ag cM;have f:=cK m F U r s;clear ag cM ao m F U r s;obtain⟨aT,I,bw,az⟩:=qD (P:=prog) 22 22 3 3 Tryz.underlying22 (by kernel_rfl) (dp:=some ⟨o,0,none⟩) (dCap:=L) (sp:=IA) (sCap:=ic) z.1 (is.map dK) f.1 (λh=>⟨rfl,f.2.1 h⟩) f.2.2.1 (by simp[Value.oneCell']);have bJ:=z.2.2.1.on az (Ne.symm bP.ac);have bi:=aL bw az bJ;clear bw az;obtain⟨e0,bn,a0⟩:=bJ.two;clear bJ;have bb:Ext w aT:=Fr.low (M:=λb=>b=o) (Fr.trans (Fr.mono z.2.2.2.1 λ_ h=>h.elim) bi.2.1) λb O=>by have:=bP.lo;have:=ay.1.size;omega
 have a4:=(bs.2.on (Fr.ext bb)).ints;have H:=a4.Ef;have bX:(ls.map dK).length=Nat.min l l:=by rw[Ib];have:=f.2.2.2.2;simp only[Nat.min_def];split<;>omega
 have ab:(ls.map dK).length<=(List.replicate l (Value.int .i64 0)).length:=by have:=f.2.2.2.2;simp;omega
 have bO:=z.2.1.on bi.2.1 (Ne.symm bP.ab);have dh:=cK bX H ab bO bb;clear bb a4 H bX ab bO;obtain⟨b4,T,bw,az⟩:=qD (P:=prog) 22 22 3 3 Tryz.underlying22 (by kernel_rfl) (dp:=some ⟨aN,0,none⟩) (dCap:=l) (sp:=bo) (sCap:=lc) dh.2.2.2.1 (ls.map dK) dh.1 (λh=>⟨rfl,dh.2.1 h⟩) dh.2.2.1 (by simp[Value.oneCell']);have bJ:=bi.2.2.on az (Ne.symm bP.G1);have bI:=aL bw az bJ;clear bw az;obtain⟨f0,c6,e1⟩:=bJ.two;clear bJ;have cp:=(z.2.2.2.2.on bi.2.1 (aC bP.lo)).on bI.2.1 (aC bP.lo);have f1:Ext w b4:=Fr.low (M:=λb=>b=aN) (Fr.trans (Fr.mono dh.2.2.2.2 λ_ h=>h.elim) bI.2.1) λb O=>by have:=bP.lo;have:=ay.1.size;omega
 have a8:=ai cp f1;obtain⟨bD,aK,a9⟩:=cp.two;clear cp f1;go_wp2_with(fail);generalize hX:World.setCell _ _ _=Z;obtain⟨bB,bl,a6⟩:=cO (w:=w) [.int .i64 k,.int .i64 0,.slice (some ⟨o,0,none⟩) L L,.slice (some ⟨aN,0,none⟩) l l] (by rfl) a8.1 a8.2 ad hX;have a2:=ai bl a6;clear hX bl a6 bD aK a9 d0 aP aQ e0 bn a0 f0 c6 e1 I T;obtain⟨bD,aK,a9⟩:=bB.two;refine IJ (v:=.agg #[.int .i64 k,.int .i64 0,.slice (some ⟨o,0,none⟩) L L,.slice (some ⟨aN,0,none⟩) l l]) (by simp[results,Tryz.results44,go_sem,bD]) rfl ?_;have bq:=bP.lo;have al:=ay.2.lt;have au:=(bi.1.on bI.2.1 bP.ab).on a2.2 ad;have aB:=bI.1.on a2.2 ad;rw[s4] at au aB;have ap:=bL.2.2;have aA:=au.lt;have aM:=aB.lt;have ar:dv u k is ls=⟨k,0,is++List.replicate (L - is.length) 0,ls⟩:=by unfold dv;rw[ap]
 rw[ar];refine⟨some ⟨o,0,none⟩,L,L,some ⟨aN,0,none⟩,l,l,rfl,iQ.2 ⟨_,_,_,_,_,_,rfl,Hx _,Hx _,au.sl (by have:=bL.1;simp;omega) ⟨ad,aA⟩,?_⟩,a2.1⟩;have:=aB.sl (n:=l) (P:=fresh w Z) (by have:=bL.2.1;simp;omega) ⟨ad,aM⟩
 rwa [show l - ls.length=0 by have:=bL.2.1;omega,List.replicate_zero,IB] at this
def Es(w:World)(a b:List Int×Int)(e:Ending)(ab:World):Prop:=
 (a.2≠0->e=.returned (.tuple #[.slice none 0 0,.slice none 0 0,.int .i64 a.2])/\Ext w ab)/\
 (a.2=0->b.2≠0->e=.returned (.tuple #[.slice none 0 0,.slice none 0 0,.int .i64 b.2])/\Ext w ab)/\
 (a.2=0->b.2=0->∃A n c aE a0 L,e=.returned (.tuple #[.slice A n c,.slice aE a0 L,.int .i64 0])/\n<=c/\a0<=L/\Sl ab (fresh w ab) A n (a.1.map D.i)/\Sl ab (fresh w ab) aE a0 (b.1.map D.i)/\Ext w ab)
def Bk(g l:List Int)(es:List VE)(k:Nat):Prop:=∀e∈es.take k,(ev g l e).2=0
theorem qt{g l:List Int}:∀{es:List VE},(∀e∈es,(ev g l e).2=0)->dn g l es=(es.map λe=>(ev g l e).1,0)
 | [],_=>rfl
 | e::es,h=>by
  have ac:=h e (by simp);have J:=qt (es:=es) λx hx=>h x (by simp[hx]);unfold dn;rw[if_neg ad,J,if_neg (by simp)];rfl
theorem qs{g l:List Int}:∀{es:List VE} {k:Nat} {e:VE},Bk g l es k->es[k]?=some e->(ev g l e).2≠0->dn g l es=([],(ev g l e).2)
 | [],k,e,_,h,_=>by simp at h
 | x::es,0,e,_,h,O=>by
  simp at h;subst h;unfold dn
  rw[if_pos O]
 | x::es,k+1,e,hu,h,O=>by
  have ac:(ev g l x).2=0:=hu x (by simp);have J:=qs (es:=es) (k:=k) (e:=e) (λy a4=>hu y (by simp[a4])) (by simpa using h) O;unfold dn;rw[if_neg ad,J,if_pos O]
theorem o4{u:ax}{s:ah}{f:ao}:∀{ps:List bK},(∀p∈ps,(bj u s f p).2=0)->cf u s f ps=(ps.map λp=>(bj u s f p).1,0)
 | [],_=>rfl
 | p::ps,h=>by
  have ac:=h p (by simp);have J:=o4 (ps:=ps) λx hx=>h x (by simp[hx]);unfold cf;rw[if_neg ad,J,if_neg (by simp)];rfl
theorem o3{u:ax}{s:ah}{f:ao}:∀{ps:List bK} {k:Nat} {p:bK},(∀x∈ps.take k,(bj u s f x).2=0)->ps[k]?=some p->(bj u s f p).2≠0->cf u s f ps=([],(bj u s f p).2)
 | [],k,p,_,h,_=>by simp at h
 | x::ps,0,p,_,h,O=>by
  simp at h;subst h;unfold cf
  rw[if_pos O]
 | x::ps,k+1,p,hu,h,O=>by
  have ac:(bj u s f x).2=0:=hu x (by simp);have J:=o3 (ps:=ps) (k:=k) (p:=p) (λy a4=>hu y (by simp[a4])) (by simpa using h) O;unfold cf;rw[if_neg ad,J,if_pos O]
theorem lS.args{u:ax}{s:ah}{ck:c7}{x:az}{N:Nat}(h:lS u s t f ck x N)(ch:x.op=2\/x.op=3):(∀e∈x.ints,fR (bk u) ck.locals e)/\(∀p∈x.places,cP (bk u) ck.locals ck.aw p)/\
  0<=x.target/\∃pc,u.procs[x.target.toNat]?=some pc/\(x.ints.length:Int)=pc.ints/\(x.places.length:Int)=pc.aw/\pv (bk u) pc:=by
 obtain⟨len,_,ak⟩:=h.ok;rcases ak with⟨ac,_⟩|⟨_,_,sg,J,aR,bv,ct,Q,C⟩|⟨ac,_⟩|⟨ac,_⟩|⟨ac,_⟩|⟨ac,_⟩
 .omega
 .refine⟨Q,C,J,?_⟩;simp only[bk,List.getElem?_map] at aR
  cases bp:u.procs[x.target.toNat]? with
  | none=>rw[bp] at aR;cases aR
  | some r=>
   rw[bp] at aR;simp only[Option.map_some,IE] at aR;subst aR;exact⟨r,rfl,bv,ct,h.hU.ok.procs r (Ia bp)⟩
 .omega
 .omega
 .omega
 .omega
namespace z7
theorem tH(h:p:=by
 have bY:=ai a4 P;clear a4 P cu Z bd O aw bS S aa;go_upto_region 6 with(fail);generalize hU:World.alloc _ _=U;have ab:=bm hU;have aR:=aU hU;have I:=a8.2.2.2.trans ab;have bv:=aL ab I (D.on bY.2 (Fr.ext ab));have ak:=(ay.2.2.2.2.2.2.2.on I)
 have cw:=ak.lf;have f2:=ak.c2;obtain⟨d0,aP,aQ⟩:=aR.two;obtain⟨be,am,aH⟩:=(ay.2.2.1.aj I).two;have aA:=ae ak;clear hU ab aR I ak c0 c1 c2 c3 aX;refine eB (λ_=>False) [(0,0),(1,3),(2,0),(3,3),(4,3),(5,3),(6,0),(7,2),(8,3),(9,3),(10,3),(11,3),(12,3)] ?_;refine ph ?_;refine pf ?_;refine ph ?_
 iterate 3 refine pf ?_
 refine ph ?_;refine au rfl (λK hK=>?_);go_simp;have Y:Ext U U.drew:=(Fr.refl _ U).drew;refine(oe ex U.drew bE IA bM i br ic s.globals f.ints _ _ _ _ (aV.1.FU (aV.2.1 ex (Ia bY.1)) ((ay.2.2.2.2.2.1.on bv.2.1).on Y).at_.g (aA.on Y).ints (D.on bv.2.2 (Fr.ext Y))).1).mono ?_;rintro e aT ⟨rfl,bw⟩;have a3:=ae (show Ext U aT from Fr.aJ (Fr.of bw));have Q:=λbi=>qs (k:=k) a8.2.2.1 bY.1 bi;generalize V:ev s.globals f.ints ex=R at *;obtain⟨r,z⟩:=R;have a7:=ai Q V;clear Q V bw Y d0 aP aQ be am aH f2 cw aA;refine dW hK ?_;clear hK K
 iterate 5 refine pf ?_
 refine aB ?_;by_cases bi:z=0
 .have cA:(z != 0)=false:=by simpa using bi
  have bI:=(a8.2.1.aj bv.1).aj a3.o;have bz:=bv.1.size;have cx:=a3.size;obtain⟨X,a2⟩:=aN bI bi;clear bi bI;go_wp2_with(at_builtin;refine bN dT rfl (.tmp 46) (.tmp 48) rfl X.o (d:=D.i r) (cs:=#[.int .i64 r]) (by simp only[D.rep]) rfl rfl rfl ad ad ad ?_;intro cl c3 b4 b0 g2 cB cQ;have b2:=ai b0 g2;clear b0 g2 cB cQ);have bq:∀b,(Value.slice A k c).ownBlock=some b->aO.heap.size<=b:=λb O=>(X.lt O).1;have aG:Ext aO b4:=Fr.low (M:=λb=>(Value.slice A k c).ownBlock=some b) (Fr.trans (Fr.mono ((a8.1.trans bv.1).trans a3.o) λ_ h=>h.elim) b2.2) λb O=>bq b O;have bl:=ae aG;clear bq aG;go_roundw
  case rel=>
   refine⟨k+1,cl,c3,rfl,by go_num,ad,bl.o,?_,λe he=>?_⟩
   .rw[a0 bY.1,Ig,Ig];exact yf
   .rw[a0 bY.1] at he;rcases Ii.1 he with he|he
    .exact a8.2.2.1 e he
    .rw[ID.1 he,a7.2];exact a2.o
  case measure=>exact aF
 .have cA:(z != 0)=true:=by simpa using bi
  have bV:=ae (a7.1 bi);have a2:=ae bi;clear bi;go_wp2_with(fail)
  go_ret3
  have ar:Ext w aT:=((ay.1.trans a8.2.2.2).trans bv.1).trans a3.o;refine⟨λh=>⟨?_,ar⟩,λh=>absurd h ?_,λh=>absurd h ?_⟩
  .rw[bV.o];rfl
  .rw[bV.o];exact a2.o
  .rw[bV.o];exact a2.o
 ):p:=h
theorem jr(h:p:=by
 obtain⟨eo,en,es,EA,em,ec,QA,qm,qc,db,j,cW,KA,c5,kc⟩:=v;obtain⟨aq,bu,b3,cU,n,fc,IA,i,ic,bo,l,lc,e,a5⟩:=hs.at_.top h.sm h.ht;simp only at e;subst e;obtain⟨aE,aJ,_⟩:=h.args ch;have bf:x.ints.length=j:=by have:=bC.ints.1;simpa using this
 have bb:x.places.length=c5:=by have:=bC.places.1;simpa using this
 have ct:j<=200:=by have:=h.il;omega
 have cD:c5<=200:=by have:=h.kl;omega
 have aV:=cK h aE aJ bf bb;have ce:=bF hu hs bC a5;clear h aE aJ bf bb hu hs bC a5;dsimp only[UV.val,SV.val,IV.val];go_enter func104,ntmps104;go_upto_region 1 with(fail);generalize ba:World.alloc _ _=W;have aw:=pT ba;have bH:=lT ba;have bJ:=kZ ba;have aY:=nh ba;have ay:=r7 aw bH bJ aY (ce.1.on aw) (ce.2.1.on aw) (ce.2.2.1.on aw) (ce.2.2.2.on aw);obtain⟨be,am,aH⟩:=bJ.two;clear ba aw bH bJ aY ce;go_wp2_with(fail);refine(kO ay.2.2.2.2.2.2.2 _ _ _).mono ?_;rintro e aO ⟨rfl,ag⟩;have bh:=ae ag;clear be am aH;obtain⟨d0,aP,aQ⟩:=(ay.2.2.2.1.aj ag).two;clear ag;have gp:=bh.size;have cE:=ay.1.size;go_wp2_with(fail);clear d0 aP aQ;go_loopw [11,28] (λsv ci wr=>∃(k:Nat) (A:IP) (c:Nat),sv=.slice A k c/\ci=.int .i64 k/\k<=j/\Ext aO wr/\Gr (λ_=>False) aO.heap.size 3 1 wr A k c (((x.ints.take k).map λe=>(ev s.globals f.ints e).1).map D.i)/\Bk s.globals f.ints x.ints k) (λ_ ci _=>j - (intOf ci).toNat)
 case atStart=>exact⟨0,none,0,rfl,rfl,ad,IK,Gr.nil _ _ _ _ _,λe he=>by simp at he⟩
 case round=>
  obtain⟨k,A,c,rfl,rfl,ap,aw,bS,S⟩:=hrel;have aa:=bh.trans aw;have a8:=bF aw bS S aa;have cr:=aw.size;by_cases al:k<j
  .obtain⟨b,o,ex,cs,rfl,O,a4,P,bd,Z⟩:=(ay.2.2.2.2.2.2.1.ints.on (Fr.ext aa)).gH cY al;exact tG
  .obtain rfl:k=j:=ad;have y:dn s.globals f.ints x.ints=(x.ints.map λe=>(ev s.globals f.ints e).1,0):=qt λe he=>S e (by rw[Ih (aC aV.2.2.2.1)];exact he);have b8:Sl wr (λb=>aO.heap.size<=b/\b<wr.heap.size) A k ((dn s.globals f.ints x.ints).1.map D.i):=by
    have aM:=bS;rw[Ih (aC aV.2.2.2.1)] at aM;rw[y];exact aM.sl (λb _ h=>h.elim) λb al O=>⟨O,al⟩
   have aD:=bS.cap.1;obtain⟨T,rfl⟩:∃T,T=wr:=⟨wr,rfl⟩
   have HA:=aL b8 aD y;obtain⟨d0,aP,aQ⟩:=(ay.2.2.2.1.aj aa).two;clear aw bS S aa y b8 aD;go_wp2_with(fail);clear d0 aP aQ;go_loopw [12,54] (λsv ci wr=>∃(m:Nat) (B:IP) (L:Nat),sv=.slice B m L/\ci=.int .i64 m/\m<=c5/\Ext T wr/\Gr (λ_=>False) T.heap.size 3 1 wr B m L (((x.places.take m).map λp=>(bj u s f p).1).map D.i)/\∀p∈x.places.take m,(bj u s f p).2=0) (λ_ ci _=>c5 - (intOf ci).toNat)
   case atStart=>exact⟨0,none,0,rfl,rfl,ad,IK,Gr.nil _ _ _ _ _,λe he=>by simp at he⟩
   case round=>
    obtain⟨m,B,L,rfl,rfl,hm,aw,bS,S⟩:=hrel;have aa:=a8.2.2.2.trans aw;have bG:=bF aw bS S aa;have cd:=aw.size;by_cases du:m<c5
    .obtain⟨b,o,pl,cz,b7,zc,rfl,O,a4,b1,cj,bp,bs,cF⟩:=(ay.2.2.2.2.2.2.1.places.on (Fr.ext aa)).rB du;have aX:b<wr.heap.size:=O;have bY:=aL a4 bs cF;clear a4 bs cF O aw bS S aa;go_upto_region 14 with(fail);generalize hU:World.alloc _ _=U;have ab:=bm hU;have aR:=aU hU;have I:=bG.2.2.2.trans ab;have bv:=aL ab I (eh.2 ⟨cz,b7,zc,rfl,bY.2.1,bY.2.2.on (Fr.ext ab)⟩:(c9 pl).rep U (av U) [.bool pl.param,.int .i64 pl.index,.slice cz b7 zc]);obtain⟨d0,aP,aQ⟩:=aR.two;obtain⟨be,am,aH⟩:=(ay.2.2.1.aj I).two;obtain⟨aI,aj,af⟩:=(ay.2.1.aj I).two;clear hU ab aR I b1 cj bp aX;go_wp2_with(fail);refine(lD u s t f pl N U ⟨GA,gn,gc,MA,mn,mc,PA,pn,pc⟩ ⟨bE,bM,br,TA,tn,tc,some ⟨aq,bu,none⟩,hn,hc⟩ cz b7 zc ⟨aV.1.hU.ok,aV.1.hS,aV.1.sm,aV.1.ht,⟨ck,aV.1.hp,aV.2.2.1 pl (Ia bY.1)⟩,ay.2.2.2.2.1.on bv.2.1,ay.2.2.2.2.2.1.on bv.2.1,bv.2.2⟩).mono ?_;rintro e aT ⟨rfl,bw⟩;rw[js aV.1.ht];have a3:=ae (show Ext U aT from Fr.of bw);have Q:=λbi=>o3 (k:=m) bG.2.2.1 bY.1 bi;generalize V:bj u s f pl=R at *;obtain⟨r,z⟩:=R;have a7:=ai Q V;clear Q V bw d0 aP aQ be am aH aI aj af;by_cases bi:z=0
     .have cA:(z != 0)=false:=by simpa using bi
      have bI:=(bG.2.1.aj bv.1).aj a3.o;have bz:=bv.1.size;have cx:=a3.size;obtain⟨X,a2⟩:=aN bI bi;clear bi bI;go_wp2_with(at_builtin;refine bN dT rfl (.tmp 69) (.tmp 71) rfl X.o (d:=D.i r) (cs:=#[.int .i64 r]) (by simp only[D.rep]) rfl rfl rfl ad ad ad ?_;intro cl c3 b4 b0 g2 cB cQ;have b2:=ai b0 g2;clear b0 g2 cB cQ);have bq:∀b,(Value.slice B m L).ownBlock=some b->T.heap.size<=b:=λb O=>(X.lt O).1;have aG:Ext T b4:=Fr.low (M:=λb=>(Value.slice B m L).ownBlock=some b) (Fr.trans (Fr.mono ((bG.1.trans bv.1).trans a3.o) λ_ h=>h.elim) b2.2) λb O=>bq b O;have bl:=ae aG;clear bq aG;go_roundw
      case rel=>
       refine⟨m+1,cl,c3,rfl,by go_num,ad,bl.o,?_,λe he=>?_⟩
       .rw[a0 bY.1,Ig,Ig];exact yf
       .rw[a0 bY.1] at he;rcases Ii.1 he with he|he
        .exact bG.2.2.1 e he
        .rw[ID.1 he,a7.2];exact a2.o
      case measure=>exact aF
     .have cA:(z != 0)=true:=by simpa using bi
      have bV:=ae (a7.1 bi);have a2:=ae bi;clear bi;go_wp2_with(fail)
      go_ret3
      have ar:Ext w aT:=((ay.1.trans bG.2.2.2).trans bv.1).trans a3.o;refine⟨λh=>absurd ?_ h,λ_ h=>⟨?_,ar⟩,λ_ h=>absurd h ?_⟩
      .rw[HA.2.2]
      .rw[bV.o];rfl
      .rw[bV.o];exact a2.o
    .obtain rfl:m=c5:=ad;have y:cf u s f x.places=(x.places.map λp=>(bj u s f p).1,0):=o4 λe he=>S e (by rw[Ih (aC aV.2.2.2.2)];exact he);have b8:Sl wr (fresh w wr) B m ((cf u s f x.places).1.map D.i):=by
      have aM:=bS;rw[Ih (aC aV.2.2.2.2)] at aM;rw[y];exact aM.sl (λb _ h=>h.elim) λb al O=>⟨ad,al⟩
     have aD:=bS.cap.1;have bL:=aL b8 aD y;clear aw bS S aa y b8 aD;go_wp2_with(fail)
     go_ret3
     refine⟨λh=>absurd ?_ h,λ_ h=>absurd ?_ h,λ_ _=>⟨A,k,c,B,m,L,rfl,HA.2.1,bL.2.1,(HA.1.al λb O=>bG.1.block b O.2 λh=>h).mono λb O=>⟨by have:=O.1;omega,by have:=O.2;omega⟩,bL.1,ay.1.trans bG.2.2.2⟩⟩
     .rw[HA.2.2]
     .rw[bL.2.2]
 ):p:=h
end z7
open z7 in
theorem uy(u:ax)(s:ah)(t:Int)(f:ao)(ck:c7)(x:az)(N:Nat)(w:World)(p:UV)(q:SV)(v:IV)(h:lS u s t f ck x N)(ch:x.op=2\/x.op=3)(hu:p.Ok w u)(hs:q.Ok w s)(bC:v.Ok w x) :
  Calls prog 104 #[.agg (p.val u),.agg (q.val s),.int .i64 t,.agg (v.val x)] w (Es w (dn s.globals f.ints x.ints) (cf u s f x.places)):=by
 exact jq
theorem wM{P:Program}{t:TypeId}{K:Act->World->Prop}{Q:Exit->Act->World->Prop}(bj:b2 P t e z size bytes)(s x:Operand)
  (bu:o.op=.call {callee:=.builtin .append,args:=#[s,x],argTypes:=#[t,t]})
  {A:IP} {n c g:Nat} {xs:List Value} {F:List Nat} (h0:Own S e size A n c xs F) {cs:Array Value} {i:TypeId} (aS:an S g i cs)
  (hs:a.eval s=.slice A n c) (hx:a.eval x=.slice (some ⟨g,0,none⟩) 1 1) (T:cs.size=size) (ac:∀u∈cs.toList,u.oneCell'=true)
  (r:(n+1)*bytes<=140737488355328) (y:n+1<=140737488355328)
  (h:∀aE L ab,Own ab e size aE (n+1) L (xs++cs.toList) (bt aE (n+1) L)->Fr (λb=>b∈F) S ab->(∀b∈bt aE (n+1) L,b∈F\/(S.heap.size<=b/\b<ab.heap.size))->K (a.put o.dst (.slice aE (n+1) L)) ab):o.wp P a S K Q:=by
 have ao:Src S size (some ⟨g,0,none⟩) 1 cs.toList:=⟨by simpa using T,ac,λ_=>⟨g,0,rfl,λj u a1=>by
  rw[It,aS.cell];simpa using a1⟩⟩
 refine kr _ bj s x bu 0 _ n xs hs h0.row _ 1 1 cs.toList hx ao r y (Ix _) (λh=>nomatch h) λH ab bZ cC b5=>?_;obtain⟨aE,L,rfl,hc,_⟩:=bI bZ;refine h aE L ab ⟨bZ,rfl⟩ (IK.grown cC λg aM=>.inl (by rw[h0.eq];simp[aM])) λb O=>?_;have aX:(Value.slice aE (n+1) L).ownBlock=some b:=by simpa using O
 rcases b5 with b5|b5
 .rw[b5] at aX;exact .inl (by rw[h0.eq];simp[aX])
 .have:=(bZ.lt b aX).2;rw[b5] at aX;injection aX with aX;right;omega
theorem lH{P:Program}{ops:Array Oper}{Q:Exit->Act->World->Prop}{R:World->World->Prop}{rest:List (Nat×Nat)}(C:World->Prop)(hC:C W)(h:∀V,C V->bQ P ops Q R rest a V):bQ P ops Q R rest a W:=h W hC
theorem BQ{s:ah}{S:ao}(h:s.threads[t.toNat]?=some (fs++[f])):pw (bf s t S) t i={s with threads:=(s.threads.set t.toNat (fs++[S])).set t.toNat (fs++[S]++[i])}:=by
 rw[fG h];unfold pw;have al:=(List.getElem?_eq_some_iff.1 h).1;rw[kN (x:=fs++[S]) (by simp[al])]
theorem rX{P:Program}{t:TypeId}{ops:Array Oper}{rest:List Oper}{Q:Exit->Act->World->Prop}(bj:b2 P t e z size bytes)(i:o.guard=none)(s x:Operand)
  (bu:o.op=.call {callee:=.builtin .append,args:=#[s,x],argTypes:=#[t,t]})
  {A:IP} {n c g:Nat} {xs:List Value} {F:List Nat} (h0:Own S e size A n c xs F) {cs:Array Value}
  (hs:a.eval s=.slice A n c) (hx:a.eval x=.slice (some ⟨g,0,none⟩) 1 1) (aM:g=S.heap.size) (T:cs.size=size) (ac:∀u∈cs.toList,u.oneCell'=true)
  (r:(n+1)*bytes<=140737488355328) (y:n+1<=140737488355328)
  (h:∀aE L ab,Own ab e size aE (n+1) L (xs++cs.toList) (bt aE (n+1) L)->Fr (λb=>b∈F) S ab->(∀b∈bt aE (n+1) L,b∈F\/(S.heap.size<=b/\b<ab.heap.size))->wpList P ops Q rest (a.put o.dst (.slice aE (n+1) L)) ab):wpList P ops Q (o::rest) a (S.alloc (.cells cs e)):=by
 subst aM;exact nI bj i s x bu h0 hs hx T ac r y h
section
variable {B:Nat} {w ab:World} {s:ah} {G:Nat} {q:SV} {xs:List Value} {aq ar bN bR:List Nat}
theorem jN.B6{α:Type}{E:World->α->List Value->List Nat->Prop}{w:World}:∀{l:List α} {xs:List Value} {F:List Nat},jN E w l xs F->∀{k:Nat} {a:α},l[k]?=some a->
  ∃Z x ay aq f ar,xs=Z++(x++ay)/\F=aq++(f++ar)/\jN E w (l.take k) Z aq/\E w a x f/\jN E w (l.drop (k+1)) ay ar
 | [],_,_,_,k,a,ap=>by simp at ap
 | b::l,xs,F,h,0,a,ap=>by
  obtain⟨x,y,aq,ar,rfl,rfl,ac,J⟩:=h;simp only[List.getElem?_cons_zero,IE] at ap;subst ap
  exact⟨[],x,y,[],aq,ar,rfl,rfl,⟨rfl,rfl⟩,ac,J⟩
 | b::l,xs,F,h,k+1,a,ap=>by
  obtain⟨bU,y,g,af,rfl,rfl,ac,J⟩:=h;simp only[List.getElem?_cons_succ] at ap;obtain⟨Z,x,ay,aq,f,ar,rfl,rfl,aR,bv,ct⟩:=jN.B6 J ap;exact⟨bU++Z,x,ay,g++aq,f,ar,by simp,by simp,⟨bU,Z,g,aq,rfl,rfl,ac,aR⟩,bv,ct⟩
theorem o5{α β:Type}(g:α->β):∀(l:List α) (k:Nat) (x:α),(l.set k x).map g=(l.map g).set k (g x)
 | [],_,_=>rfl
 | _::_,0,_=>rfl
 | a::l,k+1,x=>by simp[o5 g l k x]
theorem dd.start(h:dd B w s G q xs aq ar bN bR){c0 c1 c2 c3:Value}{P:Nat->Prop}(bj:(gb i).rep w P [c0,c1,c2,c3])(U:∀b,P b->B<=b/\b<w.heap.size/\b≠G/\b∉aq++(ar++(bN++bR)))
  {aO aT X:World} (aa:w.alloc (.cells #[c0,c1,c2,c3] 139)=aO) {aE:IP} {L:Nat}
  (aY:Own aT 77 1 aE (q.hn+1) L (xs++[.slice (some ⟨w.heap.size,0,none⟩) 1 1]) (bt aE (q.hn+1) L)) (aA:Fr (λb=>b∈bN) aO aT) (d:∀b∈bt aE (q.hn+1) L,b∈bN\/(aO.heap.size<=b/\b<aT.heap.size))
  (hX:aT.setCell ⟨G,2,none⟩ (.slice aE (q.hn+1) L)=X) :
  let o:SV:=⟨q.GA,q.gn,q.gc,q.TA,q.tn,q.tc,aE,q.hn+1,L⟩
  let bP:ah:={s with threads:=s.threads++[[i]]}
  o.Is X (λb=>B<=b/\b<X.heap.size/\b≠G) bP/\an X G 45 (o.val bP)/\Fr (λb=>B<=b) w X:=by
 intro o bP;have aJ:aO.heap.size=w.heap.size+1:=by rw[<-aa];simp
 have ag:=bm aa;have F:=aU aa;have bz:=aA.size;have b9:X.heap.size=aT.heap.size:=by rw[<-hX];simp[World.setCell]
 have nd:=h.st.nd;have n1:=uC.1 nd;have d3:∀b∈aq++(ar++bR),b∉bN:=λb O aR=>(List.nodup_append.1 n1).2.2 b aR b O rfl;have ca:∀b,b∈bN->b∈aq++(ar++(bN++bR)):=λb O=>by simp[O]
 have bE:∀b,b∈aq++(ar++bR)->b∈aq++(ar++(bN++bR)):=λb O=>by
  exact D8
 have y:∀b,b<aO.heap.size->b≠G->b∉bN->X.heap[b]?=aO.heap[b]?:=λb al aZ aR=>by
  rw[<-hX];exact(aP aZ).trans (aA.block b al aR)
 have m:∀b∈aq++(ar++bR),X.heap[b]?=w.heap[b]?:=λb O=>by
  have hl:=(h.lo b (bE b O)).2;exact(y b ad (λhe=>h.ne (he▸bE b O)) (d3 b O)).trans (ag.block b hl λh=>h)
 have e:∀b,b∈aq++(ar++bR)->B<=b/\b<X.heap.size/\b≠G:=λb O=>⟨(h.lo b (bE b O)).1,by have:=(h.lo b (bE b O)).2;omega,λhe=>h.ne (he▸bE b O)⟩
 have cJ:=h.o.lt;have M:∀b,P b->X.heap[b]?=w.heap[b]?:=λb O=>by
  obtain⟨_,J,aR,bv⟩:=U b O;exact(y b ad aR (λct=>bv (ca b ct))).trans (ag.block b J λh=>h)
 have r:B<=w.heap.size:=by have:=h.go;omega
 have bw:an X w.heap.size 139 #[c0,c1,c2,c3]:=(y _ ad ad (λct=>by have:=(h.lo _ (ca _ ct)).2;omega)).trans F;have b7:(gb i).rep X (λb=>B<=b/\b<X.heap.size/\b≠G) [c0,c1,c2,c3]:=D.aH (λb O=>by obtain⟨ac,J,aR,_⟩:=U b O;exact⟨ac,ad,aR⟩) _ _ (D.aT M _ _ bj);have b8:Sl X (λb=>B<=b/\b<X.heap.size/\b≠G) (some ⟨w.heap.size,0,none⟩) 1 ([i].map gb):=⟨rfl,λ_=>⟨w.heap.size,0,[c0,c1,c2,c3],rfl,⟨r,ad,ad⟩,by simp only[Ie,Iy];exact D.bo.2 b7,λj u hu=>by
  rw[It,bw.cell];simpa using hu⟩⟩
 have g:∀b∈bt aE (q.hn+1) L,b≠G:=λb O=>by
  rcases d b O with ac|ac
  .exact λhe=>h.ne (he▸ca b ac)
  .omega
 have v:Own X 77 1 aE (q.hn+1) L (xs++[.slice (some ⟨w.heap.size,0,none⟩) 1 1]) (bt aE (q.hn+1) L):=aY.al λb O=>by rw[<-hX];exact aP (g b O)
 refine⟨⟨⟨?_,?_,?_⟩,h.st.g.cap,h.st.t.cap,aY.cap⟩,?_,?_⟩
 .exact(h.st.g.al λb O=>m b (by simp only[Ii];exact .inl O)).sl (cB _) (by rw[Ib];exact h.st.gl.symm) λb O=>e b (by simp only[Ii];exact .inl O)
 .exact(h.st.t.al λb O=>m b (by simp only[Ii];exact .inr (.inl O))).sl (eH _) (by rw[Ib];exact h.st.tl.symm) λb O=>e b (by simp only[Ii];exact .inr (.inl O))
 .have hold:D.aO X (λb=>B<=b/\b<X.heap.size/\b≠G) (s.threads.map ly) xs:=(h.st.hs.al nM.al λb O=>m b (by simp only[Ii];exact .inr (.inr O))).aO nM.rep λb O=>e b (by simp only[Ii];exact .inr (.inr O));refine v.sl (l:=(s.threads++[[i]]).map ly) (by rw[Ig];exact D.cu hold (D.bo.2 (eW.2 ⟨_,1,1,rfl,Hx _,b8⟩))) (by simp[h.st.hl]) λb O=>?_;refine⟨?_,(v.lt b O),g b O⟩;rcases d b O with ac|ac
  .exact(h.lo b (ca b ac)).1
  .omega
 .have:=(h.o.aj ag).on aA λaR=>h.ne (ca _ aR);rw[<-hX];exact this.aI 2 _
 .rw[<-hX];exact Fr.setCell (Fr.trans (Fr.mono ag λ_ h=>h.elim) (Fr.mono aA λb O=>(h.lo b (ca b O)).1)) (.inl h.go) _
theorem dd.push(h:dd B w s G q xs aq ar bN bR)(bp:s.threads[k]?=some (fs++[f])):
  ∃O b3 fc cA,q.HA=some ⟨O,0,none⟩/\k<q.hn/\O∈aq++(ar++(bN++bR))/\b3∈aq++(ar++(bN++bR))/\O<w.heap.size/\b3<w.heap.size/\B<=O/\B<=b3/\O≠b3/\O≠G/\b3≠G/\(∀j,w.frozen? ⟨O,j,none⟩=false)/\w.cell? ⟨O,k,none⟩=some (.slice (some ⟨b3,0,none⟩) (fs.length+1) fc)/\
   Own w 139 4 (some ⟨b3,0,none⟩) (fs.length+1) fc cA [b3]/\
   ∀(i:ao) (cs:List Value) (P:Nat->Prop) (aE:IP) (L:Nat) (aT X:World),(gb i).rep w P cs->(∀b,P b->B<=b/\b<w.heap.size/\b≠G/\b∉aq++(ar++(bN++bR)))->
    Own aT 139 4 aE (fs.length+2) L (cA++cs) (bt aE (fs.length+2) L)->Fr (λb=>b=b3) w aT->(∀b∈bt aE (fs.length+2) L,b=b3\/(w.heap.size<=b/\b<aT.heap.size))->
    aT.setCell ⟨O,k,none⟩ (.slice aE (fs.length+2) L)=X->
    q.Is X (λb=>B<=b/\b<X.heap.size/\b≠G) {s with threads:=s.threads.set k (fs++[f]++[i])}/\an X G 45 (q.val s)/\Fr (λb=>B<=b) w X:=by
 obtain⟨Z,x,ay,r,S,o,bf,z,I,bi,cj⟩:=h.st.hs.B6 bp;obtain⟨FA,n,c,cA,fZ,bE,rfl,rfl,bA,bu,aA⟩:=bi;have dH:Z.length=k:=by have:=I.len nM.len;rw[List.length_take,Nat.mul_one] at this;have:=(List.getElem?_eq_some_iff.1 bp).1;omega
 have bb:k<s.threads.length:=(List.getElem?_eq_some_iff.1 bp).1;have Q:k<q.hn:=by rw[h.st.hl];exact bb
 obtain rfl:n=fs.length+1:=by simpa using bA
 obtain⟨b3,rfl,rfl,b7,az,bS,bZ⟩:=bu.block ad;obtain⟨O,mQ,R,T,t,A,K⟩:=h.st.h.block ad;subst z R;have nd:=h.st.nd;have nf:∀b∈(aq++(ar++([O]++r)))++(bE++o),b≠b3:=fF (by simpa[Io] using nd);have C:∀b∈(aq++ar)++(r++(b3::(bE++o))),b≠O:=fF (by simpa[Io] using nd);have l:O∈aq++(ar++([O]++(r++(([b3]++bE)++o)))):=by simp
 have bK:b3∈aq++(ar++([O]++(r++(([b3]++bE)++o)))):=by simp
 have a3:=t k (.slice (some ⟨b3,0,none⟩) (fs.length+1) c) (by rw[bf,List.getElem?_append_right ad,dH,Nat.sub_self];rfl);refine⟨O,b3,c,cA,mQ,Q,l,bK,T,b7,(h.lo _ l).1,(h.lo _ bK).1,nf O (by simp),λhe=>h.ne (he▸l),λhe=>h.ne (he▸bK),A,a3,bu,?_⟩;intro i cs P aE L aT X bj U aY a1 d hX;have bz:=a1.size;have b9:X.heap.size=aT.heap.size:=by rw[<-hX];simp[World.setCell]
 have y:∀b,b<w.heap.size->b≠O->b≠b3->X.heap[b]?=w.heap[b]?:=λb al aZ aR=>by
  rw[<-hX];exact(aP aZ).trans (a1.block b al aR)
 have mem:∀b,b∈aq++(ar++(r++(bE++o)))->b∈aq++(ar++([O]++(r++(([b3]++bE)++o)))):=λb O=>by
  simp only[Ii] at O ⊢;rcases O with O|O|O|O|O
  .exact .inl O
  .exact .inr (.inl O)
  .exact .inr (.inr (.inr (.inl O)))
  .exact .inr (.inr (.inr (.inr (.inl (.inr O)))))
  .exact .inr (.inr (.inr (.inr (.inr O))))
 have m:∀b∈aq++(ar++(r++(bE++o))),X.heap[b]?=w.heap[b]?:=λb O=>by
  refine y b (h.lo b (mem b O)).2 (C b ?_) (nf b ?_)
  .simp only[Ii,Iq] at O ⊢;rcases O with O|O|O|O|O<;>simp[O]
  .simp only[Ii] at O ⊢;rcases O with O|O|O|O|O<;>simp[O]
 have e:∀b,b∈aq++(ar++(r++(bE++o)))->B<=b/\b<X.heap.size/\b≠G:=λb O=>⟨(h.lo b (mem b O)).1,by have:=(h.lo b (mem b O)).2;omega,λhe=>h.ne (he▸mem b O)⟩
 have M:∀b,P b->X.heap[b]?=w.heap[b]?:=λb aX=>by
  obtain⟨_,J,aR,bv⟩:=U b aX;exact y b J (λhe=>bv (he▸l)) (λhe=>bv (he▸bK))
 have cJ:=h.o.lt;have g:∀b∈bt aE (fs.length+2) L,b≠G/\b≠O:=λb aX=>by
  rcases d b aX with ac|ac
  .rw[ac];exact⟨λhe=>h.ne (he▸bK),λhe=>nf O (by simp) he.symm⟩
  .exact⟨ad,ad⟩
 have v:Own X 139 4 aE (fs.length+2) L (cA++cs) (bt aE (fs.length+2) L):=aY.al λb aX=>by rw[<-hX];exact aP (g b aX).2
 have E:(gb i).rep X (λb=>B<=b/\b<X.heap.size/\b≠G) cs:=D.aH (λb O=>by obtain⟨ac,J,aR,_⟩:=U b O;exact⟨ac,ad,aR⟩) _ _ (D.aT M _ _ bj);have F:D.aO X (λb=>B<=b/\b<X.heap.size/\b≠G) ((fs++[f]).map gb) cA:=(aA.al oh.al λb O=>m b (by simp[O])).aO oh.rep λb O=>e b (by simp[O]);have H:Sl X (λb=>B<=b/\b<X.heap.size/\b≠G) aE (fs.length+2) ((fs++[f]++[i]).map gb):=v.sl (by rw[Ig];exact D.cu F (D.bo.2 E)) (by simp) λb aX=>⟨by
  rcases d b aX with ac|ac
  .rw[ac];exact(h.lo _ bK).1
  .have:=h.go;omega,v.lt b aX,(g b aX).1⟩
 refine⟨⟨⟨?_,?_,?_⟩,h.st.g.cap,h.st.t.cap,h.st.h.cap⟩,?_,?_⟩
 .exact(h.st.g.al λb O=>m b (by simp only[Ii];exact .inl O)).sl (cB _) (by simp[h.st.gl]) λb O=>e b (by simp only[Ii];exact .inl O)
 .exact(h.st.t.al λb O=>m b (by simp only[Ii];exact .inr (.inl O))).sl (eH _) (by simp[h.st.tl]) λb O=>e b (by simp only[Ii];exact .inr (.inl O))
 ·
  have uj:Own X 77 1 q.HA q.hn q.hc (xs.set k (.slice aE (fs.length+2) L)) [O]:=by
   have ac:Own aT 77 1 q.HA q.hn q.hc xs [O]:=h.st.h.al λb aX=>a1.block b (aC (ID.1 aX)) (by have:=ID.1 aX;rw[this];exact nf O (by simp));obtain⟨bw,he,bx,_,_,_,a⟩:=ac.block ad;have:bw=O:=by rw[mQ] at he;injection he with he;injection he with he _;exact he.symm
   subst this;rw[<-hX];exact a k _ ad
  have u:D.aO X (λb=>B<=b/\b<X.heap.size/\b≠G) ((s.threads.set k (fs++[f]++[i])).map ly) (xs.set k (.slice aE (fs.length+2) L)):=by
   have e1:xs.set k (.slice aE (fs.length+2) L)=Z++([.slice aE (fs.length+2) L]++ay):=by
    rw[bf,List.set_append_right _ _ ad,dH,Nat.sub_self];rfl
   have e2:s.threads.set k (fs++[f]++[i])=s.threads.take k++((fs++[f]++[i])::s.threads.drop (k+1)):=List.set_eq_take_append_cons_drop.trans (by rw[if_pos bb]);rw[e1,e2,Ig,Ie];refine D.cu ((I.al nM.al λb O=>m b (by simp[O])).aO nM.rep λb O=>e b (by simp[O])) ?_;simp only[D.aO];exact⟨_,_,rfl,eW.2 ⟨_,_,_,rfl,v.cap,H⟩,(cj.al nM.al λb O=>m b (by simp[O])).aO nM.rep λb O=>e b (by simp[O])⟩
  exact uj.sl u (by simp[h.st.hl]) λb aX=>by rw[ID.1 aX];exact⟨(h.lo _ l).1,ad,λhe=>h.ne (he▸l)⟩
 .have:=h.o.on a1 λhe=>h.ne (he▸bK);rw[<-hX];exact this.GH (λhe=>h.ne (he▸l)) _
 .rw[<-hX];exact Fr.setCell (Fr.mono a1 λb aX=>by rw[aX];exact(h.lo _ bK).1) (.inl (h.lo _ l).1) _
end
end Go.Proofs.YtajlmkkidmjgoaaGreatDoor

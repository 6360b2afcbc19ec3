/- Part 22 of the proof. No condition of its own. -/
import Derived.Test.YtnigabjngpnbiabGreatF21
namespace Go.Proofs.YtnigabjngpnbiabGreat
open Go.RowKit Go.Proofs.Tryz
set_option maxRecDepth 1000000
set_option maxHeartbeats 25600000
set_option linter.unusedVariables false
variable{a:Act}{t:Int}{l:List Int}{fs:List ao}{bytes k n size:Nat}{o:Oper}{p:Prop}{e:TypeId}{z:Value}{S W:World}{f:ao}
section
variable {P:Program} {ops:Array Oper} {Q:Exit->Act->World->Prop} {R:World->World->Prop} {tails:List Nat}
theorem x4{rest:PT}{aa:Nat->Nat->Nat->Act}{C:Nat->Nat->Nat->World->Prop}{G:Prop}(h:(∀x y z V,C x y z V->cY P ops Q R tails rest (aa x y z) V)->G)(key:∀x y z V,C x y z V->cY P ops Q R tails rest (aa x y z) V):G:=h key
end
section
variable {P:Program} {ops:Array Oper} {Q:Exit->Act->World->Prop} {R:World->World->Prop} {tails:List Nat}
theorem JQ{i j:Nat}{f:Nat->PT}{w:World}(h:oX P ops Q R tails i (f i) a w)(az:oX P ops Q R tails j (f j) a w)(aV:oX P ops Q R tails k (f k) a w):cY P ops Q R tails (.pick [i,j,k] f) a w:=λm hm=>by
 simp only[Nk,List.not_mem_nil,or_false] at hm;rcases hm with rfl|rfl|rfl
 .exact h
 .exact az
 .exact aV
end
theorem KG(n:Nat):madeCells #[(0:Int)] (n*1)=(List.replicate n (Value.int .i64 0)).toArray:=by
 apply Array.toList_inj.1
 rw[ss (f:=bQ) (x:=0) (sz:=1) rfl rfl ad n,uX,List.map_replicate]
theorem vR(is:List Int)(n:Nat):splice (List.replicate n (Value.int .i64 0)) 0 (is.map dv)=(is++List.replicate (n - is.length) 0).map dv:=by
 unfold splice;simp[List.map_replicate]
theorem an.sl{w:World}{g:Nat}(h:an w g 3 (l.map dv).toArray)(hn:l.length=n){P:Nat->Prop}(bh:P g):Sl w P (some ⟨g,0,none⟩) n (l.map D.i):=by
 refine⟨by simpa using hn,λ_=>⟨g,0,l.map dv,rfl,bh,cO l,λj u hu=>?_⟩⟩;rw[Nm,h.cell];simpa using hu
structure IY(W:World)(L l:Nat)(a b c:Nat)(V:World):Prop where
 ext:Ext W V
 ba:an V a 3 (List.replicate L (Value.int .i64 0)).toArray
 bb:an V b 3 (List.replicate l (Value.int .i64 0)).toArray
 bc:an V c 77 #[.int .i64 0,.int .i64 0,.slice none 0 0,.slice none 0 0]
 ab:a≠b
 ac:a≠c
 LO:b≠c
 lo:W.heap.size<=a/\W.heap.size<=b/\W.heap.size<=c
theorem h9(n:Nat):madeCells #[(0:Int)] n=(List.replicate n (Value.int .i64 0)).toArray:=by have:=KG n;rwa [Nat.mul_one] at this
theorem iI{V:World}{b ty c:TypeId}{j d a:Array Value}(hV:(((W.alloc (.cells j b)).alloc (.cells d ty)).alloc (.cells a c)).drew=V):Ext W V/\an V W b j/\an V (W.heap.size+1) ty d/\an V (W.heap.size+1+1) c a:=by
 subst hV;exact⟨(((NC.alloc _).alloc _).alloc _).drew,((ND).alloc _).alloc _,(an.gF _ _ _ (by simp)).alloc _,an.gF _ _ _ (by simp)⟩
theorem sM{P:Program}{w:World}(e f ty elem:TypeId)(hu:P.underlying e=some (.slice elem))(U:(P.info? elem).map (·.size)=some 1)
  {dp sp:NH} {c dCap d sCap:Nat} {g:Nat} {cur:List Value} {t:TypeId} (aR:an w g t cur.toArray) (cs:List Value) (hn:cs.length=Nat.min d c)
  (u:0<cs.length->dp=some ⟨g,0,none⟩/\∃a,sp=some a/\∀j v,cs[j]?=some v->w.cell? (a.add j)=some v)
  (i:cs.length<=cur.length) (ac:∀v∈cs,v.oneCell'=true) :
  ∃ab,(Builtin.copy_ #[e,f] ty #[.slice dp c dCap,.slice sp d sCap]).run P w=.ok (goInt cs.length) ab/\an ab g t (splice cur 0 cs).toArray/\Fr (λb=>b=g) w ab:=by
 by_cases h0:cs.length=0
 .obtain rfl:cs=[]:=List.eq_nil_of_length_eq_zero h0;exact⟨w,run_copy_none w e f ty elem dp sp c dCap d sCap hu U (by simpa using hn.symm),by simpa[splice] using aR,NC⟩
 .obtain⟨rfl,a,rfl,aw⟩:=u ad;exact⟨_,_root_.Go.run_copy_row (P:=P) w e f ty elem g 0 c dCap a d sCap cur.toArray t cs hu U aR hn aw (by simpa using i) ac,(show _=_ by simpa[splice] using setRow_heap w g _ _ t _ aR),⟨rfl,rfl,rfl,by simp[World.setRow],λk aj bl=>setRow_other w g k _ bl⟩⟩
theorem cp.Ix{w:World}{B:Nat}{A:NH}(h:cp (EF bQ) 1 w B A n l):0<(l.map dv).length->∃a,A=some a/\∀j v,(l.map dv)[j]?=some v->w.cell? (a.add j)=some v:=λh0=>by
 have hl:=h.1;rw[M5] at h0;obtain⟨b,o,bF,_,hc⟩:=h.2 ad;refine⟨_,bF,λj v bi=>?_⟩;rw[List.getElem?_map] at bi
 cases hx:l[j]? with
 | none=>rw[hx] at bi;cases bi
 | some x=>
  rw[hx] at bi;injection bi with bi;subst bi;obtain⟨cs,rfl,_,Z⟩:=hc j x hx;have:=Z 0 _ rfl;rw[Nat.mul_one,Nd] at this;rw[show (⟨b,o,none⟩:Addr).add j=⟨b,o+j,none⟩ by unfold Addr.add;split<;>simp_all];exact this
def Kd(w:World)(f:ao)(e:Ending)(ab:World):Prop:=∃IA i ic bC l lc,e=.returned (.agg #[.int .i64 f.proc,.int .i64 f.pc,.slice IA i ic,.slice bC l lc])/\(gP f).rep ab (fresh w ab) [.int .i64 f.proc,.int .i64 f.pc,.slice IA i ic,.slice bC l lc]/\Ext w ab
namespace DR
theorem fC(h:p:=by
 refine tf ?_;generalize hV:World.drew (World.alloc _ _)=V;obtain⟨h0,ac,az,aV⟩:=iI hV;have hC:IY W L l (W.heap.size+1+1) (W.heap.size) (W.heap.size+1) V:=⟨h0,by rw[<-h9];exact aV,by rw[<-h9];exact ac,az,ad,ad,ad,ad⟩
 clear hV h0 ac az aV;generalize W.heap.size+1+1=cA at hC ⊢;generalize W.heap.size+1=g2 at hC ⊢;generalize W.heap.size=cd at hC ⊢;exact key cA cd g2 _ hC
 ):p:=h
end DR
open DR in
theorem mframe(u:aw)(k:Int)(cq:cR)(is ls:List Int)(IA bC:NH)(i ic l lc:Nat)(w:World)(p:UV)(hu:p.Ok w u)(h0:0<=k)(hp:u.procs[k.toNat]?=some cq)(hl:(is.length:Int)<=cq.locals)(bp:cq.locals<=200)(y:ls.length<=1000)
  (aN:Sl w (av w) IA i (is.map D.i)) (bx:Sl w (av w) bC l (ls.map D.i)) :
  Calls prog 62 #[.agg (p.val u),k,.slice IA i ic,.slice bC l lc] w (Kd w (dt u k is ls)):=by
 obtain⟨GA,gn,gc,MA,mn,mc,PA,pn,pc⟩:=p;have bo:=hu.at_.p.1;rw[M5] at bo;have ce:=(List.getElem?_eq_some_iff.1 hp).1;obtain⟨pb,gR,dq,S,cB,bQ,e,bl,cU,ci,cr,cf,bv,cL,_,_⟩:=hu.at_.proc (k:=k.toNat) ad;simp only at e bo;subst e;rw[hp] at cU;injection cU with cU;subst cU;obtain⟨L,aE⟩:=M6 (a:=cq.locals) ad;rw[aE] at bv;have cy:is.length=i:=by have:=aN.1;simpa using this
 have bK:ls.length=l:=by have:=bx.1;simpa using this
 have hlen:i<=L:=ad;have cC:L<=200:=ad;have bu:l<=1000:=ad;have cK:k<(pn:Int):=ad;have aJ:fi u k=L:=by unfold fi;rw[hp];simp[aE]
 have bT:=ay cy bK aJ;have bH:=ah aN bx;have Y:=λW=>run_mk cF .i64 .i64 L ad ad W;have ab:=λW=>run_mk cF .i64 .i64 l ad ad W;have N:pb<w:=bl;clear hu bo ce bl hp ci cr cf cL aE cy bK aJ aN bx hl bp y;dsimp only[UV.val];go_enter func62,ntmps62;go_upto_region 1 with(fail);generalize be:World.alloc _ _=W;have aF:=g0 be;have aT:=e5 be;have cx:=eT be;have dx:=(aF.cell (j:=gR+k.toNat*5+3) N λh=>h).trans bv;have aC:pb<W:=M0 N aF.size;have am:=cx.lt;have al:=ah aF cx;obtain⟨a0,ak,af⟩:=aT.two;clear be aF aT cx bv N;refine sK (λ_=>False) [7,13] (.free 0 (.free 1 (.held 2 (.free 3 (.free 4 (.free 5 (.held 6 (.free 8 (.free 9 (.pick [7,10,12] (λi=>bif i == 7 then .pick [10,12] (λi=>bif i == 10 then .free 11 (.pick [12] (λ_=>.pick [13] (λ_=>.stop))) else .pick [10] (λ_=>.free 11 (.pick [13] (λ_=>.stop)))) else bif i == 10 then .pick [7,12] (λi=>bif i == 7 then .free 11 (.pick [12] (λ_=>.pick [13] (λ_=>.stop))) else .pick [7] (λ_=>.free 11 (.pick [13] (λ_=>.stop)))) else .pick [7,10] (λi=>bif i == 7 then .pick [10] (λ_=>.free 11 (.pick [13] (λ_=>.stop))) else .pick [7] (λ_=>.free 11 (.pick [13] (λ_=>.stop))))))))))))))) ?_
 iterate 2 refine tf ?_
 refine th ?_
 iterate 3 refine tf ?_
 refine th ?_
 iterate 2 refine tf ?_
 refine x4 (P:=?P1) (ops:=?o1) (Q:=?q1) (R:=?r1) (tails:=?t1) (rest:=.pick [13] (λ_=>.stop)) (aa:=?aa) (C:=IY W L l) (λkey=>?main) ?key
 case main=>
  refine JQ ?_ ?_ ?_
  ·
   refine bP rfl (λK hK=>?_) rfl;go_simp;refine dY hK ?_;clear hK K;refine a2 ?_ ?_
   ·
    refine ep ?_;refine tf ?_;refine aq ?_;refine ep ?_;generalize hV:World.drew (World.alloc _ _)=V;obtain⟨h0,ac,az,aV⟩:=iI hV;have hC:IY W L l (W.heap.size) (W.heap.size+1) (W.heap.size+1+1) V:=⟨h0,by rw[<-h9];exact ac,by rw[<-h9];exact az,aV,ad,ad,ad,ad⟩
    clear hV h0 ac az aV;generalize W.heap.size+1+1=cA at hC ⊢;generalize W.heap.size+1=g2 at hC ⊢;generalize W.heap.size=cd at hC ⊢;exact key cd g2 cA _ hC
   ·
    refine ep ?_;refine aq ?_;refine ep ?_;refine tf ?_;generalize hV:World.drew (World.alloc _ _)=V;obtain⟨h0,ac,az,aV⟩:=iI hV;have hC:IY W L l (W.heap.size) (W.heap.size+1+1) (W.heap.size+1) V:=⟨h0,by rw[<-h9];exact ac,by rw[<-h9];exact aV,az,ad,ad,ad,ad⟩
    clear hV h0 ac az aV;generalize W.heap.size+1+1=cA at hC ⊢;generalize W.heap.size+1=g2 at hC ⊢;generalize W.heap.size=cd at hC ⊢;exact key cd cA g2 _ hC
  ·
   refine ep ?_;refine a2 ?_ ?_
   ·
    refine bP rfl (λK hK=>?_) rfl;go_simp;refine dY hK ?_;clear hK K;refine tf ?_;refine aq ?_;refine ep ?_;generalize hV:World.drew (World.alloc _ _)=V;obtain⟨h0,ac,az,aV⟩:=iI hV;have hC:IY W L l (W.heap.size+1) (W.heap.size) (W.heap.size+1+1) V:=⟨h0,by rw[<-h9];exact az,by rw[<-h9];exact ac,aV,ad,ad,ad,ad⟩
    clear hV h0 ac az aV;generalize W.heap.size+1+1=cA at hC ⊢;generalize W.heap.size+1=g2 at hC ⊢;generalize W.heap.size=cd at hC ⊢;exact key g2 cd cA _ hC
   ·
    refine ep ?_;exact fQ
  ·
   refine ep ?_;refine a2 ?_ ?_
   ·
    refine bP rfl (λK hK=>?_) rfl;go_simp;refine dY hK ?_;clear hK K;refine aq ?_;refine ep ?_;refine tf ?_;generalize hV:World.drew (World.alloc _ _)=V;obtain⟨h0,ac,az,aV⟩:=iI hV;have hC:IY W L l (W.heap.size+1) (W.heap.size+1+1) (W.heap.size) V:=⟨h0,by rw[<-h9];exact az,by rw[<-h9];exact aV,ac,ad,ad,ad,ad⟩
    clear hV h0 ac az aV;generalize W.heap.size+1+1=cA at hC ⊢;generalize W.heap.size+1=g2 at hC ⊢;generalize W.heap.size=cd at hC ⊢;exact key g2 cA cd _ hC
   ·
    refine ep ?_;refine aq ?_;refine bP rfl (λK hK=>?_) rfl;go_simp;refine dY hK ?_;clear hK K;refine tf ?_;generalize hV:World.drew (World.alloc _ _)=V;obtain⟨h0,ac,az,aV⟩:=iI hV;have hC:IY W L l (W.heap.size+1+1) (W.heap.size+1) (W.heap.size) V:=⟨h0,by rw[<-h9];exact aV,by rw[<-h9];exact az,ac,ad,ad,ad,ad⟩
    clear hV h0 ac az aV;generalize W.heap.size+1+1=cA at hC ⊢;generalize W.heap.size+1=g2 at hC ⊢;generalize W.heap.size=cd at hC ⊢;exact key cA g2 cd _ hC
 intro g ck gc V hC;have bY:=ae hC;obtain⟨c0,ch,bz⟩:=hC.bc.two;clear hC a0 ak af Y ab dx;refine aq ?_;refine bP rfl (λK hK=>?_) rfl;go_simp;refine dY hK ?_;clear hK K;refine cj ?_;generalize hX:World.setCell _ _ _=X;obtain⟨bE,b9⟩:=kY 0 [k,(0:Int),.slice (some ⟨g,0,none⟩) L L,.slice (some ⟨ck,0,none⟩) l l] bY.bc hX;have aT:an X gc 77 #[k,(0:Int),.slice (some ⟨g,0,none⟩) L L,.slice (some ⟨ck,0,none⟩) l l]:=by simpa[jv] using bE
 have bF:=bY.ba.on b9 bY.ac;have bG:=bY.bb.on b9 bY.LO;have bt:Ext W X:=Fr.low (M:=λb=>b=gc) (Fr.trans (Fr.mono bY.ext λ_ h=>h.elim) b9) λb O=>by have:=bY.lo;omega
 have aP:=br bt bF bG aT;obtain⟨d0,aQ,aS⟩:=aT.two;clear hX bE b9 aT bF bG bt c0 ch bz;have J:Ext w X:=al.1.trans aP.1;have bL:=al.2.aj aP.1;have ai:=(bH.1.on (Fr.ext J)).ints;have m:=bT.1;have o:=bT.2.1;have I:(is.map dv).length=Nat.min i L:=by rw[M5];simp only[Nat.min_def];split<;>omega
 have s:=ai.Ix;have H:(is.map dv).length<=(List.replicate L (Value.int .i64 0)).length:=by simp;omega
 have r:=cQ aP.2.1 aP.2.2.1 aP.2.2.2 J bL;have f:=cQ I s H m o;clear J bL ai I s H m o;obtain⟨aW,F,bn,aA⟩:=sM (P:=prog) 22 22 3 3 Tryz.underlying22 (by kernel_rfl) (dp:=some ⟨g,0,none⟩) (dCap:=L) (sp:=IA) (sCap:=ic) r.1 (is.map dv) f.1 (λh=>⟨rfl,f.2.1 h⟩) f.2.2.1 (by simp[Value.oneCell']);have bc:=r.2.2.1.on aA (Ne.symm bY.ac);have b1:=ay bn aA bc;clear bn aA;obtain⟨e0,a6,ag⟩:=bc.two;clear bc;have ao:Ext w aW:=Fr.low (M:=λb=>b=g) (Fr.trans (Fr.mono r.2.2.2.1 λ_ h=>h.elim) b1.2.1) λb O=>by have:=bY.lo;have:=al.1.size;omega
 have aY:=(bH.2.on (Fr.ext ao)).ints;have z:=aY.Ix;have bZ:(ls.map dv).length=Nat.min l l:=by rw[M5];have:=f.2.2.2.2;simp only[Nat.min_def];split<;>omega
 have T:(ls.map dv).length<=(List.replicate l (Value.int .i64 0)).length:=by have:=f.2.2.2.2;simp;omega
 have b0:=r.2.1.on b1.2.1 (Ne.symm bY.ab);have c3:=cQ bZ z T b0 ao;clear ao aY z bZ T b0;obtain⟨b6,G,bn,aA⟩:=sM (P:=prog) 22 22 3 3 Tryz.underlying22 (by kernel_rfl) (dp:=some ⟨ck,0,none⟩) (dCap:=l) (sp:=bC) (sCap:=lc) c3.2.2.2.1 (ls.map dv) c3.1 (λh=>⟨rfl,c3.2.1 h⟩) c3.2.2.1 (by simp[Value.oneCell']);have bc:=b1.2.2.on aA (Ne.symm bY.LO);have bN:=ay bn aA bc;clear bn aA;obtain⟨f0,cH,dS⟩:=bc.two;clear bc;have cE:=(r.2.2.2.2.on b1.2.1 (ax bY.lo)).on bN.2.1 (ax bY.lo);have dP:Ext w b6:=Fr.low (M:=λb=>b=ck) (Fr.trans (Fr.mono c3.2.2.2.2 λ_ h=>h.elim) bN.2.1) λb O=>by have:=bY.lo;have:=al.1.size;omega
 have a3:=ah cE dP;obtain⟨bq,a1,a5⟩:=cE.two;clear cE dP;go_wp2_with(fail);generalize hX:World.setCell _ _ _=Z;obtain⟨bm,bd,a4⟩:=a9 (w:=w) [k,(0:Int),.slice (some ⟨g,0,none⟩) L L,.slice (some ⟨ck,0,none⟩) l l] (by rfl) a3.1 a3.2 ad hX;have bj:=ah bd a4;clear hX bd a4 bq a1 a5 d0 aQ aS e0 a6 ag f0 cH dS F G;obtain⟨bq,a1,a5⟩:=bm.two;refine NB (v:=.agg #[k,(0:Int),.slice (some ⟨g,0,none⟩) L L,.slice (some ⟨ck,0,none⟩) l l]) (by simp[results,Tryz.results62,go_sem,bq]) rfl ?_;have bp:=bY.lo;have U:=al.2.lt;have au:=(b1.1.on bN.2.1 bY.ab).on bj.2 ad;have aB:=bN.1.on bj.2 ad;rw[vR] at au aB;have aj:=bT.2.2;have ar:=au.lt;have bu:=aB.lt;have ap:dt u k is ls=⟨k,0,is++List.replicate (L - is.length) 0,ls⟩:=by unfold dt;rw[aj]
 rw[ap];refine⟨some ⟨g,0,none⟩,L,L,some ⟨ck,0,none⟩,l,l,rfl,gz.2 ⟨_,_,_,_,_,_,rfl,MU _,MU _,au.sl (by have:=bT.1;simp;omega) ⟨ad,ar⟩,?_⟩,bj.1⟩;have:=aB.sl (n:=l) (P:=fresh w Z) (by have:=bT.2.1;simp;omega) ⟨ad,bu⟩
 rwa [show l - ls.length=0 by have:=bT.2.1;omega,List.replicate_zero,Nt] at this
def IW(w:World)(a b:List Int×Int)(e:Ending)(ab:World):Prop:=
 (a.2≠0->e=.returned (.tuple #[.slice none 0 0,.slice none 0 0,.int .i64 a.2])/\Ext w ab)/\
 (a.2=0->b.2≠0->e=.returned (.tuple #[.slice none 0 0,.slice none 0 0,.int .i64 b.2])/\Ext w ab)/\
 (a.2=0->b.2=0->∃A n c I a6 aD,e=.returned (.tuple #[.slice A n c,.slice I a6 aD,.int .i64 0])/\n<=c/\a6<=aD/\Sl ab (fresh w ab) A n (a.1.map D.i)/\Sl ab (fresh w ab) I a6 (b.1.map D.i)/\Ext w ab)
def xg(g l:List Int)(es:List VE)(k:Nat):Prop:=∀e∈es.take k,(ev g l e).2=0
theorem nU{g l:List Int}:∀{es:List VE},(∀e∈es,(ev g l e).2=0)->cW g l es=(es.map λe=>(ev g l e).1,0)
 | [],_=>rfl
 | e::es,h=>by
  have ac:=h e (by simp);have az:=nU (es:=es) λx hx=>h x (by simp[hx]);unfold cW;rw[if_neg ad,az,if_neg (by simp)];rfl
theorem nT{g l:List Int}:∀{es:List VE} {k:Nat} {e:VE},xg g l es k->es[k]?=some e->(ev g l e).2≠0->cW g l es=([],(ev g l e).2)
 | [],k,e,_,h,_=>by simp at h
 | x::es,0,e,_,h,O=>by
  simp at h;subst h;unfold cW
  rw[if_pos O]
 | x::es,k+1,e,hu,h,O=>by
  have ac:(ev g l x).2=0:=hu x (by simp);have az:=nT (es:=es) (k:=k) (e:=e) (λy bb=>hu y (by simp[bb])) (by simpa using h) O;unfold cW;rw[if_neg ad,az,if_pos O]
theorem mB{u:aw}{s:ai}{f:ao}:∀{ps:List bO},(∀p∈ps,(bH u s f p).2=0)->b3 u s f ps=(ps.map λp=>(bH u s f p).1,0)
 | [],_=>rfl
 | p::ps,h=>by
  have ac:=h p (by simp);have az:=mB (ps:=ps) λx hx=>h x (by simp[hx]);unfold b3;rw[if_neg ad,az,if_neg (by simp)];rfl
theorem mA{u:aw}{s:ai}{f:ao}:∀{ps:List bO} {k:Nat} {p:bO},(∀x∈ps.take k,(bH u s f x).2=0)->ps[k]?=some p->(bH u s f p).2≠0->b3 u s f ps=([],(bH u s f p).2)
 | [],k,p,_,h,_=>by simp at h
 | x::ps,0,p,_,h,O=>by
  simp at h;subst h;unfold b3
  rw[if_pos O]
 | x::ps,k+1,p,hu,h,O=>by
  have ac:(bH u s f x).2=0:=hu x (by simp);have az:=mA (ps:=ps) (k:=k) (p:=p) (λy bb=>hu y (by simp[bb])) (by simpa using h) O;unfold b3;rw[if_neg ad,az,if_pos O]
theorem jJ.args{u:aw}{s:ai}{cq:cR}{x:aA}{N:Nat}(h:jJ u s t f cq x N)(cp:x.op=2\/x.op=3):(∀e∈x.ints,fW (bg u) cq.locals e)/\(∀p∈x.places,cK (bg u) cq.locals cq.az p)/\
  0<=x.target/\∃pc,u.procs[x.target.toNat]?=some pc/\(x.ints.length:Int)=pc.ints/\(x.places.length:Int)=pc.az/\qX (bg u) pc:=by
 obtain⟨len,_,aN⟩:=h.ok;rcases aN with⟨ac,_⟩|⟨_,_,sg,az,aV,aU,cB,bG,C⟩|⟨ac,_⟩|⟨ac,_⟩|⟨ac,_⟩|⟨ac,_⟩
 .omega
 .refine⟨bG,C,az,?_⟩;simp only[bg,List.getElem?_map] at aV
  cases bv:u.procs[x.target.toNat]? with
  | none=>rw[bv] at aV;cases aV
  | some r=>
   rw[bv] at aV;simp only[Option.map_some,Nw] at aV;subst aV;exact⟨r,rfl,aU,cB,h.hU.ok.procs r (M4 bv)⟩
 .omega
 .omega
 .omega
 .omega
namespace DS
theorem tb(h:p:=by
 have bB:=ah bb aa;clear bb aa cX Z bu O aF hG P J;go_upto_region 6 with(fail);generalize hU:World.alloc _ _=U;have cl:=aX hU;have cN:=aL hU;have bz:=a3.2.2.2.trans cl;have cz:=ay cl bz (D.on bB.2 (Fr.ext cl));have I:=(al.2.2.2.2.2.2.2.on bz)
 have cH:=I.lf;have f2:=I.c2;obtain⟨d0,aQ,aS⟩:=cN.two;obtain⟨bs,am,aK⟩:=(al.2.2.1.aj bz).two;have Q:=ae I;clear hU cl cN bz I c0 c1 c2 c3 aZ;refine eJ (λ_=>False) [(0,0),(1,3),(2,0),(3,3),(4,3),(5,3),(6,0),(7,2),(8,3),(9,3),(10,3),(11,3),(12,3)] ?_;refine ph ?_;refine pf ?_;refine ph ?_
 iterate 3 refine pf ?_
 refine ph ?_;refine au rfl (λK hK=>?_);go_simp;have bc:Ext U U.drew:=(Fr.refl _ U).drew;refine(pQ ex U.drew bI IA bU i bx ic s.globals f.ints _ _ _ _ (aP.1.G1 (aP.2.1 ex (M4 bB.1)) ((al.2.2.2.2.2.1.on cz.2.1).on bc).at_.g (Q.on bc).ints (D.on cz.2.2 (Fr.ext bc))).1).mono ?_;rintro e aW ⟨rfl,bn⟩;have a8:=ae (show Ext U aW from Fr.aF (Fr.of bn));have ar:=λaI=>nT (k:=k) a3.2.2.1 bB.1 aI;generalize bd:ev s.globals f.ints ex=R at *;obtain⟨r,z⟩:=R;have bL:=ah ar bd;clear ar bd bn bc d0 aQ aS bs am aK f2 cH Q;refine dY hK ?_;clear hK K
 iterate 5 refine pf ?_
 refine aG ?_;by_cases aI:z=0
 .have q5:(z != 0)=false:=by simpa using aI
  have bo:=(a3.2.1.aj cz.1).aj a8.o;have bO:=cz.1.size;have cI:=a8.size;obtain⟨aq,bj⟩:=aJ bo aI;clear aI bo;go_wp2_with(at_builtin;refine bJ cF rfl (.tmp 46) (.tmp 48) rfl aq.o (d:=D.i r) (cs:=#[.int .i64 r]) (by simp only[D.rep]) rfl rfl rfl ad ad ad ?_;intro cu c3 b6 cd g2 cA c6;have b7:=ah cd g2;clear cd g2 cA c6);have bp:∀b,(Value.slice A k c).ownBlock=some b->aO.heap.size<=b:=λb O=>(aq.lt O).1;have bf:Ext aO b6:=Fr.low (M:=λb=>(Value.slice A k c).ownBlock=some b) (Fr.trans (Fr.mono ((a3.1.trans cz.1).trans a8.o) λ_ h=>h.elim) b7.2) λb O=>bp b O;have a4:=ae bf;clear bp bf;go_roundw
  case rel=>
   refine⟨k+1,cu,c3,rfl,by go_num,ad,a4.o,?_,λe he=>?_⟩
   .rw[aU bB.1,Na,Na];have ac:=b7.1;exact yu
   .rw[aU bB.1] at he;rcases Nc.1 he with he|he
    .exact a3.2.2.1 e he
    .rw[Nv.1 he,bL.2];exact bj.o
  case measure=>exact aH
 .have q5:(z != 0)=true:=by simpa using aI
  have bZ:=ae (bL.1 aI);have bj:=ae aI;clear aI;go_wp2_with(fail)
  go_ret3
  have L:Ext w aW:=((al.1.trans a3.2.2.2).trans cz.1).trans a8.o;refine⟨λh=>⟨?_,L⟩,λh=>absurd h ?_,λh=>absurd h ?_⟩
  .rw[bZ.o];rfl
  .rw[bZ.o];exact bj.o
  .rw[bZ.o];exact bj.o
 ):p:=h
theorem fP(h:p:=by
 obtain⟨eo,en,es,EA,em,ec,QA,qm,qc,dl,j,dh,KA,di,kc⟩:=v;obtain⟨bg,bD,ch,cT,n,fc,IA,i,ic,bC,l,lc,e,hT⟩:=hs.at_.top h.sm h.ht;simp only at e;subst e;obtain⟨b4,cE,_⟩:=h.args cp;have aV:x.ints.length=j:=by have:=bK.ints.1;simpa using this
 have bP:x.places.length=di:=by have:=bK.places.1;simpa using this
 have cP:j<=200:=by have:=h.il;omega
 have cV:di<=200:=by have:=h.kl;omega
 have aP:=cQ h b4 cE aV bP;have cc:=br hu hs bK hT;clear h b4 cE aV bP hu hs bK hT;dsimp only[UV.val,SV.val,IV.val];go_enter func60,ntmps60;go_upto_region 1 with(fail);generalize be:World.alloc _ _=W;have aF:=l9 be;have bX:=kB be;have bh:=iL be;have ba:=kC be;have al:=rY aF bX bh ba (cc.1.on aF) (cc.2.1.on aF) (cc.2.2.1.on aF) (cc.2.2.2.on aF);obtain⟨bs,am,aK⟩:=bh.two;clear be aF bX bh ba cc;go_wp2_with(fail);refine(lH al.2.2.2.2.2.2.2 _ _ _).mono ?_;rintro e aO ⟨rfl,aM⟩;have bw:=ae aM;clear bs am aK;obtain⟨d0,aQ,aS⟩:=(al.2.2.2.1.aj aM).two;clear aM;have mL:=bw.size;have cZ:=al.1.size;go_wp2_with(fail);clear d0 aQ aS;go_loopw [11,28] (λsv b5 wr=>∃(k:Nat) (A:NH) (c:Nat),sv=.slice A k c/\b5=.int .i64 k/\k<=j/\Ext aO wr/\Gr (λ_=>False) aO 3 1 wr A k c (((x.ints.take k).map λe=>(ev s.globals f.ints e).1).map D.i)/\xg s.globals f.ints x.ints k) (λ_ b5 _=>j - (intOf b5).toNat)
 case atStart=>exact⟨0,none,0,rfl,rfl,ad,NC,Gr.nil _ _ _ _ _,λe he=>by simp at he⟩
 case round=>
  obtain⟨k,A,c,rfl,rfl,aj,aF,hG,P⟩:=hrel;have J:=bw.trans aF;have a3:=br aF hG P J;have fk:=aF.size;by_cases ap:k<j
  .obtain⟨b,o,ex,cs,rfl,O,bb,aa,bu,Z⟩:=(al.2.2.2.2.2.2.1.ints.on (Fr.ext J)).g1 c7 ap;exact ta
  .obtain rfl:k=j:=ad;have y:cW s.globals f.ints x.ints=(x.ints.map λe=>(ev s.globals f.ints e).1,0):=nU λe he=>P e (by rw[Nb (ax aP.2.2.2.1)];exact he);have bS:Sl wr (λb=>aO.heap.size<=b/\b<wr.heap.size) A k ((cW s.globals f.ints x.ints).1.map D.i):=by
    have aR:=hG;rw[Nb (ax aP.2.2.2.1)] at aR;rw[y];exact aR.sl (λb _ h=>h.elim) λb ap O=>⟨O,ap⟩
   have bM:=hG.cap.1;obtain⟨cD,rfl⟩:∃cD,cD=wr:=⟨wr,rfl⟩
   have HA:=ay bS bM y;obtain⟨d0,aQ,aS⟩:=(al.2.2.2.1.aj J).two;clear aF hG P J y bS bM;go_wp2_with(fail);clear d0 aQ aS;go_loopw [12,54] (λsv b5 wr=>∃(m:Nat) (B:NH) (aD:Nat),sv=.slice B m aD/\b5=.int .i64 m/\m<=di/\Ext cD wr/\Gr (λ_=>False) cD 3 1 wr B m aD (((x.places.take m).map λp=>(bH u s f p).1).map D.i)/\∀p∈x.places.take m,(bH u s f p).2=0) (λ_ b5 _=>di - (intOf b5).toNat)
   case atStart=>exact⟨0,none,0,rfl,rfl,ad,NC,Gr.nil _ _ _ _ _,λe he=>by simp at he⟩
   case round=>
    obtain⟨m,B,aD,rfl,rfl,hm,aF,hG,P⟩:=hrel;have J:=a3.2.2.2.trans aF;have bW:=br aF hG P J;have cv:=aF.size;by_cases cG:m<di
    .obtain⟨b,o,pl,b9,aN,zc,rfl,O,bb,ci,cr,cf,bV,cY⟩:=(al.2.2.2.2.2.2.1.places.on (Fr.ext J)).pH cG;have aZ:b<wr:=O;have bB:=ay bb bV cY;clear bb bV cY O aF hG P J;go_upto_region 14 with(fail);generalize hU:World.alloc _ _=U;have cl:=aX hU;have cN:=aL hU;have bz:=bW.2.2.2.trans cl;have cz:=ay cl bz (dK.2 ⟨b9,aN,zc,rfl,bB.2.1,bB.2.2.on (Fr.ext cl)⟩:(dg pl).rep U (av U) [.bool pl.param,.int .i64 pl.index,.slice b9 aN zc]);obtain⟨d0,aQ,aS⟩:=cN.two;obtain⟨bs,am,aK⟩:=(al.2.2.1.aj bz).two;obtain⟨a0,ak,af⟩:=(al.2.1.aj bz).two;clear hU cl cN bz ci cr cf aZ;go_wp2_with(fail);refine(qF u s t f pl N U ⟨GA,gn,gc,MA,mn,mc,PA,pn,pc⟩ ⟨bI,bU,bx,TA,tn,tc,some ⟨bg,bD,none⟩,hn,hc⟩ b9 aN zc ⟨aP.1.hU.ok,aP.1.hS,aP.1.sm,aP.1.ht,⟨cq,aP.1.hp,aP.2.2.1 pl (M4 bB.1)⟩,al.2.2.2.2.1.on cz.2.1,al.2.2.2.2.2.1.on cz.2.1,cz.2.2⟩).mono ?_;rintro e aW ⟨rfl,bn⟩;rw[iO aP.1.ht];have a8:=ae (show Ext U aW from Fr.of bn);have ar:=λaI=>mA (k:=m) bW.2.2.1 bB.1 aI;generalize bd:bH u s f pl=R at *;obtain⟨r,z⟩:=R;have bL:=ah ar bd;clear ar bd bn d0 aQ aS bs am aK a0 ak af;by_cases aI:z=0
     .have q5:(z != 0)=false:=by simpa using aI
      have bo:=(bW.2.1.aj cz.1).aj a8.o;have bO:=cz.1.size;have cI:=a8.size;obtain⟨aq,bj⟩:=aJ bo aI;clear aI bo;go_wp2_with(at_builtin;refine bJ cF rfl (.tmp 69) (.tmp 71) rfl aq.o (d:=D.i r) (cs:=#[.int .i64 r]) (by simp only[D.rep]) rfl rfl rfl ad ad ad ?_;intro cu c3 b6 cd g2 cA c6;have b7:=ah cd g2;clear cd g2 cA c6);have bp:∀b,(Value.slice B m aD).ownBlock=some b->cD.heap.size<=b:=λb O=>(aq.lt O).1;have bf:Ext cD b6:=Fr.low (M:=λb=>(Value.slice B m aD).ownBlock=some b) (Fr.trans (Fr.mono ((bW.1.trans cz.1).trans a8.o) λ_ h=>h.elim) b7.2) λb O=>bp b O;have a4:=ae bf;clear bp bf;go_roundw
      case rel=>
       refine⟨m+1,cu,c3,rfl,by go_num,ad,a4.o,?_,λe he=>?_⟩
       .rw[aU bB.1,Na,Na];have ac:=b7.1;exact yu
       .rw[aU bB.1] at he;rcases Nc.1 he with he|he
        .exact bW.2.2.1 e he
        .rw[Nv.1 he,bL.2];exact bj.o
      case measure=>exact aH
     .have q5:(z != 0)=true:=by simpa using aI
      have bZ:=ae (bL.1 aI);have bj:=ae aI;clear aI;go_wp2_with(fail)
      go_ret3
      have L:Ext w aW:=((al.1.trans bW.2.2.2).trans cz.1).trans a8.o;refine⟨λh=>absurd ?_ h,λ_ h=>⟨?_,L⟩,λ_ h=>absurd h ?_⟩
      .rw[HA.2.2]
      .rw[bZ.o];rfl
      .rw[bZ.o];exact bj.o
    .obtain rfl:m=di:=ad;have y:b3 u s f x.places=(x.places.map λp=>(bH u s f p).1,0):=mB λe he=>P e (by rw[Nb (ax aP.2.2.2.2)];exact he);have bS:Sl wr (fresh w wr) B m ((b3 u s f x.places).1.map D.i):=by
      have aR:=hG;rw[Nb (ax aP.2.2.2.2)] at aR;rw[y];exact aR.sl (λb _ h=>h.elim) λb ap O=>⟨ad,ap⟩
     have bM:=hG.cap.1;have bT:=ay bS bM y;clear aF hG P J y bS bM;go_wp2_with(fail)
     go_ret3
     refine⟨λh=>absurd ?_ h,λ_ h=>absurd ?_ h,λ_ _=>⟨A,k,c,B,m,aD,rfl,HA.2.1,bT.2.1,(HA.1.ak λb O=>bW.1.block b O.2 λh=>h).mono λb O=>⟨by have:=O.1;omega,by have:=O.2;omega⟩,bT.1,al.1.trans bW.2.2.2⟩⟩
     .rw[HA.2.2]
     .rw[bT.2.2]
 ):p:=h
end DS
open DS in
theorem xo(u:aw)(s:ai)(t:Int)(f:ao)(cq:cR)(x:aA)(N:Nat)(w:World)(p:UV)(q:SV)(v:IV)(h:jJ u s t f cq x N)(cp:x.op=2\/x.op=3)(hu:p.Ok w u)(hs:q.Ok w s)(bK:v.Ok w x) :
  Calls prog 60 #[.agg (p.val u),.agg (q.val s),t,.agg (v.val x)] w (IW w (cW s.globals f.ints x.ints) (b3 u s f x.places)):=by
 exact fO
theorem zk{P:Program}{t:TypeId}{K:Act->World->Prop}{Q:Exit->Act->World->Prop}(bF:cq P t e z size bytes)(s x:Operand)
  (bD:o.op=.call {callee:=.builtin .append,args:=#[s,x],argTypes:=#[t,t]})
  {A:NH} {n c g:Nat} {xs:List Value} {F:List Nat} (h0:Own S e size A n c xs F) {cs:Array Value} {i:TypeId} (aT:an S g i cs)
  (hs:a.eval s=.slice A n c) (hx:a.eval x=.slice (some ⟨g,0,none⟩) 1 1) (T:cs.size=size) (ac:∀u∈cs.toList,u.oneCell'=true)
  (r:(n+1)*bytes<=140737488355328) (y:n+1<=140737488355328)
  (h:∀I aD ab,Own ab e size I (n+1) aD (xs++cs.toList) (bA I (n+1) aD)->Fr (λb=>b∈F) S ab->(∀b∈bA I (n+1) aD,b∈F\/(S.heap.size<=b/\b<ab.heap.size))->K (a.put o.dst (.slice I (n+1) aD)) ab):o.wp P a S K Q:=by
 have aw:Src S size (some ⟨g,0,none⟩) 1 cs.toList:=⟨by simpa using T,ac,λ_=>⟨g,0,rfl,λj u bi=>by
  rw[Nm,aT.cell];simpa using bi⟩⟩
 refine kx _ bF s x bD 0 _ n xs hs h0.row _ 1 1 cs.toList hx aw r y (Nq _) (λh=>nomatch h) λG ab bR cS H=>?_;obtain⟨I,aD,rfl,hc,_⟩:=bG bR;refine h I aD ab ⟨bR,rfl⟩ (NC.grown cS λg aR=>.inl (by rw[h0.eq];simp[aR])) λb O=>?_;have aZ:(Value.slice I (n+1) aD).ownBlock=some b:=by simpa using O
 rcases H with H|H
 .rw[H] at aZ;exact .inl (by rw[h0.eq];simp[aZ])
 .have:=(bR.lt b aZ).2;rw[H] at aZ;injection aZ with aZ;right;omega
theorem qW{P:Program}{ops:Array Oper}{Q:Exit->Act->World->Prop}{R:World->World->Prop}{rest:List (Nat×Nat)}(C:World->Prop)(hC:C W)(h:∀V,C V->ca P ops Q R rest a V):ca P ops Q R rest a W:=h W hC
theorem vw{s:ai}{b0 R:ao}(h:s.threads[t.toNat]?=some (fs++[f])):qY (bu s t b0) t R={s with threads:=(s.threads.set t.toNat (fs++[b0])).set t.toNat (fs++[b0]++[R])}:=by
 rw[ek h];unfold qY;have ap:=(List.getElem?_eq_some_iff.1 h).1;rw[lG (x:=fs++[b0]) (by simp[ap])]
theorem nB{P:Program}{t:TypeId}{ops:Array Oper}{rest:List Oper}{Q:Exit->Act->World->Prop}(bF:cq P t e z size bytes)(i:o.guard=none)(s x:Operand)
  (bD:o.op=.call {callee:=.builtin .append,args:=#[s,x],argTypes:=#[t,t]})
  {A:NH} {n c g:Nat} {xs:List Value} {F:List Nat} (h0:Own S e size A n c xs F) {cs:Array Value}
  (hs:a.eval s=.slice A n c) (hx:a.eval x=.slice (some ⟨g,0,none⟩) 1 1) (aR:g=S.heap.size) (T:cs.size=size) (ac:∀u∈cs.toList,u.oneCell'=true)
  (r:(n+1)*bytes<=140737488355328) (y:n+1<=140737488355328)
  (h:∀I aD ab,Own ab e size I (n+1) aD (xs++cs.toList) (bA I (n+1) aD)->Fr (λb=>b∈F) S ab->(∀b∈bA I (n+1) aD,b∈F\/(S.heap.size<=b/\b<ab.heap.size))->wpList P ops Q rest (a.put o.dst (.slice I (n+1) aD)) ab):wpList P ops Q (o::rest) a (S.alloc (.cells cs e)):=by
 subst aR;exact oV bF i s x bD h0 hs hx T ac r y h
section
variable {B:Nat} {w ab:World} {s:ai} {N:Nat} {q:SV} {xs:List Value} {F1 F2 bJ cb:List Nat}
theorem kz.F3{α:Type}{E:World->α->List Value->List Nat->Prop}{w:World}:∀{l:List α} {xs:List Value} {F:List Nat},kz E w l xs F->∀{k:Nat} {a:α},l[k]?=some a->
  ∃Z x a9 F1 f F2,xs=Z++(x++a9)/\F=F1++(f++F2)/\kz E w (l.take k) Z F1/\E w a x f/\kz E w (l.drop (k+1)) a9 F2
 | [],_,_,_,k,a,aj=>by simp at aj
 | b::l,xs,F,h,0,a,aj=>by
  obtain⟨x,y,F1,F2,rfl,rfl,ac,az⟩:=h;simp only[List.getElem?_cons_zero,Nw] at aj;subst aj
  exact⟨[],x,y,[],F1,F2,rfl,rfl,⟨rfl,rfl⟩,ac,az⟩
 | b::l,xs,F,h,k+1,a,aj=>by
  obtain⟨b0,y,g,Y,rfl,rfl,ac,az⟩:=h;simp only[List.getElem?_cons_succ] at aj;obtain⟨Z,x,a9,F1,f,F2,rfl,rfl,aV,aU,cB⟩:=kz.F3 az aj;exact⟨b0++Z,x,a9,g++F1,f,F2,by simp,by simp,⟨b0,Z,g,F1,rfl,rfl,ac,aV⟩,aU,cB⟩
theorem qE{α β:Type}(g:α->β):∀(l:List α) (k:Nat) (x:α),(l.set k x).map g=(l.map g).set k (g x)
 | [],_,_=>rfl
 | _::_,0,_=>rfl
 | a::l,k+1,x=>by simp[qE g l k x]
theorem dG.start(h:dG B w s N q xs F1 F2 bJ cb){R:ao}{c0 c1 c2 c3:Value}{P:Nat->Prop}(bE:(gP R).rep w P [c0,c1,c2,c3])(bh:∀b,P b->B<=b/\b<w.heap.size/\b≠N/\b∉F1++(F2++(bJ++cb)))
  {aO aW X:World} (ag:w.alloc (.cells #[c0,c1,c2,c3] 77)=aO) {I:NH} {aD:Nat}
  (ba:Own aW 95 1 I (q.hn+1) aD (xs++[.slice (some ⟨w,0,none⟩) 1 1]) (bA I (q.hn+1) aD)) (J:Fr (λb=>b∈bJ) aO aW) (r:∀b∈bA I (q.hn+1) aD,b∈bJ\/(aO.heap.size<=b/\b<aW.heap.size))
  (hX:aW.setCell ⟨N,2,none⟩ (.slice I (q.hn+1) aD)=X) :
  let z:SV:=⟨q.GA,q.gn,q.gc,q.TA,q.tn,q.tc,I,q.hn+1,aD⟩
  let aq:ai:={s with threads:=s.threads++[[R]]}
  z.Is X (λb=>B<=b/\b<X.heap.size/\b≠N) aq/\an X N 30 (z.val aq)/\Fr (λb=>B<=b) w X:=by
 intro z aq;have dD:aO=w.heap.size+1:=by rw[<-ag];simp
 have aM:=aX ag;have v:=aL ag;have bO:=J.size;have cM:X=aW.heap.size:=by rw[<-hX];simp[World.setCell]
 have nd:=h.st.nd;have n1:=xt.1 nd;have d3:∀b∈F1++(F2++cb),b∉bJ:=λb O aV=>(List.nodup_append.1 n1).2.2 b aV b O rfl;have bH:∀b,b∈bJ->b∈F1++(F2++(bJ++cb)):=λb O=>by simp[O]
 have bF:∀b,b∈F1++(F2++cb)->b∈F1++(F2++(bJ++cb)):=λb O=>by
  exact AF
 have y:∀b,b<aO.heap.size->b≠N->b∉bJ->X.heap[b]?=aO.heap[b]?:=λb ap bl aV=>by
  rw[<-hX];exact(aS bl).trans (J.block b ap aV)
 have i:∀b∈F1++(F2++cb),X.heap[b]?=w.heap[b]?:=λb O=>by
  have hl:=(h.lo b (bF b O)).2;exact(y b ad (λhe=>h.ne (he▸bF b O)) (d3 b O)).trans (aM.block b hl λh=>h)
 have a:∀b,b∈F1++(F2++cb)->B<=b/\b<X.heap.size/\b≠N:=λb O=>⟨(h.lo b (bF b O)).1,by have:=(h.lo b (bF b O)).2;omega,λhe=>h.ne (he▸bF b O)⟩
 have cR:=h.o.lt;have H:∀b,P b->X.heap[b]?=w.heap[b]?:=λb O=>by
  obtain⟨_,az,aV,aU⟩:=bh b O;exact(y b ad aV (λcB=>aU (bH b cB))).trans (aM.block b az λh=>h)
 have o:B<=w:=by have:=h.go;omega
 have bn:an X w 77 #[c0,c1,c2,c3]:=(y _ ad ad (λcB=>by have:=(h.lo _ (bH _ cB)).2;omega)).trans v;have cr:(gP R).rep X (λb=>B<=b/\b<X.heap.size/\b≠N) [c0,c1,c2,c3]:=D.aM (λb O=>by obtain⟨ac,az,aV,_⟩:=bh b O;exact⟨ac,ad,aV⟩) _ _ (D.aO H _ _ bE);have bS:Sl X (λb=>B<=b/\b<X.heap.size/\b≠N) (some ⟨w,0,none⟩) 1 ([R].map gP):=⟨rfl,λ_=>⟨w,0,[c0,c1,c2,c3],rfl,⟨o,ad,ad⟩,by simp only[M7,Nr];exact D.bx.2 cr,λj u hu=>by
  rw[Nm,bn.cell];simpa using hu⟩⟩
 have d:∀b∈bA I (q.hn+1) aD,b≠N:=λb O=>by
  rcases r b O with ac|ac
  .exact λhe=>h.ne (he▸bH b ac)
  .omega
 have e:Own X 95 1 I (q.hn+1) aD (xs++[.slice (some ⟨w,0,none⟩) 1 1]) (bA I (q.hn+1) aD):=ba.ak λb O=>by rw[<-hX];exact aS (d b O)
 refine⟨⟨⟨?_,?_,?_⟩,h.st.g.cap,h.st.t.cap,ba.cap⟩,?_,?_⟩
 .exact(h.st.g.ak λb O=>i b (by simp only[Nc];exact .inl O)).sl (cO _) (by rw[M5];exact h.st.gl.symm) λb O=>a b (by simp only[Nc];exact .inl O)
 .exact(h.st.t.ak λb O=>i b (by simp only[Nc];exact .inr (.inl O))).sl (dW _) (by rw[M5];exact h.st.tl.symm) λb O=>a b (by simp only[Nc];exact .inr (.inl O))
 .have hold:D.aQ X (λb=>B<=b/\b<X.heap.size/\b≠N) (s.threads.map mY) xs:=(h.st.hs.ak oZ.ak λb O=>i b (by simp only[Nc];exact .inr (.inr O))).aQ oZ.rep λb O=>a b (by simp only[Nc];exact .inr (.inr O));refine e.sl (l:=(s.threads++[[R]]).map mY) (by rw[Na];exact D.cS hold (D.bx.2 (fF.2 ⟨_,1,1,rfl,MU _,bS⟩))) (by simp[h.st.hl]) λb O=>?_;refine⟨?_,(e.lt b O),d b O⟩;rcases r b O with ac|ac
  .exact(h.lo b (bH b ac)).1
  .omega
 .have:=(h.o.aj aM).on J λaV=>h.ne (bH _ aV);rw[<-hX];exact this.aK 2 _
 .rw[<-hX];exact Fr.setCell (Fr.trans (Fr.mono aM λ_ h=>h.elim) (Fr.mono J λb O=>(h.lo b (bH b O)).1)) (.inl h.go) _
theorem dG.push(h:dG B w s N q xs F1 F2 bJ cb)(bv:s.threads[k]?=some (fs++[f])):
  ∃O ch fc b2,q.HA=some ⟨O,0,none⟩/\k<q.hn/\O∈F1++(F2++(bJ++cb))/\ch∈F1++(F2++(bJ++cb))/\O<w.heap.size/\ch<w.heap.size/\B<=O/\B<=ch/\O≠ch/\O≠N/\ch≠N/\(∀j,w.frozen? ⟨O,j,none⟩=false)/\w.cell? ⟨O,k,none⟩=some (.slice (some ⟨ch,0,none⟩) (fs.length+1) fc)/\
   Own w 77 4 (some ⟨ch,0,none⟩) (fs.length+1) fc b2 [ch]/\
   ∀(R:ao) (cs:List Value) (P:Nat->Prop) (I:NH) (aD:Nat) (aW X:World),(gP R).rep w P cs->(∀b,P b->B<=b/\b<w.heap.size/\b≠N/\b∉F1++(F2++(bJ++cb)))->
    Own aW 77 4 I (fs.length+2) aD (b2++cs) (bA I (fs.length+2) aD)->Fr (λb=>b=ch) w aW->(∀b∈bA I (fs.length+2) aD,b=ch\/(w.heap.size<=b/\b<aW.heap.size))->
    aW.setCell ⟨O,k,none⟩ (.slice I (fs.length+2) aD)=X->
    q.Is X (λb=>B<=b/\b<X.heap.size/\b≠N) {s with threads:=s.threads.set k (fs++[f]++[R])}/\an X N 30 (q.val s)/\Fr (λb=>B<=b) w X:=by
 obtain⟨Z,x,a9,S,K,g,cm,z,F,bq,cF⟩:=h.st.hs.F3 bv;obtain⟨FA,n,c,b2,bX,aB,rfl,rfl,bk,bD,J⟩:=bq;have dM:Z.length=k:=by have:=F.len oZ.len;rw[List.length_take,Nat.mul_one] at this;have:=(List.getElem?_eq_some_iff.1 bv).1;omega
 have bP:k<s.threads.length:=(List.getElem?_eq_some_iff.1 bv).1;have ce:k<q.hn:=by rw[h.st.hl];exact bP
 obtain rfl:n=fs.length+1:=by simpa using bk
 obtain⟨ch,rfl,rfl,cr,G,bB,bR⟩:=bD.block ad;obtain⟨O,m3,a2,bw,o,t,C⟩:=h.st.h.block ad;subst z a2;have nd:=h.st.nd;have nf:∀b∈(F1++(F2++([O]++S)))++(aB++g),b≠ch:=eM (by simpa[Ni] using nd);have A:∀b∈(F1++F2)++(S++(ch::(aB++g))),b≠O:=eM (by simpa[Ni] using nd);have l:O∈F1++(F2++([O]++(S++(([ch]++aB)++g)))):=by simp
 have bf:ch∈F1++(F2++([O]++(S++(([ch]++aB)++g)))):=by simp
 have bg:=o k (.slice (some ⟨ch,0,none⟩) (fs.length+1) c) (by rw[cm,List.getElem?_append_right ad,dM,Nat.sub_self];rfl);refine⟨O,ch,c,b2,m3,ce,l,bf,bw,cr,(h.lo _ l).1,(h.lo _ bf).1,nf O (by simp),λhe=>h.ne (he▸l),λhe=>h.ne (he▸bf),t,bg,bD,?_⟩;intro R cs P I aD aW X bE bh ba b1 r hX;have bO:=b1.size;have cM:X=aW.heap.size:=by rw[<-hX];simp[World.setCell]
 have y:∀b,b<w.heap.size->b≠O->b≠ch->X.heap[b]?=w.heap[b]?:=λb ap bl aV=>by
  rw[<-hX];exact(aS bl).trans (b1.block b ap aV)
 have mem:∀b,b∈F1++(F2++(S++(aB++g)))->b∈F1++(F2++([O]++(S++(([ch]++aB)++g)))):=λb O=>by
  simp only[Nc] at O ⊢;rcases O with O|O|O|O|O
  .exact .inl O
  .exact .inr (.inl O)
  .exact .inr (.inr (.inr (.inl O)))
  .exact .inr (.inr (.inr (.inr (.inl (.inr O)))))
  .exact .inr (.inr (.inr (.inr (.inr O))))
 have i:∀b∈F1++(F2++(S++(aB++g))),X.heap[b]?=w.heap[b]?:=λb O=>by
  refine y b (h.lo b (mem b O)).2 (A b ?_) (nf b ?_)
  .simp only[Nc,Nk] at O ⊢;rcases O with O|O|O|O|O<;>simp[O]
  .simp only[Nc] at O ⊢;rcases O with O|O|O|O|O<;>simp[O]
 have a:∀b,b∈F1++(F2++(S++(aB++g)))->B<=b/\b<X.heap.size/\b≠N:=λb O=>⟨(h.lo b (mem b O)).1,by have:=(h.lo b (mem b O)).2;omega,λhe=>h.ne (he▸mem b O)⟩
 have H:∀b,P b->X.heap[b]?=w.heap[b]?:=λb aZ=>by
  obtain⟨_,az,aV,aU⟩:=bh b aZ;exact y b az (λhe=>aU (he▸l)) (λhe=>aU (he▸bf))
 have cR:=h.o.lt;have d:∀b∈bA I (fs.length+2) aD,b≠N/\b≠O:=λb aZ=>by
  rcases r b aZ with ac|ac
  .rw[ac];exact⟨λhe=>h.ne (he▸bf),λhe=>nf O (by simp) he.symm⟩
  .exact⟨ad,ad⟩
 have e:Own X 77 4 I (fs.length+2) aD (b2++cs) (bA I (fs.length+2) aD):=ba.ak λb aZ=>by rw[<-hX];exact aS (d b aZ).2
 have u:(gP R).rep X (λb=>B<=b/\b<X.heap.size/\b≠N) cs:=D.aM (λb O=>by obtain⟨ac,az,aV,_⟩:=bh b O;exact⟨ac,ad,aV⟩) _ _ (D.aO H _ _ bE);have v:D.aQ X (λb=>B<=b/\b<X.heap.size/\b≠N) ((fs++[f]).map gP) b2:=(J.ak pS.ak λb O=>i b (by simp[O])).aQ pS.rep λb O=>a b (by simp[O]);have E:Sl X (λb=>B<=b/\b<X.heap.size/\b≠N) I (fs.length+2) ((fs++[f]++[R]).map gP):=e.sl (by rw[Na];exact D.cS v (D.bx.2 u)) (by simp) λb aZ=>⟨by
  rcases r b aZ with ac|ac
  .rw[ac];exact(h.lo _ bf).1
  .have:=h.go;omega,e.lt b aZ,(d b aZ).1⟩
 refine⟨⟨⟨?_,?_,?_⟩,h.st.g.cap,h.st.t.cap,h.st.h.cap⟩,?_,?_⟩
 .exact(h.st.g.ak λb O=>i b (by simp only[Nc];exact .inl O)).sl (cO _) (by simp[h.st.gl]) λb O=>a b (by simp only[Nc];exact .inl O)
 .exact(h.st.t.ak λb O=>i b (by simp only[Nc];exact .inr (.inl O))).sl (dW _) (by simp[h.st.tl]) λb O=>a b (by simp only[Nc];exact .inr (.inl O))
 ·
  have rQ:Own X 95 1 q.HA q.hn q.hc (xs.set k (.slice I (fs.length+2) aD)) [O]:=by
   have ac:Own aW 95 1 q.HA q.hn q.hc xs [O]:=h.st.h.ak λb aZ=>b1.block b (ax (Nv.1 aZ)) (by have:=Nv.1 aZ;rw[this];exact nf O (by simp));obtain⟨bn,he,bF,_,_,_,L⟩:=ac.block ad;have:bn=O:=by rw[m3] at he;injection he with he;injection he with he _;exact he.symm
   subst this;rw[<-hX];exact L k _ ad
  have m:D.aQ X (λb=>B<=b/\b<X.heap.size/\b≠N) ((s.threads.set k (fs++[f]++[R])).map mY) (xs.set k (.slice I (fs.length+2) aD)):=by
   have e1:xs.set k (.slice I (fs.length+2) aD)=Z++([.slice I (fs.length+2) aD]++a9):=by
    rw[cm,List.set_append_right _ _ ad,dM,Nat.sub_self];rfl
   have e2:s.threads.set k (fs++[f]++[R])=s.threads.take k++((fs++[f]++[R])::s.threads.drop (k+1)):=List.set_eq_take_append_cons_drop.trans (by rw[if_pos bP]);rw[e1,e2,Na,M7];refine D.cS ((F.ak oZ.ak λb O=>i b (by simp[O])).aQ oZ.rep λb O=>a b (by simp[O])) ?_;simp only[D.aQ];exact⟨_,_,rfl,fF.2 ⟨_,_,_,rfl,e.cap,E⟩,(cF.ak oZ.ak λb O=>i b (by simp[O])).aQ oZ.rep λb O=>a b (by simp[O])⟩
  exact rQ.sl m (by simp[h.st.hl]) λb aZ=>by rw[Nv.1 aZ];exact⟨(h.lo _ l).1,ad,λhe=>h.ne (he▸l)⟩
 .have:=h.o.on b1 λhe=>h.ne (he▸bf);rw[<-hX];exact this.Lj (λhe=>h.ne (he▸l)) _
 .rw[<-hX];exact Fr.setCell (Fr.mono b1 λb aZ=>by rw[aZ];exact(h.lo _ bf).1) (.inl (h.lo _ l).1) _
end
end Go.Proofs.YtnigabjngpnbiabGreat

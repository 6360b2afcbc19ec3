/- Part 21 of the proof. No condition of its own. -/
import Derived.Test.YtflecliffjbleaaGreatS20
namespace Go.Proofs.YtflecliffjbleaaGreat
open Go.RowKit Go.Proofs.Tryz
set_option maxRecDepth 1000000
set_option maxHeartbeats 25600000
set_option linter.unusedVariables false
variable{a:Act}{t:Int}{l:List Int}{fs:List an}{bytes k n size:Nat}{o:Oper}{p:Prop}{e:TypeId}{z:Value}{S W:World}{f:an}
section
variable {P:Program} {ops:Array Oper} {Q:Exit->Act->World->Prop} {R:World->World->Prop} {tails:List Nat}
theorem xp{rest:PT}{aa:Nat->Nat->Nat->Act}{C:Nat->Nat->Nat->World->Prop}{G:Prop}(h:(∀x y z V,C x y z V->cR P ops Q R tails rest (aa x y z) V)->G)(key:∀x y z V,C x y z V->cR P ops Q R tails rest (aa x y z) V):G:=h key
end
section
variable {P:Program} {ops:Array Oper} {Q:Exit->Act->World->Prop} {R:World->World->Prop} {tails:List Nat}
theorem IC{i j:Nat}{f:Nat->PT}{w:World}(h:oN P ops Q R tails i (f i) a w)(ax:oN P ops Q R tails j (f j) a w)(a1:oN P ops Q R tails k (f k) a w):cR P ops Q R tails (.pick [i,j,k] f) a w:=λm hm=>by
 simp only[LS,List.not_mem_nil,or_false] at hm;rcases hm with rfl|rfl|rfl
 .exact h
 .exact ax
 .exact a1
end
theorem Jr(n:Nat):madeCells #[.int .i64 0] (n*1)=(List.replicate n (Value.int .i64 0)).toArray:=by
 apply Array.toList_inj.1
 rw[r4 (f:=cd) (x:=0) (sz:=1) rfl rfl ad n,ur,List.map_replicate]
theorem vf(is:List Int)(n:Nat):splice (List.replicate n (Value.int .i64 0)) 0 (is.map dq)=(is++List.replicate (n - is.length) 0).map dq:=by
 unfold splice;simp[List.map_replicate]
theorem ao.sl{w:World}{g:Nat}(h:ao w g 3 (l.map dq).toArray)(hn:l.length=n){P:Nat->Prop}(be:P g):Sl w P (some ⟨g,0,none⟩) n (l.map D.i):=by
 refine⟨by simpa using hn,λ_=>⟨g,0,l.map dq,rfl,be,cI l,λj u hu=>?_⟩⟩;rw[LW,h.cell];simpa using hu
structure HL(W:World)(L l:Nat)(a b c:Nat)(V:World):Prop where
 ext:Ext W V
 ba:ao V a 3 (List.replicate L (Value.int .i64 0)).toArray
 bb:ao V b 3 (List.replicate l (Value.int .i64 0)).toArray
 bc:ao V c 99 #[.int .i64 0,.int .i64 0,.slice none 0 0,.slice none 0 0]
 ab:a≠b
 ac:a≠c
 Kv:b≠c
 lo:W.heap.size<=a/\W.heap.size<=b/\W.heap.size<=c
theorem h5(n:Nat):madeCells #[.int .i64 0] n=(List.replicate n (Value.int .i64 0)).toArray:=by have:=Jr n;rwa [Nat.mul_one] at this
theorem iz{V:World}{b ty c:TypeId}{j d a:Array Value}(hV:(((W.alloc (.cells j b)).alloc (.cells d ty)).alloc (.cells a c)).drew=V):Ext W V/\ao V W.heap.size b j/\ao V (W.heap.size+1) ty d/\ao V (W.heap.size+1+1) c a:=by
 subst hV;exact⟨(((Mg.alloc _).alloc _).alloc _).drew,((Mh).alloc _).alloc _,(ao.gA _ _ _ (by simp)).alloc _,ao.gA _ _ _ (by simp)⟩
theorem se{P:Program}{w:World}(e f ty elem:TypeId)(hu:P.underlying e=some (.slice elem))(U:(P.info? elem).map (·.size)=some 1)
  {dp sp:Mk} {c dCap d sCap:Nat} {g:Nat} {cur:List Value} {t:TypeId} (aY:ao w g t cur.toArray) (cs:List Value) (hn:cs.length=Nat.min d c)
  (u:0<cs.length->dp=some ⟨g,0,none⟩/\∃a,sp=some a/\∀j v,cs[j]?=some v->w.cell? (a.add j)=some v)
  (i:cs.length<=cur.length) (ac:∀v∈cs,v.oneCell'=true) :
  ∃ab,(Builtin.copy_ #[e,f] ty #[.slice dp c dCap,.slice sp d sCap]).run P w=.ok (goInt cs.length) ab/\ao ab g t (splice cur 0 cs).toArray/\Fr (λb=>b=g) w ab:=by
 by_cases h0:cs.length=0
 .obtain rfl:cs=[]:=List.eq_nil_of_length_eq_zero h0;exact⟨w,run_copy_none w e f ty elem dp sp c dCap d sCap hu U (by simpa using hn.symm),by simpa[splice] using aY,Mg⟩
 .obtain⟨rfl,a,rfl,aw⟩:=u ad;exact⟨_,_root_.Go.run_copy_row (P:=P) w e f ty elem g 0 c dCap a d sCap cur.toArray t cs hu U aY hn aw (by simpa using i) ac,(show _=_ by simpa[splice] using setRow_heap w g _ _ t _ aY),⟨rfl,rfl,rfl,by simp[World.setRow],λk aj bl=>setRow_other w g k _ bl⟩⟩
theorem cA.Hp{w:World}{B:Nat}{A:Mk}(h:cA (EF cd) 1 w B A n l):0<(l.map dq).length->∃a,A=some a/\∀j v,(l.map dq)[j]?=some v->w.cell? (a.add j)=some v:=λh0=>by
 have hl:=h.1;rw[LG] at h0;obtain⟨b,o,bO,_,hc⟩:=h.2 ad;refine⟨_,bO,λj v bi=>?_⟩;rw[List.getElem?_map] at bi
 cases hx:l[j]? with
 | none=>rw[hx] at bi;cases bi
 | some x=>
  rw[hx] at bi;injection bi with bi;subst bi;obtain⟨cs,rfl,_,Z⟩:=hc j x hx;have:=Z 0 _ rfl;rw[Nat.mul_one,LM] at this;rw[show (⟨b,o,none⟩:Addr).add j=⟨b,o+j,none⟩ by unfold Addr.add;split<;>simp_all];exact this
def IZ(w:World)(f:an)(e:Ending)(ab:World):Prop:=∃IA i ic bB l lc,e=.returned (.agg #[.int .i64 f.proc,.int .i64 f.pc,.slice IA i ic,.slice bB l lc])/\(gJ f).rep ab (fresh w ab) [.int .i64 f.proc,.int .i64 f.pc,.slice IA i ic,.slice bB l lc]/\Ext w ab
namespace CB
theorem fO(h:p:=by
 refine tf ?_;generalize hV:World.drew (World.alloc _ _)=V;obtain⟨h0,ac,ax,a1⟩:=iz hV;have hC:HL W L l (W.heap.size+1+1) (W.heap.size) (W.heap.size+1) V:=⟨h0,by rw[<-h5];exact a1,by rw[<-h5];exact ac,ax,ad,ad,ad,ad⟩
 clear hV h0 ac ax a1;generalize W.heap.size+1+1=cN at hC ⊢;generalize W.heap.size+1=g2 at hC ⊢;generalize W.heap.size=ce at hC ⊢;exact key cN ce g2 _ hC
 ):p:=h
end CB
open CB in
theorem mframe(u:aw)(k:Int)(cp:cM)(is ls:List Int)(IA bB:Mk)(i ic l lc:Nat)(w:World)(p:UV)(hu:p.Ok w u)(h0:0<=k)(hp:u.procs[k.toNat]?=some cp)(hl:(is.length:Int)<=cp.locals)(bm:cp.locals<=200)(y:ls.length<=1000)
  (al:Sl w (av w) IA i (is.map D.i)) (bw:Sl w (av w) bB l (ls.map D.i)) :
  Calls prog 90 #[.agg (p.val u),.int .i64 k,.slice IA i ic,.slice bB l lc] w (IZ w (dn u k is ls)):=by
 obtain⟨GA,gn,gc,MA,mn,mc,PA,pn,pc⟩:=p;have bk:=hu.at_.p.1;rw[LG] at bk;have b7:=(List.getElem?_eq_some_iff.1 hp).1;obtain⟨pb,gW,cQ,S,cx,br,e,dT,ci,b1,cn,cm,bv,cJ,_,_⟩:=hu.at_.proc (k:=k.toNat) ad;simp only at e bk;subst e;rw[hp] at ci;injection ci with ci;subst ci;obtain⟨L,aI⟩:=LH (a:=cp.locals) ad;rw[aI] at bv;have cE:is.length=i:=by have:=al.1;simpa using this
 have bG:ls.length=l:=by have:=bw.1;simpa using this
 have hlen:i<=L:=ad;have cH:L<=200:=ad;have bq:l<=1000:=ad;have cK:k<(pn:Int):=ad;have bL:fa u k=L:=by unfold fa;rw[hp];simp[aI]
 have b2:=aA cE bG bL;have bM:=ah al bw;have U:=λW=>run_mk cU .i64 .i64 L ad ad W;have Y:=λW=>run_mk cU .i64 .i64 l ad ad W;have N:pb<w.heap.size:=dT;clear hu bk b7 dT hp b1 cn cm cJ aI cE bG bL al bw hl bm y;dsimp only[UV.val];go_enter func90,ntmps90;go_upto_region 1 with(fail);generalize bd:World.alloc _ _=W;have aF:=hi bd;have aS:=fx bd;have cB:=eX bd;have dv:=(aF.cell (j:=gW+k.toNat*5+3) N λh=>h).trans bv;have az:pb<W.heap.size:=LC N aF.size;have aj:=cB.lt;have ag:=ah aF cB;obtain⟨a0,ak,af⟩:=aS.two;clear bd aF aS cB bv N;refine tw (λ_=>False) [7,13] (.free 0 (.free 1 (.held 2 (.free 3 (.free 4 (.free 5 (.held 6 (.free 8 (.free 9 (.pick [7,10,12] (λi=>bif i == 7 then .pick [10,12] (λi=>bif i == 10 then .free 11 (.pick [12] (λ_=>.pick [13] (λ_=>.stop))) else .pick [10] (λ_=>.free 11 (.pick [13] (λ_=>.stop)))) else bif i == 10 then .pick [7,12] (λi=>bif i == 7 then .free 11 (.pick [12] (λ_=>.pick [13] (λ_=>.stop))) else .pick [7] (λ_=>.free 11 (.pick [13] (λ_=>.stop)))) else .pick [7,10] (λi=>bif i == 7 then .pick [10] (λ_=>.free 11 (.pick [13] (λ_=>.stop))) else .pick [7] (λ_=>.free 11 (.pick [13] (λ_=>.stop))))))))))))))) ?_
 iterate 2 refine tf ?_
 refine th ?_
 iterate 3 refine tf ?_
 refine th ?_
 iterate 2 refine tf ?_
 refine xp (P:=?P1) (ops:=?o1) (Q:=?q1) (R:=?r1) (tails:=?t1) (rest:=.pick [13] (λ_=>.stop)) (aa:=?aa) (C:=HL W L l) (λkey=>?main) ?key
 case main=>
  refine IC ?_ ?_ ?_
  ·
   refine bN rfl (λK hK=>?_) rfl;go_simp;refine dU hK ?_;clear hK K;refine a5 ?_ ?_
   ·
    refine eu ?_;refine tf ?_;refine aq ?_;refine eu ?_;generalize hV:World.drew (World.alloc _ _)=V;obtain⟨h0,ac,ax,a1⟩:=iz hV;have hC:HL W L l (W.heap.size) (W.heap.size+1) (W.heap.size+1+1) V:=⟨h0,by rw[<-h5];exact ac,by rw[<-h5];exact ax,a1,ad,ad,ad,ad⟩
    clear hV h0 ac ax a1;generalize W.heap.size+1+1=cN at hC ⊢;generalize W.heap.size+1=g2 at hC ⊢;generalize W.heap.size=ce at hC ⊢;exact key ce g2 cN _ hC
   ·
    refine eu ?_;refine aq ?_;refine eu ?_;refine tf ?_;generalize hV:World.drew (World.alloc _ _)=V;obtain⟨h0,ac,ax,a1⟩:=iz hV;have hC:HL W L l (W.heap.size) (W.heap.size+1+1) (W.heap.size+1) V:=⟨h0,by rw[<-h5];exact ac,by rw[<-h5];exact a1,ax,ad,ad,ad,ad⟩
    clear hV h0 ac ax a1;generalize W.heap.size+1+1=cN at hC ⊢;generalize W.heap.size+1=g2 at hC ⊢;generalize W.heap.size=ce at hC ⊢;exact key ce cN g2 _ hC
  ·
   refine eu ?_;refine a5 ?_ ?_
   ·
    refine bN rfl (λK hK=>?_) rfl;go_simp;refine dU hK ?_;clear hK K;refine tf ?_;refine aq ?_;refine eu ?_;generalize hV:World.drew (World.alloc _ _)=V;obtain⟨h0,ac,ax,a1⟩:=iz hV;have hC:HL W L l (W.heap.size+1) (W.heap.size) (W.heap.size+1+1) V:=⟨h0,by rw[<-h5];exact ax,by rw[<-h5];exact ac,a1,ad,ad,ad,ad⟩
    clear hV h0 ac ax a1;generalize W.heap.size+1+1=cN at hC ⊢;generalize W.heap.size+1=g2 at hC ⊢;generalize W.heap.size=ce at hC ⊢;exact key g2 ce cN _ hC
   ·
    refine eu ?_;exact gr
  ·
   refine eu ?_;refine a5 ?_ ?_
   ·
    refine bN rfl (λK hK=>?_) rfl;go_simp;refine dU hK ?_;clear hK K;refine aq ?_;refine eu ?_;refine tf ?_;generalize hV:World.drew (World.alloc _ _)=V;obtain⟨h0,ac,ax,a1⟩:=iz hV;have hC:HL W L l (W.heap.size+1) (W.heap.size+1+1) (W.heap.size) V:=⟨h0,by rw[<-h5];exact ax,by rw[<-h5];exact a1,ac,ad,ad,ad,ad⟩
    clear hV h0 ac ax a1;generalize W.heap.size+1+1=cN at hC ⊢;generalize W.heap.size+1=g2 at hC ⊢;generalize W.heap.size=ce at hC ⊢;exact key g2 cN ce _ hC
   ·
    refine eu ?_;refine aq ?_;refine bN rfl (λK hK=>?_) rfl;go_simp;refine dU hK ?_;clear hK K;refine tf ?_;generalize hV:World.drew (World.alloc _ _)=V;obtain⟨h0,ac,ax,a1⟩:=iz hV;have hC:HL W L l (W.heap.size+1+1) (W.heap.size+1) (W.heap.size) V:=⟨h0,by rw[<-h5];exact a1,by rw[<-h5];exact ax,ac,ad,ad,ad,ad⟩
    clear hV h0 ac ax a1;generalize W.heap.size+1+1=cN at hC ⊢;generalize W.heap.size+1=g2 at hC ⊢;generalize W.heap.size=ce at hC ⊢;exact key cN g2 ce _ hC
 intro g bj gc V hC;have bW:=ae hC;obtain⟨c0,cy,bJ⟩:=hC.bc.two;clear hC a0 ak af U Y dv;refine aq ?_;refine bN rfl (λK hK=>?_) rfl;go_simp;refine dU hK ?_;clear hK K;refine ck ?_;generalize hX:World.setCell _ _ _=X;obtain⟨bC,b6⟩:=kO 0 [.int .i64 k,.int .i64 0,.slice (some ⟨g,0,none⟩) L L,.slice (some ⟨bj,0,none⟩) l l] bW.bc hX;have aS:ao X gc 99 #[.int .i64 k,.int .i64 0,.slice (some ⟨g,0,none⟩) L L,.slice (some ⟨bj,0,none⟩) l l]:=by simpa[jm] using bC
 have bO:=bW.ba.on b6 bW.ac;have bV:=bW.bb.on b6 bW.Kv;have bz:Ext W X:=Fr.low (M:=λb=>b=gc) (Fr.trans (Fr.mono bW.ext λ_ h=>h.elim) b6) λb O=>by have:=bW.lo;omega
 have aR:=bA bz bO bV aS;obtain⟨d0,aK,aO⟩:=aS.two;clear hX bC b6 aS bO bV bz c0 cy bJ;have J:Ext w X:=ag.1.trans aR.1;have b3:=ag.2.aj aR.1;have ab:=(bM.1.on (Fr.ext J)).ints;have m:=b2.1;have o:=b2.2.1;have H:(is.map dq).length=Nat.min i L:=by rw[LG];simp only[Nat.min_def];split<;>omega
 have s:=ab.Hp;have I:(is.map dq).length<=(List.replicate L (Value.int .i64 0)).length:=by simp;omega
 have r:=cX aR.2.1 aR.2.2.1 aR.2.2.2 J b3;have f:=cX H s I m o;clear J b3 ab H s I m o;obtain⟨aW,F,bg,ay⟩:=se (P:=prog) 22 22 3 3 Tryz.underlying22 (by kernel_rfl) (dp:=some ⟨g,0,none⟩) (dCap:=L) (sp:=IA) (sCap:=ic) r.1 (is.map dq) f.1 (λh=>⟨rfl,f.2.1 h⟩) f.2.2.1 (by simp[Value.oneCell']);have be:=r.2.2.1.on ay (Ne.symm bW.ac);have bZ:=aA bg ay be;clear bg ay;obtain⟨e0,a6,aQ⟩:=be.two;clear be;have an:Ext w aW:=Fr.low (M:=λb=>b=g) (Fr.trans (Fr.mono r.2.2.2.1 λ_ h=>h.elim) bZ.2.1) λb O=>by have:=bW.lo;have:=ag.1.size;omega
 have a8:=(bM.2.on (Fr.ext an)).ints;have z:=a8.Hp;have b0:(ls.map dq).length=Nat.min l l:=by rw[LG];have:=f.2.2.2.2;simp only[Nat.min_def];split<;>omega
 have T:(ls.map dq).length<=(List.replicate l (Value.int .i64 0)).length:=by have:=f.2.2.2.2;simp;omega
 have bU:=r.2.1.on bZ.2.1 (Ne.symm bW.ab);have dl:=cX b0 z T bU an;clear an a8 z b0 T bU;obtain⟨b4,G,bg,ay⟩:=se (P:=prog) 22 22 3 3 Tryz.underlying22 (by kernel_rfl) (dp:=some ⟨bj,0,none⟩) (dCap:=l) (sp:=bB) (sCap:=lc) dl.2.2.2.1 (ls.map dq) dl.1 (λh=>⟨rfl,dl.2.1 h⟩) dl.2.2.1 (by simp[Value.oneCell']);have be:=bZ.2.2.on ay (Ne.symm bW.Kv);have bY:=aA bg ay be;clear bg ay;obtain⟨f0,dQ,eW⟩:=be.two;clear be;have cC:=(r.2.2.2.2.on bZ.2.1 (aB bW.lo)).on bY.2.1 (aB bW.lo);have fh:Ext w b4:=Fr.low (M:=λb=>b=bj) (Fr.trans (Fr.mono dl.2.2.2.2 λ_ h=>h.elim) bY.2.1) λb O=>by have:=bW.lo;have:=ag.1.size;omega
 have a2:=ah cC fh;obtain⟨bp,aM,aV⟩:=cC.two;clear cC fh;go_wp2_with(fail);generalize hX:World.setCell _ _ _=Z;obtain⟨bt,ba,bf⟩:=bs (w:=w) [.int .i64 k,.int .i64 0,.slice (some ⟨g,0,none⟩) L L,.slice (some ⟨bj,0,none⟩) l l] (by rfl) a2.1 a2.2 ad hX;have bh:=ah ba bf;clear hX ba bf bp aM aV d0 aK aO e0 a6 aQ f0 dQ eW F G;obtain⟨bp,aM,aV⟩:=bt.two;refine Mf (v:=.agg #[.int .i64 k,.int .i64 0,.slice (some ⟨g,0,none⟩) L L,.slice (some ⟨bj,0,none⟩) l l]) (by simp[results,Tryz.results90,go_sem,bp]) rfl ?_;have bm:=bW.lo;have aG:=ag.2.lt;have ar:=(bZ.1.on bY.2.1 bW.ab).on bh.2 ad;have au:=bY.1.on bh.2 ad;rw[vf] at ar au;have ai:=b2.2.2;have ap:=ar.lt;have bq:=au.lt;have am:dn u k is ls=⟨k,0,is++List.replicate (L - is.length) 0,ls⟩:=by unfold dn;rw[ai]
 rw[am];refine⟨some ⟨g,0,none⟩,L,L,some ⟨bj,0,none⟩,l,l,rfl,gu.2 ⟨_,_,_,_,_,_,rfl,Lz _,Lz _,ar.sl (by have:=b2.1;simp;omega) ⟨ad,ap⟩,?_⟩,bh.1⟩;have:=au.sl (n:=l) (P:=fresh w Z) (by have:=b2.2.1;simp;omega) ⟨ad,bq⟩
 rwa [show l - ls.length=0 by have:=b2.2.1;omega,List.replicate_zero,L6] at this
def HJ(w:World)(a b:List Int×Int)(e:Ending)(ab:World):Prop:=
 (a.2≠0->e=.returned (.tuple #[.slice none 0 0,.slice none 0 0,.int .i64 a.2])/\Ext w ab)/\
 (a.2=0->b.2≠0->e=.returned (.tuple #[.slice none 0 0,.slice none 0 0,.int .i64 b.2])/\Ext w ab)/\
 (a.2=0->b.2=0->∃A n c I aQ aD,e=.returned (.tuple #[.slice A n c,.slice I aQ aD,.int .i64 0])/\n<=c/\aQ<=aD/\Sl ab (fresh w ab) A n (a.1.map D.i)/\Sl ab (fresh w ab) I aQ (b.1.map D.i)/\Ext w ab)
def wE(g l:List Int)(es:List VE)(k:Nat):Prop:=∀e∈es.take k,(ev g l e).2=0
theorem nL{g l:List Int}:∀{es:List VE},(∀e∈es,(ev g l e).2=0)->cP g l es=(es.map λe=>(ev g l e).1,0)
 | [],_=>rfl
 | e::es,h=>by
  have ac:=h e (by simp);have ax:=nL (es:=es) λx hx=>h x (by simp[hx]);unfold cP;rw[if_neg ad,ax,if_neg (by simp)];rfl
theorem nK{g l:List Int}:∀{es:List VE} {k:Nat} {e:VE},wE g l es k->es[k]?=some e->(ev g l e).2≠0->cP g l es=([],(ev g l e).2)
 | [],k,e,_,h,_=>by simp at h
 | x::es,0,e,_,h,O=>by
  simp at h;subst h;unfold cP
  rw[if_pos O]
 | x::es,k+1,e,hu,h,O=>by
  have ac:(ev g l x).2=0:=hu x (by simp);have ax:=nK (es:=es) (k:=k) (e:=e) (λy bb=>hu y (by simp[bb])) (by simpa using h) O;unfold cP;rw[if_neg ad,ax,if_pos O]
theorem mo{u:aw}{s:ai}{f:an}:∀{ps:List bP},(∀p∈ps,(bj u s f p).2=0)->bZ u s f ps=(ps.map λp=>(bj u s f p).1,0)
 | [],_=>rfl
 | p::ps,h=>by
  have ac:=h p (by simp);have ax:=mo (ps:=ps) λx hx=>h x (by simp[hx]);unfold bZ;rw[if_neg ad,ax,if_neg (by simp)];rfl
theorem mm{u:aw}{s:ai}{f:an}:∀{ps:List bP} {k:Nat} {p:bP},(∀x∈ps.take k,(bj u s f x).2=0)->ps[k]?=some p->(bj u s f p).2≠0->bZ u s f ps=([],(bj u s f p).2)
 | [],k,p,_,h,_=>by simp at h
 | x::ps,0,p,_,h,O=>by
  simp at h;subst h;unfold bZ
  rw[if_pos O]
 | x::ps,k+1,p,hu,h,O=>by
  have ac:(bj u s f x).2=0:=hu x (by simp);have ax:=mm (ps:=ps) (k:=k) (p:=p) (λy bb=>hu y (by simp[bb])) (by simpa using h) O;unfold bZ;rw[if_neg ad,ax,if_pos O]
theorem jq.args{u:aw}{s:ai}{cp:cM}{x:ay}{N:Nat}(h:jq u s t f cp x N)(co:x.op=2\/x.op=3):(∀e∈x.ints,gw (br u) cp.locals e)/\(∀p∈x.places,cL (br u) cp.locals cp.ax p)/\
  0<=x.target/\∃pc,u.procs[x.target.toNat]?=some pc/\(x.ints.length:Int)=pc.ints/\(x.places.length:Int)=pc.ax/\qL (br u) pc:=by
 obtain⟨len,_,al⟩:=h.ok;rcases al with⟨ac,_⟩|⟨_,_,sg,ax,a1,aU,cy,bQ,C⟩|⟨ac,_⟩|⟨ac,_⟩|⟨ac,_⟩|⟨ac,_⟩
 .omega
 .refine⟨bQ,C,ax,?_⟩;simp only[br,List.getElem?_map] at a1
  cases bv:u.procs[x.target.toNat]? with
  | none=>rw[bv] at a1;cases a1
  | some r=>
   rw[bv] at a1;simp only[Option.map_some,Mb] at a1;subst a1;exact⟨r,rfl,aU,cy,h.hU.ok.procs r (LF bv)⟩
 .omega
 .omega
 .omega
 .omega
namespace CC
theorem sN(h:p:=by
 have bF:=ah bb aa;clear bb aa bl Z bq O aF hG P J;go_upto_region 6 with(fail);generalize hU:World.alloc _ _=U;have cl:=aZ hU;have cV:=aN hU;have bc:=a2.2.2.2.trans cl;have cz:=aA cl bc (D.on bF.2 (Fr.ext cl));have I:=(ag.2.2.2.2.2.2.2.on bc)
 have cA:=I.lf;have f2:=I.c2;obtain⟨d0,aK,aO⟩:=cV.two;obtain⟨a8,am,aJ⟩:=(ag.2.2.1.aj bc).two;have Q:=ae I;clear hU cl cV bc I c0 c1 c2 c3 a4;refine eK (λ_=>False) [(0,0),(1,3),(2,0),(3,3),(4,3),(5,3),(6,0),(7,2),(8,3),(9,3),(10,3),(11,3),(12,3)] ?_;refine ph ?_;refine pf ?_;refine ph ?_
 iterate 3 refine pf ?_
 refine ph ?_;refine au rfl (λK hK=>?_);go_simp;have bi:Ext U U.drew:=(Fr.refl _ U).drew;refine(pF ex U.drew bE IA bK i bw ic s.globals f.ints _ _ _ _ (aR.1.FX (aR.2.1 ex (LF bF.1)) ((ag.2.2.2.2.2.1.on cz.2.1).on bi).at_.g (Q.on bi).ints (D.on cz.2.2 (Fr.ext bi))).1).mono ?_;rintro e aW ⟨rfl,bg⟩;have a7:=ae (show Ext U aW from Fr.aF (Fr.of bg));have aq:=λaG=>nK (k:=k) a2.2.2.1 bF.1 aG;generalize ar:ev s.globals f.ints ex=R at *;obtain⟨r,z⟩:=R;have bH:=ah aq ar;clear aq ar bg bi d0 aK aO a8 am aJ f2 cA Q;refine dU hK ?_;clear hK K
 iterate 5 refine pf ?_
 refine aC ?_;by_cases aG:z=0
 .have q5:(z != 0)=false:=by simpa using aG
  have bk:=(a2.2.1.aj cz.1).aj a7.o;have bP:=cz.1.size;have cF:=a7.size;obtain⟨al,bh⟩:=aH bk aG;clear aG bk;go_wp2_with(at_builtin;refine bI cU rfl (.tmp 46) (.tmp 48) rfl al.o (d:=D.i r) (cs:=#[.int .i64 r]) (by simp only[D.rep]) rfl rfl rfl ad ad ad ?_;intro cD c3 b4 ce g2 cN cZ;have ca:=ah ce g2;clear ce g2 cN cZ);have bm:∀b,(Value.slice A k c).ownBlock=some b->aP.heap.size<=b:=λb O=>(al.lt O).1;have a3:Ext aP b4:=Fr.low (M:=λb=>(Value.slice A k c).ownBlock=some b) (Fr.trans (Fr.mono ((a2.1.trans cz.1).trans a7.o) λ_ h=>h.elim) ca.2) λb O=>bm b O;have ba:=ae a3;clear bm a3;go_roundw
  case rel=>
   refine⟨k+1,cD,c3,rfl,by go_num,ad,ba.o,?_,λe he=>?_⟩
   .rw[aU bF.1,LJ,LJ];have ac:=ca.1;exact xQ
   .rw[aU bF.1] at he;rcases LL.1 he with he|he
    .exact a2.2.2.1 e he
    .rw[Ma.1 he,bH.2];exact bh.o
  case measure=>exact aE
 .have q5:(z != 0)=true:=by simpa using aG
  have bT:=ae (bH.1 aG);have bh:=ae aG;clear aG;go_wp2_with(fail)
  go_ret3
  have L:Ext w aW:=((ag.1.trans a2.2.2.2).trans cz.1).trans a7.o;refine⟨λh=>⟨?_,L⟩,λh=>absurd h ?_,λh=>absurd h ?_⟩
  .rw[bT.o];rfl
  .rw[bT.o];exact bh.o
  .rw[bT.o];exact bh.o
 ):p:=h
theorem eZ(h:p:=by
 obtain⟨eo,en,es,EA,em,ec,QA,qm,qc,dk,j,df,KA,dg,kc⟩:=v;obtain⟨bo,bn,ch,dc,n,fc,IA,i,ic,bB,l,lc,e,hT⟩:=hs.at_.top h.sm h.ht;simp only at e;subst e;obtain⟨cB,cG,_⟩:=h.args co;have a1:x.ints.length=j:=by have:=bG.ints.1;simpa using this
 have bN:x.places.length=dg:=by have:=bG.places.1;simpa using this
 have cL:j<=200:=by have:=h.il;omega
 have cW:dg<=200:=by have:=h.kl;omega
 have aR:=cX h cB cG a1 bN;have cc:=bA hu hs bG hT;clear h cB cG a1 bN hu hs bG hT;dsimp only[UV.val,SV.val,IV.val];go_enter func88,ntmps88;go_upto_region 1 with(fail);generalize bd:World.alloc _ _=W;have aF:=l3 bd;have bQ:=kr bd;have be:=iC bd;have a9:=ks bd;have ag:=rE aF bQ be a9 (cc.1.on aF) (cc.2.1.on aF) (cc.2.2.1.on aF) (cc.2.2.2.on aF);obtain⟨a8,am,aJ⟩:=be.two;clear bd aF bQ be a9 cc;go_wp2_with(fail);refine(lD ag.2.2.2.2.2.2.2 _ _ _).mono ?_;rintro e aP ⟨rfl,aL⟩;have bu:=ae aL;clear a8 am aJ;obtain⟨d0,aK,aO⟩:=(ag.2.2.2.1.aj aL).two;clear aL;have ns:=bu.size;have cS:=ag.1.size;go_wp2_with(fail);clear d0 aK aO;go_loopw [11,28] (λsv cw wr=>∃(k:Nat) (A:Mk) (c:Nat),sv=.slice A k c/\cw=.int .i64 k/\k<=j/\Ext aP wr/\Gr (λ_=>False) aP.heap.size 3 1 wr A k c (((x.ints.take k).map λe=>(ev s.globals f.ints e).1).map D.i)/\wE s.globals f.ints x.ints k) (λ_ cw _=>j - (intOf cw).toNat)
 case atStart=>exact⟨0,none,0,rfl,rfl,ad,Mg,Gr.nil _ _ _ _ _,λe he=>by simp at he⟩
 case round=>
  obtain⟨k,A,c,rfl,rfl,aj,aF,hG,P⟩:=hrel;have J:=bu.trans aF;have a2:=bA aF hG P J;have dL:=aF.size;by_cases ap:k<j
  .obtain⟨b,o,ex,cs,rfl,O,bb,aa,bq,Z⟩:=(ag.2.2.2.2.2.2.1.ints.on (Fr.ext J)).g9 db ap;exact sM
  .obtain rfl:k=j:=ad;have y:cP s.globals f.ints x.ints=(x.ints.map λe=>(ev s.globals f.ints e).1,0):=nL λe he=>P e (by rw[LK (aB aR.2.2.2.1)];exact he);have b0:Sl wr (λb=>aP.heap.size<=b/\b<wr.heap.size) A k ((cP s.globals f.ints x.ints).1.map D.i):=by
    have aY:=hG;rw[LK (aB aR.2.2.2.1)] at aY;rw[y];exact aY.sl (λb _ h=>h.elim) λb ap O=>⟨O,ap⟩
   have bD:=hG.cap.1;obtain⟨T,rfl⟩:∃T,T=wr:=⟨wr,rfl⟩
   have HA:=aA b0 bD y;obtain⟨d0,aK,aO⟩:=(ag.2.2.2.1.aj J).two;clear aF hG P J y b0 bD;go_wp2_with(fail);clear d0 aK aO;go_loopw [12,54] (λsv cw wr=>∃(m:Nat) (B:Mk) (aD:Nat),sv=.slice B m aD/\cw=.int .i64 m/\m<=dg/\Ext T wr/\Gr (λ_=>False) T.heap.size 3 1 wr B m aD (((x.places.take m).map λp=>(bj u s f p).1).map D.i)/\∀p∈x.places.take m,(bj u s f p).2=0) (λ_ cw _=>dg - (intOf cw).toNat)
   case atStart=>exact⟨0,none,0,rfl,rfl,ad,Mg,Gr.nil _ _ _ _ _,λe he=>by simp at he⟩
   case round=>
    obtain⟨m,B,aD,rfl,rfl,hm,aF,hG,P⟩:=hrel;have J:=a2.2.2.2.trans aF;have bS:=bA aF hG P J;have dx:=aF.size;by_cases b3:m<dg
    .obtain⟨b,o,pl,bX,b6,zc,rfl,O,bb,b1,cn,cm,bM,cT⟩:=(ag.2.2.2.2.2.2.1.places.on (Fr.ext J)).pv b3;have a4:b<wr.heap.size:=O;have bF:=aA bb bM cT;clear bb bM cT O aF hG P J;go_upto_region 14 with(fail);generalize hU:World.alloc _ _=U;have cl:=aZ hU;have cV:=aN hU;have bc:=bS.2.2.2.trans cl;have cz:=aA cl bc (dZ.2 ⟨bX,b6,zc,rfl,bF.2.1,bF.2.2.on (Fr.ext cl)⟩:(ds pl).rep U (av U) [.bool pl.param,.int .i64 pl.index,.slice bX b6 zc]);obtain⟨d0,aK,aO⟩:=cV.two;obtain⟨a8,am,aJ⟩:=(ag.2.2.1.aj bc).two;obtain⟨a0,ak,af⟩:=(ag.2.1.aj bc).two;clear hU cl cV bc b1 cn cm a4;go_wp2_with(fail);refine(mq u s t f pl N U ⟨GA,gn,gc,MA,mn,mc,PA,pn,pc⟩ ⟨bE,bK,bw,TA,tn,tc,some ⟨bo,bn,none⟩,hn,hc⟩ bX b6 zc ⟨aR.1.hU.ok,aR.1.hS,aR.1.sm,aR.1.ht,⟨cp,aR.1.hp,aR.2.2.1 pl (LF bF.1)⟩,ag.2.2.2.2.1.on cz.2.1,ag.2.2.2.2.2.1.on cz.2.1,cz.2.2⟩).mono ?_;rintro e aW ⟨rfl,bg⟩;rw[gS aR.1.ht];have a7:=ae (show Ext U aW from Fr.of bg);have aq:=λaG=>mm (k:=m) bS.2.2.1 bF.1 aG;generalize ar:bj u s f pl=R at *;obtain⟨r,z⟩:=R;have bH:=ah aq ar;clear aq ar bg d0 aK aO a8 am aJ a0 ak af;by_cases aG:z=0
     .have q5:(z != 0)=false:=by simpa using aG
      have bk:=(bS.2.1.aj cz.1).aj a7.o;have bP:=cz.1.size;have cF:=a7.size;obtain⟨al,bh⟩:=aH bk aG;clear aG bk;go_wp2_with(at_builtin;refine bI cU rfl (.tmp 69) (.tmp 71) rfl al.o (d:=D.i r) (cs:=#[.int .i64 r]) (by simp only[D.rep]) rfl rfl rfl ad ad ad ?_;intro cD c3 b4 ce g2 cN cZ;have ca:=ah ce g2;clear ce g2 cN cZ);have bm:∀b,(Value.slice B m aD).ownBlock=some b->T.heap.size<=b:=λb O=>(al.lt O).1;have a3:Ext T b4:=Fr.low (M:=λb=>(Value.slice B m aD).ownBlock=some b) (Fr.trans (Fr.mono ((bS.1.trans cz.1).trans a7.o) λ_ h=>h.elim) ca.2) λb O=>bm b O;have ba:=ae a3;clear bm a3;go_roundw
      case rel=>
       refine⟨m+1,cD,c3,rfl,by go_num,ad,ba.o,?_,λe he=>?_⟩
       .rw[aU bF.1,LJ,LJ];have ac:=ca.1;exact xQ
       .rw[aU bF.1] at he;rcases LL.1 he with he|he
        .exact bS.2.2.1 e he
        .rw[Ma.1 he,bH.2];exact bh.o
      case measure=>exact aE
     .have q5:(z != 0)=true:=by simpa using aG
      have bT:=ae (bH.1 aG);have bh:=ae aG;clear aG;go_wp2_with(fail)
      go_ret3
      have L:Ext w aW:=((ag.1.trans bS.2.2.2).trans cz.1).trans a7.o;refine⟨λh=>absurd ?_ h,λ_ h=>⟨?_,L⟩,λ_ h=>absurd h ?_⟩
      .rw[HA.2.2]
      .rw[bT.o];rfl
      .rw[bT.o];exact bh.o
    .obtain rfl:m=dg:=ad;have y:bZ u s f x.places=(x.places.map λp=>(bj u s f p).1,0):=mo λe he=>P e (by rw[LK (aB aR.2.2.2.2)];exact he);have b0:Sl wr (fresh w wr) B m ((bZ u s f x.places).1.map D.i):=by
      have aY:=hG;rw[LK (aB aR.2.2.2.2)] at aY;rw[y];exact aY.sl (λb _ h=>h.elim) λb ap O=>⟨ad,ap⟩
     have bD:=hG.cap.1;have b2:=aA b0 bD y;clear aF hG P J y b0 bD;go_wp2_with(fail)
     go_ret3
     refine⟨λh=>absurd ?_ h,λ_ h=>absurd ?_ h,λ_ _=>⟨A,k,c,B,m,aD,rfl,HA.2.1,b2.2.1,(HA.1.ak λb O=>bS.1.block b O.2 λh=>h).mono λb O=>⟨by have:=O.1;omega,by have:=O.2;omega⟩,b2.1,ag.1.trans bS.2.2.2⟩⟩
     .rw[HA.2.2]
     .rw[b2.2.2]
 ):p:=h
end CC
open CC in
theorem wL(u:aw)(s:ai)(t:Int)(f:an)(cp:cM)(x:ay)(N:Nat)(w:World)(p:UV)(q:SV)(v:IV)(h:jq u s t f cp x N)(co:x.op=2\/x.op=3)(hu:p.Ok w u)(hs:q.Ok w s)(bG:v.Ok w x) :
  Calls prog 88 #[.agg (p.val u),.agg (q.val s),.int .i64 t,.agg (v.val x)] w (HJ w (cP s.globals f.ints x.ints) (bZ u s f x.places)):=by
 exact eY
theorem yD{P:Program}{t:TypeId}{K:Act->World->Prop}{Q:Exit->Act->World->Prop}(bO:cm P t e z size bytes)(s x:Operand)
  (bn:o.op=.call {callee:=.builtin .append,args:=#[s,x],argTypes:=#[t,t]})
  {A:Mk} {n c g:Nat} {xs:List Value} {F:List Nat} (h0:Own S e size A n c xs F) {cs:Array Value} {i:TypeId} (aS:ao S g i cs)
  (hs:a.eval s=.slice A n c) (hx:a.eval x=.slice (some ⟨g,0,none⟩) 1 1) (T:cs.size=size) (ac:∀u∈cs.toList,u.oneCell'=true)
  (r:(n+1)*bytes<=140737488355328) (y:n+1<=140737488355328)
  (h:∀I aD ab,Own ab e size I (n+1) aD (xs++cs.toList) (bx I (n+1) aD)->Fr (λb=>b∈F) S ab->(∀b∈bx I (n+1) aD,b∈F\/(S.heap.size<=b/\b<ab.heap.size))->K (a.put o.dst (.slice I (n+1) aD)) ab):o.wp P a S K Q:=by
 have aw:Src S size (some ⟨g,0,none⟩) 1 cs.toList:=⟨by simpa using T,ac,λ_=>⟨g,0,rfl,λj u bi=>by
  rw[LW,aS.cell];simpa using bi⟩⟩
 refine kn _ bO s x bn 0 _ n xs hs h0.row _ 1 1 cs.toList hx aw r y (L3 _) (λh=>nomatch h) λG ab bR cR H=>?_;obtain⟨I,aD,rfl,hc,_⟩:=bH bR;refine h I aD ab ⟨bR,rfl⟩ (Mg.grown cR λg aY=>.inl (by rw[h0.eq];simp[aY])) λb O=>?_;have a4:(Value.slice I (n+1) aD).ownBlock=some b:=by simpa using O
 rcases H with H|H
 .rw[H] at a4;exact .inl (by rw[h0.eq];simp[a4])
 .have:=(bR.lt b a4).2;rw[H] at a4;injection a4 with a4;right;omega
theorem qK{P:Program}{ops:Array Oper}{Q:Exit->Act->World->Prop}{R:World->World->Prop}{rest:List (Nat×Nat)}(C:World->Prop)(hC:C W)(h:∀V,C V->b2 P ops Q R rest a V):b2 P ops Q R rest a W:=h W hC
theorem uO{s:ai}{bg R:an}(h:s.threads[t.toNat]?=some (fs++[f])):qM (bq s t bg) t R={s with threads:=(s.threads.set t.toNat (fs++[bg])).set t.toNat (fs++[bg]++[R])}:=by
 rw[ej h];unfold qM;have ap:=(List.getElem?_eq_some_iff.1 h).1;rw[lC (x:=fs++[bg]) (by simp[ap])]
theorem nr{P:Program}{t:TypeId}{ops:Array Oper}{rest:List Oper}{Q:Exit->Act->World->Prop}(bO:cm P t e z size bytes)(i:o.guard=none)(s x:Operand)
  (bn:o.op=.call {callee:=.builtin .append,args:=#[s,x],argTypes:=#[t,t]})
  {A:Mk} {n c g:Nat} {xs:List Value} {F:List Nat} (h0:Own S e size A n c xs F) {cs:Array Value}
  (hs:a.eval s=.slice A n c) (hx:a.eval x=.slice (some ⟨g,0,none⟩) 1 1) (aY:g=S.heap.size) (T:cs.size=size) (ac:∀u∈cs.toList,u.oneCell'=true)
  (r:(n+1)*bytes<=140737488355328) (y:n+1<=140737488355328)
  (h:∀I aD ab,Own ab e size I (n+1) aD (xs++cs.toList) (bx I (n+1) aD)->Fr (λb=>b∈F) S ab->(∀b∈bx I (n+1) aD,b∈F\/(S.heap.size<=b/\b<ab.heap.size))->wpList P ops Q rest (a.put o.dst (.slice I (n+1) aD)) ab):wpList P ops Q (o::rest) a (S.alloc (.cells cs e)):=by
 subst aY;exact oL bO i s x bn h0 hs hx T ac r y h
section
variable {B:Nat} {w ab:World} {s:ai} {N:Nat} {q:SV} {xs:List Value} {F1 F2 bI b9:List Nat}
theorem kp.E4{α:Type}{E:World->α->List Value->List Nat->Prop}{w:World}:∀{l:List α} {xs:List Value} {F:List Nat},kp E w l xs F->∀{k:Nat} {a:α},l[k]?=some a->
  ∃Z x bm F1 f F2,xs=Z++(x++bm)/\F=F1++(f++F2)/\kp E w (l.take k) Z F1/\E w a x f/\kp E w (l.drop (k+1)) bm F2
 | [],_,_,_,k,a,aj=>by simp at aj
 | b::l,xs,F,h,0,a,aj=>by
  obtain⟨x,y,F1,F2,rfl,rfl,ac,ax⟩:=h;simp only[List.getElem?_cons_zero,Mb] at aj;subst aj
  exact⟨[],x,y,[],F1,F2,rfl,rfl,⟨rfl,rfl⟩,ac,ax⟩
 | b::l,xs,F,h,k+1,a,aj=>by
  obtain⟨bU,y,g,Y,rfl,rfl,ac,ax⟩:=h;simp only[List.getElem?_cons_succ] at aj;obtain⟨Z,x,bm,F1,f,F2,rfl,rfl,a1,aU,cy⟩:=kp.E4 ax aj;exact⟨bU++Z,x,bm,g++F1,f,F2,by simp,by simp,⟨bU,Z,g,F1,rfl,rfl,ac,a1⟩,aU,cy⟩
theorem qs{α β:Type}(g:α->β):∀(l:List α) (k:Nat) (x:α),(l.set k x).map g=(l.map g).set k (g x)
 | [],_,_=>rfl
 | _::_,0,_=>rfl
 | a::l,k+1,x=>by simp[qs g l k x]
theorem dC.start(h:dC B w s N q xs F1 F2 bI b9){R:an}{c0 c1 c2 c3:Value}{P:Nat->Prop}(bC:(gJ R).rep w P [c0,c1,c2,c3])(be:∀b,P b->B<=b/\b<w.heap.size/\b≠N/\b∉F1++(F2++(bI++b9)))
  {aP aW X:World} (aG:w.alloc (.cells #[c0,c1,c2,c3] 99)=aP) {I:Mk} {aD:Nat}
  (a9:Own aW 49 1 I (q.hn+1) aD (xs++[.slice (some ⟨w.heap.size,0,none⟩) 1 1]) (bx I (q.hn+1) aD)) (J:Fr (λb=>b∈bI) aP aW) (r:∀b∈bx I (q.hn+1) aD,b∈bI\/(aP.heap.size<=b/\b<aW.heap.size))
  (hX:aW.setCell ⟨N,2,none⟩ (.slice I (q.hn+1) aD)=X) :
  let ar:SV:=⟨q.GA,q.gn,q.gc,q.TA,q.tn,q.tc,I,q.hn+1,aD⟩
  let aq:ai:={s with threads:=s.threads++[[R]]}
  ar.Is X (λb=>B<=b/\b<X.heap.size/\b≠N) aq/\ao X N 30 (ar.val aq)/\Fr (λb=>B<=b) w X:=by
 intro ar aq;have dx:aP.heap.size=w.heap.size+1:=by rw[<-aG];simp
 have aL:=aZ aG;have v:=aN aG;have bP:=J.size;have cx:X.heap.size=aW.heap.size:=by rw[<-hX];simp[World.setCell]
 have nd:=h.st.nd;have n1:=wP.1 nd;have d3:∀b∈F1++(F2++b9),b∉bI:=λb O a1=>(List.nodup_append.1 n1).2.2 b a1 b O rfl;have c5:∀b,b∈bI->b∈F1++(F2++(bI++b9)):=λb O=>by simp[O]
 have bs:∀b,b∈F1++(F2++b9)->b∈F1++(F2++(bI++b9)):=λb O=>by
  exact zW
 have y:∀b,b<aP.heap.size->b≠N->b∉bI->X.heap[b]?=aP.heap[b]?:=λb ap bl a1=>by
  rw[<-hX];exact(aR bl).trans (J.block b ap a1)
 have i:∀b∈F1++(F2++b9),X.heap[b]?=w.heap[b]?:=λb O=>by
  have hl:=(h.lo b (bs b O)).2;exact(y b ad (λhe=>h.ne (he▸bs b O)) (d3 b O)).trans (aL.block b hl λh=>h)
 have a:∀b,b∈F1++(F2++b9)->B<=b/\b<X.heap.size/\b≠N:=λb O=>⟨(h.lo b (bs b O)).1,by have:=(h.lo b (bs b O)).2;omega,λhe=>h.ne (he▸bs b O)⟩
 have cW:=h.o.lt;have H:∀b,P b->X.heap[b]?=w.heap[b]?:=λb O=>by
  obtain⟨_,ax,a1,aU⟩:=be b O;exact(y b ad a1 (λcy=>aU (c5 b cy))).trans (aL.block b ax λh=>h)
 have m:B<=w.heap.size:=by have:=h.go;omega
 have aY:ao X w.heap.size 99 #[c0,c1,c2,c3]:=(y _ ad ad (λcy=>by have:=(h.lo _ (c5 _ cy)).2;omega)).trans v;have cr:(gJ R).rep X (λb=>B<=b/\b<X.heap.size/\b≠N) [c0,c1,c2,c3]:=D.aK (λb O=>by obtain⟨ac,ax,a1,_⟩:=be b O;exact⟨ac,ad,a1⟩) _ _ (D.aP H _ _ bC);have b0:Sl X (λb=>B<=b/\b<X.heap.size/\b≠N) (some ⟨w.heap.size,0,none⟩) 1 ([R].map gJ):=⟨rfl,λ_=>⟨w.heap.size,0,[c0,c1,c2,c3],rfl,⟨m,ad,ad⟩,by simp only[LI,L4];exact D.bw.2 cr,λj u hu=>by
  rw[LW,aY.cell];simpa using hu⟩⟩
 have d:∀b∈bx I (q.hn+1) aD,b≠N:=λb O=>by
  rcases r b O with ac|ac
  .exact λhe=>h.ne (he▸c5 b ac)
  .omega
 have e:Own X 49 1 I (q.hn+1) aD (xs++[.slice (some ⟨w.heap.size,0,none⟩) 1 1]) (bx I (q.hn+1) aD):=a9.ak λb O=>by rw[<-hX];exact aR (d b O)
 refine⟨⟨⟨?_,?_,?_⟩,h.st.g.cap,h.st.t.cap,a9.cap⟩,?_,?_⟩
 .exact(h.st.g.ak λb O=>i b (by simp only[LL];exact .inl O)).sl (cI _) (by rw[LG];exact h.st.gl.symm) λb O=>a b (by simp only[LL];exact .inl O)
 .exact(h.st.t.ak λb O=>i b (by simp only[LL];exact .inr (.inl O))).sl (dS _) (by rw[LG];exact h.st.tl.symm) λb O=>a b (by simp only[LL];exact .inr (.inl O))
 .have hold:D.aO X (λb=>B<=b/\b<X.heap.size/\b≠N) (s.threads.map mS) xs:=(h.st.hs.ak oP.ak λb O=>i b (by simp only[LL];exact .inr (.inr O))).aO oP.rep λb O=>a b (by simp only[LL];exact .inr (.inr O));refine e.sl (l:=(s.threads++[[R]]).map mS) (by rw[LJ];exact D.cK hold (D.bw.2 (fE.2 ⟨_,1,1,rfl,Lz _,b0⟩))) (by simp[h.st.hl]) λb O=>?_;refine⟨?_,(e.lt b O),d b O⟩;rcases r b O with ac|ac
  .exact(h.lo b (c5 b ac)).1
  .omega
 .have:=(h.o.aj aL).on J λa1=>h.ne (c5 _ a1);rw[<-hX];exact this.aJ 2 _
 .rw[<-hX];exact Fr.setCell (Fr.trans (Fr.mono aL λ_ h=>h.elim) (Fr.mono J λb O=>(h.lo b (c5 b O)).1)) (.inl h.go) _
theorem dC.push(h:dC B w s N q xs F1 F2 bI b9)(bv:s.threads[k]?=some (fs++[f])):
  ∃O ch fc cG,q.HA=some ⟨O,0,none⟩/\k<q.hn/\O∈F1++(F2++(bI++b9))/\ch∈F1++(F2++(bI++b9))/\O<w.heap.size/\ch<w.heap.size/\B<=O/\B<=ch/\O≠ch/\O≠N/\ch≠N/\(∀j,w.frozen? ⟨O,j,none⟩=false)/\w.cell? ⟨O,k,none⟩=some (.slice (some ⟨ch,0,none⟩) (fs.length+1) fc)/\
   Own w 99 4 (some ⟨ch,0,none⟩) (fs.length+1) fc cG [ch]/\
   ∀(R:an) (cs:List Value) (P:Nat->Prop) (I:Mk) (aD:Nat) (aW X:World),(gJ R).rep w P cs->(∀b,P b->B<=b/\b<w.heap.size/\b≠N/\b∉F1++(F2++(bI++b9)))->
    Own aW 99 4 I (fs.length+2) aD (cG++cs) (bx I (fs.length+2) aD)->Fr (λb=>b=ch) w aW->(∀b∈bx I (fs.length+2) aD,b=ch\/(w.heap.size<=b/\b<aW.heap.size))->
    aW.setCell ⟨O,k,none⟩ (.slice I (fs.length+2) aD)=X->
    q.Is X (λb=>B<=b/\b<X.heap.size/\b≠N) {s with threads:=s.threads.set k (fs++[f]++[R])}/\ao X N 30 (q.val s)/\Fr (λb=>B<=b) w X:=by
 obtain⟨Z,x,bm,S,K,g,ce,z,F,aK,bO⟩:=h.st.hs.E4 bv;obtain⟨FA,n,c,cG,bE,az,rfl,rfl,bJ,bn,J⟩:=aK;have dJ:Z.length=k:=by have:=F.len oP.len;rw[List.length_take,Nat.mul_one] at this;have:=(List.getElem?_eq_some_iff.1 bv).1;omega
 have bN:k<s.threads.length:=(List.getElem?_eq_some_iff.1 bv).1;have a7:k<q.hn:=by rw[h.st.hl];exact bN
 obtain rfl:n=fs.length+1:=by simpa using bJ
 obtain⟨ch,rfl,rfl,cr,G,U,bu⟩:=bn.block ad;obtain⟨O,mW,a5,cm,o,t,C⟩:=h.st.h.block ad;subst z a5;have nd:=h.st.nd;have nf:∀b∈(F1++(F2++([O]++S)))++(az++g),b≠ch:=eJ (by simpa[LQ] using nd);have A:∀b∈(F1++F2)++(S++(ch::(az++g))),b≠O:=eJ (by simpa[LQ] using nd);have l:O∈F1++(F2++([O]++(S++(([ch]++az)++g)))):=by simp
 have bi:ch∈F1++(F2++([O]++(S++(([ch]++az)++g)))):=by simp
 have cb:=o k (.slice (some ⟨ch,0,none⟩) (fs.length+1) c) (by rw[ce,List.getElem?_append_right ad,dJ,Nat.sub_self];rfl);refine⟨O,ch,c,cG,mW,a7,l,bi,cm,cr,(h.lo _ l).1,(h.lo _ bi).1,nf O (by simp),λhe=>h.ne (he▸l),λhe=>h.ne (he▸bi),t,cb,bn,?_⟩;intro R cs P I aD aW X bC be a9 b3 r hX;have bP:=b3.size;have cx:X.heap.size=aW.heap.size:=by rw[<-hX];simp[World.setCell]
 have y:∀b,b<w.heap.size->b≠O->b≠ch->X.heap[b]?=w.heap[b]?:=λb ap bl a1=>by
  rw[<-hX];exact(aR bl).trans (b3.block b ap a1)
 have mem:∀b,b∈F1++(F2++(S++(az++g)))->b∈F1++(F2++([O]++(S++(([ch]++az)++g)))):=λb O=>by
  simp only[LL] at O ⊢;rcases O with O|O|O|O|O
  .exact .inl O
  .exact .inr (.inl O)
  .exact .inr (.inr (.inr (.inl O)))
  .exact .inr (.inr (.inr (.inr (.inl (.inr O)))))
  .exact .inr (.inr (.inr (.inr (.inr O))))
 have i:∀b∈F1++(F2++(S++(az++g))),X.heap[b]?=w.heap[b]?:=λb O=>by
  refine y b (h.lo b (mem b O)).2 (A b ?_) (nf b ?_)
  .simp only[LL,LS] at O ⊢;rcases O with O|O|O|O|O<;>simp[O]
  .simp only[LL] at O ⊢;rcases O with O|O|O|O|O<;>simp[O]
 have a:∀b,b∈F1++(F2++(S++(az++g)))->B<=b/\b<X.heap.size/\b≠N:=λb O=>⟨(h.lo b (mem b O)).1,by have:=(h.lo b (mem b O)).2;omega,λhe=>h.ne (he▸mem b O)⟩
 have H:∀b,P b->X.heap[b]?=w.heap[b]?:=λb a4=>by
  obtain⟨_,ax,a1,aU⟩:=be b a4;exact y b ax (λhe=>aU (he▸l)) (λhe=>aU (he▸bi))
 have cW:=h.o.lt;have d:∀b∈bx I (fs.length+2) aD,b≠N/\b≠O:=λb a4=>by
  rcases r b a4 with ac|ac
  .rw[ac];exact⟨λhe=>h.ne (he▸bi),λhe=>nf O (by simp) he.symm⟩
  .exact⟨ad,ad⟩
 have e:Own X 99 4 I (fs.length+2) aD (cG++cs) (bx I (fs.length+2) aD):=a9.ak λb a4=>by rw[<-hX];exact aR (d b a4).2
 have u:(gJ R).rep X (λb=>B<=b/\b<X.heap.size/\b≠N) cs:=D.aK (λb O=>by obtain⟨ac,ax,a1,_⟩:=be b O;exact⟨ac,ad,a1⟩) _ _ (D.aP H _ _ bC);have v:D.aO X (λb=>B<=b/\b<X.heap.size/\b≠N) ((fs++[f]).map gJ) cG:=(J.ak pH.ak λb O=>i b (by simp[O])).aO pH.rep λb O=>a b (by simp[O]);have E:Sl X (λb=>B<=b/\b<X.heap.size/\b≠N) I (fs.length+2) ((fs++[f]++[R]).map gJ):=e.sl (by rw[LJ];exact D.cK v (D.bw.2 u)) (by simp) λb a4=>⟨by
  rcases r b a4 with ac|ac
  .rw[ac];exact(h.lo _ bi).1
  .have:=h.go;omega,e.lt b a4,(d b a4).1⟩
 refine⟨⟨⟨?_,?_,?_⟩,h.st.g.cap,h.st.t.cap,h.st.h.cap⟩,?_,?_⟩
 .exact(h.st.g.ak λb O=>i b (by simp only[LL];exact .inl O)).sl (cI _) (by simp[h.st.gl]) λb O=>a b (by simp only[LL];exact .inl O)
 .exact(h.st.t.ak λb O=>i b (by simp only[LL];exact .inr (.inl O))).sl (dS _) (by simp[h.st.tl]) λb O=>a b (by simp only[LL];exact .inr (.inl O))
 ·
  have wB:Own X 49 1 q.HA q.hn q.hc (xs.set k (.slice I (fs.length+2) aD)) [O]:=by
   have ac:Own aW 49 1 q.HA q.hn q.hc xs [O]:=h.st.h.ak λb a4=>b3.block b (aB (Ma.1 a4)) (by have:=Ma.1 a4;rw[this];exact nf O (by simp));obtain⟨bg,he,bL,_,_,_,L⟩:=ac.block ad;have:bg=O:=by rw[mW] at he;injection he with he;injection he with he _;exact he.symm
   subst this;rw[<-hX];exact L k _ ad
  have m:D.aO X (λb=>B<=b/\b<X.heap.size/\b≠N) ((s.threads.set k (fs++[f]++[R])).map mS) (xs.set k (.slice I (fs.length+2) aD)):=by
   have e1:xs.set k (.slice I (fs.length+2) aD)=Z++([.slice I (fs.length+2) aD]++bm):=by
    rw[ce,List.set_append_right _ _ ad,dJ,Nat.sub_self];rfl
   have e2:s.threads.set k (fs++[f]++[R])=s.threads.take k++((fs++[f]++[R])::s.threads.drop (k+1)):=List.set_eq_take_append_cons_drop.trans (by rw[if_pos bN]);rw[e1,e2,LJ,LI];refine D.cK ((F.ak oP.ak λb O=>i b (by simp[O])).aO oP.rep λb O=>a b (by simp[O])) ?_;simp only[D.aO];exact⟨_,_,rfl,fE.2 ⟨_,_,_,rfl,e.cap,E⟩,(bO.ak oP.ak λb O=>i b (by simp[O])).aO oP.rep λb O=>a b (by simp[O])⟩
  exact wB.sl m (by simp[h.st.hl]) λb a4=>by rw[Ma.1 a4];exact⟨(h.lo _ l).1,ad,λhe=>h.ne (he▸l)⟩
 .have:=h.o.on b3 λhe=>h.ne (he▸bi);rw[<-hX];exact this.J1 (λhe=>h.ne (he▸l)) _
 .rw[<-hX];exact Fr.setCell (Fr.mono b3 λb a4=>by rw[a4];exact(h.lo _ bi).1) (.inl (h.lo _ l).1) _
end
end Go.Proofs.YtflecliffjbleaaGreat

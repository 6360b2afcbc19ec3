/- Part 34 of the proof. No condition of its own. -/
import Derived.Test.YtkhnkojkplbioaaGreatQ28
namespace Go.Proofs.YtkhnkojkplbioaaGreat
open Go.RowKit Go.Proofs.Tryz
set_option maxRecDepth 1000000
set_option maxHeartbeats 25600000
set_option linter.unusedVariables false
variable{xs:List Value}{k z:Nat}{P:Nat->Prop}
theorem Sl.I6{w:World}{b o n:Nat}{l:List D}(h:Sl w P (some ⟨b,o,none⟩) n l)(bv:∀d∈l,d.sz=z)(ap:k<=n):Sl w P (some ⟨b,o+k*z,none⟩) (n - k) (l.drop k):=by
 refine⟨by have:=h.1;simp;omega,λh0=>?_⟩;obtain⟨K,M,xs,aX,O,ba,bi⟩:=h.2 ad;injection aX with aX;injection aX with ac au;subst ac au;rw[<-List.take_append_drop k l] at ba;obtain⟨y,ch,rfl,bb,a⟩:=D.j8 ba;have Z:y.length=k*z:=by
  rw[D.hj _ _ bb,D.gY (z:=z) (λd hd=>bv d (List.mem_of_mem_take hd)),List.length_take];have:=h.1;rw[Nat.min_eq_left ad]
 refine⟨b,o+k*z,ch,rfl,O,a,λj u hu=>?_⟩;have:=bi (k*z+j) u (by rw[List.getElem?_append_right ad,Z,Nat.add_sub_cancel_left];exact hu)
 rwa [<-Nat.add_assoc] at this
theorem mR{w:World}{P:Nat->Prop}:∀l:List Int,D.aQ w P (l.map D.i) (l.map (Value.int .i64))
 | []=>by simp only[LK,D.aQ]
 | x::l=>by simp only[Lq];exact bq.2 ⟨_,rfl,mR l⟩
theorem om{w:World}{P:Nat->Prop}:∀(l:List Int) (xs:List Value),D.aQ w P (l.map D.i) xs->xs=l.map (Value.int .i64)
 | [],xs,h=>by simpa only[LK,D.aQ] using h
 | x::l,xs,h=>by
  simp only[Lq] at h;obtain⟨y,rfl,au⟩:=bq.1 h;rw[om l y au,Lq]
theorem tm{w:World}{A:L3}{n:Nat}{l:List Int}(h:Sl w P A n (l.map D.i)):Src w 1 A n (l.map (Value.int .i64)):=by
 obtain⟨xs,ba,hs⟩:=h.src (z:=1) (λd hd=>by obtain⟨x,_,rfl⟩:=LL.1 hd;rfl)
 rwa [om l xs ba] at hs
theorem Fm(P:Nat->Prop)(lb lo:Nat)(ln lc:Nat)(l:List Int)(n:Int)(w:World)(hl:Sl w P (some ⟨lb,lo,none⟩) ln (l.map .i))(a1:∀b,P b->b<w.heap.size)(du:ln<=1000000)(a9:ln<=lc)(h0:0<ln) :
  Calls prog 96 #[.slice (some ⟨lb,lo,none⟩) ln lc,.int .i64 n] w
   λe ab=>∃(A:L3) (m c:Nat) (aO:List Int),e=.returned (.slice A m c)/\0<m/\m<=ln+1/\m<=c/\Sl ab (λb=>P b\/fresh w ab b) A m (aO.map .i)/\Ext w ab:=by
 have bM:l.length=ln:=by have:=hl.1;simpa using this
 obtain⟨b8,cq⟩:=aJ hl a1;clear hl a1;go_enter func96,ntmps96;go_wp2_with(fail);refine(yW (some ⟨lb,lo,none⟩) ln lc l n w (b8.mono cq.o) ad).mono ?_;rintro e aS ⟨rfl,b1⟩;have aN:Ext w aS:=Fr.of b1;have bx:=ae aN;clear b1 aN;generalize decide (n∈l)=q
 cases q with
 | true=>
  go_wp2_with(fail);go_ret
  exact⟨some ⟨lb,lo,none⟩,ln,lc,l,rfl,h0,ad,a9,(b8.al λb O=>bx.block b (cq.o b O) λh=>h).mono λb O=>.inl O,bx.o⟩
 | false=>
  go_wp2_with(fail);go_loopw [5] (λcy wr=>∃k:Nat,k<=ln/\cy=.int .i64 k/\Ext w wr) (λi _=>ln - (intOf i).toNat)
  case atStart=>exact⟨0,LJ _,rfl,bx.o⟩
  case round=>
   obtain⟨k,ap,rfl,aw⟩:=hrel;have bo:=ae aw;have hS:Sl wr P (some ⟨lb,lo,none⟩) ln (l.map .i):=b8.al λb O=>aw.block b (cq.o b O) λh=>h;have br:(0:Int)<=(k:Int):=ad;clear aw;have f:(k<ln/\∃x,x<n/\wr.cell? ⟨lb,lo+k,none⟩=some (.int .i64 x))\/(k<ln/\∃x,¬x<n/\wr.cell? ⟨lb,lo+k,none⟩=some (.int .i64 x))\/¬k<ln:=by
    by_cases al:k<ln
    .obtain⟨b,o,x,cs,aX,O,hm,ba,y,hc⟩:=Sl.g6 (enc:=D.i) (z:=1) hS (λ_=>rfl) al;injection aX with aX;injection aX with ac au;subst ac au;have I:cs=[.int .i64 x]:=by simpa only[D.rep] using ba
     subst I;have c0:=hc 0 _ rfl;simp only[Nat.mul_one,Lu] at c0;by_cases hx:x<n
     .exact .inl ⟨al,x,hx,c0⟩
     .exact .inr (.inl ⟨al,x,hx,c0⟩)
    .exact .inr (.inr al)
   have bq:=ae hS;clear hS;rcases f with⟨al,x,hx,c0⟩|f
   .have cd:(k:Int)<(ln:Int):=ad;go_wp2_with(fail);go_roundw
    case rel=>exact⟨k+1,ad,by go_num,bo.o⟩
    case measure=>exact aH
   .rcases f with⟨al,x,hx,c0⟩|al
    all_goals
     have cd:(k:Int)<=(ln:Int):=ad;go_upto_region 6 with(fail);have aV:k<=lc:=ad;obtain⟨cV,dz⟩:∃N,N=wr.heap.size:=⟨_,rfl⟩
     refine rC (λb=>cV<=b) [7,11] (.free 1 (.free 2 (.free 3 (.free 5 (.free 8 (.free 9 (.free 10 (.pick [0,6] (λi=>bif i == 0 then .pick [4,6] (λi=>bif i == 4 then .pick [6] (λ_=>.pick [7] (λ_=>.pick [11] (λ_=>.free 12 (.stop)))) else .pick [4] (λ_=>.pick [7] (λ_=>.pick [11] (λ_=>.free 12 (.stop))))) else .pick [0] (λ_=>.pick [4] (λ_=>.pick [7] (λ_=>.pick [11] (λ_=>.free 12 (.stop)))))))))))))) ?_
     iterate 7 refine tf ?_
     generalize aZ:(if lc=k then (some ⟨lb,lo,none⟩:L3) else some ⟨lb,lo+k,none⟩)=A2;have cX:Sl wr P A2 (ln - k) ((l.drop k).map .i):=by
      rw[<-aZ];split
      .have:ln - k=0:=ad;rw[this,LQ ad];exact Sl.bR _
      .have:=bq.I6 (z:=1) (λd hd=>by obtain⟨x,_,rfl⟩:=LL.1 hd;rfl) ap;rw[Nat.mul_one,<-List.map_drop] at this;exact this
     have U:Sl wr P (some ⟨lb,lo,none⟩) k ((l.take k).map .i):=by rw[List.map_take];exact bq.take ap
     obtain⟨am,ah⟩:=aJ cX U;have u:∀b,P b->b<wr.heap.size:=λb O=>Ll (cq.o b O) bo.size;have j:=ae u;clear aZ cX U u;refine iQ (P:=?_) (ops:=?_) (Q:=?_) (R:=?_) (tails:=?_) (rest:=.pick [7] (λ_=>.pick [11] (λ_=>.free 12 (.stop)))) (aa:=?_)
      (C:=λ(_:Nat) dv cE cW V=>Ext wr V/\Gr (λ_=>False) cV 3 1 V cE k cW ((l.take k).map D.i)/\aq V dv 3 #[.int .i64 n]) (λkey=>?_) ?_
     rotate_left 6
     ·
      refine a2 ?_ ?_
      ·
       refine dT ?_;generalize hV:World.drew (World.alloc _ _)=bt;have e1:=gK hV;have cL:Gr (λ_=>False) cV 3 1 bt (some ⟨wr.heap.size,0,none⟩) 0 0 []:=by rw[<-hV,dz];exact(Gr.lit (w:=wr) (n:=0) (l:=[]) rfl (by rfl) ad (by simp only[D.aQ])).aj LW.drew
       have f2:=tm (ah.al λb O=>e1.block b (j.o b O) λh=>h);clear hV;refine a2 ?_ ?_
       ·
        refine aB rfl (λK hK=>?_) rfl;rw[if_pos (by rfl)];refine js dh (.tmp 24) (.tmp 27) (by rfl) cL (mR (l.take k)) (by simp;omega) f2 (λh=>by cases h) (by rfl) (by rfl) ad ad (by rw[dz];exact e1.size) ?_;intro cE cW cS cb f1 o1 c1;refine dq hK (f1.mono λb O=>ad) ?_;clear hK K;refine ao ?_;refine dT ?_;have e2:Ext wr cS:=Fr.low (M:=λb=>wr.heap.size<=b) ((e1.mono λ_ h=>h.elim).trans (f1.mono λb O=>ad)) λ_ h=>h;have F:Ext wr (cS.alloc (.cells #[.int .i64 n] 3))/\Gr (λ_=>False) cV 3 1 (cS.alloc (.cells #[.int .i64 n] 3)) cE k cW ((l.take k).map D.i)/\aq (cS.alloc (.cells #[.int .i64 n] 3)) cS.heap.size 3 #[.int .i64 n]:=
         ⟨e2.alloc _,cb.aj (LW.alloc _),LX⟩
        clear cb cL f1 o1 e1 e2 f2;revert F;generalize cS.heap.size=dv;generalize wr.heap.size=eQ;intro F;exact key eQ dv cE cW _ F
       ·
        refine dT ?_;generalize hV:World.alloc _ _=eN;have e2:=aW hV;have bG:aq eN bt.heap.size 3 #[.int .i64 n]:=hV▸LX;have bv:=tm (ah.al λb O=>(e1.trans e2).block b (j.o b O) λh=>h);clear hV f2;have dI:wr.heap.size<bt.heap.size:=(cL.lt (g:=wr.heap.size) rfl).2;refine ao ?_;refine aB rfl (λK hK=>?_) rfl;rw[if_pos (by rfl)];refine js dh (.tmp 24) (.tmp 27) (by rfl) (cL.aj e2) (mR (l.take k)) (by simp;omega) bv (λh=>by cases h) (by rfl) (by rfl) ad ad (by rw[dz];exact(e1.trans e2).size) ?_;intro cE cW cS cb f1 o1 c1;refine dq hK (f1.mono λb O=>ad) ?_;clear hK K;have e3:Ext wr cS:=Fr.low (M:=λb=>wr.heap.size<=b) (((e1.trans e2).mono λ_ h=>h.elim).trans (f1.mono λb O=>ad)) λ_ h=>h;have F:Ext wr cS/\Gr (λ_=>False) cV 3 1 cS cE k cW ((l.take k).map D.i)/\aq cS bt.heap.size 3 #[.int .i64 n]:=⟨e3,cb,bG.on f1 ad⟩
        clear cb cL f1 o1 e1 e2 e3 bv bG dI;revert F;generalize bt.heap.size=dv;generalize wr.heap.size=eQ;intro F;exact key eQ dv cE cW _ F
      ·
       refine dT ?_;generalize hV:World.drew (World.alloc _ _)=bt;have e1:=gK hV;have bG:aq bt wr.heap.size 3 #[.int .i64 n]:=hV▸LX;clear hV;refine ao ?_;refine dT ?_;generalize hV:World.alloc _ _=eN;have e2:=aW hV;have cL:Gr (λ_=>False) bt.heap.size 3 1 eN (some ⟨bt.heap.size,0,none⟩) 0 0 []:=hV▸Gr.lit (w:=bt) (n:=0) (l:=[]) rfl (by rfl) ad (by simp only[D.aQ]);have dj:=bG.aj e2;have bv:=tm (ah.al λb O=>(e1.trans e2).block b (j.o b O) λh=>h);have dI:wr.heap.size<bt.heap.size:=bG.lt;clear hV bG;refine ao ?_;refine aB rfl (λK hK=>?_) rfl;rw[if_pos (by rfl)];refine js dh (.tmp 24) (.tmp 27) (by rfl) cL (mR (l.take k)) (by simp;omega) bv (λh=>by cases h) (by rfl) (by rfl) ad ad e2.size ?_;intro cE cW cS cb f1 o1 c1;refine dq hK (f1.mono λb O=>ad) ?_;clear hK K;have e3:Ext wr cS:=Fr.low (M:=λb=>wr.heap.size<=b) (((e1.trans e2).mono λ_ h=>h.elim).trans (f1.mono λb O=>ad)) λ_ h=>h;have F:Ext wr cS/\Gr (λ_=>False) cV 3 1 cS cE k cW ((l.take k).map D.i)/\aq cS wr.heap.size 3 #[.int .i64 n]:=⟨e3,cb.base ad,dj.on f1 ad⟩
       clear cb cL f1 o1 e1 e2 e3 bv dj dI;revert F;generalize bt.heap.size=eQ;generalize wr.heap.size=dv;intro F;exact key eQ dv cE cW _ F
     ·
      rintro eQ dv cE cW gL ⟨a6,da,bG⟩;have eE:=a6.size;refine ao ?_;refine bQ rfl (λK hK=>?_) rfl;rw[if_pos (by rfl)];refine fa dh (.tmp 28) (.tmp 30) (by rfl) da bG (show (D.i n).rep gL _ _ from by simp only[D.rep]) (by rfl) (by rfl) (by rfl) ad ad ad ?_;intro E H fn fh f5 gG gM;have cu:Ext wr fn:=Fr.low (M:=λb=>wr.heap.size<=b) ((a6.mono λ_ h=>h.elim).trans (f5.mono λb O=>by have:=(da.lt O).1;omega)) λ_ h=>h;clear da bG a6 eE f5 gG gM;have d1:=cu.size;refine dP hK ?_;clear hK K;refine ao ?_;refine bQ rfl (λK hK=>?_) rfl;rw[if_pos (by rfl)];have s:∀d∈(l.drop k).map D.i,d.sz=1:=λd hd=>by obtain⟨x,_,rfl⟩:=LL.1 hd;rfl
      refine Fp (k:=(l.drop k).map D.i) (A2:=A2) dh (.tmp 31) (.tmp 34) (by rfl) (fh.mono (Q:=λb=>P b) λb _ h=>h.elim) ?_ s (by rfl) (by rfl) ad ad ad ?_
      .exact((am.al λb O=>cu.block b (j.o b O) λh=>h).mono λb O=>⟨O,by have:=j.o b O;omega,λh=>by have:=(fh.lt h).1;have:=j.o b O;omega⟩)
      intro v cm gR t f6 o6 r;have bB:Ext wr gR:=Fr.low (M:=λb=>wr.heap.size<=b) ((cu.mono λ_ h=>h.elim).trans (f6.mono λb O=>by have:=(fh.lt O).1;omega)) λ_ h=>h;have l7:k+1+(ln - k)=ln+1:=ad;simp only[l7] at t r ⊢;refine dP hK ?_;clear hK K;refine tf ?_;refine b9 ?_;clear fh f6 o6 cu d1;have bX:=aE t r bB;clear t r bB;go_wp2_with(fail);go_ret;obtain⟨t,r,bB⟩:=bX.o;have bI:=bo.size;have hS:=t.sl (Q:=λb=>P b\/fresh w gR b) (λb _ h=>.inl h) (λb ac au=>.inr ⟨ad,ac⟩);have ai:Sl gR (λb=>P b\/fresh w gR b) v (ln+1) ((l.take k++[n]++l.drop k).map .i):=by simpa only[Lr,Lq,LK] using hS
      have bj:=bo.trans bB
      first
       | exact⟨v,ln+1,cm,rfl,ad,ad,r,⟨l.take k++[n]++l.drop k,ai⟩,bj⟩
       | exact⟨v,ln+1,cm,l.take k++[n]++l.drop k,rfl,ad,ad,r,ai,bj⟩
theorem HS:cj prog 31 172 (.agg #[.int .i64 0,.slice none 0 0]) 2 32:=cj.mk' Tryz.underlying31 (by kernel_rfl) rfl ad
theorem HX:cj prog 32 22 (.slice none 0 0) 1 24:=cj.mk' Tryz.underlying32 (by kernel_rfl) rfl ad
theorem jd{w ab:World}{B:Nat}{e:TypeId}{v:Value}{n:Nat}(h:w.ownsRow B e z v n xs)(ap:∀b,v.ownBlock=some b->ab.heap[b]?=w.heap[b]?):ab.ownsRow B e z v n xs:=by
 refine⟨h.1,?_⟩;rcases h.2 with aY|⟨g,cap,cur,bG,j,aV,rest⟩
 .exact .inl aY
 .exact .inr ⟨g,cap,cur,bG,j,(ap g (by rw[bG];rfl)).trans aV,rest⟩
structure hr(u:ay)(g B:Nat)(K:Nat->Prop)(w:World)(IA:L3)(n ic:Nat)(bz:L3)(cp b3:Nat)(ce:L3)(a6 rc:Nat)(L:List hZ)(cd:List Int):Prop where
 blk:aq w g 34 #[.slice IA n ic,.slice bz cp b3,.slice ce a6 rc]
 ins:Gr (λb=>b≠g/\(Value.slice bz cp b3).ownBlock≠some b/\¬K b) B 172 2 w IA n ic (L.map fE)
 ok:∀x∈L,l8 u x
 H2:∃xs,w.ownsRow B 22 1 (.slice bz cp b3) cp xs
 Il:Sl w (λb=>b<w.heap.size/\b≠g/\(Value.slice IA n ic).ownBlock≠some b/\(Value.slice bz cp b3).ownBlock≠some b/\¬K b) ce a6 (cd.map .i)
 w7:0<a6
 zg:a6<=rc
 ig:∀b,(Value.slice IA n ic).ownBlock=some b->b≠g/\(Value.slice bz cp b3).ownBlock≠some b/\¬K b
 cg:∀b,(Value.slice bz cp b3).ownBlock=some b->b≠g/\¬K b
 kg:¬K g
 kl:∀b,K b->b<w.heap.size
section
variable {u:ay} {g B:Nat} {K:Nat->Prop} {w ab:World} {IA bz ce F Y c:L3} {n ic cp b3 a6 rc cr ah a d:Nat} {L:List hZ} {cd f:List Int}
theorem hr.cl(h:hr u g B K w IA n ic bz cp b3 ce a6 rc L cd):∀b,(Value.slice bz cp b3).ownBlock=some b->B<=b/\b<w.heap.size:=λb O=>by
 obtain⟨xs,hx⟩:=h.H2;exact hx.lt b O
theorem hr.on(h:hr u g B K w IA n ic bz cp b3 ce a6 rc L cd)(O:Fr K w ab):hr u g B K ab IA n ic bz cp b3 ce a6 rc L cd:=by
 refine⟨h.blk.on O h.kg,h.ins.dm O.size λb al hp=>O.block b al ?_,h.ok,?_,(h.Il.al λb hp=>O.block b hp.1 hp.2.2.2.2).mono λb hp=>⟨Ll hp.1 O.size,hp.2⟩,h.w7,h.zg,h.ig,h.cg,h.kg,λb ap=>Ll (h.kl b ap) O.size⟩
 .rcases hp with hp|hp
  .exact hp.2.2
  .exact(h.ig b hp).2.2
 .obtain⟨xs,hx⟩:=h.H2;exact⟨xs,jd hx λb hp=>O.block b (hx.lt b hp).2 (h.cg b hp).2⟩
theorem hr.apart(h:hr u g B K w IA n ic bz cp b3 ce a6 rc L cd)(O:Ext w ab)(ap:w.heap.size<=k)(b0:k<ab.heap.size):hr u g B (λb=>b=k) ab IA n ic bz cp b3 ce a6 rc L cd:=by
 have ac:=h.on (O.mono λ_ h=>h.elim);have o:=h.blk.lt;refine⟨ac.blk,(h.ins.mono λb al hp=>⟨hp.1,hp.2.1,ad⟩).aj O,h.ok,ac.H2,
  (h.Il.al λb hp=>O.block b hp.1 λh=>h).mono λb hp=>⟨Ll hp.1 O.size,hp.2.1,hp.2.2.1,hp.2.2.2.1,by have:=hp.1;omega⟩,
  h.w7,h.zg,λb hp=>⟨(h.ig b hp).1,(h.ig b hp).2.1,?_⟩,λb hp=>⟨(h.cg b hp).1,?_⟩,ad,λb O=>ad⟩
 .have:=(h.ins.lt hp).2;omega
 .have:=(h.cl b hp).2;omega
theorem hr.free(h:hr u g B K w IA n ic bz cp b3 ce a6 rc L cd):hr u g B (λ_=>False) w IA n ic bz cp b3 ce a6 rc L cd:=
 ⟨h.blk,h.ins.mono λb _ hp=>⟨hp.1,hp.2.1,λh=>h⟩,h.ok,h.H2,h.Il.mono λb hp=>⟨hp.1,hp.2.1,hp.2.2.1,hp.2.2.2.1,λh=>h⟩,h.w7,h.zg,λb hp=>⟨(h.ig b hp).1,(h.ig b hp).2.1,λh=>h⟩,λb hp=>⟨(h.cg b hp).1,λh=>h⟩,λh=>h,λ_ h=>h.elim⟩
theorem hr.JF(h:hr u g B K w IA n ic bz cp b3 ce a6 rc L cd){x:hZ}(hx:l8 u x)
  (a9:Gr (λb=>b≠g/\(Value.slice bz cp b3).ownBlock≠some b/\¬K b) B 172 2 ab F (n+1) cr (L.map fE++[fE x])) (J:Fr (λb=>(Value.slice IA n ic).ownBlock=some b) w ab) (bn:dt w IA n ic F (n+1) cr) :
  hr u g B K (ab.setCell ⟨g,0,none⟩ (.slice F (n+1) cr)) F (n+1) cr bz cp b3 ce a6 rc (L++[x]) cd:=by
 have o:=h.blk.lt;have hs:=J.size;have dK:∀b,(Value.slice F (n+1) cr).ownBlock=some b->b≠g/\(Value.slice bz cp b3).ownBlock≠some b/\¬K b:=λb hp=>by
  rcases bn b hp with ac|ac
  .exact h.ig b ac
  .exact⟨ad,λhc=>by have:=(h.cl b hc).2;omega,λap=>by have:=h.kl b ap;omega⟩
 have bG:Fr (λb=>b=g) ab (ab.setCell ⟨g,0,none⟩ (.slice F (n+1) cr)):=(Fr.refl (λb=>b=g) ab).setCell (.inl rfl) _;refine⟨(h.blk.on J λO=>(h.ig g O).1 rfl).aM 0 _,?_,?_,?_,?_,h.w7,h.zg,dK,h.cg,h.kg,λb ap=>by have:=h.kl b ap;simp;omega⟩
 .rw[Lr,Lq,LK];exact a9.dm bG.size λb al hp=>bG.block b al λO=>by
   subst O;rcases hp with hp|hp
   .exact hp.1 rfl
   .exact(dK b hp).1 rfl
 .intro y bb;rcases Lt.1 bb with bb|bb
  .exact h.ok y bb
  .simp at bb;subst bb;exact hx
 .obtain⟨xs,hx⟩:=h.H2;exact⟨xs,jd hx λb hp=>(bG.block b (by have:=(hx.lt b hp).2;omega) (h.cg b hp).1).trans (J.block b (hx.lt b hp).2 λO=>(h.ig b O).2.1 hp)⟩
 .refine(h.Il.al λb hp=>(bG.block b (aD hp.1) hp.2.1).trans (J.block b hp.1 hp.2.2.1)).mono λb hp=>⟨by have:=hp.1;simp;omega,hp.2.1,λO=>?_,hp.2.2.2⟩
  rcases bn b O with ac|ac
  .exact hp.2.2.1 ac
  .have:=hp.1;omega
theorem hr.JE(h:hr u g B K w IA n ic bz cp b3 ce a6 rc L cd)(a9:ab.ownsRow B 22 1 (.slice Y (cp+1) ah) (cp+1) xs)(J:Fr (λb=>(Value.slice bz cp b3).ownBlock=some b) w ab)(bn:dt w bz cp b3 Y (cp+1) ah):
  hr u g B K (ab.setCell ⟨g,1,none⟩ (.slice Y (cp+1) ah)) IA n ic Y (cp+1) ah ce a6 rc L cd:=by
 have o:=h.blk.lt;have hs:=J.size;have e:∀b,(Value.slice Y (cp+1) ah).ownBlock=some b->b≠g/\¬K b:=λb hp=>by
  rcases bn b hp with ac|ac
  .exact h.cg b ac
  .exact⟨ad,λap=>by have:=h.kl b ap;omega⟩
 have bG:Fr (λb=>b=g) ab (ab.setCell ⟨g,1,none⟩ (.slice Y (cp+1) ah)):=(Fr.refl (λb=>b=g) ab).setCell (.inl rfl) _;refine⟨(h.blk.on J λO=>(h.cg g O).1 rfl).aM 1 _,?_,h.ok,?_,?_,h.w7,h.zg,λb hp=>⟨(h.ig b hp).1,λO=>?_,(h.ig b hp).2.2⟩,e,h.kg,λb ap=>by have:=h.kl b ap;simp;omega⟩
 .have ac:Gr (λb=>b≠g/\(Value.slice Y (cp+1) ah).ownBlock≠some b/\¬K b/\(Value.slice bz cp b3).ownBlock≠some b) B 172 2 w IA n ic (L.map fE):=h.ins.mono λb al hp=>⟨hp.1,λO=>by
   rcases bn b O with ac|ac
   .exact hp.2.1 ac
   .omega,hp.2.2,hp.2.1⟩
  have au:=ac.dm (ab:=ab.setCell ⟨g,1,none⟩ (.slice Y (cp+1) ah)) (by simp;omega) λb al hp=>(bG.block b ad (by
    rcases hp with hp|hp
    .exact hp.1
    .exact(h.ig b hp).1)).trans (J.block b al (by
    rcases hp with hp|hp
    .exact hp.2.2.2
    .exact(h.ig b hp).2.1))
  exact au.mono λb _ hp=>⟨hp.1,hp.2.1,hp.2.2.1⟩
 .exact⟨xs,jd a9 λb hp=>bG.block b (a9.lt b hp).2 (e b hp).1⟩
 .refine(h.Il.al λb hp=>(bG.block b (aD hp.1) hp.2.1).trans (J.block b hp.1 hp.2.2.2.1)).mono λb hp=>⟨by have:=hp.1;simp;omega,hp.2.1,hp.2.2.1,λO=>?_,hp.2.2.2.2⟩
  rcases bn b O with ac|ac
  .exact hp.2.2.2.1 ac
  .have:=hp.1;omega
 .rcases bn b O with ac|ac
  .exact(h.ig b hp).2.1 ac
  .have:=(h.ins.lt hp).2;omega
theorem hr.Kd(h:hr u g B K w IA n ic bz cp b3 ce a6 rc L cd)(a1:P=λb=>b<w.heap.size/\b≠g/\(Value.slice IA n ic).ownBlock≠some b/\(Value.slice bz cp b3).ownBlock≠some b/\¬K b)
  (ba:Sl ab (λb=>P b\/fresh w ab b) c a (f.map .i)) (aw:Ext w ab) (h0:0<a) (hc:a<=d) :
  hr u g B K (ab.setCell ⟨g,2,none⟩ (.slice c a d)) IA n ic bz cp b3 c a d L f:=by
 subst a1;have o:=h.blk.lt;have hs:=aw.size;have ac:=h.on (aw.mono λ_ h=>h.elim);have bG:Fr (λb=>b=g) ab (ab.setCell ⟨g,2,none⟩ (.slice c a d)):=(Fr.refl (λb=>b=g) ab).setCell (.inl rfl) _;refine⟨ac.blk.aM 2 _,ac.ins.dm bG.size λb al hp=>bG.block b al ?_,h.ok,?_,?_,h0,hc,h.ig,h.cg,h.kg,λb ap=>by have:=h.kl b ap;simp;omega⟩
 .rcases hp with hp|hp
  .exact hp.1
  .exact(h.ig b hp).1
 .obtain⟨xs,hx⟩:=ac.H2;exact⟨xs,jd hx λb hp=>bG.block b (hx.lt b hp).2 (h.cg b hp).1⟩
 .have bA:∀b,((b<w.heap.size/\b≠g/\(Value.slice IA n ic).ownBlock≠some b/\(Value.slice bz cp b3).ownBlock≠some b/\¬K b)\/fresh w ab b)->(b<ab.heap.size/\b≠g/\(Value.slice IA n ic).ownBlock≠some b/\(Value.slice bz cp b3).ownBlock≠some b/\¬K b):=λb hp=>by
   rcases hp with hp|hp
   .exact⟨by have:=hp.1;omega,hp.2⟩
   .have ac:=hp.1;exact⟨hp.2,ad,λO=>by have:=(h.ins.lt O).2;omega,λO=>by have:=(h.cl b O).2;omega,λap=>by have:=h.kl b ap;omega⟩
  exact((ba.mono bA).al λb hp=>bG.block b hp.1 hp.2.1).mono λb hp=>⟨by have:=hp.1;simp;omega,hp.2⟩
end
end Go.Proofs.YtkhnkojkplbioaaGreat

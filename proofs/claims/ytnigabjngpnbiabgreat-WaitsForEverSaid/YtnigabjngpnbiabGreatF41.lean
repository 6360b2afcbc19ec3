/- Part 41 of the proof. No condition of its own. -/
import Derived.Test.YtnigabjngpnbiabGreatF28
import Derived.Test.YtnigabjngpnbiabGreatF33
namespace Go.Proofs.YtnigabjngpnbiabGreat
open Go.RowKit Go.Proofs.Tryz
set_option maxRecDepth 1000000
set_option maxHeartbeats 25600000
set_option linter.unusedVariables false
variable{xs:List Value}{k z:Nat}{P:Nat->Prop}{p:Prop}
theorem Sl.KB{w:World}{b o n:Nat}{l:List D}(h:Sl w P (some ⟨b,o,none⟩) n l)(aI:∀d∈l,d.sz=z)(aj:k<=n):Sl w P (some ⟨b,o+k*z,none⟩) (n - k) (l.drop k):=by
 refine⟨by have:=h.1;simp;omega,λh0=>?_⟩;obtain⟨ct,da,xs,bF,O,ba,bi⟩:=h.2 ad;injection bF with bF;injection bF with ac az;subst ac az;rw[<-List.take_append_drop k l] at ba;obtain⟨y,cf,rfl,bb,c⟩:=D.kp ba;have a:y.length=k*z:=by
  rw[D.hP _ _ bb,D.hi (z:=z) (λd hd=>aI d (List.mem_of_mem_take hd)),List.length_take];have:=h.1;rw[Nat.min_eq_left ad]
 refine⟨b,o+k*z,cf,rfl,O,c,λj u hu=>?_⟩;have:=bi (k*z+j) u (by rw[List.getElem?_append_right ad,a,Nat.add_sub_cancel_left];exact hu)
 rwa [<-Nat.add_assoc] at this
theorem m5{w:World}{P:Nat->Prop}:∀l:List Int,D.aQ w P (l.map D.i) (l.map (Value.int .i64))
 | []=>by simp only[Nr,D.aQ]
 | x::l=>by simp only[M7];exact bj.2 ⟨_,rfl,m5 l⟩
theorem oJ{w:World}{P:Nat->Prop}:∀(l:List Int) (xs:List Value),D.aQ w P (l.map D.i) xs->xs=l.map (Value.int .i64)
 | [],xs,h=>by simpa only[Nr,D.aQ] using h
 | x::l,xs,h=>by
  simp only[M7] at h;obtain⟨y,rfl,az⟩:=bj.1 h;rw[oJ l y az,M7]
theorem tG{w:World}{A:NH}{n:Nat}{l:List Int}(h:Sl w P A n (l.map D.i)):Src w 1 A n (l.map (Value.int .i64)):=by
 obtain⟨xs,ba,hs⟩:=h.src (z:=1) (λd hd=>by obtain⟨x,_,rfl⟩:=Ns.1 hd;rfl)
 rwa [oJ l xs ba] at hs
theorem Gl(P:Nat->Prop)(lb lo:Nat)(ln lc:Nat)(l:List Int)(n:Int)(w:World)(hl:Sl w P (some ⟨lb,lo,none⟩) ln (l.map .i))(bh:∀b,P b->b<w.heap.size)(du:ln<=1000000)(bo:ln<=lc)(h0:0<ln) :
  Calls prog 71 #[.slice (some ⟨lb,lo,none⟩) ln lc,n] w
   λe ab=>∃(A:NH) (m c:Nat) (ag:List Int),e=.returned (.slice A m c)/\0<m/\m<=ln+1/\m<=c/\Sl ab (λb=>P b\/fresh w ab b) A m (ag.map .i)/\Ext w ab:=by
 have bK:l.length=ln:=by have:=hl.1;simpa using this
 obtain⟨bT,ck⟩:=aJ hl bh;clear hl bh;go_enter func71,ntmps71;go_wp2_with(fail);refine(zK (some ⟨lb,lo,none⟩) ln lc l n w (bT.mono ck.o) ad).mono ?_;rintro e aO ⟨rfl,b2⟩;have aM:Ext w aO:=Fr.of b2;have bw:=ae aM;clear b2 aM;generalize decide (n∈l)=q
 cases q with
 | true=>
  go_wp2_with(fail);go_ret
  exact⟨some ⟨lb,lo,none⟩,ln,lc,l,rfl,h0,ad,bo,(bT.ak λb O=>bw.block b (ck.o b O) λh=>h).mono λb O=>.inl O,bw.o⟩
 | false=>
  go_wp2_with(fail);go_loopw [5] (λb5 wr=>∃k:Nat,k<=ln/\b5=.int .i64 k/\Ext w wr) (λi _=>ln - (intOf i).toNat)
  case atStart=>exact⟨0,Nq _,rfl,bw.o⟩
  case round=>
   obtain⟨k,aj,rfl,aF⟩:=hrel;have bk:=ae aF;have hS:Sl wr P (some ⟨lb,lo,none⟩) ln (l.map .i):=bT.ak λb O=>aF.block b (ck.o b O) λh=>h;have bE:(0:Int)<=(k:Int):=ad;clear aF;have f:(k<ln/\∃x,x<n/\wr.cell? ⟨lb,lo+k,none⟩=some (.int .i64 x))\/(k<ln/\∃x,¬x<n/\wr.cell? ⟨lb,lo+k,none⟩=some (.int .i64 x))\/¬k<ln:=by
    by_cases ap:k<ln
    .obtain⟨b,o,x,cs,bF,O,hm,ba,L,hc⟩:=Sl.g1 (enc:=D.i) (z:=1) hS (λ_=>rfl) ap;injection bF with bF;injection bF with ac az;subst ac az;have I:cs=[.int .i64 x]:=by simpa only[D.rep] using ba
     subst I;have c0:=hc 0 _ rfl;simp only[Nat.mul_one,Nd] at c0;by_cases hx:x<n
     .exact .inl ⟨ap,x,hx,c0⟩
     .exact .inr (.inl ⟨ap,x,hx,c0⟩)
    .exact .inr (.inr ap)
   have bH:=ae hS;clear hS;rcases f with⟨ap,x,hx,c0⟩|f
   .have ce:(k:Int)<(ln:Int):=ad;go_wp2_with(fail);go_roundw
    case rel=>exact⟨k+1,ad,by go_num,bk.o⟩
    case measure=>exact aH
   .rcases f with⟨ap,x,hx,c0⟩|ap
    all_goals
     have ce:(k:Int)<=(ln:Int):=ad;go_upto_region 6 with(fail);have bJ:k<=lc:=ad;obtain⟨cV,dy⟩:∃N,N=wr.heap.size:=⟨_,rfl⟩
     refine sK (λb=>cV<=b) [7,11] (.free 1 (.free 2 (.free 3 (.free 5 (.free 8 (.free 9 (.free 10 (.pick [0,6] (λi=>bif i == 0 then .pick [4,6] (λi=>bif i == 4 then .pick [6] (λ_=>.pick [7] (λ_=>.pick [11] (λ_=>.free 12 (.stop)))) else .pick [4] (λ_=>.pick [7] (λ_=>.pick [11] (λ_=>.free 12 (.stop))))) else .pick [0] (λ_=>.pick [4] (λ_=>.pick [7] (λ_=>.pick [11] (λ_=>.free 12 (.stop)))))))))))))) ?_
     iterate 7 refine tf ?_
     generalize a7:(if lc=k then (some ⟨lb,lo,none⟩:NH) else some ⟨lb,lo+k,none⟩)=A2;have ch:Sl wr P A2 (ln - k) ((l.drop k).map .i):=by
      rw[<-a7];split
      .have:ln - k=0:=ad;rw[this,Nx ad];exact Sl.bY _
      .have:=bH.KB (z:=1) (λd hd=>by obtain⟨x,_,rfl⟩:=Ns.1 hd;rfl) aj;rw[Nat.mul_one,<-List.map_drop] at this;exact this
     have aC:Sl wr P (some ⟨lb,lo,none⟩) k ((l.take k).map .i):=by rw[List.map_take];exact bH.take aj
     obtain⟨S,cN⟩:=aJ ch aC;have u:∀b,P b->b<wr.heap.size:=λb O=>M0 (ck.o b O) bk.size;have j:=ae u;clear a7 ch aC u;refine jg (P:=?_) (ops:=?_) (Q:=?_) (R:=?_) (tails:=?_) (rest:=.pick [7] (λ_=>.pick [11] (λ_=>.free 12 (.stop)))) (aa:=?_)
      (C:=λ(_:Nat) br cu cS V=>Ext wr V/\Gr (λ_=>False) cV 3 1 V cu k cS ((l.take k).map D.i)/\an V br 3 #[n]) (λkey=>?_) ?_
     rotate_left 6
     ·
      refine a2 ?_ ?_
      ·
       refine ep ?_;generalize hV:World.drew (World.alloc _ _)=bg;have e1:=hy hV;have c8:Gr (λ_=>False) cV 3 1 bg (some ⟨wr,0,none⟩) 0 0 []:=by rw[<-hV,dy];exact(Gr.lit (w:=wr) (n:=0) (l:=[]) rfl (by rfl) ad (by simp only[D.aQ])).aj NC.drew
       have f2:=tG (cN.ak λb O=>e1.block b (j.o b O) λh=>h);clear hV;refine a2 ?_ ?_
       ·
        refine aD rfl (λK hK=>?_) rfl;rw[if_pos (by rfl)];refine jG cF (.tmp 24) (.tmp 27) (by rfl) c8 (m5 (l.take k)) (by simp;omega) f2 (λh=>by cases h) (by rfl) (by rfl) ad ad (by rw[dy];exact e1.size) ?_;intro cu cS cJ cd f1 o1 c1;refine dB hK (f1.mono λb O=>ad) ?_;clear hK K;refine aq ?_;refine ep ?_;have e2:Ext wr cJ:=Fr.low (M:=λb=>wr.heap.size<=b) ((e1.mono λ_ h=>h.elim).trans (f1.mono λb O=>ad)) λ_ h=>h;have F:Ext wr (cJ.alloc (.cells #[n] 3))/\Gr (λ_=>False) cV 3 1 (cJ.alloc (.cells #[n] 3)) cu k cS ((l.take k).map D.i)/\an (cJ.alloc (.cells #[n] 3)) cJ 3 #[n]:=
         ⟨e2.alloc _,cd.aj (NC.alloc _),ND⟩
        clear cd c8 f1 o1 e1 e2 f2;revert F;generalize cJ.heap.size=br;generalize wr.heap.size=fk;intro F;exact key fk br cu cS _ F
       ·
        refine ep ?_;generalize hV:World.alloc _ _=eN;have e2:=aX hV;have cl:an eN bg 3 #[n]:=hV▸ND;have aZ:=tG (cN.ak λb O=>(e1.trans e2).block b (j.o b O) λh=>h);clear hV f2;have dJ:wr<bg.heap.size:=(c8.lt (g:=wr.heap.size) rfl).2;refine aq ?_;refine aD rfl (λK hK=>?_) rfl;rw[if_pos (by rfl)];refine jG cF (.tmp 24) (.tmp 27) (by rfl) (c8.aj e2) (m5 (l.take k)) (by simp;omega) aZ (λh=>by cases h) (by rfl) (by rfl) ad ad (by rw[dy];exact(e1.trans e2).size) ?_;intro cu cS cJ cd f1 o1 c1;refine dB hK (f1.mono λb O=>ad) ?_;clear hK K;have e3:Ext wr cJ:=Fr.low (M:=λb=>wr.heap.size<=b) (((e1.trans e2).mono λ_ h=>h.elim).trans (f1.mono λb O=>ad)) λ_ h=>h;have F:Ext wr cJ/\Gr (λ_=>False) cV 3 1 cJ cu k cS ((l.take k).map D.i)/\an cJ bg 3 #[n]:=⟨e3,cd,cl.on f1 ad⟩
        clear cd c8 f1 o1 e1 e2 e3 aZ cl dJ;revert F;generalize bg.heap.size=br;generalize wr.heap.size=fk;intro F;exact key fk br cu cS _ F
      ·
       refine ep ?_;generalize hV:World.drew (World.alloc _ _)=bg;have e1:=hy hV;have cl:an bg wr 3 #[n]:=hV▸ND;clear hV;refine aq ?_;refine ep ?_;generalize hV:World.alloc _ _=eN;have e2:=aX hV;have c8:Gr (λ_=>False) bg 3 1 eN (some ⟨bg,0,none⟩) 0 0 []:=hV▸Gr.lit (w:=bg) (n:=0) (l:=[]) rfl (by rfl) ad (by simp only[D.aQ]);have dl:=cl.aj e2;have aZ:=tG (cN.ak λb O=>(e1.trans e2).block b (j.o b O) λh=>h);have dJ:wr<bg.heap.size:=cl.lt;clear hV cl;refine aq ?_;refine aD rfl (λK hK=>?_) rfl;rw[if_pos (by rfl)];refine jG cF (.tmp 24) (.tmp 27) (by rfl) c8 (m5 (l.take k)) (by simp;omega) aZ (λh=>by cases h) (by rfl) (by rfl) ad ad e2.size ?_;intro cu cS cJ cd f1 o1 c1;refine dB hK (f1.mono λb O=>ad) ?_;clear hK K;have e3:Ext wr cJ:=Fr.low (M:=λb=>wr.heap.size<=b) (((e1.trans e2).mono λ_ h=>h.elim).trans (f1.mono λb O=>ad)) λ_ h=>h;have F:Ext wr cJ/\Gr (λ_=>False) cV 3 1 cJ cu k cS ((l.take k).map D.i)/\an cJ wr 3 #[n]:=⟨e3,cd.base ad,dl.on f1 ad⟩
       clear cd c8 f1 o1 e1 e2 e3 aZ dl dJ;revert F;generalize bg.heap.size=fk;generalize wr.heap.size=br;intro F;exact key fk br cu cS _ F
     ·
      rintro fk br cu cS gL ⟨b3,c6,cl⟩;have fh:=b3.size;refine aq ?_;refine bP rfl (λK hK=>?_) rfl;rw[if_pos (by rfl)];refine fq cF (.tmp 28) (.tmp 30) (by rfl) c6 cl (show (D.i n).rep gL _ _ from by simp only[D.rep]) (by rfl) (by rfl) (by rfl) ad ad ad ?_;intro v H gP ff f5 gH gr;have co:Ext wr gP:=Fr.low (M:=λb=>wr.heap.size<=b) ((b3.mono λ_ h=>h.elim).trans (f5.mono λb O=>by have:=(c6.lt O).1;omega)) λ_ h=>h;clear c6 cl b3 fh f5 gH gr;have dT:=co.size;refine dY hK ?_;clear hK K;refine aq ?_;refine bP rfl (λK hK=>?_) rfl;rw[if_pos (by rfl)];have s:∀d∈(l.drop k).map D.i,d.sz=1:=λd hd=>by obtain⟨x,_,rfl⟩:=Ns.1 hd;rfl
      refine Gn (k:=(l.drop k).map D.i) (A2:=A2) cF (.tmp 31) (.tmp 34) (by rfl) (ff.mono (Q:=λb=>P b) λb _ h=>h.elim) ?_ s (by rfl) (by rfl) ad ad ad ?_
      .exact((S.ak λb O=>co.block b (j.o b O) λh=>h).mono λb O=>⟨O,by have:=j.o b O;omega,λh=>by have:=(ff.lt h).1;have:=j.o b O;omega⟩)
      intro de bS gU t f6 o6 r;have bx:Ext wr gU:=Fr.low (M:=λb=>wr.heap.size<=b) ((co.mono λ_ h=>h.elim).trans (f6.mono λb O=>by have:=(ff.lt O).1;omega)) λ_ h=>h;have iq:k+1+(ln - k)=ln+1:=ad;simp only[iq] at t r ⊢;refine dY hK ?_;clear hK K;refine tf ?_;refine cj ?_;clear ff f6 o6 co dT;have bZ:=ay t r bx;clear t r bx;go_wp2_with(fail);go_ret;obtain⟨t,r,bx⟩:=bZ.o;have U:=bk.size;have hS:=t.sl (Q:=λb=>P b\/fresh w gU b) (λb _ h=>.inl h) (λb ac az=>.inr ⟨ad,ac⟩);have am:Sl gU (λb=>P b\/fresh w gU b) de (ln+1) ((l.take k++[n]++l.drop k).map .i):=by simpa only[Na,M7,Nr] using hS
      have cK:=bk.trans bx
      first
       | exact⟨de,ln+1,bS,rfl,ad,ad,r,⟨l.take k++[n]++l.drop k,am⟩,cK⟩
       | exact⟨de,ln+1,bS,l.take k++[n]++l.drop k,rfl,ad,ad,r,am,cK⟩
theorem Jb:cq prog 57 163 (.agg #[(0:Int),()]) 2 32:=cq.mk' Tryz.underlying57 (by kernel_rfl) rfl ad
theorem Jf:cq prog 58 22 (.slice none 0 0) 1 24:=cq.mk' Tryz.underlying58 (by kernel_rfl) rfl ad
theorem ju{w ab:World}{B:Nat}{e:TypeId}{v:Value}{n:Nat}(h:w.ownsRow B e z v n xs)(aj:∀b,v.ownBlock=some b->ab.heap[b]?=w.heap[b]?):ab.ownsRow B e z v n xs:=by
 refine⟨h.1,?_⟩;rcases h.2 with aV|⟨g,cap,cur,bK,j,a4,rest⟩
 .exact .inl aV
 .exact .inr ⟨g,cap,cur,bK,j,(aj g (by rw[bK];rfl)).trans a4,rest⟩
structure hZ(u:aw)(g B:Nat)(K:Nat->Prop)(w:World)(IA:NH)(n ic:Nat)(S:NH)(cB bQ:Nat)(cr:NH)(cI rc:Nat)(L:List ie)(cx:List Int):Prop where
 blk:an w g 60 #[.slice IA n ic,.slice S cB bQ,.slice cr cI rc]
 ins:Gr (λb=>b≠g/\(Value.slice S cB bQ).ownBlock≠some b/\¬K b) B 163 2 w IA n ic (L.map fM)
 ok:∀x∈L,mw u x
 Jh:∃xs,w.ownsRow B 22 1 (.slice S cB bQ) cB xs
 JJ:Sl w (λb=>b<w.heap.size/\b≠g/\(Value.slice IA n ic).ownBlock≠some b/\(Value.slice S cB bQ).ownBlock≠some b/\¬K b) cr cI (cx.map .i)
 xK:0<cI
 z4:cI<=rc
 ig:∀b,(Value.slice IA n ic).ownBlock=some b->b≠g/\(Value.slice S cB bQ).ownBlock≠some b/\¬K b
 cg:∀b,(Value.slice S cB bQ).ownBlock=some b->b≠g/\¬K b
 kg:¬K g
 kl:∀b,K b->b<w.heap.size
section
variable {u:aw} {g B:Nat} {K:Nat->Prop} {w ab:World} {IA S cr E Y c:NH} {n ic cB bQ cI rc cm ao a d:Nat} {L:List ie} {cx f:List Int}
theorem hZ.cl(h:hZ u g B K w IA n ic S cB bQ cr cI rc L cx):∀b,(Value.slice S cB bQ).ownBlock=some b->B<=b/\b<w.heap.size:=λb O=>by
 obtain⟨xs,hx⟩:=h.Jh;exact hx.lt b O
theorem hZ.on(h:hZ u g B K w IA n ic S cB bQ cr cI rc L cx)(O:Fr K w ab):hZ u g B K ab IA n ic S cB bQ cr cI rc L cx:=by
 refine⟨h.blk.on O h.kg,h.ins.dm O.size λb ap hp=>O.block b ap ?_,h.ok,?_,(h.JJ.ak λb hp=>O.block b hp.1 hp.2.2.2.2).mono λb hp=>⟨M0 hp.1 O.size,hp.2⟩,h.xK,h.z4,h.ig,h.cg,h.kg,λb aj=>M0 (h.kl b aj) O.size⟩
 .rcases hp with hp|hp
  .exact hp.2.2
  .exact(h.ig b hp).2.2
 .obtain⟨xs,hx⟩:=h.Jh;exact⟨xs,ju hx λb hp=>O.block b (hx.lt b hp).2 (h.cg b hp).2⟩
theorem hZ.apart(h:hZ u g B K w IA n ic S cB bQ cr cI rc L cx)(O:Ext w ab)(aj:w.heap.size<=k)(cK:k<ab.heap.size):hZ u g B (λb=>b=k) ab IA n ic S cB bQ cr cI rc L cx:=by
 have ac:=h.on (O.mono λ_ h=>h.elim);have r:=h.blk.lt;refine⟨ac.blk,(h.ins.mono λb ap hp=>⟨hp.1,hp.2.1,ad⟩).aj O,h.ok,ac.Jh,
  (h.JJ.ak λb hp=>O.block b hp.1 λh=>h).mono λb hp=>⟨M0 hp.1 O.size,hp.2.1,hp.2.2.1,hp.2.2.2.1,by have:=hp.1;omega⟩,
  h.xK,h.z4,λb hp=>⟨(h.ig b hp).1,(h.ig b hp).2.1,?_⟩,λb hp=>⟨(h.cg b hp).1,?_⟩,ad,λb O=>ad⟩
 .have:=(h.ins.lt hp).2;omega
 .have:=(h.cl b hp).2;omega
theorem hZ.free(h:hZ u g B K w IA n ic S cB bQ cr cI rc L cx):hZ u g B (λ_=>False) w IA n ic S cB bQ cr cI rc L cx:=
 ⟨h.blk,h.ins.mono λb _ hp=>⟨hp.1,hp.2.1,λh=>h⟩,h.ok,h.Jh,h.JJ.mono λb hp=>⟨hp.1,hp.2.1,hp.2.2.1,hp.2.2.2.1,λh=>h⟩,h.xK,h.z4,λb hp=>⟨(h.ig b hp).1,(h.ig b hp).2.1,λh=>h⟩,λb hp=>⟨(h.cg b hp).1,λh=>h⟩,λh=>h,λ_ h=>h.elim⟩
theorem hZ.Lb(h:hZ u g B K w IA n ic S cB bQ cr cI rc L cx){x:ie}(hx:mw u x)
  (aR:Gr (λb=>b≠g/\(Value.slice S cB bQ).ownBlock≠some b/\¬K b) B 163 2 ab E (n+1) cm (L.map fM++[fM x])) (J:Fr (λb=>(Value.slice IA n ic).ownBlock=some b) w ab) (bD:dz w IA n ic E (n+1) cm) :
  hZ u g B K (ab.setCell ⟨g,0,none⟩ (.slice E (n+1) cm)) E (n+1) cm S cB bQ cr cI rc (L++[x]) cx:=by
 have r:=h.blk.lt;have hs:=J.size;have dG:∀b,(Value.slice E (n+1) cm).ownBlock=some b->b≠g/\(Value.slice S cB bQ).ownBlock≠some b/\¬K b:=λb hp=>by
  rcases bD b hp with ac|ac
  .exact h.ig b ac
  .exact⟨ad,λhc=>by have:=(h.cl b hc).2;omega,λaj=>by have:=h.kl b aj;omega⟩
 have bR:Fr (λb=>b=g) ab (ab.setCell ⟨g,0,none⟩ (.slice E (n+1) cm)):=(Fr.refl (λb=>b=g) ab).setCell (.inl rfl) _;refine⟨(h.blk.on J λO=>(h.ig g O).1 rfl).aK 0 _,?_,?_,?_,?_,h.xK,h.z4,dG,h.cg,h.kg,λb aj=>by have:=h.kl b aj;simp;omega⟩
 .rw[Na,M7,Nr];exact aR.dm bR.size λb ap hp=>bR.block b ap λO=>by
   subst O;rcases hp with hp|hp
   .exact hp.1 rfl
   .exact(dG b hp).1 rfl
 .intro y bb;rcases Nc.1 bb with bb|bb
  .exact h.ok y bb
  .simp at bb;subst bb;exact hx
 .obtain⟨xs,hx⟩:=h.Jh;exact⟨xs,ju hx λb hp=>(bR.block b (by have:=(hx.lt b hp).2;omega) (h.cg b hp).1).trans (J.block b (hx.lt b hp).2 λO=>(h.ig b O).2.1 hp)⟩
 .refine(h.JJ.ak λb hp=>(bR.block b (ax hp.1) hp.2.1).trans (J.block b hp.1 hp.2.2.1)).mono λb hp=>⟨by have:=hp.1;simp;omega,hp.2.1,λO=>?_,hp.2.2.2⟩
  rcases bD b O with ac|ac
  .exact hp.2.2.1 ac
  .have:=hp.1;omega
theorem hZ.La(h:hZ u g B K w IA n ic S cB bQ cr cI rc L cx)(aR:ab.ownsRow B 22 1 (.slice Y (cB+1) ao) (cB+1) xs)(J:Fr (λb=>(Value.slice S cB bQ).ownBlock=some b) w ab)(bD:dz w S cB bQ Y (cB+1) ao):
  hZ u g B K (ab.setCell ⟨g,1,none⟩ (.slice Y (cB+1) ao)) IA n ic Y (cB+1) ao cr cI rc L cx:=by
 have r:=h.blk.lt;have hs:=J.size;have e:∀b,(Value.slice Y (cB+1) ao).ownBlock=some b->b≠g/\¬K b:=λb hp=>by
  rcases bD b hp with ac|ac
  .exact h.cg b ac
  .exact⟨ad,λaj=>by have:=h.kl b aj;omega⟩
 have bR:Fr (λb=>b=g) ab (ab.setCell ⟨g,1,none⟩ (.slice Y (cB+1) ao)):=(Fr.refl (λb=>b=g) ab).setCell (.inl rfl) _;refine⟨(h.blk.on J λO=>(h.cg g O).1 rfl).aK 1 _,?_,h.ok,?_,?_,h.xK,h.z4,λb hp=>⟨(h.ig b hp).1,λO=>?_,(h.ig b hp).2.2⟩,e,h.kg,λb aj=>by have:=h.kl b aj;simp;omega⟩
 .have ac:Gr (λb=>b≠g/\(Value.slice Y (cB+1) ao).ownBlock≠some b/\¬K b/\(Value.slice S cB bQ).ownBlock≠some b) B 163 2 w IA n ic (L.map fM):=h.ins.mono λb ap hp=>⟨hp.1,λO=>by
   rcases bD b O with ac|ac
   .exact hp.2.1 ac
   .omega,hp.2.2,hp.2.1⟩
  have az:=ac.dm (ab:=ab.setCell ⟨g,1,none⟩ (.slice Y (cB+1) ao)) (by simp;omega) λb ap hp=>(bR.block b ad (by
    rcases hp with hp|hp
    .exact hp.1
    .exact(h.ig b hp).1)).trans (J.block b ap (by
    rcases hp with hp|hp
    .exact hp.2.2.2
    .exact(h.ig b hp).2.1))
  exact az.mono λb _ hp=>⟨hp.1,hp.2.1,hp.2.2.1⟩
 .exact⟨xs,ju aR λb hp=>bR.block b (aR.lt b hp).2 (e b hp).1⟩
 .refine(h.JJ.ak λb hp=>(bR.block b (ax hp.1) hp.2.1).trans (J.block b hp.1 hp.2.2.2.1)).mono λb hp=>⟨by have:=hp.1;simp;omega,hp.2.1,hp.2.2.1,λO=>?_,hp.2.2.2.2⟩
  rcases bD b O with ac|ac
  .exact hp.2.2.2.1 ac
  .have:=hp.1;omega
 .rcases bD b O with ac|ac
  .exact(h.ig b hp).2.1 ac
  .have:=(h.ins.lt hp).2;omega
theorem hZ.LI(h:hZ u g B K w IA n ic S cB bQ cr cI rc L cx)(bh:P=λb=>b<w.heap.size/\b≠g/\(Value.slice IA n ic).ownBlock≠some b/\(Value.slice S cB bQ).ownBlock≠some b/\¬K b)
  (ba:Sl ab (λb=>P b\/fresh w ab b) c a (f.map .i)) (aF:Ext w ab) (h0:0<a) (hc:a<=d) :
  hZ u g B K (ab.setCell ⟨g,2,none⟩ (.slice c a d)) IA n ic S cB bQ c a d L f:=by
 subst bh;have r:=h.blk.lt;have hs:=aF.size;have ac:=h.on (aF.mono λ_ h=>h.elim);have bR:Fr (λb=>b=g) ab (ab.setCell ⟨g,2,none⟩ (.slice c a d)):=(Fr.refl (λb=>b=g) ab).setCell (.inl rfl) _;refine⟨ac.blk.aK 2 _,ac.ins.dm bR.size λb ap hp=>bR.block b ap ?_,h.ok,?_,?_,h0,hc,h.ig,h.cg,h.kg,λb aj=>by have:=h.kl b aj;simp;omega⟩
 .rcases hp with hp|hp
  .exact hp.1
  .exact(h.ig b hp).1
 .obtain⟨xs,hx⟩:=ac.Jh;exact⟨xs,ju hx λb hp=>bR.block b (hx.lt b hp).2 (h.cg b hp).1⟩
 .have bv:∀b,((b<w.heap.size/\b≠g/\(Value.slice IA n ic).ownBlock≠some b/\(Value.slice S cB bQ).ownBlock≠some b/\¬K b)\/fresh w ab b)->(b<ab.heap.size/\b≠g/\(Value.slice IA n ic).ownBlock≠some b/\(Value.slice S cB bQ).ownBlock≠some b/\¬K b):=λb hp=>by
   rcases hp with hp|hp
   .exact⟨by have:=hp.1;omega,hp.2⟩
   .have ac:=hp.1;exact⟨hp.2,ad,λO=>by have:=(h.ins.lt O).2;omega,λO=>by have:=(h.cl b O).2;omega,λaj=>by have:=h.kl b aj;omega⟩
  exact((ba.mono bv).ak λb hp=>bR.block b hp.1 hp.2.1).mono λb hp=>⟨by have:=hp.1;simp;omega,hp.2⟩
end
namespace Eh
theorem c4(h:p:=by
 generalize hw:World.setCell _ _ _=wf;have ag:=bZ.2;rw[hw] at ag;have bB:Fr (λb=>b=w.heap.size+1+1+1+1) Z wf:=(bZ.1.mono λ_ h=>h.elim).trans (by rw[<-hw];exact(Fr.refl (λb=>b=w.heap.size+1+1+1+1) hT).setCell (.inl rfl) _);have ez:¬dx=w+1+1+1+1:=λh=>ag.kg h.symm;have a3:=cQ (bj.1.eW (bB.below bj.1.size λk aj h=>ad)) (bj.2.1.on bB ad) (bj.2.2.1.on bB ad) (bj.2.2.2.1.on bB ez) ag;clear hw ag bB ez bZ bs am aK;go_wp2_with(fail);go_roundw
 case rel=>exact⟨ai+1,aE,eq,bk,c7,eU,c9,eu,eT,_,by go_num,ad,ad,ad,ey,d5.o,by simp;omega,a3.o⟩
 case measure=>exact aH
 ):p:=h
theorem fC(h:p:=by
 refine tf ?_;refine cj ?_;generalize hX:World.setCell _ _ _=X;obtain⟨bE,bt,ct⟩:=eg (M:=λ_=>False) [.int .i64 y.proc,.slice c8 da db] (by rfl) bK cu fg hX;have ea:Sl X (av X) c8 da (y.az.map .i):=(cX.ak λb O=>ct.block b O.2.1 O.2.2).mono λb O=>M0 O.2.1 ct.size;have d9:Sl X (λb=>wr.heap.size<=b/\b<X.heap.size) c8 da (y.az.map .i):=(cX.ak λb O=>ct.block b O.2.1 O.2.2).mono λb O=>⟨O.1,M0 O.2.1 ct.size⟩
 have aP:=cQ (bH.1.trans bt) (bH.2.1.aj bt) (bH.2.2.1.aj bt) (bH.2.2.2.1.aj bt) (bH.2.2.2.2.on (bt.mono λ_ h=>h.elim));have dU:=ae bE;have de:=ay ea d9 bt;clear hX bE ct bt ea d9 cX bK cu b0 a8 bw;have b6:cs[ai]?=some (cs[ai]'ad):=Array.getElem?_eq_getElem ad;have eL:=ae b6
 cases ok with
 | false=>
  obtain⟨cZ,ej,ek⟩:=aP.2.2.2.1.two;go_wp2_with(fail);generalize cA:World.setCell _ _ _=Z;have a4:=cP cA;have bm:an Z dx 3 (cs.setIfInBounds ai (.int .i64 (-1))):=cA▸aP.2.2.2.1.aK ai _;have d1:w<=dx:=dt.1;have bj:=cQ (aP.1.eW (a4.below aP.1.size λk aj h=>ad)) (aP.2.1.on a4 dt.2.1) (aP.2.2.1.on a4 dt.2.2) bm (aP.2.2.2.2.on a4);clear cA a4 bm cZ ej ek;go_roundw
  case rel=>exact⟨ai+1,some ⟨dk,gv,none⟩,m,dh,bI,bU,bx,a6,dw,_,by go_num,ad,ad,ad,ad,dV.o,by simp;omega,bj.o⟩
  case measure=>exact aH
 | true=>
  have eD:=ca rfl;have eN:=ae eD;clear ca eD b6;obtain⟨bs,am,aK⟩:=aP.2.2.2.2.blk.two;obtain⟨b0,a8,bw⟩:=dU.two;go_wp2_with(fail);have cC:∀z∈a6,z.az.length<=1000000:=λz aI=>by
   obtain⟨q,_,bv,hl⟩:=aP.2.2.2.2.ok z aI;have:=(cz.procs q (M4 bv)).az.2;omega
  have eM:=ae cC;clear cC;refine(qv _ m dh _ i bQ bI bU bx a6 y c8 da db X (aP.2.2.2.2.ins.sl (λb h _=>h) (λb h _=>h)) de.1 ad eM.o).mono ?_;rintro e cV ⟨r,rfl,cS,df,bV⟩;have aT:=cQ (aP.1.trans bV) (aP.2.1.aj bV) (aP.2.2.1.aj bV) (aP.2.2.2.1.aj bV) (aP.2.2.2.2.on (bV.mono λ_ h=>h.elim));have cq:=ae (dU.aj bV);have e3:=(de.2.2.trans bV).size;have cE:=ah (de.1.on (Fr.ext bV)) ((de.2.1.ak λb O=>bV.block b O.2 λh=>h).mono λb O=>(⟨O.1,M0 O.2 bV.size⟩:wr.heap.size<=b/\b<cV.heap.size));clear aP dU de bV bs am aK b0 a8 bw cS df;obtain⟨bs,am,aK⟩:=aT.2.2.2.2.blk.two;obtain⟨b0,a8,bw⟩:=cq.two;rcases Int.lt_or_le r 0 with ba|ba
  have eS:decide (r<0)=true:=by simpa using ba
  clear ba;have du:=bH.2.2.2.2;have cH:=du.blk.lt;have hD:(fM y).rep cV (lD (λb=>b≠w.heap.size+1+1+1+1/\(Value.slice S i bQ).ownBlock≠some b/\¬b=dx) cV (.slice (some ⟨dk,gv,none⟩) m dh)) [.int .i64 y.proc,.slice c8 da db]:=
   kV.2 ⟨c8,db,da,rfl,c5,cE.2.mono λb O=>⟨⟨by have:=O.1;omega,λh=>by have:=(du.cl b h).2;have:=O.1;omega,λh=>by have:=du.kl b h;have:=O.1;omega⟩,O.2,λh=>by have:=(du.ins.lt h).2;have:=O.1;omega⟩⟩
  have dv:∀b,(Value.slice (some ⟨dk,gv,none⟩) m dh).ownBlock=some b->b<wr.heap.size:=λb O=>(du.ins.lt O).2;obtain⟨dS,et⟩:=aJ hD dv;have ax:w+1+1<=cV.heap.size:=ad;clear du cH hD dv;go_upto_region 19 with(at_builtin;refine bJ Jb rfl (.tmp 77) (.tmp 79) rfl aT.2.2.2.2.ins dS.o rfl rfl rfl ad ad ax ?_;intro aE bk cJ ef cM ei eR;have bi:=ay ef cM ei;have cy:=aT.2.2.2.2.blk.on cM (λO=>(aT.2.2.2.2.ig _ O).1 rfl);clear bs am aK b0 a8 bw ef cM ei eR;obtain⟨bs,am,aK⟩:=cy.two;clear cy);have az:=aT.2.2.2.2.Lb eN.o bi.1 bi.2.1 bi.2.2;have cM:=bi.2.1;have dG:=aT.2.2.2.2.ig;have bT:(a6++[y])[i]?=some ⟨ds,dq⟩:=by rw[List.getElem?_append_left (List.getElem?_eq_some_iff.1 dV.o).1];exact dV.o
  have bR:∀v,Fr (λb=>b=w.heap.size+1+1+1+1) cJ (cJ.setCell ⟨w.heap.size+1+1+1+1,0,none⟩ v):=λv=>(Fr.refl (λb=>b=w.heap.size+1+1+1+1) cJ).setCell (.inl rfl) v;have dv:=et.o;have cG:∀v,Fr (λb=>b=w.heap.size+1+1+1+1\/(Value.slice (some ⟨dk,gv,none⟩) m dh).ownBlock=some b) cV (cJ.setCell ⟨w.heap.size+1+1+1+1,0,none⟩ v):=λv=>(cM.mono λ_ h=>.inr h).trans ((bR v).mono λ_ h=>.inl h);have dr:=λb (O:(Value.slice (some ⟨dk,gv,none⟩) m dh).ownBlock=some b)=>(aT.2.2.2.2.ins.lt O).1;have cv:=bH.2.2.2.2.blk.lt;have b8:¬(dP=w.heap.size+1+1+1+1\/(Value.slice (some ⟨dk,gv,none⟩) m dh).ownBlock=some dP):=by
   rintro(h|h)
   .omega
   .have:=dv _ h;omega
  have dK:¬(w.heap.size=w.heap.size+1+1+1+1\/(Value.slice (some ⟨dk,gv,none⟩) m dh).ownBlock=some w.heap.size):=by
   rintro(h|h)
   .omega
   .have:=dr _ h;omega
  have dJ:¬(w.heap.size+1=w.heap.size+1+1+1+1\/(Value.slice (some ⟨dk,gv,none⟩) m dh).ownBlock=some (w.heap.size+1)):=by
   rintro(h|h)
   .omega
   .have:=dr _ h;omega
  have eB:¬(dx=w.heap.size+1+1+1+1\/(Value.slice (some ⟨dk,gv,none⟩) m dh).ownBlock=some dx):=by
   rintro(h|h)
   .exact aT.2.2.2.2.kg h.symm
   .exact(dG _ h).2.2 rfl
  have eC:Sl (cJ.setCell ⟨w.heap.size+1+1+1+1,0,none⟩ (.slice aE (m+1) bk)) (av (cJ.setCell ⟨w.heap.size+1+1+1+1,0,none⟩ (.slice aE (m+1) bk))) c8 da (y.az.map .i):=
   (cE.2.ak λb O=>(cG _).block b O.2 (by
    rintro(h|h)
    .have:=O.1;omega
    .have:=dv _ h;have:=O.1;omega)).mono λb O=>M0 O.2 (cG (.slice aE (m+1) bk)).size
  have bL:Ext w (cJ.setCell ⟨w.heap.size+1+1+1+1,0,none⟩ (.slice aE (m+1) bk)):=aT.1.eW ((cG _).below aT.1.size (by
   rintro k aj (h|h)
   .omega
   .have:=dr _ h;omega))
  have aW:=Bd (show m+1<=st+ai+1+1 by omega) (show i<m+1 by omega) bT bL (aT.2.1.on (cG (.slice aE (m+1) bk)) dK) (aT.2.2.1.on (cG (.slice aE (m+1) bk)) dJ) (aT.2.2.2.1.on (cG (.slice aE (m+1) bk)) eB) az (cq.on (cG (.slice aE (m+1) bk)) b8) eC;clear bT bR dv cG dr cv b8 dK dJ eB eC bL az cM dG aT cq cE bi et dS bs am aK ax;revert aW;generalize World.setCell _ _ _=gP;generalize m+1=eq;generalize a6++[y]=eu;intro aW
  rotate_left
  have eS:decide (r<0)=false:=by simpa using ba
  clear ba;go_upto_region 19 with(fail);have aW:=Bd (show m<=st+ai+1+1 by omega) (show i<m by omega) dV.o aT.1 aT.2.1 aT.2.2.1 aT.2.2.2.1 aT.2.2.2.2 cq.o cE.1;clear aT cq cE bs am aK b0 a8 bw;revert aW;generalize cV=gP;generalize dh=bk;generalize m=eq;generalize a6=eu;generalize (some ⟨dk,gv,none⟩:NH)=aE;intro aW
  rotate_left
  all_goals
   obtain⟨e7,ey,bT,bL,dZ,dW,dE,az,ci,ed⟩:=aW.o;obtain⟨bs,am,aK⟩:=az.blk.two;obtain⟨b0,a8,bw⟩:=ci.two;clear bT bL dZ dW dE az ci ed;go_wp2_with(fail);have cC:∀z∈eu,z.az.length<=1000000:=λz aI=>by
    obtain⟨q,_,bv,hl⟩:=aW.2.2.2.2.2.2.2.1.ok z aI;have:=(cz.procs q (M4 bv)).az.2;omega
   refine(qv aE eq bk S i bQ bI bU bx eu y c8 da db gP (aW.2.2.2.2.2.2.2.1.ins.sl (λb h _=>h) (λb h _=>h)) aW.2.2.2.2.2.2.2.2.2 ad cC).mono ?_;rintro e gU ⟨gw,rfl,cn,bO,cK⟩;clear bs am aK b0 a8 bw cC cn bO;obtain⟨_,_,bT,bL,dZ,dW,dE,az,ci,ed⟩:=aW.o;obtain⟨cZ,ej,ek⟩:=(dE.aj cK).two;have b6:=eL.o;have b2:=dH bT (bL.trans cK) (dZ.aj cK) (dW.aj cK) (dE.aj cK) (az.on (cK.mono λ_ h=>h.elim));clear bT bL dZ dW dE az ci ed cK aW;go_upto_region 20 with(fail);generalize cA:World.setCell _ _ _=Z;have a4:=cP cA;have bm:an Z dx 3 (cs.setIfInBounds ai gw):=cA▸b2.2.2.2.2.1.aK ai _;have d1:w<=dx:=dt.1;have bd:Ext w Z:=b2.2.1.eW (a4.below b2.2.1.size λk aj h=>ad);have bj:=cQ bd (b2.2.2.1.on a4 dt.2.1) (b2.2.2.2.1.on a4 dt.2.2) bm (b2.2.2.2.2.2.on a4);have d5:=ae b2.1;clear cA a4 bm cZ ej ek d1 b2 b6;obtain⟨bc,bF,c,cells,eo,en,es,EA,em,ec,QA,qm,qc,fc,fe,fa,KA,el,e9,eQ,c6,hc,bX,bg⟩:=dy.Fe bo;have al:=bX.cells;subst al eQ;have c0:=(bd.uk.1 bc (bF+ai*12+0) c6).trans (bg 0 _ rfl);simp only[Nd] at c0;clear bg bX hc bd;by_cases bD:c.op=3
   .rw[bD] at c0;clear bD;have b6:Z.cell? ⟨dx,ai,none⟩=some (.int .i64 gw):=by
     rw[bj.2.2.2.1.cell,Array.getElem?_setIfInBounds_self_of_lt ad]
    obtain⟨gs,g5,eK,_⟩:=bj.2.2.2.2.JJ.some_ bj.2.2.2.2.xK;subst eK;obtain⟨bs,am,aK⟩:=bj.2.2.2.2.blk.two;have eZ:=bj.2.2.2.1.lt;have ex:bc<Z:=M0 c6 bj.1.size;go_upto_region 21 with(fail);refine eJ (λ_=>False) [(0,3),(1,0),(2,3),(3,3),(4,3),(5,0),(6,2),(7,3),(8,2)] ?_;refine pf ?_;refine ph ?_
    iterate 3 refine pf ?_
    refine ph ?_;refine au rfl (λK hK=>?_);go_simp;refine(Gl _ gs g5 bU bx dw gw Z.drew (bj.2.2.2.2.on NC.drew).JJ (λb O=>O.1) ad bj.2.2.2.2.z4 bj.2.2.2.2.xK).mono ?_;rintro e hT ⟨c7,eU,c9,eT,rfl,bn,cn,d3,bS,ce⟩;have dD:Ext Z hT:=Fr.aF ce;have gx:=bj.2.2.2.2.blk.aj dD;clear bs am aK c0 b6;obtain⟨bs,am,aK⟩:=gx.two;have ag:=hZ.LI (bj.2.2.2.2.on NC.drew) rfl bS ce bn d3;have bZ:=ah dD ag;clear bS ce dD gx ag;exact nH
   .have cc:(c.op == 3)=false:=by simpa using bD
    clear bD;have ex:bc<Z:=M0 c6 bj.1.size;go_wp2_with(fail);go_roundw
    case rel=>exact⟨ai+1,aE,eq,bk,bI,bU,bx,eu,dw,_,by go_num,ad,ad,ad,ey,d5.o,by simp;omega,bj.o⟩
    case measure=>exact aH
 ):p:=h
end Eh
open Eh in
theorem zu(u:aw)(hu:cT u)(GA:NH)(gn gc:Nat)(MA:NH)(mn mc:Nat)(PA:NH)(pn pc:Nat)(w:World)(hU:h3 w (av w) u GA gn MA mn PA pn) :
  Calls prog 35 #[.agg #[.slice GA gn gc,.slice MA mn mc,.slice PA pn pc,.int .i64 u.main]] w
   λe ab=>∃(eI:NH) (n0 c0:Nat) (cR:NH) (n1 c1:Nat) (A2:NH) (n2 c2:Nat) (k:Int),e=.returned (.tuple #[.agg #[.slice eI n0 c0,.slice cR n1 c1,.slice A2 n2 c2],k])/\Ext w ab:=by
 have eA:u.procs.length=pn:=by rw[<-hU.p.1,M5]
 have gM:pn<=16:=by have:=hu.IJ;omega
 obtain⟨cz,dA⟩:=aJ hu hU;obtain⟨mp,b4,cw,_,bN⟩:=hu.main;have dX:=ae (show mw u ⟨u.main,[]⟩ from ⟨mp,b4,cw,by simp[bN]⟩);clear hU hu b4 cw bN;go_enter func35,ntmps35;go_wp2_with(fail);generalize be:World.alloc _ _=W;have aF:Ext w W:=be▸((((NC.alloc _).alloc _).alloc _).alloc _).alloc _;have bW:an W w 26 #[.slice GA gn gc,.slice MA mn mc,.slice PA pn pc,.int .i64 u.main]:=be▸((((ND).alloc _).alloc _).alloc _).alloc _;have bb:an W (w.heap.size+1) 60 #[(),(),()]:=be▸(((an.gF _ _ _ (by simp)).alloc _).alloc _).alloc _;have N:hZ u (w.heap.size+1+1+1+1) (w.heap.size+1+1) (λ_=>False) W (some ⟨w.heap.size+1+1,0,none⟩) 1 1 none 0 0 (some ⟨w.heap.size+1+1+1,0,none⟩) 1 1 [⟨u.main,[]⟩] [0]:=by
  have cb:an W (w.heap.size+1+1+1) 3 #[(0:Int)]:=be▸(an.gF _ _ _ (by simp)).alloc _;have hl:=cb.lt;refine⟨by rw[<-be];exact an.gF _ _ _ (by simp),?_,?_,⟨[],⟨by simp,.inl ⟨rfl,rfl⟩⟩⟩,?_,ad,MU _,λb O=>?_,λb O=>(by cases O),λh=>h,λ_ h=>h.elim⟩
  .have ac:=Gr.lit (P:=λb=>b≠w.heap.size+1+1+1+1/\(Value.slice none 0 0).ownBlock≠some b/\¬False) (w:=(w.alloc (.cells #[.slice GA gn gc,.slice MA mn mc,.slice PA pn pc,.int .i64 u.main] 26)).alloc (.cells #[(),(),()] 60))
    (e:=163) (z:=2) (n:=1) (cs:=#[.int .i64 u.main,.slice none 0 0]) (l:=[fM ⟨u.main,[]⟩]) rfl rfl ad (D.bx.2 (kV.2 ⟨none,0,0,rfl,MU _,Sl.bY _⟩))
   simp only[World.size_alloc] at ac;rw[<-be];exact ac.aj ((NC.alloc _).alloc _)
  .intro x hx;simp only[Nv] at hx;subst hx;exact dX.o
  .exact Sl.nY cb (D.bx.2 (by simp only[D.rep])) ⟨hl,ad,by simp[Value.ownBlock],by simp[Value.ownBlock],λh=>h⟩ rfl
  .simp only[Value.ownBlock,Nw] at O;refine⟨ad,by simp[Value.ownBlock],λh=>h⟩
 have dc:=br aF bW bb N;clear be aF bW bb N dX;go_loopw [5,6] (λsv b5 wr=>∃(i st:Nat) (IA:NH) (n ic:Nat) (S:NH) (bQ:Nat) (cr:NH) (cI rc:Nat) (L:List ie) (cx:List Int),sv=.int .i64 st/\b5=.int .i64 i/\i<=256/\st<=8000/\n<=st+1/\cI<=st+1/\i<=n/\
  Ext w wr/\an wr w 26 #[.slice GA gn gc,.slice MA mn mc,.slice PA pn pc,.int .i64 u.main]/\an wr (w.heap.size+1) 60 #[(),(),()]/\hZ u (w.heap.size+1+1+1+1) (w.heap.size+1+1) (λ_=>False) wr IA n ic S i bQ cr cI rc L cx) (λ_ b5 _=>257 - (intOf b5).toNat)
 case atStart=>exact⟨0,0,_,_,_,_,_,_,_,_,_,_,rfl,rfl,ad,ad,ad,ad,ad,dc.1,dc.2.1,dc.2.2.1,dc.2.2.2⟩
 case round=>
  obtain⟨i,st,IA,n,ic,S,bQ,cr,cI,rc,L,cx,rfl,rfl,aN,cf,hn,d2,aB,aF,bW,bb,N⟩:=hrel;clear dc;have bH:=br aF bW bb N;obtain⟨a0,ak,af⟩:=bW.two;obtain⟨bs,am,aK⟩:=N.blk.two;by_cases ap:i<n
  .have cl:(0:Int)<=(i:Int):=ad;have cO:(i:Int)<(n:Int):=ad;have dF:Sl wr (av wr) IA n (L.map fM):=N.ins.sl (λb h _=>h) (λb h _=>h);obtain⟨b,o,x,cW,bh,cY,dm,ao,hx,c0,c1,aM,cm⟩:=dF.xf ap;obtain⟨p,h0,hp,aZ⟩:=N.ok x (M4 hx);obtain⟨eH,dq⟩:=x;simp only at h0 hp aZ c0 cm;obtain⟨ds,rfl⟩:=M6 h0;rw[Np] at hp;have Ao:ds<pn:=by have:=(List.getElem?_eq_some_iff.1 hp).1;omega
   have bp:(0:Int)<=(ds:Int):=ad;have dM:(ds:Int)<(pn:Int):=ad;obtain⟨pb,gR,dR,fb,cB,eE,rfl,bl,cU,p0,aV,dT,p3,p4,dd,dL⟩:=dA.proc Ao;have p4:=(aF.uk.1 pb (gR+ds*5+4) bl).trans p4;have bl:pb<wr:=M0 bl aF.size;obtain rfl:dR=p:=by rw[hp] at cU;injection cU with cU;exact cU.symm
   subst dm;have f2:dR.code.length=cB:=by rw[<-dL.1,M5]
   have bu:cB<=201:=by
    obtain⟨s,hs,hl,_⟩:=(cz.procs dR (M4 hp)).code;have:dR.code.length<=201:=by rw[hs];simp;omega
    omega
   have ck:=ay hp aZ hx;have dy:=ae dL;clear aF bW bb N dF hx hp aZ cU cm dL p0 aV dT p3 aM c1;go_upto_region 6 with(fail);refine eJ (λ_=>False) [(0,3),(1,0),(2,3),(3,0),(4,3),(5,3),(6,3),(7,0),(8,3),(9,3),(10,0),(11,3)] ?_;refine pf ?_;refine ph ?_;refine pf ?_;refine ph ?_
   iterate 3 refine pf ?_
   refine ph ?_
   iterate 2 refine pf ?_
   refine ph ?_;refine pf ?_;refine aG ?_;have ch:hZ u (w.heap.size+1+1+1+1) (w.heap.size+1+1) (λ_=>False) wr.drew (some ⟨b,o,none⟩) n ic S i bQ cr cI rc L cx:=bH.2.2.2.on NC.drew;have d7:=bH.2.2.1.drew;have d6:=bH.2.1.drew;have a7:Ext w wr.drew:=bH.1.drew;replace bH:=br a7 d6 d7 ch
   clear a0 ak af bs am aK c0 p4;clear a7 d6 d7 ch;have dp:b<wr.drew.heap.size:=ao;clear bl ao;revert bH dp;generalize wr.drew=wd;intro bH dp;obtain⟨d0,aQ,aS⟩:=bH.2.2.1.two;by_cases eV:i<256
   case neg=>
    have q1:decide ((i:Int)>=256)=true:=by simp;omega
    exact Ic
   have q1:decide ((i:Int)>=256)=false:=by simp;omega
   by_cases eO:st+cB<=8000
   case neg=>
    have cL:decide ((st:Int)+cB > 8000)=true:=by simp;omega
    exact Ic
   have cL:decide ((st:Int)+cB > 8000)=false:=by simp;omega
   have ee:=λW=>run_mk (P:=prog) cF .i64 .i64 cB ad ad W;clear d0 aQ aS;go_wp2_with(fail);clear ee;generalize hV:World.alloc _ _=V;have aC:=aX hV;have aU:=aL hV;have b3:(madeCells #[(0:Int)] cB).size=cB:=size_madeCells _ _;have cN:=dH b3 (bH.1.trans aC) (bH.2.1.aj aC) (bH.2.2.1.aj aC) aU (bH.2.2.2.apart aC (MU _) aU.lt);clear hV aC aU b3;generalize madeCells #[(0:Int)] cB=fd at cN;have dt:=ae (show w.heap.size<=wd.heap.size/\¬w=wd.heap.size/\¬w+1=wd.heap.size by
    have:=bH.2.2.1.lt;omega)
   clear bH;generalize wd.heap.size=dx at *;have e6:=ah hn d2;go_loopw [9] (λd4 dO=>∃(ai:Nat) (dl:NH) (m dh:Nat) (bI:NH) (bU bx:Nat) (a6:List ie) (dw:List Int) (cs:Array Value),d4=.int .i64 ai/\ai<=cB/\m<=st+ai+1/\bU<=st+ai+1/\i<m/\a6[i]?=some ⟨ds,dq⟩/\
    cs.size=cB/\Ext w dO/\an dO w 26 #[.slice GA gn gc,.slice MA mn mc,.slice (some ⟨pb,gR,none⟩) pn pc,.int .i64 u.main]/\an dO (w.heap.size+1) 60 #[(),(),()]/\
    an dO dx 3 cs/\hZ u (w.heap.size+1+1+1+1) (w.heap.size+1+1) (λb=>b=dx) dO dl m dh S i bQ bI bU bx a6 dw) (λd4 _=>cB - (intOf d4).toNat)
   case atStart=>exact⟨0,_,_,_,_,_,_,_,_,_,rfl,ad,ad,ad,ap,ck.2.2,cN.o⟩
   case round=>
    obtain⟨ai,dl,m,dh,bI,bU,bx,a6,dw,cs,rfl,dj,hm,cD,dI,eb,T,aF,bW,bb,aU,N⟩:=hrel;clear cN;have bH:=cQ aF bW bb aU N;obtain⟨a0,ak,af⟩:=bW.two;obtain⟨bs,am,aK⟩:=N.blk.two;by_cases bo:ai<cB
    .have e4:(ai:Int)<(cB:Int):=ad;have e0:(i:Int)<(m:Int):=ad;have dF:Sl wr (av wr) dl m (a6.map fM):=N.ins.sl (λb h _=>h) (λb h _=>h);obtain⟨dk,gv,a9,ev,eG,eF,eP,eW,U,c0,c1,e5,dN⟩:=dF.xf dI;obtain rfl:a9=⟨ds,dq⟩:=by rw[eb] at U;injection U with U;exact U.symm
     subst eP;simp only at c0 dN;obtain⟨dn,dV⟩:=aJ dN eb;clear dN U dF aF bW bb aU N eb;go_upto_region 14 with(fail);refine sK (λ_=>False) [12] (.held 0 (.free 1 (.held 2 (.free 3 (.free 4 (.held 5 (.free 6 (.pick [7,11] (λi=>bif i == 7 then .free 8 (.free 9 (.free 10 (.pick [11] (λ_=>.pick [12] (λ_=>.free 13 (.stop)))))) else .pick [7] (λ_=>.free 8 (.free 9 (.free 10 (.pick [12] (λ_=>.free 13 (.stop))))))))))))))) ?_;refine th ?_;refine tf ?_;refine th ?_
     iterate 2 refine tf ?_
     refine th ?_;refine tf ?_;have e8:∀k,k<wr.heap.size->k<wr.drew.heap.size:=λ_ h=>h;refine jf (P:=?pT) (ops:=?J1) (Q:=?J3) (R:=?J4) (tails:=?J8) (rest:=.pick [12] (λ_=>.free 13 (.stop))) (aa:=?J0)
      (C:=λ(dP:Nat) (ok:Bool) (Y:Value) eX=>Ext wr eX/\an eX dP 163 #[(0:Int),()]/\wr<=dP/\∃(y:ie) (c8:NH) (da db:Nat),Y=.agg #[.int .i64 y.proc,.slice c8 da db]/\(ok=true->mw u y)/\da<=db/\Sl eX (λb=>wr.heap.size<=b/\b<eX.heap.size/\b≠dP) c8 da (y.az.map .i)) (λkey=>?zU) ?zO
     case zU=>
      refine a2 ?_ ?_
      ·
       refine aD rfl (λK hK=>?_) rfl;go_simp;refine(qf u cz.o GA gn gc MA mn mc (some ⟨pb,gR,none⟩) pn pc ⟨ds,dq⟩ ev eG eF dR bp ck.1 ck.2.1 ai ad wr.drew (dA.on bH.1.drew) (dn.on (Fr.ext NC.drew))).mono ?_;rintro e aO ⟨ok,y,c8,da,db,rfl,ca,c5,cX,ar⟩;refine dB hK (ar) ?_;clear hK K
       iterate 3 refine tf ?_
       refine aq ?_;refine ep ?_;generalize cA:World.alloc _ _=Z;have e2:=aX cA;have cn:wr<=aO.heap.size:=ar.size;have F:Ext wr Z/\an Z aO 163 #[(0:Int),()]/\wr<=aO.heap.size/\∃(er:ie) (dC:NH) (di dQ:Nat),(Value.agg #[.int .i64 y.proc,.slice c8 da db])=.agg #[.int .i64 er.proc,.slice dC di dQ]/\(ok=true->mw u er)/\di<=dQ/\Sl Z (λb=>wr.heap.size<=b/\b<Z.heap.size/\b≠aO.heap.size) dC di (er.az.map .i):=
        ⟨(Fr.aF ar).trans e2,by rw[<-cA];exact ND,cn,y,c8,da,db,rfl,ca,c5,(cX.ak λb O=>e2.block b O.2 λh=>h).mono λb O=>⟨O.1,M0 O.2 e2.size,by have:=O.2;omega⟩⟩
       clear cA e2 cn ar cX ca c5;revert F;generalize aO.heap.size=dP;generalize (Value.agg #[.int .i64 y.proc,.slice c8 da db])=Y;intro F;exact key dP ok Y _ F
      ·
       refine ep ?_;generalize hV:World.drew (World.alloc _ _)=c3;have e1:=hy hV;have cg:=lW hV;have cn:=cg.lt;refine aq ?_;refine aD rfl (λK hK=>?_) rfl;go_simp;refine(qf u cz.o GA gn gc MA mn mc (some ⟨pb,gR,none⟩) pn pc ⟨ds,dq⟩ ev eG eF dR bp ck.1 ck.2.1 ai ad c3 (dA.on (bH.1.trans e1)) (dn.on (Fr.ext e1))).mono ?_;rintro e aO ⟨ok,y,c8,da,db,rfl,ca,c5,cX,ar⟩;refine dB hK (ar) ?_;clear hK K
       iterate 3 refine tf ?_
       have F:Ext wr aO/\an aO wr 163 #[(0:Int),()]/\wr<=wr.heap.size/\∃(er:ie) (dC:NH) (di dQ:Nat),(Value.agg #[.int .i64 y.proc,.slice c8 da db])=.agg #[.int .i64 er.proc,.slice dC di dQ]/\(ok=true->mw u er)/\di<=dQ/\Sl aO (λb=>wr.heap.size<=b/\b<aO.heap.size/\b≠wr.heap.size) dC di (er.az.map .i):=
        ⟨e1.trans ar,cg.aj ar,MU _,y,c8,da,db,rfl,ca,c5,cX.mono λb O=>⟨by have:=O.1;omega,O.2,by have:=O.1;omega⟩⟩
       clear hV e1 cg cn ar cX ca c5;revert F key;generalize (Value.agg #[.int .i64 y.proc,.slice c8 da db])=Y;intro key F;exact key wr ok Y _ F
     case zO=>
      rintro dP ok Y eX ⟨cu,bK,fg,y,c8,da,db,rfl,ca,c5,cX⟩;obtain⟨b0,a8,bw⟩:=bK.two;clear a0 ak af bs am aK c0 c1;exact fQ
    .obtain rfl:ai=cB:=ad;obtain⟨xs,d8⟩:=N.Jh;have cd:∀u∈(#[Value.slice (some ⟨dx,0,none⟩) ai ai]:Array Value).toList,u.oneCell'=true:=λu hu=>by
      simp only[Nv] at hu;subst hu;rfl
     have ax:w+1+1<=wr.heap.size:=by have:=N.blk.lt;omega
     clear aF bW bb aU N;go_wp2_with(at_builtin;refine b9 _ Jf rfl (.tmp 103) (.tmp 105) rfl (w.heap.size+1+1) _ i xs _ rfl d8 rfl rfl cd ad ad ax ?_;intro v1 aO aA aY bC;obtain⟨cp,b1,eh,eY,_⟩:=bG aA;subst eh;have bf:Fr (λb=>(Value.slice S i bQ).ownBlock=some b) wr aO:=NC.grown aY (λg aR=>.inl aR);have cg:=bH.2.2.2.2.blk.on bf (λO=>(bH.2.2.2.2.cg _ O).1 rfl);have bY:dz wr S i bQ cp (i+1) b1:=(λb O=>bC.elim (λh=>.inl (h▸O)) (λh=>.inr (by rw[h] at O;injection O with O;omega)));have b7:=ay aA bf bY;clear bs am aK aA aY bC bf bY d8 cd;obtain⟨bs,am,aK⟩:=cg.two;clear cg);generalize hw:World.setCell _ _ _=wf;have ag:=(bH.2.2.2.2.La b7.1 b7.2.1 b7.2.2).free;rw[hw] at ag;have bu:=bH.2.2.2.2.cl;have bB:Fr (λb=>b=w.heap.size+1+1+1+1\/(Value.slice S i bQ).ownBlock=some b) wr wf:=(b7.2.1.mono λ_ h=>.inr h).trans (by rw[<-hw];exact(Fr.refl (λb=>b=w.heap.size+1+1+1+1\/(Value.slice S i bQ).ownBlock=some b) aO).setCell (.inl (.inl rfl)) _);have dK:¬(w.heap.size=w.heap.size+1+1+1+1\/(Value.slice S i bQ).ownBlock=some w.heap.size):=by
      rintro(h|h)
      .omega
      .have:=(bu _ h).1;omega
     have dJ:¬(w.heap.size+1=w.heap.size+1+1+1+1\/(Value.slice S i bQ).ownBlock=some (w.heap.size+1)):=by
      rintro(h|h)
      .omega
      .have:=(bu _ h).1;omega
     have dg:Ext w wf:=bH.1.eW (bB.below bH.1.size (by
      rintro k aj (h|h)
      .omega
      .have:=(bu _ h).1;omega))
     have a3:=br dg (bH.2.1.on bB dK) (bH.2.2.1.on bB dJ) ag;clear hw ag bu bB dK dJ dg bH b7 bs am aK;go_roundw
     case rel=>exact⟨i+1,st+ai,dl,m,dh,cp,b1,bI,bU,bx,a6,dw,by go_num,by go_num,ad,ad,ad,ad,ad,a3.o⟩
     case measure=>exact aH
  .obtain rfl:i=n:=ad;clear aF bW N;obtain⟨d0,aQ,aS⟩:=bb.two;clear bb;go_wp2_with(fail);generalize co:World.setCell _ _ _=Y;obtain⟨bM,bA,bz⟩:=eg (M:=λ_=>False) [.slice IA i ic,.slice S i bQ,.slice cr cI rc] (by rfl) bH.2.2.1 (w:=w) bH.1 ad co;obtain⟨bq,a1,a5⟩:=bM.two;refine NB (v:=.tuple #[.agg #[.slice IA i ic,.slice S i bQ,.slice cr cI rc],(0:Int)]) (by simp[results,Tryz.results35,go_sem,bq]) rfl ?_;exact⟨_,_,_,_,_,_,_,_,_,_,rfl,bA⟩
end Go.Proofs.YtnigabjngpnbiabGreat

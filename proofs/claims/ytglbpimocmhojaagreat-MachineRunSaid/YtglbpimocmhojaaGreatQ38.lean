/- Part 38 of the proof. No condition of its own. -/
import Derived.Test.YtglbpimocmhojaaGreatQ31
import Derived.Test.YtglbpimocmhojaaGreatQ32
namespace Go.Proofs.YtglbpimocmhojaaGreat
open Go.RowKit Go.Proofs.Tryz
set_option maxRecDepth 1000000
set_option maxHeartbeats 25600000
set_option linter.unusedVariables false
variable{xs:List Value}{k z:Nat}{P:Nat->Prop}
theorem Sl.Ie{w:World}{b o n:Nat}{l:List D}(h:Sl w P (some ⟨b,o,none⟩) n l)(bt:∀d∈l,d.sz=z)(ap:k<=n):Sl w P (some ⟨b,o+k*z,none⟩) (n - k) (l.drop k):=by
 refine⟨by have:=h.1;simp;omega,λh0=>?_⟩;obtain⟨K,M,xs,bw,O,a5,bi⟩:=h.2 ad;injection bw with bw;injection bw with ac au;subst ac au;rw[<-List.take_append_drop k l] at a5;obtain⟨y,cd,rfl,bb,a⟩:=D.j2 a5;have ar:y.length=k*z:=by
  rw[D.hb _ _ bb,D.gT (z:=z) (λd hd=>bt d (List.mem_of_mem_take hd)),List.length_take];have:=h.1;rw[Nat.min_eq_left ad]
 refine⟨b,o+k*z,cd,rfl,O,a,λj u hu=>?_⟩;have:=bi (k*z+j) u (by rw[List.getElem?_append_right ad,ar,Nat.add_sub_cancel_left];exact hu)
 rwa [<-Nat.add_assoc] at this
theorem mD{w:World}{P:Nat->Prop}:∀l:List Int,D.aQ w P (l.map D.i) (l.map (Value.int .i64))
 | []=>by simp only[Lb,D.aQ]
 | x::l=>by simp only[KJ];exact bm.2 ⟨_,rfl,mD l⟩
theorem nU{w:World}{P:Nat->Prop}:∀(l:List Int) (xs:List Value),D.aQ w P (l.map D.i) xs->xs=l.map (Value.int .i64)
 | [],xs,h=>by simpa only[Lb,D.aQ] using h
 | x::l,xs,h=>by
  simp only[KJ] at h;obtain⟨y,rfl,au⟩:=bm.1 h;rw[nU l y au,KJ]
theorem sJ{w:World}{A:Lp}{n:Nat}{l:List Int}(h:Sl w P A n (l.map D.i)):Src w 1 A n (l.map (Value.int .i64)):=by
 obtain⟨xs,a5,hs⟩:=h.src (z:=1) (λd hd=>by obtain⟨x,_,rfl⟩:=Lc.1 hd;rfl)
 rwa [nU l xs a5] at hs
theorem Ew(P:Nat->Prop)(lb lo:Nat)(ln lc:Nat)(l:List Int)(n:Int)(w:World)(hl:Sl w P (some ⟨lb,lo,none⟩) ln (l.map .i))(aZ:∀b,P b->b<w.heap.size)(dt:ln<=1000000)(a2:ln<=lc)(h0:0<ln) :
  Calls prog 73 #[.slice (some ⟨lb,lo,none⟩) ln lc,.int .i64 n] w
   λe ab=>∃(A:Lp) (m c:Nat) (aO:List Int),e=.returned (.slice A m c)/\0<m/\m<=ln+1/\m<=c/\Sl ab (λb=>P b\/fresh w ab b) A m (aO.map .i)/\Ext w ab:=by
 have bI:l.length=ln:=by have:=hl.1;simpa using this
 obtain⟨b9,cn⟩:=aH hl aZ;clear hl aZ;go_enter func73,ntmps73;go_wp2_with(fail);refine(ye (some ⟨lb,lo,none⟩) ln lc l n w (b9.mono cn.o) ad).mono ?_;rintro e aS ⟨rfl,bS⟩;have aN:Ext w aS:=Fr.of bS;have bu:=ae aN;clear bS aN;generalize decide (n∈l)=q
 cases q with
 | true=>
  go_wp2_with(fail);go_ret
  exact⟨some ⟨lb,lo,none⟩,ln,lc,l,rfl,h0,ad,a2,(b9.ak λb O=>bu.block b (cn.o b O) λh=>h).mono λb O=>.inl O,bu.o⟩
 | false=>
  go_wp2_with(fail);go_loopw [5] (λcu wr=>∃k:Nat,k<=ln/\cu=.int .i64 k/\Ext w wr) (λi _=>ln - (intOf i).toNat)
  case atStart=>exact⟨0,KZ _,rfl,bu.o⟩
  case round=>
   obtain⟨k,ap,rfl,aw⟩:=hrel;have bq:=ae aw;have hS:Sl wr P (some ⟨lb,lo,none⟩) ln (l.map .i):=b9.ak λb O=>aw.block b (cn.o b O) λh=>h;have bz:(0:Int)<=(k:Int):=ad;clear aw;have f:(k<ln/\∃x,x<n/\wr.cell? ⟨lb,lo+k,none⟩=some (.int .i64 x))\/(k<ln/\∃x,¬x<n/\wr.cell? ⟨lb,lo+k,none⟩=some (.int .i64 x))\/¬k<ln:=by
    by_cases ak:k<ln
    .obtain⟨b,o,x,cs,bw,O,hm,a5,E,hc⟩:=Sl.g0 (enc:=D.i) (z:=1) hS (λ_=>rfl) ak;injection bw with bw;injection bw with ac au;subst ac au;have I:cs=[.int .i64 x]:=by simpa only[D.rep] using a5
     subst I;have c0:=hc 0 _ rfl;simp only[Nat.mul_one,KN] at c0;by_cases hx:x<n
     .exact .inl ⟨ak,x,hx,c0⟩
     .exact .inr (.inl ⟨ak,x,hx,c0⟩)
    .exact .inr (.inr ak)
   have bo:=ae hS;clear hS;rcases f with⟨ak,x,hx,c0⟩|f
   .have cb:(k:Int)<(ln:Int):=ad;go_wp2_with(fail);go_roundw
    case rel=>exact⟨k+1,ad,by go_num,bq.o⟩
    case measure=>exact aG
   .rcases f with⟨ak,x,hx,c0⟩|ak
    all_goals
     have cb:(k:Int)<=(ln:Int):=ad;go_upto_region 6 with(fail);have a1:k<=lc:=ad;obtain⟨cZ,dy⟩:∃N,N=wr.heap.size:=⟨_,rfl⟩
     refine qY (λb=>cZ<=b) [7,11] (.free 1 (.free 2 (.free 3 (.free 5 (.free 8 (.free 9 (.free 10 (.pick [0,6] (λi=>bif i == 0 then .pick [4,6] (λi=>bif i == 4 then .pick [6] (λ_=>.pick [7] (λ_=>.pick [11] (λ_=>.free 12 (.stop)))) else .pick [4] (λ_=>.pick [7] (λ_=>.pick [11] (λ_=>.free 12 (.stop))))) else .pick [0] (λ_=>.pick [4] (λ_=>.pick [7] (λ_=>.pick [11] (λ_=>.free 12 (.stop)))))))))))))) ?_
     iterate 7 refine tf ?_
     generalize a3:(if lc=k then (some ⟨lb,lo,none⟩:Lp) else some ⟨lb,lo+k,none⟩)=A2;have cG:Sl wr P A2 (ln - k) ((l.drop k).map .i):=by
      rw[<-a3];split
      .have:ln - k=0:=ad;rw[this,Lh ad];exact Sl.bN _
      .have:=bo.Ie (z:=1) (λd hd=>by obtain⟨x,_,rfl⟩:=Lc.1 hd;rfl) ap;rw[Nat.mul_one,<-List.map_drop] at this;exact this
     have U:Sl wr P (some ⟨lb,lo,none⟩) k ((l.take k).map .i):=by rw[List.map_take];exact bo.take ap
     obtain⟨u,c5⟩:=aH cG U;have v:∀b,P b->b<wr.heap.size:=λb O=>KE (cn.o b O) bq.size;have j:=ae v;clear a3 cG U v;refine iL (P:=?_) (ops:=?_) (Q:=?_) (R:=?_) (tails:=?_) (rest:=.pick [7] (λ_=>.pick [11] (λ_=>.free 12 (.stop)))) (aa:=?_)
      (C:=λ(_:Nat) b2 cC cV V=>Ext wr V/\Gr (λ_=>False) cZ 3 1 V cC k cV ((l.take k).map D.i)/\aq V b2 3 #[.int .i64 n]) (λkey=>?_) ?_
     rotate_left 6
     ·
      refine aY ?_ ?_
      ·
       refine dP ?_;generalize hV:World.drew (World.alloc _ _)=bG;have e1:=gG hV;have cP:Gr (λ_=>False) cZ 3 1 bG (some ⟨wr.heap.size,0,none⟩) 0 0 []:=by rw[<-hV,dy];exact(Gr.lit (w:=wr) (n:=0) (l:=[]) rfl (by rfl) ad (by simp only[D.aQ])).ai Ll.drew
       have f2:=sJ (c5.ak λb O=>e1.block b (j.o b O) λh=>h);clear hV;refine aY ?_ ?_
       ·
        refine aB rfl (λK hK=>?_) rfl;rw[if_pos (by rfl)];refine jl de (.tmp 24) (.tmp 27) (by rfl) cP (mD (l.take k)) (by simp;omega) f2 (λh=>by cases h) (by rfl) (by rfl) ad ad (by rw[dy];exact e1.size) ?_;intro cC cV cU ca f1 o1 c1;refine dz hK (f1.mono λb O=>ad) ?_;clear hK K;refine ao ?_;refine dP ?_;have e2:Ext wr cU:=Fr.low (M:=λb=>wr.heap.size<=b) ((e1.mono λ_ h=>h.elim).trans (f1.mono λb O=>ad)) λ_ h=>h;have F:Ext wr (cU.alloc (.cells #[.int .i64 n] 3))/\Gr (λ_=>False) cZ 3 1 (cU.alloc (.cells #[.int .i64 n] 3)) cC k cV ((l.take k).map D.i)/\aq (cU.alloc (.cells #[.int .i64 n] 3)) cU.heap.size 3 #[.int .i64 n]:=
         ⟨e2.alloc _,ca.ai (Ll.alloc _),Lm⟩
        clear ca cP f1 o1 e1 e2 f2;revert F;generalize cU.heap.size=b2;generalize wr.heap.size=eX;intro F;exact key eX b2 cC cV _ F
       ·
        refine dP ?_;generalize hV:World.alloc _ _=eR;have e2:=aX hV;have cd:aq eR bG.heap.size 3 #[.int .i64 n]:=hV▸Lm;have bE:=sJ (c5.ak λb O=>(e1.trans e2).block b (j.o b O) λh=>h);clear hV f2;have dJ:wr.heap.size<bG.heap.size:=(cP.lt (g:=wr.heap.size) rfl).2;refine ao ?_;refine aB rfl (λK hK=>?_) rfl;rw[if_pos (by rfl)];refine jl de (.tmp 24) (.tmp 27) (by rfl) (cP.ai e2) (mD (l.take k)) (by simp;omega) bE (λh=>by cases h) (by rfl) (by rfl) ad ad (by rw[dy];exact(e1.trans e2).size) ?_;intro cC cV cU ca f1 o1 c1;refine dz hK (f1.mono λb O=>ad) ?_;clear hK K;have e3:Ext wr cU:=Fr.low (M:=λb=>wr.heap.size<=b) (((e1.trans e2).mono λ_ h=>h.elim).trans (f1.mono λb O=>ad)) λ_ h=>h;have F:Ext wr cU/\Gr (λ_=>False) cZ 3 1 cU cC k cV ((l.take k).map D.i)/\aq cU bG.heap.size 3 #[.int .i64 n]:=⟨e3,ca,cd.on f1 ad⟩
        clear ca cP f1 o1 e1 e2 e3 bE cd dJ;revert F;generalize bG.heap.size=b2;generalize wr.heap.size=eX;intro F;exact key eX b2 cC cV _ F
      ·
       refine dP ?_;generalize hV:World.drew (World.alloc _ _)=bG;have e1:=gG hV;have cd:aq bG wr.heap.size 3 #[.int .i64 n]:=hV▸Lm;clear hV;refine ao ?_;refine dP ?_;generalize hV:World.alloc _ _=eR;have e2:=aX hV;have cP:Gr (λ_=>False) bG.heap.size 3 1 eR (some ⟨bG.heap.size,0,none⟩) 0 0 []:=hV▸Gr.lit (w:=bG) (n:=0) (l:=[]) rfl (by rfl) ad (by simp only[D.aQ]);have dj:=cd.ai e2;have bE:=sJ (c5.ak λb O=>(e1.trans e2).block b (j.o b O) λh=>h);have dJ:wr.heap.size<bG.heap.size:=cd.lt;clear hV cd;refine ao ?_;refine aB rfl (λK hK=>?_) rfl;rw[if_pos (by rfl)];refine jl de (.tmp 24) (.tmp 27) (by rfl) cP (mD (l.take k)) (by simp;omega) bE (λh=>by cases h) (by rfl) (by rfl) ad ad e2.size ?_;intro cC cV cU ca f1 o1 c1;refine dz hK (f1.mono λb O=>ad) ?_;clear hK K;have e3:Ext wr cU:=Fr.low (M:=λb=>wr.heap.size<=b) (((e1.trans e2).mono λ_ h=>h.elim).trans (f1.mono λb O=>ad)) λ_ h=>h;have F:Ext wr cU/\Gr (λ_=>False) cZ 3 1 cU cC k cV ((l.take k).map D.i)/\aq cU wr.heap.size 3 #[.int .i64 n]:=⟨e3,ca.base ad,dj.on f1 ad⟩
       clear ca cP f1 o1 e1 e2 e3 bE dj dJ;revert F;generalize bG.heap.size=eX;generalize wr.heap.size=b2;intro F;exact key eX b2 cC cV _ F
     ·
      rintro eX b2 cC cV gL ⟨b0,c8,cd⟩;have eD:=b0.size;refine ao ?_;refine bM rfl (λK hK=>?_) rfl;rw[if_pos (by rfl)];refine e5 de (.tmp 28) (.tmp 30) (by rfl) c8 cd (show (D.i n).rep gL _ _ from by simp only[D.rep]) (by rfl) (by rfl) (by rfl) ad ad ad ?_;intro G H gS fh f5 gF gN;have ct:Ext wr gS:=Fr.low (M:=λb=>wr.heap.size<=b) ((b0.mono λ_ h=>h.elim).trans (f5.mono λb O=>by have:=(c8.lt O).1;omega)) λ_ h=>h;clear c8 cd b0 eD f5 gF gN;have dX:=ct.size;refine dO hK ?_;clear hK K;refine ao ?_;refine bM rfl (λK hK=>?_) rfl;rw[if_pos (by rfl)];have s:∀d∈(l.drop k).map D.i,d.sz=1:=λd hd=>by obtain⟨x,_,rfl⟩:=Lc.1 hd;rfl
      refine Ey (k:=(l.drop k).map D.i) (A2:=A2) de (.tmp 31) (.tmp 34) (by rfl) (fh.mono (Q:=λb=>P b) λb _ h=>h.elim) ?_ s (by rfl) (by rfl) ad ad ad ?_
      .exact((u.ak λb O=>ct.block b (j.o b O) λh=>h).mono λb O=>⟨O,by have:=j.o b O;omega,λh=>by have:=(fh.lt h).1;have:=j.o b O;omega⟩)
      intro y b1 hf t f6 o6 r;have a7:Ext wr hf:=Fr.low (M:=λb=>wr.heap.size<=b) ((ct.mono λ_ h=>h.elim).trans (f6.mono λb O=>by have:=(fh.lt O).1;omega)) λ_ h=>h;have lU:k+1+(ln - k)=ln+1:=ad;simp only[lU] at t r ⊢;refine dO hK ?_;clear hK K;refine tf ?_;refine b3 ?_;clear fh f6 o6 ct dX;have bT:=aD t r a7;clear t r a7;go_wp2_with(fail);go_ret;obtain⟨t,r,a7⟩:=bT.o;have bZ:=bq.size;have hS:=t.sl (Q:=λb=>P b\/fresh w hf b) (λb _ h=>.inl h) (λb ac au=>.inr ⟨ad,ac⟩);have J:Sl hf (λb=>P b\/fresh w hf b) y (ln+1) ((l.take k++[n]++l.drop k).map .i):=by simpa only[KK,KJ,Lb] using hS
      have cq:=bq.trans a7
      first
       | exact⟨y,ln+1,b1,rfl,ad,ad,r,⟨l.take k++[n]++l.drop k,J⟩,cq⟩
       | exact⟨y,ln+1,b1,l.take k++[n]++l.drop k,rfl,ad,ad,r,J,cq⟩
theorem G6:ch prog 31 151 (.agg #[.int .i64 0,.slice none 0 0]) 2 32:=ch.mk' Tryz.underlying31 (by kernel_rfl) rfl ad
theorem Hb:ch prog 32 22 (.slice none 0 0) 1 24:=ch.mk' Tryz.underlying32 (by kernel_rfl) rfl ad
theorem iY{w ab:World}{B:Nat}{e:TypeId}{v:Value}{n:Nat}(h:w.ownsRow B e z v n xs)(ap:∀b,v.ownBlock=some b->ab.heap[b]?=w.heap[b]?):ab.ownsRow B e z v n xs:=by
 refine⟨h.1,?_⟩;rcases h.2 with aU|⟨g,cap,cur,bI,j,a9,rest⟩
 .exact .inl aU
 .exact .inr ⟨g,cap,cur,bI,j,(ap g (by rw[bI];rfl)).trans a9,rest⟩
structure hi(u:ay)(g B:Nat)(K:Nat->Prop)(w:World)(IA:Lp)(n ic:Nat)(bx:Lp)(b2 bK:Nat)(cc:Lp)(bD rc:Nat)(L:List hO)(cd:List Int):Prop where
 blk:aq w g 34 #[.slice IA n ic,.slice bx b2 bK,.slice cc bD rc]
 ins:Gr (λb=>b≠g/\(Value.slice bx b2 bK).ownBlock≠some b/\¬K b) B 151 2 w IA n ic (L.map fB)
 ok:∀x∈L,lV u x
 Hf:∃xs,w.ownsRow B 22 1 (.slice bx b2 bK) b2 xs
 Hw:Sl w (λb=>b<w.heap.size/\b≠g/\(Value.slice IA n ic).ownBlock≠some b/\(Value.slice bx b2 bK).ownBlock≠some b/\¬K b) cc bD (cd.map .i)
 wu:0<bD
 yz:bD<=rc
 ig:∀b,(Value.slice IA n ic).ownBlock=some b->b≠g/\(Value.slice bx b2 bK).ownBlock≠some b/\¬K b
 cg:∀b,(Value.slice bx b2 bK).ownBlock=some b->b≠g/\¬K b
 kg:¬K g
 kl:∀b,K b->b<w.heap.size
section
variable {u:ay} {g B:Nat} {K:Nat->Prop} {w ab:World} {IA bx cc F Y c:Lp} {n ic b2 bK bD rc cp ag a d:Nat} {L:List hO} {cd f:List Int}
theorem hi.cl(h:hi u g B K w IA n ic bx b2 bK cc bD rc L cd):∀b,(Value.slice bx b2 bK).ownBlock=some b->B<=b/\b<w.heap.size:=λb O=>by
 obtain⟨xs,hx⟩:=h.Hf;exact hx.lt b O
theorem hi.on(h:hi u g B K w IA n ic bx b2 bK cc bD rc L cd)(O:Fr K w ab):hi u g B K ab IA n ic bx b2 bK cc bD rc L cd:=by
 refine⟨h.blk.on O h.kg,h.ins.dj O.size λb ak hp=>O.block b ak ?_,h.ok,?_,(h.Hw.ak λb hp=>O.block b hp.1 hp.2.2.2.2).mono λb hp=>⟨KE hp.1 O.size,hp.2⟩,h.wu,h.yz,h.ig,h.cg,h.kg,λb ap=>KE (h.kl b ap) O.size⟩
 .rcases hp with hp|hp
  .exact hp.2.2
  .exact(h.ig b hp).2.2
 .obtain⟨xs,hx⟩:=h.Hf;exact⟨xs,iY hx λb hp=>O.block b (hx.lt b hp).2 (h.cg b hp).2⟩
theorem hi.apart(h:hi u g B K w IA n ic bx b2 bK cc bD rc L cd)(O:Ext w ab)(ap:w.heap.size<=k)(cN:k<ab.heap.size):hi u g B (λb=>b=k) ab IA n ic bx b2 bK cc bD rc L cd:=by
 have ac:=h.on (O.mono λ_ h=>h.elim);have o:=h.blk.lt;refine⟨ac.blk,(h.ins.mono λb ak hp=>⟨hp.1,hp.2.1,ad⟩).ai O,h.ok,ac.Hf,
  (h.Hw.ak λb hp=>O.block b hp.1 λh=>h).mono λb hp=>⟨KE hp.1 O.size,hp.2.1,hp.2.2.1,hp.2.2.2.1,by have:=hp.1;omega⟩,
  h.wu,h.yz,λb hp=>⟨(h.ig b hp).1,(h.ig b hp).2.1,?_⟩,λb hp=>⟨(h.cg b hp).1,?_⟩,ad,λb O=>ad⟩
 .have:=(h.ins.lt hp).2;omega
 .have:=(h.cl b hp).2;omega
theorem hi.free(h:hi u g B K w IA n ic bx b2 bK cc bD rc L cd):hi u g B (λ_=>False) w IA n ic bx b2 bK cc bD rc L cd:=
 ⟨h.blk,h.ins.mono λb _ hp=>⟨hp.1,hp.2.1,λh=>h⟩,h.ok,h.Hf,h.Hw.mono λb hp=>⟨hp.1,hp.2.1,hp.2.2.1,hp.2.2.2.1,λh=>h⟩,h.wu,h.yz,λb hp=>⟨(h.ig b hp).1,(h.ig b hp).2.1,λh=>h⟩,λb hp=>⟨(h.cg b hp).1,λh=>h⟩,λh=>h,λ_ h=>h.elim⟩
theorem hi.IX(h:hi u g B K w IA n ic bx b2 bK cc bD rc L cd){x:hO}(hx:lV u x)
  (a2:Gr (λb=>b≠g/\(Value.slice bx b2 bK).ownBlock≠some b/\¬K b) B 151 2 ab F (n+1) cp (L.map fB++[fB x])) (J:Fr (λb=>(Value.slice IA n ic).ownBlock=some b) w ab) (bn:dq w IA n ic F (n+1) cp) :
  hi u g B K (ab.setCell ⟨g,0,none⟩ (.slice F (n+1) cp)) F (n+1) cp bx b2 bK cc bD rc (L++[x]) cd:=by
 have o:=h.blk.lt;have hs:=J.size;have dH:∀b,(Value.slice F (n+1) cp).ownBlock=some b->b≠g/\(Value.slice bx b2 bK).ownBlock≠some b/\¬K b:=λb hp=>by
  rcases bn b hp with ac|ac
  .exact h.ig b ac
  .exact⟨ad,λhc=>by have:=(h.cl b hc).2;omega,λap=>by have:=h.kl b ap;omega⟩
 have bW:Fr (λb=>b=g) ab (ab.setCell ⟨g,0,none⟩ (.slice F (n+1) cp)):=(Fr.refl (λb=>b=g) ab).setCell (.inl rfl) _;refine⟨(h.blk.on J λO=>(h.ig g O).1 rfl).aM 0 _,?_,?_,?_,?_,h.wu,h.yz,dH,h.cg,h.kg,λb ap=>by have:=h.kl b ap;simp;omega⟩
 .rw[KK,KJ,Lb];exact a2.dj bW.size λb ak hp=>bW.block b ak λO=>by
   subst O;rcases hp with hp|hp
   .exact hp.1 rfl
   .exact(dH b hp).1 rfl
 .intro y bb;rcases KM.1 bb with bb|bb
  .exact h.ok y bb
  .simp at bb;subst bb;exact hx
 .obtain⟨xs,hx⟩:=h.Hf;exact⟨xs,iY hx λb hp=>(bW.block b (by have:=(hx.lt b hp).2;omega) (h.cg b hp).1).trans (J.block b (hx.lt b hp).2 λO=>(h.ig b O).2.1 hp)⟩
 .refine(h.Hw.ak λb hp=>(bW.block b (aC hp.1) hp.2.1).trans (J.block b hp.1 hp.2.2.1)).mono λb hp=>⟨by have:=hp.1;simp;omega,hp.2.1,λO=>?_,hp.2.2.2⟩
  rcases bn b O with ac|ac
  .exact hp.2.2.1 ac
  .have:=hp.1;omega
theorem hi.IW(h:hi u g B K w IA n ic bx b2 bK cc bD rc L cd)(a2:ab.ownsRow B 22 1 (.slice Y (b2+1) ag) (b2+1) xs)(J:Fr (λb=>(Value.slice bx b2 bK).ownBlock=some b) w ab)(bn:dq w bx b2 bK Y (b2+1) ag):
  hi u g B K (ab.setCell ⟨g,1,none⟩ (.slice Y (b2+1) ag)) IA n ic Y (b2+1) ag cc bD rc L cd:=by
 have o:=h.blk.lt;have hs:=J.size;have e:∀b,(Value.slice Y (b2+1) ag).ownBlock=some b->b≠g/\¬K b:=λb hp=>by
  rcases bn b hp with ac|ac
  .exact h.cg b ac
  .exact⟨ad,λap=>by have:=h.kl b ap;omega⟩
 have bW:Fr (λb=>b=g) ab (ab.setCell ⟨g,1,none⟩ (.slice Y (b2+1) ag)):=(Fr.refl (λb=>b=g) ab).setCell (.inl rfl) _;refine⟨(h.blk.on J λO=>(h.cg g O).1 rfl).aM 1 _,?_,h.ok,?_,?_,h.wu,h.yz,λb hp=>⟨(h.ig b hp).1,λO=>?_,(h.ig b hp).2.2⟩,e,h.kg,λb ap=>by have:=h.kl b ap;simp;omega⟩
 .have ac:Gr (λb=>b≠g/\(Value.slice Y (b2+1) ag).ownBlock≠some b/\¬K b/\(Value.slice bx b2 bK).ownBlock≠some b) B 151 2 w IA n ic (L.map fB):=h.ins.mono λb ak hp=>⟨hp.1,λO=>by
   rcases bn b O with ac|ac
   .exact hp.2.1 ac
   .omega,hp.2.2,hp.2.1⟩
  have au:=ac.dj (ab:=ab.setCell ⟨g,1,none⟩ (.slice Y (b2+1) ag)) (by simp;omega) λb ak hp=>(bW.block b ad (by
    rcases hp with hp|hp
    .exact hp.1
    .exact(h.ig b hp).1)).trans (J.block b ak (by
    rcases hp with hp|hp
    .exact hp.2.2.2
    .exact(h.ig b hp).2.1))
  exact au.mono λb _ hp=>⟨hp.1,hp.2.1,hp.2.2.1⟩
 .exact⟨xs,iY a2 λb hp=>bW.block b (a2.lt b hp).2 (e b hp).1⟩
 .refine(h.Hw.ak λb hp=>(bW.block b (aC hp.1) hp.2.1).trans (J.block b hp.1 hp.2.2.2.1)).mono λb hp=>⟨by have:=hp.1;simp;omega,hp.2.1,hp.2.2.1,λO=>?_,hp.2.2.2.2⟩
  rcases bn b O with ac|ac
  .exact hp.2.2.2.1 ac
  .have:=hp.1;omega
 .rcases bn b O with ac|ac
  .exact(h.ig b hp).2.1 ac
  .have:=(h.ins.lt hp).2;omega
theorem hi.Jv(h:hi u g B K w IA n ic bx b2 bK cc bD rc L cd)(aZ:P=λb=>b<w.heap.size/\b≠g/\(Value.slice IA n ic).ownBlock≠some b/\(Value.slice bx b2 bK).ownBlock≠some b/\¬K b)
  (a5:Sl ab (λb=>P b\/fresh w ab b) c a (f.map .i)) (aw:Ext w ab) (h0:0<a) (hc:a<=d) :
  hi u g B K (ab.setCell ⟨g,2,none⟩ (.slice c a d)) IA n ic bx b2 bK c a d L f:=by
 subst aZ;have o:=h.blk.lt;have hs:=aw.size;have ac:=h.on (aw.mono λ_ h=>h.elim);have bW:Fr (λb=>b=g) ab (ab.setCell ⟨g,2,none⟩ (.slice c a d)):=(Fr.refl (λb=>b=g) ab).setCell (.inl rfl) _;refine⟨ac.blk.aM 2 _,ac.ins.dj bW.size λb ak hp=>bW.block b ak ?_,h.ok,?_,?_,h0,hc,h.ig,h.cg,h.kg,λb ap=>by have:=h.kl b ap;simp;omega⟩
 .rcases hp with hp|hp
  .exact hp.1
  .exact(h.ig b hp).1
 .obtain⟨xs,hx⟩:=ac.Hf;exact⟨xs,iY hx λb hp=>bW.block b (hx.lt b hp).2 (h.cg b hp).1⟩
 .have bv:∀b,((b<w.heap.size/\b≠g/\(Value.slice IA n ic).ownBlock≠some b/\(Value.slice bx b2 bK).ownBlock≠some b/\¬K b)\/fresh w ab b)->(b<ab.heap.size/\b≠g/\(Value.slice IA n ic).ownBlock≠some b/\(Value.slice bx b2 bK).ownBlock≠some b/\¬K b):=λb hp=>by
   rcases hp with hp|hp
   .exact⟨by have:=hp.1;omega,hp.2⟩
   .have ac:=hp.1;exact⟨hp.2,ad,λO=>by have:=(h.ins.lt O).2;omega,λO=>by have:=(h.cl b O).2;omega,λap=>by have:=h.kl b ap;omega⟩
  exact((a5.mono bv).ak λb hp=>bW.block b hp.1 hp.2.1).mono λb hp=>⟨by have:=hp.1;simp;omega,hp.2⟩
end
end Go.Proofs.YtglbpimocmhojaaGreat

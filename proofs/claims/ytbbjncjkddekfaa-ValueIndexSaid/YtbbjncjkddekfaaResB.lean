/- 'resolved' at operators. -/
import Derived.Test.YtbbjncjkddekfaaRes
import Derived.Test.YtbbjncjkddekfaaFr
namespace Go.Proofs.Ytbbjncjkddekfaa
open Go.RowKit

theorem appExpr : AppT Try.prog 48 50 (.agg #[.int .i64 0, .int .i64 0, .string ⟨#[]⟩, .slice none 0 0]) 4 56 := AppT.mk' Try.underlying48 (by kernel_rfl) rfl (by omega)


theorem wp_app1 {P : Program} (w0 : World) {o : Oper} {a : Act} {K : Act → World → Prop} {Q : Exit → Act → World → Prop} {t e : TypeId} {z : Value} {size bytes : Nat} (hA : AppT P t e z size bytes) (s x : Operand)
    (ho : o.op = .call { callee := .builtin .append, args := #[s, x], argTypes := #[t, t] })
    (base : Nat) (v : Value) (n : Nat) (xs : List Value) (cs : Array Value) (hs : a.eval s = v) (hown : w0.ownsRow base e size v n xs)
    (hx : a.eval x = .slice (some ⟨w0.heap.size, 0, none⟩) 1 1) (hcs : cs.size = size) (h1 : ∀ u ∈ cs.toList, u.oneCell' = true)
    (hbytes : (n + 1) * bytes ≤ 140737488355328) (h63 : n + 1 ≤ 140737488355328) (hbase : base ≤ w0.heap.size)
    (h : ∀ v' w', w'.ownsRow base e size v' (n + 1) (xs ++ cs.toList) → w0.grownBy w' v.ownBlock → (v'.ownBlock = v.ownBlock ∨ v'.ownBlock = some (w0.heap.size + 1)) → K (a.put o.dst v') w') : o.wp P a (w0.alloc (.cells cs e)) K Q := by
  refine wp_app _ hA s x ho base v n xs hs (hown.alloc _) _ 1 1 cs.toList hx (Src.block (heap_alloc_new w0 _) 1 (by omega) h1) hbytes h63 (by simp; omega) (fun h => nomatch h) fun v' w' h2 h3 h4 => ?_
  exact h v' w' h2 ⟨h3.os, h3.tape, h3.output, by have := h3.size; simp at this; omega, fun k hk hne => (h3.block k (by simp; omega) hne).trans (Below.heap_alloc w0 _ k hk)⟩ (by simpa using h4)


/-- a row of the call's own is kept where its block is -/
theorem own_row_keep {w w' : World} {base : Nat} {e : TypeId} {sz : Nat} {v : Value} {n : Nat} {xs : List Value} (h : w.ownsRow base e sz v n xs) (hk : ∀ g, v.ownBlock = some g → w'.heap[g]? = w.heap[g]?) : w'.ownsRow base e sz v n xs := by
  refine ⟨h.1, ?_⟩
  rcases h.2 with h2 | ⟨g, cap, cur, rfl, hbg, hg, rest⟩
  · exact .inl h2
  · exact .inr ⟨g, cap, cur, rfl, hbg, (hk g rfl).trans hg, rest⟩

set_option maxHeartbeats 1600000 in
theorem res_un (op : Int) (x : VE) (IH : ResSaid x) : ResSaid (.un op x) := by
  intro w c0 c1 c2 c3 hm h
  obtain ⟨n, nm, b, o, c, x0, x1, x2, x3, hcs, hb, hx, e0, e1, e2, e3⟩ := h
  injection hcs with h0 hcs
  injection hcs with h1 hcs
  injection hcs with h2 hcs
  injection hcs with h3 hcs
  subst h0 h1 h2 h3
  clear hcs
  have hop := hm.1
  have g1 : (op == 2) = false := by simp; omega
  have HM := hide (And.intro hm.2 hx)
  have HI := hide IH
  clear hop hm hx IH
  go_enter Try.func38, Try.ntmps38
  go_wp2
  refine wp_loop_rounds 2 ?_
  rw [rounds_succ]
  go_wp2
  generalize hW : World.alloc _ _ = W
  have hE : Ext w W := by rw [← hW]; exact ((((Fr.refl _ _).alloc _).alloc _).alloc _)
  obtain ⟨a0, a0f, a0l⟩ := (show Blk W w.heap.size 50 #[.int .i64 op, .int .i64 n, .string nm, .slice (some ⟨b, o, none⟩) 1 c] by rw [← hW]; exact ((Blk.new _ _ _).alloc _).alloc _).two
  have O2 : Blk W (w.heap.size + 1 + 1) 50 #[.int .i64 op, .int .i64 n, .string ⟨#[]⟩, .slice none 0 0] := by rw [← hW]; exact Blk.new' _ _ _ (by simp)
  obtain ⟨a2, a2f, a2l⟩ := O2.two
  have R1 : Blk W (w.heap.size + 1) 50 #[.int .i64 0, .int .i64 0, .string ⟨#[]⟩, .slice none 0 0] := by rw [← hW]; exact (Blk.new' _ _ _ (by simp)).alloc _
  have A1 : Blk W w.heap.size 50 #[.int .i64 op, .int .i64 n, .string nm, .slice (some ⟨b, o, none⟩) 1 c] := by rw [← hW]; exact ((Blk.new _ _ _).alloc _).alloc _
  have HW := hide hW
  clear hW
  have f0 := (hE.cell (j := o) hb (fun h => h)).trans e0
  have f1 := (hE.cell (j := o + 1) hb (fun h => h)).trans e1
  have f2 := (hE.cell (j := o + 2) hb (fun h => h)).trans e2
  have f3 := (hE.cell (j := o + 3) hb (fun h => h)).trans e3
  have hbW : b < W.heap.size := Nat.lt_of_lt_of_le hb hE.size
  clear e0 e1 e2 e3
  refine wp_region_plan (Ext) [(0, 3), (1, 0), (2, 3), (3, 0), (4, 3), (5, 3), (6, 0), (7, 1), (8, 1), (9, 2), (10, 3), (11, 2)] (by kernel_rfl) (by kernel_rfl) (Fr.refl _) (fun _ _ _ h k => h.trans k) (fun _ _ d _ _ h => by cases d <;> exact h) ?_
  refine plan_free (v := ?_) rfl (by rfl) (fun V => ?_) ?_; rotate_left
  · (go_simp <;> with_reducible rfl)
  try simp only [Act.put, List.setIfInBounds_toArray, List.set_cons_zero, List.set_cons_succ]
  refine plan_held (v := ?_) rfl (by rfl) (fun V hV => ?_) ?_; rotate_left
  · (first | obtain ⟨hVc, hVf⟩ := Fr.two0d hV | obtain ⟨hVc, hVf⟩ := Fr.two0 hV | obtain ⟨hVc, hVf⟩ := Fr.twod hV | obtain ⟨hVc, hVf⟩ := Fr.two hV)
    (go_simp <;> with_reducible rfl)
  try simp only [Act.put, List.setIfInBounds_toArray, List.set_cons_zero, List.set_cons_succ]
  refine plan_free (v := ?_) rfl (by rfl) (fun V => ?_) ?_; rotate_left
  · (go_simp <;> with_reducible rfl)
  try simp only [Act.put, List.setIfInBounds_toArray, List.set_cons_zero, List.set_cons_succ]
  refine plan_held (v := ?_) rfl (by rfl) (fun V hV => ?_) ?_; rotate_left
  · (first | obtain ⟨hVc, hVf⟩ := Fr.two0d hV | obtain ⟨hVc, hVf⟩ := Fr.two0 hV | obtain ⟨hVc, hVf⟩ := Fr.twod hV | obtain ⟨hVc, hVf⟩ := Fr.two hV)
    (go_simp <;> with_reducible rfl)
  try simp only [Act.put, List.setIfInBounds_toArray, List.set_cons_zero, List.set_cons_succ]
  refine plan_free (v := ?_) rfl (by rfl) (fun V => ?_) ?_; rotate_left
  · (go_simp <;> with_reducible rfl)
  try simp only [Act.put, List.setIfInBounds_toArray, List.set_cons_zero, List.set_cons_succ]
  refine plan_free (v := ?_) rfl (by rfl) (fun V => ?_) ?_; rotate_left
  · (go_simp <;> with_reducible rfl)
  try simp only [Act.put, List.setIfInBounds_toArray, List.set_cons_zero, List.set_cons_succ]
  refine plan_held (v := ?_) rfl (by rfl) (fun V hV => ?_) ?_; rotate_left
  · (first | obtain ⟨hVc, hVf⟩ := Fr.two0d hV | obtain ⟨hVc, hVf⟩ := Fr.two0 hV | obtain ⟨hVc, hVf⟩ := Fr.twod hV | obtain ⟨hVc, hVf⟩ := Fr.two hV)
    (go_simp <;> with_reducible rfl)
  try simp only [Act.put, List.setIfInBounds_toArray, List.set_cons_zero, List.set_cons_succ]
  refine plan_main rfl (fun K hK => ?_)
  go_simp
  refine (HI.out _ x0 x1 x2 x3 HM.out.1 (VE.at_on HM.out.2 (Fr.ext hE).drew)).mono ?_
  rintro e w1 ⟨d0, d1, d2, d3, rfl, hr, hb1⟩
  obtain ⟨dop, dn, dnm, dA, dk, dc, hd⟩ := VE.rep_four _ _ hr
  injection hd with hd0 hd
  injection hd with hd1 hd
  injection hd with hd2 hd
  injection hd with hd3 hd
  subst hd0 hd1 hd2 hd3
  clear hd
  refine hK _ _ (Fr.of hb1) ?_
  clear hK K
  try simp only [Act.put, List.setIfInBounds_toArray, List.set_cons_zero, List.set_cons_succ]
  have hE1 : Ext W w1 := Fr.undrew (Fr.of hb1)
  have O3 := O2.onE hE1
  refine plan_main rfl (fun K hK => ?_)
  go_simp
  refine hK _ _ ((Fr.refl _ _).alloc _) ?_
  clear hK K
  try simp only [Act.put, List.setIfInBounds_toArray, List.set_cons_zero, List.set_cons_succ]
  refine plan_last rfl (fun K hK => ?_)
  rw [if_pos (by rfl)]
  refine wp_app1 _ appExpr (.tmp 30) (.tmp 37) (by rfl) W.heap.size (.slice none 0 0) 0 [] _ (by rfl) ⟨by simp, .inl ⟨rfl, rfl⟩⟩ (by rfl) (by rfl) (by simp [Value.oneCell']) (by omega) (by omega) (by exact hb1.size) ?_
  intro v2 w2 hown2 hg2 _
  obtain ⟨A2, cc2, rfl, hAc⟩ := own_form hown2
  have hE2 : Ext w1 w2 := (Fr.refl _ _).grown hg2 (by simp [Value.ownBlock])
  have O4 := O3.onE hE2
  obtain ⟨a4, a4f, a4l⟩ := O4.two
  refine hK _ _ ?_
  clear hK K
  try simp only [Act.put, List.setIfInBounds_toArray, List.set_cons_zero, List.set_cons_succ]
  refine plan_free (v := ?_) rfl (by rfl) (fun V => ?_) ?_; rotate_left
  · (go_simp <;> with_reducible rfl)
  try simp only [Act.put, List.setIfInBounds_toArray, List.set_cons_zero, List.set_cons_succ]
  refine plan_last rfl (fun K hK => ?_)
  go_simp
  refine hK _ _ ?_
  clear hK K
  try simp only [Act.put, List.setIfInBounds_toArray, List.set_cons_zero, List.set_cons_succ]
  refine plan_end ?_
  have HO := hide (And.intro hown2 (And.intro hg2 (And.intro hr (And.intro hE (And.intro hE1 hE2)))))
  have R2 := (R1.onE hE1).onE hE2
  have A2' := (A1.onE hE1).onE hE2
  clear hown2 hg2 hr hE hE1 hE2 R1 A1 O2 O3 a0 a0f a0l a2 a2f a2l f0 f1 f2 f3 hb1 a4 a4f a4l hAc
  generalize hX : World.setCell w2 _ _ = X
  have O5 : Blk X (w.heap.size + 1 + 1) 50 #[.int .i64 op, .int .i64 n, .string ⟨#[]⟩, .slice A2 1 cc2] := by rw [← hX]; exact O4.set_ 3 _
  have R3 : Blk X (w.heap.size + 1) 50 #[.int .i64 0, .int .i64 0, .string ⟨#[]⟩, .slice none 0 0] := by rw [← hX]; exact R2.far (by simp) _
  have A3 : Blk X w.heap.size 50 #[.int .i64 op, .int .i64 n, .string nm, .slice (some ⟨b, o, none⟩) 1 c] := by rw [← hX]; exact A2'.far (by simp; omega) _
  have HX := hide hX
  clear hX
  obtain ⟨a5, a5f, a5l⟩ := O5.two
  obtain ⟨r3, r3f, r3l⟩ := R3.two
  obtain ⟨a3, a3f, a3l⟩ := A3.two
  go_wp2
  rw [rounds_succ]
  go_wp2
  generalize hY : World.setCell _ _ _ = Y
  have R4 : Blk Y (w.heap.size + 1) 50 #[.int .i64 op, .int .i64 n, .string ⟨#[]⟩, .slice A2 1 cc2] := by rw [← hY]; exact (((R3.set_ 0 _).set_ 1 _).set_ 2 _).set_ 3 _
  obtain ⟨r4, r4f, r4l⟩ := R4.two
  refine bodyPost_ret (v := .agg #[.int .i64 op, .int .i64 n, .string ⟨#[]⟩, .slice A2 1 cc2]) (by simp [results, Try.results38, go_sem, r4]) rfl ?_
  clear r4 r4f r4l a5 a5f a5l r3 r3f r3l a3 a3f a3l
  have hXY : Fr (fun k => k = w.heap.size + 1 ∨ k = w.heap.size + 1 + 1) w2 Y := by
    rw [← hY, ← HX.out]
    exact (((((Fr.refl _ _).setCell (.inl (.inr rfl)) _).setCell (.inl (.inl rfl)) _).setCell (.inl (.inl rfl)) _).setCell (.inl (.inl rfl)) _).setCell (.inl (.inl rfl)) _
  obtain ⟨hown2, hg2, hr, hE, hE1, hE2⟩ := HO.out
  obtain ⟨g, rfl, hgb, hgl, hgc, _⟩ := own_block hown2 (by omega)
  have hWs : w.heap.size + 3 = W.heap.size := by rw [← HW.out]; simp
  have h1s := hE1.size
  have h2s := hE2.size
  have h3s := hXY.size
  have hk : ∀ b, W.heap.size ≤ b → b < w2.heap.size → Y.heap[b]? = w2.heap[b]? := fun b h1 h2 => hXY.block b h2 (by omega)
  refine ERes.mk' rfl ⟨n, ⟨#[]⟩, g, 0, cc2, .int .i64 dop, .int .i64 dn, .string dnm, .slice dA dk dc, rfl, ⟨by omega, by omega⟩, VE.new_on hr (fun b h1 h2 => (hk b h1 (by omega)).trans (hE2.block b h2 fun h => h)) (by show w.heap.size ≤ W.heap.size; omega) (by omega), ?_, ?_, ?_, ?_⟩ ?_
  · exact (World.cell?_of_block (hk g hgb hgl)).trans (hgc 0 _ rfl)
  · exact (World.cell?_of_block (hk g hgb hgl)).trans (hgc 1 _ rfl)
  · exact (World.cell?_of_block (hk g hgb hgl)).trans (hgc 2 _ rfl)
  · exact (World.cell?_of_block (hk g hgb hgl)).trans (hgc 3 _ rfl)
  · exact (Fr.ext (hE.trans (hE1.trans hE2))).trans (hXY.below (by omega) (by intro k hk; omega))

set_option maxHeartbeats 3200000 in
theorem res_bin (op : Int) (x y : VE) (IH : ResSaid x) (IHy : ResSaid y) : ResSaid (.bin op x y) := by
  intro w c0 c1 c2 c3 hm h
  obtain ⟨n, nm, b, o, c, x0, x1, x2, x3, y0, y1, y2, y3, hcs, hb, hx, hy, e0, e1, e2, e3, e4, e5, e6, e7⟩ := h
  injection hcs with h0 hcs
  injection hcs with h1 hcs
  injection hcs with h2 hcs
  injection hcs with h3 hcs
  subst h0 h1 h2 h3
  clear hcs
  have hop := hm.1
  have g1 : (op == 2) = false := by simp; omega
  have HM := hide (And.intro hm.2.1 hx)
  have HN := hide (And.intro hm.2.2 hy)
  have HI := hide IH
  have HJ := hide IHy
  clear hop hm hx IH hy IHy
  go_enter Try.func38, Try.ntmps38
  go_wp2
  refine wp_loop_rounds 3 ?_
  rw [rounds_succ]
  go_wp2
  generalize hW : World.alloc _ _ = W
  have hE : Ext w W := by rw [← hW]; exact ((((Fr.refl _ _).alloc _).alloc _).alloc _)
  obtain ⟨a0, a0f, a0l⟩ := (show Blk W w.heap.size 50 #[.int .i64 op, .int .i64 n, .string nm, .slice (some ⟨b, o, none⟩) 2 c] by rw [← hW]; exact ((Blk.new _ _ _).alloc _).alloc _).two
  have O2 : Blk W (w.heap.size + 1 + 1) 50 #[.int .i64 op, .int .i64 n, .string ⟨#[]⟩, .slice none 0 0] := by rw [← hW]; exact Blk.new' _ _ _ (by simp)
  obtain ⟨a2, a2f, a2l⟩ := O2.two
  have R1 : Blk W (w.heap.size + 1) 50 #[.int .i64 0, .int .i64 0, .string ⟨#[]⟩, .slice none 0 0] := by rw [← hW]; exact (Blk.new' _ _ _ (by simp)).alloc _
  have A1 : Blk W w.heap.size 50 #[.int .i64 op, .int .i64 n, .string nm, .slice (some ⟨b, o, none⟩) 2 c] := by rw [← hW]; exact ((Blk.new _ _ _).alloc _).alloc _
  have HW := hide hW
  clear hW
  have f0 := (hE.cell (j := o) hb (fun h => h)).trans e0
  have f1 := (hE.cell (j := o + 1) hb (fun h => h)).trans e1
  have f2 := (hE.cell (j := o + 2) hb (fun h => h)).trans e2
  have f3 := (hE.cell (j := o + 3) hb (fun h => h)).trans e3
  have f4 := (hE.cell (j := o + 4) hb (fun h => h)).trans e4
  have f5 := (hE.cell (j := o + 5) hb (fun h => h)).trans e5
  have f6 := (hE.cell (j := o + 6) hb (fun h => h)).trans e6
  have f7 := (hE.cell (j := o + 7) hb (fun h => h)).trans e7
  have hbW : b < W.heap.size := Nat.lt_of_lt_of_le hb hE.size
  clear e0 e1 e2 e3 e4 e5 e6 e7
  refine wp_region_plan (Ext) [(0, 3), (1, 0), (2, 3), (3, 0), (4, 3), (5, 3), (6, 0), (7, 1), (8, 1), (9, 2), (10, 3), (11, 2)] (by kernel_rfl) (by kernel_rfl) (Fr.refl _) (fun _ _ _ h k => h.trans k) (fun _ _ d _ _ h => by cases d <;> exact h) ?_
  refine plan_free (v := ?_) rfl (by rfl) (fun V => ?_) ?_; rotate_left
  · (go_simp <;> with_reducible rfl)
  try simp only [Act.put, List.setIfInBounds_toArray, List.set_cons_zero, List.set_cons_succ]
  refine plan_held (v := ?_) rfl (by rfl) (fun V hV => ?_) ?_; rotate_left
  · (first | obtain ⟨hVc, hVf⟩ := Fr.two0d hV | obtain ⟨hVc, hVf⟩ := Fr.two0 hV | obtain ⟨hVc, hVf⟩ := Fr.twod hV | obtain ⟨hVc, hVf⟩ := Fr.two hV)
    (go_simp <;> with_reducible rfl)
  try simp only [Act.put, List.setIfInBounds_toArray, List.set_cons_zero, List.set_cons_succ]
  refine plan_free (v := ?_) rfl (by rfl) (fun V => ?_) ?_; rotate_left
  · (go_simp <;> with_reducible rfl)
  try simp only [Act.put, List.setIfInBounds_toArray, List.set_cons_zero, List.set_cons_succ]
  refine plan_held (v := ?_) rfl (by rfl) (fun V hV => ?_) ?_; rotate_left
  · (first | obtain ⟨hVc, hVf⟩ := Fr.two0d hV | obtain ⟨hVc, hVf⟩ := Fr.two0 hV | obtain ⟨hVc, hVf⟩ := Fr.twod hV | obtain ⟨hVc, hVf⟩ := Fr.two hV)
    (go_simp <;> with_reducible rfl)
  try simp only [Act.put, List.setIfInBounds_toArray, List.set_cons_zero, List.set_cons_succ]
  refine plan_free (v := ?_) rfl (by rfl) (fun V => ?_) ?_; rotate_left
  · (go_simp <;> with_reducible rfl)
  try simp only [Act.put, List.setIfInBounds_toArray, List.set_cons_zero, List.set_cons_succ]
  refine plan_free (v := ?_) rfl (by rfl) (fun V => ?_) ?_; rotate_left
  · (go_simp <;> with_reducible rfl)
  try simp only [Act.put, List.setIfInBounds_toArray, List.set_cons_zero, List.set_cons_succ]
  refine plan_held (v := ?_) rfl (by rfl) (fun V hV => ?_) ?_; rotate_left
  · (first | obtain ⟨hVc, hVf⟩ := Fr.two0d hV | obtain ⟨hVc, hVf⟩ := Fr.two0 hV | obtain ⟨hVc, hVf⟩ := Fr.twod hV | obtain ⟨hVc, hVf⟩ := Fr.two hV)
    (go_simp <;> with_reducible rfl)
  try simp only [Act.put, List.setIfInBounds_toArray, List.set_cons_zero, List.set_cons_succ]
  refine plan_main rfl (fun K hK => ?_)
  go_simp
  refine (HI.out _ x0 x1 x2 x3 HM.out.1 (VE.at_on HM.out.2 (Fr.ext hE).drew)).mono ?_
  rintro e w1 ⟨d0, d1, d2, d3, rfl, hr, hb1⟩
  obtain ⟨dop, dn, dnm, dA, dk, dc, hd⟩ := VE.rep_four _ _ hr
  injection hd with hd0 hd
  injection hd with hd1 hd
  injection hd with hd2 hd
  injection hd with hd3 hd
  subst hd0 hd1 hd2 hd3
  clear hd
  refine hK _ _ (Fr.of hb1) ?_
  clear hK K
  try simp only [Act.put, List.setIfInBounds_toArray, List.set_cons_zero, List.set_cons_succ]
  have hE1 : Ext W w1 := Fr.undrew (Fr.of hb1)
  have O3 := O2.onE hE1
  refine plan_main rfl (fun K hK => ?_)
  go_simp
  refine hK _ _ ((Fr.refl _ _).alloc _) ?_
  clear hK K
  try simp only [Act.put, List.setIfInBounds_toArray, List.set_cons_zero, List.set_cons_succ]
  refine plan_last rfl (fun K hK => ?_)
  rw [if_pos (by rfl)]
  refine wp_app1 _ appExpr (.tmp 30) (.tmp 37) (by rfl) W.heap.size (.slice none 0 0) 0 [] _ (by rfl) ⟨by simp, .inl ⟨rfl, rfl⟩⟩ (by rfl) (by rfl) (by simp [Value.oneCell']) (by omega) (by omega) (by exact hb1.size) ?_
  intro v2 w2 hown2 hg2 hat2
  obtain ⟨A2, cc2, rfl, hAc⟩ := own_form hown2
  have HAT := hide hat2
  clear hat2
  have hE2 : Ext w1 w2 := (Fr.refl _ _).grown hg2 (by simp [Value.ownBlock])
  have O4 := O3.onE hE2
  obtain ⟨a4, a4f, a4l⟩ := O4.two
  refine hK _ _ ?_
  clear hK K
  try simp only [Act.put, List.setIfInBounds_toArray, List.set_cons_zero, List.set_cons_succ]
  refine plan_free (v := ?_) rfl (by rfl) (fun V => ?_) ?_; rotate_left
  · (go_simp <;> with_reducible rfl)
  try simp only [Act.put, List.setIfInBounds_toArray, List.set_cons_zero, List.set_cons_succ]
  refine plan_last rfl (fun K hK => ?_)
  go_simp
  refine hK _ _ ?_
  clear hK K
  try simp only [Act.put, List.setIfInBounds_toArray, List.set_cons_zero, List.set_cons_succ]
  refine plan_end ?_
  have R2 := (R1.onE hE1).onE hE2
  have A2' := (A1.onE hE1).onE hE2
  have q4 := ((hE1.trans hE2).cell (j := o + 4) hbW (fun h => h)).trans f4
  have q5 := ((hE1.trans hE2).cell (j := o + 5) hbW (fun h => h)).trans f5
  have q6 := ((hE1.trans hE2).cell (j := o + 6) hbW (fun h => h)).trans f6
  have q7 := ((hE1.trans hE2).cell (j := o + 7) hbW (fun h => h)).trans f7
  have hs3 : W.heap.size = w.heap.size + 3 := by rw [← HW.out]; simp
  have hbg : b ≠ w.heap.size + 1 + 1 := by have := hb; omega
  obtain ⟨g, hA2, hgb, hgl, hgc, _⟩ := own_block hown2 (by omega)
  subst hA2
  have hgw1 : w1.heap.size < g := by
    rcases HAT.out with h | h
    · simp [Value.ownBlock] at h
    · have : g = w1.heap.size + 1 := by simpa [Value.ownBlock] using h
      omega
  have HO := hide (And.intro hown2 (And.intro hg2 (And.intro hr (And.intro hE (And.intro hE1 (And.intro hE2 (And.intro hgb hgl)))))))
  have HS := hide hs3
  clear HAT hown2 hg2 hr hE hE1 hE2 R1 A1 O2 O3 a0 a0f a0l a2 a2f a2l f0 f1 f2 f3 f4 f5 f6 f7 hb1 a4 a4f a4l hAc hs3 hgc
  generalize hX : World.setCell w2 _ _ = X
  have O5 : Blk X (w.heap.size + 1 + 1) 50 #[.int .i64 op, .int .i64 n, .string ⟨#[]⟩, .slice (some ⟨g, 0, none⟩) 1 cc2] := by rw [← hX]; exact O4.set_ 3 _
  have R3 : Blk X (w.heap.size + 1) 50 #[.int .i64 0, .int .i64 0, .string ⟨#[]⟩, .slice none 0 0] := by rw [← hX]; exact R2.far (by simp) _
  have A3 : Blk X w.heap.size 50 #[.int .i64 op, .int .i64 n, .string nm, .slice (some ⟨b, o, none⟩) 2 c] := by rw [← hX]; exact A2'.far (by simp; omega) _
  have hF : Fr (fun k => k = w.heap.size + 1 + 1) w2 X := by rw [← hX]; exact Fr.setCell (M := fun k => k = w.heap.size + 1 + 1) (Fr.refl _ _) (.inl rfl) _
  have hbX : b < w2.heap.size := Nat.lt_of_lt_of_le hbW (Nat.le_trans HO.out.2.2.2.2.1.size HO.out.2.2.2.2.2.1.size)
  have f4 := (hF.cell (j := o + 4) hbX hbg).trans q4
  have f5 := (hF.cell (j := o + 5) hbX hbg).trans q5
  have f6 := (hF.cell (j := o + 6) hbX hbg).trans q6
  have f7 := (hF.cell (j := o + 7) hbX hbg).trans q7
  have hbX' : b < X.heap.size := Nat.lt_of_lt_of_le hbX hF.size
  have hAo : X.ownsRow W.heap.size 50 4 (.slice (some ⟨g, 0, none⟩) 1 cc2) 1 ([] ++ (#[Value.int .i64 dop, .int .i64 dn, .string dnm, .slice dA dk dc] : Array Value).toList) := by
    refine own_row_keep HO.out.1 (fun g' hg' => ?_)
    have : g = g' := by simpa [Value.ownBlock] using hg'
    subst this
    exact hF.block g hgl (by have := HS.out; omega)
  have HF := hide (And.intro hF hAo)
  have HX := hide hX
  clear hX hF hAo hgb hgl O4 R2 A2' q4 q5 q6 q7
  obtain ⟨a5, a5f, a5l⟩ := O5.two
  obtain ⟨r3, r3f, r3l⟩ := R3.two
  obtain ⟨a3, a3f, a3l⟩ := A3.two
  go_wp2
  rw [rounds_succ]
  go_wp2
  refine wp_region_plan (Ext) [(0, 3), (1, 0), (2, 3), (3, 0), (4, 3), (5, 3), (6, 0), (7, 1), (8, 1), (9, 2), (10, 3), (11, 2)] (by kernel_rfl) (by kernel_rfl) (Fr.refl _) (fun _ _ _ h k => h.trans k) (fun _ _ d _ _ h => by cases d <;> exact h) ?_
  refine plan_free (v := ?_) rfl (by rfl) (fun V => ?_) ?_; rotate_left
  · (go_simp <;> with_reducible rfl)
  try simp only [Act.put, List.setIfInBounds_toArray, List.set_cons_zero, List.set_cons_succ]
  refine plan_held (v := ?_) rfl (by rfl) (fun V hV => ?_) ?_; rotate_left
  · (first | obtain ⟨hVc, hVf⟩ := Fr.two0d hV | obtain ⟨hVc, hVf⟩ := Fr.two0 hV | obtain ⟨hVc, hVf⟩ := Fr.twod hV | obtain ⟨hVc, hVf⟩ := Fr.two hV)
    (go_simp <;> with_reducible rfl)
  try simp only [Act.put, List.setIfInBounds_toArray, List.set_cons_zero, List.set_cons_succ]
  refine plan_free (v := ?_) rfl (by rfl) (fun V => ?_) ?_; rotate_left
  · (go_simp <;> with_reducible rfl)
  try simp only [Act.put, List.setIfInBounds_toArray, List.set_cons_zero, List.set_cons_succ]
  refine plan_held (v := ?_) rfl (by rfl) (fun V hV => ?_) ?_; rotate_left
  · (first | obtain ⟨hVc, hVf⟩ := Fr.two0d hV | obtain ⟨hVc, hVf⟩ := Fr.two0 hV | obtain ⟨hVc, hVf⟩ := Fr.twod hV | obtain ⟨hVc, hVf⟩ := Fr.two hV)
    (go_simp <;> with_reducible rfl)
  try simp only [Act.put, List.setIfInBounds_toArray, List.set_cons_zero, List.set_cons_succ]
  refine plan_free (v := ?_) rfl (by rfl) (fun V => ?_) ?_; rotate_left
  · (go_simp <;> with_reducible rfl)
  try simp only [Act.put, List.setIfInBounds_toArray, List.set_cons_zero, List.set_cons_succ]
  refine plan_free (v := ?_) rfl (by rfl) (fun V => ?_) ?_; rotate_left
  · (go_simp <;> with_reducible rfl)
  try simp only [Act.put, List.setIfInBounds_toArray, List.set_cons_zero, List.set_cons_succ]
  refine plan_held (v := ?_) rfl (by rfl) (fun V hV => ?_) ?_; rotate_left
  · (first | obtain ⟨hVc, hVf⟩ := Fr.two0d hV | obtain ⟨hVc, hVf⟩ := Fr.two0 hV | obtain ⟨hVc, hVf⟩ := Fr.twod hV | obtain ⟨hVc, hVf⟩ := Fr.two hV)
    (go_simp <;> with_reducible rfl)
  try simp only [Act.put, List.setIfInBounds_toArray, List.set_cons_zero, List.set_cons_succ]
  refine plan_main rfl (fun K hK => ?_)
  go_simp
  refine (HJ.out _ y0 y1 y2 y3 HN.out.1 (VE.at_on HN.out.2 ?hbb)).mono ?_
  case hbb => exact (Fr.ext (HO.out.2.2.2.1.trans (HO.out.2.2.2.2.1.trans HO.out.2.2.2.2.2.1))).trans ((HF.out.1.below (B := w.heap.size) (by have := HO.out.2.2.2.1.size; have := HO.out.2.2.2.2.1.size; have := HO.out.2.2.2.2.2.1.size; omega) (by intro k hk; omega)).drew)
  rintro e w3 ⟨k0, k1, k2, k3, rfl, hr, hb1⟩
  obtain ⟨kop, kn, knm, kA, kk, kc, hd⟩ := VE.rep_four _ _ hr
  injection hd with hd0 hd
  injection hd with hd1 hd
  injection hd with hd2 hd
  injection hd with hd3 hd
  subst hd0 hd1 hd2 hd3
  clear hd
  refine hK _ _ (Fr.of hb1) ?_
  clear hK K
  try simp only [Act.put, List.setIfInBounds_toArray, List.set_cons_zero, List.set_cons_succ]
  have hE1 : Ext X w3 := Fr.undrew (Fr.of hb1)
  have O6 := O5.onE hE1
  refine plan_main rfl (fun K hK => ?_)
  go_simp
  refine hK _ _ ((Fr.refl _ _).alloc _) ?_
  clear hK K
  try simp only [Act.put, List.setIfInBounds_toArray, List.set_cons_zero, List.set_cons_succ]
  refine plan_last rfl (fun K hK => ?_)
  rw [if_pos (by rfl)]
  refine wp_app1 _ appExpr (.tmp 30) (.tmp 37) (by rfl) W.heap.size (.slice (some ⟨g, 0, none⟩) 1 cc2) 1 _ _ (by rfl) (own_below' HF.out.2 (Fr.ext hE1)) (by rfl) (by rfl) (by simp [Value.oneCell']) (by omega) (by omega) ?hbase ?_
  case hbase => have := HO.out.2.2.2.2.1.size; have := HO.out.2.2.2.2.2.1.size; have := HF.out.1.size; have := hE1.size; omega
  intro v4 w4 hown4 hg4 _
  obtain ⟨A4, cc4, rfl, hAc⟩ := own_form hown4
  have hE4 : Fr (fun k => k = g) w3 w4 := (Fr.refl _ _).grown hg4 (fun g' h' => .inl ((show g = g' by simpa [Value.ownBlock] using h').symm))
  have hgW : W.heap.size ≤ g := HO.out.2.2.2.2.2.2.1
  have O7 := O6.on hE4 (by have := HS.out; omega)
  obtain ⟨a7, a7f, a7l⟩ := O7.two
  refine hK _ _ ?_
  clear hK K
  try simp only [Act.put, List.setIfInBounds_toArray, List.set_cons_zero, List.set_cons_succ]
  refine plan_free (v := ?_) rfl (by rfl) (fun V => ?_) ?_; rotate_left
  · (go_simp <;> with_reducible rfl)
  try simp only [Act.put, List.setIfInBounds_toArray, List.set_cons_zero, List.set_cons_succ]
  refine plan_last rfl (fun K hK => ?_)
  go_simp
  refine hK _ _ ?_
  clear hK K
  try simp only [Act.put, List.setIfInBounds_toArray, List.set_cons_zero, List.set_cons_succ]
  refine plan_end ?_
  have R5 := (R3.onE hE1).on hE4 (by have := HS.out; omega)
  have A5' := (A3.onE hE1).on hE4 (by have := HS.out; omega)
  have HP := hide (And.intro hown4 (And.intro hg4 (And.intro hr (And.intro hE1 hE4))))
  clear hown4 hg4 hr hE1 hE4 O5 O6 R3 A3 a5 a5f a5l r3 r3f r3l a3 a3f a3l f4 f5 f6 f7 hb1 a7 a7f a7l hAc hgW
  generalize hZ : World.setCell w4 _ _ = Z
  have O8 : Blk Z (w.heap.size + 1 + 1) 50 #[.int .i64 op, .int .i64 n, .string ⟨#[]⟩, .slice A4 2 cc4] := by rw [← hZ]; exact O7.set_ 3 _
  have R6 : Blk Z (w.heap.size + 1) 50 #[.int .i64 0, .int .i64 0, .string ⟨#[]⟩, .slice none 0 0] := by rw [← hZ]; exact R5.far (by simp) _
  have A6 : Blk Z w.heap.size 50 #[.int .i64 op, .int .i64 n, .string nm, .slice (some ⟨b, o, none⟩) 2 c] := by rw [← hZ]; exact A5'.far (by simp; omega) _
  have HZ := hide hZ
  clear hZ
  obtain ⟨a5, a5f, a5l⟩ := O8.two
  obtain ⟨r3, r3f, r3l⟩ := R6.two
  obtain ⟨a3, a3f, a3l⟩ := A6.two
  go_wp2
  rw [rounds_succ]
  go_wp2
  generalize hY : World.setCell _ _ _ = Y
  have R4 : Blk Y (w.heap.size + 1) 50 #[.int .i64 op, .int .i64 n, .string ⟨#[]⟩, .slice A4 2 cc4] := by rw [← hY]; exact (((R6.set_ 0 _).set_ 1 _).set_ 2 _).set_ 3 _
  obtain ⟨r4, r4f, r4l⟩ := R4.two
  refine bodyPost_ret (v := .agg #[.int .i64 op, .int .i64 n, .string ⟨#[]⟩, .slice A4 2 cc4]) (by simp [results, Try.results38, go_sem, r4]) rfl ?_
  clear r4 r4f r4l a5 a5f a5l r3 r3f r3l a3 a3f a3l
  have hZY : Fr (fun k => k = w.heap.size + 1 ∨ k = w.heap.size + 1 + 1) w4 Y := by
    rw [← hY, ← HZ.out]
    exact (((((Fr.refl _ _).setCell (.inl (.inr rfl)) _).setCell (.inl (.inl rfl)) _).setCell (.inl (.inl rfl)) _).setCell (.inl (.inl rfl)) _).setCell (.inl (.inl rfl)) _
  obtain ⟨hown4, hg4, hry, hE3, hE4⟩ := HP.out
  obtain ⟨hown2, hg2, hr, hE, hE1, hE2, hgb, hgl⟩ := HO.out
  have hFX := HF.out.1
  have hWs := HS.out
  obtain ⟨q, rfl, hqb, hql, hqc, _⟩ := own_block hown4 (by omega)
  have h1s := hE1.size
  have h2s := hE2.size
  have h3s := hFX.size
  have h4s := hE3.size
  have h5s := hE4.size
  have h6s := hZY.size
  have hk : ∀ b, W.heap.size ≤ b → b < w4.heap.size → Y.heap[b]? = w4.heap[b]? := fun b h1 h2 => hZY.block b h2 (by omega)
  have hgn : ∀ b, w2.heap.size ≤ b → b ≠ g := fun b h => by omega
  have hg1 : ∀ b, W.heap.size ≤ b → b < w1.heap.size → b ≠ g := fun b h1 h2 => by omega
  have hkx : ∀ b, W.heap.size ≤ b → b < w1.heap.size → Y.heap[b]? = w1.heap[b]? := fun b h1 h2 =>
    (hk b h1 (by omega)).trans ((hE4.block b (by omega) (hg1 b h1 h2)).trans ((hE3.block b (by omega) (fun h => h)).trans ((hFX.block b (by omega) (by omega)).trans (hE2.block b h2 (fun h => h)))))
  have hky : ∀ b, X.heap.size ≤ b → b < w3.heap.size → Y.heap[b]? = w3.heap[b]? := fun b h1 h2 => (hk b (by omega) (by omega)).trans (hE4.block b h2 (hgn b (by omega)))
  refine ERes.mk' rfl ⟨n, ⟨#[]⟩, q, 0, cc4, .int .i64 dop, .int .i64 dn, .string dnm, .slice dA dk dc, .int .i64 kop, .int .i64 kn, .string knm, .slice kA kk kc, rfl, ⟨by omega, by omega⟩,
    VE.new_on hr (fun b h1 h2 => hkx b h1 h2) (by show w.heap.size ≤ W.heap.size; omega) (by omega),
    VE.new_on hry (fun b h1 h2 => hky b h1 h2) (by show w.heap.size ≤ X.heap.size; omega) (by omega), ?_, ?_, ?_, ?_, ?_, ?_, ?_, ?_⟩ ?_
  · exact (World.cell?_of_block (hk q hqb hql)).trans (hqc 0 _ rfl)
  · exact (World.cell?_of_block (hk q hqb hql)).trans (hqc 1 _ rfl)
  · exact (World.cell?_of_block (hk q hqb hql)).trans (hqc 2 _ rfl)
  · exact (World.cell?_of_block (hk q hqb hql)).trans (hqc 3 _ rfl)
  · exact (World.cell?_of_block (hk q hqb hql)).trans (hqc 4 _ rfl)
  · exact (World.cell?_of_block (hk q hqb hql)).trans (hqc 5 _ rfl)
  · exact (World.cell?_of_block (hk q hqb hql)).trans (hqc 6 _ rfl)
  · exact (World.cell?_of_block (hk q hqb hql)).trans (hqc 7 _ rfl)
  · exact (Fr.ext (hE.trans (hE1.trans hE2))).trans (((hFX.below (by omega) (by intro k hk; omega)).trans ((Fr.ext hE3).mono (by omega))).trans ((hE4.below (by omega) (by intro k hk; omega)).trans (hZY.below (by omega) (by intro k hk; omega))))

theorem res_of : ∀ x : VE, ResSaid x
  | .num n => res_num n
  | .nam s => res_nam s
  | .loc _ => fun w c0 c1 c2 c3 hm _ => hm.elim
  | .glo _ => fun w c0 c1 c2 c3 hm _ => hm.elim
  | .un op x => res_un op x (res_of x)
  | .bin op x y => res_bin op x y (res_of x) (res_of y)
end Go.Proofs.Ytbbjncjkddekfaa

/- The walk of the law TableValid: it returns true for every input. No condition. -/
import Derived.Test.YtbbjncjkddekfaaTabG
import Derived.Test.YtbbjncjkddekfaaTabH
import Derived.StillTailTactics
import Derived.IntWalk
namespace Go.Proofs.Ytbbjncjkddekfaa
open Go.RowKit
attribute [local go_sem ↓] run_max2 run_min2

theorem SlR.drewF {α : Type} {f : α → List Value} {sz : Nat} {w : World} {n : Nat} {A : Option Addr} {l : List α} (h : SlR (EF f) sz w w.heap.size A n l) : SlR (EF f) sz w.drew w.drew.heap.size A n l :=
  h.onF (Below.refl _ _).drew (Below.refl w.heap.size w).drew.size

theorem within_same (x n : Int) (hn : 0 < n) (hb : n ≤ 4611686018427387904) (w : World) :
    Calls Try.prog 17 #[.int .i64 x, .int .i64 n] w fun e w' => e = .returned (.int .i64 (within x n)) ∧ w' = w :=
  (within_any x n hn hb w).mono fun _ _ h => ⟨h.1, h.2.symm⟩

set_option maxHeartbeats 3200000 in
theorem tableValid_any (A B D : Option Addr) (n c p cp q cq : Nat) (l o : List Int) (R : List Hold) (at_ : Int) (by_ : Hold) (th : Int) (w : World) (h : SlR (EF cInt) 1 w w.heap.size A n l) (ho : SlR (EF cInt) 1 w w.heap.size B p o) (hR : SlR (EF cHold) 2 w w.heap.size D q R) :
    Calls Try.prog 7 #[.slice A n c, .slice B p cp, .slice D q cq, .int .i64 at_, .agg #[.int .i64 by_.owner, .int .i64 by_.depth], .int .i64 th] w fun r w' => r = .returned (.bool true) ∧ Below w.heap.size w w' := by
  have hX := mutexesL_ok l
  go_enter Try.func7, Try.ntmps7
  go_wp2_with (fail)
  have hb0 : Below w.heap.size w (w.alloc (.cells #[.int .i64 by_.owner, .int .i64 by_.depth] 30)) := (Below.refl _ _).alloc (Nat.le_refl _) _
  replace h := h.onF hb0 hb0.size
  replace ho := ho.onF hb0 hb0.size
  replace hR := hR.onF hb0 hb0.size
  have hc0 : (w.alloc (.cells #[.int .i64 by_.owner, .int .i64 by_.depth] 30)).cell? ⟨w.heap.size, 0, none⟩ = some (.int .i64 by_.owner) := by simp
  have hc1' : (w.alloc (.cells #[.int .i64 by_.owner, .int .i64 by_.depth] 30)).cell? ⟨w.heap.size, 1, none⟩ = some (.int .i64 by_.depth) := by simp
  have hW0 : (w.alloc (.cells #[.int .i64 by_.owner, .int .i64 by_.depth] 30)).heap.size = w.heap.size + 1 := by simp
  generalize w.alloc (.cells #[.int .i64 by_.owner, .int .i64 by_.depth] 30) = W at *
  have hw := Below.refl W.heap.size W
  go_wp2_with (fail)
  refine (mutexes_any A n c l _ h).mono ?_
  rintro r w1 ⟨A1, c1, rfl, hc1, hx, hb⟩
  replace hw := hw.trans (hb.mono hw.size)
  replace ho := ho.onF hb hb.size
  replace hR := hR.onF hb hb.size
  clear hb
  generalize mutexesL l = X at *
  generalize hn1 : X.length = n1 at *
  clear hn1 h
  go_wp2_with (fail)
  refine (made_any A1 B n1 c1 p cp X o _ hx hX ho).mono ?_
  rintro r w2 ⟨T, A2, c2, rfl, hc2, ht, hot, hG, hv⟩
  have hx1 := hx
  have hws := hw.size
  replace hw := hw.trans (hv.mono hw.size)
  replace hx := hx.onF hv hv.size
  replace hR := hR.onF hv hv.size
  have hTk := hG.tok (by omega) (by omega)
  have hlen := hTk.len
  have hNb := own_length_le hX
  generalize hN : (own X).length = N at *
  have HLEN := hide hlen
  clear hN ho hlen
  have HV := hide hG.valid
  go_wp2_with (fail)
  refine (within_any th 7 (by omega) (by omega) _).mono ?_
  rintro r w' ⟨rfl, rfl⟩
  have hth2 := within_range (x := th) (n := 7) (by omega)
  generalize within th 7 = th2 at *
  go_wp2_with (fail)
  refine (valid_any A1 A2 n1 c1 N c2 X T _ _ hx hX ht).mono ?_
  rintro r w' ⟨rfl, hb⟩
  replace hw := hw.trans (hb.mono hw.size)
  replace hx := hx.onF hb hb.size
  replace ht := ht.onF hb hb.size
  replace hR := hR.onF hb hb.size
  replace hot := own_below' hot hb
  replace hv := hv.trans (hb.mono hv.size)
  clear hb
  go_wp2_with (fail)
  refine (refValid_any A1 A2 n1 c1 N c2 X T _ _ hx hX ht).mono ?_
  rintro r w' ⟨rfl, hb⟩
  replace hw := hw.trans (hb.mono hw.size)
  replace hx := hx.onF hb hb.size
  replace ht := ht.onF hb hb.size
  replace hR := hR.onF hb hb.size
  replace hot := own_below' hot hb
  replace hv := hv.trans (hb.mono hv.size)
  clear hb
  generalize validT X T (th2 - 1) = v1 at *
  go_wp2_with (fail)
  refine (valid_any A1 A2 n1 c1 N c2 X T 4 _ hx hX ht).mono ?_
  rintro r w' ⟨rfl, hb⟩
  replace hw := hw.trans (hb.mono hw.size)
  replace hx := hx.onF hb hb.size
  replace ht := ht.onF hb hb.size
  replace hR := hR.onF hb hb.size
  replace hot := own_below' hot hb
  replace hv := hv.trans (hb.mono hv.size)
  clear hb
  rw [HV.out]
  go_wp2_with (fail)
  refine (valid_any A1 D n1 c1 q cq X R _ _ hx hX hR).mono ?_
  rintro r w' ⟨rfl, hb⟩
  replace hw := hw.trans (hb.mono hw.size)
  replace hx := hx.onF hb hb.size
  replace ht := ht.onF hb hb.size
  replace hR := hR.onF hb hb.size
  replace hot := own_below' hot hb
  replace hv := hv.trans (hb.mono hv.size)
  clear hb
  go_wp2_with (fail)
  refine (refValid_any A1 D n1 c1 q cq X R _ _ hx hX hR).mono ?_
  rintro r w' ⟨rfl, hb⟩
  replace hw := hw.trans (hb.mono hw.size)
  replace hx := hx.onF hb hb.size
  replace ht := ht.onF hb hb.size
  replace hot := own_below' hot hb
  replace hv := hv.trans (hb.mono hv.size)
  clear hb
  generalize validT X R (th2 - 1) = v2 at *
  clear HV hR hG
  by_cases hN0 : N = 0
  · subst hN0
    go_wp2_with (fail)
    refine (valid_any A1 A2 n1 c1 0 c2 X T 4 _ hx hX ht).mono ?_
    rintro r w' ⟨rfl, hb⟩
    replace hw := hw.trans (hb.mono hw.size)
    replace hx := hx.onF hb hb.size
    replace ht := ht.onF hb hb.size
    clear hb
    go_wp2_with (fail)
    refine (refValid_any A1 A2 n1 c1 0 c2 X T 4 _ hx hX ht).mono ?_
    rintro r w' ⟨rfl, hb⟩
    replace hw := hw.trans (hb.mono hw.size)
    replace hx := hx.onF hb hb.size
    replace ht := ht.onF hb hb.size
    clear hb
    generalize validT X T 4 = v3 at *
    go_wp2_with (fail)
    refine (awake_any _).mono ?_
    rintro r w' ⟨rfl, hb⟩
    replace hw := hw.trans (hb.mono hw.size)
    clear hb
    go_wp2
    go_ret
    exact ⟨rfl, hb0.trans (hw.mono (by omega))⟩
  have hN1 : 0 < N := by omega
  have hN2 : (0 : Int) < (N : Int) := by omega
  clear hN0
  have d0 := (hw.cell (p := ⟨w.heap.size, 0, none⟩) (by simp only [hW0]; omega)).trans hc0
  have d1 := (hw.cell (p := ⟨w.heap.size, 1, none⟩) (by simp only [hW0]; omega)).trans hc1'
  clear hc0 hc1'
  have ha2 := within_range (x := at_) (n := N) (by omega)
  have ho2 := within_range (x := by_.owner) (n := 7) (by omega)
  have hd2 := within_range (x := by_.depth) (n := 4) (by omega)
  obtain ⟨k, hk⟩ := Int.eq_ofNat_of_zero_le ha2.1
  have hkN : k < N := by omega
  have s1 := hide (fun W' => (within_same at_ N (by omega) (by omega) W').mono (fun e w' hh => And.intro (show e = .returned (.int .i64 (k : Int)) by rw [hh.1, hk]) hh.2))
  have s2 := hide (fun W' => within_same by_.owner 7 (by omega) (by omega) W')
  have s3 := hide (fun W' => within_same by_.depth 4 (by omega) (by omega) W')
  generalize within by_.owner 7 = o2 at *
  generalize within by_.depth 4 = d2 at *
  obtain ⟨hd, hx2⟩ : ∃ hd, T[k]? = some hd := ⟨_, List.getElem?_eq_getElem (by have := HLEN.out; omega)⟩
  obtain ⟨g, rfl, hg, hglt, e0, e1, ef, f0, f1⟩ := own_hold hot hkN hx2
  have ef0 := ef (k * 2)
  have ef1 := ef (k * 2 + 1)
  have S0 := hide (f0 (o2 - 1))
  have hk0 : (0 : Int) ≤ (k : Int) := by omega
  have hk1 : (k : Int) < (N : Int) := by omega
  have hw1 : IntKind.i64.wrap (o2 - 1) = o2 - 1 := IntWalk.i64_in _ (by omega)
  have hw2 : IntKind.i64.wrap (d2 - 1) = d2 - 1 := IntWalk.i64_in _ (by omega)
  clear ha2 hk ef f0 f1 hx2
  go_wp2
  go_still_tail 15, (by kernel_rfl)
  still_call (s1.out _)
  repeat still_step
  still_call (s2.out _)
  repeat still_step
  still_call (s3.out _)
  repeat still_step
  refine wpStill_nil ?_
  change wpList _ _ _ _ _ w'.drew
  have hvf := ((hv.setCell (p := ⟨g, k * 2, none⟩) hg (.int .i64 (o2 - 1))).setCell (p := ⟨g, k * 2 + 1, none⟩) hg (.int .i64 (d2 - 1))).drew
  have hwf := ((hw.setCell (p := ⟨g, k * 2, none⟩) (Nat.le_trans hws hg) (.int .i64 (o2 - 1))).setCell (p := ⟨g, k * 2 + 1, none⟩) (Nat.le_trans hws hg) (.int .i64 (d2 - 1))).drew
  have hT2 : ((w'.setCell ⟨g, k * 2, none⟩ (.int .i64 (o2 - 1))).setCell ⟨g, k * 2 + 1, none⟩ (.int .i64 (d2 - 1))).ownsRow w1.heap.size 30 2 (.slice (some ⟨g, 0, none⟩) N c2) N ((T.set k ⟨o2 - 1, d2 - 1⟩).flatMap cHold) := by
    have hx2 : (T.set k ⟨o2 - 1, hd.depth⟩)[k]? = some ⟨o2 - 1, hd.depth⟩ := by rw [List.getElem?_set_self (by have := HLEN.out; omega)]
    obtain ⟨g', hg', _, _, _, _, _, _, s1⟩ := own_hold S0.out hkN hx2
    injection hg' with hg'
    injection hg' with hg'
    subst hg'
    have := s1 (d2 - 1)
    rw [List.set_set] at this
    exact this
  have ht2 : SlR (EF cHold) 2 _ _ _ N (T.set k ⟨o2 - 1, d2 - 1⟩) := own_read hT2 (len_cHold _) (by rw [List.length_set]; exact HLEN.out)
  replace ht2 := ht2.drewF
  replace hx := hx1.onF hvf hvf.size
  replace hw := hwf
  clear ht d0 d1 s1 s2 s3 hT2 hvf hwf hv hot hx1 S0
  go_wp2_with (fail)
  clear e0 e1 ef0 ef1 hw1 hw2
  generalize ((w'.setCell ⟨g, k * 2, none⟩ (.int .i64 (o2 - 1))).setCell ⟨g, k * 2 + 1, none⟩ (.int .i64 (d2 - 1))).drew = w5 at *
  generalize T.set k ⟨o2 - 1, d2 - 1⟩ = T2 at *
  go_wp2_with (fail)
  refine (valid_any A1 _ n1 c1 N c2 X T2 4 _ hx hX ht2).mono ?_
  rintro r w' ⟨rfl, hb⟩
  replace hw := hw.trans (hb.mono hw.size)
  replace hx := hx.onF hb hb.size
  replace ht2 := ht2.onF hb hb.size
  clear hb
  go_wp2_with (fail)
  refine (refValid_any A1 _ n1 c1 N c2 X T2 4 _ hx hX ht2).mono ?_
  rintro r w' ⟨rfl, hb⟩
  replace hw := hw.trans (hb.mono hw.size)
  replace hx := hx.onF hb hb.size
  replace ht2 := ht2.onF hb hb.size
  clear hb
  generalize validT X T2 4 = v3 at *
  go_wp2_with (fail)
  refine (awake_any _).mono ?_
  rintro r w' ⟨rfl, hb⟩
  replace hw := hw.trans (hb.mono hw.size)
  clear hb
  go_wp2
  go_ret
  exact ⟨rfl, hb0.trans (hw.mono (by omega))⟩
end Go.Proofs.Ytbbjncjkddekfaa

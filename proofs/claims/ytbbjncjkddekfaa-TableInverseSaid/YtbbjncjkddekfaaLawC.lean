/- The walks of the laws TableOwner, TableInverse: they return true for every input. No condition. -/
import Derived.Test.YtbbjncjkddekfaaTabG
import Derived.Test.YtbbjncjkddekfaaTabH
namespace Go.Proofs.Ytbbjncjkddekfaa
open Go.RowKit
attribute [local go_sem ↓] run_max2 run_min2

set_option maxHeartbeats 3200000 in
theorem tableOwner_any (A B : Option Addr) (n c p cp : Nat) (l o : List Int) (e a b : Int) (w : World) (h : SlR (EF cInt) 1 w w.heap.size A n l) (ho : SlR (EF cInt) 1 w w.heap.size B p o) :
    Calls Try.prog 6 #[.slice A n c, .slice B p cp, .int .i64 e, .int .i64 a, .int .i64 b] w fun r w' => r = .returned (.bool true) ∧ Below w.heap.size w w' := by
  have hw := Below.refl w.heap.size w
  have hX := mutexesL_ok l
  go_enter Try.func6, Try.ntmps6
  go_wp2_with (fail)
  refine (mutexes_any A n c l _ h).mono ?_
  rintro r w' ⟨A1, c1, rfl, hc1, hx, hb⟩
  replace hw := hw.trans (hb.mono hw.size)
  replace ho := ho.onF hb hb.size
  clear hb
  generalize mutexesL l = X at *
  generalize hn1 : X.length = n1 at *
  clear hn1 h
  go_wp2_with (fail)
  refine (made_any A1 B n1 c1 p cp X o _ hx hX ho).mono ?_
  rintro r w' ⟨T, A2, c2, rfl, hc2, ht, _, hG, hb⟩
  replace hw := hw.trans (hb.mono hw.size)
  replace hx := hx.onF hb hb.size
  clear hb
  have hTk := hG.tok (by omega) (by omega)
  have hlen := hTk.len
  have hNb := own_length_le hX
  generalize hN : (own X).length = N at *
  have HLEN := hide hlen
  clear hN ho hlen
  by_cases hN0 : N = 0
  · subst hN0
    go_wp2_with (fail)
    refine (awake_any _).mono ?_
    rintro r w' ⟨rfl, hb⟩
    replace hw := hw.trans (hb.mono hw.size)
    clear hb
    go_wp2
    go_ret
    exact ⟨rfl, hw⟩
  have hN1 : 0 < N := by omega
  have hN2 : ((N : Int) == 0) = false := by simp; omega
  clear hN0
  go_wp2_with (fail)
  refine (within_any e N (by omega) (by omega) _).mono ?_
  rintro r w' ⟨rfl, rfl⟩
  have he2 := within_range (x := e) (n := N) (by omega)
  generalize within e N = e2 at *
  go_wp2_with (fail)
  refine (within_any a 4 (by omega) (by omega) _).mono ?_
  rintro r w' ⟨rfl, rfl⟩
  have ha2 := within_range (x := a) (n := 4) (by omega)
  generalize within a 4 = a2 at *
  go_wp2_with (fail)
  refine (within_any b 4 (by omega) (by omega) _).mono ?_
  rintro r w' ⟨rfl, rfl⟩
  have hb2 := within_range (x := b) (n := 4) (by omega)
  generalize within b 4 = b2 at *
  have hG6 := hG.mono (n' := 6) (d' := 60) (by omega) (by omega)
  have hTu := (hG6.lock e2 a2 (by omega) (by omega)).tok (by omega) (by omega)
  go_wp2_with (fail)
  refine (lock_any A1 A2 n1 c1 N c2 X T _ _ _ hx hX ht hTk (by omega) (by omega)).mono ?_
  intro r w' hres
  obtain ⟨A3, c3, rfl, hc3, hu, _, hb⟩ := hres.open_ (show _ = N by rw [lockT_length]; exact HLEN.out)
  clear hres
  replace hw := hw.trans (hb.mono hw.size)
  replace hx := hx.onF hb hb.size
  clear hb
  cases hf : free X T e2 a2 with
  | false =>
    go_wp2_with (fail)
    refine (awake_any _).mono ?_
    rintro r w' ⟨rfl, hb⟩
    replace hw := hw.trans (hb.mono hw.size)
    clear hb
    go_wp2
    go_ret
    exact ⟨rfl, hw⟩
  | true =>
    by_cases hab : a2 = b2
    · have g1 : (a2 == b2) = true := by simpa using hab
      clear hab
      go_wp2_with (fail)
      refine (awake_any _).mono ?_
      rintro r w' ⟨rfl, hb⟩
      replace hw := hw.trans (hb.mono hw.size)
      clear hb
      go_wp2
      go_ret
      exact ⟨rfl, hw⟩
    have g1 : (a2 == b2) = false := by simpa using hab
    have hf2 := free_other hG.len hf hab
    have hh2 := held_other hG.len hf hab
    clear hf hab hG hG6
    have HLU := hide (show (lockT X T e2 a2).length = N by rw [lockT_length]; exact HLEN.out)
    generalize lockT X T e2 a2 = U at *
    go_wp2_with (fail)
    refine (lock_any A1 A3 n1 c1 N c3 X U _ _ _ hx hX hu hTu (by omega) (by omega)).mono ?_
    intro r w' hres
    obtain ⟨A4, c4, rfl, hc4, hv, _, hb⟩ := hres.open_ (show _ = N by rw [lockT_length]; exact HLU.out)
    clear hres
    replace hw := hw.trans (hb.mono hw.size)
    replace hx := hx.onF hb hb.size
    replace hu := hu.onF hb hb.size
    clear hb
    go_wp2_with (fail)
    refine (unlock_any A1 A3 n1 c1 N c3 X U _ _ _ hX hu hTu (by omega)).mono ?_
    intro r w' hres
    obtain ⟨A5, c5, rfl, hc5, hy, _, hb⟩ := hres.open_ (show _ = N by rw [unlockT_length]; exact HLU.out)
    clear hres
    replace hw := hw.trans (hb.mono hw.size)
    replace hx := hx.onF hb hb.size
    replace hu := hu.onF hb hb.size
    clear hb
    rw [hh2]
    go_wp2_with (fail)
    refine (free_any A1 A3 n1 c1 N c3 X U _ _ _ hx hX hu hTu (by omega) (by omega)).mono ?_
    rintro r w' ⟨rfl, hb⟩
    replace hw := hw.trans (hb.mono hw.size)
    replace hx := hx.onF hb hb.size
    replace hu := hu.onF hb hb.size
    clear hb
    rw [hf2]
    go_wp2_with (fail)
    refine (awake_any _).mono ?_
    rintro r w' ⟨rfl, hb⟩
    replace hw := hw.trans (hb.mono hw.size)
    clear hb
    go_wp2
    go_ret
    exact ⟨rfl, hw⟩

set_option maxHeartbeats 3200000 in
theorem tableInverse_any (A B : Option Addr) (n c p cp : Nat) (l o : List Int) (e a : Int) (w : World) (h : SlR (EF cInt) 1 w w.heap.size A n l) (ho : SlR (EF cInt) 1 w w.heap.size B p o) :
    Calls Try.prog 8 #[.slice A n c, .slice B p cp, .int .i64 e, .int .i64 a] w fun r w' => r = .returned (.bool true) ∧ Below w.heap.size w w' := by
  have hw := Below.refl w.heap.size w
  have hX := mutexesL_ok l
  go_enter Try.func8, Try.ntmps8
  go_wp2_with (fail)
  refine (mutexes_any A n c l _ h).mono ?_
  rintro r w' ⟨A1, c1, rfl, hc1, hx, hb⟩
  replace hw := hw.trans (hb.mono hw.size)
  replace ho := ho.onF hb hb.size
  clear hb
  generalize mutexesL l = X at *
  generalize hn1 : X.length = n1 at *
  clear hn1 h
  go_wp2_with (fail)
  refine (made_any A1 B n1 c1 p cp X o _ hx hX ho).mono ?_
  rintro r w' ⟨T, A2, c2, rfl, hc2, ht, _, hG, hb⟩
  replace hw := hw.trans (hb.mono hw.size)
  replace hx := hx.onF hb hb.size
  clear hb
  have hTk := hG.tok (by omega) (by omega)
  have hlen := hTk.len
  have hNb := own_length_le hX
  generalize hN : (own X).length = N at *
  have HLEN := hide hlen
  clear hN ho hlen
  by_cases hN0 : N = 0
  · subst hN0
    go_wp2_with (fail)
    refine (awake_any _).mono ?_
    rintro r w' ⟨rfl, hb⟩
    replace hw := hw.trans (hb.mono hw.size)
    clear hb
    go_wp2
    go_ret
    exact ⟨rfl, hw⟩
  have hN1 : 0 < N := by omega
  have hN2 : ((N : Int) == 0) = false := by simp; omega
  have hN3 : ((N : Int) != N) = false := by simp
  clear hN0
  go_wp2_with (fail)
  refine (within_any e N (by omega) (by omega) _).mono ?_
  rintro r w' ⟨rfl, rfl⟩
  have he2 := within_range (x := e) (n := N) (by omega)
  generalize within e N = e2 at *
  go_wp2_with (fail)
  refine (within_any a 4 (by omega) (by omega) _).mono ?_
  rintro r w' ⟨rfl, rfl⟩
  have ha2 := within_range (x := a) (n := 4) (by omega)
  generalize within a 4 = a2 at *
  have hG4 := hG.lock e2 a2 (by omega) (by omega)
  have hTu := hG4.tok (by omega) (by omega)
  go_wp2_with (fail)
  refine (lock_any A1 A2 n1 c1 N c2 X T _ _ _ hx hX ht hTk (by omega) (by omega)).mono ?_
  intro r w' hres
  obtain ⟨A3, c3, rfl, hc3, hu, _, hb⟩ := hres.open_ (show _ = N by rw [lockT_length]; exact HLEN.out)
  clear hres
  replace hw := hw.trans (hb.mono hw.size)
  replace hx := hx.onF hb hb.size
  replace ht := ht.onF hb hb.size
  clear hb
  cases hf : free X T e2 a2 with
  | false =>
    rw [lockT_neg hf] at hu
    go_wp2_with (fail)
    refine (same_any A3 A2 N c3 N c2 T T _ hu ht (by omega)).mono ?_
    rintro r w' ⟨rfl, hb⟩
    replace hw := hw.trans (hb.mono hw.size)
    replace hx := hx.onF hb hb.size
    clear hb
    rw [decide_eq_true rfl]
    go_wp2_with (fail)
    refine (awake_any _).mono ?_
    rintro r w' ⟨rfl, hb⟩
    replace hw := hw.trans (hb.mono hw.size)
    clear hb
    go_wp2
    go_ret
    exact ⟨rfl, hw⟩
  | true =>
    obtain ⟨k, rfl, hk⟩ := in_range hG.len (free_in hf).1
    have hL := lockT_pos hf
    rw [Int.toNat_natCast] at hL
    have HL := hide hL
    have HUL := hide (unlock_lock hG hf)
    have HHL := hide (held_lock hG.len hf)
    have HV := hide hG4.valid
    have HLU := hide (show (lockT X T k a2).length = N by rw [lockT_length]; exact HLEN.out)
    clear hf hL hG hG4
    have hneq := neqHold
    go_wp2
    go_loopw [13] (fun i wr => ∃ j : Nat, j ≤ N ∧ i = .int .i64 j ∧ Below w.heap.size w wr ∧ Below w'.heap.size w' wr) (fun i _ => N - (intOf i).toNat)
    case atStart => exact ⟨0, Nat.zero_le _, rfl, hw, Below.refl _ _⟩
    case round =>
      obtain ⟨j, hj, rfl, hw1, hb1⟩ := hrel
      by_cases hlt : j < N
      · have hj0 : (0 : Int) ≤ (j : Int) := by omega
        have hj1 : (j : Int) < (N : Int) := by omega
        by_cases hjk : j = k
        · have g1 : ((j : Int) != (k : Int)) = false := by simp; omega
          have g2 : (j != k) = false := by simp; omega
          clear hjk
          go_wp2
          go_quiet (fail)
          go_wp2
          go_roundw
          case rel => exact ⟨j + 1, by omega, by go_num, below_drewN' hw1 _, below_drewN' hb1 _⟩
          case measure => simp [intOf]; omega
        · obtain ⟨b1, o1, hd1, hA1, hbb1, hx1, d0, d1⟩ := (hu.keepF hb1).hold hlt
          obtain ⟨b2, o2, hd2, hA2, hbb2, hx2, e0, e1⟩ := (ht.keepF hb1).hold hlt
          obtain rfl : hd1 = hd2 := by
            rw [HL.out, List.getElem?_set, if_neg (Ne.symm hjk)] at hx1
            rw [hx1] at hx2
            injection hx2
          subst hA1 hA2
          have g1 : ((j : Int) != (k : Int)) = true := by simp; omega
          have g2 : (j != k) = true := by simp; omega
          clear hx1 hx2 hjk
          go_wp2
          go_quiet (fail)
          go_wp2
          go_roundw
          case rel => exact ⟨j + 1, by omega, by go_num, below_drewN' hw1 _, below_drewN' hb1 _⟩
          case measure => simp [intOf]; omega
      · obtain rfl : j = N := by omega
        clear hneq
        replace hx := hx.onF hb1 hb1.size
        replace ht := ht.onF hb1 hb1.size
        replace hu := hu.onF hb1 hb1.size
        replace hw := hw1
        clear hw1 hb1
        generalize lockT X T k a2 = U at *
        go_wp2_with (fail)
        refine (unlock_any A1 A3 n1 c1 j c3 X U _ _ _ hX hu hTu (by omega)).mono ?_
        intro r w' hres
        obtain ⟨A5, c5, rfl, hc5, hy, _, hb⟩ := hres.open_ (show _ = j by rw [unlockT_length]; exact HLU.out)
        clear hres
        replace hw := hw.trans (hb.mono hw.size)
        replace hx := hx.onF hb hb.size
        replace hu := hu.onF hb hb.size
        replace ht := ht.onF hb hb.size
        clear hb
        rw [HHL.out]
        rw [HUL.out] at hy
        go_wp2_with (fail)
        refine (same_any A5 A2 j c5 j c2 T T _ hy ht (by omega)).mono ?_
        rintro r w' ⟨rfl, hb⟩
        replace hw := hw.trans (hb.mono hw.size)
        replace hx := hx.onF hb hb.size
        replace hu := hu.onF hb hb.size
        clear hb
        rw [decide_eq_true rfl]
        go_wp2_with (fail)
        refine (valid_any A1 A3 n1 c1 j c3 X U 4 _ hx hX hu).mono ?_
        rintro r w' ⟨rfl, hb⟩
        replace hw := hw.trans (hb.mono hw.size)
        clear hb
        rw [HV.out]
        go_wp2_with (fail)
        refine (awake_any _).mono ?_
        rintro r w' ⟨rfl, hb⟩
        replace hw := hw.trans (hb.mono hw.size)
        clear hb
        go_wp2
        go_ret
        exact ⟨rfl, hw⟩
end Go.Proofs.Ytbbjncjkddekfaa

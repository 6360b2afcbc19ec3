/- The walks of the laws TableDepth, TableLock, TableOwner, TableInverse: they return true for every input. No condition. -/
import Derived.Test.YtbbjncjkddekfaaTabG
import Derived.Test.YtbbjncjkddekfaaTabH
namespace Go.Proofs.Ytbbjncjkddekfaa
open Go.RowKit
attribute [local go_sem ↓] run_max2 run_min2

set_option maxHeartbeats 3200000 in
theorem tableDepth_any (A B : Option Addr) (n c p cp : Nat) (l o : List Int) (m th e : Int) (w : World) (h : SlR (EF cInt) 1 w w.heap.size A n l) (ho : SlR (EF cInt) 1 w w.heap.size B p o) :
    Calls Try.prog 4 #[.slice A n c, .slice B p cp, .int .i64 m, .int .i64 th, .int .i64 e] w fun r w' => r = .returned (.bool true) ∧ Below w.heap.size w w' := by
  have hw := Below.refl w.heap.size w
  have hX := mutexesL_ok l
  go_enter Try.func4, Try.ntmps4
  go_wp2_with (fail)
  refine (mutexes_any A n c l _ h).mono ?_
  rintro r w' ⟨A1, c1, rfl, hc1, hx, hb⟩
  replace hw := hw.trans (hb.mono hw.size)
  replace ho := ho.onF hb hb.size
  clear hb
  generalize mutexesL l = X at *
  generalize hn1 : X.length = n1 at *
  clear hn1 h
  go_wp2_with (fail)
  refine (made_any A1 B n1 c1 p cp X o _ hx hX ho).mono ?_
  rintro r w' ⟨T, A2, c2, rfl, hc2, ht, _, hG, hb⟩
  replace hw := hw.trans (hb.mono hw.size)
  replace hx := hx.onF hb hb.size
  clear hb
  have hTk := hG.tok (by omega) (by omega)
  have hlen := hTk.len
  have hNb := own_length_le hX
  generalize hN : (own X).length = N at *
  have HN := hide hN
  have HLEN := hide hlen
  clear hN ho hlen
  go_wp2_with (fail)
  refine (within_any m 14 (by omega) (by omega) _).mono ?_
  rintro r w' ⟨rfl, rfl⟩
  have hm2 := within_range (x := m) (n := 14) (by omega)
  generalize within m 14 = m2 at *
  go_wp2_with (fail)
  refine (within_any th 6 (by omega) (by omega) _).mono ?_
  rintro r w' ⟨rfl, rfl⟩
  have hth2 := within_range (x := th) (n := 6) (by omega)
  generalize within th 6 = th2 at *
  go_wp2_with (fail)
  refine (within_any e (max 1 (N : Int)) (by omega) (by omega) _).mono ?_
  rintro r w' ⟨rfl, rfl⟩
  have he2 := within_range (x := e) (n := max 1 (N : Int)) (by omega)
  generalize within e (max 1 (N : Int)) = e2 at *
  go_wp2_with (fail)
  refine (depth_any A1 A2 n1 c1 N c2 X T _ _ _ hx hX hc1 ht hTk hc2).mono ?_
  rintro r w' ⟨rfl, hb⟩
  replace hw := hw.trans (hb.mono hw.size)
  replace hx := hx.onF hb hb.size
  replace ht := ht.onF hb hb.size
  clear hb
  go_wp2_with (fail)
  refine (refDepth_any A1 A2 n1 c1 N c2 X T _ _ _ hx hX ht hTk (by omega) (by omega)).mono ?_
  rintro r w' ⟨rfl, hb⟩
  replace hw := hw.trans (hb.mono hw.size)
  replace hx := hx.onF hb hb.size
  replace ht := ht.onF hb hb.size
  clear hb
  have hm1 : -1 ≤ m2 - 1 ∧ m2 - 1 ≤ 12 := by omega
  have ht1 : -1 ≤ th2 - 1 ∧ th2 - 1 ≤ 4 := by omega
  generalize m2 - 1 = m1 at *
  generalize th2 - 1 = t1 at *
  clear hm2 hth2
  have hDB := hide (show 0 ≤ depth X T m1 t1 ∧ depth X T m1 t1 ≤ 5000000000000 by
    have := depTo_bound hTk m1 t1 (own X).length
    have h2 := HN.out
    unfold depth
    omega)
  have hG6 := hG.mono (n' := 6) (d' := 60) (by omega) (by omega)
  have hTu := (hG6.lock e2 t1 (by omega) (by omega)).tok (by omega) (by omega)
  go_wp2_with (fail)
  refine (lock_any A1 A2 n1 c1 N c2 X T _ _ _ hx hX ht hTk (by omega) (by omega)).mono ?_
  intro r w' hres
  obtain ⟨A3, c3, rfl, hc3, hu, _, hb⟩ := hres.open_ (show _ = N by rw [lockT_length]; exact HLEN.out)
  clear hres
  replace hw := hw.trans (hb.mono hw.size)
  replace hx := hx.onF hb hb.size
  replace ht := ht.onF hb hb.size
  clear hb
  cases hf : free X T e2 t1 with
  | false =>
    have HD := hide (show depth X (lockT X T e2 t1) m1 t1 = depth X T m1 t1 by rw [lockT_neg hf])
    clear hf hG hG6
    go_wp2_with (fail)
    refine (depth_any A1 A3 n1 c1 N c3 X _ _ _ _ hx hX hc1 hu hTu hc3).mono ?_
    rintro r w' ⟨rfl, hb⟩
    replace hw := hw.trans (hb.mono hw.size)
    replace hx := hx.onF hb hb.size
    replace ht := ht.onF hb hb.size
    clear hb
    rw [HD.out]
    go_wp2_with (fail)
    refine (depth_any A1 A2 n1 c1 N c2 X T _ _ _ hx hX hc1 ht hTk hc2).mono ?_
    rintro r w' ⟨rfl, hb⟩
    replace hw := hw.trans (hb.mono hw.size)
    replace hx := hx.onF hb hb.size
    replace ht := ht.onF hb hb.size
    clear hb
    have hDb := hDB.out
    generalize depth X T m1 t1 = D at *
    go_wp2_with (fail)
    refine (awake_any _).mono ?_
    rintro r w' ⟨rfl, hb⟩
    replace hw := hw.trans (hb.mono hw.size)
    clear hb
    go_wp2
    go_ret
    exact ⟨rfl, hw⟩
  | true =>
    by_cases h0 : 0 ≤ m1
    case neg =>
      have HD := hide (show depth X (lockT X T e2 t1) m1 t1 = depth X T m1 t1 by rw [depth_lock hG6 hf, if_neg (fun hh => by have := (free_in hf).1; omega), Int.add_zero])
      clear hf hG hG6
      go_wp2_with (fail)
      refine (depth_any A1 A3 n1 c1 N c3 X _ _ _ _ hx hX hc1 hu hTu hc3).mono ?_
      rintro r w' ⟨rfl, hb⟩
      replace hw := hw.trans (hb.mono hw.size)
      replace hx := hx.onF hb hb.size
      replace ht := ht.onF hb hb.size
      clear hb
      rw [HD.out]
      go_wp2_with (fail)
      refine (depth_any A1 A2 n1 c1 N c2 X T _ _ _ hx hX hc1 ht hTk hc2).mono ?_
      rintro r w' ⟨rfl, hb⟩
      replace hw := hw.trans (hb.mono hw.size)
      replace hx := hx.onF hb hb.size
      replace ht := ht.onF hb hb.size
      clear hb
      have hDb := hDB.out
      generalize depth X T m1 t1 = D at *
      go_wp2_with (fail)
      refine (awake_any _).mono ?_
      rintro r w' ⟨rfl, hb⟩
      replace hw := hw.trans (hb.mono hw.size)
      clear hb
      go_wp2
      go_ret
      exact ⟨rfl, hw⟩
    go_wp2_with (fail)
    refine (mutexOf_any A1 n1 c1 X _ _ hx hX (by omega)).mono ?_
    rintro r w' ⟨rfl, hb⟩
    replace hw := hw.trans (hb.mono hw.size)
    replace hx := hx.onF hb hb.size
    replace ht := ht.onF hb hb.size
    replace hu := hu.onF hb hb.size
    clear hb
    by_cases h1 : mutexOf X e2 = m1
    · have g1 : (mutexOf X e2 == m1) = true := by simpa using h1
      have HD := hide (show depth X (lockT X T e2 t1) m1 t1 = depth X T m1 t1 + 1 by rw [depth_lock hG6 hf, if_pos h1])
      clear hf hG hG6 h1
      go_wp2_with (fail)
      refine (depth_any A1 A3 n1 c1 N c3 X _ _ _ _ hx hX hc1 hu hTu hc3).mono ?_
      rintro r w' ⟨rfl, hb⟩
      replace hw := hw.trans (hb.mono hw.size)
      replace hx := hx.onF hb hb.size
      replace ht := ht.onF hb hb.size
      clear hb
      rw [HD.out]
      go_wp2_with (fail)
      refine (depth_any A1 A2 n1 c1 N c2 X T _ _ _ hx hX hc1 ht hTk hc2).mono ?_
      rintro r w' ⟨rfl, hb⟩
      replace hw := hw.trans (hb.mono hw.size)
      replace hx := hx.onF hb hb.size
      replace ht := ht.onF hb hb.size
      clear hb
      have hDb := hDB.out
      generalize depth X T m1 t1 = D at *
      go_wp2_with (fail)
      refine (awake_any _).mono ?_
      rintro r w' ⟨rfl, hb⟩
      replace hw := hw.trans (hb.mono hw.size)
      clear hb
      go_wp2
      go_ret
      exact ⟨rfl, hw⟩
    · have g1 : (mutexOf X e2 == m1) = false := by simpa using h1
      have HD := hide (show depth X (lockT X T e2 t1) m1 t1 = depth X T m1 t1 by rw [depth_lock hG6 hf, if_neg h1, Int.add_zero])
      clear hf hG hG6 h1
      go_wp2_with (fail)
      refine (depth_any A1 A3 n1 c1 N c3 X _ _ _ _ hx hX hc1 hu hTu hc3).mono ?_
      rintro r w' ⟨rfl, hb⟩
      replace hw := hw.trans (hb.mono hw.size)
      replace hx := hx.onF hb hb.size
      replace ht := ht.onF hb hb.size
      clear hb
      rw [HD.out]
      go_wp2_with (fail)
      refine (depth_any A1 A2 n1 c1 N c2 X T _ _ _ hx hX hc1 ht hTk hc2).mono ?_
      rintro r w' ⟨rfl, hb⟩
      replace hw := hw.trans (hb.mono hw.size)
      replace hx := hx.onF hb hb.size
      replace ht := ht.onF hb hb.size
      clear hb
      have hDb := hDB.out
      generalize depth X T m1 t1 = D at *
      go_wp2_with (fail)
      refine (awake_any _).mono ?_
      rintro r w' ⟨rfl, hb⟩
      replace hw := hw.trans (hb.mono hw.size)
      clear hb
      go_wp2
      go_ret
      exact ⟨rfl, hw⟩

set_option maxHeartbeats 3200000 in
theorem tableLock_any (A B : Option Addr) (n c p cp : Nat) (l o : List Int) (e th : Int) (raw : Bool) (w : World) (h : SlR (EF cInt) 1 w w.heap.size A n l) (ho : SlR (EF cInt) 1 w w.heap.size B p o) (he : e ≤ 9223372036854775807) :
    Calls Try.prog 5 #[.slice A n c, .slice B p cp, .int .i64 e, .int .i64 th, .bool raw] w fun r w' => r = .returned (.bool true) ∧ Below w.heap.size w w' := by
  have hw := Below.refl w.heap.size w
  have hX := mutexesL_ok l
  go_enter Try.func5, Try.ntmps5
  go_wp2_with (fail)
  refine (mutexes_any A n c l _ h).mono ?_
  rintro r w' ⟨A1, c1, rfl, hc1, hx, hb⟩
  replace hw := hw.trans (hb.mono hw.size)
  replace ho := ho.onF hb hb.size
  clear hb
  generalize mutexesL l = X at *
  generalize hn1 : X.length = n1 at *
  clear hn1 h
  go_wp2_with (fail)
  refine (made_any A1 B n1 c1 p cp X o _ hx hX ho).mono ?_
  rintro r w' ⟨T, A2, c2, rfl, hc2, ht, _, hG, hb⟩
  replace hw := hw.trans (hb.mono hw.size)
  replace hx := hx.onF hb hb.size
  clear hb
  have hTk := hG.tok (by omega) (by omega)
  have hlen := hTk.len
  have hNb := own_length_le hX
  generalize hN : (own X).length = N at *
  have HLEN := hide hlen
  clear hN ho hlen
  cases raw
  case true =>
    go_wp2_with (fail)
    have ht1 : min th 4611686018427387904 ≤ 4611686018427387904 := Int.min_le_right _ _
    have he1 := he
    clear he
    generalize min th 4611686018427387904 = t1 at *
    generalize e = e1 at *
    go_wp2_with (fail)
    refine (lock_any A1 A2 n1 c1 N c2 X T _ _ _ hx hX ht hTk he1 ht1).mono ?_
    intro r w' hres
    obtain ⟨A3, c3, rfl, hc3, hu, _, hb⟩ := hres.open_ (show _ = N by rw [lockT_length]; exact HLEN.out)
    clear hres
    replace hw := hw.trans (hb.mono hw.size)
    replace hx := hx.onF hb hb.size
    replace ht := ht.onF hb hb.size
    clear hb
    go_wp2_with (fail)
    refine (refLock_any A1 A2 n1 c1 N c2 X T _ _ _ hx hX ht hTk ht1).mono ?_
    intro r w' hres
    obtain ⟨A4, c4, rfl, hc4, hv, _, hb⟩ := hres.open_ (show _ = N by rw [lockT_length]; exact HLEN.out)
    clear hres
    replace hw := hw.trans (hb.mono hw.size)
    replace hx := hx.onF hb hb.size
    replace ht := ht.onF hb hb.size
    replace hu := hu.onF hb hb.size
    clear hb
    go_wp2_with (fail)
    refine (unlock_any A1 A2 n1 c1 N c2 X T _ _ _ hX ht hTk ht1).mono ?_
    intro r w' hres
    obtain ⟨A5, c5, rfl, hc5, hy, _, hb⟩ := hres.open_ (show _ = N by rw [unlockT_length]; exact HLEN.out)
    clear hres
    replace hw := hw.trans (hb.mono hw.size)
    replace hx := hx.onF hb hb.size
    replace ht := ht.onF hb hb.size
    replace hu := hu.onF hb hb.size
    replace hv := hv.onF hb hb.size
    clear hb
    go_wp2_with (fail)
    refine (refUnlock_any A1 A2 n1 c1 N c2 X T _ _ _ hx hX ht hTk ht1).mono ?_
    intro r w' hres
    obtain ⟨A6, c6, rfl, hc6, hz, _, hb⟩ := hres.open_ (show _ = N by rw [unlockT_length]; exact HLEN.out)
    clear hres
    replace hw := hw.trans (hb.mono hw.size)
    replace hx := hx.onF hb hb.size
    replace ht := ht.onF hb hb.size
    replace hu := hu.onF hb hb.size
    replace hv := hv.onF hb hb.size
    replace hy := hy.onF hb hb.size
    clear hb
    generalize lockT X T e1 t1 = L at *
    generalize unlockT X T e1 t1 = U at *
    go_wp2_with (fail)
    refine (same_any A3 A4 N c3 N c4 L L _ hu hv (by omega)).mono ?_
    rintro r w' ⟨rfl, hb⟩
    replace hw := hw.trans (hb.mono hw.size)
    replace hx := hx.onF hb hb.size
    replace ht := ht.onF hb hb.size
    replace hy := hy.onF hb hb.size
    replace hz := hz.onF hb hb.size
    clear hb
    rw [decide_eq_true rfl]
    go_wp2_with (fail)
    refine (same_any A5 A6 N c5 N c6 U U _ hy hz (by omega)).mono ?_
    rintro r w' ⟨rfl, hb⟩
    replace hw := hw.trans (hb.mono hw.size)
    replace hx := hx.onF hb hb.size
    replace ht := ht.onF hb hb.size
    clear hb
    rw [decide_eq_true rfl]
    go_wp2_with (fail)
    refine (free_any A1 A2 n1 c1 N c2 X T _ _ _ hx hX ht hTk he1 ht1).mono ?_
    rintro r w' ⟨rfl, hb⟩
    replace hw := hw.trans (hb.mono hw.size)
    replace hx := hx.onF hb hb.size
    replace ht := ht.onF hb hb.size
    clear hb
    go_wp2_with (fail)
    refine (refFree_any A1 A2 n1 c1 N c2 X T _ _ _ hx hX ht hTk ht1).mono ?_
    rintro r w' ⟨rfl, hb⟩
    replace hw := hw.trans (hb.mono hw.size)
    replace hx := hx.onF hb hb.size
    replace ht := ht.onF hb hb.size
    clear hb
    go_wp2_with (fail)
    refine (free_any A1 A2 n1 c1 N c2 X T _ _ _ hx hX ht hTk he1 ht1).mono ?_
    rintro r w' ⟨rfl, hb⟩
    replace hw := hw.trans (hb.mono hw.size)
    replace hx := hx.onF hb hb.size
    replace ht := ht.onF hb hb.size
    clear hb
    generalize free X T e1 t1 = F at *
    generalize heldBy X T e1 t1 = H at *
    go_wp2_with (fail)
    refine (awake_any _).mono ?_
    rintro r w' ⟨rfl, hb⟩
    replace hw := hw.trans (hb.mono hw.size)
    clear hb
    go_wp2
    go_ret
    exact ⟨rfl, hw⟩
  case false =>
    go_wp2_with (fail)
    refine (within_any e (max 1 (N : Int)) (by omega) (by omega) _).mono ?_
    rintro r w' ⟨rfl, rfl⟩
    have he2 := within_range (x := e) (n := max 1 (N : Int)) (by omega)
    generalize within e (max 1 (N : Int)) = e1 at *
    go_wp2_with (fail)
    refine (within_any th 4 (by omega) (by omega) _).mono ?_
    rintro r w' ⟨rfl, rfl⟩
    have hth2 := within_range (x := th) (n := 4) (by omega)
    generalize within th 4 = th2 at *
    go_wp2_with (fail)
    have ht1 : min th2 4611686018427387904 ≤ 4611686018427387904 := Int.min_le_right _ _
    have he1 : e1 ≤ 9223372036854775807 := by omega
    clear he hth2
    generalize min th2 4611686018427387904 = t1 at *
    go_wp2_with (fail)
    refine (lock_any A1 A2 n1 c1 N c2 X T _ _ _ hx hX ht hTk he1 ht1).mono ?_
    intro r w' hres
    obtain ⟨A3, c3, rfl, hc3, hu, _, hb⟩ := hres.open_ (show _ = N by rw [lockT_length]; exact HLEN.out)
    clear hres
    replace hw := hw.trans (hb.mono hw.size)
    replace hx := hx.onF hb hb.size
    replace ht := ht.onF hb hb.size
    clear hb
    go_wp2_with (fail)
    refine (refLock_any A1 A2 n1 c1 N c2 X T _ _ _ hx hX ht hTk ht1).mono ?_
    intro r w' hres
    obtain ⟨A4, c4, rfl, hc4, hv, _, hb⟩ := hres.open_ (show _ = N by rw [lockT_length]; exact HLEN.out)
    clear hres
    replace hw := hw.trans (hb.mono hw.size)
    replace hx := hx.onF hb hb.size
    replace ht := ht.onF hb hb.size
    replace hu := hu.onF hb hb.size
    clear hb
    go_wp2_with (fail)
    refine (unlock_any A1 A2 n1 c1 N c2 X T _ _ _ hX ht hTk ht1).mono ?_
    intro r w' hres
    obtain ⟨A5, c5, rfl, hc5, hy, _, hb⟩ := hres.open_ (show _ = N by rw [unlockT_length]; exact HLEN.out)
    clear hres
    replace hw := hw.trans (hb.mono hw.size)
    replace hx := hx.onF hb hb.size
    replace ht := ht.onF hb hb.size
    replace hu := hu.onF hb hb.size
    replace hv := hv.onF hb hb.size
    clear hb
    go_wp2_with (fail)
    refine (refUnlock_any A1 A2 n1 c1 N c2 X T _ _ _ hx hX ht hTk ht1).mono ?_
    intro r w' hres
    obtain ⟨A6, c6, rfl, hc6, hz, _, hb⟩ := hres.open_ (show _ = N by rw [unlockT_length]; exact HLEN.out)
    clear hres
    replace hw := hw.trans (hb.mono hw.size)
    replace hx := hx.onF hb hb.size
    replace ht := ht.onF hb hb.size
    replace hu := hu.onF hb hb.size
    replace hv := hv.onF hb hb.size
    replace hy := hy.onF hb hb.size
    clear hb
    generalize lockT X T e1 t1 = L at *
    generalize unlockT X T e1 t1 = U at *
    go_wp2_with (fail)
    refine (same_any A3 A4 N c3 N c4 L L _ hu hv (by omega)).mono ?_
    rintro r w' ⟨rfl, hb⟩
    replace hw := hw.trans (hb.mono hw.size)
    replace hx := hx.onF hb hb.size
    replace ht := ht.onF hb hb.size
    replace hy := hy.onF hb hb.size
    replace hz := hz.onF hb hb.size
    clear hb
    rw [decide_eq_true rfl]
    go_wp2_with (fail)
    refine (same_any A5 A6 N c5 N c6 U U _ hy hz (by omega)).mono ?_
    rintro r w' ⟨rfl, hb⟩
    replace hw := hw.trans (hb.mono hw.size)
    replace hx := hx.onF hb hb.size
    replace ht := ht.onF hb hb.size
    clear hb
    rw [decide_eq_true rfl]
    go_wp2_with (fail)
    refine (free_any A1 A2 n1 c1 N c2 X T _ _ _ hx hX ht hTk he1 ht1).mono ?_
    rintro r w' ⟨rfl, hb⟩
    replace hw := hw.trans (hb.mono hw.size)
    replace hx := hx.onF hb hb.size
    replace ht := ht.onF hb hb.size
    clear hb
    go_wp2_with (fail)
    refine (refFree_any A1 A2 n1 c1 N c2 X T _ _ _ hx hX ht hTk ht1).mono ?_
    rintro r w' ⟨rfl, hb⟩
    replace hw := hw.trans (hb.mono hw.size)
    replace hx := hx.onF hb hb.size
    replace ht := ht.onF hb hb.size
    clear hb
    go_wp2_with (fail)
    refine (free_any A1 A2 n1 c1 N c2 X T _ _ _ hx hX ht hTk he1 ht1).mono ?_
    rintro r w' ⟨rfl, hb⟩
    replace hw := hw.trans (hb.mono hw.size)
    replace hx := hx.onF hb hb.size
    replace ht := ht.onF hb hb.size
    clear hb
    generalize free X T e1 t1 = F at *
    generalize heldBy X T e1 t1 = H at *
    go_wp2_with (fail)
    refine (awake_any _).mono ?_
    rintro r w' ⟨rfl, hb⟩
    replace hw := hw.trans (hb.mono hw.size)
    clear hb
    go_wp2
    go_ret
    exact ⟨rfl, hw⟩
end Go.Proofs.Ytbbjncjkddekfaa

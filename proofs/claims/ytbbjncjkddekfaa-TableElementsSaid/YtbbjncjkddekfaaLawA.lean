/- The walk of the law TableElements: it returns true for every input. No condition. -/
import Derived.Test.YtbbjncjkddekfaaTabG
import Derived.Deep.RegionWith
import Derived.Deep.RegionHeld3
import Derived.OpenShut
import Derived.IntWalk
namespace Go.Proofs.Ytbbjncjkddekfaa
open Go.RowKit
attribute [local go_sem ↓] run_max2 run_min2

set_option maxHeartbeats 3200000 in
theorem tableElements_any (A : Option Addr) (n c : Nat) (l : List Int) (m e : Int) (raw : Bool) (w : World) (h : SlR (EF cInt) 1 w w.heap.size A n l) (he : -9223372036854775808 ≤ e ∧ e ≤ 9223372036854775807) :
    Calls Try.prog 3 #[.slice A n c, .int .i64 m, .int .i64 e, .bool raw] w fun r w' => r = .returned (.bool true) ∧ Below w.heap.size w w' := by
  go_enter Try.func3, Try.ntmps3
  go_wp2_with (fail)
  refine (mutexes_any A n c l w h).mono ?_
  rintro r w1 ⟨A1, c1, rfl, hc1, hx, hb⟩
  have hX := mutexesL_ok l
  generalize mutexesL l = X at *
  generalize hn1 : X.length = n1 at *
  have HN1 := hide hn1
  clear hn1 h
  cases raw
  case false =>
    go_wp2_with (fail)
    refine (within_any m 14 (by omega) (by omega) _).mono ?_
    rintro r w' ⟨rfl, rfl⟩
    have hm2 := within_range (x := m) (n := 14) (by omega)
    generalize within m 14 = m2 at *
    go_wp2_with (fail)
    refine (within_any e 100 (by omega) (by omega) _).mono ?_
    rintro r w' ⟨rfl, rfl⟩
    have he2 := within_range (x := e) (n := 100) (by omega)
    generalize within e 100 = e2 at *
    go_wp2_with (fail)
    clear he
    have he : -9223372036854775808 ≤ e2 - 1 ∧ e2 - 1 ≤ 9223372036854775807 := by omega
    generalize m2 - 1 = m at *
    generalize e2 - 1 = e at *
    refine (elements_any A1 n1 c1 X _ hx hX).mono ?_
    rintro r w2 ⟨rfl, hb2⟩
    have hoe := own_length X
    have hNb := own_length_le hX
    rw [← hoe]
    have hw2 := hb.trans (hb2.mono hb.size)
    have hx2 := hx.onF hb2 hb2.size
    clear hb hb2 hx hoe
    go_wp2_with (fail)
    refine (new_any A1 n1 c1 X _ hx2 hX).mono ?_
    rintro r w3 ⟨A3, c3, rfl, hc3, hT, hb3⟩
    have hw3 := hw2.trans (hb3.mono hw2.size)
    have hx3 := hx2.onF hb3 hb3.size
    clear hw2 hb3 hx2
    generalize hN : (own X).length = N at *
    have HN := hide hN
    clear hN
    have hneq := neqHold
    go_wp2
    go_loop [12] (fun i => ∃ k : Nat, k ≤ N ∧ i = .int .i64 k) (fun i => N - (intOf i).toNat)
    case atStart => exact ⟨0, Nat.zero_le _, rfl⟩
    case round =>
      obtain ⟨k, hk, rfl⟩ := hrel
      by_cases hlt : k < N
      · obtain ⟨b, o, hd, rfl, hbb, hxx, d0, d1⟩ := hT.hold hlt
        rw [List.getElem?_replicate, if_pos hlt] at hxx
        injection hxx with hxx
        subst hxx
        go_wp2
        go_round
        case rel => exact ⟨k + 1, by omega, by go_num⟩
        case measure => simp [intOf]; omega
      obtain rfl : k = N := by omega
      clear hneq hT
      go_wp2_with (fail)
      refine (mutexOf_any A1 n1 c1 X e _ hx3 hX he.2).mono ?_
      rintro r w4 ⟨rfl, hb4⟩
      have hw4 := hw3.trans (hb4.mono hw3.size)
      have hx4 := hx3.onF hb4 hb4.size
      clear hw3 hb4 hx3
      have hge := mutexOf_ge X e
      by_cases hk0 : 0 ≤ mutexOf X e
      · obtain ⟨i, mm, hi, hmm, he0, h1, h2⟩ := mutexOf_find hk0
        have hil : i < X.length := (List.getElem?_eq_some_iff.1 hmm).1
        have hin : i < n1 := by have := HN1.out; omega
        have hbi := baseOf_in hil
        have HK := hide hi
        rw [hi]
        obtain ⟨b, o, mx, rfl, hbb, hxx, d0, d1, d2⟩ := hx4.mtx hin
        obtain rfl : mx = mm := by rw [hxx] at hmm; injection hmm
        have hmb := hX.at_ hxx
        have hbt := hX.boundTo i
        have hlast : max 1 mx.size = mx.num := by unfold Mtx.num; omega
        have hB := hide (fun (w' : World) (hw' : Below w4.heap.size w4 w') => (base_any _ n1 c1 X (i : Int) w' (hx4.onF hw' hw'.size) hX hc1).mono (fun e' w'' hh => And.intro (show e' = .returned (.int .i64 (elems (X.take i))) by rw [hh.1, hbi]) (hw'.trans (hh.2.mono hw'.size))))
        have hC := hide (fun (w' : World) (hw' : Below w4.heap.size w4 w') => (hw'.cell (p := ⟨b, o + i * 3 + 2, none⟩) hbb).trans d2)
        have hcmp : ¬ e < elems (X.take i) := by omega
        have hcmp2 : ¬ elems (X.take i) + max 1 mx.size ≤ e := by rw [hlast]; omega
        have g1 : decide (n1 ≤ i) = false := decide_eq_false (by omega)
        have g2 : decide (e < elems (X.take i)) = false := decide_eq_false hcmp
        have hnn : ¬ n1 ≤ i := by omega
        have hwrap : IntKind.i64.wrap (elems (X.take i) + max 1 mx.size) = elems (X.take i) + max 1 mx.size := IntWalk.i64_in _ (by omega)
        clear hxx hi h1 h2 hk0 hbi hlast
        go_wp2_with (fail)
        go_region_held3 (fun w' => Below w4.heap.size w4 w' ∧ w'.cell? ⟨b, o + i * 3 + 2, none⟩ = some (.int .i64 mx.size))
          (first | exact ⟨Below.refl _ _, d2⟩ | exact ⟨(Below.refl _ _).drew, d2⟩ | exact ⟨hbw, hC.out _ hbw⟩)
          (first | (go_at_call 21; refine (hB.out _ ?_).mono ?_; (first | exact Below.refl _ _ | exact (Below.refl _ _).drew | assumption); rintro r w' ⟨rfl, hbw⟩))
        all_goals
          have hw5 := hw4.trans (hbw.mono hw4.size)
          have hx5 := hx4.onF hbw hbw.size
          clear hx4 hw4 d0 d1 d2
          go_wp2_with (fail)
          refine (owners_any _ n1 c1 X _ hx5 hX).mono ?_
          rintro r w6 ⟨A6, c6, rfl, hc6, _, hb6⟩
          rw [HN.out]
          have hw6 := hw5.trans (hb6.mono hw5.size)
          have hx6 := hx5.onF hb6 hb6.size
          clear hw5 hx5 hb6
          go_wp2_with (fail)
          refine (base_any _ n1 c1 X m _ hx6 hX hc1).mono ?_
          rintro r w7 ⟨rfl, hb7⟩
          have hw7 := hw6.trans (hb7.mono hw6.size)
          have hx7 := hx6.onF hb7 hb7.size
          clear hw6 hx6 hb7
          go_wp2_with (fail)
          refine (refBase_any _ n1 c1 X m _ hx7 hX).mono ?_
          rintro r w8 ⟨rfl, hb8⟩
          have hw8 := hw7.trans (hb8.mono hw7.size)
          have hx8 := hx7.onF hb8 hb8.size
          clear hw7 hx7 hb8
          go_wp2_with (fail)
          refine (refMutexOf_any _ n1 c1 X e _ hx8 hX).mono ?_
          rintro r w9 ⟨rfl, hb9⟩
          rw [HK.out]
          have hw9 := hw8.trans (hb9.mono hw8.size)
          clear hw8 hx8 hb9
          go_wp2_with (fail)
          refine (awake_any _).mono ?_
          rintro r w10 ⟨rfl, hb10⟩
          have hw10 := hw9.trans (hb10.mono hw9.size)
          go_wp2
          go_ret
          exact ⟨rfl, hw10⟩
      · have hK : mutexOf X e = -1 := by omega
        have HK := hide hK
        rw [hK]
        have g0 : decide ((n1 : Int) ≤ -1) = false := decide_eq_false (by omega)
        have g1 : ¬ ((n1 : Int) ≤ -1) := by omega
        clear hK hk0 hge
        go_wp2_with (fail)
        go_quiet (fail)
        have hw5 := below_drewN' hw4 nq
        have hx5 := hx4.onF (below_drewN' (Below.refl _ _) nq) (Nat.le_refl _)
        go_wp2_with (fail)
        refine (owners_any _ n1 c1 X _ hx5 hX).mono ?_
        rintro r w6 ⟨A6, c6, rfl, hc6, _, hb6⟩
        rw [HN.out]
        have hw6 := hw5.trans (hb6.mono hw5.size)
        have hx6 := hx5.onF hb6 hb6.size
        clear hw5 hx5 hb6
        go_wp2_with (fail)
        refine (base_any _ n1 c1 X m _ hx6 hX hc1).mono ?_
        rintro r w7 ⟨rfl, hb7⟩
        have hw7 := hw6.trans (hb7.mono hw6.size)
        have hx7 := hx6.onF hb7 hb7.size
        clear hw6 hx6 hb7
        go_wp2_with (fail)
        refine (refBase_any _ n1 c1 X m _ hx7 hX).mono ?_
        rintro r w8 ⟨rfl, hb8⟩
        have hw8 := hw7.trans (hb8.mono hw7.size)
        have hx8 := hx7.onF hb8 hb8.size
        clear hw7 hx7 hb8
        go_wp2_with (fail)
        refine (refMutexOf_any _ n1 c1 X e _ hx8 hX).mono ?_
        rintro r w9 ⟨rfl, hb9⟩
        rw [HK.out]
        have hw9 := hw8.trans (hb9.mono hw8.size)
        clear hw8 hx8 hb9
        go_wp2_with (fail)
        refine (awake_any _).mono ?_
        rintro r w10 ⟨rfl, hb10⟩
        have hw10 := hw9.trans (hb10.mono hw9.size)
        go_wp2
        go_ret
        exact ⟨rfl, hw10⟩
  case true =>
    go_wp2_with (fail)
    refine (elements_any A1 n1 c1 X _ hx hX).mono ?_
    rintro r w2 ⟨rfl, hb2⟩
    have hoe := own_length X
    have hNb := own_length_le hX
    rw [← hoe]
    have hw2 := hb.trans (hb2.mono hb.size)
    have hx2 := hx.onF hb2 hb2.size
    clear hb hb2 hx hoe
    go_wp2_with (fail)
    refine (new_any A1 n1 c1 X _ hx2 hX).mono ?_
    rintro r w3 ⟨A3, c3, rfl, hc3, hT, hb3⟩
    have hw3 := hw2.trans (hb3.mono hw2.size)
    have hx3 := hx2.onF hb3 hb3.size
    clear hw2 hb3 hx2
    generalize hN : (own X).length = N at *
    have HN := hide hN
    clear hN
    have hneq := neqHold
    go_wp2
    go_loop [12] (fun i => ∃ k : Nat, k ≤ N ∧ i = .int .i64 k) (fun i => N - (intOf i).toNat)
    case atStart => exact ⟨0, Nat.zero_le _, rfl⟩
    case round =>
      obtain ⟨k, hk, rfl⟩ := hrel
      by_cases hlt : k < N
      · obtain ⟨b, o, hd, rfl, hbb, hxx, d0, d1⟩ := hT.hold hlt
        rw [List.getElem?_replicate, if_pos hlt] at hxx
        injection hxx with hxx
        subst hxx
        go_wp2
        go_round
        case rel => exact ⟨k + 1, by omega, by go_num⟩
        case measure => simp [intOf]; omega
      obtain rfl : k = N := by omega
      clear hneq hT
      go_wp2_with (fail)
      refine (mutexOf_any A1 n1 c1 X e _ hx3 hX he.2).mono ?_
      rintro r w4 ⟨rfl, hb4⟩
      have hw4 := hw3.trans (hb4.mono hw3.size)
      have hx4 := hx3.onF hb4 hb4.size
      clear hw3 hb4 hx3
      have hge := mutexOf_ge X e
      by_cases hk0 : 0 ≤ mutexOf X e
      · obtain ⟨i, mm, hi, hmm, he0, h1, h2⟩ := mutexOf_find hk0
        have hil : i < X.length := (List.getElem?_eq_some_iff.1 hmm).1
        have hin : i < n1 := by have := HN1.out; omega
        have hbi := baseOf_in hil
        have HK := hide hi
        rw [hi]
        obtain ⟨b, o, mx, rfl, hbb, hxx, d0, d1, d2⟩ := hx4.mtx hin
        obtain rfl : mx = mm := by rw [hxx] at hmm; injection hmm
        have hmb := hX.at_ hxx
        have hbt := hX.boundTo i
        have hlast : max 1 mx.size = mx.num := by unfold Mtx.num; omega
        have hB := hide (fun (w' : World) (hw' : Below w4.heap.size w4 w') => (base_any _ n1 c1 X (i : Int) w' (hx4.onF hw' hw'.size) hX hc1).mono (fun e' w'' hh => And.intro (show e' = .returned (.int .i64 (elems (X.take i))) by rw [hh.1, hbi]) (hw'.trans (hh.2.mono hw'.size))))
        have hC := hide (fun (w' : World) (hw' : Below w4.heap.size w4 w') => (hw'.cell (p := ⟨b, o + i * 3 + 2, none⟩) hbb).trans d2)
        have hcmp : ¬ e < elems (X.take i) := by omega
        have hcmp2 : ¬ elems (X.take i) + max 1 mx.size ≤ e := by rw [hlast]; omega
        have g1 : decide (n1 ≤ i) = false := decide_eq_false (by omega)
        have g2 : decide (e < elems (X.take i)) = false := decide_eq_false hcmp
        have hnn : ¬ n1 ≤ i := by omega
        have hwrap : IntKind.i64.wrap (elems (X.take i) + max 1 mx.size) = elems (X.take i) + max 1 mx.size := IntWalk.i64_in _ (by omega)
        clear hxx hi h1 h2 hk0 hbi hlast
        go_wp2_with (fail)
        go_region_held3 (fun w' => Below w4.heap.size w4 w' ∧ w'.cell? ⟨b, o + i * 3 + 2, none⟩ = some (.int .i64 mx.size))
          (first | exact ⟨Below.refl _ _, d2⟩ | exact ⟨(Below.refl _ _).drew, d2⟩ | exact ⟨hbw, hC.out _ hbw⟩)
          (first | (go_at_call 21; refine (hB.out _ ?_).mono ?_; (first | exact Below.refl _ _ | exact (Below.refl _ _).drew | assumption); rintro r w' ⟨rfl, hbw⟩))
        all_goals
          have hw5 := hw4.trans (hbw.mono hw4.size)
          have hx5 := hx4.onF hbw hbw.size
          clear hx4 hw4 d0 d1 d2
          go_wp2_with (fail)
          refine (owners_any _ n1 c1 X _ hx5 hX).mono ?_
          rintro r w6 ⟨A6, c6, rfl, hc6, _, hb6⟩
          rw [HN.out]
          have hw6 := hw5.trans (hb6.mono hw5.size)
          have hx6 := hx5.onF hb6 hb6.size
          clear hw5 hx5 hb6
          go_wp2_with (fail)
          refine (base_any _ n1 c1 X m _ hx6 hX hc1).mono ?_
          rintro r w7 ⟨rfl, hb7⟩
          have hw7 := hw6.trans (hb7.mono hw6.size)
          have hx7 := hx6.onF hb7 hb7.size
          clear hw6 hx6 hb7
          go_wp2_with (fail)
          refine (refBase_any _ n1 c1 X m _ hx7 hX).mono ?_
          rintro r w8 ⟨rfl, hb8⟩
          have hw8 := hw7.trans (hb8.mono hw7.size)
          have hx8 := hx7.onF hb8 hb8.size
          clear hw7 hx7 hb8
          go_wp2_with (fail)
          refine (refMutexOf_any _ n1 c1 X e _ hx8 hX).mono ?_
          rintro r w9 ⟨rfl, hb9⟩
          rw [HK.out]
          have hw9 := hw8.trans (hb9.mono hw8.size)
          clear hw8 hx8 hb9
          go_wp2_with (fail)
          refine (awake_any _).mono ?_
          rintro r w10 ⟨rfl, hb10⟩
          have hw10 := hw9.trans (hb10.mono hw9.size)
          go_wp2
          go_ret
          exact ⟨rfl, hw10⟩
      · have hK : mutexOf X e = -1 := by omega
        have HK := hide hK
        rw [hK]
        have g0 : decide ((n1 : Int) ≤ -1) = false := decide_eq_false (by omega)
        have g1 : ¬ ((n1 : Int) ≤ -1) := by omega
        clear hK hk0 hge
        go_wp2_with (fail)
        go_quiet (fail)
        have hw5 := below_drewN' hw4 nq
        have hx5 := hx4.onF (below_drewN' (Below.refl _ _) nq) (Nat.le_refl _)
        go_wp2_with (fail)
        refine (owners_any _ n1 c1 X _ hx5 hX).mono ?_
        rintro r w6 ⟨A6, c6, rfl, hc6, _, hb6⟩
        rw [HN.out]
        have hw6 := hw5.trans (hb6.mono hw5.size)
        have hx6 := hx5.onF hb6 hb6.size
        clear hw5 hx5 hb6
        go_wp2_with (fail)
        refine (base_any _ n1 c1 X m _ hx6 hX hc1).mono ?_
        rintro r w7 ⟨rfl, hb7⟩
        have hw7 := hw6.trans (hb7.mono hw6.size)
        have hx7 := hx6.onF hb7 hb7.size
        clear hw6 hx6 hb7
        go_wp2_with (fail)
        refine (refBase_any _ n1 c1 X m _ hx7 hX).mono ?_
        rintro r w8 ⟨rfl, hb8⟩
        have hw8 := hw7.trans (hb8.mono hw7.size)
        have hx8 := hx7.onF hb8 hb8.size
        clear hw7 hx7 hb8
        go_wp2_with (fail)
        refine (refMutexOf_any _ n1 c1 X e _ hx8 hX).mono ?_
        rintro r w9 ⟨rfl, hb9⟩
        rw [HK.out]
        have hw9 := hw8.trans (hb9.mono hw8.size)
        clear hw8 hx8 hb9
        go_wp2_with (fail)
        refine (awake_any _).mono ?_
        rintro r w10 ⟨rfl, hb10⟩
        have hw10 := hw9.trans (hb10.mono hw9.size)
        go_wp2
        go_ret
        exact ⟨rfl, hw10⟩
end Go.Proofs.Ytbbjncjkddekfaa

/- A law of layer 7 that makes its expressions from numbers: ValueDivision. -/
import Derived.Test.YtbbjncjkddekfaaValC
namespace Go.Proofs.Ytbbjncjkddekfaa
open Go.RowKit

theorem wrap64_k (x : Int) : ∃ k, wrap64 x = x - 18446744073709551616 * k := ⟨(x + 9223372036854775808) / 18446744073709551616, by unfold wrap64; omega⟩
theorem wrap64_mod (z m : Int) : wrap64 (z - 18446744073709551616 * m) = wrap64 z := by unfold wrap64; omega
theorem wrap64_mul_left (x y : Int) : wrap64 (wrap64 x * y) = wrap64 (x * y) := by
  obtain ⟨k, hk⟩ := wrap64_k x
  rw [hk, show (x - 18446744073709551616 * k) * y = x * y - 18446744073709551616 * (k * y) by rw [Int.sub_mul, Int.mul_assoc], wrap64_mod]
theorem wrap64_add_left (x y : Int) : wrap64 (wrap64 x + y) = wrap64 (x + y) := by
  obtain ⟨k, hk⟩ := wrap64_k x
  rw [hk, show x - 18446744073709551616 * k + y = x + y - 18446744073709551616 * k by omega, wrap64_mod]
theorem wrap64_sub_right (x y : Int) : wrap64 (x - wrap64 y) = wrap64 (x - y) := by
  obtain ⟨k, hk⟩ := wrap64_k y
  rw [hk, show x - (y - 18446744073709551616 * k) = x - y - 18446744073709551616 * (-k) by omega, wrap64_mod]

/-- the value of two numbers under an operator that is not a logical one -/
theorem ev_two (g l : List Int) (op a b : Int) (ha : -9223372036854775808 ≤ a ∧ a ≤ 9223372036854775807) (hb : -9223372036854775808 ≤ b ∧ b ≤ 9223372036854775807) (h : 5 ≤ op ∧ op ≤ 15) : ev g l (twoE op a b) = arith op a b := by
  have h1 : op ≠ 16 := by omega
  have h2 : op ≠ 17 := by omega
  simp [twoE, ev, ev_num g l a ha, ev_num g l b hb, h1, h2]

theorem quo_rem (a b : Int) (ha : -9223372036854775808 ≤ a ∧ a ≤ 9223372036854775807) : wrap64 (wrap64 (wrap64 (a.tdiv b) * b) + a.tmod b) = a := by
  rw [wrap64_mul_left, wrap64_add_left, Int.tdiv_mul_add_tmod, IntWalk.wrap64_in _ ha]
/-- the remainder: none, or of the dividend's sign and less than the divisor -/
theorem rem_cases (a b : Int) (hb : b ≠ 0) : a.tmod b = 0 ∨ (0 < a.tmod b ∧ 0 < a ∧ (b < 0 → a.tmod b < -b) ∧ (0 < b → a.tmod b < b)) ∨ (a.tmod b < 0 ∧ a < 0 ∧ (b < 0 → b < a.tmod b) ∧ (0 < b → -b < a.tmod b)) := by
  have habs := Int.natAbs_tmod a b
  have hlt : a.natAbs % b.natAbs < b.natAbs := Nat.mod_lt _ (by omega)
  rw [← habs] at hlt
  rcases Int.lt_trichotomy a 0 with h | h | h
  · have h2 := Int.tmod_nonneg b (show 0 ≤ -a by omega)
    rw [Int.neg_tmod] at h2
    generalize a.tmod b = r at *
    omega
  · subst h
    exact .inl (by simp)
  · have h2 := Int.tmod_nonneg b (show 0 ≤ a by omega)
    generalize a.tmod b = r at *
    omega

set_option maxHeartbeats 1600000 in
theorem valueDivision_any (a b : Int) (ha : -9223372036854775808 ≤ a ∧ a ≤ 9223372036854775807) (hb : -9223372036854775808 ≤ b ∧ b ≤ 9223372036854775807) (w : World) :
    Calls Try.prog 11 #[.int .i64 a, .int .i64 b] w fun e w' => e = .returned (.bool true) ∧ Below w.heap.size w w' := by
  have E6 := hide (ev_two [] [] 6 a b ha hb (by decide))
  have E7 := hide (ev_two [] [] 7 a b ha hb (by decide))
  have HQ := hide (quo_rem a b ha)
  have HR := hide (rem_cases a b)
  have HA := hide ha
  have HB := hide hb
  clear ha hb
  go_enter Try.func11, Try.ntmps11
  go_wp2_with (fail)
  refine (two_any _ _ _ _).mono ?_
  rintro e w1 ⟨c0, c1, c2, c3, rfl, h1, hb⟩
  go_wp2_with (fail)
  refine (Eval_any _ _ none none 0 0 0 0 [] [] _ _ _ _ (EvIn.new h1 (twoE_ok _ _ _ (by decide) _ _))).mono ?_
  rintro e w2 ⟨rfl, hb2⟩
  replace hb := hb.trans (hb2.mono hb.size)
  clear h1 hb2
  rw [E6.out]
  clear E6
  go_wp2_with (fail)
  refine (two_any _ _ _ _).mono ?_
  rintro e w3 ⟨c0, c1, c2, c3, rfl, h1, hb2⟩
  replace hb := hb.trans (hb2.mono hb.size)
  clear hb2
  go_wp2_with (fail)
  refine (Eval_any _ _ none none 0 0 0 0 [] [] _ _ _ _ (EvIn.new h1 (twoE_ok _ _ _ (by decide) _ _))).mono ?_
  rintro e w4 ⟨rfl, hb2⟩
  replace hb := hb.trans (hb2.mono hb.size)
  clear h1 hb2
  rw [E7.out]
  clear E7
  by_cases h0 : b = 0
  · subst h0
    rw [show arith 6 a 0 = (0, 1) by rfl, show arith 7 a 0 = (0, 1) by rfl]
    clear HQ HR HA HB
    go_wp2_with (fail)
    refine (awake_any _).mono ?_
    rintro e w5 ⟨rfl, hb2⟩
    replace hb := hb.trans (hb2.mono hb.size)
    clear hb2
    go_wp2
    go_ret
    exact ⟨rfl, hb⟩
  have q0 : (b == 0) = false := by simpa using h0
  rw [show arith 6 a b = (wrap64 (a.tdiv b), 0) by simp [arith, h0], show arith 7 a b = (a.tmod b, 0) by simp [arith, h0]]
  have HR' := hide (HR.out h0)
  clear HR h0
  generalize a.tmod b = r at *
  generalize wrap64 (a.tdiv b) = q at *
  have q1 : (wrap64 (wrap64 (q * b) + r) == a) = true := by simpa using HQ.out
  clear HQ
  have HB' := HB.out
  clear HA HB
  rcases HR'.out with rfl | ⟨r0, a0, r1, r2⟩ | ⟨r0, a0, r1, r2⟩
  · clear HR' HB'
    have q1p : wrap64 (wrap64 (q * b)) = a := by simpa using q1
    clear q1
    go_wp2_with (fail)
    refine (awake_any _).mono ?_
    rintro e w5 ⟨rfl, hb2⟩
    replace hb := hb.trans (hb2.mono hb.size)
    clear hb2
    go_wp2
    go_ret
    exact ⟨rfl, hb⟩
  all_goals
    have q2 : (r == 0) = false := by simp; omega
    by_cases hm : b = -9223372036854775808
    · subst hm
      clear HR' r1 r2 HB' q0
      go_wp2_with (fail)
      refine (awake_any _).mono ?_
      rintro e w5 ⟨rfl, hb2⟩
      replace hb := hb.trans (hb2.mono hb.size)
      clear hb2
      go_wp2
      go_ret
      exact ⟨rfl, hb⟩
    · have q4 : (b == -9223372036854775808) = false := by simpa using hm
      have q6 : wrap64 (-b) = -b := IntWalk.wrap64_in _ (by omega)
      clear HB' hm
      rcases Int.lt_or_lt_of_ne (show b ≠ 0 by simpa using q0) with hneg | hpos
      · have r3 := r1 hneg
        clear HR' r1 r2
        go_wp2_with (fail)
        refine (awake_any _).mono ?_
        rintro e w5 ⟨rfl, hb2⟩
        replace hb := hb.trans (hb2.mono hb.size)
        clear hb2
        go_wp2
        go_ret
        first | exact ⟨rfl, hb⟩ | exact ⟨ret_bool (by simp; omega), hb⟩
      · have r3 := r2 hpos
        clear HR' r1 r2
        go_wp2_with (fail)
        refine (awake_any _).mono ?_
        rintro e w5 ⟨rfl, hb2⟩
        replace hb := hb.trans (hb2.mono hb.size)
        clear hb2
        go_wp2
        go_ret
        first | exact ⟨rfl, hb⟩ | exact ⟨ret_bool (by simp; omega), hb⟩
end Go.Proofs.Ytbbjncjkddekfaa

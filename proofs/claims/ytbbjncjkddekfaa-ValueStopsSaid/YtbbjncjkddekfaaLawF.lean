/- A law of layer 7: ValueStops. -/
import Derived.Test.YtbbjncjkddekfaaLawE
namespace Go.Proofs.Ytbbjncjkddekfaa
open Go.RowKit

/-- a fault or a number: the value of the logical operators on a number and a division by zero -/
theorem ev_stop (a : Int) (ha : -9223372036854775808 ≤ a ∧ a ≤ 9223372036854775807) (op : Int) (h : op = 16 ∨ op = 17) :
    ev [] [] (.bin op (numE a) (twoE 7 5 0)) = if op = 16 ∧ a = 0 then (0, 0) else if op = 17 ∧ a ≠ 0 then (1, 0) else (0, 1) := by
  have h2 : ev [] [] (twoE 7 5 0) = (0, 1) := by decide +kernel
  rcases h with rfl | rfl <;> simp [ev, ev_num [] [] a ha, h2]

theorem stopIn {w4 : World} (op a : Int) (h : op = 16 ∨ op = 17) (c0 c1 c2 c3 d0 d1 d2 d3 : Value) (o : Obj) (h1 : (numE a).at_ w4 [c0, c1, c2, c3]) (h2 : (twoE 7 5 0).at_ w4 [d0, d1, d2, d3]) :
    EvIn ((w4.alloc (.cells #[c0, c1, c2, c3, d0, d1, d2, d3] 50)).alloc o) none none 0 0 [] [] (.bin op (numE a) (twoE 7 5 0)) [.int .i64 op, .int .i64 0, .string ⟨#[]⟩, .slice (some ⟨w4.heap.size, 0, none⟩) 2 2] := by
  have hb5 : Below w4.heap.size w4 ((w4.alloc (.cells #[c0, c1, c2, c3, d0, d1, d2, d3] 50)).alloc o) := ((Below.refl w4.heap.size w4).alloc (Nat.le_refl _) _).alloc (by simp) _
  exact ⟨SlR.nil_ _, SlR.nil_ _, ⟨by omega, numE_ok _ _ _, twoE_ok _ _ _ (by decide) _ _⟩, ⟨_, _, w4.heap.size, 0, _, c0, c1, c2, c3, d0, d1, d2, d3, rfl, by simp; omega, VE.at_on h1 hb5, VE.at_on h2 hb5, by simp [go_sem], by simp [go_sem], by simp [go_sem], by simp [go_sem], by simp [go_sem], by simp [go_sem], by simp [go_sem], by simp [go_sem]⟩⟩

set_option maxHeartbeats 1600000 in
theorem valueStops_any (a : Int) (or : Bool) (ha : -9223372036854775808 ≤ a ∧ a ≤ 9223372036854775807) (w : World) :
    Calls Try.prog 13 #[.int .i64 a, .bool or] w fun e w' => e = .returned (.bool true) ∧ Below w.heap.size w w' := by
  have HE := hide (ev_stop a ha)
  clear ha
  go_enter Try.func13, Try.ntmps13
  go_wp2_with (fail)
  refine (number_any _ _).mono ?_
  rintro e w3 ⟨c0, c1, c2, c3, rfl, h1, hb⟩
  go_wp2_with (fail)
  refine (two_any _ _ _ _).mono ?_
  rintro e w4 ⟨d0, d1, d2, d3, rfl, h2, hb4⟩
  replace hb := hb.trans (hb4.mono hb.size)
  have h1' : (numE a).at_ w4 [c0, c1, c2, c3] := VE.at_on (VE.rep_mono (fun _ h => h.2) _ _ h1) hb4
  have h2' : (twoE 7 5 0).at_ w4 [d0, d1, d2, d3] := VE.rep_mono (fun _ h => h.2) _ _ h2
  clear h1 h2 hb4
  replace hb := fun o => ((hb.alloc (by have := hb.size; omega) (.cells #[c0, c1, c2, c3, d0, d1, d2, d3] 50)).alloc (by have := hb.size; simp; omega) o)
  have HB := hide hb
  have HH := hide (And.intro h1' h2')
  clear hb h1' h2'
  cases or
  · by_cases h0 : a = 0
    · have q : (a != 0) = false := by simpa using h0
      have HE2 := hide ((HE.out 16 (by decide)).trans (show _ = (0, 0) by simp [h0]))
      clear HE h0
      go_wp2_with (fail)
      refine (Eval_any (.bin 16 (numE a) (twoE 7 5 0)) _ none none 0 0 0 0 [] [] _ _ _ _ (stopIn 16 a (by decide) _ _ _ _ _ _ _ _ _ HH.out.1 HH.out.2)).mono ?_
      rintro e w5 ⟨rfl, hb6⟩
      have hb := (HB.out _).trans (hb6.mono (HB.out _).size)
      clear hb6 HB HH
      rw [HE2.out]
      clear HE2
      go_wp2_with (fail)
      refine (awake_any _).mono ?_
      rintro e w6 ⟨rfl, hb2⟩
      replace hb := hb.trans (hb2.mono hb.size)
      clear hb2
      go_wp2
      go_ret
      exact ⟨rfl, hb⟩
    · have q : (a != 0) = true := by simpa using h0
      have HE2 := hide ((HE.out 16 (by decide)).trans (show _ = (0, 1) by simp [h0]))
      clear HE h0
      go_wp2_with (fail)
      refine (Eval_any (.bin 16 (numE a) (twoE 7 5 0)) _ none none 0 0 0 0 [] [] _ _ _ _ (stopIn 16 a (by decide) _ _ _ _ _ _ _ _ _ HH.out.1 HH.out.2)).mono ?_
      rintro e w5 ⟨rfl, hb6⟩
      have hb := (HB.out _).trans (hb6.mono (HB.out _).size)
      clear hb6 HB HH
      rw [HE2.out]
      clear HE2
      go_wp2_with (fail)
      refine (awake_any _).mono ?_
      rintro e w6 ⟨rfl, hb2⟩
      replace hb := hb.trans (hb2.mono hb.size)
      clear hb2
      go_wp2
      go_ret
      exact ⟨rfl, hb⟩
  · by_cases h0 : a = 0
    · have q : (a != 0) = false := by simpa using h0
      have HE2 := hide ((HE.out 17 (by decide)).trans (show _ = (0, 1) by simp [h0]))
      clear HE h0
      go_wp2_with (fail)
      refine (Eval_any (.bin 17 (numE a) (twoE 7 5 0)) _ none none 0 0 0 0 [] [] _ _ _ _ (stopIn 17 a (by decide) _ _ _ _ _ _ _ _ _ HH.out.1 HH.out.2)).mono ?_
      rintro e w5 ⟨rfl, hb6⟩
      have hb := (HB.out _).trans (hb6.mono (HB.out _).size)
      clear hb6 HB HH
      rw [HE2.out]
      clear HE2
      go_wp2_with (fail)
      refine (awake_any _).mono ?_
      rintro e w6 ⟨rfl, hb2⟩
      replace hb := hb.trans (hb2.mono hb.size)
      clear hb2
      go_wp2
      go_ret
      exact ⟨rfl, hb⟩
    · have q : (a != 0) = true := by simpa using h0
      have HE2 := hide ((HE.out 17 (by decide)).trans (show _ = (1, 0) by simp [h0]))
      clear HE h0
      go_wp2_with (fail)
      refine (Eval_any (.bin 17 (numE a) (twoE 7 5 0)) _ none none 0 0 0 0 [] [] _ _ _ _ (stopIn 17 a (by decide) _ _ _ _ _ _ _ _ _ HH.out.1 HH.out.2)).mono ?_
      rintro e w5 ⟨rfl, hb6⟩
      have hb := (HB.out _).trans (hb6.mono (HB.out _).size)
      clear hb6 HB HH
      rw [HE2.out]
      clear HE2
      go_wp2_with (fail)
      refine (awake_any _).mono ?_
      rintro e w6 ⟨rfl, hb2⟩
      replace hb := hb.trans (hb2.mono hb.size)
      clear hb2
      go_wp2
      go_ret
      exact ⟨rfl, hb⟩
end Go.Proofs.Ytbbjncjkddekfaa

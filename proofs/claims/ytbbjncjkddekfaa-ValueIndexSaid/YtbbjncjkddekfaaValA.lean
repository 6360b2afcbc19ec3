/- The walks of the program's evaluation and of the reference's: both compute 'ev'. For well-formed expressions. -/
import Derived.Test.YtbbjncjkddekfaaValMem
import Derived.Deep.RegionHeld3
namespace Go.Proofs.Ytbbjncjkddekfaa
open Go.RowKit
attribute [local go_sem ↓] run_max2 run_min2

theorem valTruth_any (b : Bool) (w : World) : Calls Try.prog 59 #[.bool b] w fun e w' => e = .returned (.int .i64 (truth b)) ∧ w = w' := by
  cases b <;> (go_enter Try.func59, Try.ntmps59; go_wp2; go_ret; exact ⟨rfl, rfl⟩)
theorem refTruth_any (b : Bool) (w : World) : Calls Try.prog 53 #[.bool b] w fun e w' => e = .returned (.int .i64 (truth b)) ∧ w = w' := by
  cases b <;> (go_enter Try.func53, Try.ntmps53; go_wp2; go_ret; exact ⟨rfl, rfl⟩)

set_option maxHeartbeats 400000 in
theorem element_any (A : Option Addr) (n c : Nat) (l : List Int) (k : Int) (w : World) (h : SlR (EF cInt) 1 w w.heap.size A n l) (h0 : 0 ≤ k) (h1 : k < n) :
    Calls Try.prog 58 #[.slice A n c, .int .i64 k] w fun e w' => e = .returned (.int .i64 (l.getD k.toNat 0)) ∧ w = w' := by
  obtain ⟨j, rfl⟩ := Int.eq_ofNat_of_zero_le h0
  obtain ⟨b, o, x, rfl, hb, hx, hc⟩ := h.int (show j < n by omega)
  have hj : j < n := by omega
  have HX := hide (show l.getD (j : Int).toNat 0 = x by rw [Int.toNat_natCast, List.getD_eq_getElem?_getD, hx]; rfl)
  clear hx h
  go_enter Try.func58, Try.ntmps58
  go_wp2
  go_ret
  exact ⟨ret_int (by rw [HX.out]), rfl⟩

set_option maxHeartbeats 400000 in
theorem quotient_any (a b : Int) (hb : b ≠ 0) (w : World) :
    Calls Try.prog 54 #[.int .i64 a, .int .i64 b] w fun e w' => e = .returned (.int .i64 (wrap64 (a.tdiv b))) ∧ w = w' := by
  by_cases h1 : b = -1
  · subst h1
    go_enter Try.func54, Try.ntmps54
    go_wp2
    go_ret
    exact ⟨ret_int (by rw [Int.tdiv_neg, Int.tdiv_one]), rfl⟩
  · have g1 : (b == -1) = false := by simpa using h1
    have g0 : (b == 0) = false := by simpa using hb
    go_enter Try.func54, Try.ntmps54
    go_wp2
    go_ret
    exact ⟨rfl, rfl⟩

/-- two numbers handed back: a value and a fault -/
def Two (w : World) (r : Int × Int) (e : Ending) (w' : World) : Prop := e = .returned (.tuple #[.int .i64 r.1, .int .i64 r.2]) ∧ Below w.heap.size w w'
theorem Two.mk' {w w' : World} {r : Int × Int} {a b : Int} (hr : r = (a, b)) (hb : Below w.heap.size w w') : Two w r (.returned (.tuple #[.int .i64 a, .int .i64 b])) w' := by
  subst hr
  exact ⟨rfl, hb⟩

set_option maxHeartbeats 1600000 in
theorem arithmetic_any (op a b : Int) (h : 5 ≤ op ∧ op ≤ 15) (w : World) :
    Calls Try.prog 60 #[.int .i64 op, .int .i64 a, .int .i64 b] w (Two w (arith op a b)) := by
  by_cases hdiv : (op = 6 ∨ op = 7) ∧ b = 0
  · obtain ⟨hop, rfl⟩ := hdiv
    rcases hop with rfl | rfl
    all_goals
      go_enter Try.func60, Try.ntmps60
      go_wp2
      go_ret2
      exact Two.mk' rfl (Below.refl _ _)
  · obtain rfl | rfl | rfl | rfl | rfl | rfl | rfl | rfl | rfl | rfl | rfl : op = 5 ∨ op = 6 ∨ op = 7 ∨ op = 8 ∨ op = 9 ∨ op = 10 ∨ op = 11 ∨ op = 12 ∨ op = 13 ∨ op = 14 ∨ op = 15 := by omega
    case inr.inl =>
      have hb : b ≠ 0 := fun hh => hdiv ⟨.inl rfl, hh⟩
      have g0 : (b == 0) = false := by simpa using hb
      have HA := hide (show arith 6 a b = (wrap64 (a.tdiv b), 0) by unfold arith; simp [hb])
      clear hdiv h
      go_enter Try.func60, Try.ntmps60
      go_wp2
      go_ret2
      exact Two.mk' HA.out (Below.refl _ _)
    case inr.inr.inl =>
      have hb : b ≠ 0 := fun hh => hdiv ⟨.inr rfl, hh⟩
      have g0 : (b == 0) = false := by simpa using hb
      have HA := hide (show arith 7 a b = (a.tmod b, 0) by unfold arith; simp [hb])
      clear hdiv h
      go_enter Try.func60, Try.ntmps60
      go_wp2
      go_ret2
      exact Two.mk' HA.out (Below.refl _ _)
    all_goals
      clear hdiv h
      go_enter Try.func60, Try.ntmps60
      go_wp2_with ((go_at_call 59; refine (valTruth_any _ _).mono ?_; rintro e w' ⟨rfl, rfl⟩))
      go_ret2
      exact Two.mk' rfl (Below.refl _ _)
end Go.Proofs.Ytbbjncjkddekfaa

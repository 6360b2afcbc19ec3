/- Depth, Valid, SameTable: plain functions, and the walks. For mutexes and tables as P8.1 to P8.4 have them; Valid and SameTable for all tables. -/
import Derived.Test.YtbbjncjkddekfaaTabC
import Derived.RegionTactic
import Derived.Deep.QuietTactic
import Derived.BigQuiet
import Derived.Laws.StructEq
namespace Go.Proofs.Ytbbjncjkddekfaa
open Go.RowKit
attribute [local go_sem ↓] run_max2 run_min2

theorem neqHold (a b c d : Int) (w : World) : (binOp .neq 30 (.agg #[.int .i64 a, .int .i64 b]) (.agg #[.int .i64 c, .int .i64 d])).run Try.prog w = .ok (.bool (decide (a ≠ c ∨ b ≠ d))) w := by
  simp [go_sem]
  by_cases h : a = c <;> by_cases h2 : b = d <;> simp [h, h2]
theorem eqlHold (a b c d : Int) (w : World) : (binOp .eql 30 (.agg #[.int .i64 a, .int .i64 b]) (.agg #[.int .i64 c, .int .i64 d])).run Try.prog w = .ok (.bool (decide (a = c ∧ b = d))) w := by
  simp [go_sem]
  by_cases h : a = c <;> by_cases h2 : b = d <;> simp [h, h2]

set_option maxHeartbeats 800000 in
theorem same_any (A A2 : Option Addr) (n c n2 c2 : Nat) (S T : List Hold) (w : World) (hs : SlR (EF cHold) 2 w w.heap.size A n S) (ht : SlR (EF cHold) 2 w w.heap.size A2 n2 T) (hn : n ≤ 140737488355328) :
    Calls Try.prog 33 #[.slice A n c, .slice A2 n2 c2] w fun r w' => r = .returned (.bool (decide (S = T))) ∧ Below w.heap.size w w' := by
  have hl := hs.1
  have hl2 := ht.1
  by_cases hne : n = n2
  case neg =>
    have HR := hide (show decide (S = T) = false from decide_eq_false (fun h => hne (by rw [← hl, ← hl2, h])))
    have hne' : (n != n2) = true := by simpa using hne
    have hne'' : ((n : Int) != (n2 : Int)) = true := by simp; omega
    clear hl hl2 hne
    go_enter Try.func33, Try.ntmps33
    go_wp2
    go_ret
    exact ⟨ret_bool (by rw [HR.out]), Below.refl _ _⟩
  subst hne
  have HL := hide hl
  have HL2 := hide hl2
  clear hl hl2
  have hnn : ((n : Int) != (n : Int)) = false := by simp
  go_enter Try.func33, Try.ntmps33
  go_wp2
  go_loopw [5] (fun i wr => ∃ k : Nat, k ≤ n ∧ i = .int .i64 k ∧ (∀ j, j < k → S[j]? = T[j]?) ∧ Below w.heap.size w wr) (fun i _ => n - (intOf i).toNat)
  case atStart => exact ⟨0, Nat.zero_le _, rfl, fun j hj => absurd hj (by omega), Below.refl _ _⟩
  case round =>
    obtain ⟨k, hk, rfl, hno, hb⟩ := hrel
    have HNO := hide hno
    clear hno
    by_cases hlt : k < n
    · obtain ⟨b, o, x, rfl, hbb, hx, c0, c1⟩ := (hs.keepF hb).hold hlt
      obtain ⟨b', o', x', rfl, hbb', hx', d0, d1⟩ := (ht.keepF hb).hold hlt
      have hk0 : (0 : Int) ≤ (k : Int) := by omega
      have hk1 : (k : Int) < (n : Int) := by omega
      have hneq := neqHold
      by_cases hd : x.owner ≠ x'.owner ∨ x.depth ≠ x'.depth
      · have HR := hide (show decide (S = T) = false from decide_eq_false (fun h => by
          subst h
          rw [hx] at hx'
          injection hx' with hx'
          subst hx'
          simp at hd))
        have hd' : decide (x.owner ≠ x'.owner ∨ x.depth ≠ x'.depth) = true := decide_eq_true hd
        clear hx hx' hd
        go_wp2
        go_quiet (fail)
        go_wp2
        go_ret
        exact ⟨ret_bool (by rw [HR.out]), below_drewN' hb _⟩
      · have HX := hide (show S[k]? = T[k]? by
          have h1 : x.owner = x'.owner := by
            by_cases hh : x.owner = x'.owner
            · exact hh
            · exact absurd (.inl hh) hd
          have h2 : x.depth = x'.depth := by
            by_cases hh : x.depth = x'.depth
            · exact hh
            · exact absurd (.inr hh) hd
          rw [hx, hx']
          congr 1
          cases x; cases x'
          simp_all)
        have hd' : decide (x.owner ≠ x'.owner ∨ x.depth ≠ x'.depth) = false := decide_eq_false hd
        clear hx hx' hd
        go_wp2
        go_quiet (fail)
        go_wp2
        go_roundw
        case rel =>
          refine ⟨k + 1, by omega, by go_num, fun j hj => ?_, below_drewN' hb _⟩
          by_cases hjk : j < k
          · exact HNO.out j hjk
          · obtain rfl : j = k := by omega
            exact HX.out
        case measure => simp [intOf]; omega
    · obtain rfl : k = n := by omega
      have HR := hide (show decide (S = T) = true from decide_eq_true (by
        apply List.ext_getElem?
        intro j
        by_cases hj : j < k
        · exact HNO.out j hj
        · rw [List.getElem?_eq_none (by have := HL.out; omega), List.getElem?_eq_none (by have := HL2.out; omega)]))
      go_wp2
      go_ret
      exact ⟨ret_bool (by rw [HR.out]), hb⟩

/-! ## Depth -/
def depAt (X : List Mtx) (T : List Hold) (m th : Int) (i : Nat) : Int := if (own X)[i]? = some m ∧ (hAt T i).owner = th + 1 ∧ 0 ≤ th then (hAt T i).depth else 0
/-- the depths of the first k elements -/
def depTo (X : List Mtx) (T : List Hold) (m th : Int) : Nat → Int
  | 0 => 0
  | k + 1 => depTo X T m th k + depAt X T m th k
/-- P8.3 -/
def depth (X : List Mtx) (T : List Hold) (m th : Int) : Int := depTo X T m th (own X).length
theorem hAt_bound {X : List Mtx} {T : List Hold} (hT : TOk X T) (i : Int) : 0 ≤ (hAt T i).owner ∧ (hAt T i).owner ≤ 1000000000 ∧ 0 ≤ (hAt T i).depth ∧ (hAt T i).depth ≤ 1000000000 := by
  unfold hAt
  cases h : T[i.toNat]? with
  | none => simp
  | some hd => simpa using hT.bound hd (List.mem_of_getElem? h)
theorem depAt_bound {X : List Mtx} {T : List Hold} (hT : TOk X T) (m th : Int) (i : Nat) : 0 ≤ depAt X T m th i ∧ depAt X T m th i ≤ 1000000000 := by
  unfold depAt
  have := hAt_bound hT i
  split <;> omega
theorem depTo_bound {X : List Mtx} {T : List Hold} (hT : TOk X T) (m th : Int) (k : Nat) : 0 ≤ depTo X T m th k ∧ depTo X T m th k ≤ 1000000000 * k := by
  induction k with
  | zero => simp [depTo]
  | succ k ih =>
    have := depAt_bound hT m th k
    simp only [depTo]
    omega
theorem depAt_other {X : List Mtx} {T : List Hold} {m th : Int} {i : Nat} (h : (own X)[i]? ≠ some m) : depAt X T m th i = 0 := if_neg (fun hh => h hh.1)
theorem depTo_none {X : List Mtx} {T : List Hold} {m th : Int} : ∀ (k : Nat), (∀ i, i < k → depAt X T m th i = 0) → depTo X T m th k = 0
  | 0, _ => rfl
  | k + 1, h => by simp only [depTo]; rw [depTo_none k (fun i hi => h i (by omega)), h k (by omega)]; rfl
theorem depTo_tail {X : List Mtx} {T : List Hold} {m th : Int} (a : Nat) : ∀ (d : Nat), (∀ i, a ≤ i → i < a + d → depAt X T m th i = 0) → depTo X T m th (a + d) = depTo X T m th a
  | 0, _ => rfl
  | d + 1, h => by
    rw [show a + (d + 1) = (a + d) + 1 from rfl]
    simp only [depTo]
    rw [depTo_tail a d (fun i h1 h2 => h i h1 (by omega)), h (a + d) (by omega) (by omega), Int.add_zero]
/-- only a mutex's own stretch counts -/
theorem depth_stretch {X : List Mtx} {T : List Hold} {k : Nat} {m : Mtx} (th : Int) (hm : X[k]? = some m) : depth X T k th = depTo X T k th ((elems (X.take k)).toNat + m.numN) := by
  have hk : k < X.length := (List.getElem?_eq_some_iff.1 hm).1
  have h0 := ownTo_length X k (by omega)
  have hl := own_length X
  have hlt := elems_take_lt X hm hk
  rw [List.take_length] at hlt
  have hn := m.numN_eq
  unfold depth
  obtain ⟨d, hd⟩ : ∃ d, (own X).length = (elems (X.take k)).toNat + m.numN + d := ⟨(own X).length - ((elems (X.take k)).toNat + m.numN), by omega⟩
  rw [hd]
  apply depTo_tail
  intro i h1 h2
  apply depAt_other
  intro h
  obtain ⟨i', m', hv, hm', h3, h4⟩ := own_val h
  have : k = i' := by omega
  subst this
  rw [hm] at hm'
  injection hm' with hm'
  subst hm'
  omega
theorem depTo_before {X : List Mtx} {T : List Hold} {k : Nat} (th : Int) (hk : k < X.length) : depTo X T k th (elems (X.take k)).toNat = 0 := by
  have h0 := ownTo_length X k (by omega)
  exact depTo_none _ fun i hi => depAt_other (own_not_before (by omega))
theorem depth_out {X : List Mtx} {T : List Hold} {m th : Int} (h : m < 0 ∨ (X.length : Int) ≤ m) : depth X T m th = 0 := by
  apply depTo_none
  intro i _
  apply depAt_other
  intro hh
  obtain ⟨k, mm, hv, hm, _⟩ := own_val hh
  have := (List.getElem?_eq_some_iff.1 hm).1
  omega
theorem depth_neg {X : List Mtx} {T : List Hold} {m th : Int} (h : th < 0) : depth X T m th = 0 :=
  depTo_none _ fun _ _ => if_neg (fun hh => by omega)

set_option maxHeartbeats 800000 in
theorem refDepth_any (A A2 : Option Addr) (n c n2 c2 : Nat) (X : List Mtx) (T : List Hold) (m th : Int) (w : World) (h : SlR (EF cMtx) 3 w w.heap.size A n X) (hX : MOk X)
    (ht : SlR (EF cHold) 2 w w.heap.size A2 n2 T) (hT : TOk X T) (hth0 : -1000 ≤ th) (hth : th ≤ 4611686018427387904) :
    Calls Try.prog 28 #[.slice A n c, .slice A2 n2 c2, .int .i64 m, .int .i64 th] w fun r w' => r = .returned (.int .i64 (depth X T m th)) ∧ Below w.heap.size w w' := by
  have hl2 := ht.1
  go_enter Try.func28, Try.ntmps28
  go_wp2_with (fail)
  refine (owners_any A n c X w h hX).mono ?_
  rintro r w1 ⟨A1, c1, rfl, hc1, hr, hb⟩
  have hN := hT.len
  have hNb := own_length_le hX
  have HD := hide (show depth X T m th = depTo X T m th n2 by unfold depth; rw [← hN, hl2])
  rw [← hN, hl2] at hr hc1 hNb ⊢
  have HL := hide hl2
  clear hN hl2
  go_wp2
  go_loop [9, 11] (fun s i => ∃ k : Nat, k ≤ n2 ∧ i = .int .i64 k ∧ s = .int .i64 (depTo X T m th k)) (fun _ i => n2 - (intOf i).toNat)
  case atStart => exact ⟨0, Nat.zero_le _, rfl, rfl⟩
  case round =>
    obtain ⟨k, hk, rfl, rfl⟩ := hrel
    by_cases hlt : k < n2
    · obtain ⟨b, o, x, rfl, hbb, hx, c0⟩ := hr.int hlt
      obtain ⟨b', o', hd, rfl, hbb', hx', d0, d1⟩ := (ht.keepF hb).hold hlt
      have hbd := hT.bound hd (List.mem_of_getElem? hx')
      have hbt := depTo_bound hT m th k
      have hAk : hAt T (k : Int) = hd := by unfold hAt; rw [Int.toNat_natCast, hx']; rfl
      have hs0 : depTo X T m th (k + 1) = depTo X T m th k + (if x = m ∧ hd.owner = th + 1 ∧ 0 ≤ th then hd.depth else 0) := by
        simp only [depTo]
        unfold depAt
        rw [hx, hAk]
        simp
      have HS := hide hs0
      clear hx hx' hAk hs0
      by_cases e1 : x = m
      case neg =>
        have e1' : (x == m) = false := by simpa using e1
        have HS1 := hide (show depTo X T m th (k + 1) = depTo X T m th k by rw [HS.out, if_neg (fun hh => e1 hh.1), Int.add_zero])
        clear e1
        go_wp2
        go_round
        case rel => exact ⟨k + 1, by omega, by go_num, by rw [HS1.out]⟩
        case measure => simp [intOf]; omega
      have e1' : (x == m) = true := by simpa using e1
      have E1 := hide e1
      clear e1
      by_cases e2 : hd.owner = th + 1
      case neg =>
        have e2' : (hd.owner == th + 1) = false := by simpa using e2
        have HS1 := hide (show depTo X T m th (k + 1) = depTo X T m th k by rw [HS.out, if_neg (fun hh => e2 hh.2.1), Int.add_zero])
        clear e2
        go_wp2
        go_round
        case rel => exact ⟨k + 1, by omega, by go_num, by rw [HS1.out]⟩
        case measure => simp [intOf]; omega
      have e2' : (hd.owner == th + 1) = true := by simpa using e2
      have E2 := hide e2
      clear e2
      by_cases e3 : 0 ≤ th
      case neg =>
        have e3' : th < 0 := by omega
        have HS1 := hide (show depTo X T m th (k + 1) = depTo X T m th k by rw [HS.out, if_neg (fun hh => e3 hh.2.2), Int.add_zero])
        clear e3
        go_wp2
        go_round
        case rel => exact ⟨k + 1, by omega, by go_num, by rw [HS1.out]⟩
        case measure => simp [intOf]; omega
      have HS1 := hide (show depTo X T m th (k + 1) = depTo X T m th k + hd.depth by rw [HS.out, if_pos ⟨E1.out, E2.out, e3⟩])
      go_wp2
      go_round
      case rel => exact ⟨k + 1, by omega, by go_num, by rw [HS1.out]⟩
      case measure => simp [intOf]; omega
    · obtain rfl : k = n2 := by omega
      go_wp2
      go_ret
      exact ⟨ret_int (by rw [HD.out]), hb⟩
end Go.Proofs.Ytbbjncjkddekfaa

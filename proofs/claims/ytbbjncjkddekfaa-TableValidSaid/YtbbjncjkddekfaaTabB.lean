/- The walks of the reference's numbering: Owners, Base, MutexOf; and of the law's own mutexes. For mutexes as P8.1 has them. -/
import Derived.Test.YtbbjncjkddekfaaTabA
namespace Go.Proofs.Ytbbjncjkddekfaa
open Go.RowKit
attribute [local go_sem ↓] run_max2 run_min2

theorem own_slice_null {w : World} {base : Nat} {e : TypeId} {sz : Nat} {A : Option Addr} {n c : Nat} {xs : List Value} (h : w.ownsRow base e sz (.slice A n c) n xs) : n ≤ c ∧ (A = none → n = 0) := by
  rcases h.2 with ⟨hv, h0⟩ | ⟨g, cap, cur, hv, _, _, hnc, _⟩
  · injection hv with h1 h2 h3
    exact ⟨by omega, fun _ => h0⟩
  · injection hv with h1 h2 h3
    subst h1 h3
    exact ⟨hnc, (fun h => nomatch h)⟩

set_option maxHeartbeats 400000 in
theorem owners_any (A : Option Addr) (n c : Nat) (X : List Mtx) (w : World) (h : SlR (EF cMtx) 3 w w.heap.size A n X) (hX : MOk X) :
    Calls Try.prog 22 #[.slice A n c] w fun r w' => ∃ A' c', r = .returned (.slice A' (own X).length c') ∧ (own X).length ≤ c' ∧ SlR (EF cInt) 1 w' w'.heap.size A' (own X).length (own X) ∧ Below w.heap.size w w' := by
  have hl := h.1
  have hn := hX.1
  go_enter Try.func22, Try.ntmps22
  go_wp2
  go_loopw [3, 4] (fun v i wr => ∃ k : Nat, k ≤ n ∧ i = .int .i64 k ∧ wr.ownsRow w.heap.size 3 1 v (ownTo X k).length ((ownTo X k).flatMap cInt) ∧ Below w.heap.size w wr) (fun _ i _ => n - (intOf i).toNat)
  case atStart => exact ⟨0, Nat.zero_le _, rfl, by rw [ownTo_zero]; exact World.ownsRow_nil _ _ _ _, Below.refl _ _⟩
  case round =>
    obtain ⟨k, hk, rfl, hown, hb⟩ := hrel
    by_cases hlt : k < n
    · have HM : ∃ m, X[k]? = some m := ⟨_, List.getElem?_eq_getElem (by omega)⟩
      obtain ⟨m, hm⟩ := HM
      have hb1 := hX.at_ hm
      have HM := hide hm
      clear hm
      go_wp2
      obtain ⟨wo, rfl⟩ : ∃ wo : World, wo = wr := ⟨_, rfl⟩
      go_loopw [3, 5] (fun v i wr => ∃ j : Nat, j ≤ m.numN ∧ i = .int .i64 j ∧ wr.ownsRow w.heap.size 3 1 v ((ownTo X k).length + j) ((ownTo X k ++ List.replicate j (k : Int)).flatMap cInt) ∧ Below w.heap.size w wr) (fun _ i _ => m.numN - (intOf i).toNat)
      case atStart => exact ⟨0, Nat.zero_le _, rfl, by simpa using hown, hb⟩
      case round =>
        obtain ⟨j, hj, rfl, hown', hb'⟩ := hrel
        clear hown
        obtain ⟨b, o, m', rfl, hbb, hm, c0, c1, c2⟩ := (h.keepF hb').mtx hlt
        obtain rfl : m' = m := by have := HM.out; rw [hm] at this; injection this
        have hbs := hb'.size
        have hnum : (m'.numN : Int) = max m'.size 1 := m'.numN_eq
        have holn := ownTo_length X k (by omega)
        have hb0 := hX.boundTo k
        clear hm
        by_cases hlt2 : j < m'.numN
        · have hlt3 : (j : Int) < max m'.size 1 := by omega
          have hNb : (ownTo X k).length + j + 1 ≤ 5000 := by omega
          have HN := hide hnum
          have HO := hide holn
          clear hnum holn
          go_wp2_with (at_builtin; refine wpList_app1 _ appInt (by rfl) (.tmp 22) (.tmp 24) (by rfl) w.heap.size _ _ _ _ (by rfl) hown' (by rfl) (by rfl) (one_arr1 _ _) (by omega) (by omega) hbs ?_; intro v1 w1 hown1 hg1 hat1)
          go_roundw
          case rel =>
            refine ⟨j + 1, by omega, by go_num, ?_, below_app hb' hown' hg1 (Nat.le_refl _) hbs⟩
            rw [List.replicate_succ', ← List.append_assoc, flat_int_snoc]
            exact hown1
          case measure => simp [intOf]; omega
        · obtain rfl : j = m'.numN := by omega
          have hge : ¬ ((m'.numN : Int) < max m'.size 1) := by omega
          have HN := hide hnum
          have HO := hide holn
          clear hnum holn
          go_wp2
          go_roundw
          case rel =>
            refine ⟨k + 1, by omega, by go_num, ?_, hb'⟩
            rw [ownTo_succ HM.out, List.length_append, List.length_replicate]
            exact hown'
          case measure => simp [intOf]; omega
    · obtain rfl : k = n := by omega
      obtain ⟨A1, c1, rfl, hc1, _, _, _⟩ := own_form hown
      have HL := hide hl
      clear hl
      go_wp2
      go_ret
      have he : own X = ownTo X k := by unfold own; rw [HL.out]
      rw [he]
      exact ⟨_, _, rfl, hc1, own_read hown (len_cInt _) rfl, hb⟩

set_option maxHeartbeats 400000 in
theorem refBase_any (A : Option Addr) (n c : Nat) (X : List Mtx) (m : Int) (w : World) (h : SlR (EF cMtx) 3 w w.heap.size A n X) (hX : MOk X) :
    Calls Try.prog 23 #[.slice A n c, .int .i64 m] w fun r w' => r = .returned (.int .i64 (baseOf X m)) ∧ Below w.heap.size w w' := by
  go_enter Try.func23, Try.ntmps23
  go_wp2_with (fail)
  refine (owners_any A n c X w h hX).mono ?_
  rintro e w1 ⟨A1, c1, rfl, hc1, hr, hb⟩
  have hol := own_length_le hX
  have hl := h.1
  generalize hN : (own X).length = N at *
  have HN := hide hN
  have HL := hide hl
  clear hN hl
  go_wp2
  go_loop [6] (fun i => ∃ k : Nat, k ≤ N ∧ i = .int .i64 k ∧ ∀ j, j < k → (own X)[j]? ≠ some m) (fun i => N - (intOf i).toNat)
  case atStart => exact ⟨0, Nat.zero_le _, rfl, fun j hj => absurd hj (by omega)⟩
  case round =>
    obtain ⟨k, hk, rfl, hno⟩ := hrel
    have HNO := hide hno
    clear hno
    by_cases hlt : k < N
    · obtain ⟨b, o, x, rfl, hbb, hx, c0⟩ := hr.int hlt
      have HX := hide hx
      clear hx
      by_cases hxm : x = m
      · subst hxm
        have HR := hide (show baseOf X x = k by
          obtain ⟨i, mm, hv, hmm, h1, h2⟩ := own_val HX.out
          have hi : i < X.length := (List.getElem?_eq_some_iff.1 hmm).1
          rw [hv, baseOf_in hi]
          have hf := own_first hi
          rcases Int.lt_or_le (elems (X.take i)) k with hlt | hle
          · exact absurd (by rw [hf, hv]) (HNO.out (elems (X.take i)).toNat (by have := (hX.boundTo i).1; omega))
          · omega)
        go_wp2
        go_ret
        exact ⟨ret_int (by rw [HR.out]), hb⟩
      · have hne : (x == m) = false := by simpa using hxm
        go_wp2
        go_round
        case rel =>
          refine ⟨k + 1, by omega, by go_num, fun j hj => ?_⟩
          by_cases hjk : j < k
          · exact HNO.out j hjk
          · obtain rfl : j = k := by omega
            rw [HX.out]
            intro he
            injection he with he
            exact hxm he
        case measure => simp [intOf]; omega
    · obtain rfl : k = N := by omega
      have HR := hide (show baseOf X m = -1 by
        apply baseOf_out
        rcases Int.lt_or_le m 0 with h0 | h0
        · exact .inl h0
        · rcases Int.lt_or_le m X.length with h1 | h1
          · exfalso
            have hf := own_first (X := X) (k := m.toNat) (by omega)
            have hlt := (List.getElem?_eq_some_iff.1 hf).1
            rw [HN.out] at hlt
            exact HNO.out _ hlt (by rw [hf]; congr 1; omega)
          · exact .inr h1)
      go_wp2
      go_ret
      exact ⟨ret_int (by rw [HR.out]), hb⟩

set_option maxHeartbeats 400000 in
theorem refMutexOf_any (A : Option Addr) (n c : Nat) (X : List Mtx) (m : Int) (w : World) (h : SlR (EF cMtx) 3 w w.heap.size A n X) (hX : MOk X) :
    Calls Try.prog 24 #[.slice A n c, .int .i64 m] w fun r w' => r = .returned (.int .i64 (mutexOf X m)) ∧ Below w.heap.size w w' := by
  go_enter Try.func24, Try.ntmps24
  go_wp2_with (fail)
  refine (owners_any A n c X w h hX).mono ?_
  rintro e w1 ⟨A1, c1, rfl, hc1, hr, hb⟩
  have hol := own_length_le hX
  have hel := own_length X
  generalize hN : (own X).length = N at *
  have HN := hide hN
  have HE := hide hel
  clear hN hel
  by_cases h0 : m < 0
  · have HR := hide (show mutexOf X m = -1 from mutexOf_neg h0)
    go_wp2
    go_ret
    exact ⟨ret_int (by rw [HR.out]), hb⟩
  by_cases h1 : (N : Int) ≤ m
  · have HR := hide (show mutexOf X m = -1 from mutexOf_out (by have := HE.out; omega))
    go_wp2
    go_ret
    exact ⟨ret_int (by rw [HR.out]), hb⟩
  obtain ⟨k, rfl⟩ := Int.eq_ofNat_of_zero_le (show 0 ≤ m by omega)
  obtain ⟨b, o, x, rfl, hbb, hx, c0⟩ := hr.int (show k < N by omega)
  have HR := hide (show mutexOf X k = x by unfold mutexOf; rw [if_neg (by omega), Int.toNat_natCast, hx]; rfl)
  have hkN : k < N := by omega
  clear hx h1 h0
  go_wp2
  go_ret
  exact ⟨ret_int (by rw [HR.out]), hb⟩
end Go.Proofs.Ytbbjncjkddekfaa

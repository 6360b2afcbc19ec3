/- The walks of the numbering of elements: Within, Elements, Base, MutexOf, New, and the reference's Owners, Base, MutexOf. For mutexes as P8.1 has them. -/
import Derived.Test.YtbbjncjkddekfaaTabPlain
namespace Go.Proofs.Ytbbjncjkddekfaa
open Go.RowKit
attribute [local go_sem ↓] run_max2 run_min2

def within (x n : Int) : Int := x % n
theorem within_go {x n : Int} (h : 0 < n) : (x.tmod n + n).tmod n = within x n := by
  unfold within
  have h1 := Int.emod_nonneg x (show n ≠ 0 by omega)
  have h2 := Int.emod_lt_of_pos x h
  have key : ∀ y : Int, 0 ≤ y → y.tmod n = y % n := fun y hy => Int.tmod_eq_emod_of_nonneg hy
  rcases Int.lt_or_le x 0 with hx | hx
  · have e1 : x.tmod n = -((-x) % n) := by
      have := key (-x) (by omega)
      rw [Int.neg_tmod] at this
      omega
    have h3 := Int.emod_nonneg (-x) (show n ≠ 0 by omega)
    have h4 := Int.emod_lt_of_pos (-x) h
    rw [e1, key _ (by omega)]
    rw [Int.add_emod_right]
    have h5 : (-((-x) % n)) % n = x % n := by
      have h6 : -((-x) % n) = x + n * ((-x) / n) := by
        have := Int.emod_add_mul_ediv (-x) n
        omega
      rw [h6, Int.add_mul_emod_self_left]
    exact h5
  · rw [key x hx, key _ (by omega), Int.add_emod_right, Int.emod_emod_of_dvd _ (Int.dvd_refl n)]
theorem within_range {x n : Int} (h : 0 < n) : 0 ≤ within x n ∧ within x n < n := ⟨Int.emod_nonneg x (by omega), Int.emod_lt_of_pos x h⟩

theorem SlR.mtx {w : World} {B n : Nat} {A : Option Addr} {l : List Mtx} (h : SlR (EF cMtx) 3 w B A n l) {k : Nat} (hk : k < n) :
    ∃ b o m, A = some ⟨b, o, none⟩ ∧ b < B ∧ l[k]? = some m ∧ w.cell? ⟨b, o + k * 3, none⟩ = some (.string m.name) ∧ w.cell? ⟨b, o + k * 3 + 1, none⟩ = some (.bool m.re) ∧ w.cell? ⟨b, o + k * 3 + 2, none⟩ = some (.int .i64 m.size) := by
  obtain ⟨b, o, m, hA, hb, hm, _, hc⟩ := h.at1 hk
  exact ⟨b, o, m, hA, hb, hm, hc 0 _ rfl, hc 1 _ rfl, hc 2 _ rfl⟩
theorem SlR.hold {w : World} {B n : Nat} {A : Option Addr} {l : List Hold} (h : SlR (EF cHold) 2 w B A n l) {k : Nat} (hk : k < n) :
    ∃ b o m, A = some ⟨b, o, none⟩ ∧ b < B ∧ l[k]? = some m ∧ w.cell? ⟨b, o + k * 2, none⟩ = some (.int .i64 m.owner) ∧ w.cell? ⟨b, o + k * 2 + 1, none⟩ = some (.int .i64 m.depth) := by
  obtain ⟨b, o, m, hA, hb, hm, _, hc⟩ := h.at1 hk
  exact ⟨b, o, m, hA, hb, hm, hc 0 _ rfl, hc 1 _ rfl⟩
theorem len_cMtx (l : List Mtx) : ∀ x ∈ l, (cMtx x).length = 3 := fun _ _ => rfl
theorem len_cHold (l : List Hold) : ∀ x ∈ l, (cHold x).length = 2 := fun _ _ => rfl
theorem one_cMtx (l : List Mtx) : ∀ x ∈ l, ∀ u ∈ cMtx x, u.oneCell' = true := fun x _ u hu => by
  simp only [cMtx, List.mem_cons, List.not_mem_nil, or_false] at hu
  rcases hu with rfl | rfl | rfl <;> rfl
theorem one_cHold (l : List Hold) : ∀ x ∈ l, ∀ u ∈ cHold x, u.oneCell' = true := fun x _ u hu => by
  simp only [cHold, List.mem_cons, List.not_mem_nil, or_false] at hu
  rcases hu with rfl | rfl <;> rfl
theorem one_cInt (l : List Int) : ∀ x ∈ l, ∀ u ∈ cInt x, u.oneCell' = true := fun x _ u hu => by
  simp only [cInt, List.mem_cons, List.not_mem_nil, or_false] at hu
  subst hu; rfl
theorem appHold : AppT Try.prog 27 30 (.agg #[.int .i64 0, .int .i64 0]) 2 16 := AppT.mk' Try.underlying27 (by kernel_rfl) rfl (by omega)
theorem appMtx : AppT Try.prog 23 33 (.agg #[.string ⟨#[]⟩, .bool false, .int .i64 0]) 3 32 := AppT.mk' Try.underlying23 (by kernel_rfl) rfl (by omega)

set_option maxHeartbeats 400000 in
theorem within_any (x n : Int) (hn : 0 < n) (hb : n ≤ 4611686018427387904) (w : World) :
    Calls Try.prog 17 #[.int .i64 x, .int .i64 n] w fun e w' => e = .returned (.int .i64 (within x n)) ∧ w = w' := by
  have hz : (n == 0) = false := by simp; omega
  go_enter Try.func17, Try.ntmps17
  go_wp2
  go_ret
  refine ⟨ret_int ?_, rfl⟩
  have h1 := Int.lt_tmod_of_pos x hn
  have h2 := Int.tmod_lt_of_pos x hn
  rw [← within_go hn]
  congr 1
  unfold RowKit.wrap64
  omega

set_option maxHeartbeats 400000 in
theorem elements_any (A : Option Addr) (n c : Nat) (X : List Mtx) (w : World) (h : SlR (EF cMtx) 3 w w.heap.size A n X) (hX : MOk X) :
    Calls Try.prog 18 #[.slice A n c] w fun e w' => e = .returned (.int .i64 (elems X)) ∧ Below w.heap.size w w' := by
  have hl := h.1
  have hn := hX.1
  go_enter Try.func18, Try.ntmps18
  go_wp2
  go_loopw [3, 8] (fun s i wr => ∃ k : Nat, k ≤ n ∧ i = .int .i64 k ∧ s = .int .i64 (elems (X.take k)) ∧ Below w.heap.size w wr) (fun _ i _ => n - (intOf i).toNat)
  case atStart => exact ⟨0, Nat.zero_le _, rfl, rfl, Below.refl _ _⟩
  case round =>
    obtain ⟨k, hk, rfl, rfl, hb⟩ := hrel
    by_cases hlt : k < n
    · obtain ⟨b, o, m, rfl, hbb, hm, c0, c1, c2⟩ := (h.keepF hb).mtx hlt
      have hb0 := hX.boundTo k
      have hb1 := hX.at_ hm
      have hsz := hb.size
      have HS := hide (show elems (X.take (k+1)) = elems (X.take k) + max m.size 1 by rw [take_snoc hm, elems_snoc]; rfl)
      clear hm
      go_wp2
      go_roundw
      case rel => exact ⟨k + 1, by omega, by go_num, by rw [HS.out], ((hb.alloc hsz _).alloc (by simp; omega) _)⟩
      case measure => simp [intOf]; omega
    · go_wp2
      go_ret
      exact ⟨ret_int (by first | rfl | rw [List.take_of_length_le (by omega)]), hb⟩

set_option maxHeartbeats 400000 in
theorem base_any (A : Option Addr) (n c : Nat) (X : List Mtx) (m : Int) (w : World) (h : SlR (EF cMtx) 3 w w.heap.size A n X) (hX : MOk X) (hnc : n ≤ c) :
    Calls Try.prog 21 #[.slice A n c, .int .i64 m] w fun e w' => e = .returned (.int .i64 (baseOf X m)) ∧ Below w.heap.size w w' := by
  have hl := h.1
  by_cases hm : m < 0
  · have HB := hide (show baseOf X m = -1 from baseOf_out (.inl hm))
    clear h hX hl
    go_enter Try.func21, Try.ntmps21
    go_wp2
    go_ret
    exact ⟨ret_int (by rw [HB.out]), Below.refl _ _⟩
  by_cases hm2 : (n : Int) ≤ m
  · have HB := hide (show baseOf X m = -1 from baseOf_out (.inr (by omega)))
    clear h hX hl
    go_enter Try.func21, Try.ntmps21
    go_wp2
    go_ret
    exact ⟨ret_int (by rw [HB.out]), Below.refl _ _⟩
  obtain ⟨k, rfl⟩ := Int.eq_ofNat_of_zero_le (show 0 ≤ m by omega)
  have HB := hide (show baseOf X k = elems (X.take k) from baseOf_in (by omega))
  have h' : SlR (EF cMtx) 3 w w.heap.size A k (X.take k) := by
    refine ⟨by simp; omega, fun hk => ?_⟩
    obtain ⟨b, o, hA, hb, hc⟩ := h.2 (by omega)
    refine ⟨b, o, hA, hb, fun j x hx => hc j x ?_⟩
    rw [List.getElem?_take] at hx
    split at hx
    · exact hx
    · cases hx
  have hk : k < n := by omega
  have hX' := hX.take k
  clear h hX hl hm hm2
  go_enter Try.func21, Try.ntmps21
  go_wp2_with (fail)
  refine (elements_any A k k _ w h' hX').mono ?_
  rintro e w' ⟨rfl, hb⟩
  go_wp2
  go_ret
  exact ⟨ret_int (by rw [HB.out]), hb⟩

set_option maxHeartbeats 400000 in
theorem mutexOf_any (A : Option Addr) (n c : Nat) (X : List Mtx) (e : Int) (w : World) (h : SlR (EF cMtx) 3 w w.heap.size A n X) (hX : MOk X) (he : e ≤ 9223372036854775807) :
    Calls Try.prog 20 #[.slice A n c, .int .i64 e] w fun r w' => r = .returned (.int .i64 (mutexOf X e)) ∧ Below w.heap.size w w' := by
  have hl := h.1
  have hn := hX.1
  by_cases hneg : e < 0
  · have HB := hide (show mutexOf X e = -1 from mutexOf_neg hneg)
    clear h hX hl
    go_enter Try.func20, Try.ntmps20
    go_wp2
    go_ret
    exact ⟨ret_int (by rw [HB.out]), Below.refl _ _⟩
  go_enter Try.func20, Try.ntmps20
  go_wp2
  go_loopw [1, 11] (fun s i wr => ∃ k : Nat, k ≤ n ∧ i = .int .i64 k ∧ s = .int .i64 (e - elems (X.take k)) ∧ elems (X.take k) ≤ e ∧ Below w.heap.size w wr) (fun _ i _ => n - (intOf i).toNat)
  case atStart => exact ⟨0, Nat.zero_le _, rfl, int_of (by simp [elems]), by simp [elems]; omega, Below.refl _ _⟩
  case round =>
    obtain ⟨k, hk, rfl, rfl, hle, hb⟩ := hrel
    by_cases hlt : k < n
    · obtain ⟨b, o, m, rfl, hbb, hm, c0, c1, c2⟩ := (h.keepF hb).mtx hlt
      have hb0 := hX.boundTo k
      have hb1 := hX.at_ hm
      have hsz := hb.size
      have HS := hide (show elems (X.take (k+1)) = elems (X.take k) + max m.size 1 by rw [take_snoc hm, elems_snoc]; rfl)
      have HM := hide hm
      clear hm
      by_cases hin : e - elems (X.take k) < max m.size 1
      · have HR := hide (show mutexOf X e = k from mutexOf_hit HM.out (by omega) hle (by unfold Mtx.num; omega))
        go_wp2
        go_ret
        exact ⟨ret_int (by rw [HR.out]), ((hb.alloc hsz _).alloc (by simp; omega) _)⟩
      · go_wp2
        go_roundw
        case rel => exact ⟨k + 1, by omega, by go_num, int_of (by rw [HS.out]; omega), by rw [HS.out]; omega, (((hb.alloc hsz _).alloc (by simp; omega) _).alloc (by simp; omega) _)⟩
        case measure => simp [intOf]; omega
    · have HR := hide (show mutexOf X e = -1 from mutexOf_out (by rwa [List.take_of_length_le (by omega)] at hle))
      go_wp2
      go_ret
      exact ⟨ret_int (by rw [HR.out]), hb⟩

set_option maxHeartbeats 400000 in
theorem new_any (A : Option Addr) (n c : Nat) (X : List Mtx) (w : World) (h : SlR (EF cMtx) 3 w w.heap.size A n X) (hX : MOk X) :
    Calls Try.prog 19 #[.slice A n c] w fun r w' => ∃ A' c', r = .returned (.slice A' (own X).length c') ∧ (own X).length ≤ c' ∧ SlR (EF cHold) 2 w' w'.heap.size A' (own X).length (List.replicate (own X).length ⟨0, 0⟩) ∧ Below w.heap.size w w' := by
  go_enter Try.func19, Try.ntmps19
  go_wp2_with (fail)
  refine (elements_any A n c X w h hX).mono ?_
  rintro e w1 ⟨rfl, hb⟩
  have hol := own_length X
  have hob := own_length_le hX
  generalize hN : (own X).length = N at *
  rw [← hol]
  clear hol
  have hmk := fun W => run_mk appHold .i64 .i64 N (by omega) (by omega) W
  go_wp2
  go_ret
  have hbs := hb.size
  have hown := own_mk (e := 30) (f := cHold) (x := ⟨0, 0⟩) (zc := #[.int .i64 0, .int .i64 0]) (sz := 2) rfl rfl (by omega) N (by omega) (w := w1) (base := 0) (by omega)
  rw [hN]
  exact ⟨_, _, rfl, Nat.le_refl _, own_read hown (fun _ _ => rfl) (by simp), hb.alloc hbs _⟩
end Go.Proofs.Ytbbjncjkddekfaa

/- Plain facts on mutexes, their elements and tables: lists and integers alone, no program. No condition. -/
import Derived.Test.YtbbjncjkddekfaaMem
namespace Go.Proofs.Ytbbjncjkddekfaa

structure Mtx where
  name : ByteArray
  re : Bool
  size : Int
structure Hold where
  owner : Int
  depth : Int
deriving DecidableEq

def cMtx (m : Mtx) : List Value := [.string m.name, .bool m.re, .int .i64 m.size]
def cHold (h : Hold) : List Value := [.int .i64 h.owner, .int .i64 h.depth]
def Mtx.num (m : Mtx) : Int := max m.size 1
def Mtx.numN (m : Mtx) : Nat := (max m.size 1).toNat
theorem Mtx.num_pos (m : Mtx) : 1 ≤ m.num := by unfold Mtx.num; omega
theorem Mtx.numN_eq (m : Mtx) : (m.numN : Int) = m.num := by unfold Mtx.num Mtx.numN; omega

/-- the mutexes that the program is specified for -/
def MOk (X : List Mtx) : Prop := X.length ≤ 64 ∧ ∀ m ∈ X, 0 ≤ m.size ∧ m.size ≤ 64

/-- the number of elements -/
def elems (X : List Mtx) : Int := (X.map Mtx.num).sum
theorem elems_nil : elems [] = 0 := rfl
theorem elems_cons (m : Mtx) (X : List Mtx) : elems (m :: X) = m.num + elems X := by simp [elems]
theorem elems_app (X Y : List Mtx) : elems (X ++ Y) = elems X + elems Y := by simp [elems]
theorem elems_snoc (X : List Mtx) (m : Mtx) : elems (X ++ [m]) = elems X + m.num := by simp [elems]
theorem elems_bound : ∀ (X : List Mtx), (∀ m ∈ X, 0 ≤ m.size ∧ m.size ≤ 64) → (X.length : Int) ≤ elems X ∧ elems X ≤ 64 * X.length
  | [], _ => by simp [elems]
  | m :: X, h => by
    have h1 := h m (by simp)
    have h2 := elems_bound X (fun m hm => h m (by simp [hm]))
    rw [elems_cons]
    simp only [List.length_cons]
    have := m.num_pos
    unfold Mtx.num at *
    omega
theorem MOk.take {X : List Mtx} (h : MOk X) (k : Nat) : MOk (X.take k) :=
  ⟨by have := h.1; simp; omega, fun m hm => h.2 m (List.mem_of_mem_take hm)⟩
theorem MOk.bound {X : List Mtx} (h : MOk X) : 0 ≤ elems X ∧ elems X ≤ 4096 := by
  have := elems_bound X h.2
  have := h.1
  omega
theorem MOk.boundTo {X : List Mtx} (h : MOk X) (k : Nat) : 0 ≤ elems (X.take k) ∧ elems (X.take k) ≤ 4096 := (h.take k).bound
theorem MOk.at_ {X : List Mtx} (h : MOk X) {k : Nat} {m : Mtx} (hm : X[k]? = some m) : 0 ≤ m.size ∧ m.size ≤ 64 := h.2 m (List.mem_of_getElem? hm)
theorem elems_take_le (X : List Mtx) (k : Nat) : elems (X.take k) ≤ elems X := by
  have h := elems_app (X.take k) (X.drop k)
  rw [List.take_append_drop] at h
  have : ∀ Y : List Mtx, 0 ≤ elems Y := fun Y => by
    induction Y with
    | nil => simp [elems]
    | cons m Y ih => rw [elems_cons]; have := m.num_pos; omega
  have := this (X.drop k)
  omega

/-- the numbers of the mutexes of the elements of the first k mutexes -/
def ownTo (X : List Mtx) (k : Nat) : List Int := (X.take k).zipIdx.flatMap fun p => List.replicate p.1.numN (p.2 : Int)
def own (X : List Mtx) : List Int := ownTo X X.length
theorem ownTo_zero (X : List Mtx) : ownTo X 0 = [] := by simp [ownTo]
theorem ownTo_succ {X : List Mtx} {k : Nat} {m : Mtx} (h : X[k]? = some m) : ownTo X (k + 1) = ownTo X k ++ List.replicate m.numN (k : Int) := by
  have hk : k < X.length := (List.getElem?_eq_some_iff.1 h).1
  unfold ownTo
  rw [take_snoc h, List.zipIdx_append, List.flatMap_append]
  congr 1
  simp [Nat.min_eq_left (Nat.le_of_lt hk)]
theorem ownTo_length (X : List Mtx) : ∀ k, k ≤ X.length → ((ownTo X k).length : Int) = elems (X.take k)
  | 0, _ => by simp [ownTo_zero, elems]
  | k + 1, h => by
    have hm : X[k]? = some (X[k]'(by omega)) := List.getElem?_eq_getElem _
    rw [ownTo_succ hm, take_snoc hm, elems_snoc, List.length_append, List.length_replicate, Int.natCast_add, ownTo_length X k (by omega), Mtx.numN_eq]
theorem own_length (X : List Mtx) : ((own X).length : Int) = elems X := by
  rw [own, ownTo_length X _ (Nat.le_refl _), List.take_length]
theorem own_length_le {X : List Mtx} (h : MOk X) : (own X).length ≤ 4096 := by
  have := own_length X
  have := h.bound
  omega
theorem ownTo_prefix (X : List Mtx) (k : Nat) : ∀ d, k + d ≤ X.length → ∃ s, ownTo X (k + d) = ownTo X k ++ s
  | 0, _ => ⟨[], by simp⟩
  | d + 1, h => by
    obtain ⟨s, hs⟩ := ownTo_prefix X k d (by omega)
    have hm : X[k + d]? = some (X[k + d]'(by omega)) := List.getElem?_eq_getElem _
    exact ⟨s ++ List.replicate (X[k + d]'(by omega)).numN ((k + d : Nat) : Int), by rw [show k + (d + 1) = (k + d) + 1 from rfl, ownTo_succ hm, hs, List.append_assoc]⟩
/-- an element's mutex: the one in whose stretch it lies -/
theorem own_at {X : List Mtx} {k : Nat} {m : Mtx} (h : X[k]? = some m) {e : Nat} (h1 : elems (X.take k) ≤ e) (h2 : (e : Int) < elems (X.take k) + m.num) : (own X)[e]? = some (k : Int) := by
  have hk : k < X.length := (List.getElem?_eq_some_iff.1 h).1
  obtain ⟨s, hs⟩ := ownTo_prefix X (k + 1) (X.length - (k + 1)) (by omega)
  rw [own, show X.length = k + 1 + (X.length - (k + 1)) from by omega, hs, ownTo_succ h]
  have hl := ownTo_length X k (by omega)
  have hn := m.numN_eq
  rw [List.append_assoc, List.getElem?_append_right (by omega), List.getElem?_append_left (by rw [List.length_replicate]; omega), List.getElem?_replicate, if_pos (by omega)]

/-- P8.1, MutexOf -/
def mutexOf (X : List Mtx) (e : Int) : Int := if e < 0 then -1 else ((own X)[e.toNat]?).getD (-1)
theorem mutexOf_neg {X : List Mtx} {e : Int} (h : e < 0) : mutexOf X e = -1 := if_pos h
theorem mutexOf_hit {X : List Mtx} {k : Nat} {m : Mtx} (h : X[k]? = some m) {e : Int} (h0 : 0 ≤ e) (h1 : elems (X.take k) ≤ e) (h2 : e < elems (X.take k) + m.num) : mutexOf X e = k := by
  unfold mutexOf
  rw [if_neg (by omega), own_at h (e := e.toNat) (by omega) (by omega)]
  rfl
theorem mutexOf_out {X : List Mtx} {e : Int} (h : elems X ≤ e) : mutexOf X e = -1 := by
  unfold mutexOf
  split
  · rfl
  · rw [List.getElem?_eq_none (by have := own_length X; omega)]
    rfl
/-- where an element lies -/
theorem own_find (X : List Mtx) : ∀ (k : Nat), k ≤ X.length → ∀ e : Int, 0 ≤ e → e < elems (X.take k) → ∃ i m, i < k ∧ X[i]? = some m ∧ elems (X.take i) ≤ e ∧ e < elems (X.take i) + m.num
  | 0, _, e, h0, h => by simp [elems] at h; omega
  | k + 1, hk, e, h0, h => by
    have hm : X[k]? = some (X[k]'(by omega)) := List.getElem?_eq_getElem _
    by_cases hlt : e < elems (X.take k)
    · obtain ⟨i, m, hi, hx, h1, h2⟩ := own_find X k (by omega) e h0 hlt
      exact ⟨i, m, by omega, hx, h1, h2⟩
    · refine ⟨k, _, by omega, hm, by omega, ?_⟩
      rw [take_snoc hm, elems_snoc] at h
      exact h
theorem mutexOf_find {X : List Mtx} {e : Int} (h : 0 ≤ mutexOf X e) : ∃ i m, mutexOf X e = (i : Nat) ∧ X[i]? = some m ∧ 0 ≤ e ∧ elems (X.take i) ≤ e ∧ e < elems (X.take i) + m.num := by
  have h0 : 0 ≤ e := by
    rcases Int.lt_or_le e 0 with h' | h'
    · rw [mutexOf_neg h'] at h; omega
    · exact h'
  have hlt : e < elems X := by
    rcases Int.lt_or_le e (elems X) with h' | h'
    · exact h'
    · rw [mutexOf_out h'] at h; omega
  obtain ⟨i, m, _, hm, h1, h2⟩ := own_find X X.length (Nat.le_refl _) e h0 (by rwa [List.take_length])
  exact ⟨i, m, mutexOf_hit hm h0 h1 h2, hm, h0, h1, h2⟩
theorem mutexOf_in {X : List Mtx} {e : Int} (h0 : 0 ≤ e) (h : e < elems X) : 0 ≤ mutexOf X e := by
  obtain ⟨i, m, _, hm, h1, h2⟩ := own_find X X.length (Nat.le_refl _) e h0 (by rwa [List.take_length])
  rw [mutexOf_hit hm h0 h1 h2]
  omega
theorem mutexOf_iff {X : List Mtx} {e : Int} : 0 ≤ mutexOf X e ↔ 0 ≤ e ∧ e < elems X := by
  constructor
  · intro h
    refine ⟨?_, ?_⟩
    · rcases Int.lt_or_le e 0 with h' | h'
      · rw [mutexOf_neg h'] at h; omega
      · exact h'
    · rcases Int.lt_or_le e (elems X) with h' | h'
      · exact h'
      · rw [mutexOf_out h'] at h; omega
  · exact fun h => mutexOf_in h.1 h.2
theorem mutexOf_ge (X : List Mtx) (e : Int) : -1 ≤ mutexOf X e := by
  rcases Int.lt_or_le e 0 with h' | h'
  · rw [mutexOf_neg h']; omega
  · rcases Int.lt_or_le e (elems X) with h | h
    · have := mutexOf_in h' h; omega
    · rw [mutexOf_out h]; omega
theorem mutexOf_lt (X : List Mtx) (e : Int) : mutexOf X e < X.length := by
  rcases Int.lt_or_le (mutexOf X e) 0 with h | h
  · omega
  · obtain ⟨i, m, h1, h2, _⟩ := mutexOf_find h
    have := (List.getElem?_eq_some_iff.1 h2).1
    omega

/-- P8.1, Base -/
def baseOf (X : List Mtx) (m : Int) : Int := if m < 0 ∨ (X.length : Int) ≤ m then -1 else elems (X.take m.toNat)
theorem baseOf_out {X : List Mtx} {m : Int} (h : m < 0 ∨ (X.length : Int) ≤ m) : baseOf X m = -1 := if_pos h
theorem baseOf_in {X : List Mtx} {k : Nat} (h : k < X.length) : baseOf X k = elems (X.take k) := by
  unfold baseOf
  rw [if_neg (by omega)]
  rfl
/-- before a mutex's stretch no element is its own; its stretch begins with one -/
theorem own_first {X : List Mtx} {k : Nat} (hk : k < X.length) : (own X)[(elems (X.take k)).toNat]? = some (k : Int) := by
  have hm : X[k]? = some (X[k]'hk) := List.getElem?_eq_getElem _
  have h0 : 0 ≤ elems (X.take k) := by have := ownTo_length X k (by omega); omega
  exact own_at hm (by omega) (by have := (X[k]'hk).num_pos; omega)
theorem own_val {X : List Mtx} {e : Nat} {v : Int} (h : (own X)[e]? = some v) : ∃ k m, v = (k : Nat) ∧ X[k]? = some m ∧ elems (X.take k) ≤ e ∧ (e : Int) < elems (X.take k) + m.num := by
  have hl := own_length X
  have he := (List.getElem?_eq_some_iff.1 h).1
  obtain ⟨i, m, _, hm, h1, h2⟩ := own_find X X.length (Nat.le_refl _) e (by omega) (by rw [List.take_length]; omega)
  have := own_at hm h1 h2
  rw [h] at this
  injection this with this
  exact ⟨i, m, this, hm, h1, h2⟩
theorem elems_take_mono (X : List Mtx) {i k : Nat} (h : i ≤ k) : elems (X.take i) ≤ elems (X.take k) := by
  have := elems_take_le (X.take k) i
  rwa [List.take_take, Nat.min_eq_left h] at this
theorem elems_take_lt (X : List Mtx) {i k : Nat} {m : Mtx} (hm : X[i]? = some m) (h : i < k) : elems (X.take i) + m.num ≤ elems (X.take k) := by
  have := elems_take_mono X (show i + 1 ≤ k from h)
  rwa [take_snoc hm, elems_snoc] at this
theorem own_not_before {X : List Mtx} {k e : Nat} (he : (e : Int) < elems (X.take k)) : (own X)[e]? ≠ some (k : Int) := by
  intro h
  obtain ⟨i, m, hv, hm, h1, h2⟩ := own_val h
  have : i = k := by omega
  subst this
  omega
end Go.Proofs.Ytbbjncjkddekfaa

/- Plain laws of Lock, Unlock, Depth: what a lock does to the depths, to other threads, and that an unlock undoes it. For mutexes and tables as P8.1 to P8.4 have them. -/
import Derived.Test.YtbbjncjkddekfaaTabF
namespace Go.Proofs.Ytbbjncjkddekfaa

theorem hAt_set {T : List Hold} {k : Nat} {h : Hold} (hk : k < T.length) (i : Nat) : hAt (T.set k h) (i : Int) = if i = k then h else hAt T (i : Int) := by
  unfold hAt
  rw [Int.toNat_natCast, List.getElem?_set]
  by_cases hi : k = i
  · subst hi
    rw [if_pos rfl, if_pos rfl, if_pos hk]; rfl
  · rw [if_neg hi, if_neg (Ne.symm hi)]
theorem hAt_set_self {T : List Hold} {k : Nat} {h : Hold} (hk : k < T.length) : hAt (T.set k h) (k : Int) = h := by
  rw [hAt_set hk, if_pos rfl]
theorem in_range {X : List Mtx} {T : List Hold} (hl : T.length = (own X).length) {e : Int} (h : 0 ≤ mutexOf X e) : ∃ k : Nat, e = k ∧ k < T.length := by
  obtain ⟨h0, h1⟩ := mutexOf_iff.1 h
  have := own_length X
  exact ⟨e.toNat, by omega, by omega⟩
theorem own_mutexOf {X : List Mtx} {k : Nat} (h : 0 ≤ mutexOf X (k : Int)) (m : Int) : (own X)[k]? = some m ↔ mutexOf X (k : Int) = m := by
  obtain ⟨i, mm, hi, hmm, _, h1, h2⟩ := mutexOf_find h
  have := own_at hmm h1 h2
  rw [hi, this]
  constructor
  · intro hh; injection hh
  · intro hh; rw [hh]
theorem lockT_pos {X : List Mtx} {T : List Hold} {e th : Int} (h : free X T e th = true) : lockT X T e th = T.set e.toNat ⟨th + 1, (hAt T e).depth + 1⟩ := by
  unfold lockT; rw [h]; rfl
theorem lockT_neg {X : List Mtx} {T : List Hold} {e th : Int} (h : free X T e th = false) : lockT X T e th = T := by
  unfold lockT; rw [h]; rfl
theorem unlockT_pos {X : List Mtx} {T : List Hold} {e th : Int} (h : heldBy X T e th = true) : unlockT X T e th = T.set e.toNat (down (hAt T e)) := by
  unfold unlockT; rw [h]; rfl
theorem unlockT_neg {X : List Mtx} {T : List Hold} {e th : Int} (h : heldBy X T e th = false) : unlockT X T e th = T := by
  unfold unlockT; rw [h]; rfl

/-- P8.3: a lock adds 1 to the depth of its mutex, and nothing to others -/
theorem depth_lock {X : List Mtx} {T : List Hold} {n d : Int} (hG : GoodT X T n d) {e th : Int} (hf : free X T e th = true) (m : Int) : depth X (lockT X T e th) m th = depth X T m th + if mutexOf X e = m then 1 else 0 := by
  obtain ⟨hm, hth⟩ := free_in hf
  obtain ⟨k, rfl, hk⟩ := in_range hG.len hm
  rw [lockT_pos hf, Int.toNat_natCast]
  have hTk : T[k]? = some T[k] := List.getElem?_eq_getElem hk
  have hAk := hAt_nat hTk
  obtain ⟨_, _, h3, _, _, _⟩ := hG.ok k _ hTk
  have hw := free_how hf
  rw [hAk] at hw
  have step : ∀ i, depAt X (T.set k ⟨th + 1, (hAt T k).depth + 1⟩) m th i = depAt X T m th i + if i = k ∧ mutexOf X (k : Int) = m then 1 else 0 := by
    intro i
    unfold depAt
    rw [hAt_set hk]
    by_cases hi : i = k
    · subst hi
      rw [if_pos rfl]
      by_cases hmm : mutexOf X (i : Int) = m
      · have ho := (own_mutexOf hm m).2 hmm
        rw [ho, hAk]
        simp only [true_and, hth, and_true, if_true]
        rw [if_pos hmm]
        by_cases h1 : T[i].owner = th + 1
        · rw [if_pos h1]
        · rw [if_neg h1]
          rcases hw with hw | hw
          · have := h3.1 hw; omega
          · exact absurd hw.1 h1
      · have ho : (own X)[i]? ≠ some m := fun hh => hmm ((own_mutexOf hm m).1 hh)
        rw [if_neg (fun hh => ho hh.1), if_neg (fun hh => ho hh.1), if_neg (fun hh => hmm hh.2)]
        rfl
    · have hz : ¬ (i = k ∧ mutexOf X (k : Int) = m) := fun hh => hi hh.1
      rw [if_neg hi, if_neg hz, Int.add_zero]
  have sum : ∀ j, depTo X (T.set k ⟨th + 1, (hAt T k).depth + 1⟩) m th j = depTo X T m th j + if k < j ∧ mutexOf X (k : Int) = m then 1 else 0 := by
    intro j
    induction j with
    | zero => simp [depTo]
    | succ j ih =>
      simp only [depTo]
      rw [ih, step j]
      by_cases hmm : mutexOf X (k : Int) = m
      · by_cases h1 : k < j
        · rw [if_pos ⟨h1, hmm⟩, if_neg (by omega), if_pos ⟨by omega, hmm⟩]; omega
        · by_cases h2 : j = k
          · rw [if_neg (by omega), if_pos ⟨h2, hmm⟩, if_pos ⟨by omega, hmm⟩]; omega
          · rw [if_neg (by omega), if_neg (by omega), if_neg (by omega)]; omega
      · rw [if_neg (fun hh => hmm hh.2), if_neg (fun hh => hmm hh.2), if_neg (fun hh => hmm hh.2)]; omega
  unfold depth
  rw [sum]
  have : k < (own X).length := by have := hG.len; omega
  by_cases hmm : mutexOf X (k : Int) = m
  · rw [if_pos ⟨this, hmm⟩, if_pos hmm]
  · rw [if_neg (fun hh => hmm hh.2), if_neg hmm]

/-- P8.2: what one thread holds is free for no other one -/
theorem free_other {X : List Mtx} {T : List Hold} {e a b : Int} (hl : T.length = (own X).length) (hf : free X T e a = true) (hab : a ≠ b) : free X (lockT X T e a) e b = false := by
  obtain ⟨hm, hth⟩ := free_in hf
  obtain ⟨k, rfl, hk⟩ := in_range hl hm
  rw [lockT_pos hf, Int.toNat_natCast]
  unfold free
  rw [hAt_set_self hk]
  have h1 : ((a + 1 : Int) == 0) = false := by simp; omega
  have h2 : ((a + 1 : Int) == b + 1) = false := by simp; omega
  simp [h1, h2]
theorem held_other {X : List Mtx} {T : List Hold} {e a b : Int} (hl : T.length = (own X).length) (hf : free X T e a = true) (hab : a ≠ b) : heldBy X (lockT X T e a) e b = false := by
  obtain ⟨hm, hth⟩ := free_in hf
  obtain ⟨k, rfl, hk⟩ := in_range hl hm
  rw [lockT_pos hf, Int.toNat_natCast]
  unfold heldBy
  rw [hAt_set_self hk]
  have h2 : ((a + 1 : Int) == b + 1) = false := by simp; omega
  simp [h2]

/-- P8.5: an unlock behind a lock undoes it -/
theorem held_lock {X : List Mtx} {T : List Hold} {e a : Int} (hl : T.length = (own X).length) (hf : free X T e a = true) : heldBy X (lockT X T e a) e a = true := by
  obtain ⟨hm, hth⟩ := free_in hf
  obtain ⟨k, rfl, hk⟩ := in_range hl hm
  rw [lockT_pos hf, Int.toNat_natCast]
  unfold heldBy
  rw [hAt_set_self hk, decide_eq_true ⟨hm, hth⟩]
  simp
theorem unlock_lock {X : List Mtx} {T : List Hold} {n d : Int} (hG : GoodT X T n d) {e a : Int} (hf : free X T e a = true) : unlockT X (lockT X T e a) e a = T := by
  rw [unlockT_pos (held_lock hG.len hf)]
  obtain ⟨hm, hth⟩ := free_in hf
  obtain ⟨k, rfl, hk⟩ := in_range hG.len hm
  rw [lockT_pos hf, Int.toNat_natCast, hAt_set_self hk, List.set_set]
  have hTk : T[k]? = some T[k] := List.getElem?_eq_getElem hk
  have hAk := hAt_nat hTk
  obtain ⟨_, _, h3, h4, _, _⟩ := hG.ok k _ hTk
  have hw := free_how hf
  rw [hAk] at hw ⊢
  have hd : down ⟨a + 1, T[k].depth + 1⟩ = T[k] := by
    unfold down
    simp only [Int.add_sub_cancel]
    by_cases hz : T[k].depth = 0
    · have ho := h3.2 hz
      rw [if_pos hz]
      rw [← ho]
    · rw [if_neg hz]
      rcases hw with hw | hw
      · exact absurd (h3.1 hw) hz
      · rw [← hw.1]
  rw [hd]
  apply List.ext_getElem?
  intro i
  rw [List.getElem?_set]
  split
  · rename_i hi; subst hi; exact hTk.symm
  · rfl
end Go.Proofs.Ytbbjncjkddekfaa

/- Free, Lock, Unlock of the program and of the reference: plain functions, and the walks that show that both compute them. For mutexes and tables as P8.1, P8.2 have them. -/
import Derived.Test.YtbbjncjkddekfaaTabB
namespace Go.Proofs.Ytbbjncjkddekfaa
open Go.RowKit
attribute [local go_sem ↓] run_max2 run_min2

/-! ## plain -/
def hAt (T : List Hold) (e : Int) : Hold := (T[e.toNat]?).getD ⟨0, 0⟩
def reOf (X : List Mtx) (i : Int) : Bool := ((X[i.toNat]?).map Mtx.re).getD false
/-- P8.2, Free -/
def free (X : List Mtx) (T : List Hold) (e th : Int) : Bool :=
  decide (0 ≤ mutexOf X e ∧ 0 ≤ th) && ((hAt T e).owner == 0 || ((hAt T e).owner == th + 1 && reOf X (mutexOf X e)))
def heldBy (X : List Mtx) (T : List Hold) (e th : Int) : Bool := decide (0 ≤ mutexOf X e ∧ 0 ≤ th) && (hAt T e).owner == th + 1
def lockT (X : List Mtx) (T : List Hold) (e th : Int) : List Hold := if free X T e th then T.set e.toNat ⟨th + 1, (hAt T e).depth + 1⟩ else T
def down (h : Hold) : Hold := ⟨if h.depth - 1 = 0 then 0 else h.owner, h.depth - 1⟩
def unlockT (X : List Mtx) (T : List Hold) (e th : Int) : List Hold := if heldBy X T e th then T.set e.toNat (down (hAt T e)) else T

/-- a table for the mutexes, its numbers not too great -/
structure TOk (X : List Mtx) (T : List Hold) : Prop where
  len : T.length = (own X).length
  bound : ∀ h ∈ T, 0 ≤ h.owner ∧ h.owner ≤ 1000000000 ∧ 0 ≤ h.depth ∧ h.depth ≤ 1000000000
theorem TOk.at_ {X : List Mtx} {T : List Hold} (h : TOk X T) {e : Int} (he : 0 ≤ mutexOf X e) : ∃ k m hd, e = (k : Nat) ∧ k < T.length ∧ T[k]? = some hd ∧ hAt T e = hd ∧ mutexOf X e = (m : Nat) ∧ m < X.length := by
  obtain ⟨h0, h1⟩ := mutexOf_iff.1 he
  obtain ⟨i, mm, hi, hm, _⟩ := mutexOf_find he
  obtain ⟨k, rfl⟩ := Int.eq_ofNat_of_zero_le h0
  have hl := own_length X
  have hk : k < T.length := by rw [h.len]; omega
  exact ⟨k, i, T[k], rfl, hk, List.getElem?_eq_getElem hk, by unfold hAt; rw [Int.toNat_natCast, List.getElem?_eq_getElem hk]; rfl, hi, (List.getElem?_eq_some_iff.1 hm).1⟩
theorem free_out {X : List Mtx} {T : List Hold} {e th : Int} (h : ¬ (0 ≤ mutexOf X e ∧ 0 ≤ th)) : free X T e th = false := by
  unfold free; rw [decide_eq_false h]; rfl
theorem heldBy_out {X : List Mtx} {T : List Hold} {e th : Int} (h : ¬ (0 ≤ mutexOf X e ∧ 0 ≤ th)) : heldBy X T e th = false := by
  unfold heldBy; rw [decide_eq_false h]; rfl
theorem lockT_length (X : List Mtx) (T : List Hold) (e th : Int) : (lockT X T e th).length = T.length := by
  unfold lockT; split <;> simp
theorem unlockT_length (X : List Mtx) (T : List Hold) (e th : Int) : (unlockT X T e th).length = T.length := by
  unfold unlockT; split <;> simp

/-! ## walks -/
set_option maxHeartbeats 800000 in
theorem free_any (A A2 : Option Addr) (n c n2 c2 : Nat) (X : List Mtx) (T : List Hold) (e th : Int) (w : World) (h : SlR (EF cMtx) 3 w w.heap.size A n X) (hX : MOk X)
    (ht : SlR (EF cHold) 2 w w.heap.size A2 n2 T) (hT : TOk X T) (he : e ≤ 9223372036854775807) (hth : th ≤ 4611686018427387904) :
    Calls Try.prog 34 #[.slice A n c, .slice A2 n2 c2, .int .i64 e, .int .i64 th] w fun r w' => r = .returned (.bool (free X T e th)) ∧ Below w.heap.size w w' := by
  go_enter Try.func34, Try.ntmps34
  go_wp2_with (fail)
  refine (mutexOf_any A n c X e w h hX he).mono ?_
  rintro r w1 ⟨rfl, hb⟩
  by_cases hm : 0 ≤ mutexOf X e
  case neg =>
    have HR := hide (show free X T e th = false from free_out (by omega))
    have hm' : mutexOf X e < 0 := by omega
    clear hm
    go_wp2
    go_ret
    exact ⟨ret_bool (by rw [HR.out]), hb⟩
  obtain ⟨k, m, hd, rfl, hk, hTk, hAk, hmm, hmX⟩ := hT.at_ hm
  rw [hmm]
  have hkn : k < n2 := by have := ht.1; omega
  have hmn : m < n := by have := h.1; omega
  by_cases h0 : 0 ≤ th
  case neg =>
    have HR := hide (show free X T k th = false from free_out (by omega))
    have h0' : th < 0 := by omega
    clear h0 hTk hAk hmm
    go_wp2
    go_ret
    exact ⟨ret_bool (by rw [HR.out]), hb⟩
  obtain ⟨b, o, hd', rfl, hbb, hx, c0, c1⟩ := (ht.keepF hb).hold hkn
  obtain rfl : hd = hd' := by rw [hTk] at hx; injection hx
  obtain ⟨b', o', mx, rfl, hbb', hx', d0, d1, d2⟩ := (h.keepF hb).mtx hmn
  have hbd := hT.bound hd (List.mem_of_getElem? hTk)
  have hre : reOf X m = mx.re := by unfold reOf; rw [Int.toNat_natCast, hx']; rfl
  have hfr : free X T k th = (hd.owner == 0 || (hd.owner == th + 1 && mx.re)) := by
    unfold free; rw [decide_eq_true ⟨hm, h0⟩, hAk, hmm, hre, Bool.true_and]
  have HR := hide hfr
  clear hfr hx hx' hTk hAk hmm hm hre
  by_cases ho : hd.owner = 0
  · have HO := hide ho
    have ho' : (hd.owner == 0) = true := by simpa using ho
    clear ho
    go_wp2
    go_ret
    exact ⟨ret_bool (by rw [HR.out, HO.out]; rfl), hb⟩
  have ho' : (hd.owner == 0) = false := by simpa using ho
  by_cases ho2 : hd.owner = th + 1
  · have HO := hide ho2
    have HO' := hide ho'
    have ho2' : (hd.owner - 1 == th) = true := by simp; omega
    clear ho ho2
    go_wp2
    go_ret
    refine ⟨ret_bool ?_, hb⟩
    rw [HR.out, HO'.out, HO.out]; simp
  · have HO := hide (show (hd.owner == th + 1) = false by simpa using ho2)
    have HO' := hide ho'
    have ho2' : (hd.owner - 1 == th) = false := by simp; omega
    clear ho ho2
    go_wp2
    go_ret
    refine ⟨ret_bool ?_, hb⟩
    rw [HR.out, HO'.out, HO.out]; simp
set_option maxHeartbeats 800000 in
theorem refFree_any (A A2 : Option Addr) (n c n2 c2 : Nat) (X : List Mtx) (T : List Hold) (e th : Int) (w : World) (h : SlR (EF cMtx) 3 w w.heap.size A n X) (hX : MOk X)
    (ht : SlR (EF cHold) 2 w w.heap.size A2 n2 T) (hT : TOk X T) (hth : th ≤ 4611686018427387904) :
    Calls Try.prog 35 #[.slice A n c, .slice A2 n2 c2, .int .i64 e, .int .i64 th] w fun r w' => r = .returned (.bool (free X T e th)) ∧ Below w.heap.size w w' := by
  go_enter Try.func35, Try.ntmps35
  go_wp2_with (fail)
  refine (refMutexOf_any A n c X e w h hX).mono ?_
  rintro r w1 ⟨rfl, hb⟩
  by_cases hm : 0 ≤ mutexOf X e
  case neg =>
    have HR := hide (show free X T e th = false from free_out (by omega))
    have hm' : mutexOf X e < 0 := by omega
    clear hm
    go_wp2
    go_ret
    exact ⟨ret_bool (by rw [HR.out]), hb⟩
  obtain ⟨k, m, hd, rfl, hk, hTk, hAk, hmm, hmX⟩ := hT.at_ hm
  rw [hmm]
  have hkn : k < n2 := by have := ht.1; omega
  have hmn : m < n := by have := h.1; omega
  by_cases h0 : 0 ≤ th
  case neg =>
    have HR := hide (show free X T k th = false from free_out (by omega))
    have h0' : th < 0 := by omega
    clear h0 hTk hAk hmm
    go_wp2
    go_ret
    exact ⟨ret_bool (by rw [HR.out]), hb⟩
  obtain ⟨b, o, hd', rfl, hbb, hx, c0, c1⟩ := (ht.keepF hb).hold hkn
  obtain rfl : hd = hd' := by rw [hTk] at hx; injection hx
  obtain ⟨b', o', mx, rfl, hbb', hx', d0, d1, d2⟩ := (h.keepF hb).mtx hmn
  have hbd := hT.bound hd (List.mem_of_getElem? hTk)
  have hre : reOf X m = mx.re := by unfold reOf; rw [Int.toNat_natCast, hx']; rfl
  have hfr : free X T k th = (hd.owner == 0 || (hd.owner == th + 1 && mx.re)) := by
    unfold free; rw [decide_eq_true ⟨hm, h0⟩, hAk, hmm, hre, Bool.true_and]
  have HR := hide hfr
  clear hfr hx hx' hTk hAk hmm hm hre
  by_cases ho : hd.owner = 0
  · have HO := hide ho
    have ho' : (hd.owner == 0) = true := by simpa using ho
    clear ho
    go_wp2
    go_ret
    exact ⟨ret_bool (by rw [HR.out, HO.out]; rfl), hb⟩
  have ho' : (hd.owner == 0) = false := by simpa using ho
  by_cases ho2 : hd.owner = th + 1
  · have HO := hide ho2
    have HO' := hide ho'
    have ho2' : (hd.owner == th + 1) = true := by simp; omega
    clear ho ho2
    go_wp2
    go_ret
    refine ⟨ret_bool ?_, hb⟩
    rw [HR.out, HO'.out, HO.out]; simp
  · have HO := hide (show (hd.owner == th + 1) = false by simpa using ho2)
    have HO' := hide ho'
    have ho2' : (hd.owner == th + 1) = false := by simp; omega
    clear ho ho2
    go_wp2
    go_ret
    refine ⟨ret_bool ?_, hb⟩
    rw [HR.out, HO'.out, HO.out]; simp

set_option maxHeartbeats 400000 in
theorem clone_any (A : Option Addr) (n c : Nat) (T : List Hold) (w : World) (ht : SlR (EF cHold) 2 w w.heap.size A n T) (hn : n ≤ 5000) :
    Calls Try.prog 48 #[.slice A n c] w fun r w' => ∃ A' c', r = .returned (.slice A' n c') ∧ w'.ownsRow w.heap.size 30 2 (.slice A' n c') n (T.flatMap cHold) ∧ Below w.heap.size w w' := by
  have heq := fun W => run_eqnil (P := Try.prog) W 27 30 A n c 0 0 Try.underlying27
  rcases A with _ | ad
  · have hn0 : n = 0 := by
      rcases Nat.eq_zero_or_pos n with h0 | h0
      · exact h0
      · obtain ⟨b, o, h, _⟩ := ht.2 h0
        cases h
    subst hn0
    have hT : T = [] := List.eq_nil_of_length_eq_zero ht.1
    subst hT
    go_enter Try.func48, Try.ntmps48
    go_wp2
    go_ret
    exact ⟨none, 0, rfl, World.ownsRow_nil _ _ _ _, Below.refl _ _⟩
  · have hsrc := Src.ofSlR ht (len_cHold T) (one_cHold T) (by omega)
    go_enter Try.func48, Try.ntmps48
    go_wp2_with (at_builtin; refine wpList_appE _ appHold (by rfl) (.tmp 5) (.tmp 6) (by rfl) (by rfl) _ _ _ _ (by rfl) hsrc (by omega) (by omega) (fun h => nomatch h) ?_; intro A1 c1 w1 hown1 hb1)
    go_ret
    exact ⟨A1, c1, rfl, hown1, hb1⟩

theorem own_base {w : World} {base base' : Nat} {e : TypeId} {sz : Nat} {v : Value} {n : Nat} {xs : List Value} (h : w.ownsRow base e sz v n xs) (hb : base' ≤ base) : w.ownsRow base' e sz v n xs := by
  refine ⟨h.1, ?_⟩
  rcases h.2 with h2 | ⟨g, cap, cur, rfl, hbg, rest⟩
  · exact .inl h2
  · exact .inr ⟨g, cap, cur, rfl, by omega, rest⟩
/-- what Lock and Unlock hand back: a table in new memory, and whether it was done -/
def TabRes (w : World) (T : List Hold) (b : Bool) (r : Ending) (w' : World) : Prop :=
  ∃ A' c', r = .returned (.tuple #[.slice A' T.length c', .bool b]) ∧ w'.ownsRow w.heap.size 30 2 (.slice A' T.length c') T.length (T.flatMap cHold) ∧ Below w.heap.size w w'
theorem TabRes.mk' {w w' : World} {T : List Hold} {b b' : Bool} {A : Option Addr} {n c : Nat} (hn : T.length = n) (hown : w'.ownsRow w.heap.size 30 2 (.slice A n c) n (T.flatMap cHold)) (hb : Below w.heap.size w w') (hbb : b = b') :
    TabRes w T b (.returned (.tuple #[.slice A n c, .bool b'])) w' := by
  subst hn hbb
  exact ⟨A, c, rfl, hown, hb⟩
theorem TabRes.open_ {w w' : World} {T : List Hold} {b : Bool} {r : Ending} {n : Nat} (h : TabRes w T b r w') (hn : T.length = n) :
    ∃ A' c', r = .returned (.tuple #[.slice A' n c', .bool b]) ∧ n ≤ c' ∧ SlR (EF cHold) 2 w' w'.heap.size A' n T ∧ w'.ownsRow w.heap.size 30 2 (.slice A' n c') n (T.flatMap cHold) ∧ Below w.heap.size w w' := by
  subst hn
  obtain ⟨A, c, hr, hown, hb⟩ := h
  exact ⟨A, c, hr, (own_slice_null hown).1, own_read hown (len_cHold T) rfl, hown, hb⟩

theorem own_hold {w : World} {base : Nat} {A : Option Addr} {n c k : Nat} {T : List Hold} {hd : Hold} (h : w.ownsRow base 30 2 (.slice A n c) n (T.flatMap cHold)) (hk : k < n) (hx : T[k]? = some hd) :
    ∃ g, A = some ⟨g, 0, none⟩ ∧ base ≤ g ∧ g < w.heap.size ∧ w.cell? ⟨g, k * 2, none⟩ = some (.int .i64 hd.owner) ∧ w.cell? ⟨g, k * 2 + 1, none⟩ = some (.int .i64 hd.depth) ∧ (∀ j, w.frozen? ⟨g, j, none⟩ = false) ∧
      (∀ x, (w.setCell ⟨g, k * 2, none⟩ (.int .i64 x)).ownsRow base 30 2 (.slice A n c) n ((T.set k ⟨x, hd.depth⟩).flatMap cHold)) ∧
      (∀ x, (w.setCell ⟨g, k * 2 + 1, none⟩ (.int .i64 x)).ownsRow base 30 2 (.slice A n c) n ((T.set k ⟨hd.owner, x⟩).flatMap cHold)) := by
  obtain ⟨g, hA, hb, hlt, hc, hf, hs⟩ := own_block h (by omega)
  have h0 := flatMap_at cHold 2 T (len_cHold T) k hd hx 0 (by omega)
  have h1 := flatMap_at cHold 2 T (len_cHold T) k hd hx 1 (by omega)
  refine ⟨g, hA, hb, hlt, hc _ _ h0, hc _ _ h1, hf, fun x => ?_, fun x => ?_⟩
  · rw [← flatMap_set1 cHold 2 T (len_cHold T) k hd hx 0 (.int .i64 x) ⟨x, hd.depth⟩ (by omega) rfl]
    exact hs _ _ (by omega)
  · rw [← flatMap_set1 cHold 2 T (len_cHold T) k hd hx 1 (.int .i64 x) ⟨hd.owner, x⟩ (by omega) rfl]
    exact hs _ _ (by omega)

set_option maxHeartbeats 800000 in
theorem lock_any (A A2 : Option Addr) (n c n2 c2 : Nat) (X : List Mtx) (T : List Hold) (e th : Int) (w : World) (h : SlR (EF cMtx) 3 w w.heap.size A n X) (hX : MOk X)
    (ht : SlR (EF cHold) 2 w w.heap.size A2 n2 T) (hT : TOk X T) (he : e ≤ 9223372036854775807) (hth : th ≤ 4611686018427387904) :
    Calls Try.prog 29 #[.slice A n c, .slice A2 n2 c2, .int .i64 e, .int .i64 th] w (TabRes w (lockT X T e th) (free X T e th)) := by
  have hl2 := ht.1
  have hn2 : n2 ≤ 5000 := by have := own_length_le hX; have := hT.len; omega
  have hLL := lockT_length X T e th
  generalize hB : lockT X T e th = L at *
  have HB := hide hB
  clear hB
  rw [hl2] at hLL
  have HLL := hide hLL
  clear hLL
  go_enter Try.func29, Try.ntmps29
  go_wp2_with (fail)
  refine (clone_any A2 n2 c2 T w ht hn2).mono ?_
  rintro r w1 ⟨A1, c1, rfl, hown, hb⟩
  go_wp2_with (fail)
  have h' := h.onF hb hb.size
  have ht' := ht.onF hb hb.size
  refine (free_any A A2 n c n2 c2 X T e th w1 h' hX ht' hT he hth).mono ?_
  rintro r w2 ⟨rfl, hb2⟩
  have hbs := hb.size
  have hbw := hb.trans (hb2.mono hb.size)
  have hown2 := own_below' hown hb2
  cases hf : free X T e th with
  | false =>
    go_wp2
    go_ret2
    have hL : L = T := by rw [← HB.out]; unfold lockT; rw [hf]; rfl
    exact TabRes.mk' HLL.out (by rw [hL]; exact hown2) hbw hf
  | true =>
    have hm : 0 ≤ mutexOf X e ∧ 0 ≤ th := by
      by_cases hh : 0 ≤ mutexOf X e ∧ 0 ≤ th
      · exact hh
      · rw [free_out hh] at hf; cases hf
    obtain ⟨k, m, hd, rfl, hk, hTk, hAk, hmm, hmX⟩ := hT.at_ hm.1
    have hkn : k < n2 := by omega
    have hbd := hT.bound hd (List.mem_of_getElem? hTk)
    obtain ⟨b, o, hd', rfl, hbb, hx, c0, c1'⟩ := (ht.keepF hbw).hold hkn
    obtain rfl : hd = hd' := by rw [hTk] at hx; injection hx
    obtain ⟨g, rfl, hg, hglt, e0, e1, ef, s0, s1⟩ := own_hold hown2 hkn hTk
    have ef0 := ef (k * 2)
    have ef1 := ef (k * 2 + 1)
    have hL : L = T.set k ⟨th + 1, hd.depth + 1⟩ := by rw [← HB.out]; unfold lockT; rw [hf, hAk]; rfl
    have HL := hide hL
    have HF := hide hf
    have hm0 := hm.2
    have S0 := hide (s0 (th + 1))
    clear hx hTk hAk hmm hL hf hm s0 s1 ef hl2
    go_wp2
    go_ret2
    refine TabRes.mk' (A := some ⟨g, 0, none⟩) (c := c1) (n := n2) HLL.out ?_ ?_ HF.out
    · rw [HL.out]
      have hx2 : (T.set k ⟨th + 1, hd.depth⟩)[k]? = some ⟨th + 1, hd.depth⟩ := by rw [List.getElem?_set_self (by omega)]
      obtain ⟨g', hg', _, _, _, _, _, _, s1⟩ := own_hold S0.out hkn hx2
      injection hg' with hg'
      injection hg' with hg'
      subst hg'
      have := s1 (hd.depth + 1)
      rw [List.set_set] at this
      exact this
    · exact (hbw.setCell (by simpa using hg) _).setCell (by simpa using hg) _
set_option maxHeartbeats 800000 in
theorem refLock_any (A A2 : Option Addr) (n c n2 c2 : Nat) (X : List Mtx) (T : List Hold) (e th : Int) (w : World) (h : SlR (EF cMtx) 3 w w.heap.size A n X) (hX : MOk X)
    (ht : SlR (EF cHold) 2 w w.heap.size A2 n2 T) (hT : TOk X T) (hth : th ≤ 4611686018427387904) :
    Calls Try.prog 30 #[.slice A n c, .slice A2 n2 c2, .int .i64 e, .int .i64 th] w (TabRes w (lockT X T e th) (free X T e th)) := by
  have hl2 := ht.1
  have hn2 : n2 ≤ 5000 := by have := own_length_le hX; have := hT.len; omega
  have hLL := lockT_length X T e th
  generalize hB : lockT X T e th = L at *
  have HB := hide hB
  clear hB
  rw [hl2] at hLL
  have HLL := hide hLL
  clear hLL
  go_enter Try.func30, Try.ntmps30
  have hsrc := Src.ofSlR ht (len_cHold T) (one_cHold T) (by omega)
  have hA2 : A2 = none → n2 = 0 := fun h0 => by
    rcases Nat.eq_zero_or_pos n2 with h1 | h1
    · exact h1
    · obtain ⟨b, o, h2, _⟩ := ht.2 h1
      rw [h0] at h2; cases h2
  have HA2 := hide hA2
  clear hA2
  go_wp2_with (at_builtin; refine wpList_appE _ appHold (by rfl) (.tmp 10) (.tmp 11) (by rfl) (by rfl) _ _ _ _ (by rfl) hsrc (by omega) (by omega) HA2.out ?_; intro A1 c1 w1 hown hb)
  go_wp2_with (fail)
  have h' := h.onF hb hb.size
  have ht' : SlR (EF cHold) 2 w1 w1.heap.size A1 n2 T := own_read hown (len_cHold T) hl2
  refine (refFree_any A A1 n c n2 c1 X T e th w1 h' hX ht' hT hth).mono ?_
  rintro r w2 ⟨rfl, hb2⟩
  have hbs := hb.size
  have hbw := hb.trans (hb2.mono hb.size)
  have hown2 := own_below' hown hb2
  cases hf : free X T e th with
  | false =>
    go_wp2
    go_ret2
    have hL : L = T := by rw [← HB.out]; unfold lockT; rw [hf]; rfl
    exact TabRes.mk' HLL.out (by rw [hL]; exact hown2) hbw hf
  | true =>
    have hm : 0 ≤ mutexOf X e ∧ 0 ≤ th := by
      by_cases hh : 0 ≤ mutexOf X e ∧ 0 ≤ th
      · exact hh
      · rw [free_out hh] at hf; cases hf
    obtain ⟨k, m, hd, rfl, hk, hTk, hAk, hmm, hmX⟩ := hT.at_ hm.1
    have hkn : k < n2 := by omega
    have hbd := hT.bound hd (List.mem_of_getElem? hTk)
    obtain ⟨g, rfl, hg, hglt, e0, e1, ef, s0, s1⟩ := own_hold hown2 hkn hTk
    have ef0 := ef (k * 2)
    have ef1 := ef (k * 2 + 1)
    have hL : L = T.set k ⟨th + 1, hd.depth + 1⟩ := by rw [← HB.out]; unfold lockT; rw [hf, hAk]; rfl
    have HL := hide hL
    have HF := hide hf
    have hm0 := hm.2
    have S0 := hide (s0 (th + 1))
    clear hTk hAk hmm hL hf hm s0 s1 ef hl2
    go_wp2
    go_ret2
    refine TabRes.mk' (A := some ⟨g, 0, none⟩) (c := c1) (n := n2) HLL.out ?_ ?_ HF.out
    · rw [HL.out]
      have hx2 : (T.set k ⟨th + 1, hd.depth⟩)[k]? = some ⟨th + 1, hd.depth⟩ := by rw [List.getElem?_set_self (by omega)]
      obtain ⟨g', hg', _, _, _, _, _, _, s1⟩ := own_hold S0.out hkn hx2
      injection hg' with hg'
      injection hg' with hg'
      subst hg'
      have := s1 (hd.depth + 1)
      rw [List.set_set] at this
      exact this
    · exact (hbw.setCell (by simpa using hg) _).setCell (by simpa using hg) _

set_option maxHeartbeats 800000 in
theorem unlock_any (A A2 : Option Addr) (n c n2 c2 : Nat) (X : List Mtx) (T : List Hold) (e th : Int) (w : World) (hX : MOk X)
    (ht : SlR (EF cHold) 2 w w.heap.size A2 n2 T) (hT : TOk X T) (hth : th ≤ 4611686018427387904) :
    Calls Try.prog 31 #[.slice A n c, .slice A2 n2 c2, .int .i64 e, .int .i64 th] w (TabRes w (unlockT X T e th) (heldBy X T e th)) := by
  have hl2 := ht.1
  have hn2 : n2 ≤ 5000 := by have := own_length_le hX; have := hT.len; omega
  have hLL := unlockT_length X T e th
  have hlen : (n2 : Int) = elems X := by rw [← own_length, ← hT.len, hl2]
  generalize hB : unlockT X T e th = L at *
  have HB := hide hB
  have HN := hide hlen
  clear hB hlen
  rw [hl2] at hLL
  have HLL := hide hLL
  clear hLL
  go_enter Try.func31, Try.ntmps31
  go_wp2_with (fail)
  refine (clone_any A2 n2 c2 T w ht hn2).mono ?_
  rintro r w1 ⟨A1, c1, rfl, hown, hb⟩
  have hbs := hb.size
  have no : heldBy X T e th = false → L = T := fun h => by rw [← HB.out]; unfold unlockT; rw [h]; rfl
  by_cases h1 : 0 ≤ e
  case neg =>
    have hf : heldBy X T e th = false := heldBy_out (fun hh => h1 (mutexOf_iff.1 hh.1).1)
    have HL := hide (no hf)
    have HF := hide hf
    have h1' : e < 0 := by omega
    clear h1 no hf hl2
    go_wp2
    go_ret2
    exact TabRes.mk' HLL.out (by rw [HL.out]; exact hown) hb HF.out
  by_cases h2 : e < n2
  case neg =>
    have hf : heldBy X T e th = false := heldBy_out (fun hh => by have := (mutexOf_iff.1 hh.1).2; have := HN.out; omega)
    have HL := hide (no hf)
    have HF := hide hf
    have h2' : (n2 : Int) ≤ e := by omega
    clear h2 no hf hl2
    go_wp2
    go_ret2
    exact TabRes.mk' HLL.out (by rw [HL.out]; exact hown) hb HF.out
  have hm : 0 ≤ mutexOf X e := mutexOf_in h1 (by have := HN.out; omega)
  obtain ⟨k, m, hd, rfl, hk, hTk, hAk, hmm, hmX⟩ := hT.at_ hm
  have hkn : k < n2 := by omega
  by_cases h3 : 0 ≤ th
  case neg =>
    have hf : heldBy X T k th = false := heldBy_out (by omega)
    have HL := hide (no hf)
    have HF := hide hf
    have h3' : th < 0 := by omega
    clear h3 no hf hl2 hTk hAk hmm hm
    go_wp2
    go_ret2
    exact TabRes.mk' HLL.out (by rw [HL.out]; exact hown) hb HF.out
  have hbd := hT.bound hd (List.mem_of_getElem? hTk)
  obtain ⟨b, o, hd', rfl, hbb, hx, c0, c1'⟩ := (ht.keepF hb).hold hkn
  obtain rfl : hd = hd' := by rw [hTk] at hx; injection hx
  by_cases h4 : hd.owner = th + 1
  case neg =>
    have hf : heldBy X T k th = false := by
      unfold heldBy; rw [hAk, show (hd.owner == th + 1) = false by simpa using h4]; simp
    have HL := hide (no hf)
    have HF := hide hf
    have h4' : (hd.owner - 1 != th) = true := by simp; omega
    clear h4 no hf hl2 hTk hAk hmm hm hx
    go_wp2
    go_ret2
    exact TabRes.mk' HLL.out (by rw [HL.out]; exact hown) hb HF.out
  have hf : heldBy X T k th = true := by
    unfold heldBy; rw [hAk, show (hd.owner == th + 1) = true by simpa using h4, decide_eq_true ⟨hm, h3⟩]; rfl
  have h4' : (hd.owner - 1 != th) = false := by simp; omega
  obtain ⟨g, rfl, hg, hglt, e0, e1, ef, s0, s1⟩ := own_hold hown hkn hTk
  have ef0 := ef (k * 2)
  have ef1 := ef (k * 2 + 1)
  have hL : L = T.set k (down hd) := by rw [← HB.out]; unfold unlockT; rw [hf, hAk]; rfl
  have HL := hide hL
  have HF := hide hf
  have S1 := hide (s1 (hd.depth - 1))
  have HTk := hide hTk
  clear hx hTk hAk hmm hL hf hm s0 s1 ef hl2 no h4
  by_cases h5 : hd.depth - 1 = 0
  · have h5' : (hd.depth - 1 == 0) = true := by simpa using h5
    have H5 := hide h5
    clear h5
    go_wp2
    go_ret2
    refine TabRes.mk' (A := some ⟨g, 0, none⟩) (c := c1) (n := n2) HLL.out ?_ ?_ HF.out
    · rw [HL.out, down, if_pos H5.out]
      have hx2 : (T.set k ⟨hd.owner, hd.depth - 1⟩)[k]? = some ⟨hd.owner, hd.depth - 1⟩ := by rw [List.getElem?_set_self (by omega)]
      obtain ⟨g', hg', _, _, _, _, _, s0, _⟩ := own_hold S1.out hkn hx2
      injection hg' with hg'
      injection hg' with hg'
      subst hg'
      have := s0 0
      rw [List.set_set] at this
      exact this
    · exact (hb.setCell (by simpa using hg) _).setCell (by simpa using hg) _
  · have h5' : (hd.depth - 1 == 0) = false := by simpa using h5
    have H5 := hide h5
    clear h5
    go_wp2
    go_ret2
    refine TabRes.mk' (A := some ⟨g, 0, none⟩) (c := c1) (n := n2) HLL.out ?_ ?_ HF.out
    · rw [HL.out, down, if_neg H5.out]
      exact S1.out
    · exact hb.setCell (by simpa using hg) _
set_option maxHeartbeats 800000 in
theorem refUnlock_any (A A2 : Option Addr) (n c n2 c2 : Nat) (X : List Mtx) (T : List Hold) (e th : Int) (w : World) (h : SlR (EF cMtx) 3 w w.heap.size A n X) (hX : MOk X)
    (ht : SlR (EF cHold) 2 w w.heap.size A2 n2 T) (hT : TOk X T) (hth : th ≤ 4611686018427387904) :
    Calls Try.prog 32 #[.slice A n c, .slice A2 n2 c2, .int .i64 e, .int .i64 th] w (TabRes w (unlockT X T e th) (heldBy X T e th)) := by
  have hl2 := ht.1
  have hn2 : n2 ≤ 5000 := by have := own_length_le hX; have := hT.len; omega
  have hLL := unlockT_length X T e th
  have hlen : (n2 : Int) = elems X := by rw [← own_length, ← hT.len, hl2]
  generalize hB : unlockT X T e th = L at *
  have HB := hide hB
  have HN := hide hlen
  clear hB hlen
  rw [hl2] at hLL
  have HLL := hide hLL
  clear hLL
  go_enter Try.func32, Try.ntmps32
  have hsrc := Src.ofSlR ht (len_cHold T) (one_cHold T) (by omega)
  have hA2 : A2 = none → n2 = 0 := fun h0 => by
    rcases Nat.eq_zero_or_pos n2 with h1 | h1
    · exact h1
    · obtain ⟨b, o, h2, _⟩ := ht.2 h1
      rw [h0] at h2; cases h2
  have HA2 := hide hA2
  clear hA2
  go_wp2_with (at_builtin; refine wpList_appE _ appHold (by rfl) (.tmp 10) (.tmp 11) (by rfl) (by rfl) _ _ _ _ (by rfl) hsrc (by omega) (by omega) HA2.out ?_; intro A1 c1 w1 hown0 hb0)
  go_wp2_with (fail)
  have h' := h.onF hb0 hb0.size
  refine (refMutexOf_any A n c X e w1 h' hX).mono ?_
  rintro r w2 ⟨rfl, hb2⟩
  have hbs0 := hb0.size
  have hb := hb0.trans (hb2.mono hb0.size)
  have hbs := hb.size
  have hown := own_below' hown0 hb2
  clear hb2 hown0 hb0 hbs0
  have no : heldBy X T e th = false → L = T := fun h => by rw [← HB.out]; unfold unlockT; rw [h]; rfl
  by_cases hm : 0 ≤ mutexOf X e
  case neg =>
    have hf : heldBy X T e th = false := heldBy_out (fun hh => hm hh.1)
    have HL := hide (no hf)
    have HF := hide hf
    have h1' : mutexOf X e < 0 := by omega
    clear hm no hf hl2
    go_wp2
    go_ret2
    exact TabRes.mk' HLL.out (by rw [HL.out]; exact hown) hb HF.out
  obtain ⟨k, m, hd, rfl, hk, hTk, hAk, hmm, hmX⟩ := hT.at_ hm
  have hkn : k < n2 := by omega
  rw [hmm]
  by_cases h3 : 0 ≤ th
  case neg =>
    have hf : heldBy X T k th = false := heldBy_out (by omega)
    have HL := hide (no hf)
    have HF := hide hf
    have h3' : th < 0 := by omega
    clear h3 no hf hl2 hTk hAk hmm hm
    go_wp2
    go_ret2
    exact TabRes.mk' HLL.out (by rw [HL.out]; exact hown) hb HF.out
  have hbd := hT.bound hd (List.mem_of_getElem? hTk)
  obtain ⟨g, rfl, hg, hglt, e0, e1, ef, s0, s1⟩ := own_hold hown hkn hTk
  by_cases h4 : hd.owner = th + 1
  case neg =>
    have hf : heldBy X T k th = false := by
      unfold heldBy; rw [hAk, show (hd.owner == th + 1) = false by simpa using h4]; simp
    have HL := hide (no hf)
    have HF := hide hf
    have h4' : (hd.owner != th + 1) = true := by simpa using h4
    clear h4 no hf hl2 hTk hAk hmm hm s0 s1 ef
    go_wp2
    go_ret2
    exact TabRes.mk' HLL.out (by rw [HL.out]; exact hown) hb HF.out
  have hf : heldBy X T k th = true := by
    unfold heldBy; rw [hAk, show (hd.owner == th + 1) = true by simpa using h4, decide_eq_true ⟨hm, h3⟩]; rfl
  have h4' : (hd.owner != th + 1) = false := by simpa using h4
  have ef0 := ef (k * 2)
  have ef1 := ef (k * 2 + 1)
  have hL : L = T.set k (down hd) := by rw [← HB.out]; unfold unlockT; rw [hf, hAk]; rfl
  have HL := hide hL
  have HF := hide hf
  have S1 := hide (s1 (hd.depth - 1))
  have HTk := hide hTk
  clear hTk hAk hmm hL hf hm s0 s1 ef hl2 no h4
  by_cases h5 : hd.depth - 1 = 0
  · have h5' : (hd.depth - 1 == 0) = true := by simpa using h5
    have H5 := hide h5
    clear h5
    go_wp2
    go_ret2
    refine TabRes.mk' (A := some ⟨g, 0, none⟩) (c := c1) (n := n2) HLL.out ?_ ?_ HF.out
    · rw [HL.out, down, if_pos H5.out]
      have hx2 : (T.set k ⟨hd.owner, hd.depth - 1⟩)[k]? = some ⟨hd.owner, hd.depth - 1⟩ := by rw [List.getElem?_set_self (by omega)]
      obtain ⟨g', hg', _, _, _, _, _, s0, _⟩ := own_hold S1.out hkn hx2
      injection hg' with hg'
      injection hg' with hg'
      subst hg'
      have := s0 0
      rw [List.set_set] at this
      exact this
    · exact (hb.setCell (by simpa using hg) _).setCell (by simpa using hg) _
  · have h5' : (hd.depth - 1 == 0) = false := by simpa using h5
    have H5 := hide h5
    clear h5
    go_wp2
    go_ret2
    refine TabRes.mk' (A := some ⟨g, 0, none⟩) (c := c1) (n := n2) HLL.out ?_ ?_ HF.out
    · rw [HL.out, down, if_neg H5.out]
      exact S1.out
    · exact hb.setCell (by simpa using hg) _
end Go.Proofs.Ytbbjncjkddekfaa

/- Tables that locks and unlocks keep good; the walks of the law's own mutexes and made, and of its sanity check. No condition. -/
import Derived.Test.YtbbjncjkddekfaaTabE
import Derived.Laws.BitsAllLaws
namespace Go.Proofs.Ytbbjncjkddekfaa
open Go.RowKit
attribute [local go_sem ↓] run_max2 run_min2

/-! ## good tables -/
structure GoodT (X : List Mtx) (T : List Hold) (n d : Int) : Prop where
  len : T.length = (own X).length
  ok : ∀ (k : Nat) (hd : Hold), T[k]? = some hd → 0 ≤ hd.owner ∧ hd.owner ≤ n ∧ (hd.owner = 0 ↔ hd.depth = 0) ∧ 0 ≤ hd.depth ∧ hd.depth ≤ d ∧ (1 < hd.depth → reOf X (mutexOf X k) = true)
theorem GoodT.tok {X : List Mtx} {T : List Hold} {n d : Int} (h : GoodT X T n d) (hn : n ≤ 1000000000) (hd : d ≤ 1000000000) : TOk X T :=
  ⟨h.len, fun x hx => by
    obtain ⟨k, hk⟩ := List.getElem?_of_mem hx
    have := h.ok k x hk
    omega⟩
theorem GoodT.valid {X : List Mtx} {T : List Hold} {n d : Int} (h : GoodT X T n d) : validT X T n = true :=
  validT_good h.len fun k hd hx => by
    obtain ⟨h1, h2, h3, h4, _, h6⟩ := h.ok k hd hx
    unfold okHold
    have e1 : decide (hd.owner < 0) = false := decide_eq_false (by omega)
    have e2 : decide (n < hd.owner) = false := decide_eq_false (by omega)
    have e4 : decide (hd.depth < 0) = false := decide_eq_false (by omega)
    have e3 : ((hd.owner == 0) != (hd.depth == 0)) = false := by
      by_cases hz : hd.owner = 0
      · simp [hz, h3.1 hz]
      · have : hd.depth ≠ 0 := fun hh => hz (h3.2 hh)
        rw [show (hd.owner == 0) = false by simpa using hz, show (hd.depth == 0) = false by simpa using this]
        rfl
    rw [e1, e2, e3, e4]
    by_cases h5 : 1 < hd.depth
    · simp [h5, h6 h5]
    · simp [h5]
theorem GoodT.mono {X : List Mtx} {T : List Hold} {n d n' d' : Int} (h : GoodT X T n d) (hn : n ≤ n') (hd : d ≤ d') : GoodT X T n' d' :=
  ⟨h.len, fun k x hx => by have := h.ok k x hx; refine ⟨?_, ?_, ?_, ?_, ?_, ?_⟩ <;> first | omega | exact this.2.2.1 | exact this.2.2.2.2.2⟩
theorem GoodT.zero (X : List Mtx) (n d : Int) (hn : 0 ≤ n) (hd : 0 ≤ d) : GoodT X (List.replicate (own X).length ⟨0, 0⟩) n d :=
  ⟨by simp, fun k x hx => by
    rw [List.getElem?_replicate] at hx
    split at hx
    · injection hx with hx
      subst hx
      simp [hn, hd]
    · cases hx⟩
theorem hAt_nat {T : List Hold} {k : Nat} {hd : Hold} (h : T[k]? = some hd) : hAt T (k : Int) = hd := by
  unfold hAt; rw [Int.toNat_natCast, h]; rfl
theorem free_in {X : List Mtx} {T : List Hold} {e th : Int} (h : free X T e th = true) : 0 ≤ mutexOf X e ∧ 0 ≤ th := by
  by_cases hh : 0 ≤ mutexOf X e ∧ 0 ≤ th
  · exact hh
  · rw [free_out hh] at h; cases h
theorem heldBy_in {X : List Mtx} {T : List Hold} {e th : Int} (h : heldBy X T e th = true) : (0 ≤ mutexOf X e ∧ 0 ≤ th) ∧ (hAt T e).owner = th + 1 := by
  by_cases hh : 0 ≤ mutexOf X e ∧ 0 ≤ th
  · refine ⟨hh, ?_⟩
    unfold heldBy at h
    rw [Bool.and_eq_true] at h
    simpa using h.2
  · rw [heldBy_out hh] at h; cases h
theorem free_how {X : List Mtx} {T : List Hold} {e th : Int} (h : free X T e th = true) : (hAt T e).owner = 0 ∨ ((hAt T e).owner = th + 1 ∧ reOf X (mutexOf X e) = true) := by
  unfold free at h
  rw [Bool.and_eq_true, Bool.or_eq_true, Bool.and_eq_true] at h
  rcases h.2 with h1 | h1
  · exact .inl (by simpa using h1)
  · exact .inr ⟨by simpa using h1.1, h1.2⟩

theorem GoodT.lock {X : List Mtx} {T : List Hold} {n d : Int} (h : GoodT X T n d) (e th : Int) (hth : th + 1 ≤ n) (_hd0 : 0 ≤ d) : GoodT X (lockT X T e th) n (d + 1) := by
  cases hf : free X T e th with
  | false =>
    have : lockT X T e th = T := by unfold lockT; rw [hf]; rfl
    rw [this]
    exact h.mono (Int.le_refl _) (by omega)
  | true =>
    refine ⟨by rw [lockT_length]; exact h.len, fun k x hx => ?_⟩
    have hL : lockT X T e th = T.set e.toNat ⟨th + 1, (hAt T e).depth + 1⟩ := by unfold lockT; rw [hf]; rfl
    rw [hL, List.getElem?_set] at hx
    obtain ⟨hm, hth0⟩ := free_in hf
    have he0 := (mutexOf_iff.1 hm).1
    split at hx
    · rename_i hke
      split at hx
      · injection hx with hx
        subst hx
        have hek : e = (k : Int) := by omega
        subst hek
        rename_i hkl
        have hkl : k < T.length := by omega
        have hTk : T[k]? = some T[k] := List.getElem?_eq_getElem hkl
        obtain ⟨h1, h2, h3, h4, h5, h6⟩ := h.ok k _ hTk
        have hA := hAt_nat hTk
        rw [hA]
        have hw := free_how hf
        rw [hA] at hw
        refine ⟨by simp; omega, by simp; omega, by simp; omega, by simp; omega, by simp; omega, fun hlt => ?_⟩
        rcases hw with hw | hw
        · have := h3.1 hw
          simp at hlt
          omega
        · exact hw.2
      · cases hx
    · have := h.ok k x hx
      refine ⟨this.1, this.2.1, this.2.2.1, this.2.2.2.1, by omega, this.2.2.2.2.2⟩
theorem GoodT.unlock {X : List Mtx} {T : List Hold} {n d : Int} (h : GoodT X T n d) (e th : Int) : GoodT X (unlockT X T e th) n d := by
  cases hf : heldBy X T e th with
  | false =>
    have : unlockT X T e th = T := by unfold unlockT; rw [hf]; rfl
    rw [this]
    exact h
  | true =>
    refine ⟨by rw [unlockT_length]; exact h.len, fun k x hx => ?_⟩
    have hL : unlockT X T e th = T.set e.toNat (down (hAt T e)) := by unfold unlockT; rw [hf]; rfl
    rw [hL, List.getElem?_set] at hx
    obtain ⟨⟨hm, hth0⟩, ho⟩ := heldBy_in hf
    have he0 := (mutexOf_iff.1 hm).1
    split at hx
    · rename_i hke
      split at hx
      · injection hx with hx
        subst hx
        have hek : e = (k : Int) := by omega
        subst hek
        rename_i hkl
        have hkl : k < T.length := by omega
        have hTk : T[k]? = some T[k] := List.getElem?_eq_getElem hkl
        obtain ⟨h1, h2, h3, h4, h5, h6⟩ := h.ok k _ hTk
        have hA := hAt_nat hTk
        rw [hA] at ho ⊢
        unfold down
        have hd1 : 1 ≤ T[k].depth := by
          rcases Int.lt_or_le T[k].depth 1 with hlt | hle
          · have : T[k].depth = 0 := by omega
            have := h3.2 this
            omega
          · exact hle
        by_cases hz : T[k].depth - 1 = 0
        · rw [if_pos hz]
          refine ⟨by simp, by simp; omega, by simp; omega, by simp; omega, by simp; omega, fun hlt => ?_⟩
          simp at hlt; omega
        · rw [if_neg hz]
          refine ⟨by simp; omega, by simp; omega, by simp; omega, by simp; omega, by simp; omega, fun hlt => h6 ?_⟩
          simp at hlt; omega
      · cases hx
    · exact h.ok k x hx

/-! ## the law's mutexes -/
def nameM : ByteArray := ⟨#[109]⟩
def mkM (x : Int) : Mtx :=
  if within x 8 ≤ 2 then ⟨nameM, false, 0⟩ else if within x 8 ≤ 4 then ⟨nameM, true, 0⟩ else if within x 8 = 7 then ⟨nameM, false, 64⟩ else ⟨nameM, false, within x 8 - 3⟩
def mutexesL (l : List Int) : List Mtx := (l.take 12).map mkM
theorem mkM_ok (x : Int) : 0 ≤ (mkM x).size ∧ (mkM x).size ≤ 64 := by
  have := within_range (x := x) (n := 8) (by omega)
  unfold mkM
  split
  · simp
  · split
    · simp
    · split
      · simp
      · simp; omega
theorem mutexesL_ok (l : List Int) : MOk (mutexesL l) := by
  refine ⟨by simp [mutexesL]; omega, fun m hm => ?_⟩
  obtain ⟨x, _, rfl⟩ := List.mem_map.1 hm
  exact mkM_ok x
theorem one_arr3 (s : ByteArray) (b : Bool) (x : Int) : ∀ u ∈ (#[Value.string s, Value.bool b, Value.int .i64 x] : Array Value).toList, u.oneCell' = true := by
  intro u hu
  simp at hu
  rcases hu with rfl | rfl | rfl <;> rfl
theorem flat_mtx_snoc (l : List Mtx) (m : Mtx) : (l ++ [m]).flatMap cMtx = l.flatMap cMtx ++ cMtx m := by
  rw [List.flatMap_append]; simp

set_option maxHeartbeats 1600000 in
theorem mutexes_any (A : Option Addr) (n c : Nat) (l : List Int) (w : World) (h : SlR (EF cInt) 1 w w.heap.size A n l) :
    Calls Try.prog 16 #[.slice A n c] w fun r w' => ∃ A' c', r = .returned (.slice A' (mutexesL l).length c') ∧ (mutexesL l).length ≤ c' ∧ SlR (EF cMtx) 3 w' w'.heap.size A' (mutexesL l).length (mutexesL l) ∧ Below w.heap.size w w' := by
  have hl := h.1
  have HL := hide hl
  clear hl
  go_enter Try.func16, Try.ntmps16
  go_wp2
  go_loopw [3, 4] (fun v i wr => ∃ k : Nat, k ≤ n ∧ k ≤ 12 ∧ i = .int .i64 k ∧ wr.ownsRow w.heap.size 33 3 v k (((l.take k).map mkM).flatMap cMtx) ∧ Below w.heap.size w wr) (fun _ i _ => n - (intOf i).toNat)
  case atStart => exact ⟨0, Nat.zero_le _, Nat.zero_le _, rfl, World.ownsRow_nil _ _ _ _, Below.refl _ _⟩
  case round =>
    obtain ⟨k, hk, hk12, rfl, hown, hb⟩ := hrel
    by_cases hlt : k < n ∧ k < 12
    · obtain ⟨hkn, hk2⟩ := hlt
      obtain ⟨b, o, x, rfl, hbb, hx, c0⟩ := (h.keepF hb).int hkn
      have hbs := hb.size
      have HS := hide (show ((l.take (k + 1)).map mkM).flatMap cMtx = ((l.take k).map mkM).flatMap cMtx ++ cMtx (mkM x) by rw [take_snoc hx, List.map_append, List.map_singleton, flat_mtx_snoc])
      clear hx
      go_wp2_with (fail)
      refine (within_any x 8 (by omega) (by omega) _).mono ?_
      rintro r w' ⟨rfl, rfl⟩
      have hr := within_range (x := x) (n := 8) (by omega)
      have hmk : mkM x = if within x 8 ≤ 2 then ⟨nameM, false, 0⟩ else if within x 8 ≤ 4 then ⟨nameM, true, 0⟩ else if within x 8 = 7 then ⟨nameM, false, 64⟩ else ⟨nameM, false, within x 8 - 3⟩ := rfl
      generalize within x 8 = q at *
      have fin : ∀ (v1 : Value) (w1 : World) (cs : List Value), cs = cMtx (mkM x) → w1.ownsRow w.heap.size 33 3 v1 (k + 1) (((l.take k).map mkM).flatMap cMtx ++ cs) → w1.ownsRow w.heap.size 33 3 v1 (k + 1) (((l.take (k + 1)).map mkM).flatMap cMtx) := by
        intro v1 w1 cs hcs ho
        rw [HS.out, ← hcs]; exact ho
      have FIN := hide fin
      have HMK := hide hmk
      clear fin hmk HS
      obtain rfl | rfl | rfl | rfl | rfl | rfl | rfl | rfl : q = 0 ∨ q = 1 ∨ q = 2 ∨ q = 3 ∨ q = 4 ∨ q = 5 ∨ q = 6 ∨ q = 7 := by omega
      all_goals clear hr
      · go_wp2_with (at_builtin; refine wpList_app1 _ appMtx (by rfl) (.tmp 32) (.tmp 34) (by rfl) w.heap.size _ _ _ _ (by rfl) hown (by rfl) (by rfl) (one_arr3 _ _ _) (by omega) (by omega) hbs ?_; intro v1 w1 hown1 hg1 hat1)
        go_roundw
        case rel => exact ⟨k + 1, by omega, by omega, by go_num, FIN.out _ _ _ (by rw [HMK.out]; rfl) hown1, below_app hb hown hg1 (Nat.le_refl _) hbs⟩
        case measure => simp [intOf]; omega
      · go_wp2_with (at_builtin; refine wpList_app1 _ appMtx (by rfl) (.tmp 32) (.tmp 34) (by rfl) w.heap.size _ _ _ _ (by rfl) hown (by rfl) (by rfl) (one_arr3 _ _ _) (by omega) (by omega) hbs ?_; intro v1 w1 hown1 hg1 hat1)
        go_roundw
        case rel => exact ⟨k + 1, by omega, by omega, by go_num, FIN.out _ _ _ (by rw [HMK.out]; rfl) hown1, below_app hb hown hg1 (Nat.le_refl _) hbs⟩
        case measure => simp [intOf]; omega
      · go_wp2_with (at_builtin; refine wpList_app1 _ appMtx (by rfl) (.tmp 32) (.tmp 34) (by rfl) w.heap.size _ _ _ _ (by rfl) hown (by rfl) (by rfl) (one_arr3 _ _ _) (by omega) (by omega) hbs ?_; intro v1 w1 hown1 hg1 hat1)
        go_roundw
        case rel => exact ⟨k + 1, by omega, by omega, by go_num, FIN.out _ _ _ (by rw [HMK.out]; rfl) hown1, below_app hb hown hg1 (Nat.le_refl _) hbs⟩
        case measure => simp [intOf]; omega
      · go_wp2_with (at_builtin; refine wpList_app1 _ appMtx (by rfl) (.tmp 39) (.tmp 41) (by rfl) w.heap.size _ _ _ _ (by rfl) hown (by rfl) (by rfl) (one_arr3 _ _ _) (by omega) (by omega) hbs ?_; intro v1 w1 hown1 hg1 hat1)
        go_roundw
        case rel => exact ⟨k + 1, by omega, by omega, by go_num, FIN.out _ _ _ (by rw [HMK.out]; rfl) hown1, below_app hb hown hg1 (Nat.le_refl _) hbs⟩
        case measure => simp [intOf]; omega
      · go_wp2_with (at_builtin; refine wpList_app1 _ appMtx (by rfl) (.tmp 39) (.tmp 41) (by rfl) w.heap.size _ _ _ _ (by rfl) hown (by rfl) (by rfl) (one_arr3 _ _ _) (by omega) (by omega) hbs ?_; intro v1 w1 hown1 hg1 hat1)
        go_roundw
        case rel => exact ⟨k + 1, by omega, by omega, by go_num, FIN.out _ _ _ (by rw [HMK.out]; rfl) hown1, below_app hb hown hg1 (Nat.le_refl _) hbs⟩
        case measure => simp [intOf]; omega
      · go_wp2_with (at_builtin; refine wpList_app1 _ appMtx (by rfl) (.tmp 22) (.tmp 26) (by rfl) w.heap.size _ _ _ _ (by rfl) hown (by rfl) (by rfl) (one_arr3 _ _ _) (by omega) (by omega) hbs ?_; intro v1 w1 hown1 hg1 hat1)
        go_roundw
        case rel => exact ⟨k + 1, by omega, by omega, by go_num, FIN.out _ _ _ (by rw [HMK.out]; rfl) hown1, below_app hb hown hg1 (Nat.le_refl _) hbs⟩
        case measure => simp [intOf]; omega
      · go_wp2_with (at_builtin; refine wpList_app1 _ appMtx (by rfl) (.tmp 22) (.tmp 26) (by rfl) w.heap.size _ _ _ _ (by rfl) hown (by rfl) (by rfl) (one_arr3 _ _ _) (by omega) (by omega) hbs ?_; intro v1 w1 hown1 hg1 hat1)
        go_roundw
        case rel => exact ⟨k + 1, by omega, by omega, by go_num, FIN.out _ _ _ (by rw [HMK.out]; rfl) hown1, below_app hb hown hg1 (Nat.le_refl _) hbs⟩
        case measure => simp [intOf]; omega
      · go_wp2_with (at_builtin; refine wpList_app1 _ appMtx (by rfl) (.tmp 45) (.tmp 47) (by rfl) w.heap.size _ _ _ _ (by rfl) hown (by rfl) (by rfl) (one_arr3 _ _ _) (by omega) (by omega) hbs ?_; intro v1 w1 hown1 hg1 hat1)
        go_roundw
        case rel => exact ⟨k + 1, by omega, by omega, by go_num, FIN.out _ _ _ (by rw [HMK.out]; rfl) hown1, below_app hb hown hg1 (Nat.le_refl _) hbs⟩
        case measure => simp [intOf]; omega
    · obtain ⟨A1, c1, rfl, hc1, _, _, _⟩ := own_form hown
      have hlen : (mutexesL l).length = k := by
        have := HL.out
        unfold mutexesL
        rw [List.length_map, List.length_take]
        omega
      have he : (l.take k).map mkM = mutexesL l := by
        have := HL.out
        unfold mutexesL
        congr 1
        rcases Nat.lt_or_ge k 12 with h1 | h1
        · rw [List.take_of_length_le (by omega), List.take_of_length_le (by omega)]
        · rw [show k = 12 by omega]
      have HLEN := hide hlen
      have HE := hide he
      clear hlen he
      have fin : ∃ A' c', Ending.returned (.slice A1 k c1) = .returned (.slice A' (mutexesL l).length c') ∧ (mutexesL l).length ≤ c' ∧ SlR (EF cMtx) 3 wr wr.heap.size A' (mutexesL l).length (mutexesL l) ∧ Below w.heap.size w wr := by
        rw [HLEN.out, ← HE.out]
        exact ⟨A1, c1, rfl, hc1, own_read hown (len_cMtx _) (by rw [HE.out]; exact HLEN.out), hb⟩
      have FIN := hide fin
      clear fin
      by_cases hkn : k < n
      · have h12 : ¬ k < 12 := fun hh => hlt ⟨hkn, hh⟩
        clear hlt
        go_wp2
        go_ret
        exact FIN.out
      · clear hlt
        go_wp2
        go_ret
        exact FIN.out
end Go.Proofs.Ytbbjncjkddekfaa

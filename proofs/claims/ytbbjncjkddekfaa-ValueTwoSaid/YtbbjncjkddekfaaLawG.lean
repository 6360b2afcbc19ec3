/- A law of layer 7: ValueTwo. -/
import Derived.Test.YtbbjncjkddekfaaValR
import Derived.Test.YtbbjncjkddekfaaTabA
namespace Go.Proofs.Ytbbjncjkddekfaa
open Go.RowKit

theorem numE_fit (n : Int) (h : Fits n) : (numE n).fit := by
  unfold numE
  split
  · exact h
  · exact ⟨wrap64_fits _, one_fits⟩
theorem twoE_fit (op a b : Int) (ha : Fits a) (hb : Fits b) : (twoE op a b).fit := ⟨numE_fit a ha, numE_fit b hb⟩

theorem evt (op a b : Int) : ∃ r : Int × Int, ev [] [] (twoE op a b) = (r.1, r.2) := ⟨_, rfl⟩

set_option maxHeartbeats 1600000 in
theorem valueTwo_any (op0 a0 b0 : Int) (small : Bool) (ha : Fits a0) (hb0 : Fits b0) (w : World) :
    Calls Try.prog 10 #[.int .i64 op0, .int .i64 a0, .int .i64 b0, .bool small] w fun e w' => e = .returned (.bool true) ∧ Below w.heap.size w w' := by
  go_enter Try.func10, Try.ntmps10
  go_wp2_with (fail)
  refine (within_any op0 13 (by omega) (by omega) _).mono ?_
  rintro r w' ⟨rfl, rfl⟩
  have hm2 := within_range (x := op0) (n := 13) (by omega)
  generalize within op0 13 = m2 at *
  have hw1 : wrap64 (5 + m2) = 5 + m2 := IntWalk.wrap64_in _ (by omega)
  have HO := hide (show 5 ≤ 5 + m2 ∧ 5 + m2 ≤ 17 by omega)
  clear hm2
  have H2 := hide ha
  have H3 := hide hb0
  clear ha hb0
  have hb := Below.refl w.heap.size w
  cases small
  · go_wp2_with (fail)
    obtain ⟨a, ea⟩ : ∃ a, a = a0 := ⟨_, rfl⟩
    obtain ⟨b, eb⟩ : ∃ b, b = b0 := ⟨_, rfl⟩
    subst ea eb
    generalize 5 + m2 = op at *
    obtain ⟨⟨x, f⟩, HE⟩ := evt op a b
    have HE := hide HE
    have HN := hide (ev_num [] [] a H2)
    go_wp2_with (fail)
    refine (two_any _ _ _ _).mono ?_
    rintro e u1 ⟨c0, c1, c2, c3, rfl, h1, hb2⟩
    replace hb := hb.trans (hb2.mono hb.size)
    clear hb2
    go_wp2_with (fail)
    refine (Eval_any _ _ none none 0 0 0 0 [] [] _ _ _ _ (EvIn.new h1 (twoE_ok _ _ _ HO.out _ _))).mono ?_
    rintro e v1 ⟨rfl, hb2⟩
    replace hb := hb.trans (hb2.mono hb.size)
    clear h1 hb2
    rw [HE.out]
    go_wp2_with (fail)
    refine (two_any _ _ _ _).mono ?_
    rintro e u2 ⟨c0, c1, c2, c3, rfl, h1, hb2⟩
    replace hb := hb.trans (hb2.mono hb.size)
    clear hb2
    go_wp2_with (fail)
    refine (ref_of _ _ none none 0 0 0 0 [] [] _ _ _ _ (EvIn.new h1 (twoE_ok _ _ _ HO.out _ _)) ⟨by simp, by simp, twoE_fit _ _ _ H2 H3⟩).mono ?_
    rintro e v2 ⟨rfl, hb2⟩
    replace hb := hb.trans (hb2.mono hb.size)
    clear h1 hb2
    rw [HE.out]
    clear HE HO
    go_wp2_with (fail)
    refine (number_any _ _).mono ?_
    rintro e u3 ⟨c0, c1, c2, c3, rfl, h1, hb2⟩
    replace hb := hb.trans (hb2.mono hb.size)
    clear hb2
    go_wp2_with (fail)
    refine (Eval_any _ _ none none 0 0 0 0 [] [] _ _ _ _ (EvIn.new h1 (numE_ok _ _ _))).mono ?_
    rintro e v3 ⟨rfl, hb2⟩
    replace hb := hb.trans (hb2.mono hb.size)
    clear h1 hb2
    rw [HN.out]
    clear HN
    go_wp2_with (fail)
    refine (awake_any _).mono ?_
    rintro e w6 ⟨rfl, hb2⟩
    replace hb := hb.trans (hb2.mono hb.size)
    clear hb2
    go_wp2
    go_ret
    exact ⟨rfl, hb⟩
  · go_wp2_with (fail)
    refine (within_any a0 7 (by omega) (by omega) _).mono ?_
    rintro r w' ⟨rfl, rfl⟩
    have hm3 := within_range (x := a0) (n := 7) (by omega)
    clear H2 H3
    generalize within a0 7 = m3 at *
    have hwa : wrap64 (m3 - 3) = m3 - 3 := IntWalk.wrap64_in _ (by omega)
    have H2 := hide (show Fits (m3 - 3) by unfold Fits; omega)
    clear hm3
    go_wp2_with (fail)
    refine (within_any b0 7 (by omega) (by omega) _).mono ?_
    rintro r w' ⟨rfl, rfl⟩
    have hm4 := within_range (x := b0) (n := 7) (by omega)
    generalize within b0 7 = m4 at *
    have hwb : wrap64 (m4 - 3) = m4 - 3 := IntWalk.wrap64_in _ (by omega)
    have H3 := hide (show Fits (m4 - 3) by unfold Fits; omega)
    clear hm4
    go_wp2_with (fail)
    generalize 5 + m2 = op at *
    generalize m3 - 3 = a at *
    generalize m4 - 3 = b at *
    obtain ⟨⟨x, f⟩, HE⟩ := evt op a b
    have HE := hide HE
    have HN := hide (ev_num [] [] a H2)
    go_wp2_with (fail)
    refine (two_any _ _ _ _).mono ?_
    rintro e u1 ⟨c0, c1, c2, c3, rfl, h1, hb2⟩
    replace hb := hb.trans (hb2.mono hb.size)
    clear hb2
    go_wp2_with (fail)
    refine (Eval_any _ _ none none 0 0 0 0 [] [] _ _ _ _ (EvIn.new h1 (twoE_ok _ _ _ HO.out _ _))).mono ?_
    rintro e v1 ⟨rfl, hb2⟩
    replace hb := hb.trans (hb2.mono hb.size)
    clear h1 hb2
    rw [HE.out]
    go_wp2_with (fail)
    refine (two_any _ _ _ _).mono ?_
    rintro e u2 ⟨c0, c1, c2, c3, rfl, h1, hb2⟩
    replace hb := hb.trans (hb2.mono hb.size)
    clear hb2
    go_wp2_with (fail)
    refine (ref_of _ _ none none 0 0 0 0 [] [] _ _ _ _ (EvIn.new h1 (twoE_ok _ _ _ HO.out _ _)) ⟨by simp, by simp, twoE_fit _ _ _ H2 H3⟩).mono ?_
    rintro e v2 ⟨rfl, hb2⟩
    replace hb := hb.trans (hb2.mono hb.size)
    clear h1 hb2
    rw [HE.out]
    clear HE HO
    go_wp2_with (fail)
    refine (number_any _ _).mono ?_
    rintro e u3 ⟨c0, c1, c2, c3, rfl, h1, hb2⟩
    replace hb := hb.trans (hb2.mono hb.size)
    clear hb2
    go_wp2_with (fail)
    refine (Eval_any _ _ none none 0 0 0 0 [] [] _ _ _ _ (EvIn.new h1 (numE_ok _ _ _))).mono ?_
    rintro e v3 ⟨rfl, hb2⟩
    replace hb := hb.trans (hb2.mono hb.size)
    clear h1 hb2
    rw [HN.out]
    clear HN
    go_wp2_with (fail)
    refine (awake_any _).mono ?_
    rintro e w6 ⟨rfl, hb2⟩
    replace hb := hb.trans (hb2.mono hb.size)
    clear hb2
    go_wp2
    go_ret
    exact ⟨rfl, hb⟩
end Go.Proofs.Ytbbjncjkddekfaa

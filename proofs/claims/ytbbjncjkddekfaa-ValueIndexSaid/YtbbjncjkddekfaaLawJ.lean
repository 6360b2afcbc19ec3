/- The law ValueIndex: walk. -/
import Derived.Test.YtbbjncjkddekfaaLawI
namespace Go.Proofs.Ytbbjncjkddekfaa
open Go.RowKit
attribute [local go_sem ↓] run_max2 run_min2

theorem idx_range (ms : Int) (r : Int × Int) (h : 0 ≤ ms) : 0 ≤ (idx ms r).1 ∧ (idx ms r).1 < max 1 ms := by
  unfold idx
  repeat' split
  all_goals simp only []
  all_goals omega
def fourM : List Mtx := [⟨⟨#[97]⟩, false, 0⟩, ⟨⟨#[98]⟩, false, 1⟩, ⟨⟨#[99]⟩, false, 5⟩, ⟨⟨#[100]⟩, false, 64⟩]
theorem four_len : ∀ x ∈ fourM, (cMtx x).length = 3 := fun _ _ => rfl

set_option maxHeartbeats 3200000 in
theorem valueIndex_yes (A : Option Addr) (n c0 : Nat) (l : List Int) (m a b c : Int) (w : World) :
    Calls Try.prog 15 #[.slice A n c0, .int .i64 m, .int .i64 a, .int .i64 b, .int .i64 c, .bool true] w fun e w' => e = .returned (.bool true) ∧ Below w.heap.size w w' := by
  go_enter Try.func15, Try.ntmps15
  go_wp2_with (fail)
  refine (within_any m 4 (by omega) (by omega) _).mono ?_
  rintro r w' ⟨rfl, rfl⟩
  generalize within m 4 = k at *
  go_wp2_with (fail)
  generalize hW : World.alloc _ _ = W
  have hE : Ext w W := by rw [← hW]; exact ((((Fr.refl _ _).alloc _).alloc _).alloc _).alloc _
  have P0 : Blk W (w.heap.size + 1) 63 #[.bool false, .int .i64 0, .slice none 0 0] := by rw [← hW]; exact ((Blk.new' _ _ _ (by simp)).alloc _).alloc _
  have M0 : Blk W w.heap.size 33 (fourM.flatMap cMtx).toArray := by rw [← hW]; exact (((Blk.new' _ _ _ rfl).alloc _).alloc _).alloc _
  clear hW
  refine (Index_zero W 0 none 0 false _ _ _).mono ?_
  rintro e w1 ⟨rfl, hb1⟩
  have hE1 : Ext w w1 := hE.trans (Fr.of hb1)
  have P1 := P0.onE (Fr.of hb1)
  have M1 := M0.onE (Fr.of hb1)
  obtain ⟨p1, p1f, p1l⟩ := P1.two
  have HE := hide hE1
  clear hE hE1 hb1 P0 M0
  go_wp2_with (fail)
  generalize hW : World.alloc _ _ = V
  have hE : Ext w1 V := by rw [← hW]; exact ((Fr.refl _ _).alloc _).alloc _
  have HM := hide M1
  have HP := hide P1
  clear hW p1 p1f p1l M1 P1
  refine (refIndex_zero V 0 none 0 false _ _ _).mono ?_
  rintro e w2 ⟨rfl, hb2⟩
  have hE2 : Ext w w2 := HE.out.trans (hE.trans (Fr.of hb2))
  obtain ⟨p2, p2f, p2l⟩ := (HP.out.onE (hE.trans (Fr.of hb2))).two
  have m2 := (HM.out.onE (hE.trans (Fr.of hb2))).cell 2
  have m2' : w2.cell? ⟨w.heap.size, 2, none⟩ = some (.int .i64 0) := m2
  have HE2 := hide hE2
  clear hE hE2 hb2 m2
  go_wp2_with (fail)
  refine (awake_any _).mono ?_
  rintro e w6 ⟨rfl, hb6⟩
  have HB6 := hide hb6
  clear hb6
  go_wp2
  go_ret
  exact ⟨rfl, (Fr.ext HE2.out).trans (HB6.out.mono HE2.out.size)⟩

set_option maxHeartbeats 6400000 in
theorem valueIndex_no (A : Option Addr) (n c0 : Nat) (l : List Int) (m a b c : Int) (w : World) (h : SlR (EF cInt) 1 w w.heap.size A n l) (hc : n ≤ c0) (hf : Fits a ∧ Fits b ∧ Fits c) :
    Calls Try.prog 15 #[.slice A n c0, .int .i64 m, .int .i64 a, .int .i64 b, .int .i64 c, .bool false] w fun e w' => e = .returned (.bool true) ∧ Below w.heap.size w w' := by
  have HF := hide hf
  have HL := hide h
  clear hf h
  go_enter Try.func15, Try.ntmps15
  go_wp2_with (fail)
  refine (within_any m 4 (by omega) (by omega) _).mono ?_
  rintro r w' ⟨rfl, rfl⟩
  have hk := within_range (x := m) (n := 4) (by omega)
  generalize within m 4 = k at *
  obtain rfl | rfl | rfl | rfl : k = 0 ∨ k = 1 ∨ k = 2 ∨ k = 3 := by omega
  · clear hk
    go_wp2_with (fail)
    generalize hW : World.alloc _ _ = W
    have hE : Ext w W := by rw [← hW]; exact (((Fr.refl _ _).alloc _).alloc _)
    have P0 : Blk W (w.heap.size + 1) 63 #[.bool false, .int .i64 1, .slice none 0 0] := by rw [← hW]; exact (Blk.new' _ _ _ (by simp))
    have M0 : Blk W w.heap.size 33 (fourM.flatMap cMtx).toArray := by rw [← hW]; exact (Blk.new' _ _ _ rfl).alloc _
    have HWS := hide (show W.heap.size = w.heap.size + 2 by rw [← hW]; simp)
    clear hW
    refine (made_any A n c0 l _ (HL.out.onF (Fr.ext hE) hE.size) hc).mono ?_
    rintro e w1 ⟨x, x0, x1, x2, x3, rfl, hx, hr, hb1⟩
    have HX := hide (And.intro (res_ok x hx) (res_fit x hx))
    go_wp2_with (fail)
    refine (res_of x _ x0 x1 x2 x3 hx (VE.rep_mono (fun b hb => hb.2) _ _ hr)).mono ?_
    rintro e w2 ⟨d0, d1, d2, d3, rfl, hr2, hb2⟩
    have hE2 : Ext W w2 := (Fr.of hb1).trans (Fr.of hb2)
    have HR := hide (And.intro (Fr.of (M := fun _ => False) hb1).size (And.intro HX.out hr2))
    clear hr hr2 hb1 hb2 hx HX HL
    generalize res x = X at *
    obtain ⟨dop, dn, dnm, dA, dk, dc, hd⟩ := VE.rep_four _ _ HR.out.2.2
    injection hd with hd0 hd
    injection hd with hd1 hd
    injection hd with hd2 hd
    injection hd with hd3 hd
    subst hd0 hd1 hd2 hd3
    clear hd
    have P2 := P0.onE hE2
    have M2 := M0.onE hE2
    have HE := hide (And.intro (hE.trans hE2) M2)
    obtain ⟨p2, p2f, p2l⟩ := P2.two
    clear hE hE2 P0 M0 M2
    go_wp2_with (fail)
    generalize hY : World.setCell w2 _ _ = Y
    have hF : Fr (fun k => k = w.heap.size + 1) w2 Y := by rw [← hY]; exact Fr.setCell (M := fun k => k = w.heap.size + 1) (p := ⟨w.heap.size + 1, 2, none⟩) (Fr.refl _ _) (.inl rfl) _
    have hYs : Y.heap.size = w2.heap.size := by rw [← hY]; simp
    have P3 : Blk Y (w.heap.size + 1) 63 #[.bool false, .int .i64 1, .slice (some ⟨w2.heap.size, 0, none⟩) 1 1] := by rw [← hY]; exact P2.set_ 2 _
    have M3 : Blk Y w.heap.size 33 (fourM.flatMap cMtx).toArray := HE.out.2.on hF (by omega)
    have hRY : X.at_ Y [.int .i64 dop, .int .i64 dn, .string dnm, .slice dA dk dc] := by
      have h1 := HR.out.1
      have h2 := hF.size
      have h3 := HWS.out
      exact VE.rep_mono (fun b hb => by have := hb.2; show b < Y.heap.size; omega) _ _ (VE.rep_keep (fun b hb => hF.block b hb.2 (by have := hb.1; omega)) _ _ HR.out.2.2)
    have HF2 := hide hF
    clear hY p2 p2f p2l P2 hF
    generalize hV : World.alloc _ _ = V
    have hE : Ext Y V := by rw [← hV]; exact (((Fr.refl _ _).alloc _).alloc _).alloc _
    have E4 : Blk V w2.heap.size 50 #[.int .i64 dop, .int .i64 dn, .string dnm, .slice dA dk dc] := by rw [← hV]; exact ((Blk.new' _ _ _ hYs.symm).alloc _).alloc _
    have B1 : Blk V (w2.heap.size + 1) 3 #[.int .i64 b, .int .i64 c] := by rw [← hV]; exact (Blk.new' _ _ _ (by simp [hYs])).alloc _
    have B2 : Blk V (w2.heap.size + 1 + 1) 3 #[.int .i64 a] := by rw [← hV]; exact (Blk.new' _ _ _ (by simp [hYs]))
    have hs1 := slr_lit (l := [b, c]) B1 rfl rfl B1.lt
    have hs2 := slr_lit (l := [a]) B2 rfl rfl B2.lt
    have M4 := M3.onE hE
    clear hV hYs
    refine (Index_any V (some ⟨w.heap.size, 0, none⟩) 4 4 fourM _ _ 2 1 2 1 [b, c] [a] X 1 ⟨⟨#[98]⟩, false, 1⟩ w2.heap.size 0 1 _ _ _ _
      ⟨⟨hs1, hs2, HR.out.2.1.1, VE.at_on hRY (Fr.ext hE)⟩, slr_blk M4 (by simp) four_len rfl M4.lt, by omega, rfl, E4.lt, E4.cell 0, E4.cell 1, E4.cell 2, E4.cell 3⟩).mono ?_
    rintro e w3 ⟨rfl, hb3⟩
    have hE3 : Ext Y w3 := hE.trans (Fr.of hb3)
    obtain ⟨p4, p4f, p4l⟩ := (P3.onE hE3).two
    have E3 := E4.onE (Fr.of hb3)
    clear hE hb3 hs1 hs2 B1 B2 E4 M4
    go_wp2_with (fail)
    generalize hV : World.alloc _ _ = U
    have hE : Ext Y U := by rw [← hV]; exact (hE3.alloc _).alloc _
    have hE' : Ext w3 U := by rw [← hV]; exact ((Fr.refl _ _).alloc _).alloc _
    have B1 : Blk U w3.heap.size 3 #[.int .i64 b, .int .i64 c] := by rw [← hV]; exact (Blk.new _ _ _).alloc _
    have B2 : Blk U (w3.heap.size + 1) 3 #[.int .i64 a] := by rw [← hV]; exact (Blk.new' _ _ _ (by simp))
    have hs1 := slr_lit (l := [b, c]) B1 rfl rfl B1.lt
    have hs2 := slr_lit (l := [a]) B2 rfl rfl B2.lt
    have E4 := E3.onE hE'
    have M4 := M3.onE hE
    clear hV p4 p4f p4l hE3 hE'
    refine (refIndex_any U (some ⟨w.heap.size, 0, none⟩) 4 4 fourM _ _ 2 1 2 1 [b, c] [a] X 1 ⟨⟨#[98]⟩, false, 1⟩ w2.heap.size 0 1 _ _ _ _
      ⟨⟨hs1, hs2, HR.out.2.1.1, VE.at_on hRY (Fr.ext hE)⟩, slr_blk M4 (by simp) four_len rfl M4.lt, by omega, rfl, E4.lt, E4.cell 0, E4.cell 1, E4.cell 2, E4.cell 3⟩ ⟨fits2 HF.out.2.1 HF.out.2.2, fits1 HF.out.1, HR.out.2.1.2⟩).mono ?_
    rintro e w4 ⟨rfl, hb4⟩
    have hE4 : Ext Y w4 := hE.trans (Fr.of hb4)
    obtain ⟨p5, p5f, p5l⟩ := (P3.onE hE4).two
    have m5 : w4.cell? ⟨w.heap.size, 5, none⟩ = some (.int .i64 1) := (M3.onE hE4).cell 5
    have m5l : w.heap.size < w4.heap.size := (M3.onE hE4).lt
    have HE4 := hide hE4
    clear hE hb4 hs1 hs2 B1 B2 E4 M4 E3 M3 P3 hE4 hRY
    have hr := idx_range 1 (ev [b, c] [a] X) (by omega)
    generalize idx 1 (ev [b, c] [a] X) = r at *
    obtain ⟨v, f⟩ := r
    have v1 : decide (v ≥ 0) = true := by simpa using hr.1
    have v2 : decide (v < 1) = true := by
      have h2 := hr.2
      simp only [decide_eq_true_eq]
      simp only [] at h2
      omega
    have v3 : decide (v < max 1 1) = true := decide_eq_true hr.2
    clear hr
    go_wp2_with (fail)
    refine (awake_any _).mono ?_
    rintro e w6 ⟨rfl, hb6⟩
    have HB6 := hide hb6
    clear hb6
    go_wp2
    go_ret
    refine ⟨rfl, ?_⟩
    have hFb : Below w.heap.size w2 Y := HF2.out.below HE.out.1.size (by intro k hk; omega)
    exact (((Fr.ext HE.out.1).trans hFb).trans ((Fr.ext HE4.out).mono (Nat.le_trans HE.out.1.size HF2.out.size))).trans (HB6.out.mono (Nat.le_trans HE.out.1.size (Nat.le_trans HF2.out.size HE4.out.size)))
  · clear hk
    go_wp2_with (fail)
    generalize hW : World.alloc _ _ = W
    have hE : Ext w W := by rw [← hW]; exact (((Fr.refl _ _).alloc _).alloc _)
    have P0 : Blk W (w.heap.size + 1) 63 #[.bool false, .int .i64 2, .slice none 0 0] := by rw [← hW]; exact (Blk.new' _ _ _ (by simp))
    have M0 : Blk W w.heap.size 33 (fourM.flatMap cMtx).toArray := by rw [← hW]; exact (Blk.new' _ _ _ rfl).alloc _
    have HWS := hide (show W.heap.size = w.heap.size + 2 by rw [← hW]; simp)
    clear hW
    refine (made_any A n c0 l _ (HL.out.onF (Fr.ext hE) hE.size) hc).mono ?_
    rintro e w1 ⟨x, x0, x1, x2, x3, rfl, hx, hr, hb1⟩
    have HX := hide (And.intro (res_ok x hx) (res_fit x hx))
    go_wp2_with (fail)
    refine (res_of x _ x0 x1 x2 x3 hx (VE.rep_mono (fun b hb => hb.2) _ _ hr)).mono ?_
    rintro e w2 ⟨d0, d1, d2, d3, rfl, hr2, hb2⟩
    have hE2 : Ext W w2 := (Fr.of hb1).trans (Fr.of hb2)
    have HR := hide (And.intro (Fr.of (M := fun _ => False) hb1).size (And.intro HX.out hr2))
    clear hr hr2 hb1 hb2 hx HX HL
    generalize res x = X at *
    obtain ⟨dop, dn, dnm, dA, dk, dc, hd⟩ := VE.rep_four _ _ HR.out.2.2
    injection hd with hd0 hd
    injection hd with hd1 hd
    injection hd with hd2 hd
    injection hd with hd3 hd
    subst hd0 hd1 hd2 hd3
    clear hd
    have P2 := P0.onE hE2
    have M2 := M0.onE hE2
    have HE := hide (And.intro (hE.trans hE2) M2)
    obtain ⟨p2, p2f, p2l⟩ := P2.two
    clear hE hE2 P0 M0 M2
    go_wp2_with (fail)
    generalize hY : World.setCell w2 _ _ = Y
    have hF : Fr (fun k => k = w.heap.size + 1) w2 Y := by rw [← hY]; exact Fr.setCell (M := fun k => k = w.heap.size + 1) (p := ⟨w.heap.size + 1, 2, none⟩) (Fr.refl _ _) (.inl rfl) _
    have hYs : Y.heap.size = w2.heap.size := by rw [← hY]; simp
    have P3 : Blk Y (w.heap.size + 1) 63 #[.bool false, .int .i64 2, .slice (some ⟨w2.heap.size, 0, none⟩) 1 1] := by rw [← hY]; exact P2.set_ 2 _
    have M3 : Blk Y w.heap.size 33 (fourM.flatMap cMtx).toArray := HE.out.2.on hF (by omega)
    have hRY : X.at_ Y [.int .i64 dop, .int .i64 dn, .string dnm, .slice dA dk dc] := by
      have h1 := HR.out.1
      have h2 := hF.size
      have h3 := HWS.out
      exact VE.rep_mono (fun b hb => by have := hb.2; show b < Y.heap.size; omega) _ _ (VE.rep_keep (fun b hb => hF.block b hb.2 (by have := hb.1; omega)) _ _ HR.out.2.2)
    have HF2 := hide hF
    clear hY p2 p2f p2l P2 hF
    generalize hV : World.alloc _ _ = V
    have hE : Ext Y V := by rw [← hV]; exact (((Fr.refl _ _).alloc _).alloc _).alloc _
    have E4 : Blk V w2.heap.size 50 #[.int .i64 dop, .int .i64 dn, .string dnm, .slice dA dk dc] := by rw [← hV]; exact ((Blk.new' _ _ _ hYs.symm).alloc _).alloc _
    have B1 : Blk V (w2.heap.size + 1) 3 #[.int .i64 b, .int .i64 c] := by rw [← hV]; exact (Blk.new' _ _ _ (by simp [hYs])).alloc _
    have B2 : Blk V (w2.heap.size + 1 + 1) 3 #[.int .i64 a] := by rw [← hV]; exact (Blk.new' _ _ _ (by simp [hYs]))
    have hs1 := slr_lit (l := [b, c]) B1 rfl rfl B1.lt
    have hs2 := slr_lit (l := [a]) B2 rfl rfl B2.lt
    have M4 := M3.onE hE
    clear hV hYs
    refine (Index_any V (some ⟨w.heap.size, 0, none⟩) 4 4 fourM _ _ 2 1 2 1 [b, c] [a] X 2 ⟨⟨#[99]⟩, false, 5⟩ w2.heap.size 0 1 _ _ _ _
      ⟨⟨hs1, hs2, HR.out.2.1.1, VE.at_on hRY (Fr.ext hE)⟩, slr_blk M4 (by simp) four_len rfl M4.lt, by omega, rfl, E4.lt, E4.cell 0, E4.cell 1, E4.cell 2, E4.cell 3⟩).mono ?_
    rintro e w3 ⟨rfl, hb3⟩
    have hE3 : Ext Y w3 := hE.trans (Fr.of hb3)
    obtain ⟨p4, p4f, p4l⟩ := (P3.onE hE3).two
    have E3 := E4.onE (Fr.of hb3)
    clear hE hb3 hs1 hs2 B1 B2 E4 M4
    go_wp2_with (fail)
    generalize hV : World.alloc _ _ = U
    have hE : Ext Y U := by rw [← hV]; exact (hE3.alloc _).alloc _
    have hE' : Ext w3 U := by rw [← hV]; exact ((Fr.refl _ _).alloc _).alloc _
    have B1 : Blk U w3.heap.size 3 #[.int .i64 b, .int .i64 c] := by rw [← hV]; exact (Blk.new _ _ _).alloc _
    have B2 : Blk U (w3.heap.size + 1) 3 #[.int .i64 a] := by rw [← hV]; exact (Blk.new' _ _ _ (by simp))
    have hs1 := slr_lit (l := [b, c]) B1 rfl rfl B1.lt
    have hs2 := slr_lit (l := [a]) B2 rfl rfl B2.lt
    have E4 := E3.onE hE'
    have M4 := M3.onE hE
    clear hV p4 p4f p4l hE3 hE'
    refine (refIndex_any U (some ⟨w.heap.size, 0, none⟩) 4 4 fourM _ _ 2 1 2 1 [b, c] [a] X 2 ⟨⟨#[99]⟩, false, 5⟩ w2.heap.size 0 1 _ _ _ _
      ⟨⟨hs1, hs2, HR.out.2.1.1, VE.at_on hRY (Fr.ext hE)⟩, slr_blk M4 (by simp) four_len rfl M4.lt, by omega, rfl, E4.lt, E4.cell 0, E4.cell 1, E4.cell 2, E4.cell 3⟩ ⟨fits2 HF.out.2.1 HF.out.2.2, fits1 HF.out.1, HR.out.2.1.2⟩).mono ?_
    rintro e w4 ⟨rfl, hb4⟩
    have hE4 : Ext Y w4 := hE.trans (Fr.of hb4)
    obtain ⟨p5, p5f, p5l⟩ := (P3.onE hE4).two
    have m5 : w4.cell? ⟨w.heap.size, 8, none⟩ = some (.int .i64 5) := (M3.onE hE4).cell 8
    have m5l : w.heap.size < w4.heap.size := (M3.onE hE4).lt
    have HE4 := hide hE4
    clear hE hb4 hs1 hs2 B1 B2 E4 M4 E3 M3 P3 hE4 hRY
    have hr := idx_range 5 (ev [b, c] [a] X) (by omega)
    generalize idx 5 (ev [b, c] [a] X) = r at *
    obtain ⟨v, f⟩ := r
    have v1 : decide (v ≥ 0) = true := by simpa using hr.1
    have v2 : decide (v < 5) = true := by
      have h2 := hr.2
      simp only [decide_eq_true_eq]
      simp only [] at h2
      omega
    have v3 : decide (v < max 1 5) = true := decide_eq_true hr.2
    clear hr
    go_wp2_with (fail)
    refine (awake_any _).mono ?_
    rintro e w6 ⟨rfl, hb6⟩
    have HB6 := hide hb6
    clear hb6
    go_wp2
    go_ret
    refine ⟨rfl, ?_⟩
    have hFb : Below w.heap.size w2 Y := HF2.out.below HE.out.1.size (by intro k hk; omega)
    exact (((Fr.ext HE.out.1).trans hFb).trans ((Fr.ext HE4.out).mono (Nat.le_trans HE.out.1.size HF2.out.size))).trans (HB6.out.mono (Nat.le_trans HE.out.1.size (Nat.le_trans HF2.out.size HE4.out.size)))
  · clear hk
    go_wp2_with (fail)
    generalize hW : World.alloc _ _ = W
    have hE : Ext w W := by rw [← hW]; exact (((Fr.refl _ _).alloc _).alloc _)
    have P0 : Blk W (w.heap.size + 1) 63 #[.bool false, .int .i64 3, .slice none 0 0] := by rw [← hW]; exact (Blk.new' _ _ _ (by simp))
    have M0 : Blk W w.heap.size 33 (fourM.flatMap cMtx).toArray := by rw [← hW]; exact (Blk.new' _ _ _ rfl).alloc _
    have HWS := hide (show W.heap.size = w.heap.size + 2 by rw [← hW]; simp)
    clear hW
    refine (made_any A n c0 l _ (HL.out.onF (Fr.ext hE) hE.size) hc).mono ?_
    rintro e w1 ⟨x, x0, x1, x2, x3, rfl, hx, hr, hb1⟩
    have HX := hide (And.intro (res_ok x hx) (res_fit x hx))
    go_wp2_with (fail)
    refine (res_of x _ x0 x1 x2 x3 hx (VE.rep_mono (fun b hb => hb.2) _ _ hr)).mono ?_
    rintro e w2 ⟨d0, d1, d2, d3, rfl, hr2, hb2⟩
    have hE2 : Ext W w2 := (Fr.of hb1).trans (Fr.of hb2)
    have HR := hide (And.intro (Fr.of (M := fun _ => False) hb1).size (And.intro HX.out hr2))
    clear hr hr2 hb1 hb2 hx HX HL
    generalize res x = X at *
    obtain ⟨dop, dn, dnm, dA, dk, dc, hd⟩ := VE.rep_four _ _ HR.out.2.2
    injection hd with hd0 hd
    injection hd with hd1 hd
    injection hd with hd2 hd
    injection hd with hd3 hd
    subst hd0 hd1 hd2 hd3
    clear hd
    have P2 := P0.onE hE2
    have M2 := M0.onE hE2
    have HE := hide (And.intro (hE.trans hE2) M2)
    obtain ⟨p2, p2f, p2l⟩ := P2.two
    clear hE hE2 P0 M0 M2
    go_wp2_with (fail)
    generalize hY : World.setCell w2 _ _ = Y
    have hF : Fr (fun k => k = w.heap.size + 1) w2 Y := by rw [← hY]; exact Fr.setCell (M := fun k => k = w.heap.size + 1) (p := ⟨w.heap.size + 1, 2, none⟩) (Fr.refl _ _) (.inl rfl) _
    have hYs : Y.heap.size = w2.heap.size := by rw [← hY]; simp
    have P3 : Blk Y (w.heap.size + 1) 63 #[.bool false, .int .i64 3, .slice (some ⟨w2.heap.size, 0, none⟩) 1 1] := by rw [← hY]; exact P2.set_ 2 _
    have M3 : Blk Y w.heap.size 33 (fourM.flatMap cMtx).toArray := HE.out.2.on hF (by omega)
    have hRY : X.at_ Y [.int .i64 dop, .int .i64 dn, .string dnm, .slice dA dk dc] := by
      have h1 := HR.out.1
      have h2 := hF.size
      have h3 := HWS.out
      exact VE.rep_mono (fun b hb => by have := hb.2; show b < Y.heap.size; omega) _ _ (VE.rep_keep (fun b hb => hF.block b hb.2 (by have := hb.1; omega)) _ _ HR.out.2.2)
    have HF2 := hide hF
    clear hY p2 p2f p2l P2 hF
    generalize hV : World.alloc _ _ = V
    have hE : Ext Y V := by rw [← hV]; exact (((Fr.refl _ _).alloc _).alloc _).alloc _
    have E4 : Blk V w2.heap.size 50 #[.int .i64 dop, .int .i64 dn, .string dnm, .slice dA dk dc] := by rw [← hV]; exact ((Blk.new' _ _ _ hYs.symm).alloc _).alloc _
    have B1 : Blk V (w2.heap.size + 1) 3 #[.int .i64 b, .int .i64 c] := by rw [← hV]; exact (Blk.new' _ _ _ (by simp [hYs])).alloc _
    have B2 : Blk V (w2.heap.size + 1 + 1) 3 #[.int .i64 a] := by rw [← hV]; exact (Blk.new' _ _ _ (by simp [hYs]))
    have hs1 := slr_lit (l := [b, c]) B1 rfl rfl B1.lt
    have hs2 := slr_lit (l := [a]) B2 rfl rfl B2.lt
    have M4 := M3.onE hE
    clear hV hYs
    refine (Index_any V (some ⟨w.heap.size, 0, none⟩) 4 4 fourM _ _ 2 1 2 1 [b, c] [a] X 3 ⟨⟨#[100]⟩, false, 64⟩ w2.heap.size 0 1 _ _ _ _
      ⟨⟨hs1, hs2, HR.out.2.1.1, VE.at_on hRY (Fr.ext hE)⟩, slr_blk M4 (by simp) four_len rfl M4.lt, by omega, rfl, E4.lt, E4.cell 0, E4.cell 1, E4.cell 2, E4.cell 3⟩).mono ?_
    rintro e w3 ⟨rfl, hb3⟩
    have hE3 : Ext Y w3 := hE.trans (Fr.of hb3)
    obtain ⟨p4, p4f, p4l⟩ := (P3.onE hE3).two
    have E3 := E4.onE (Fr.of hb3)
    clear hE hb3 hs1 hs2 B1 B2 E4 M4
    go_wp2_with (fail)
    generalize hV : World.alloc _ _ = U
    have hE : Ext Y U := by rw [← hV]; exact (hE3.alloc _).alloc _
    have hE' : Ext w3 U := by rw [← hV]; exact ((Fr.refl _ _).alloc _).alloc _
    have B1 : Blk U w3.heap.size 3 #[.int .i64 b, .int .i64 c] := by rw [← hV]; exact (Blk.new _ _ _).alloc _
    have B2 : Blk U (w3.heap.size + 1) 3 #[.int .i64 a] := by rw [← hV]; exact (Blk.new' _ _ _ (by simp))
    have hs1 := slr_lit (l := [b, c]) B1 rfl rfl B1.lt
    have hs2 := slr_lit (l := [a]) B2 rfl rfl B2.lt
    have E4 := E3.onE hE'
    have M4 := M3.onE hE
    clear hV p4 p4f p4l hE3 hE'
    refine (refIndex_any U (some ⟨w.heap.size, 0, none⟩) 4 4 fourM _ _ 2 1 2 1 [b, c] [a] X 3 ⟨⟨#[100]⟩, false, 64⟩ w2.heap.size 0 1 _ _ _ _
      ⟨⟨hs1, hs2, HR.out.2.1.1, VE.at_on hRY (Fr.ext hE)⟩, slr_blk M4 (by simp) four_len rfl M4.lt, by omega, rfl, E4.lt, E4.cell 0, E4.cell 1, E4.cell 2, E4.cell 3⟩ ⟨fits2 HF.out.2.1 HF.out.2.2, fits1 HF.out.1, HR.out.2.1.2⟩).mono ?_
    rintro e w4 ⟨rfl, hb4⟩
    have hE4 : Ext Y w4 := hE.trans (Fr.of hb4)
    obtain ⟨p5, p5f, p5l⟩ := (P3.onE hE4).two
    have m5 : w4.cell? ⟨w.heap.size, 11, none⟩ = some (.int .i64 64) := (M3.onE hE4).cell 11
    have m5l : w.heap.size < w4.heap.size := (M3.onE hE4).lt
    have HE4 := hide hE4
    clear hE hb4 hs1 hs2 B1 B2 E4 M4 E3 M3 P3 hE4 hRY
    have hr := idx_range 64 (ev [b, c] [a] X) (by omega)
    generalize idx 64 (ev [b, c] [a] X) = r at *
    obtain ⟨v, f⟩ := r
    have v1 : decide (v ≥ 0) = true := by simpa using hr.1
    have v2 : decide (v < 64) = true := by
      have h2 := hr.2
      simp only [decide_eq_true_eq]
      simp only [] at h2
      omega
    have v3 : decide (v < max 1 64) = true := decide_eq_true hr.2
    clear hr
    go_wp2_with (fail)
    refine (awake_any _).mono ?_
    rintro e w6 ⟨rfl, hb6⟩
    have HB6 := hide hb6
    clear hb6
    go_wp2
    go_ret
    refine ⟨rfl, ?_⟩
    have hFb : Below w.heap.size w2 Y := HF2.out.below HE.out.1.size (by intro k hk; omega)
    exact (((Fr.ext HE.out.1).trans hFb).trans ((Fr.ext HE4.out).mono (Nat.le_trans HE.out.1.size HF2.out.size))).trans (HB6.out.mono (Nat.le_trans HE.out.1.size (Nat.le_trans HF2.out.size HE4.out.size)))
  · clear hk
    go_wp2_with (fail)
    generalize hW : World.alloc _ _ = W
    have hE : Ext w W := by rw [← hW]; exact (((Fr.refl _ _).alloc _).alloc _)
    have P0 : Blk W (w.heap.size + 1) 63 #[.bool false, .int .i64 1, .slice none 0 0] := by rw [← hW]; exact (Blk.new' _ _ _ (by simp))
    have M0 : Blk W w.heap.size 33 (fourM.flatMap cMtx).toArray := by rw [← hW]; exact (Blk.new' _ _ _ rfl).alloc _
    have HWS := hide (show W.heap.size = w.heap.size + 2 by rw [← hW]; simp)
    clear hW
    refine (made_any A n c0 l _ (HL.out.onF (Fr.ext hE) hE.size) hc).mono ?_
    rintro e w1 ⟨x, x0, x1, x2, x3, rfl, hx, hr, hb1⟩
    have HX := hide (And.intro (res_ok x hx) (res_fit x hx))
    go_wp2_with (fail)
    refine (res_of x _ x0 x1 x2 x3 hx (VE.rep_mono (fun b hb => hb.2) _ _ hr)).mono ?_
    rintro e w2 ⟨d0, d1, d2, d3, rfl, hr2, hb2⟩
    have hE2 : Ext W w2 := (Fr.of hb1).trans (Fr.of hb2)
    have HR := hide (And.intro (Fr.of (M := fun _ => False) hb1).size (And.intro HX.out hr2))
    clear hr hr2 hb1 hb2 hx HX HL
    generalize res x = X at *
    obtain ⟨dop, dn, dnm, dA, dk, dc, hd⟩ := VE.rep_four _ _ HR.out.2.2
    injection hd with hd0 hd
    injection hd with hd1 hd
    injection hd with hd2 hd
    injection hd with hd3 hd
    subst hd0 hd1 hd2 hd3
    clear hd
    have P2 := P0.onE hE2
    have M2 := M0.onE hE2
    have HE := hide (And.intro (hE.trans hE2) M2)
    obtain ⟨p2, p2f, p2l⟩ := P2.two
    clear hE hE2 P0 M0 M2
    go_wp2_with (fail)
    generalize hY : World.setCell w2 _ _ = Y
    have hF : Fr (fun k => k = w.heap.size + 1) w2 Y := by rw [← hY]; exact Fr.setCell (M := fun k => k = w.heap.size + 1) (p := ⟨w.heap.size + 1, 2, none⟩) (Fr.refl _ _) (.inl rfl) _
    have hYs : Y.heap.size = w2.heap.size := by rw [← hY]; simp
    have P3 : Blk Y (w.heap.size + 1) 63 #[.bool false, .int .i64 1, .slice (some ⟨w2.heap.size, 0, none⟩) 1 1] := by rw [← hY]; exact P2.set_ 2 _
    have M3 : Blk Y w.heap.size 33 (fourM.flatMap cMtx).toArray := HE.out.2.on hF (by omega)
    have hRY : X.at_ Y [.int .i64 dop, .int .i64 dn, .string dnm, .slice dA dk dc] := by
      have h1 := HR.out.1
      have h2 := hF.size
      have h3 := HWS.out
      exact VE.rep_mono (fun b hb => by have := hb.2; show b < Y.heap.size; omega) _ _ (VE.rep_keep (fun b hb => hF.block b hb.2 (by have := hb.1; omega)) _ _ HR.out.2.2)
    have HF2 := hide hF
    clear hY p2 p2f p2l P2 hF
    generalize hV : World.alloc _ _ = V
    have hE : Ext Y V := by rw [← hV]; exact (((Fr.refl _ _).alloc _).alloc _).alloc _
    have E4 : Blk V w2.heap.size 50 #[.int .i64 dop, .int .i64 dn, .string dnm, .slice dA dk dc] := by rw [← hV]; exact ((Blk.new' _ _ _ hYs.symm).alloc _).alloc _
    have B1 : Blk V (w2.heap.size + 1) 3 #[.int .i64 b, .int .i64 c] := by rw [← hV]; exact (Blk.new' _ _ _ (by simp [hYs])).alloc _
    have B2 : Blk V (w2.heap.size + 1 + 1) 3 #[.int .i64 a] := by rw [← hV]; exact (Blk.new' _ _ _ (by simp [hYs]))
    have hs1 := slr_lit (l := [b, c]) B1 rfl rfl B1.lt
    have hs2 := slr_lit (l := [a]) B2 rfl rfl B2.lt
    have M4 := M3.onE hE
    clear hV hYs
    refine (Index_any V (some ⟨w.heap.size, 0, none⟩) 4 4 fourM _ _ 2 1 2 1 [b, c] [a] X 1 ⟨⟨#[98]⟩, false, 1⟩ w2.heap.size 0 1 _ _ _ _
      ⟨⟨hs1, hs2, HR.out.2.1.1, VE.at_on hRY (Fr.ext hE)⟩, slr_blk M4 (by simp) four_len rfl M4.lt, by omega, rfl, E4.lt, E4.cell 0, E4.cell 1, E4.cell 2, E4.cell 3⟩).mono ?_
    rintro e w3 ⟨rfl, hb3⟩
    have hE3 : Ext Y w3 := hE.trans (Fr.of hb3)
    obtain ⟨p4, p4f, p4l⟩ := (P3.onE hE3).two
    have E3 := E4.onE (Fr.of hb3)
    clear hE hb3 hs1 hs2 B1 B2 E4 M4
    go_wp2_with (fail)
    generalize hV : World.alloc _ _ = U
    have hE : Ext Y U := by rw [← hV]; exact (hE3.alloc _).alloc _
    have hE' : Ext w3 U := by rw [← hV]; exact ((Fr.refl _ _).alloc _).alloc _
    have B1 : Blk U w3.heap.size 3 #[.int .i64 b, .int .i64 c] := by rw [← hV]; exact (Blk.new _ _ _).alloc _
    have B2 : Blk U (w3.heap.size + 1) 3 #[.int .i64 a] := by rw [← hV]; exact (Blk.new' _ _ _ (by simp))
    have hs1 := slr_lit (l := [b, c]) B1 rfl rfl B1.lt
    have hs2 := slr_lit (l := [a]) B2 rfl rfl B2.lt
    have E4 := E3.onE hE'
    have M4 := M3.onE hE
    clear hV p4 p4f p4l hE3 hE'
    refine (refIndex_any U (some ⟨w.heap.size, 0, none⟩) 4 4 fourM _ _ 2 1 2 1 [b, c] [a] X 1 ⟨⟨#[98]⟩, false, 1⟩ w2.heap.size 0 1 _ _ _ _
      ⟨⟨hs1, hs2, HR.out.2.1.1, VE.at_on hRY (Fr.ext hE)⟩, slr_blk M4 (by simp) four_len rfl M4.lt, by omega, rfl, E4.lt, E4.cell 0, E4.cell 1, E4.cell 2, E4.cell 3⟩ ⟨fits2 HF.out.2.1 HF.out.2.2, fits1 HF.out.1, HR.out.2.1.2⟩).mono ?_
    rintro e w4 ⟨rfl, hb4⟩
    have hE4 : Ext Y w4 := hE.trans (Fr.of hb4)
    obtain ⟨p5, p5f, p5l⟩ := (P3.onE hE4).two
    have m5 : w4.cell? ⟨w.heap.size, 5, none⟩ = some (.int .i64 1) := (M3.onE hE4).cell 5
    have m5l : w.heap.size < w4.heap.size := (M3.onE hE4).lt
    have HE4 := hide hE4
    clear hE hb4 hs1 hs2 B1 B2 E4 M4 E3 M3 P3 hE4 hRY
    have hr := idx_range 1 (ev [b, c] [a] X) (by omega)
    generalize idx 1 (ev [b, c] [a] X) = r at *
    obtain ⟨v, f⟩ := r
    have v1 : decide (v ≥ 0) = true := by simpa using hr.1
    have v2 : decide (v < 1) = true := by
      have h2 := hr.2
      simp only [decide_eq_true_eq]
      simp only [] at h2
      omega
    have v3 : decide (v < max 1 1) = true := decide_eq_true hr.2
    clear hr
    go_wp2_with (fail)
    refine (awake_any _).mono ?_
    rintro e w6 ⟨rfl, hb6⟩
    have HB6 := hide hb6
    clear hb6
    go_wp2
    go_ret
    refine ⟨rfl, ?_⟩
    have hFb : Below w.heap.size w2 Y := HF2.out.below HE.out.1.size (by intro k hk; omega)
    exact (((Fr.ext HE.out.1).trans hFb).trans ((Fr.ext HE4.out).mono (Nat.le_trans HE.out.1.size HF2.out.size))).trans (HB6.out.mono (Nat.le_trans HE.out.1.size (Nat.le_trans HF2.out.size HE4.out.size)))

theorem valueIndex_any (A : Option Addr) (n c0 : Nat) (l : List Int) (m a b c : Int) (s : Bool) (w : World) (h : SlR (EF cInt) 1 w w.heap.size A n l) (hc : n ≤ c0) (hf : Fits a ∧ Fits b ∧ Fits c) :
    Calls Try.prog 15 #[.slice A n c0, .int .i64 m, .int .i64 a, .int .i64 b, .int .i64 c, .bool s] w fun e w' => e = .returned (.bool true) ∧ Below w.heap.size w w' := by
  cases s
  · exact valueIndex_no A n c0 l m a b c w h hc hf
  · exact valueIndex_yes A n c0 l m a b c w
end Go.Proofs.Ytbbjncjkddekfaa

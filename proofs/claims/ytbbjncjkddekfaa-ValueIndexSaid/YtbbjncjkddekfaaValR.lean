/- The walk of the reference's evaluation: it computes 'ev' too, for numbers in their range. -/
import Derived.Test.YtbbjncjkddekfaaLawE
namespace Go.Proofs.Ytbbjncjkddekfaa
open Go.RowKit
attribute [local go_sem ↓] run_max2 run_min2

def Fits (n : Int) : Prop := -9223372036854775808 ≤ n ∧ n ≤ 9223372036854775807
theorem wrap64_fits (n : Int) : Fits (wrap64 n) := by unfold Fits wrap64; omega
theorem truth_fits (b : Bool) : Fits (truth b) := by cases b <;> (unfold Fits truth; decide)
def VE.fit : VE → Prop
  | .num n => Fits n
  | .nam _ => True
  | .loc _ => True
  | .glo _ => True
  | .un _ x => x.fit
  | .bin _ x y => x.fit ∧ y.fit
theorem tmod_fits (a b : Int) (ha : Fits a) : Fits (a.tmod b) := by
  have habs := Int.natAbs_tmod a b
  have hle : a.natAbs % b.natAbs ≤ a.natAbs := Nat.mod_le _ _
  rw [← habs] at hle
  unfold Fits at *
  rcases Int.lt_trichotomy a 0 with h | h | h
  · have h2 := Int.tmod_nonneg b (show 0 ≤ -a by omega)
    rw [Int.neg_tmod] at h2
    generalize a.tmod b = r at *
    omega
  · subst h
    simp
  · have h2 := Int.tmod_nonneg b (show 0 ≤ a by omega)
    generalize a.tmod b = r at *
    omega
theorem zero_fits : Fits 0 := by unfold Fits; decide
theorem one_fits : Fits 1 := by unfold Fits; decide
theorem arith_fits (op a b : Int) (ha : Fits a) : Fits (arith op a b).1 := by
  unfold arith
  repeat' split
  all_goals first | exact wrap64_fits _ | exact truth_fits _ | exact tmod_fits _ _ ha | exact zero_fits
theorem getD_fits {g : List Int} (hg : ∀ x ∈ g, Fits x) (k : Nat) : Fits (g.getD k 0) := by
  rw [List.getD_eq_getElem?_getD]
  cases h : g[k]? with
  | none => exact zero_fits
  | some v => exact hg v (List.mem_of_getElem? h)
theorem ev_fits {g l : List Int} (hg : ∀ x ∈ g, Fits x) (hl : ∀ x ∈ l, Fits x) : ∀ e : VE, e.fit → Fits (ev g l e).1
  | .num _, h => h
  | .nam _, _ => zero_fits
  | .loc _, _ => getD_fits hl _
  | .glo _, _ => getD_fits hg _
  | .un op x, _ => by
    rw [ev]
    repeat' split
    all_goals first | exact zero_fits | exact wrap64_fits _ | exact truth_fits _
  | .bin op x y, h => by
    rw [ev]
    repeat' split
    all_goals first | exact zero_fits | exact one_fits | exact truth_fits _ | exact arith_fits _ _ _ (ev_fits hg hl x h.1)

theorem rem_sub (a b : Int) (ha : Fits a) : wrap64 (a - wrap64 (wrap64 (a.tdiv b) * b)) = a.tmod b := by
  rw [wrap64_mul_left, wrap64_sub_right, show a - a.tdiv b * b = a.tmod b by have := Int.tdiv_mul_add_tmod a b; omega]
  exact IntWalk.wrap64_in _ (tmod_fits a b ha)

structure FitIn (g l : List Int) (e : VE) : Prop where
  fg : ∀ x ∈ g, Fits x
  fl : ∀ x ∈ l, Fits x
  fe : e.fit

def RefSaid (e : VE) : Prop := ∀ (w : World) (G L : Option Addr) (ng nl cg cl : Nat) (g l : List Int) (c0 c1 c2 c3 : Value), EvIn w G L ng nl g l e [c0, c1, c2, c3] → FitIn g l e →
  Calls Try.prog 41 #[.agg #[c0, c1, c2, c3], .slice G ng cg, .slice L nl cl] w (Two w (ev g l e))

theorem ref_num (n : Int) : RefSaid (.num n) := by
  intro w G L ng nl cg cl g l c0 c1 c2 c3 h _
  obtain ⟨nm, A, c, hcs⟩ := h.rep
  injection hcs with h0 hcs
  injection hcs with h1 hcs
  injection hcs with h2 hcs
  injection hcs with h3 hcs
  subst h0 h1 h2 h3
  clear h hcs
  go_enter Try.func41, Try.ntmps41
  go_wp2
  go_ret2
  exact Two.mk' rfl ((Below.refl _ _).alloc (Nat.le_refl _) _)

set_option maxHeartbeats 400000 in
theorem ref_var (e : VE) (k : Int) (he : e = .loc k ∨ e = .glo k) : RefSaid e := by
  intro w G L ng nl cg cl g l c0 c1 c2 c3 h _
  have hbW2 := (Below.refl w.heap.size w).alloc (Nat.le_refl _) (.cells #[c0, c1, c2, c3] 50)
  have hgs := h.gs.onF hbW2 hbW2.size
  have hls := h.ls.onF hbW2 hbW2.size
  clear hbW2
  have hok := h.ok
  rcases he with rfl | rfl
  all_goals
    obtain ⟨nm, A, c, hcs⟩ := h.rep
    injection hcs with h0 hcs
    injection hcs with h1 hcs
    injection hcs with h2 hcs
    injection hcs with h3 hcs
    subst h0 h1 h2 h3
    clear h hcs
    obtain ⟨hk0, hk1⟩ := hok
    obtain ⟨j, rfl⟩ := Int.eq_ofNat_of_zero_le hk0
  · obtain ⟨b, o, x, rfl, hb, hx, hc⟩ := hls.int (show j < nl by omega)
    have hj : j < nl := by omega
    have HX := hide (show ev g l (.loc j) = (x, 0) by simp [ev, List.getD_eq_getElem?_getD, hx])
    clear hx hgs hls
    go_enter Try.func41, Try.ntmps41
    go_wp2
    go_ret2
    exact Two.mk' HX.out ((Below.refl _ _).alloc (Nat.le_refl _) _)
  · obtain ⟨b, o, x, rfl, hb, hx, hc⟩ := hgs.int (show j < ng by omega)
    have hj : j < ng := by omega
    have HX := hide (show ev g l (.glo j) = (x, 0) by simp [ev, List.getD_eq_getElem?_getD, hx])
    clear hx hgs hls
    go_enter Try.func41, Try.ntmps41
    go_wp2
    go_ret2
    exact Two.mk' HX.out ((Below.refl _ _).alloc (Nat.le_refl _) _)

set_option maxHeartbeats 800000 in
theorem ref_un (op : Int) (x : VE) (IH : RefSaid x) : RefSaid (.un op x) := by
  intro w G L ng nl cg cl g l c0 c1 c2 c3 h hfit
  obtain ⟨n, nm, b, o, c, x0, x1, x2, x3, hcs, hb, hx, e0, e1, e2, e3⟩ := h.rep
  injection hcs with h0 hcs
  injection hcs with h1 hcs
  injection hcs with h2 hcs
  injection hcs with h3 hcs
  subst h0 h1 h2 h3
  clear hcs
  have hop := h.ok.1
  have hin : EvIn w G L ng nl g l x [x0, x1, x2, x3] := ⟨h.gs, h.ls, h.ok.2, hx⟩
  have HF := hide (show FitIn g l x from ⟨hfit.fg, hfit.fl, hfit.fe⟩)
  have HI := hide IH
  have HO := hide hop
  clear h hx IH hfit
  have g1 : (op == 1) = false := by simp; omega
  have g2 : (op == 18) = false := by simp; omega
  have g3 : (op == 19) = false := by simp; omega
  clear hop
  have hbW := (Below.refl w.heap.size w).alloc (Nat.le_refl _) (.cells #[.int .i64 op, .int .i64 n, .string nm, .slice (some ⟨b, o, none⟩) 1 c] 50)
  have a0 : (w.alloc (.cells #[.int .i64 op, .int .i64 n, .string nm, .slice (some ⟨b, o, none⟩) 1 c] 50)).cell? ⟨w.heap.size, 0, none⟩ = some (.int .i64 op) := by simp [go_sem]
  have a3 : (w.alloc (.cells #[.int .i64 op, .int .i64 n, .string nm, .slice (some ⟨b, o, none⟩) 1 c] 50)).cell? ⟨w.heap.size, 3, none⟩ = some (.slice (some ⟨b, o, none⟩) 1 c) := by simp [go_sem]
  have hs2 : (w.alloc (.cells #[.int .i64 op, .int .i64 n, .string nm, .slice (some ⟨b, o, none⟩) 1 c] 50)).heap.size = w.heap.size + 1 := by simp
  have HA := hide (And.intro a0 (And.intro a3 (And.intro hs2 hbW)))
  clear a0 a3 hs2 hbW
  go_enter Try.func41, Try.ntmps41
  go_wp2_with (fail)
  refine (HI.out _ G L ng nl cg cl g l x0 x1 x2 x3 (hin.on HA.out.2.2.2) HF.out).mono ?_
  rintro r w1 ⟨rfl, hb1⟩
  obtain ⟨a0, a3, hs2, hbW⟩ := HA.out
  have k0 := (hb1.cell (p := ⟨w.heap.size, 0, none⟩) (by simp only []; omega)).trans a0
  have hf := hbW.trans (hb1.mono hbW.size)
  have HFF := hide hf
  clear HA a0 a3 hs2 hbW hb1 hin HI hf
  have HE := hide (show ev g l (.un op x) = if (ev g l x).2 ≠ 0 then (0, (ev g l x).2) else if op = 3 then (wrap64 (-(ev g l x).1), 0) else (truth ((ev g l x).1 == 0), 0) from rfl)
  clear HF
  generalize ev g l x = r1 at *
  obtain ⟨v1, f1⟩ := r1
  by_cases hf1 : f1 = 0
  case neg =>
    have q1 : (f1 != 0) = true := by simpa using hf1
    have HE2 := hide (show ev g l (.un op x) = (0, f1) by rw [HE.out]; simp [hf1])
    clear hf1
    go_wp2
    go_ret2
    exact Two.mk' HE2.out HFF.out
  have q1 : (f1 != 0) = false := by simpa using hf1
  rcases HO.out with h3 | h4
  · have HE2 := hide (show ev g l (.un op x) = (wrap64 (-v1), 0) by rw [HE.out]; simp [hf1, h3])
    subst h3
    clear hf1
    go_wp2
    go_ret2
    exact Two.mk' HE2.out HFF.out
  · have HE2 := hide (show ev g l (.un op x) = (truth (v1 == 0), 0) by rw [HE.out]; simp [hf1, h4])
    subst h4
    clear hf1
    go_wp2_with (fail)
    refine (refTruth_any _ _).mono ?_
    rintro e w' ⟨rfl, rfl⟩
    go_wp2
    go_ret2
    exact Two.mk' HE2.out HFF.out

set_option maxHeartbeats 3200000 in
theorem ref_bin (op : Int) (x y : VE) (IHx : RefSaid x) (IHy : RefSaid y) : RefSaid (.bin op x y) := by
  intro w G L ng nl cg cl g l c0 c1 c2 c3 h hfit
  obtain ⟨n, nm, b, o, c, x0, x1, x2, x3, y0, y1, y2, y3, hcs, hb, hx, hy, e0, e1, e2, e3, e4, e5, e6, e7⟩ := h.rep
  injection hcs with h0 hcs
  injection hcs with h1 hcs
  injection hcs with h2 hcs
  injection hcs with h3 hcs
  subst h0 h1 h2 h3
  clear hcs
  have hop := h.ok.1
  have hin : EvIn w G L ng nl g l x [x0, x1, x2, x3] := ⟨h.gs, h.ls, h.ok.2.1, hx⟩
  have hin2 : EvIn w G L ng nl g l y [y0, y1, y2, y3] := ⟨h.gs, h.ls, h.ok.2.2, hy⟩
  have HF := hide (And.intro (show FitIn g l x from ⟨hfit.fg, hfit.fl, hfit.fe.1⟩) (show FitIn g l y from ⟨hfit.fg, hfit.fl, hfit.fe.2⟩))
  have HV := hide (ev_fits hfit.fg hfit.fl x hfit.fe.1)
  have HI := hide IHx
  have HJ := hide IHy
  have HO := hide hop
  clear h hx hy IHx IHy hfit
  have g1 : (op == 1) = false := by simp; omega
  have g2 : (op == 18) = false := by simp; omega
  have g3 : (op == 19) = false := by simp; omega
  have g4 : (op == 3) = false := by simp; omega
  have g5 : (op == 4) = false := by simp; omega
  clear hop
  have hbW := (Below.refl w.heap.size w).alloc (Nat.le_refl _) (.cells #[.int .i64 op, .int .i64 n, .string nm, .slice (some ⟨b, o, none⟩) 2 c] 50)
  have a0 : (w.alloc (.cells #[.int .i64 op, .int .i64 n, .string nm, .slice (some ⟨b, o, none⟩) 2 c] 50)).cell? ⟨w.heap.size, 0, none⟩ = some (.int .i64 op) := by simp [go_sem]
  have a3 : (w.alloc (.cells #[.int .i64 op, .int .i64 n, .string nm, .slice (some ⟨b, o, none⟩) 2 c] 50)).cell? ⟨w.heap.size, 3, none⟩ = some (.slice (some ⟨b, o, none⟩) 2 c) := by simp [go_sem]
  have hs2 : (w.alloc (.cells #[.int .i64 op, .int .i64 n, .string nm, .slice (some ⟨b, o, none⟩) 2 c] 50)).heap.size = w.heap.size + 1 := by simp
  have HA := hide (And.intro a0 (And.intro a3 (And.intro hs2 hbW)))
  clear a0 a3 hs2 hbW
  go_enter Try.func41, Try.ntmps41
  go_wp2_with (fail)
  refine (HI.out _ G L ng nl cg cl g l x0 x1 x2 x3 (hin.on HA.out.2.2.2) HF.out.1).mono ?_
  rintro r w1 ⟨rfl, hb1⟩
  obtain ⟨a0, a3, hs2, hbW⟩ := HA.out
  have k0 := (hb1.cell (p := ⟨w.heap.size, 0, none⟩) (by simp only []; omega)).trans a0
  have k3 := (hb1.cell (p := ⟨w.heap.size, 3, none⟩) (by simp only []; omega)).trans a3
  have hf := hbW.trans (hb1.mono hbW.size)
  have d4 := (hf.cell (p := ⟨b, o + 4, none⟩) hb).trans e4
  have d5 := (hf.cell (p := ⟨b, o + 5, none⟩) hb).trans e5
  have d6 := (hf.cell (p := ⟨b, o + 6, none⟩) hb).trans e6
  have d7 := (hf.cell (p := ⟨b, o + 7, none⟩) hb).trans e7
  have hlt : w.heap.size < w1.heap.size := by have := hb1.size; omega
  have HFF := hide hf
  clear HA a0 a3 hs2 hbW hb1 hin HI hf e0 e1 e2 e3 e4 e5 e6 e7
  have HE := hide (show ev g l (.bin op x y) = if (ev g l x).2 ≠ 0 then (0, (ev g l x).2) else if op = 16 ∧ (ev g l x).1 = 0 then (0, 0) else if op = 17 ∧ (ev g l x).1 ≠ 0 then (1, 0) else if (ev g l y).2 ≠ 0 then (0, (ev g l y).2) else if op = 16 ∨ op = 17 then (truth ((ev g l y).1 != 0), 0) else arith op (ev g l x).1 (ev g l y).1 from rfl)
  generalize ev g l x = r1 at *
  obtain ⟨v1, f1⟩ := r1
  by_cases hf1 : f1 = 0
  case neg =>
    have q1 : (f1 != 0) = true := by simpa using hf1
    have HE2 := hide (show ev g l (.bin op x y) = (0, f1) by rw [HE.out]; simp [hf1])
    clear hf1
    go_wp2
    go_ret2
    exact Two.mk' HE2.out HFF.out
  have q1 : (f1 != 0) = false := by simpa using hf1
  have HF1 := hide hf1
  clear hf1
  by_cases ha : op = 16 ∧ v1 = 0
  · obtain ⟨rfl, rfl⟩ := ha
    have HE2 := hide (show ev g l (.bin 16 x y) = (0, 0) by rw [HE.out]; simp [HF1.out])
    go_wp2
    go_ret2
    exact Two.mk' HE2.out HFF.out
  by_cases ho : op = 17 ∧ v1 ≠ 0
  · obtain ⟨rfl, hv⟩ := ho
    have q2 : (v1 != 0) = true := by simpa using hv
    have HE2 := hide (show ev g l (.bin 17 x y) = (1, 0) by rw [HE.out]; simp [HF1.out, hv])
    clear hv
    go_wp2
    go_ret2
    exact Two.mk' HE2.out HFF.out
  have HE3 := hide (show ev g l (.bin op x y) = if (ev g l y).2 ≠ 0 then (0, (ev g l y).2) else if op = 16 ∨ op = 17 then (truth ((ev g l y).1 != 0), 0) else arith op v1 (ev g l y).1 by rw [HE.out]; simp only [HF1.out, ne_eq, not_true_eq_false, if_false]; rw [if_neg ha, if_neg ho])
  have split : (op == 16) = true ∧ (v1 == 0) = false ∧ (op == 17) = false ∨ (op == 16) = false ∧ (op == 17) = true ∧ (v1 != 0) = false ∨ (op == 16) = false ∧ (op == 17) = false := by
    by_cases h1 : op = 16
    · refine .inl ⟨by simpa using h1, ?_, by simp; omega⟩
      have : v1 ≠ 0 := fun hh => ha ⟨h1, hh⟩
      simpa using this
    · by_cases h2 : op = 17
      · refine .inr (.inl ⟨by simpa using h1, by simpa using h2, ?_⟩)
        by_cases hv : v1 = 0
        · simpa using hv
        · exact absurd ⟨h2, hv⟩ ho
      · exact .inr (.inr ⟨by simpa using h1, by simpa using h2⟩)
  clear ha ho HE
  have HS := hide split
  clear split
  have second : ∀ (P : Prop), P → P := fun _ h => h
  clear second
  rcases HS.out with ⟨z1, z2, z3⟩ | ⟨z1, z2, z3⟩ | ⟨z1, z2⟩
  all_goals
    go_wp2_with (fail)
    refine (HJ.out _ G L ng nl cg cl g l y0 y1 y2 y3 (hin2.on HFF.out) HF.out.2).mono ?_
    rintro r w2 ⟨rfl, hb2⟩
    have m0 := (hb2.cell (p := ⟨w.heap.size, 0, none⟩) hlt).trans k0
    have HG := hide (HFF.out.trans (hb2.mono HFF.out.size))
    clear hb2 HFF k0 k3 d4 d5 d6 d7 hin2 HJ hlt
    generalize ev g l y = r2 at *
    obtain ⟨v2, f2⟩ := r2
    by_cases hf2 : f2 = 0
    case neg =>
      have q3 : (f2 != 0) = true := by simpa using hf2
      have HE4 := hide (show ev g l (.bin op x y) = (0, f2) by rw [HE3.out]; simp [hf2])
      clear hf2
      go_wp2
      go_ret2
      exact Two.mk' HE4.out HG.out
    have q3 : (f2 != 0) = false := by simpa using hf2
    have HE4 := hide (show ev g l (.bin op x y) = if op = 16 ∨ op = 17 then (truth (v2 != 0), 0) else arith op v1 v2 by rw [HE3.out]; simp [hf2])
    clear hf2 HE3 HS
    try clear z3
    first
    | (have HE5 := hide (show ev g l (.bin op x y) = (truth (v2 != 0), 0) by rw [HE4.out, if_pos (by first | exact .inl (by simpa using z1) | exact .inr (by simpa using z2))])
       have hc : op = 16 ∨ op = 17 := (by first | exact .inl (by simpa using z1) | exact .inr (by simpa using z2))
       clear z1 z2 HE4 g1 g2 g3 g4 g5
       rcases hc with rfl | rfl
       all_goals
         go_wp2_with (fail)
         refine (refTruth_any _ _).mono ?_
         rintro e w' ⟨rfl, rfl⟩
         go_wp2
         go_ret2
         exact Two.mk' HE5.out HG.out)
    | (have hne : op ≠ 16 ∧ op ≠ 17 := ⟨by simpa using z1, by simpa using z2⟩
       have HE5 := hide (show ev g l (.bin op x y) = arith op v1 v2 by rw [HE4.out, if_neg (by omega)])
       have hc : op = 5 ∨ op = 6 ∨ op = 7 ∨ op = 8 ∨ op = 9 ∨ op = 10 ∨ op = 11 ∨ op = 12 ∨ op = 13 ∨ op = 14 ∨ op = 15 := (by have := HO.out; omega)
       clear z1 z2 HE4 g1 g2 g3 g4 g5 hne HO
       by_cases h0 : v2 = 0
       · subst h0
         clear HV
         rcases hc with rfl | rfl | rfl | rfl | rfl | rfl | rfl | rfl | rfl | rfl | rfl
         all_goals
           go_wp2_with (fail)
           try (refine (refTruth_any _ _).mono ?_; rintro e w' ⟨rfl, rfl⟩; go_wp2)
           go_ret2
           first | exact Two.mk' HE5.out HG.out | exact Two.mk' (HE5.out.trans (by first | (simp [arith]; done) | (simp [arith]; decide +kernel))) HG.out
       · have q4 : (v2 == 0) = false := by simpa using h0
         have HZ := hide h0
         clear h0
         rcases hc with rfl | rfl | rfl | rfl | rfl | rfl | rfl | rfl | rfl | rfl | rfl
         case inr.inl =>
           go_wp2_with (fail)
           refine (quotient_any _ _ HZ.out _).mono ?_
           rintro e w' ⟨rfl, rfl⟩
           go_wp2
           go_ret2
           exact Two.mk' (HE5.out.trans (by simp [arith, HZ.out])) HG.out
         case inr.inr.inl =>
           go_wp2_with (fail)
           refine (quotient_any _ _ HZ.out _).mono ?_
           rintro e w' ⟨rfl, rfl⟩
           go_wp2
           go_ret2
           exact Two.mk' (HE5.out.trans (by simp [arith, HZ.out, rem_sub _ _ HV.out])) HG.out
         all_goals
           clear q4
           go_wp2_with (fail)
           try (refine (refTruth_any _ _).mono ?_; rintro e w' ⟨rfl, rfl⟩; go_wp2)
           go_ret2
           exact Two.mk' HE5.out HG.out)

theorem ref_of : ∀ e : VE, RefSaid e
  | .num n => ref_num n
  | .nam _ => fun _ _ _ _ _ _ _ _ _ _ _ _ _ h _ => h.ok.elim
  | .loc k => ref_var _ k (.inl rfl)
  | .glo k => ref_var _ k (.inr rfl)
  | .un op x => ref_un op x (ref_of x)
  | .bin op x y => ref_bin op x y (ref_of x) (ref_of y)
end Go.Proofs.Ytbbjncjkddekfaa

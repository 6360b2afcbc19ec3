/- The walk of the program's evaluation: it computes 'ev'. For well-formed expressions. -/
import Derived.Test.YtbbjncjkddekfaaValA
import Derived.Deep.DrawnRows
namespace Go.Proofs.Ytbbjncjkddekfaa
open Go.RowKit
attribute [local go_sem ↓] run_max2 run_min2

/-- what evaluation is told of its variables and of its expression -/
structure EvIn (w : World) (G L : Option Addr) (ng nl : Nat) (g l : List Int) (e : VE) (cs : List Value) : Prop where
  gs : SlR (EF cInt) 1 w w.heap.size G ng g
  ls : SlR (EF cInt) 1 w w.heap.size L nl l
  ok : e.ok ng nl
  rep : e.at_ w cs
theorem EvIn.on {w w' : World} {G L : Option Addr} {ng nl : Nat} {g l : List Int} {e : VE} {cs : List Value} (h : EvIn w G L ng nl g l e cs) (hb : Below w.heap.size w w') : EvIn w' G L ng nl g l e cs :=
  ⟨h.gs.onF hb hb.size, h.ls.onF hb hb.size, h.ok, VE.at_on h.rep hb⟩

def EvalSaid (e : VE) : Prop := ∀ (w : World) (G L : Option Addr) (ng nl cg cl : Nat) (g l : List Int) (c0 c1 c2 c3 : Value), EvIn w G L ng nl g l e [c0, c1, c2, c3] →
  Calls Try.prog 52 #[.agg #[.slice G ng cg, .slice L nl cl], .agg #[c0, c1, c2, c3]] w (Two w (ev g l e))
def SingleSaid (e : VE) : Prop := ∀ (w : World) (G L : Option Addr) (ng nl cg cl : Nat) (g l : List Int) (c0 c1 c2 c3 : Value), EvIn w G L ng nl g l e [c0, c1, c2, c3] →
  Calls Try.prog 56 #[.agg #[.slice G ng cg, .slice L nl cl], .agg #[c0, c1, c2, c3]] w (Two w (ev g l e))
def BinarySaid (e : VE) : Prop := ∀ (w : World) (G L : Option Addr) (ng nl cg cl : Nat) (g l : List Int) (c0 c1 c2 c3 : Value), EvIn w G L ng nl g l e [c0, c1, c2, c3] →
  Calls Try.prog 57 #[.agg #[.slice G ng cg, .slice L nl cl], .agg #[c0, c1, c2, c3]] w (Two w (ev g l e))

theorem alloc2 {w : World} (a b : Obj) : Below w.heap.size w ((w.alloc a).alloc b) := ((Below.refl _ _).alloc (Nat.le_refl _) _).alloc (by simp) _

set_option maxHeartbeats 400000 in
theorem single_num (n : Int) : SingleSaid (.num n) := by
  intro w G L ng nl cg cl g l c0 c1 c2 c3 h
  obtain ⟨nm, A, c, hcs⟩ := h.rep
  injection hcs with h0 hcs
  injection hcs with h1 hcs
  injection hcs with h2 hcs
  injection hcs with h3 hcs
  subst h0 h1 h2 h3
  clear h hcs
  go_enter Try.func56, Try.ntmps56
  go_wp2
  go_ret2
  exact Two.mk' rfl (alloc2 _ _)

set_option maxHeartbeats 800000 in
theorem single_un (op : Int) (x : VE) (IH : EvalSaid x) : SingleSaid (.un op x) := by
  intro w G L ng nl cg cl g l c0 c1 c2 c3 h
  obtain ⟨n, nm, b, o, c, x0, x1, x2, x3, hcs, hb, hx, e0, e1, e2, e3⟩ := h.rep
  injection hcs with h0 hcs
  injection hcs with h1 hcs
  injection hcs with h2 hcs
  injection hcs with h3 hcs
  subst h0 h1 h2 h3
  clear hcs
  have hop := h.ok.1
  have hin : EvIn w G L ng nl g l x [x0, x1, x2, x3] := ⟨h.gs, h.ls, h.ok.2, hx⟩
  have HI := hide IH
  have HO := hide hop
  clear h hx IH
  have g1 : (op == 1) = false := by simp; omega
  have g2 : (op == 18) = false := by simp; omega
  have g3 : (op == 19) = false := by simp; omega
  clear hop
  go_enter Try.func56, Try.ntmps56
  go_wp2
  have hbW := alloc2 (w := w) (.cells #[.slice G ng cg, .slice L nl cl] 77) (.cells #[.int .i64 op, .int .i64 n, .string nm, .slice (some ⟨b, o, none⟩) 1 c] 50)
  have a0 : ((w.alloc (.cells #[.slice G ng cg, .slice L nl cl] 77)).alloc (.cells #[.int .i64 op, .int .i64 n, .string nm, .slice (some ⟨b, o, none⟩) 1 c] 50)).cell? ⟨w.heap.size, 0, none⟩ = some (.slice G ng cg) := by simp [go_sem]
  have a1 : ((w.alloc (.cells #[.slice G ng cg, .slice L nl cl] 77)).alloc (.cells #[.int .i64 op, .int .i64 n, .string nm, .slice (some ⟨b, o, none⟩) 1 c] 50)).cell? ⟨w.heap.size, 1, none⟩ = some (.slice L nl cl) := by simp [go_sem]
  have b0 : ((w.alloc (.cells #[.slice G ng cg, .slice L nl cl] 77)).alloc (.cells #[.int .i64 op, .int .i64 n, .string nm, .slice (some ⟨b, o, none⟩) 1 c] 50)).cell? ⟨w.heap.size + 1, 0, none⟩ = some (.int .i64 op) := by simp [go_sem]
  have b3 : ((w.alloc (.cells #[.slice G ng cg, .slice L nl cl] 77)).alloc (.cells #[.int .i64 op, .int .i64 n, .string nm, .slice (some ⟨b, o, none⟩) 1 c] 50)).cell? ⟨w.heap.size + 1, 3, none⟩ = some (.slice (some ⟨b, o, none⟩) 1 c) := by simp [go_sem]
  have hs2 : ((w.alloc (.cells #[.slice G ng cg, .slice L nl cl] 77)).alloc (.cells #[.int .i64 op, .int .i64 n, .string nm, .slice (some ⟨b, o, none⟩) 1 c] 50)).heap.size = w.heap.size + 2 := by simp
  generalize (w.alloc (.cells #[.slice G ng cg, .slice L nl cl] 77)).alloc (.cells #[.int .i64 op, .int .i64 n, .string nm, .slice (some ⟨b, o, none⟩) 1 c] 50) = W at *
  have hW := hin.on hbW
  have d0 := (hbW.cell (p := ⟨b, o, none⟩) hb).trans e0
  have d1 := (hbW.cell (p := ⟨b, o + 1, none⟩) hb).trans e1
  have d2 := (hbW.cell (p := ⟨b, o + 2, none⟩) hb).trans e2
  have d3 := (hbW.cell (p := ⟨b, o + 3, none⟩) hb).trans e3
  have HS2 := hide hs2
  clear hin e0 e1 e2 e3 hs2
  have keep : ∀ V : World, Below W.heap.size W V → V.cell? ⟨w.heap.size, 0, none⟩ = some (.slice G ng cg) ∧ V.cell? ⟨w.heap.size, 1, none⟩ = some (.slice L nl cl) ∧ V.cell? ⟨w.heap.size + 1, 0, none⟩ = some (.int .i64 op) ∧ V.cell? ⟨w.heap.size + 1, 3, none⟩ = some (.slice (some ⟨b, o, none⟩) 1 c) ∧
      V.cell? ⟨b, o, none⟩ = some x0 ∧ V.cell? ⟨b, o + 1, none⟩ = some x1 ∧ V.cell? ⟨b, o + 2, none⟩ = some x2 ∧ V.cell? ⟨b, o + 3, none⟩ = some x3 := fun V hV => by
    have hsz := HS2.out
    have hbb : b < W.heap.size := by have := hb; omega
    exact ⟨(hV.cell (p := ⟨w.heap.size, 0, none⟩) (by simp only []; omega)).trans a0, (hV.cell (p := ⟨w.heap.size, 1, none⟩) (by simp only []; omega)).trans a1, (hV.cell (p := ⟨w.heap.size + 1, 0, none⟩) (by simp only []; omega)).trans b0, (hV.cell (p := ⟨w.heap.size + 1, 3, none⟩) (by simp only []; omega)).trans b3,
      (hV.cell (p := ⟨b, o, none⟩) hbb).trans d0, (hV.cell (p := ⟨b, o + 1, none⟩) hbb).trans d1, (hV.cell (p := ⟨b, o + 2, none⟩) hbb).trans d2, (hV.cell (p := ⟨b, o + 3, none⟩) hbb).trans d3⟩
  have HK := hide keep
  clear keep a0 a1 b0 b3 d0 d1 d2 d3
  go_region_held3 (fun V => V.cell? ⟨w.heap.size, 0, none⟩ = some (.slice G ng cg) ∧ V.cell? ⟨w.heap.size, 1, none⟩ = some (.slice L nl cl) ∧ V.cell? ⟨w.heap.size + 1, 0, none⟩ = some (.int .i64 op) ∧ V.cell? ⟨w.heap.size + 1, 3, none⟩ = some (.slice (some ⟨b, o, none⟩) 1 c) ∧
      V.cell? ⟨b, o, none⟩ = some x0 ∧ V.cell? ⟨b, o + 1, none⟩ = some x1 ∧ V.cell? ⟨b, o + 2, none⟩ = some x2 ∧ V.cell? ⟨b, o + 3, none⟩ = some x3)
    (first | exact HK.out _ (Below.refl _ _) | exact HK.out _ (Below.refl _ _).drew | exact HK.out _ hb2)
    (first | (go_at_call 52; refine (HI.out _ G L ng nl cg cl g l x0 x1 x2 x3 ?_).mono ?_; (exact hW.on (Below.refl _ _).drew); rintro r w' ⟨rfl, hb2'⟩; have hb2 : Below W.heap.size W w' := (Below.refl W.heap.size W).drew.trans hb2'; clear hb2'))
  have hf := (hbW.trans (hb2.mono hbW.size))
  have HE := hide (show ev g l (.un op x) = if (ev g l x).2 ≠ 0 then (0, (ev g l x).2) else if op = 3 then (wrap64 (-(ev g l x).1), 0) else (truth ((ev g l x).1 == 0), 0) from rfl)
  generalize ev g l x = r1 at *
  obtain ⟨v1, f1⟩ := r1
  clear HK HI hW
  by_cases hf1 : f1 = 0
  case neg =>
    have q1 : (f1 != 0) = true := by simpa using hf1
    have HE2 := hide (show ev g l (.un op x) = (0, f1) by rw [HE.out]; simp [hf1])
    clear hf1
    go_wp2
    go_ret2
    exact Two.mk' HE2.out hf
  have q1 : (f1 != 0) = false := by simpa using hf1
  rcases HO.out with h3 | h4
  · have HE2 := hide (show ev g l (.un op x) = (wrap64 (-v1), 0) by rw [HE.out]; simp [hf1, h3])
    subst h3
    clear hf1
    go_wp2
    go_ret2
    exact Two.mk' HE2.out hf
  · have HE2 := hide (show ev g l (.un op x) = (truth (v1 == 0), 0) by rw [HE.out]; simp [hf1, h4])
    subst h4
    clear hf1
    go_wp2_with ((go_at_call 59; refine (valTruth_any _ _).mono ?_; rintro e w' ⟨rfl, rfl⟩))
    go_ret2
    exact Two.mk' HE2.out hf

set_option maxHeartbeats 400000 in
theorem single_var (e : VE) (k : Int) (he : e = .loc k ∨ e = .glo k) : SingleSaid e := by
  intro w G L ng nl cg cl g l c0 c1 c2 c3 h
  have hbW2 := alloc2 (w := w) (.cells #[.slice G ng cg, .slice L nl cl] 77) (.cells #[c0, c1, c2, c3] 50)
  have hgs := h.gs.onF hbW2 hbW2.size
  have hls := h.ls.onF hbW2 hbW2.size
  clear hbW2
  have hok := h.ok
  rcases he with rfl | rfl
  all_goals
    obtain ⟨nm, A, c, hcs⟩ := h.rep
    injection hcs with h0 hcs
    injection hcs with h1 hcs
    injection hcs with h2 hcs
    injection hcs with h3 hcs
    subst h0 h1 h2 h3
    clear h hcs
    obtain ⟨hk0, hk1⟩ := hok
    go_enter Try.func56, Try.ntmps56
    go_wp2_with (fail)
    first
    | refine (element_any L nl cl l k _ hls hk0 hk1).mono ?_
    | refine (element_any G ng cg g k _ hgs hk0 hk1).mono ?_
    rintro e w' ⟨rfl, rfl⟩
    go_wp2
    go_ret2
    exact Two.mk' rfl (alloc2 _ _)

set_option maxHeartbeats 1600000 in
theorem binary_bin (op : Int) (x y : VE) (IHx : EvalSaid x) (IHy : EvalSaid y) : BinarySaid (.bin op x y) := by
  intro w G L ng nl cg cl g l c0 c1 c2 c3 h
  obtain ⟨n, nm, b, o, c, x0, x1, x2, x3, y0, y1, y2, y3, hcs, hb, hx, hy, e0, e1, e2, e3, e4, e5, e6, e7⟩ := h.rep
  injection hcs with h0 hcs
  injection hcs with h1 hcs
  injection hcs with h2 hcs
  injection hcs with h3 hcs
  subst h0 h1 h2 h3
  clear hcs
  have hop := h.ok.1
  have hin : EvIn w G L ng nl g l x [x0, x1, x2, x3] := ⟨h.gs, h.ls, h.ok.2.1, hx⟩
  have hin2 : EvIn w G L ng nl g l y [y0, y1, y2, y3] := ⟨h.gs, h.ls, h.ok.2.2, hy⟩
  have HI := hide IHx
  have HJ := hide IHy
  clear h hx hy IHx IHy
  go_enter Try.func57, Try.ntmps57
  go_wp2
  have hbW := alloc2 (w := w) (.cells #[.slice G ng cg, .slice L nl cl] 77) (.cells #[.int .i64 op, .int .i64 n, .string nm, .slice (some ⟨b, o, none⟩) 2 c] 50)
  have a0 : ((w.alloc (.cells #[.slice G ng cg, .slice L nl cl] 77)).alloc (.cells #[.int .i64 op, .int .i64 n, .string nm, .slice (some ⟨b, o, none⟩) 2 c] 50)).cell? ⟨w.heap.size, 0, none⟩ = some (.slice G ng cg) := by simp [go_sem]
  have a1 : ((w.alloc (.cells #[.slice G ng cg, .slice L nl cl] 77)).alloc (.cells #[.int .i64 op, .int .i64 n, .string nm, .slice (some ⟨b, o, none⟩) 2 c] 50)).cell? ⟨w.heap.size, 1, none⟩ = some (.slice L nl cl) := by simp [go_sem]
  have b0 : ((w.alloc (.cells #[.slice G ng cg, .slice L nl cl] 77)).alloc (.cells #[.int .i64 op, .int .i64 n, .string nm, .slice (some ⟨b, o, none⟩) 2 c] 50)).cell? ⟨w.heap.size + 1, 0, none⟩ = some (.int .i64 op) := by simp [go_sem]
  have b3 : ((w.alloc (.cells #[.slice G ng cg, .slice L nl cl] 77)).alloc (.cells #[.int .i64 op, .int .i64 n, .string nm, .slice (some ⟨b, o, none⟩) 2 c] 50)).cell? ⟨w.heap.size + 1, 3, none⟩ = some (.slice (some ⟨b, o, none⟩) 2 c) := by simp [go_sem]
  have hs2 : ((w.alloc (.cells #[.slice G ng cg, .slice L nl cl] 77)).alloc (.cells #[.int .i64 op, .int .i64 n, .string nm, .slice (some ⟨b, o, none⟩) 2 c] 50)).heap.size = w.heap.size + 2 := by simp
  generalize (w.alloc (.cells #[.slice G ng cg, .slice L nl cl] 77)).alloc (.cells #[.int .i64 op, .int .i64 n, .string nm, .slice (some ⟨b, o, none⟩) 2 c] 50) = W at *
  have hW := hin.on hbW
  have hW2 := hin2.on hbW
  have d0 := (hbW.cell (p := ⟨b, o, none⟩) hb).trans e0
  have d1 := (hbW.cell (p := ⟨b, o + 1, none⟩) hb).trans e1
  have d2 := (hbW.cell (p := ⟨b, o + 2, none⟩) hb).trans e2
  have d3 := (hbW.cell (p := ⟨b, o + 3, none⟩) hb).trans e3
  have d4 := (hbW.cell (p := ⟨b, o + 4, none⟩) hb).trans e4
  have d5 := (hbW.cell (p := ⟨b, o + 5, none⟩) hb).trans e5
  have d6 := (hbW.cell (p := ⟨b, o + 6, none⟩) hb).trans e6
  have d7 := (hbW.cell (p := ⟨b, o + 7, none⟩) hb).trans e7
  have HS2 := hide hs2
  clear hin hin2 e0 e1 e2 e3 e4 e5 e6 e7 hs2
  have keep : ∀ V : World, Below W.heap.size W V → V.cell? ⟨w.heap.size, 0, none⟩ = some (.slice G ng cg) ∧ V.cell? ⟨w.heap.size, 1, none⟩ = some (.slice L nl cl) ∧ V.cell? ⟨w.heap.size + 1, 0, none⟩ = some (.int .i64 op) ∧ V.cell? ⟨w.heap.size + 1, 3, none⟩ = some (.slice (some ⟨b, o, none⟩) 2 c) ∧ V.cell? ⟨b, o, none⟩ = some x0 ∧ V.cell? ⟨b, o + 1, none⟩ = some x1 ∧ V.cell? ⟨b, o + 2, none⟩ = some x2 ∧ V.cell? ⟨b, o + 3, none⟩ = some x3 ∧ V.cell? ⟨b, o + 4, none⟩ = some y0 ∧ V.cell? ⟨b, o + 5, none⟩ = some y1 ∧ V.cell? ⟨b, o + 6, none⟩ = some y2 ∧ V.cell? ⟨b, o + 7, none⟩ = some y3 := fun V hV => by
    have hsz := HS2.out
    have hbb : b < W.heap.size := by have := hb; omega
    exact ⟨(hV.cell (p := ⟨w.heap.size, 0, none⟩) (by simp only []; omega)).trans a0, (hV.cell (p := ⟨w.heap.size, 1, none⟩) (by simp only []; omega)).trans a1, (hV.cell (p := ⟨w.heap.size + 1, 0, none⟩) (by simp only []; omega)).trans b0, (hV.cell (p := ⟨w.heap.size + 1, 3, none⟩) (by simp only []; omega)).trans b3, (hV.cell (p := ⟨b, o, none⟩) hbb).trans d0, (hV.cell (p := ⟨b, o + 1, none⟩) hbb).trans d1, (hV.cell (p := ⟨b, o + 2, none⟩) hbb).trans d2, (hV.cell (p := ⟨b, o + 3, none⟩) hbb).trans d3, (hV.cell (p := ⟨b, o + 4, none⟩) hbb).trans d4, (hV.cell (p := ⟨b, o + 5, none⟩) hbb).trans d5, (hV.cell (p := ⟨b, o + 6, none⟩) hbb).trans d6, (hV.cell (p := ⟨b, o + 7, none⟩) hbb).trans d7⟩
  have HK := hide keep
  clear keep a0 a1 b0 b3 d0 d1 d2 d3 d4 d5 d6 d7
  go_region_held3 (fun V => V.cell? ⟨w.heap.size, 0, none⟩ = some (.slice G ng cg) ∧ V.cell? ⟨w.heap.size, 1, none⟩ = some (.slice L nl cl) ∧ V.cell? ⟨w.heap.size + 1, 0, none⟩ = some (.int .i64 op) ∧ V.cell? ⟨w.heap.size + 1, 3, none⟩ = some (.slice (some ⟨b, o, none⟩) 2 c) ∧ V.cell? ⟨b, o, none⟩ = some x0 ∧ V.cell? ⟨b, o + 1, none⟩ = some x1 ∧ V.cell? ⟨b, o + 2, none⟩ = some x2 ∧ V.cell? ⟨b, o + 3, none⟩ = some x3 ∧ V.cell? ⟨b, o + 4, none⟩ = some y0 ∧ V.cell? ⟨b, o + 5, none⟩ = some y1 ∧ V.cell? ⟨b, o + 6, none⟩ = some y2 ∧ V.cell? ⟨b, o + 7, none⟩ = some y3)
    (first | exact HK.out _ (Below.refl _ _) | exact HK.out _ (Below.refl _ _).drew | exact HK.out _ hb2 | exact HK.out _ hb2 | exact HK.out _ hb2.drew)
    (first | (go_at_call 52; refine (HI.out _ G L ng nl cg cl g l x0 x1 x2 x3 ?_).mono ?_; (exact hW.on (Below.refl _ _).drew); rintro r w2 ⟨rfl, hb2'⟩; have hb2 : Below W.heap.size W w2 := (Below.refl W.heap.size W).drew.trans (hb2'.mono (Nat.le_refl _)); clear hb2'))
  have hf := (hbW.trans (hb2.mono hbW.size))
  have HE := hide (show ev g l (.bin op x y) = if (ev g l x).2 ≠ 0 then (0, (ev g l x).2) else if op = 16 ∧ (ev g l x).1 = 0 then (0, 0) else if op = 17 ∧ (ev g l x).1 ≠ 0 then (1, 0) else if (ev g l y).2 ≠ 0 then (0, (ev g l y).2) else if op = 16 ∨ op = 17 then (truth ((ev g l y).1 != 0), 0) else arith op (ev g l x).1 (ev g l y).1 from rfl)
  generalize ev g l x = r1 at *
  obtain ⟨v1, f1⟩ := r1
  clear HI hW
  by_cases hf1 : f1 = 0
  case neg =>
    have q1 : (f1 != 0) = true := by simpa using hf1
    have HE2 := hide (show ev g l (.bin op x y) = (0, f1) by rw [HE.out]; simp [hf1])
    clear hf1
    go_wp2
    go_ret2
    exact Two.mk' HE2.out hf
  have q1 : (f1 != 0) = false := by simpa using hf1
  have HF1 := hide hf1
  clear hf1
  by_cases ha : op = 16 ∧ v1 = 0
  · obtain ⟨rfl, rfl⟩ := ha
    have HE2 := hide (show ev g l (.bin 16 x y) = (0, 0) by rw [HE.out]; simp [HF1.out])
    go_wp2
    go_ret2
    exact Two.mk' HE2.out hf
  by_cases ho : op = 17 ∧ v1 ≠ 0
  · obtain ⟨rfl, hv⟩ := ho
    have q2 : (v1 != 0) = true := by simpa using hv
    have HE2 := hide (show ev g l (.bin 17 x y) = (1, 0) by rw [HE.out]; simp [HF1.out, hv])
    clear hv
    go_wp2
    go_ret2
    exact Two.mk' HE2.out hf
  have HE3 := hide (show ev g l (.bin op x y) = if (ev g l y).2 ≠ 0 then (0, (ev g l y).2) else if op = 16 ∨ op = 17 then (truth ((ev g l y).1 != 0), 0) else arith op v1 (ev g l y).1 by rw [HE.out]; simp only [HF1.out, ne_eq, not_true_eq_false, if_false]; rw [if_neg ha, if_neg ho])
  have HA := hide ha
  have HO := hide ho
  clear HE
  have split : (op == 16) = true ∧ (v1 == 0) = false ∧ (op == 17) = false ∨ (op == 16) = false ∧ (op == 17) = true ∧ (v1 != 0) = false ∨ (op == 16) = false ∧ (op == 17) = false := by
    by_cases h1 : op = 16
    · refine .inl ⟨by simpa using h1, ?_, by simp; omega⟩
      have : v1 ≠ 0 := fun hh => ha ⟨h1, hh⟩
      simpa using this
    · by_cases h2 : op = 17
      · refine .inr (.inl ⟨by simpa using h1, by simpa using h2, ?_⟩)
        by_cases hv : v1 = 0
        · simpa using hv
        · exact absurd ⟨h2, hv⟩ ho
      · exact .inr (.inr ⟨by simpa using h1, by simpa using h2⟩)
  clear ha ho
  have HS := hide split
  clear split
  rcases HS.out with ⟨z1, z2, z3⟩ | ⟨z1, z2, z3⟩ | ⟨z1, z2⟩
  all_goals
    go_wp2
    go_region_held3 (fun V => V.cell? ⟨w.heap.size, 0, none⟩ = some (.slice G ng cg) ∧ V.cell? ⟨w.heap.size, 1, none⟩ = some (.slice L nl cl) ∧ V.cell? ⟨w.heap.size + 1, 0, none⟩ = some (.int .i64 op) ∧ V.cell? ⟨w.heap.size + 1, 3, none⟩ = some (.slice (some ⟨b, o, none⟩) 2 c) ∧ V.cell? ⟨b, o, none⟩ = some x0 ∧ V.cell? ⟨b, o + 1, none⟩ = some x1 ∧ V.cell? ⟨b, o + 2, none⟩ = some x2 ∧ V.cell? ⟨b, o + 3, none⟩ = some x3 ∧ V.cell? ⟨b, o + 4, none⟩ = some y0 ∧ V.cell? ⟨b, o + 5, none⟩ = some y1 ∧ V.cell? ⟨b, o + 6, none⟩ = some y2 ∧ V.cell? ⟨b, o + 7, none⟩ = some y3)
      (first | exact HK.out _ (Below.refl _ _) | exact HK.out _ (Below.refl _ _).drew | exact HK.out _ hb3 | exact HK.out _ hb2 | exact HK.out _ hb2.drew)
      (first | (go_at_call 52; refine (HJ.out _ G L ng nl cg cl g l y0 y1 y2 y3 ?_).mono ?_; (exact (hW2.on hb2).on (Below.refl _ _).drew); rintro r w3 ⟨rfl, hb2'⟩; have hb3 : Below W.heap.size W w3 := hb2.drew.trans (hb2'.mono hb2.size); clear hb2'))
    have hf := (hbW.trans (hb3.mono hbW.size))
    generalize ev g l y = r2 at *
    obtain ⟨v2, f2⟩ := r2
    by_cases hf2 : f2 = 0
    case neg =>
      have q3 : (f2 != 0) = true := by simpa using hf2
      have HE4 := hide (show ev g l (.bin op x y) = (0, f2) by rw [HE3.out]; simp [hf2])
      clear hf2
      go_wp2
      go_ret2
      exact Two.mk' HE4.out hf
    have q3 : (f2 != 0) = false := by simpa using hf2
    have HE4 := hide (show ev g l (.bin op x y) = if op = 16 ∨ op = 17 then (truth (v2 != 0), 0) else arith op v1 v2 by rw [HE3.out]; simp [hf2])
    clear hf2 HE3
    first
    | (have HE5 := hide (show ev g l (.bin op x y) = (truth (v2 != 0), 0) by rw [HE4.out, if_pos (by first | exact .inl (by simpa using z1) | exact .inr (by simpa using z2))])
       go_wp2_with ((go_at_call 59; refine (valTruth_any _ _).mono ?_; rintro e w' ⟨rfl, rfl⟩))
       go_ret2
       exact Two.mk' HE5.out hf)
    | (have hne : op ≠ 16 ∧ op ≠ 17 := ⟨by simpa using z1, by simpa using z2⟩
       have HE5 := hide (show ev g l (.bin op x y) = arith op v1 v2 by rw [HE4.out, if_neg (by omega)])
       go_wp2_with (fail)
       refine (arithmetic_any op v1 v2 (by omega) _).mono ?_
       rintro e w4 ⟨rfl, hb4⟩
       go_wp2
       go_ret2
       exact Two.mk' (by rw [HE5.out]) (hf.trans (hb4.mono hf.size)))


/-- evaluation of fewer operands than two -/
theorem eval_one (e : VE) (S : SingleSaid e) (hl : ∀ w cs, e.at_ w cs → ∃ op n nm A k c, cs = [.int .i64 op, .int .i64 n, .string nm, .slice A k c] ∧ k ≤ 1) : EvalSaid e := by
  intro w G L ng nl cg cl g l c0 c1 c2 c3 h
  obtain ⟨op, n, nm, A, k, c, hcs, hk⟩ := hl _ _ h.rep
  injection hcs with h0 hcs
  injection hcs with h1 hcs
  injection hcs with h2 hcs
  injection hcs with h3 hcs
  subst h0 h1 h2 h3
  clear hcs
  have HS := hide S
  clear S hl
  have q : ((k : Int) == 2) = false := by simp; omega
  have q' : (k == 2) = false := by simp; omega
  clear hk
  go_enter Try.func52, Try.ntmps52
  go_wp2_with (fail)
  have hbW := alloc2 (w := w) (.cells #[.slice G ng cg, .slice L nl cl] 77) (.cells #[.int .i64 op, .int .i64 n, .string nm, .slice A k c] 50)
  have hin := h.on hbW
  clear h
  refine (HS.out _ G L ng nl cg cl g l _ _ _ _ hin).mono ?_
  rintro r w' ⟨rfl, hb⟩
  go_wp2
  go_ret2
  exact Two.mk' rfl (hbW.trans (hb.mono hbW.size))
theorem eval_two (op : Int) (x y : VE) (S : BinarySaid (.bin op x y)) : EvalSaid (.bin op x y) := by
  intro w G L ng nl cg cl g l c0 c1 c2 c3 h
  obtain ⟨n, nm, b, o, c, x0, x1, x2, x3, y0, y1, y2, y3, hcs, _⟩ := h.rep
  injection hcs with h0 hcs
  injection hcs with h1 hcs
  injection hcs with h2 hcs
  injection hcs with h3 hcs
  subst h0 h1 h2 h3
  clear hcs
  have HS := hide S
  clear S
  go_enter Try.func52, Try.ntmps52
  go_wp2_with (fail)
  have hbW := alloc2 (w := w) (.cells #[.slice G ng cg, .slice L nl cl] 77) (.cells #[.int .i64 op, .int .i64 n, .string nm, .slice (some ⟨b, o, none⟩) 2 c] 50)
  have hin := h.on hbW
  clear h
  refine (HS.out _ G L ng nl cg cl g l _ _ _ _ hin).mono ?_
  rintro r w' ⟨rfl, hb⟩
  go_wp2
  go_ret2
  exact Two.mk' rfl (hbW.trans (hb.mono hbW.size))

/-- the program's evaluation computes 'ev' -/
theorem eval_of : ∀ e : VE, EvalSaid e
  | .num n => eval_one _ (single_num n) (fun w cs h => by obtain ⟨nm, A, c, rfl⟩ := h; exact ⟨_, _, _, _, _, _, rfl, by omega⟩)
  | .nam s => fun w G L ng nl cg cl g l c0 c1 c2 c3 h => h.ok.elim
  | .loc k => eval_one _ (single_var _ k (.inl rfl)) (fun w cs h => by obtain ⟨nm, A, c, rfl⟩ := h; exact ⟨_, _, _, _, _, _, rfl, by omega⟩)
  | .glo k => eval_one _ (single_var _ k (.inr rfl)) (fun w cs h => by obtain ⟨nm, A, c, rfl⟩ := h; exact ⟨_, _, _, _, _, _, rfl, by omega⟩)
  | .un op x => eval_one _ (single_un op x (eval_of x)) (fun w cs h => by obtain ⟨n, nm, b, o, c, x0, x1, x2, x3, rfl, _⟩ := h; exact ⟨_, _, _, _, _, _, rfl, by omega⟩)
  | .bin op x y => eval_two op x y (binary_bin op x y (eval_of x) (eval_of y))

/-- the program's own entry -/
theorem Eval_any (e : VE) (w : World) (G L : Option Addr) (ng nl cg cl : Nat) (g l : List Int) (c0 c1 c2 c3 : Value) (h : EvIn w G L ng nl g l e [c0, c1, c2, c3]) :
    Calls Try.prog 40 #[.agg #[c0, c1, c2, c3], .slice G ng cg, .slice L nl cl] w (Two w (ev g l e)) := by
  have HE := hide (eval_of e)
  go_enter Try.func40, Try.ntmps40
  go_wp2_with (fail)
  have hbW := (Below.refl w.heap.size w).alloc (Nat.le_refl _) (.cells #[c0, c1, c2, c3] 50)
  have hin := h.on hbW
  clear h
  refine (HE.out _ G L ng nl cg cl g l _ _ _ _ hin).mono ?_
  rintro r w' ⟨rfl, hb⟩
  go_wp2
  go_ret2
  exact Two.mk' rfl (hbW.trans (hb.mono hbW.size))
end Go.Proofs.Ytbbjncjkddekfaa

/- The expressions that the laws make: numbers, two of them, and the sanity check of the laws. -/
import Derived.Test.YtbbjncjkddekfaaValB
import Derived.Handy
import Derived.IntWalk
namespace Go.Proofs.Ytbbjncjkddekfaa
open Go.RowKit

/-- an expression handed back, that reads as x, its operands in new blocks -/
def ERes (w : World) (x : VE) (e : Ending) (w' : World) : Prop := ∃ c0 c1 c2 c3, e = .returned (.agg #[c0, c1, c2, c3]) ∧ x.rep w' (fun b => w.heap.size ≤ b ∧ b < w'.heap.size) [c0, c1, c2, c3] ∧ Below w.heap.size w w'
theorem ERes.mk' {w w' : World} {x y : VE} {c0 c1 c2 c3 : Value} (hx : x = y) (h : y.rep w' (fun b => w.heap.size ≤ b ∧ b < w'.heap.size) [c0, c1, c2, c3]) (hb : Below w.heap.size w w') : ERes w x (.returned (.agg #[c0, c1, c2, c3])) w' := by
  subst hx
  exact ⟨_, _, _, _, rfl, h, hb⟩
/-- blocks of the new ones of a call, from an elder one's view and in a world that goes on -/
theorem VE.new_on {w w1 w' : World} {e : VE} {cs : List Value} {B : Nat} (h : e.rep w1 (fun b => w.heap.size ≤ b ∧ b < w1.heap.size) cs) (hk : ∀ b, w.heap.size ≤ b → b < w1.heap.size → w'.heap[b]? = w1.heap[b]?) (hB : B ≤ w.heap.size) (hs : w1.heap.size ≤ w'.heap.size) :
    e.rep w' (fun b => B ≤ b ∧ b < w'.heap.size) cs :=
  VE.rep_mono (fun _ hlt => ⟨Nat.le_trans hB hlt.1, Nat.lt_of_lt_of_le hlt.2 hs⟩) _ _ (VE.rep_keep (fun b hlt => hk b hlt.1 hlt.2) _ _ h)

/-- four cells of one block stored -/
abbrev fill4 (W : World) (g : Nat) (v0 v1 v2 v3 : Value) : World := (((W.setCell ⟨g, 0, none⟩ v0).setCell ⟨g, 1, none⟩ v1).setCell ⟨g, 2, none⟩ v2).setCell ⟨g, 3, none⟩ v3
theorem fill4_block (W : World) (g : Nat) (v0 v1 v2 v3 : Value) (b : Nat) (h : b ≠ g) : (fill4 W g v0 v1 v2 v3).heap[b]? = W.heap[b]? := by
  rw [fill4, Below.heap_setCell _ _ _ _ h, Below.heap_setCell _ _ _ _ h, Below.heap_setCell _ _ _ _ h, Below.heap_setCell _ _ _ _ h]
theorem fill4_below {B : Nat} {a W : World} (h : Below B a W) (g : Nat) (v0 v1 v2 v3 : Value) (hg : B ≤ g) : Below B a (fill4 W g v0 v1 v2 v3) :=
  (((h.setCell hg _).setCell hg _).setCell hg _).setCell hg _
theorem fill4_size (W : World) (g : Nat) (v0 v1 v2 v3 : Value) : (fill4 W g v0 v1 v2 v3).heap.size = W.heap.size := by simp
theorem new4 {w w2 : World} {v0 v1 v2 v3 : Value} {t : TypeId} {B : Nat} (hb : Below B (w.alloc (.cells #[v0, v1, v2, v3] t)) w2) (hB : w.heap.size < B) : w.heap.size < w2.heap.size ∧
    (w2.cell? ⟨w.heap.size, 0, none⟩ = some v0 ∧ w2.cell? ⟨w.heap.size, 1, none⟩ = some v1 ∧ w2.cell? ⟨w.heap.size, 2, none⟩ = some v2 ∧ w2.cell? ⟨w.heap.size, 3, none⟩ = some v3) ∧
    w2.frozen? ⟨w.heap.size, 0, none⟩ = false ∧ w2.frozen? ⟨w.heap.size, 1, none⟩ = false ∧ w2.frozen? ⟨w.heap.size, 2, none⟩ = false ∧ w2.frozen? ⟨w.heap.size, 3, none⟩ = false := by
  refine ⟨?_, ⟨?_, ?_, ?_, ?_⟩, ?_, ?_, ?_, ?_⟩
  · have := hb.size
    simp at this
    omega
  all_goals first | rw [hb.cell (by exact hB)] | rw [hb.frozen (by exact hB)]
  all_goals simp [go_sem]

theorem fill4_cells {w2 : World} {g : Nat} {u0 u1 u2 u3 : Value} (g0 : w2.cell? ⟨g, 0, none⟩ = some u0) (g1 : w2.cell? ⟨g, 1, none⟩ = some u1) (g2 : w2.cell? ⟨g, 2, none⟩ = some u2) (g3 : w2.cell? ⟨g, 3, none⟩ = some u3) (v0 v1 v2 v3 : Value) :
    (fill4 w2 g v0 v1 v2 v3).cell? ⟨g, 0, none⟩ = some v0 ∧ (fill4 w2 g v0 v1 v2 v3).cell? ⟨g, 1, none⟩ = some v1 ∧ (fill4 w2 g v0 v1 v2 v3).cell? ⟨g, 2, none⟩ = some v2 ∧ (fill4 w2 g v0 v1 v2 v3).cell? ⟨g, 3, none⟩ = some v3 := by
  simp [go_sem, g0, g1, g2, g3]
theorem fillAlloc {w2 : World} {g : Nat} (hlt : g < w2.heap.size) {u0 u1 u2 u3 : Value} (g0 : w2.cell? ⟨g, 0, none⟩ = some u0) (g1 : w2.cell? ⟨g, 1, none⟩ = some u1) (g2 : w2.cell? ⟨g, 2, none⟩ = some u2) (g3 : w2.cell? ⟨g, 3, none⟩ = some u3) (v0 v1 v2 v3 : Value) (cs : Array Value) (t : TypeId) :
    (((fill4 w2 g v0 v1 v2 v3).alloc (.cells cs t)).cell? ⟨g, 0, none⟩ = some v0 ∧ ((fill4 w2 g v0 v1 v2 v3).alloc (.cells cs t)).cell? ⟨g, 1, none⟩ = some v1 ∧ ((fill4 w2 g v0 v1 v2 v3).alloc (.cells cs t)).cell? ⟨g, 2, none⟩ = some v2 ∧ ((fill4 w2 g v0 v1 v2 v3).alloc (.cells cs t)).cell? ⟨g, 3, none⟩ = some v3) ∧
    (∀ b, b ≠ g → b < w2.heap.size → ((fill4 w2 g v0 v1 v2 v3).alloc (.cells cs t)).heap[b]? = w2.heap[b]?) ∧
    (∀ j (h : j < cs.size), ((fill4 w2 g v0 v1 v2 v3).alloc (.cells cs t)).cell? ⟨w2.heap.size, j, none⟩ = some cs[j]) ∧
    ((fill4 w2 g v0 v1 v2 v3).alloc (.cells cs t)).heap.size = w2.heap.size + 1 ∧
    ∀ w : World, Below g w w2 → Below g w ((fill4 w2 g v0 v1 v2 v3).alloc (.cells cs t)) := by
  have hs := fill4_size w2 g v0 v1 v2 v3
  obtain ⟨e0, e1, e2, e3⟩ := fill4_cells g0 g1 g2 g3 v0 v1 v2 v3
  refine ⟨⟨?_, ?_, ?_, ?_⟩, fun b hb hl => ?_, fun j h => ?_, by simp, fun w hw => (fill4_below hw g _ _ _ _ (Nat.le_refl _)).alloc (by rw [hs]; omega) _⟩
  · rw [World.cell?_of_block (Below.heap_alloc _ _ _ (by rw [hs]; exact hlt)), e0]
  · rw [World.cell?_of_block (Below.heap_alloc _ _ _ (by rw [hs]; exact hlt)), e1]
  · rw [World.cell?_of_block (Below.heap_alloc _ _ _ (by rw [hs]; exact hlt)), e2]
  · rw [World.cell?_of_block (Below.heap_alloc _ _ _ (by rw [hs]; exact hlt)), e3]
  · rw [Below.heap_alloc _ _ _ (by rw [hs]; exact hl), fill4_block _ _ _ _ _ _ _ hb]
  · rw [← hs, World.cell?_alloc_at]
    · exact Array.getElem?_eq_getElem h
    · rfl

def numE (n : Int) : VE := if 0 ≤ n then .num n else .bin 9 (.un 3 (.num (wrap64 (-(wrap64 (n + 1)))))) (.num 1)
def twoE (op a b : Int) : VE := .bin op (numE a) (numE b)

theorem number_any (n : Int) (w : World) : Calls Try.prog 44 #[.int .i64 n] w (ERes w (numE n)) := by
  by_cases h : 0 ≤ n
  · have q : decide (n ≥ 0) = true := by simpa using h
    have HE := hide (show numE n = .num n from if_pos h)
    clear h
    go_enter Try.func44, Try.ntmps44
    go_wp2
    go_returns
    exact ERes.mk' HE.out ⟨_, _, _, rfl⟩ (by go_grown)
  · have q : decide (n ≥ 0) = false := by simpa using h
    have HE := hide (show numE n = .bin 9 (.un 3 (.num (wrap64 (-(wrap64 (n + 1)))))) (.num 1) from if_neg h)
    clear h
    go_enter Try.func44, Try.ntmps44
    go_wp2
    go_returns
    refine ERes.mk' HE.out ⟨_, _, w.heap.size + 1 + 1, 0, _, .int .i64 3, .int .i64 0, .string ⟨#[]⟩, .slice (some ⟨w.heap.size + 1, 0, none⟩) 1 1, .int .i64 1, .int .i64 1, .string ⟨#[]⟩, .slice none 0 0, rfl, ?_, ⟨_, _, w.heap.size + 1, 0, _, .int .i64 1, .int .i64 (wrap64 (-(wrap64 (n + 1)))), .string ⟨#[]⟩, .slice none 0 0, rfl, ?_, ⟨_, _, _, rfl⟩, ?_, ?_, ?_, ?_⟩, ⟨_, _, _, rfl⟩, ?_, ?_, ?_, ?_, ?_, ?_, ?_, ?_⟩ (by go_grown)
    all_goals simp [go_sem]
    all_goals omega

theorem two_any (op a b : Int) (w : World) : Calls Try.prog 43 #[.int .i64 op, .int .i64 a, .int .i64 b] w (ERes w (twoE op a b)) := by
  go_enter Try.func43, Try.ntmps43
  go_wp2_with (fail)
  refine (number_any a _).mono ?_
  rintro e w1 ⟨c0, c1, c2, c3, rfl, h1, hb1⟩
  go_wp2_with (fail)
  refine (number_any b _).mono ?_
  rintro e w2 ⟨d0, d1, d2, d3, rfl, h2, hb2⟩
  obtain ⟨hlt, ⟨g0, g1, g2, g3⟩, q0, q1, q2, q3⟩ := new4 (hb1.trans (hb2.mono hb1.size)) (by simp)
  have hlt1 : w.heap.size < w1.heap.size := (new4 hb1 (by simp)).1
  have hb0 : Below w.heap.size w w2 := (((Below.refl _ _).alloc (Nat.le_refl _) _).trans (hb1.mono (by simp))).trans (hb2.mono (by omega))
  have HF := hide (And.intro h1 (And.intro h2 (And.intro hb1 (And.intro hb2 hb0))))
  have HL := hide hlt1
  clear h1 h2 hb1 hb2 hb0 hlt1
  go_wp2
  obtain ⟨⟨e0, e1, e2, e3⟩, FB, FN, FS, FW⟩ := fillAlloc hlt g0 g1 g2 g3 (.int .i64 op) (.int .i64 0) (.string ⟨#[]⟩) (.slice (some ⟨w2.heap.size, 0, none⟩) 2 2) #[c0, c1, c2, c3, d0, d1, d2, d3] 50
  have HB := hide (And.intro FB (And.intro FN (And.intro FS FW)))
  clear FB FN FS FW
  generalize (fill4 w2 w.heap.size (.int .i64 op) (.int .i64 0) (.string ⟨#[]⟩) (.slice (some ⟨w2.heap.size, 0, none⟩) 2 2)).alloc (.cells #[c0, c1, c2, c3, d0, d1, d2, d3] 50) = V at *
  refine bodyPost_ret (v := .agg #[.int .i64 op, .int .i64 0, .string ⟨#[]⟩, .slice (some ⟨w2.heap.size, 0, none⟩) 2 2]) (by simp [results, Try.results43, go_sem, e0, e1, e2, e3]) rfl ?_
  obtain ⟨h1, h2, hb1, hb2, hb0⟩ := HF.out
  obtain ⟨FB, FN, FS, FW⟩ := HB.out
  have hlt1 := HL.out
  have hsz : (w.alloc (.cells #[.int .i64 0, .int .i64 0, .string ⟨#[]⟩, .slice none 0 0] 50)).heap.size = w.heap.size + 1 := by simp
  have hs12 := hb2.size
  have hs01 := hb1.size
  rw [hsz] at hs01
  refine ERes.mk' (y := .bin op (numE a) (numE b)) rfl ⟨_, _, w2.heap.size, 0, _, c0, c1, c2, c3, d0, d1, d2, d3, rfl, by omega, ?_, ?_, FN 0 (by simp), FN 1 (by simp), FN 2 (by simp), FN 3 (by simp), FN 4 (by simp), FN 5 (by simp), FN 6 (by simp), FN 7 (by simp)⟩ (FW _ hb0)
  · refine VE.new_on h1 (fun b l1 l2 => (FB b (by omega) (by omega)).trans (hb2.block b l2)) (by omega) (by omega)
  · refine VE.new_on h2 (fun b l1 l2 => FB b (by omega) l2) (by omega) (by omega)

theorem numE_ok (n : Int) (ng nl : Nat) : (numE n).ok ng nl := by
  unfold numE
  split
  · trivial
  · exact ⟨by decide, ⟨by decide, trivial⟩, trivial⟩
theorem twoE_ok (op a b : Int) (h : 5 ≤ op ∧ op ≤ 17) (ng nl : Nat) : (twoE op a b).ok ng nl := ⟨h, numE_ok _ _ _, numE_ok _ _ _⟩
theorem EvIn.new {w' : World} {x : VE} {cs : List Value} {B : Nat} (h : x.rep w' (fun b => B ≤ b ∧ b < w'.heap.size) cs) (hok : x.ok 0 0) : EvIn w' none none 0 0 [] [] x cs :=
  ⟨SlR.nil_ _, SlR.nil_ _, hok, VE.rep_mono (fun _ h => h.2) _ _ h⟩

/-- a number's value is the number -/
theorem ev_num (g l : List Int) (n : Int) (h : -9223372036854775808 ≤ n ∧ n ≤ 9223372036854775807) : ev g l (numE n) = (n, 0) := by
  unfold numE
  split
  · rfl
  · have e1 : wrap64 (n + 1) = n + 1 := IntWalk.wrap64_in _ (by omega)
    have e2 : wrap64 (-(n + 1)) = -(n + 1) := IntWalk.wrap64_in _ (by omega)
    have e4 : wrap64 n = n := IntWalk.wrap64_in _ (by omega)
    simp [ev, e1, e2, e4, arith]

set_option maxHeartbeats 1600000 in
theorem awake_any (w : World) : Calls Try.prog 42 #[] w fun e w' => e = .returned (.bool true) ∧ Below w.heap.size w w' := by
  go_enter Try.func42, Try.ntmps42
  go_wp2_with (fail)
  refine (two_any _ _ _ _).mono ?_
  rintro e w1 ⟨c0, c1, c2, c3, rfl, h1, hb1⟩
  have hb := hb1
  clear hb1
  go_wp2_with (fail)
  refine (Eval_any _ _ none none 0 0 0 0 [] [] _ _ _ _ (EvIn.new h1 (twoE_ok _ _ _ (by decide) _ _))).mono ?_
  rintro e v1 ⟨rfl, hb1⟩
  replace hb := hb.trans (hb1.mono hb.size)
  clear h1 hb1
  rw [show ev [] [] (twoE 6 7 (-2)) = (-3, 0) by decide +kernel]
  go_wp2_with (fail)
  refine (two_any _ _ _ _).mono ?_
  rintro e w2 ⟨c0, c1, c2, c3, rfl, h1, hb2⟩
  replace hb := hb.trans (hb2.mono hb.size)
  clear hb2
  go_wp2_with (fail)
  refine (Eval_any _ _ none none 0 0 0 0 [] [] _ _ _ _ (EvIn.new h1 (twoE_ok _ _ _ (by decide) _ _))).mono ?_
  rintro e v2 ⟨rfl, hb2⟩
  replace hb := hb.trans (hb2.mono hb.size)
  clear h1 hb2
  rw [show ev [] [] (twoE 7 7 (-2)) = (1, 0) by decide +kernel]
  go_wp2_with (fail)
  refine (number_any _ _).mono ?_
  rintro e w3 ⟨c0, c1, c2, c3, rfl, h1, hb3⟩
  go_wp2_with (fail)
  refine (two_any _ _ _ _).mono ?_
  rintro e w4 ⟨d0, d1, d2, d3, rfl, h2, hb4⟩
  replace hb := (hb.trans (hb3.mono hb.size)).trans (hb4.mono (by have := hb.size; have := hb3.size; omega))
  have h1' : (numE 1).at_ w4 [c0, c1, c2, c3] := VE.at_on (VE.rep_mono (fun _ h => h.2) _ _ h1) hb4
  have h2' : (twoE 6 1 0).at_ w4 [d0, d1, d2, d3] := VE.rep_mono (fun _ h => h.2) _ _ h2
  clear h1 h2 hb3 hb4
  go_wp2_with (fail)
  have hb5 := (Below.refl w4.heap.size w4).alloc (Nat.le_refl _) (.cells #[c0, c1, c2, c3, d0, d1, d2, d3] 50)
  refine (Eval_any (.bin 17 (numE 1) (twoE 6 1 0)) _ none none 0 0 0 0 [] [] _ _ _ _ ⟨SlR.nil_ _, SlR.nil_ _, ⟨by decide, numE_ok _ _ _, twoE_ok _ _ _ (by decide) _ _⟩, ⟨_, _, w4.heap.size, 0, _, c0, c1, c2, c3, d0, d1, d2, d3, rfl, by simp, VE.at_on h1' hb5, VE.at_on h2' hb5, by simp [go_sem], by simp [go_sem], by simp [go_sem], by simp [go_sem], by simp [go_sem], by simp [go_sem], by simp [go_sem], by simp [go_sem]⟩⟩).mono ?_
  rintro e w5 ⟨rfl, hb6⟩
  replace hb := hb.trans ((hb5.trans (hb6.mono hb5.size)).mono hb.size)
  clear h1' h2' hb5 hb6
  rw [show ev [] [] (.bin 17 (numE 1) (twoE 6 1 0)) = (1, 0) by decide +kernel]
  go_wp2_with (fail)
  refine (two_any _ _ _ _).mono ?_
  rintro e w6 ⟨c0, c1, c2, c3, rfl, h1, hb6⟩
  replace hb := hb.trans (hb6.mono hb.size)
  clear hb6
  go_wp2_with (fail)
  refine (Eval_any _ _ none none 0 0 0 0 [] [] _ _ _ _ (EvIn.new h1 (twoE_ok _ _ _ (by decide) _ _))).mono ?_
  rintro e v6 ⟨rfl, hb6⟩
  replace hb := hb.trans (hb6.mono hb.size)
  clear h1 hb6
  rw [show ev [] [] (twoE 6 1 0) = (0, 1) by decide +kernel]
  go_wp2
  go_ret
  exact ⟨rfl, hb⟩
end Go.Proofs.Ytbbjncjkddekfaa

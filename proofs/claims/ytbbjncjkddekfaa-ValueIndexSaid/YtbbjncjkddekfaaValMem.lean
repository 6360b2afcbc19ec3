/- Expressions: a plain type for the valid ones, how they read in memory, and their value as a plain function. No condition. -/
import Derived.Test.YtbbjncjkddekfaaMem
namespace Go.Proofs.Ytbbjncjkddekfaa
open Go.RowKit

/-- the expressions that evaluation meets (resolved ones), and names, which are still to be resolved -/
inductive VE where
  | num (n : Int)
  | nam (s : ByteArray)
  | loc (k : Int)
  | glo (k : Int)
  | un (op : Int) (x : VE)
  | bin (op : Int) (x y : VE)

/-- The four cells of an expression, its operands in blocks of which P holds. -/
def VE.rep (w : World) (P : Nat → Prop) : VE → List Value → Prop
  | .num n => fun cs => ∃ nm A c, cs = [.int .i64 1, .int .i64 n, .string nm, .slice A 0 c]
  | .nam s => fun cs => ∃ n A c, cs = [.int .i64 2, .int .i64 n, .string s, .slice A 0 c]
  | .loc k => fun cs => ∃ nm A c, cs = [.int .i64 18, .int .i64 k, .string nm, .slice A 0 c]
  | .glo k => fun cs => ∃ nm A c, cs = [.int .i64 19, .int .i64 k, .string nm, .slice A 0 c]
  | .un op x => fun cs => ∃ n nm b o c x0 x1 x2 x3, cs = [.int .i64 op, .int .i64 n, .string nm, .slice (some ⟨b, o, none⟩) 1 c] ∧ P b ∧ x.rep w P [x0, x1, x2, x3] ∧
      w.cell? ⟨b, o, none⟩ = some x0 ∧ w.cell? ⟨b, o + 1, none⟩ = some x1 ∧ w.cell? ⟨b, o + 2, none⟩ = some x2 ∧ w.cell? ⟨b, o + 3, none⟩ = some x3
  | .bin op x y => fun cs => ∃ n nm b o c x0 x1 x2 x3 y0 y1 y2 y3, cs = [.int .i64 op, .int .i64 n, .string nm, .slice (some ⟨b, o, none⟩) 2 c] ∧ P b ∧ x.rep w P [x0, x1, x2, x3] ∧ y.rep w P [y0, y1, y2, y3] ∧
      w.cell? ⟨b, o, none⟩ = some x0 ∧ w.cell? ⟨b, o + 1, none⟩ = some x1 ∧ w.cell? ⟨b, o + 2, none⟩ = some x2 ∧ w.cell? ⟨b, o + 3, none⟩ = some x3 ∧
      w.cell? ⟨b, o + 4, none⟩ = some y0 ∧ w.cell? ⟨b, o + 5, none⟩ = some y1 ∧ w.cell? ⟨b, o + 6, none⟩ = some y2 ∧ w.cell? ⟨b, o + 7, none⟩ = some y3

theorem VE.rep_keep {w w' : World} {P : Nat → Prop} (hk : ∀ b, P b → w'.heap[b]? = w.heap[b]?) : ∀ (e : VE) (cs : List Value), e.rep w P cs → e.rep w' P cs
  | .num _, _, h => h
  | .nam _, _, h => h
  | .loc _, _, h => h
  | .glo _, _, h => h
  | .un op x, cs, h => by
    obtain ⟨n, nm, b, o, c, x0, x1, x2, x3, hcs, hb, hx, c0, c1, c2, c3⟩ := h
    have hc : ∀ j, w'.cell? ⟨b, j, none⟩ = w.cell? ⟨b, j, none⟩ := fun j => World.cell?_of_block (w := w) (hk b hb)
    exact ⟨n, nm, b, o, c, x0, x1, x2, x3, hcs, hb, VE.rep_keep hk x _ hx, (hc _).trans c0, (hc _).trans c1, (hc _).trans c2, (hc _).trans c3⟩
  | .bin op x y, cs, h => by
    obtain ⟨n, nm, b, o, c, x0, x1, x2, x3, y0, y1, y2, y3, hcs, hb, hx, hy, c0, c1, c2, c3, d0, d1, d2, d3⟩ := h
    have hc : ∀ j, w'.cell? ⟨b, j, none⟩ = w.cell? ⟨b, j, none⟩ := fun j => World.cell?_of_block (w := w) (hk b hb)
    exact ⟨n, nm, b, o, c, x0, x1, x2, x3, y0, y1, y2, y3, hcs, hb, VE.rep_keep hk x _ hx, VE.rep_keep hk y _ hy, (hc _).trans c0, (hc _).trans c1, (hc _).trans c2, (hc _).trans c3, (hc _).trans d0, (hc _).trans d1, (hc _).trans d2, (hc _).trans d3⟩
theorem VE.rep_mono {w : World} {P P' : Nat → Prop} (hp : ∀ b, P b → P' b) : ∀ (e : VE) (cs : List Value), e.rep w P cs → e.rep w P' cs
  | .num _, _, h => h
  | .nam _, _, h => h
  | .loc _, _, h => h
  | .glo _, _, h => h
  | .un op x, cs, h => by
    obtain ⟨n, nm, b, o, c, x0, x1, x2, x3, hcs, hb, hx, hc⟩ := h
    exact ⟨n, nm, b, o, c, x0, x1, x2, x3, hcs, hp b hb, VE.rep_mono hp x _ hx, hc⟩
  | .bin op x y, cs, h => by
    obtain ⟨n, nm, b, o, c, x0, x1, x2, x3, y0, y1, y2, y3, hcs, hb, hx, hy, hc⟩ := h
    exact ⟨n, nm, b, o, c, x0, x1, x2, x3, y0, y1, y2, y3, hcs, hp b hb, VE.rep_mono hp x _ hx, VE.rep_mono hp y _ hy, hc⟩
/-- an expression of four cells -/
theorem VE.rep_four {w : World} {P : Nat → Prop} : ∀ (e : VE) (cs : List Value), e.rep w P cs → ∃ op n nm A k c, cs = [.int .i64 op, .int .i64 n, .string nm, .slice A k c]
  | .num _, _, h => by obtain ⟨nm, A, c, rfl⟩ := h; exact ⟨_, _, _, _, _, _, rfl⟩
  | .nam _, _, h => by obtain ⟨nm, A, c, rfl⟩ := h; exact ⟨_, _, _, _, _, _, rfl⟩
  | .loc _, _, h => by obtain ⟨nm, A, c, rfl⟩ := h; exact ⟨_, _, _, _, _, _, rfl⟩
  | .glo _, _, h => by obtain ⟨nm, A, c, rfl⟩ := h; exact ⟨_, _, _, _, _, _, rfl⟩
  | .un _ _, _, h => by obtain ⟨n, nm, b, o, c, x0, x1, x2, x3, rfl, _⟩ := h; exact ⟨_, _, _, _, _, _, rfl⟩
  | .bin _ _ _, _, h => by obtain ⟨n, nm, b, o, c, x0, x1, x2, x3, y0, y1, y2, y3, rfl, _⟩ := h; exact ⟨_, _, _, _, _, _, rfl⟩
/-- an expression that lies below the world's end -/
abbrev VE.at_ (w : World) (e : VE) (cs : List Value) : Prop := e.rep w (· < w.heap.size) cs
theorem VE.at_on {w w' : World} {e : VE} {cs : List Value} (h : e.at_ w cs) (hb : Below w.heap.size w w') : e.at_ w' cs :=
  VE.rep_mono (fun _ hlt => Nat.lt_of_lt_of_le hlt hb.size) _ _ (VE.rep_keep (fun b hlt => hb.block b hlt) _ _ h)

/-- well-formed: the operators as they take operands, the variables there -/
def VE.ok (ng nl : Nat) : VE → Prop
  | .num _ => True
  | .nam _ => False
  | .loc k => 0 ≤ k ∧ k < nl
  | .glo k => 0 ≤ k ∧ k < ng
  | .un op x => (op = 3 ∨ op = 4) ∧ x.ok ng nl
  | .bin op x y => (5 ≤ op ∧ op ≤ 17) ∧ x.ok ng nl ∧ y.ok ng nl

def truth (b : Bool) : Int := if b then 1 else 0
/-- P7.1, two numbers -/
def arith (op a b : Int) : Int × Int :=
  if op = 5 then (wrap64 (a * b), 0) else if op = 8 then (wrap64 (a + b), 0) else if op = 9 then (wrap64 (a - b), 0)
  else if op = 6 then (if b = 0 then (0, 1) else (wrap64 (a.tdiv b), 0))
  else if op = 7 then (if b = 0 then (0, 1) else (a.tmod b, 0))
  else if op = 10 then (truth (decide (a < b)), 0) else if op = 11 then (truth (decide (a ≤ b)), 0)
  else if op = 12 then (truth (decide (b < a)), 0) else if op = 13 then (truth (decide (b ≤ a)), 0)
  else if op = 14 then (truth (a == b), 0) else if op = 15 then (truth (a != b), 0) else (0, 0)
/-- P7.1 -/
def ev (g l : List Int) : VE → Int × Int
  | .num n => (n, 0)
  | .nam _ => (0, 0)
  | .loc k => (l.getD k.toNat 0, 0)
  | .glo k => (g.getD k.toNat 0, 0)
  | .un op x => if (ev g l x).2 ≠ 0 then (0, (ev g l x).2) else if op = 3 then (wrap64 (-(ev g l x).1), 0) else (truth ((ev g l x).1 == 0), 0)
  | .bin op x y =>
    if (ev g l x).2 ≠ 0 then (0, (ev g l x).2)
    else if op = 16 ∧ (ev g l x).1 = 0 then (0, 0)
    else if op = 17 ∧ (ev g l x).1 ≠ 0 then (1, 0)
    else if (ev g l y).2 ≠ 0 then (0, (ev g l y).2)
    else if op = 16 ∨ op = 17 then (truth ((ev g l y).1 != 0), 0)
    else arith op (ev g l x).1 (ev g l y).1
end Go.Proofs.Ytbbjncjkddekfaa

/- How a table and a hold that come in as arguments read: as lists of numbers. No condition. -/
import Derived.Test.YtbbjncjkddekfaaLawD
import Derived.ProofKit
import Derived.OpenShut
import Derived.Deep.Slices
import Derived.Lib.SmallJoins
namespace Go.Proofs.Ytbbjncjkddekfaa
open Go.ChangeShapes Go.WideShapes Go.ChangeAt Go.RowKit Go.Deep

theorem cells_int : Try.prog.cellsOf 3 = 1 := by kernel_rfl
theorem cells_hold : Try.prog.cellsOf 30 = 2 := by kernel_rfl

/-- an address at which a cell reads has no inner spot -/
theorem spot_none {w : World} {x : Addr} {v : Value} (h : w.cell? x = some v) : x.spot = none := by
  cases hs : x.spot with
  | none => rfl
  | some s =>
    rw [World.cell?] at h
    split at h
    · rw [hs] at h; simp at h
    · cases h

section
variable {H : Type} {enc : TypeId × Value → H} {w : World} {base : Nat} {spare : Nat → Bool} {held : Bool} {n : Nat} {cs : List Value} {x : DataW H × List MemPlace}
theorem hold_trod (h : DataW.trod enc Try.prog w base spare held n 30 cs = some x) : ∃ hd : Hold, cs = cHold hd := by
  obtain ⟨xs, m, _, _, hlen, hxl, hf⟩ := DataW.trod_struct Try.underlying30 h
  rw [cells_hold] at hlen
  have h0 := hf 0 _ rfl
  have h1 := hf 1 _ rfl
  have x0 : xs[0]? = some (xs[0]'(by rw [hxl]; decide)) := List.getElem?_eq_getElem _
  have x1 : xs[1]? = some (xs[1]'(by rw [hxl]; decide)) := List.getElem?_eq_getElem _
  rw [x0] at h0
  rw [x1] at h1
  match cs, hlen with
  | [c0, c1], _ =>
    have h0' : ∃ y, DataW.trod enc Try.prog w base spare held m 3 [c0] = some y := by
      have e : Try.prog.cellsOf 3 = 1 := cells_int
      exact ⟨_, by simpa [e] using h0⟩
    obtain ⟨_, h0'⟩ := h0'
    have h1' : ∃ y, DataW.trod enc Try.prog w base spare held m 3 [c1] = some y := by
      have e : Try.prog.cellsOf 3 = 1 := cells_int
      exact ⟨_, by simpa [e] using h1⟩
    obtain ⟨_, h1'⟩ := h1'
    obtain ⟨a, ha, _, _⟩ := DataW.trod_int Try.underlying3 h0'
    obtain ⟨b, hb, _, _⟩ := DataW.trod_int Try.underlying3 h1'
    injection ha with ha
    injection hb with hb
    subst ha hb
    exact ⟨⟨a, b⟩, rfl⟩
theorem holds_trod {fuel : Nat} (h : DataW.trod enc Try.prog w base spare held fuel 27 cs = some x) :
    ∃ a len cap l, cs = [.slice a len cap] ∧ SlR (EF cHold) 2 w w.heap.size a len l := by
  rcases open_slice Try.underlying27 h with ⟨rfl, _⟩ | ⟨a, len, cap, m, k, D, Pl, rfl, _, hl, _, hm, _, hi⟩
  · exact ⟨none, 0, 0, [], rfl, SlR.nil_ _⟩
  · have hlm : len ≤ m := by rw [hm]; split <;> omega
    have key : ∀ i, ∃ hd : Hold, i < len → ∀ j v, (cHold hd)[j]? = some v → w.cell? (a.add (i * 2 + j)) = some v := by
      intro i
      by_cases hil : i < len
      · obtain ⟨cs', hc, ht⟩ := hi i (by omega)
        obtain ⟨hd, rfl⟩ := hold_trod ht
        obtain ⟨_, _, hat⟩ := World.cells?_some hc
        refine ⟨hd, fun _ j v hj => ?_⟩
        rw [cells_hold] at hat
        have hjl : j < 2 := by have := (List.getElem?_eq_some_iff.1 hj).1; exact this
        have := hat j hjl
        rw [Go.Deep.add_add] at this
        rw [this]; exact hj
      · exact ⟨⟨0, 0⟩, fun h => absurd h hil⟩
    refine ⟨some a, len, cap, (List.range len).map fun i => (key i).choose, rfl, by simp, fun hn => ?_⟩
    have h00 := (key 0).choose_spec hn 0 _ rfl
    have hx : a.spot = none := spot_none (by simpa [Addr.add] using h00)
    have hbl := World.block_lt_of_cell? w _ h00
    refine ⟨a.block, a.off, by rw [← hx], by simpa [Addr.add] using hbl, fun i y hy => ⟨cHold y, rfl, rfl, fun j v hj => ?_⟩⟩
    rw [List.getElem?_map] at hy
    have hil : i < len := by
      by_cases hh : i < len
      · exact hh
      · rw [List.getElem?_eq_none (by simp; omega)] at hy; cases hy
    rw [List.getElem?_range hil] at hy
    simp only [Option.map_some, Option.some.injEq] at hy
    subst hy
    have := (key i).choose_spec hil j v hj
    have ha : a.add (i * 2 + j) = ⟨a.block, a.off + i * 2 + j, none⟩ := by
      unfold Addr.add
      split
      · rename_i h0
        rw [show a.off + i * 2 + j = a.off by omega, ← hx]
      · rw [Nat.add_assoc]
    rw [ha] at this
    exact this
end
end Go.Proofs.Ytbbjncjkddekfaa

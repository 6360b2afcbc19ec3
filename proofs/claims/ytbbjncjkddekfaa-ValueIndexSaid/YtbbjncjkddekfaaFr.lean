/- Frames: all that was there, but the blocks of M, is as it was. No condition. -/
import Derived.Test.YtbbjncjkddekfaaDat
import Derived.Test.YtbbjncjkddekfaaReg
namespace Go.Proofs.Ytbbjncjkddekfaa
open Go.RowKit

/-- All blocks that were there, but those of M, are as they were. -/
structure Fr (M : Nat → Prop) (w w' : World) : Prop where
  os : w'.os = w.os
  tape : w'.tape = w.tape
  output : w'.output = w.output
  size : w.heap.size ≤ w'.heap.size
  block : ∀ k, k < w.heap.size → ¬ M k → w'.heap[k]? = w.heap[k]?
/-- nothing that was there is turned -/
abbrev Ext : World → World → Prop := Fr fun _ => False

section
variable {M M' : Nat → Prop} {a b c : World}
theorem Fr.refl (M : Nat → Prop) (w : World) : Fr M w w := ⟨rfl, rfl, rfl, Nat.le_refl _, fun _ _ _ => rfl⟩
theorem Fr.trans (h : Fr M a b) (k : Fr M b c) : Fr M a c :=
  ⟨k.os.trans h.os, k.tape.trans h.tape, k.output.trans h.output, Nat.le_trans h.size k.size, fun i hi hn => (k.block i (Nat.lt_of_lt_of_le hi h.size) hn).trans (h.block i hi hn)⟩
theorem Fr.mono (h : Fr M a b) (hM : ∀ k, M k → M' k) : Fr M' a b := ⟨h.os, h.tape, h.output, h.size, fun k hk hn => h.block k hk fun hm => hn (hM k hm)⟩
theorem Fr.of (h : Below a.heap.size a b) : Fr M a b := ⟨h.os, h.tape, h.output, h.size, fun k hk _ => h.block k hk⟩
theorem Fr.below {B : Nat} (h : Fr M a b) (hB : B ≤ a.heap.size) (hM : ∀ k, k < B → ¬ M k) : Below B a b := ⟨h.os, h.tape, h.output, h.size, fun k hk => h.block k (Nat.lt_of_lt_of_le hk hB) (hM k hk)⟩
theorem Fr.ext (h : Ext a b) : Below a.heap.size a b := h.below (Nat.le_refl _) fun _ _ h => h
theorem Fr.drew (h : Fr M a b) : Fr M a b.drew := ⟨h.os, h.tape, h.output, h.size, h.block⟩
theorem Fr.drewN (h : Fr M a b) (n : Nat) : Fr M a (b.drewN n) := ⟨h.os, h.tape, h.output, h.size, h.block⟩
theorem Fr.alloc (h : Fr M a b) (o : Obj) : Fr M a (b.alloc o) :=
  ⟨h.os, h.tape, h.output, by have := h.size; simp; omega, fun k hk hn => (Below.heap_alloc b o k (Nat.lt_of_lt_of_le hk h.size)).trans (h.block k hk hn)⟩
theorem Fr.setCell (h : Fr M a b) {p : Addr} (hp : M p.block ∨ a.heap.size ≤ p.block) (v : Value) : Fr M a (b.setCell p v) := by
  refine ⟨h.os, h.tape, h.output, by simpa using h.size, fun k hk hn => ?_⟩
  have : k ≠ p.block := by
    rintro rfl
    rcases hp with hp | hp
    · exact hn hp
    · omega
  rw [Below.heap_setCell _ _ _ _ this]
  exact h.block k hk hn
theorem Fr.then_ (h : Fr M a b) (k : Below a.heap.size b c) : Fr M a c :=
  ⟨k.os.trans h.os, k.tape.trans h.tape, k.output.trans h.output, Nat.le_trans h.size k.size, fun i hi hn => (k.block i hi).trans (h.block i hi hn)⟩
theorem Fr.grown {row : Option Nat} (h : Fr M a b) (hg : b.grownBy c row) (hr : ∀ g, row = some g → M g ∨ a.heap.size ≤ g) : Fr M a c := by
  refine ⟨hg.os.trans h.os, hg.tape.trans h.tape, hg.output.trans h.output, Nat.le_trans h.size hg.size, fun k hk hn => ?_⟩
  refine (hg.block k (Nat.lt_of_lt_of_le hk h.size) fun e => ?_).trans (h.block k hk hn)
  rcases hr k e.symm with h1 | h1
  · exact hn h1
  · omega
theorem Fr.cell (h : Fr M a b) {k j : Nat} (hk : k < a.heap.size) (hn : ¬ M k) : b.cell? ⟨k, j, none⟩ = a.cell? ⟨k, j, none⟩ := World.cell?_of_block (h.block k hk hn)
theorem Fr.frozen (h : Fr M a b) {k j : Nat} (hk : k < a.heap.size) (hn : ¬ M k) : b.frozen? ⟨k, j, none⟩ = a.frozen? ⟨k, j, none⟩ := by
  simp only [World.frozen?, h.block k hk hn]
/-- for the walk: cells and marks behind it -/
theorem Fr.two (h : Fr M a b) : (∀ k j, k < a.heap.size → ¬ M k → b.cell? ⟨k, j, none⟩ = a.cell? ⟨k, j, none⟩) ∧ (∀ k j, k < a.heap.size → ¬ M k → b.frozen? ⟨k, j, none⟩ = a.frozen? ⟨k, j, none⟩) :=
  ⟨fun _ _ hk hn => h.cell hk hn, fun _ _ hk hn => h.frozen hk hn⟩
theorem Fr.two0 (h : Ext a b) : (∀ k j, k < a.heap.size → b.cell? ⟨k, j, none⟩ = a.cell? ⟨k, j, none⟩) ∧ (∀ k j, k < a.heap.size → b.frozen? ⟨k, j, none⟩ = a.frozen? ⟨k, j, none⟩) :=
  ⟨fun _ _ hk => h.cell hk (fun h => h), fun _ _ hk => h.frozen hk (fun h => h)⟩
theorem Fr.twod (h : Fr M a.drew b) : (∀ k j, k < a.heap.size → ¬ M k → b.cell? ⟨k, j, none⟩ = a.cell? ⟨k, j, none⟩) ∧ (∀ k j, k < a.heap.size → ¬ M k → b.frozen? ⟨k, j, none⟩ = a.frozen? ⟨k, j, none⟩) :=
  ⟨fun _ _ hk hn => h.cell hk hn, fun _ _ hk hn => h.frozen hk hn⟩
theorem Fr.two0d (h : Ext a.drew b) : (∀ k j, k < a.heap.size → b.cell? ⟨k, j, none⟩ = a.cell? ⟨k, j, none⟩) ∧ (∀ k j, k < a.heap.size → b.frozen? ⟨k, j, none⟩ = a.frozen? ⟨k, j, none⟩) :=
  ⟨fun _ _ hk => h.cell hk (fun h => h), fun _ _ hk => h.frozen hk (fun h => h)⟩
theorem Fr.undrew (h : Fr M a.drew b) : Fr M a b := ⟨h.os, h.tape, h.output, h.size, h.block⟩
end

/-- what lies below the world's end, but not in the blocks of M -/
abbrev off (M : Nat → Prop) (w : World) : Nat → Prop := fun b => b < w.heap.size ∧ ¬ M b
section
variable {M : Nat → Prop} {w w' : World}
theorem off_mono (h : Fr M w w') : ∀ b, off M w b → off M w' b := fun _ hb => ⟨Nat.lt_of_lt_of_le hb.1 h.size, hb.2⟩
theorem D.onF {d : D} {cs : List Value} (h : d.rep w (off M w) cs) (hb : Fr M w w') : d.rep w' (off M w') cs :=
  D.rep_mono (off_mono hb) _ _ (D.rep_keep (fun b hlt => hb.block b hlt.1 hlt.2) _ _ h)
theorem D.onsF {l : List D} {cs : List Value} (h : D.reps w (off M w) l cs) (hb : Fr M w w') : D.reps w' (off M w') l cs :=
  D.reps_mono (off_mono hb) _ _ (D.reps_keep (fun b hlt => hb.block b hlt.1 hlt.2) _ _ h)
theorem Sl.onF {A : Option Addr} {n : Nat} {l : List D} (h : Sl w (off M w) A n l) (hb : Fr M w w') : Sl w' (off M w') A n l :=
  (h.keep (fun b hlt => hb.block b hlt.1 hlt.2)).mono (off_mono hb)
end

/-! ## a block that is known whole -/
def Blk (w : World) (g : Nat) (t : TypeId) (cs : Array Value) : Prop := w.heap[g]? = some (.cells cs t (0, 0))
section
variable {w w' : World} {g : Nat} {t : TypeId} {cs : Array Value} {M : Nat → Prop}
theorem Blk.lt (h : Blk w g t cs) : g < w.heap.size := by
  rcases Nat.lt_or_ge g w.heap.size with hlt | hge
  · exact hlt
  · unfold Blk at h; rw [Array.getElem?_eq_none hge] at h; cases h
theorem Blk.cell (h : Blk w g t cs) (i : Nat) : w.cell? ⟨g, i, none⟩ = cs[i]? := cell_of_row w g i cs t (0, 0) h
theorem Blk.frozen (h : Blk w g t cs) (i : Nat) : w.frozen? ⟨g, i, none⟩ = false := by
  unfold Blk at h
  simp [World.frozen?, h]
theorem Blk.two (h : Blk w g t cs) : (∀ i, w.cell? ⟨g, i, none⟩ = cs[i]?) ∧ (∀ i, w.frozen? ⟨g, i, none⟩ = false) ∧ g < w.heap.size := ⟨h.cell, h.frozen, h.lt⟩
theorem Blk.new (w : World) (t : TypeId) (cs : Array Value) : Blk (w.alloc (.cells cs t)) w.heap.size t cs := heap_alloc_new w _
theorem Blk.new' (w : World) (t : TypeId) (cs : Array Value) (hg : g = w.heap.size) : Blk (w.alloc (.cells cs t)) g t cs := by
  subst hg
  exact heap_alloc_new w _
theorem Blk.drew (h : Blk w g t cs) : Blk w.drew g t cs := h
theorem Blk.alloc (h : Blk w g t cs) (o : Obj) : Blk (w.alloc o) g t cs := (Below.heap_alloc w o g h.lt).trans h
theorem Blk.set_ (h : Blk w g t cs) (i : Nat) (u : Value) : Blk (w.setCell ⟨g, i, none⟩ u) g t (cs.setIfInBounds i u) := by
  unfold Blk at h ⊢
  simp [World.setCell, Array.getElem?_modify, h]
theorem Blk.far (h : Blk w g t cs) {p : Addr} (hp : g ≠ p.block) (u : Value) : Blk (w.setCell p u) g t cs := (Below.heap_setCell w p u g hp).trans h
theorem Blk.below {B : Nat} (h : Blk w g t cs) (hb : Below B w w') (hg : g < B) : Blk w' g t cs := (hb.block g hg).trans h
theorem Blk.on (h : Blk w g t cs) (hb : Fr M w w') (hg : ¬ M g) : Blk w' g t cs := (hb.block g h.lt hg).trans h
theorem Blk.onE (h : Blk w g t cs) (hb : Ext w w') : Blk w' g t cs := (hb.block g h.lt fun h => h).trans h
theorem Blk.grown {row : Option Nat} (h : Blk w g t cs) (hb : w.grownBy w' row) (hg : some g ≠ row) : Blk w' g t cs := (hb.block g h.lt hg).trans h
end
end Go.Proofs.Ytbbjncjkddekfaa

/- The source of raw numbers that the laws make their expressions from: what it is in memory, and the walks of its methods. -/
import Derived.Test.YtbbjncjkddekfaaValC
import Derived.Test.YtbbjncjkddekfaaTabA
import Derived.BigQuiet
namespace Go.Proofs.Ytbbjncjkddekfaa
open Go.RowKit

/-- All blocks that were there, but one, are as they were. -/
structure Else (s : Nat) (w w' : World) : Prop where
  os : w'.os = w.os
  tape : w'.tape = w.tape
  output : w'.output = w.output
  size : w.heap.size ≤ w'.heap.size
  block : ∀ k, k < w.heap.size → k ≠ s → w'.heap[k]? = w.heap[k]?
theorem Else.refl (s : Nat) (w : World) : Else s w w := ⟨rfl, rfl, rfl, Nat.le_refl _, fun _ _ _ => rfl⟩
theorem Else.trans {s : Nat} {a b c : World} (h : Else s a b) (k : Else s b c) : Else s a c :=
  ⟨k.os.trans h.os, k.tape.trans h.tape, k.output.trans h.output, Nat.le_trans h.size k.size, fun i hi hn => (k.block i (Nat.lt_of_lt_of_le hi h.size) hn).trans (h.block i hi hn)⟩
theorem Else.of {s : Nat} {a b : World} (h : Below a.heap.size a b) : Else s a b := ⟨h.os, h.tape, h.output, h.size, fun k hk _ => h.block k hk⟩
theorem Else.below {s : Nat} {a b : World} (h : Else s a b) (hs : s ≤ a.heap.size) : Below s a b := ⟨h.os, h.tape, h.output, h.size, fun k hk => h.block k (by omega) (by omega)⟩
theorem Else.setCell {s : Nat} {a b : World} (h : Else s a b) (j : Nat) (v : Value) : Else s a (b.setCell ⟨s, j, none⟩ v) := by
  refine ⟨h.os, h.tape, h.output, by simpa using h.size, fun k hk hn => ?_⟩
  rw [Below.heap_setCell _ _ _ _ hn]
  exact h.block k hk hn
theorem Else.drew {s : Nat} {a b : World} (h : Else s a b) : Else s a b.drew := ⟨h.os, h.tape, h.output, h.size, h.block⟩
theorem Else.cell {s : Nat} {a b : World} (h : Else s a b) {k j : Nat} (hk : k < a.heap.size) (hn : k ≠ s) : b.cell? ⟨k, j, none⟩ = a.cell? ⟨k, j, none⟩ := World.cell?_of_block (h.block k hk hn)

/-- the source at block s: a list that lies below it, and a place in it -/
structure SrcAt (w : World) (s : Nat) (A : Option Addr) (n c : Nat) (l : List Int) : Prop where
  lt : s < w.heap.size
  c0 : w.cell? ⟨s, 0, none⟩ = some (.slice A n c)
  c1 : ∃ i : Nat, i ≤ n ∧ w.cell? ⟨s, 1, none⟩ = some (.int .i64 i)
  fz : w.frozen? ⟨s, 1, none⟩ = false
  ls : SlR (EF cInt) 1 w s A n l
  hn : n ≤ 100
theorem SrcAt.on {w w' : World} {s : Nat} {A : Option Addr} {n c : Nat} {l : List Int} (h : SrcAt w s A n c l) (hb : Below w.heap.size w w') : SrcAt w' s A n c l := by
  have hlt := h.lt
  refine ⟨Nat.lt_of_lt_of_le h.lt hb.size, ?_, ?_, ?_, h.ls.keepF (hb.mono (by omega)), h.hn⟩
  · exact (hb.cell (p := ⟨s, 0, none⟩) hlt).trans h.c0
  · obtain ⟨i, hi, hc⟩ := h.c1
    exact ⟨i, hi, (hb.cell (p := ⟨s, 1, none⟩) hlt).trans hc⟩
  · exact (hb.frozen (p := ⟨s, 1, none⟩) hlt).trans h.fz

def NextRes (w : World) (s : Nat) (A : Option Addr) (n c : Nat) (l : List Int) (m : Int) (e : Ending) (w' : World) : Prop :=
  ∃ k, e = .returned (.int .i64 k) ∧ 0 ≤ k ∧ k < m ∧ SrcAt w' s A n c l ∧ Else s w w'

set_option maxHeartbeats 800000 in
theorem next_any (w : World) (s : Nat) (A : Option Addr) (n c : Nat) (l : List Int) (m : Int) (h : SrcAt w s A n c l) (hm : 0 < m) (hm2 : m ≤ 4611686018427387904) :
    Calls Try.prog 51 #[.pointer (some ⟨s, 0, none⟩), .int .i64 m] w (NextRes w s A n c l m) := by
  have H := hide h
  obtain ⟨hlt, hc0, ⟨i, hi, hc1⟩, hfz, hls, hn⟩ := h
  by_cases hin : i < n
  case neg =>
    have q : decide ((i : Int) ≥ n) = true := by simp; omega
    clear hls
    go_enter Try.func51, Try.ntmps51
    go_wp2
    go_quiet (fail)
    go_wp2
    go_ret
    exact ⟨0, rfl, by omega, hm, H.out.on (below_drewN' (Below.refl _ _) _), .of (below_drewN' (Below.refl _ _) _)⟩
  have q : decide ((i : Int) ≥ n) = false := by simp; omega
  obtain ⟨b, o, x, rfl, hb, hx, hc⟩ := hls.int hin
  clear hx hls
  go_enter Try.func51, Try.ntmps51
  go_wp2
  go_quiet (fail)
  go_wp2
  obtain ⟨h, hE, hc0', hc1', hcx⟩ : SrcAt ((w.drewN nq).setCell ⟨s, 1, none⟩ (.int .i64 ((i : Int) + 1))) s (some ⟨b, o, none⟩) n c l ∧ Else s w ((w.drewN nq).setCell ⟨s, 1, none⟩ (.int .i64 ((i : Int) + 1))) ∧
      ((w.drewN nq).setCell ⟨s, 1, none⟩ (.int .i64 ((i : Int) + 1))).cell? ⟨s, 0, none⟩ = some (.slice (some ⟨b, o, none⟩) n c) ∧ ((w.drewN nq).setCell ⟨s, 1, none⟩ (.int .i64 ((i : Int) + 1))).cell? ⟨s, 1, none⟩ = some (.int .i64 ((i : Int) + 1)) ∧
      ((w.drewN nq).setCell ⟨s, 1, none⟩ (.int .i64 ((i : Int) + 1))).cell? ⟨b, o + i, none⟩ = some (.int .i64 x) := by
    have hw' := H.out.on (below_drewN' (Below.refl _ _) nq)
    have hE : Else s w (w.drewN nq) := .of (below_drewN' (Below.refl _ _) nq)
    generalize w.drewN nq = v at *
    have e0 : (v.setCell ⟨s, 1, none⟩ (.int .i64 ((i : Int) + 1))).cell? ⟨s, 0, none⟩ = some (.slice (some ⟨b, o, none⟩) n c) := (World.cell?_setCell_other _ _ _ _ (by simp)).trans hw'.c0
    have e1 : (v.setCell ⟨s, 1, none⟩ (.int .i64 ((i : Int) + 1))).cell? ⟨s, 1, none⟩ = some (.int .i64 ((i : Int) + 1)) := by
      obtain ⟨k, _, hk⟩ := hw'.c1
      simp [go_sem, hk]
    have hbs : Below s v (v.setCell ⟨s, 1, none⟩ (.int .i64 ((i : Int) + 1))) := (Below.refl s v).setCell (p := ⟨s, 1, none⟩) (Nat.le_refl s) _
    refine ⟨⟨by simpa using hw'.lt, e0, ⟨i + 1, by omega, by rw [e1]; simp⟩, (World.frozen?_setCell _ _ _ _).trans hw'.fz, hw'.ls.keepF hbs, hw'.hn⟩, hE.setCell _ _, e0, e1, ?_⟩
    rw [hbs.cell (by exact hb), ← hc]
    exact hE.cell (by omega) (by omega)
  have hw1 : IntKind.i64.wrap ((i : Int) + 1 - 1) = i := by rw [show (i : Int) + 1 - 1 = i by omega]; exact IntWalk.i64_in _ (by omega)
  have HH := hide (And.intro h hE)
  clear h hE H hc0 hc1 hc hfz
  generalize (w.drewN nq).setCell ⟨s, 1, none⟩ (.int .i64 ((i : Int) + 1)) = v at *
  go_quiet (first | (go_at_call 17; refine Calls.quiet_of_same ((within_any x m hm hm2 _).mono fun _ _ h => ⟨h.1, h.2.symm⟩)))
  go_wp2
  go_ret
  have hr := within_range (x := x) (n := m) hm
  exact ⟨_, rfl, hr.1, hr.2, HH.out.1.on (below_drewN' (Below.refl _ _) _), HH.out.2.trans (.of (below_drewN' (Below.refl _ _) _))⟩
end Go.Proofs.Ytbbjncjkddekfaa

/- The walks of Index, the program's and the reference's: both compute 'idx'. For well-formed places. -/
import Derived.Test.YtbbjncjkddekfaaValR
import Derived.Test.YtbbjncjkddekfaaTabPlain
import Derived.Test.YtbbjncjkddekfaaFr
import Derived.BigQuiet
namespace Go.Proofs.Ytbbjncjkddekfaa
open Go.RowKit

/-- P7.2: the size of the mutex, the index' value and fault -/
def idx (ms : Int) (r : Int × Int) : Int × Int := if r.2 ≠ 0 then (0, r.2) else if r.1 < 0 ∨ ms ≤ r.1 then (0, 2) else (r.1, 0)

/-- what the walks ask of a place with an index -/
structure IdxIn (w : World) (MA : Option Addr) (mn : Nat) (X : List Mtx) (G L : Option Addr) (ng nl : Nat) (g l : List Int) (e : VE) (i : Nat) (m : Mtx) (b o : Nat) (c0 c1 c2 c3 : Value) : Prop where
  ev : EvIn w G L ng nl g l e [c0, c1, c2, c3]
  ms : SlR (EF cMtx) 3 w w.heap.size MA mn X
  i1 : i < mn
  hm : X[i]? = some m
  bl : b < w.heap.size
  e0 : w.cell? ⟨b, o, none⟩ = some c0
  e1 : w.cell? ⟨b, o + 1, none⟩ = some c1
  e2 : w.cell? ⟨b, o + 2, none⟩ = some c2
  e3 : w.cell? ⟨b, o + 3, none⟩ = some c3

theorem SlR.mtx {w : World} {B n : Nat} {A : Option Addr} {l : List Mtx} (h : SlR (EF cMtx) 3 w B A n l) {k : Nat} (hk : k < n) :
    ∃ b o m, A = some ⟨b, o, none⟩ ∧ b < B ∧ l[k]? = some m ∧ w.cell? ⟨b, o + k * 3, none⟩ = some (.string m.name) ∧ w.cell? ⟨b, o + k * 3 + 1, none⟩ = some (.bool m.re) ∧ w.cell? ⟨b, o + k * 3 + 2, none⟩ = some (.int .i64 m.size) := by
  obtain ⟨b, o, x, hA, hb, hx, _, hc⟩ := h.at1 hk
  exact ⟨b, o, x, hA, hb, hx, hc 0 _ rfl, hc 1 _ rfl, hc 2 _ rfl⟩

set_option maxHeartbeats 1600000 in
theorem Index_any (w : World) (MA : Option Addr) (mn mc : Nat) (X : List Mtx) (G L : Option Addr) (ng nl cg cl : Nat) (g l : List Int) (e : VE) (i : Nat) (m : Mtx) (b o pc : Nat) (c0 c1 c2 c3 : Value)
    (h : IdxIn w MA mn X G L ng nl g l e i m b o c0 c1 c2 c3) :
    Calls Try.prog 45 #[.agg #[.bool false, .int .i64 i, .slice (some ⟨b, o, none⟩) 1 pc], .slice MA mn mc, .slice G ng cg, .slice L nl cl] w (Two w (idx m.size (ev g l e))) := by
  have hE : Ext w (w.alloc (.cells #[.bool false, .int .i64 i, .slice (some ⟨b, o, none⟩) 1 pc] 63)) := (Fr.refl _ _).alloc _
  have B0 : Blk (w.alloc (.cells #[.bool false, .int .i64 i, .slice (some ⟨b, o, none⟩) 1 pc] 63)) w.heap.size 63 #[.bool false, .int .i64 i, .slice (some ⟨b, o, none⟩) 1 pc] := Blk.new _ _ _
  obtain ⟨hev, hms, hi1, hm, hbl, e0, e1, e2, e3⟩ := h
  obtain ⟨mb, mo, m', rfl, hmb, hm', f0, f1, f2⟩ := hms.mtx hi1
  have hmm : m' = m := by rw [hm] at hm'; injection hm' with h; exact h.symm
  subst hmm
  have q1 : decide ((i : Int) < 0) = false := by simp
  have q2 : decide (i ≥ mn) = false := by simp; omega
  have q2' : decide (mn ≤ i) = false := by simp; omega
  have q3 : (0 : Int) ≤ (i : Int) := by omega
  have q4 : (i : Int) < (mn : Int) := by omega
  have HEV := hide (hev.on (Fr.ext hE))
  clear hm hm' hev hms
  go_enter Try.func45, Try.ntmps45
  go_wp2_with (fail)
  have k0 := (hE.cell (j := o) hbl (fun h => h)).trans e0
  have k1 := (hE.cell (j := o + 1) hbl (fun h => h)).trans e1
  generalize w.alloc (.cells #[.bool false, .int .i64 i, .slice (some ⟨b, o, none⟩) 1 pc] 63) = W at *
  refine (Eval_any e W G L ng nl cg cl g l _ _ _ _ HEV.out).mono ?_
  rintro r w1 ⟨rfl, hb1⟩
  have hE1 : Ext w w1 := hE.trans (Fr.of hb1)
  obtain ⟨p0, p1, p2⟩ := (B0.onE (Fr.of hb1)).two
  have r2 := (hE1.cell (j := mo + i * 3 + 2) hmb (fun h => h)).trans f2
  have HE1 := hide hE1
  clear hE hE1 B0 e0 e1 e2 e3 f0 f1 f2 k0 k1 hb1
  generalize ev g l e = r at *
  obtain ⟨v, f⟩ := r
  by_cases hf : f = 0
  case neg =>
    have q5 : (f != 0) = true := by simpa using hf
    have HI := hide (show idx m'.size (v, f) = (0, f) by unfold idx; rw [if_pos hf])
    clear hf
    go_wp2
    go_ret2
    exact Two.mk' HI.out (Fr.ext HE1.out)
  have q5 : (f != 0) = false := by simpa using hf
  by_cases hv : v < 0
  · have q6 : decide (v < 0) = true := by simpa using hv
    have HI := hide (show idx m'.size (v, f) = (0, 2) by unfold idx; rw [if_neg (by simpa using hf), if_pos (.inl hv)])
    clear hf hv
    go_wp2
    go_ret2
    exact Two.mk' HI.out (Fr.ext HE1.out)
  have q6 : decide (v < 0) = false := by simpa using hv
  by_cases hv2 : m'.size ≤ v
  · have q7 : decide (v ≥ m'.size) = true := by simpa using hv2
    have HI := hide (show idx m'.size (v, f) = (0, 2) by unfold idx; rw [if_neg (by simpa using hf), if_pos (.inr hv2)])
    clear hf hv hv2
    go_wp2
    go_ret2
    exact Two.mk' HI.out (Fr.ext HE1.out)
  · have q7 : decide (v ≥ m'.size) = false := by simpa using hv2
    have HI := hide (show idx m'.size (v, f) = (v, 0) by unfold idx; rw [if_neg (by simpa using hf), if_neg (by omega)])
    clear hf hv hv2
    go_wp2
    go_ret2
    exact Two.mk' HI.out (Fr.ext HE1.out)

set_option maxHeartbeats 1600000 in
theorem refIndex_any (w : World) (MA : Option Addr) (mn mc : Nat) (X : List Mtx) (G L : Option Addr) (ng nl cg cl : Nat) (g l : List Int) (e : VE) (i : Nat) (m : Mtx) (b o pc : Nat) (c0 c1 c2 c3 : Value)
    (h : IdxIn w MA mn X G L ng nl g l e i m b o c0 c1 c2 c3) (hft : FitIn g l e) :
    Calls Try.prog 46 #[.agg #[.bool false, .int .i64 i, .slice (some ⟨b, o, none⟩) 1 pc], .slice MA mn mc, .slice G ng cg, .slice L nl cl] w (Two w (idx m.size (ev g l e))) := by
  have hE : Ext w (w.alloc (.cells #[.bool false, .int .i64 i, .slice (some ⟨b, o, none⟩) 1 pc] 63)) := (Fr.refl _ _).alloc _
  have B0 : Blk (w.alloc (.cells #[.bool false, .int .i64 i, .slice (some ⟨b, o, none⟩) 1 pc] 63)) w.heap.size 63 #[.bool false, .int .i64 i, .slice (some ⟨b, o, none⟩) 1 pc] := Blk.new _ _ _
  obtain ⟨hev, hms, hi1, hm, hbl, e0, e1, e2, e3⟩ := h
  obtain ⟨mb, mo, m', rfl, hmb, hm', f0, f1, f2⟩ := hms.mtx hi1
  have hmm : m' = m := by rw [hm] at hm'; injection hm' with h; exact h.symm
  subst hmm
  have q3 : (0 : Int) ≤ (i : Int) := by omega
  have q4 : (i : Int) < (mn : Int) := by omega
  have HEV := hide (hev.on (Fr.ext hE))
  have HFT := hide hft
  clear hm hm' hev hms hft
  go_enter Try.func46, Try.ntmps46
  go_wp2_with (fail)
  have k0 := (hE.cell (j := o) hbl (fun h => h)).trans e0
  have k1 := (hE.cell (j := o + 1) hbl (fun h => h)).trans e1
  generalize w.alloc (.cells #[.bool false, .int .i64 i, .slice (some ⟨b, o, none⟩) 1 pc] 63) = W at *
  refine (ref_of e W G L ng nl cg cl g l _ _ _ _ HEV.out HFT.out).mono ?_
  rintro r w1 ⟨rfl, hb1⟩
  have hE1 : Ext w w1 := hE.trans (Fr.of hb1)
  obtain ⟨p0, p1, p2⟩ := (B0.onE (Fr.of hb1)).two
  have r2 := (hE1.cell (j := mo + i * 3 + 2) hmb (fun h => h)).trans f2
  have HE1 := hide hE1
  clear hE hE1 B0 e0 e1 e2 e3 f0 f1 f2 k0 k1 hb1
  generalize ev g l e = r at *
  obtain ⟨v, f⟩ := r
  by_cases hf : f = 0
  case neg =>
    have q5 : (f != 0) = true := by simpa using hf
    have HI := hide (show idx m'.size (v, f) = (0, f) by unfold idx; rw [if_pos hf])
    clear hf
    go_wp2
    go_ret2
    exact Two.mk' HI.out (Fr.ext HE1.out)
  have q5 : (f != 0) = false := by simpa using hf
  by_cases hv : v < 0
  · have q6 : decide (v < 0) = true := by simpa using hv
    have HI := hide (show idx m'.size (v, f) = (0, 2) by unfold idx; rw [if_neg (by simpa using hf), if_pos (.inl hv)])
    clear hf hv
    go_wp2
    go_ret2
    exact Two.mk' HI.out (Fr.ext HE1.out)
  have q6 : decide (v < 0) = false := by simpa using hv
  by_cases hv2 : m'.size ≤ v
  · have q7 : decide (v ≥ m'.size) = true := by simpa using hv2
    have HI := hide (show idx m'.size (v, f) = (0, 2) by unfold idx; rw [if_neg (by simpa using hf), if_pos (.inr hv2)])
    clear hf hv hv2
    go_wp2
    go_ret2
    exact Two.mk' HI.out (Fr.ext HE1.out)
  · have q7 : decide (v ≥ m'.size) = false := by simpa using hv2
    have HI := hide (show idx m'.size (v, f) = (v, 0) by unfold idx; rw [if_neg (by simpa using hf), if_neg (by omega)])
    clear hf hv hv2
    go_wp2
    go_ret2
    exact Two.mk' HI.out (Fr.ext HE1.out)

/-- a place without an index -/
theorem Index_zero (w : World) (i : Int) (A : Option Addr) (pc : Nat) (b : Bool) (m g l : Value) : Calls Try.prog 45 #[.agg #[.bool b, .int .i64 i, .slice A 0 pc], m, g, l] w (Two w (0, 0)) := by
  go_enter Try.func45, Try.ntmps45
  go_wp2
  go_ret2
  exact Two.mk' rfl ((Below.refl _ _).alloc (Nat.le_refl _) _)
theorem refIndex_zero (w : World) (i : Int) (A : Option Addr) (pc : Nat) (b : Bool) (m g l : Value) : Calls Try.prog 46 #[.agg #[.bool b, .int .i64 i, .slice A 0 pc], m, g, l] w (Two w (0, 0)) := by
  go_enter Try.func46, Try.ntmps46
  go_wp2
  go_ret2
  exact Two.mk' rfl ((Below.refl _ _).alloc (Nat.le_refl _) _)
end Go.Proofs.Ytbbjncjkddekfaa

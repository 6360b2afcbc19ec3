/- The laws ValueEval and ValueVariables: walks. -/
import Derived.Test.YtbbjncjkddekfaaResB
namespace Go.Proofs.Ytbbjncjkddekfaa
open Go.RowKit

theorem slr_lit {w : World} {g : Nat} {t : TypeId} {cs : Array Value} {l : List Int} {B n : Nat} (h : Blk w g t cs) (hc : cs = (l.map (Value.int .i64)).toArray) (hl : l.length = n) (hB : g < B) : SlR (EF cInt) 1 w B (some ⟨g, 0, none⟩) n l := by
  subst hc
  refine ⟨hl, fun _ => ⟨g, 0, rfl, hB, fun k x hx => ⟨cInt x, rfl, rfl, fun j v hj => ?_⟩⟩⟩
  have hj0 : j = 0 ∧ v = .int .i64 x := by
    cases j with
    | zero => simp [cInt] at hj; exact ⟨rfl, hj.symm⟩
    | succ j => simp [cInt] at hj
  obtain ⟨rfl, rfl⟩ := hj0
  rw [h.cell]
  simp [hx]
theorem row_cap {k : IntKind} {w : World} {a : Option Addr} {len cap : Nat} {zs : List Int}
    (h : (a = none ∧ len = 0 ∧ cap = 0 ∧ zs = []) ∨ ∃ x, a = some x ∧ len ≤ cap ∧ cap ≤ maxLen ∧ zs.length = cap ∧ (∀ i, i < zs.length → w.cell? (x.add i) = some (.int k (zs.getD i 0))) ∧ ∀ n ∈ zs, (Lit.int k n).wf = true) : len ≤ cap := by
  rcases h with ⟨_, h1, h2, _⟩ | ⟨_, _, h, _⟩ <;> omega
/-- the expression that is made and resolved, in new memory -/
def Rx (w : World) (x : VE) (cs : List Value) : Prop := x.ok 2 1 ∧ x.fit ∧ x.at_ w cs
theorem Rx.on {w w' : World} {x : VE} {cs : List Value} (h : Rx w x cs) (hb : Below w.heap.size w w') : Rx w' x cs := ⟨h.1, h.2.1, VE.at_on h.2.2 hb⟩
theorem fits2 {a b : Int} (ha : Fits a) (hb : Fits b) : ∀ x ∈ [a, b], Fits x := by
  intro x hx
  simp at hx
  rcases hx with rfl | rfl <;> assumption
theorem fits1 {a : Int} (ha : Fits a) : ∀ x ∈ [a], Fits x := by
  intro x hx
  simp at hx
  subst hx; assumption
theorem ev_more (a b c d : Int) : ∀ x : VE, x.ok 2 1 → ev [b, c] [a] x = ev [b, c, d] [a, d] x
  | .num _, _ => rfl
  | .nam _, h => h.elim
  | .loc k, h => by
    obtain ⟨h0, h1⟩ := h
    obtain rfl : k = 0 := by omega
    rfl
  | .glo k, h => by
    obtain ⟨h0, h1⟩ := h
    obtain rfl | rfl : k = 0 ∨ k = 1 := by omega
    · rfl
    · rfl
  | .un op x, h => by
    unfold ev
    rw [ev_more a b c d x h.2]
  | .bin op x y, h => by
    unfold ev
    rw [ev_more a b c d x h.2.1, ev_more a b c d y h.2.2]

theorem ok_more : ∀ x : VE, x.ok 2 1 → x.ok 3 2
  | .num _, _ => trivial
  | .nam _, h => h.elim
  | .loc k, h => ⟨h.1, by have := h.2; omega⟩
  | .glo k, h => ⟨h.1, by have := h.2; omega⟩
  | .un op x, h => ⟨h.1, ok_more x h.2⟩
  | .bin op x y, h => ⟨h.1, ok_more x h.2.1, ok_more y h.2.2⟩

set_option maxHeartbeats 1600000 in
theorem valueEval_any (A : Option Addr) (n c0 : Nat) (l : List Int) (a b c : Int) (w : World) (h : SlR (EF cInt) 1 w w.heap.size A n l) (hc : n ≤ c0) (hf : Fits a ∧ Fits b ∧ Fits c) :
    Calls Try.prog 9 #[.slice A n c0, .int .i64 a, .int .i64 b, .int .i64 c] w fun e w' => e = .returned (.bool true) ∧ Below w.heap.size w w' := by
  have HF := hide hf
  clear hf
  go_enter Try.func9, Try.ntmps9
  go_wp2_with (fail)
  refine (made_any A n c0 l _ h hc).mono ?_
  rintro e w1 ⟨x, x0, x1, x2, x3, rfl, hx, hr, hb⟩
  have HX := hide (And.intro (res_ok x hx) (res_fit x hx))
  go_wp2_with (fail)
  refine (res_of x _ x0 x1 x2 x3 hx (VE.rep_mono (fun b hb => hb.2) _ _ hr)).mono ?_
  rintro e w2 ⟨d0, d1, d2, d3, rfl, hr2, hb2⟩
  replace hb := hb.trans (hb2.mono hb.size)
  have HR := hide (show Rx w2 (res x) [d0, d1, d2, d3] from ⟨HX.out.1, HX.out.2, VE.rep_mono (fun b hb => hb.2) _ _ hr2⟩)
  clear hr hr2 hb2 hx h HX
  generalize res x = X at *
  obtain ⟨dop, dn, dnm, dA, dk, dc, hd⟩ := VE.rep_four _ _ HR.out.2.2
  injection hd with hd0 hd
  injection hd with hd1 hd
  injection hd with hd2 hd
  injection hd with hd3 hd
  subst hd0 hd1 hd2 hd3
  clear hd
  go_wp2_with (fail)
  generalize hW : World.alloc _ _ = W
  have hE : Ext w2 W := by rw [← hW]; exact (((Fr.refl _ _).alloc _).alloc _).alloc _
  have B0 : Blk W w2.heap.size 50 #[.int .i64 dop, .int .i64 dn, .string dnm, .slice dA dk dc] := by rw [← hW]; exact ((Blk.new _ _ _).alloc _).alloc _
  have B1 : Blk W (w2.heap.size + 1) 3 #[.int .i64 b, .int .i64 c] := by rw [← hW]; exact (Blk.new' _ _ _ (by simp)).alloc _
  have B2 : Blk W (w2.heap.size + 1 + 1) 3 #[.int .i64 a] := by rw [← hW]; exact (Blk.new' _ _ _ (by simp))
  clear hW
  have hs1 := slr_lit (l := [b, c]) B1 rfl rfl B1.lt
  have hs2 := slr_lit (l := [a]) B2 rfl rfl B2.lt
  refine (Eval_any X W _ _ 2 1 2 1 [b, c] [a] _ _ _ _ ⟨hs1, hs2, HR.out.1, (HR.out.on (Fr.ext hE)).2.2⟩).mono ?_
  rintro e w3 ⟨rfl, hb3⟩
  have hE3 : Ext w2 w3 := hE.trans (Fr.of hb3)
  have B3 := B0.onE (Fr.of hb3)
  obtain ⟨b3, b3f, b3l⟩ := B3.two
  have HE := hide hE3
  have HB := hide B3
  clear hs1 hs2 hb3 hE hE3 B0 B1 B2 B3
  go_wp2_with (fail)
  generalize hW : World.alloc _ _ = V
  have hE : Ext w3 V := by rw [← hW]; exact ((Fr.refl _ _).alloc _).alloc _
  have B1 : Blk V w3.heap.size 3 #[.int .i64 b, .int .i64 c] := by rw [← hW]; exact (Blk.new _ _ _).alloc _
  have B2 : Blk V (w3.heap.size + 1) 3 #[.int .i64 a] := by rw [← hW]; exact (Blk.new' _ _ _ (by simp))
  clear hW b3 b3f b3l
  have hs1 := slr_lit (l := [b, c]) B1 rfl rfl B1.lt
  have hs2 := slr_lit (l := [a]) B2 rfl rfl B2.lt
  refine (ref_of X V _ _ 2 1 2 1 [b, c] [a] _ _ _ _ ⟨hs1, hs2, HR.out.1, ((HR.out.on (Fr.ext HE.out)).on (Fr.ext hE)).2.2⟩ ⟨fits2 HF.out.2.1 HF.out.2.2, fits1 HF.out.1, HR.out.2.1⟩).mono ?_
  rintro e w4 ⟨rfl, hb4⟩
  have hE4 : Ext w2 w4 := HE.out.trans (hE.trans (Fr.of hb4))
  have HE4 := hide hE4
  clear hs1 hs2 hb4 hE hE4 B1 B2 HB
  generalize ev [b, c] [a] X = r at *
  go_wp2_with (fail)
  refine (awake_any _).mono ?_
  rintro e w6 ⟨rfl, hb6⟩
  have HB6 := hide hb6
  clear hb6
  go_wp2
  go_ret
  exact ⟨rfl, (hb.trans ((Fr.ext HE4.out).mono hb.size)).trans (HB6.out.mono (Nat.le_trans hb.size HE4.out.size))⟩

set_option maxHeartbeats 1600000 in
theorem valueVariables_any (A : Option Addr) (n c0 : Nat) (l : List Int) (a b c d : Int) (w : World) (h : SlR (EF cInt) 1 w w.heap.size A n l) (hc : n ≤ c0) (hf : Fits a ∧ Fits b ∧ Fits c) :
    Calls Try.prog 14 #[.slice A n c0, .int .i64 a, .int .i64 b, .int .i64 c, .int .i64 d] w fun e w' => e = .returned (.bool true) ∧ Below w.heap.size w w' := by
  have HF := hide hf
  clear hf
  go_enter Try.func14, Try.ntmps14
  go_wp2_with (fail)
  refine (made_any A n c0 l _ h hc).mono ?_
  rintro e w1 ⟨x, x0, x1, x2, x3, rfl, hx, hr, hb⟩
  have HX := hide (And.intro (res_ok x hx) (res_fit x hx))
  go_wp2_with (fail)
  refine (res_of x _ x0 x1 x2 x3 hx (VE.rep_mono (fun b hb => hb.2) _ _ hr)).mono ?_
  rintro e w2 ⟨d0, d1, d2, d3, rfl, hr2, hb2⟩
  replace hb := hb.trans (hb2.mono hb.size)
  have HR := hide (show Rx w2 (res x) [d0, d1, d2, d3] from ⟨HX.out.1, HX.out.2, VE.rep_mono (fun b hb => hb.2) _ _ hr2⟩)
  clear hr hr2 hb2 hx h HX
  generalize res x = X at *
  obtain ⟨dop, dn, dnm, dA, dk, dc, hd⟩ := VE.rep_four _ _ HR.out.2.2
  injection hd with hd0 hd
  injection hd with hd1 hd
  injection hd with hd2 hd
  injection hd with hd3 hd
  subst hd0 hd1 hd2 hd3
  clear hd
  go_wp2_with (fail)
  generalize hW : World.alloc _ _ = W
  have hE : Ext w2 W := by rw [← hW]; exact (((Fr.refl _ _).alloc _).alloc _).alloc _
  have B0 : Blk W w2.heap.size 50 #[.int .i64 dop, .int .i64 dn, .string dnm, .slice dA dk dc] := by rw [← hW]; exact ((Blk.new _ _ _).alloc _).alloc _
  have B1 : Blk W (w2.heap.size + 1) 3 #[.int .i64 b, .int .i64 c] := by rw [← hW]; exact (Blk.new' _ _ _ (by simp)).alloc _
  have B2 : Blk W (w2.heap.size + 1 + 1) 3 #[.int .i64 a] := by rw [← hW]; exact (Blk.new' _ _ _ (by simp))
  clear hW
  have hs1 := slr_lit (l := [b, c]) B1 rfl rfl B1.lt
  have hs2 := slr_lit (l := [a]) B2 rfl rfl B2.lt
  refine (Eval_any X W _ _ 2 1 2 1 [b, c] [a] _ _ _ _ ⟨hs1, hs2, HR.out.1, (HR.out.on (Fr.ext hE)).2.2⟩).mono ?_
  rintro e w3 ⟨rfl, hb3⟩
  have hE3 : Ext w2 w3 := hE.trans (Fr.of hb3)
  have B3 := B0.onE (Fr.of hb3)
  obtain ⟨b3, b3f, b3l⟩ := B3.two
  have HE := hide hE3
  have HB := hide B3
  clear hs1 hs2 hb3 hE hE3 B0 B1 B2 B3
  go_wp2_with (fail)
  generalize hW : World.alloc _ _ = V
  have hE : Ext w3 V := by rw [← hW]; exact ((Fr.refl _ _).alloc _).alloc _
  have B1 : Blk V w3.heap.size 3 #[.int .i64 b, .int .i64 c, .int .i64 d] := by rw [← hW]; exact (Blk.new _ _ _).alloc _
  have B2 : Blk V (w3.heap.size + 1) 3 #[.int .i64 a, .int .i64 d] := by rw [← hW]; exact (Blk.new' _ _ _ (by simp))
  clear hW b3 b3f b3l
  have hs1 := slr_lit (l := [b, c, d]) B1 rfl rfl B1.lt
  have hs2 := slr_lit (l := [a, d]) B2 rfl rfl B2.lt
  refine (Eval_any X V _ _ 3 2 3 2 [b, c, d] [a, d] _ _ _ _ ⟨hs1, hs2, ok_more _ HR.out.1, ((HR.out.on (Fr.ext HE.out)).on (Fr.ext hE)).2.2⟩).mono ?_
  rw [← ev_more a b c d X HR.out.1]
  rintro e w4 ⟨rfl, hb4⟩
  have hE4 : Ext w2 w4 := HE.out.trans (hE.trans (Fr.of hb4))
  have HE4 := hide hE4
  clear hs1 hs2 hb4 hE hE4 B1 B2 HB
  generalize ev [b, c] [a] X = r at *
  go_wp2_with (fail)
  refine (awake_any _).mono ?_
  rintro e w6 ⟨rfl, hb6⟩
  have HB6 := hide hb6
  clear hb6
  go_wp2
  go_ret
  exact ⟨rfl, (hb.trans ((Fr.ext HE4.out).mono hb.size)).trans (HB6.out.mono (Nat.le_trans hb.size HE4.out.size))⟩

end Go.Proofs.Ytbbjncjkddekfaa

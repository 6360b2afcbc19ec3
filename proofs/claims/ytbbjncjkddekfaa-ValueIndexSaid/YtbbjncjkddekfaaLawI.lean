/- The laws ValueTruth and ValueIndex: walks. -/
import Derived.Test.YtbbjncjkddekfaaLawH
import Derived.Test.YtbbjncjkddekfaaIdx
namespace Go.Proofs.Ytbbjncjkddekfaa
open Go.RowKit
attribute [local go_sem ↓] run_max2 run_min2

theorem ev_nn (g l : List Int) (x : VE) : ev g l (.un 4 (.un 4 x)) = if (ev g l x).2 ≠ 0 then (0, (ev g l x).2) else (truth ((ev g l x).1 != 0), 0) := by
  generalize hr : ev g l x = r
  obtain ⟨v, f⟩ := r
  simp only [ev, hr]
  by_cases hf : f = 0
  · subst hf
    by_cases hv : v = 0
    · subst hv; simp [truth]
    · simp [truth, hv]
  · simp [hf]
theorem arith_fault (op a b : Int) : (arith op a b).2 ≠ 0 → (arith op a b).1 = 0 := by
  unfold arith
  repeat' split
  all_goals simp
theorem ev_fault (g l : List Int) : ∀ x : VE, (ev g l x).2 ≠ 0 → (ev g l x).1 = 0
  | .num _ => by simp [ev]
  | .nam _ => by simp [ev]
  | .loc _ => by simp [ev]
  | .glo _ => by simp [ev]
  | .un op x => by
    unfold ev
    repeat' split
    all_goals simp
  | .bin op x y => by
    unfold ev
    repeat' split
    all_goals first | exact arith_fault _ _ _ | simp
theorem arith_truth (op a b : Int) (h : 10 ≤ op ∧ op ≤ 15) : (arith op a b).1 = 0 ∨ (arith op a b).1 = 1 := by
  unfold arith truth
  rw [if_neg (by omega), if_neg (by omega), if_neg (by omega), if_neg (by omega), if_neg (by omega)]
  repeat' split
  all_goals simp
theorem truth_01 (b : Bool) : truth b = 0 ∨ truth b = 1 := by cases b <;> simp [truth]
theorem ev_truth {g l : List Int} {w : World} {P : Nat → Prop} {op n : Int} {nm : ByteArray} {v : Value} : ∀ x : VE, x.ok 2 1 → x.rep w P [.int .i64 op, .int .i64 n, .string nm, v] → op = 4 ∨ (10 ≤ op ∧ op ≤ 17) → (ev g l x).1 = 0 ∨ (ev g l x).1 = 1
  | .num _, _, h, ho => by obtain ⟨_, _, _, h⟩ := h; injection h with h; injection h with _ h; omega
  | .nam _, hk, _, _ => hk.elim
  | .loc _, _, h, ho => by obtain ⟨_, _, _, h⟩ := h; injection h with h; injection h with _ h; omega
  | .glo _, _, h, ho => by obtain ⟨_, _, _, h⟩ := h; injection h with h; injection h with _ h; omega
  | .un p x, hk, h, ho => by
    obtain ⟨_, _, _, _, _, _, _, _, _, h, _⟩ := h
    injection h with h
    injection h with _ h
    have hk1 := hk.1
    have hp : p = 4 := by omega
    subst hp
    unfold ev
    repeat' split
    all_goals first | omega | exact truth_01 _ | simp
  | .bin p x y, hk, h, ho => by
    obtain ⟨_, _, _, _, _, _, _, _, _, _, _, _, _, h, _⟩ := h
    injection h with h
    injection h with _ h
    have hk1 := hk.1
    have hp : 10 ≤ p ∧ p ≤ 17 := by omega
    clear h ho hk
    unfold ev
    repeat' split
    all_goals first | exact truth_01 _ | (simp; done) | exact arith_truth _ _ _ (by omega)

theorem slr_blk {α : Type} {f : α → List Value} {z : Nat} {w : World} {g : Nat} {t : TypeId} {cs : Array Value} {l : List α} {B n : Nat} (h : Blk w g t cs) (hc : cs.toList = l.flatMap f) (hz : ∀ x ∈ l, (f x).length = z) (hl : l.length = n) (hB : g < B) : SlR (EF f) z w B (some ⟨g, 0, none⟩) n l := by
  refine ⟨hl, fun _ => ⟨g, 0, rfl, hB, fun k x hx => ⟨f x, rfl, hz x (List.mem_of_getElem? hx), fun j v hj => ?_⟩⟩⟩
  have hjz : j < z := by
    have := hz x (List.mem_of_getElem? hx)
    have := (List.getElem?_eq_some_iff.1 hj).1
    omega
  have := flatMap_at f z l hz k x hx j hjz
  rw [hj, ← hc] at this
  rw [h.cell, Nat.zero_add, ← Array.getElem?_toList]
  exact this

set_option maxHeartbeats 3200000 in
theorem valueTruth_any (A : Option Addr) (n c0 : Nat) (l : List Int) (a b c : Int) (w : World) (h : SlR (EF cInt) 1 w w.heap.size A n l) (hc : n ≤ c0) (hf : Fits a ∧ Fits b ∧ Fits c) :
    Calls Try.prog 12 #[.slice A n c0, .int .i64 a, .int .i64 b, .int .i64 c] w fun e w' => e = .returned (.bool true) ∧ Below w.heap.size w w' := by
  clear hf
  go_enter Try.func12, Try.ntmps12
  go_wp2_with (fail)
  refine (made_any A n c0 l _ h hc).mono ?_
  rintro e w1 ⟨x, x0, x1, x2, x3, rfl, hx, hr, hb⟩
  have HX := hide (And.intro (res_ok x hx) (res_fit x hx))
  go_wp2_with (fail)
  refine (res_of x _ x0 x1 x2 x3 hx (VE.rep_mono (fun b hb => hb.2) _ _ hr)).mono ?_
  rintro e w2 ⟨d0, d1, d2, d3, rfl, hr2, hb2⟩
  replace hb := hb.trans (hb2.mono hb.size)
  have HR := hide (show Rx w2 (res x) [d0, d1, d2, d3] from ⟨HX.out.1, HX.out.2, VE.rep_mono (fun b hb => hb.2) _ _ hr2⟩)
  clear hr hr2 hb2 hx h HX
  generalize res x = X at *
  obtain ⟨dop, dn, dnm, dA, dk, dc, hd⟩ := VE.rep_four _ _ HR.out.2.2
  injection hd with hd0 hd
  injection hd with hd1 hd
  injection hd with hd2 hd
  injection hd with hd3 hd
  subst hd0 hd1 hd2 hd3
  clear hd
  have HT := hide (ev_truth (g := [b, c]) (l := [a]) X HR.out.1 HR.out.2.2)
  have HFa := hide (ev_fault [b, c] [a] X)
  have HN := hide (ev_nn [b, c] [a] X)
  go_wp2_with (fail)
  generalize hW : World.alloc _ _ = W
  have hE : Ext w2 W := by rw [← hW]; exact (((Fr.refl _ _).alloc _).alloc _).alloc _
  have B0 : Blk W w2.heap.size 50 #[.int .i64 dop, .int .i64 dn, .string dnm, .slice dA dk dc] := by rw [← hW]; exact ((Blk.new _ _ _).alloc _).alloc _
  have B1 : Blk W (w2.heap.size + 1) 3 #[.int .i64 b, .int .i64 c] := by rw [← hW]; exact (Blk.new' _ _ _ (by simp)).alloc _
  have B2 : Blk W (w2.heap.size + 1 + 1) 3 #[.int .i64 a] := by rw [← hW]; exact (Blk.new' _ _ _ (by simp))
  clear hW
  have hs1 := slr_lit (l := [b, c]) B1 rfl rfl B1.lt
  have hs2 := slr_lit (l := [a]) B2 rfl rfl B2.lt
  refine (Eval_any X W _ _ 2 1 2 1 [b, c] [a] _ _ _ _ ⟨hs1, hs2, HR.out.1, (HR.out.on (Fr.ext hE)).2.2⟩).mono ?_
  rintro e w3 ⟨rfl, hb3⟩
  have hE3 : Ext w2 w3 := hE.trans (Fr.of hb3)
  have B3 := B0.onE (Fr.of hb3)
  obtain ⟨b3, b3f, b3l⟩ := B3.two
  have HE := hide hE3
  have HB := hide B3
  clear hs1 hs2 hb3 hE hE3 B0 B1 B2 B3
  go_wp2_with (fail)
  generalize hW : World.alloc _ _ = V
  have hE : Ext w3 V := by rw [← hW]; exact ((((Fr.refl _ _).alloc _).alloc _).alloc _).alloc _
  have C1 : Blk V w3.heap.size 50 #[.int .i64 dop, .int .i64 dn, .string dnm, .slice dA dk dc] := by rw [← hW]; exact (((Blk.new _ _ _).alloc _).alloc _).alloc _
  have C2 : Blk V (w3.heap.size + 1) 50 #[.int .i64 4, .int .i64 0, .string ⟨#[]⟩, .slice (some ⟨w3.heap.size, 0, none⟩) 1 1] := by rw [← hW]; exact ((Blk.new' _ _ _ (by simp)).alloc _).alloc _
  have B1 : Blk V (w3.heap.size + 1 + 1) 3 #[.int .i64 b, .int .i64 c] := by rw [← hW]; exact (Blk.new' _ _ _ (by simp)).alloc _
  have B2 : Blk V (w3.heap.size + 1 + 1 + 1) 3 #[.int .i64 a] := by rw [← hW]; exact (Blk.new' _ _ _ (by simp))
  clear hW b3 b3f b3l
  have hs1 := slr_lit (l := [b, c]) B1 rfl rfl B1.lt
  have hs2 := slr_lit (l := [a]) B2 rfl rfl B2.lt
  have hXV := ((HR.out.on (Fr.ext HE.out)).on (Fr.ext hE)).2.2
  refine (Eval_any (.un 4 (.un 4 X)) V _ _ 2 1 2 1 [b, c] [a] _ _ _ _ ⟨hs1, hs2, ⟨by omega, by omega, HR.out.1⟩, ⟨0, ⟨#[]⟩, w3.heap.size + 1, 0, 1, _, _, _, _, rfl, C2.lt, ⟨0, ⟨#[]⟩, w3.heap.size, 0, 1, _, _, _, _, rfl, C1.lt, hXV, C1.cell 0, C1.cell 1, C1.cell 2, C1.cell 3⟩, C2.cell 0, C2.cell 1, C2.cell 2, C2.cell 3⟩⟩).mono ?_
  rintro e w4 ⟨rfl, hb4⟩
  have hE4 : Ext w2 w4 := HE.out.trans (hE.trans (Fr.of hb4))
  obtain ⟨b4, b4f, b4l⟩ := (HB.out.onE (hE.trans (Fr.of hb4))).two
  have HE4 := hide hE4
  clear hs1 hs2 hb4 hE hE4 B1 B2 C1 C2 HB hXV
  rw [HN.out]
  clear HN
  generalize ev [b, c] [a] X = r at *
  obtain ⟨v, f⟩ := r
  by_cases hf : f = 0
  case neg =>
    have q5 : (f != 0) = true := by simpa using hf
    have hv : v = 0 := HFa.out hf
    subst hv
    simp only [ne_eq, hf, not_false_eq_true, if_true]
    clear hf HT HFa
    go_wp2_with (fail)
    refine (awake_any _).mono ?_
    rintro e w6 ⟨rfl, hb6⟩
    have HB6 := hide hb6
    clear hb6
    go_wp2
    go_ret
    exact ⟨rfl, (hb.trans ((Fr.ext HE4.out).mono hb.size)).trans (HB6.out.mono (Nat.le_trans hb.size HE4.out.size))⟩
  subst hf
  simp only [ne_eq, not_true_eq_false, if_false]
  have parts : (∃ m : Int, truth (v != 0) = m ∧ (v = 0 ∧ m = 0 ∨ v = 1 ∧ m = 1 ∨ (v == 0) = false ∧ (v != 0) = true ∧ (v == 1) = false ∧ m = 1 ∧ ¬ (dop = 4 ∨ (10 ≤ dop ∧ dop ≤ 17)))) := by
    refine ⟨_, rfl, ?_⟩
    by_cases h0 : v = 0
    · exact .inl ⟨h0, by subst h0; rfl⟩
    by_cases h1 : v = 1
    · exact .inr (.inl ⟨h1, by subst h1; rfl⟩)
    have h2 : (v != 0) = true := by simpa using h0
    refine .inr (.inr ⟨by simpa using h0, h2, by simpa using h1, by rw [h2]; rfl, fun ht => ?_⟩)
    have := HT.out ht
    simp only [] at this
    omega
  have ops : ((dop == 4) = true ∨ (dop == 4) = false ∧ decide (dop ≥ 10) = false ∨ (dop == 4) = false ∧ decide (dop ≥ 10) = true ∧ decide (dop ≤ 17) = false ∨ (dop == 4) = false ∧ decide (dop ≥ 10) = true ∧ decide (dop ≤ 17) = true) := by
    simp only [beq_iff_eq, beq_eq_false_iff_ne, decide_eq_false_iff_not, decide_eq_true_eq]
    omega
  obtain ⟨m, hm, hp⟩ := parts
  rw [hm]
  have HP := hide hp
  have HO := hide ops
  clear hm hp ops HT HFa
  have fin : ∀ w6, Below w4.heap.size w4 w6 → Below w.heap.size w w6 := fun w6 h6 => (hb.trans ((Fr.ext HE4.out).mono hb.size)).trans (h6.mono (Nat.le_trans hb.size HE4.out.size))
  have HG := hide fin
  clear fin hb
  rcases HO.out with z1 | ⟨z1, z2⟩ | ⟨z1, z2, z3⟩ | ⟨z1, z2, z3⟩
  all_goals
    rcases HP.out with ⟨h1, h2⟩ | ⟨h1, h2⟩ | ⟨h1, h1', h2, h3, h4⟩
    · subst h1 h2
      clear HO HP
      go_wp2_with (fail)
      refine (awake_any _).mono ?_
      rintro e w6 ⟨rfl, hb6⟩
      have HB6 := hide hb6
      clear hb6
      go_wp2
      go_ret
      exact ⟨rfl, HG.out _ HB6.out⟩
    · subst h1 h2
      clear HO HP
      go_wp2_with (fail)
      refine (awake_any _).mono ?_
      rintro e w6 ⟨rfl, hb6⟩
      have HB6 := hide hb6
      clear hb6
      go_wp2
      go_ret
      exact ⟨rfl, HG.out _ HB6.out⟩
    · subst h3
      clear HO HP
      first
      | (exfalso
         simp at z1 z2 z3
         omega)
      | (exfalso
         simp at z1
         omega)
      | (clear h4
         go_wp2_with (fail)
         refine (awake_any _).mono ?_
         rintro e w6 ⟨rfl, hb6⟩
         have HB6 := hide hb6
         clear hb6
         go_wp2
         go_ret
         exact ⟨rfl, HG.out _ HB6.out⟩)
end Go.Proofs.Ytbbjncjkddekfaa

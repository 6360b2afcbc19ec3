/- The walks of the source's expressions: each is a well-formed expression of names and numbers, in new blocks. -/
import Derived.Test.YtbbjncjkddekfaaSrc
namespace Go.Proofs.Ytbbjncjkddekfaa
open Go.RowKit

theorem SrcAt.on' {w w' : World} {s g : Nat} {A : Option Addr} {n c : Nat} {l : List Int} (h : SrcAt w s A n c l) (hb : Below g w w') (hs : s < g) : SrcAt w' s A n c l := by
  have hlt := h.lt
  refine ⟨Nat.lt_of_lt_of_le h.lt hb.size, ?_, ?_, ?_, h.ls.keepF (hb.mono (by omega)), h.hn⟩
  · exact (hb.cell (p := ⟨s, 0, none⟩) hs).trans h.c0
  · obtain ⟨i, hi, hc⟩ := h.c1
    exact ⟨i, hi, (hb.cell (p := ⟨s, 1, none⟩) hs).trans hc⟩
  · exact (hb.frozen (p := ⟨s, 1, none⟩) hs).trans h.fz
theorem Else.then_ {s : Nat} {w w2 v : World} (h : Else s w w2) (hb : Below w.heap.size w2 v) : Else s w v :=
  ⟨hb.os.trans h.os, hb.tape.trans h.tape, hb.output.trans h.output, Nat.le_trans h.size hb.size, fun k hk hn => (hb.block k hk).trans (h.block k hk hn)⟩
theorem Else.frozen {s : Nat} {a b : World} (h : Else s a b) {k j : Nat} (hk : k < a.heap.size) (hn : k ≠ s) : b.frozen? ⟨k, j, none⟩ = a.frozen? ⟨k, j, none⟩ := by
  simp only [World.frozen?, h.block k hk hn]

/-- three names in block b -/
structure NamesAt (w : World) (s b : Nat) : Prop where
  lt : b < w.heap.size
  ne : b ≠ s
  cs : ∃ s0 s1 s2, w.cell? ⟨b, 0, none⟩ = some (.string s0) ∧ w.cell? ⟨b, 1, none⟩ = some (.string s1) ∧ w.cell? ⟨b, 2, none⟩ = some (.string s2)
theorem NamesAt.on {w w' : World} {s b : Nat} (h : NamesAt w s b) (he : Else s w w') : NamesAt w' s b := by
  obtain ⟨hl, hn, s0, s1, s2, h0, h1, h2⟩ := h
  exact ⟨Nat.lt_of_lt_of_le hl he.size, hn, s0, s1, s2, (he.cell hl hn).trans h0, (he.cell hl hn).trans h1, (he.cell hl hn).trans h2⟩

/-- the expressions that are made: of numbers and names -/
def VE.made : VE → Prop
  | .num n => 0 ≤ n ∧ n < 4611686018427387904
  | .nam _ => True
  | .loc _ => False
  | .glo _ => False
  | .un op x => (op = 3 ∨ op = 4) ∧ x.made
  | .bin op x y => (5 ≤ op ∧ op ≤ 17) ∧ x.made ∧ y.made

def SExprRes (w : World) (s : Nat) (A : Option Addr) (n c : Nat) (l : List Int) (e : Ending) (w' : World) : Prop :=
  ∃ (x : VE) (c0 c1 c2 c3 : Value), e = .returned (.agg #[c0, c1, c2, c3]) ∧ x.made ∧ x.rep w' (fun b => w.heap.size ≤ b ∧ b < w'.heap.size) [c0, c1, c2, c3] ∧ SrcAt w' s A n c l ∧ Else s w w'

theorem number_src (w : World) (s : Nat) (A : Option Addr) (n c : Nat) (l : List Int) (h : SrcAt w s A n c l) :
    Calls Try.prog 55 #[.pointer (some ⟨s, 0, none⟩)] w (NextRes w s A n c l 4611686018427387904) := by
  have H := hide h
  clear h
  go_enter Try.func55, Try.ntmps55
  go_wp2_with (fail)
  refine (next_any _ s A n c l 8 H.out (by omega) (by omega)).mono ?_
  rintro e w1 ⟨k, rfl, hk0, hk1, h1, he1⟩
  have H1 := hide (And.intro h1 he1)
  clear h1 he1
  by_cases hk : k = 1
  · have q : (k == 1) = true := by simpa using hk
    go_wp2_with (fail)
    refine (next_any _ s A n c l 4611686018427387904 H1.out.1 (by omega) (by omega)).mono ?_
    rintro e w2 ⟨k2, rfl, hk2, hk3, h2, he2⟩
    have H2 := hide (And.intro h2 he2)
    clear h2 he2
    go_wp2
    go_ret
    exact ⟨k2, rfl, hk2, hk3, H2.out.1, H1.out.2.trans H2.out.2⟩
  · have q : (k == 1) = false := by simpa using hk
    go_wp2_with (fail)
    refine (next_any _ s A n c l 4 H1.out.1 (by omega) (by omega)).mono ?_
    rintro e w2 ⟨k2, rfl, hk2, hk3, h2, he2⟩
    have H2 := hide (And.intro h2 he2)
    clear h2 he2
    go_wp2
    go_ret
    exact ⟨k2, rfl, hk2, by omega, H2.out.1, H1.out.2.trans H2.out.2⟩

/-- the result's block, where only block s of the elder ones may turn -/
theorem new4E {w w2 : World} {s : Nat} {v0 v1 v2 v3 : Value} {t : TypeId} (he : Else s (w.alloc (.cells #[v0, v1, v2, v3] t)) w2) (hs : s < w.heap.size) : w.heap.size < w2.heap.size ∧
    (w2.cell? ⟨w.heap.size, 0, none⟩ = some v0 ∧ w2.cell? ⟨w.heap.size, 1, none⟩ = some v1 ∧ w2.cell? ⟨w.heap.size, 2, none⟩ = some v2 ∧ w2.cell? ⟨w.heap.size, 3, none⟩ = some v3) ∧
    w2.frozen? ⟨w.heap.size, 0, none⟩ = false ∧ w2.frozen? ⟨w.heap.size, 1, none⟩ = false ∧ w2.frozen? ⟨w.heap.size, 2, none⟩ = false ∧ w2.frozen? ⟨w.heap.size, 3, none⟩ = false := by
  refine ⟨?_, ⟨?_, ?_, ?_, ?_⟩, ?_, ?_, ?_, ?_⟩
  · have := he.size
    simp at this
    omega
  all_goals first | rw [he.cell (by simp) (by omega)] | rw [he.frozen (by simp) (by omega)]
  all_goals simp [go_sem]

set_option maxHeartbeats 3200000 in
theorem sexpr_zero (w : World) (s b : Nat) (A : Option Addr) (n c : Nat) (l : List Int) (d : Nat) (hd : d ≤ 5) (h : SrcAt w s A n c l) (hN : NamesAt w s b)
    (IH : d ≠ 0 → ∀ w2 : World, SrcAt w2 s A n c l → NamesAt w2 s b → Calls Try.prog 50 #[.pointer (some ⟨s, 0, none⟩), .slice (some ⟨b, 0, none⟩) 3 3, .int .i64 ((d : Int) - 1)] w2 (SExprRes w2 s A n c l)) :
    Calls Try.prog 50 #[.pointer (some ⟨s, 0, none⟩), .slice (some ⟨b, 0, none⟩) 3 3, .int .i64 d] w (SExprRes w s A n c l) := by
  have HI := hide IH
  clear IH
  have HW := hide (show SrcAt (w.alloc (.cells #[.int .i64 0, .int .i64 0, .string ⟨#[]⟩, .slice none 0 0] 50)) s A n c l ∧ NamesAt (w.alloc (.cells #[.int .i64 0, .int .i64 0, .string ⟨#[]⟩, .slice none 0 0] 50)) s b ∧ Else s w (w.alloc (.cells #[.int .i64 0, .int .i64 0, .string ⟨#[]⟩, .slice none 0 0] 50)) ∧ s < w.heap.size from
    have hbW := (Below.refl w.heap.size w).alloc (Nat.le_refl _) (.cells #[.int .i64 0, .int .i64 0, .string ⟨#[]⟩, .slice none 0 0] 50)
    ⟨h.on hbW, hN.on (.of hbW), .of hbW, h.lt⟩)
  clear h hN
  go_enter Try.func50, Try.ntmps50
  go_wp2_with (fail)
  refine (next_any _ s A n c l 10 HW.out.1 (by omega) (by omega)).mono ?_
  rintro e w1 ⟨k1, rfl, ha1, hb1, h, he⟩
  have H1 := hide (And.intro h he)
  clear h he
  by_cases hd0 : d = 0
  · subst hd0
    clear HI hd ha1 hb1
    go_wp2_with (fail)
    refine (next_any _ s A n c l 2 H1.out.1 (by omega) (by omega)).mono ?_
    rintro e w2 ⟨k2, rfl, ha2, hb2, h, he⟩
    have H2 := hide (And.intro h (H1.out.2.trans he))
    clear h he
    by_cases hk2 : k2 = 1
    · have z2 : (k2 == 1) = true := by simpa using hk2
      have HK2 := hide hk2
      clear hk2 ha2 hb2
      go_wp2_with (fail)
      refine (next_any _ s A n c l 3 H2.out.1 (by omega) (by omega)).mono ?_
      rintro e w3 ⟨k3, rfl, ha3, hb3, h, he⟩
      have H3 := hide (And.intro h (H2.out.2.trans he))
      clear h he
      obtain ⟨hNl, hNn, s0, s1, s2, n0, n1, n2⟩ := HW.out.2.1.on H3.out.2
      obtain ⟨hlt, ⟨g0, g1, g2, g3⟩, q0, q1, q2, q3⟩ := new4E H3.out.2 HW.out.2.2.2
      obtain hk3 | hk3 | hk3 : k3 = 0 ∨ k3 = 1 ∨ k3 = 2 := by omega
      · subst hk3
        clear ha3 hb3
        go_wp2
        obtain ⟨e0, e1, e2, e3⟩ := fill4_cells g0 g1 g2 g3 (.int .i64 2) (.int .i64 0) (.string s0) (.slice none 0 0)
        have hbV : Below w.heap.size w3 (fill4 w3 w.heap.size (.int .i64 2) (.int .i64 0) (.string s0) (.slice none 0 0)) := fill4_below (Below.refl _ _) _ _ _ _ _ (Nat.le_refl _)
        have HV := hide hbV
        clear hbV g0 g1 g2 g3 q0 q1 q2 q3
        rw [show ((((w3.setCell ⟨w.heap.size, 0, none⟩ (.int .i64 2)).setCell ⟨w.heap.size, 1, none⟩ (.int .i64 0)).setCell ⟨w.heap.size, 2, none⟩ (.string s0)).setCell ⟨w.heap.size, 3, none⟩ (.slice none 0 0)) = fill4 w3 w.heap.size (.int .i64 2) (.int .i64 0) (.string s0) (.slice none 0 0) from rfl]
        generalize fill4 w3 w.heap.size (.int .i64 2) (.int .i64 0) (.string s0) (.slice none 0 0) = V at *
        refine bodyPost_ret (v := .agg #[(.int .i64 2), (.int .i64 0), (.string s0), (.slice none 0 0)]) (by simp [results, Try.results50, go_sem, e0, e1, e2, e3]) rfl ?_
        obtain ⟨h3, he3⟩ := H3.out
        exact ⟨.nam s0, _, _, _, _, rfl, trivial, ⟨_, _, _, rfl⟩, h3.on' HV.out HW.out.2.2.2, (HW.out.2.2.1.trans he3).then_ HV.out⟩
      · subst hk3
        clear ha3 hb3
        go_wp2
        obtain ⟨e0, e1, e2, e3⟩ := fill4_cells g0 g1 g2 g3 (.int .i64 2) (.int .i64 0) (.string s1) (.slice none 0 0)
        have hbV : Below w.heap.size w3 (fill4 w3 w.heap.size (.int .i64 2) (.int .i64 0) (.string s1) (.slice none 0 0)) := fill4_below (Below.refl _ _) _ _ _ _ _ (Nat.le_refl _)
        have HV := hide hbV
        clear hbV g0 g1 g2 g3 q0 q1 q2 q3
        rw [show ((((w3.setCell ⟨w.heap.size, 0, none⟩ (.int .i64 2)).setCell ⟨w.heap.size, 1, none⟩ (.int .i64 0)).setCell ⟨w.heap.size, 2, none⟩ (.string s1)).setCell ⟨w.heap.size, 3, none⟩ (.slice none 0 0)) = fill4 w3 w.heap.size (.int .i64 2) (.int .i64 0) (.string s1) (.slice none 0 0) from rfl]
        generalize fill4 w3 w.heap.size (.int .i64 2) (.int .i64 0) (.string s1) (.slice none 0 0) = V at *
        refine bodyPost_ret (v := .agg #[(.int .i64 2), (.int .i64 0), (.string s1), (.slice none 0 0)]) (by simp [results, Try.results50, go_sem, e0, e1, e2, e3]) rfl ?_
        obtain ⟨h3, he3⟩ := H3.out
        exact ⟨.nam s1, _, _, _, _, rfl, trivial, ⟨_, _, _, rfl⟩, h3.on' HV.out HW.out.2.2.2, (HW.out.2.2.1.trans he3).then_ HV.out⟩
      · subst hk3
        clear ha3 hb3
        go_wp2
        obtain ⟨e0, e1, e2, e3⟩ := fill4_cells g0 g1 g2 g3 (.int .i64 2) (.int .i64 0) (.string s2) (.slice none 0 0)
        have hbV : Below w.heap.size w3 (fill4 w3 w.heap.size (.int .i64 2) (.int .i64 0) (.string s2) (.slice none 0 0)) := fill4_below (Below.refl _ _) _ _ _ _ _ (Nat.le_refl _)
        have HV := hide hbV
        clear hbV g0 g1 g2 g3 q0 q1 q2 q3
        rw [show ((((w3.setCell ⟨w.heap.size, 0, none⟩ (.int .i64 2)).setCell ⟨w.heap.size, 1, none⟩ (.int .i64 0)).setCell ⟨w.heap.size, 2, none⟩ (.string s2)).setCell ⟨w.heap.size, 3, none⟩ (.slice none 0 0)) = fill4 w3 w.heap.size (.int .i64 2) (.int .i64 0) (.string s2) (.slice none 0 0) from rfl]
        generalize fill4 w3 w.heap.size (.int .i64 2) (.int .i64 0) (.string s2) (.slice none 0 0) = V at *
        refine bodyPost_ret (v := .agg #[(.int .i64 2), (.int .i64 0), (.string s2), (.slice none 0 0)]) (by simp [results, Try.results50, go_sem, e0, e1, e2, e3]) rfl ?_
        obtain ⟨h3, he3⟩ := H3.out
        exact ⟨.nam s2, _, _, _, _, rfl, trivial, ⟨_, _, _, rfl⟩, h3.on' HV.out HW.out.2.2.2, (HW.out.2.2.1.trans he3).then_ HV.out⟩
    · have z2 : (k2 == 1) = false := by simpa using hk2
      have HK2 := hide hk2
      clear hk2 ha2 hb2
      go_wp2_with (fail)
      refine (number_src _ s A n c l H2.out.1).mono ?_
      rintro e w3 ⟨k3, rfl, ha3, hb3, h, he⟩
      have H3 := hide (And.intro h (H2.out.2.trans he))
      have HK3 := hide (And.intro ha3 hb3)
      clear h he ha3 hb3
      obtain ⟨hlt, ⟨g0, g1, g2, g3⟩, q0, q1, q2, q3⟩ := new4E H3.out.2 HW.out.2.2.2
      go_wp2
      obtain ⟨e0, e1, e2, e3⟩ := fill4_cells g0 g1 g2 g3 (.int .i64 1) (.int .i64 k3) (.string ⟨#[]⟩) (.slice none 0 0)
      have hbV : Below w.heap.size w3 (fill4 w3 w.heap.size (.int .i64 1) (.int .i64 k3) (.string ⟨#[]⟩) (.slice none 0 0)) := fill4_below (Below.refl _ _) _ _ _ _ _ (Nat.le_refl _)
      have HV := hide hbV
      clear hbV g0 g1 g2 g3 q0 q1 q2 q3
      rw [show ((((w3.setCell ⟨w.heap.size, 0, none⟩ (.int .i64 1)).setCell ⟨w.heap.size, 1, none⟩ (.int .i64 k3)).setCell ⟨w.heap.size, 2, none⟩ (.string ⟨#[]⟩)).setCell ⟨w.heap.size, 3, none⟩ (.slice none 0 0)) = fill4 w3 w.heap.size (.int .i64 1) (.int .i64 k3) (.string ⟨#[]⟩) (.slice none 0 0) from rfl]
      generalize fill4 w3 w.heap.size (.int .i64 1) (.int .i64 k3) (.string ⟨#[]⟩) (.slice none 0 0) = V at *
      refine bodyPost_ret (v := .agg #[(.int .i64 1), (.int .i64 k3), (.string ⟨#[]⟩), (.slice none 0 0)]) (by simp [results, Try.results50, go_sem, e0, e1, e2, e3]) rfl ?_
      obtain ⟨h3, he3⟩ := H3.out
      exact ⟨.num k3, _, _, _, _, rfl, HK3.out, ⟨_, _, _, rfl⟩, h3.on' HV.out HW.out.2.2.2, (HW.out.2.2.1.trans he3).then_ HV.out⟩
  have z1 : ((d : Int) == 0) = false := by simp; omega
  have zd : wrap64 ((d : Int) - 1) = (d : Int) - 1 := IntWalk.wrap64_in _ (by omega)
  have HD := hide hd0
  clear hd0 hd
  by_cases hk1 : k1 < 2
  · have z3 : decide (k1 < 2) = true := by simpa using hk1
    clear ha1 hb1
    go_wp2_with (fail)
    refine (next_any _ s A n c l 2 H1.out.1 (by omega) (by omega)).mono ?_
    rintro e w2 ⟨k2, rfl, ha2, hb2, h, he⟩
    have H2 := hide (And.intro h (H1.out.2.trans he))
    clear h he
    by_cases hk2 : k2 = 1
    · have z2 : (k2 == 1) = true := by simpa using hk2
      have HK2 := hide hk2
      clear hk2 ha2 hb2
      go_wp2_with (fail)
      refine (next_any _ s A n c l 3 H2.out.1 (by omega) (by omega)).mono ?_
      rintro e w3 ⟨k3, rfl, ha3, hb3, h, he⟩
      have H3 := hide (And.intro h (H2.out.2.trans he))
      clear h he
      obtain ⟨hNl, hNn, s0, s1, s2, n0, n1, n2⟩ := HW.out.2.1.on H3.out.2
      obtain ⟨hlt, ⟨g0, g1, g2, g3⟩, q0, q1, q2, q3⟩ := new4E H3.out.2 HW.out.2.2.2
      obtain hk3 | hk3 | hk3 : k3 = 0 ∨ k3 = 1 ∨ k3 = 2 := by omega
      · subst hk3
        clear ha3 hb3
        go_wp2
        obtain ⟨e0, e1, e2, e3⟩ := fill4_cells g0 g1 g2 g3 (.int .i64 2) (.int .i64 0) (.string s0) (.slice none 0 0)
        have hbV : Below w.heap.size w3 (fill4 w3 w.heap.size (.int .i64 2) (.int .i64 0) (.string s0) (.slice none 0 0)) := fill4_below (Below.refl _ _) _ _ _ _ _ (Nat.le_refl _)
        have HV := hide hbV
        clear hbV g0 g1 g2 g3 q0 q1 q2 q3
        rw [show ((((w3.setCell ⟨w.heap.size, 0, none⟩ (.int .i64 2)).setCell ⟨w.heap.size, 1, none⟩ (.int .i64 0)).setCell ⟨w.heap.size, 2, none⟩ (.string s0)).setCell ⟨w.heap.size, 3, none⟩ (.slice none 0 0)) = fill4 w3 w.heap.size (.int .i64 2) (.int .i64 0) (.string s0) (.slice none 0 0) from rfl]
        generalize fill4 w3 w.heap.size (.int .i64 2) (.int .i64 0) (.string s0) (.slice none 0 0) = V at *
        refine bodyPost_ret (v := .agg #[(.int .i64 2), (.int .i64 0), (.string s0), (.slice none 0 0)]) (by simp [results, Try.results50, go_sem, e0, e1, e2, e3]) rfl ?_
        obtain ⟨h3, he3⟩ := H3.out
        exact ⟨.nam s0, _, _, _, _, rfl, trivial, ⟨_, _, _, rfl⟩, h3.on' HV.out HW.out.2.2.2, (HW.out.2.2.1.trans he3).then_ HV.out⟩
      · subst hk3
        clear ha3 hb3
        go_wp2
        obtain ⟨e0, e1, e2, e3⟩ := fill4_cells g0 g1 g2 g3 (.int .i64 2) (.int .i64 0) (.string s1) (.slice none 0 0)
        have hbV : Below w.heap.size w3 (fill4 w3 w.heap.size (.int .i64 2) (.int .i64 0) (.string s1) (.slice none 0 0)) := fill4_below (Below.refl _ _) _ _ _ _ _ (Nat.le_refl _)
        have HV := hide hbV
        clear hbV g0 g1 g2 g3 q0 q1 q2 q3
        rw [show ((((w3.setCell ⟨w.heap.size, 0, none⟩ (.int .i64 2)).setCell ⟨w.heap.size, 1, none⟩ (.int .i64 0)).setCell ⟨w.heap.size, 2, none⟩ (.string s1)).setCell ⟨w.heap.size, 3, none⟩ (.slice none 0 0)) = fill4 w3 w.heap.size (.int .i64 2) (.int .i64 0) (.string s1) (.slice none 0 0) from rfl]
        generalize fill4 w3 w.heap.size (.int .i64 2) (.int .i64 0) (.string s1) (.slice none 0 0) = V at *
        refine bodyPost_ret (v := .agg #[(.int .i64 2), (.int .i64 0), (.string s1), (.slice none 0 0)]) (by simp [results, Try.results50, go_sem, e0, e1, e2, e3]) rfl ?_
        obtain ⟨h3, he3⟩ := H3.out
        exact ⟨.nam s1, _, _, _, _, rfl, trivial, ⟨_, _, _, rfl⟩, h3.on' HV.out HW.out.2.2.2, (HW.out.2.2.1.trans he3).then_ HV.out⟩
      · subst hk3
        clear ha3 hb3
        go_wp2
        obtain ⟨e0, e1, e2, e3⟩ := fill4_cells g0 g1 g2 g3 (.int .i64 2) (.int .i64 0) (.string s2) (.slice none 0 0)
        have hbV : Below w.heap.size w3 (fill4 w3 w.heap.size (.int .i64 2) (.int .i64 0) (.string s2) (.slice none 0 0)) := fill4_below (Below.refl _ _) _ _ _ _ _ (Nat.le_refl _)
        have HV := hide hbV
        clear hbV g0 g1 g2 g3 q0 q1 q2 q3
        rw [show ((((w3.setCell ⟨w.heap.size, 0, none⟩ (.int .i64 2)).setCell ⟨w.heap.size, 1, none⟩ (.int .i64 0)).setCell ⟨w.heap.size, 2, none⟩ (.string s2)).setCell ⟨w.heap.size, 3, none⟩ (.slice none 0 0)) = fill4 w3 w.heap.size (.int .i64 2) (.int .i64 0) (.string s2) (.slice none 0 0) from rfl]
        generalize fill4 w3 w.heap.size (.int .i64 2) (.int .i64 0) (.string s2) (.slice none 0 0) = V at *
        refine bodyPost_ret (v := .agg #[(.int .i64 2), (.int .i64 0), (.string s2), (.slice none 0 0)]) (by simp [results, Try.results50, go_sem, e0, e1, e2, e3]) rfl ?_
        obtain ⟨h3, he3⟩ := H3.out
        exact ⟨.nam s2, _, _, _, _, rfl, trivial, ⟨_, _, _, rfl⟩, h3.on' HV.out HW.out.2.2.2, (HW.out.2.2.1.trans he3).then_ HV.out⟩
    · have z2 : (k2 == 1) = false := by simpa using hk2
      have HK2 := hide hk2
      clear hk2 ha2 hb2
      go_wp2_with (fail)
      refine (number_src _ s A n c l H2.out.1).mono ?_
      rintro e w3 ⟨k3, rfl, ha3, hb3, h, he⟩
      have H3 := hide (And.intro h (H2.out.2.trans he))
      have HK3 := hide (And.intro ha3 hb3)
      clear h he ha3 hb3
      obtain ⟨hlt, ⟨g0, g1, g2, g3⟩, q0, q1, q2, q3⟩ := new4E H3.out.2 HW.out.2.2.2
      go_wp2
      obtain ⟨e0, e1, e2, e3⟩ := fill4_cells g0 g1 g2 g3 (.int .i64 1) (.int .i64 k3) (.string ⟨#[]⟩) (.slice none 0 0)
      have hbV : Below w.heap.size w3 (fill4 w3 w.heap.size (.int .i64 1) (.int .i64 k3) (.string ⟨#[]⟩) (.slice none 0 0)) := fill4_below (Below.refl _ _) _ _ _ _ _ (Nat.le_refl _)
      have HV := hide hbV
      clear hbV g0 g1 g2 g3 q0 q1 q2 q3
      rw [show ((((w3.setCell ⟨w.heap.size, 0, none⟩ (.int .i64 1)).setCell ⟨w.heap.size, 1, none⟩ (.int .i64 k3)).setCell ⟨w.heap.size, 2, none⟩ (.string ⟨#[]⟩)).setCell ⟨w.heap.size, 3, none⟩ (.slice none 0 0)) = fill4 w3 w.heap.size (.int .i64 1) (.int .i64 k3) (.string ⟨#[]⟩) (.slice none 0 0) from rfl]
      generalize fill4 w3 w.heap.size (.int .i64 1) (.int .i64 k3) (.string ⟨#[]⟩) (.slice none 0 0) = V at *
      refine bodyPost_ret (v := .agg #[(.int .i64 1), (.int .i64 k3), (.string ⟨#[]⟩), (.slice none 0 0)]) (by simp [results, Try.results50, go_sem, e0, e1, e2, e3]) rfl ?_
      obtain ⟨h3, he3⟩ := H3.out
      exact ⟨.num k3, _, _, _, _, rfl, HK3.out, ⟨_, _, _, rfl⟩, h3.on' HV.out HW.out.2.2.2, (HW.out.2.2.1.trans he3).then_ HV.out⟩
  by_cases hk4 : k1 < 4
  · obtain hk5 | hk5 : k1 = 2 ∨ k1 = 3 := by omega
    · subst hk5
      clear hk1 hk4 ha1 hb1
      go_wp2_with (fail)
      refine (HI.out HD.out _ H1.out.1 (HW.out.2.1.on H1.out.2)).mono ?_
      rintro e w2 ⟨x, c0, c1, c2, c3, rfl, hx, hr, h, he⟩
      have H2 := hide (And.intro h (H1.out.2.trans he))
      have HX := hide (And.intro hx (And.intro hr he))
      clear h he hx hr
      obtain ⟨hlt, ⟨g0, g1, g2, g3⟩, q0, q1, q2, q3⟩ := new4E H2.out.2 HW.out.2.2.2
      go_wp2
      obtain ⟨⟨e0, e1, e2, e3⟩, FB, FN, FS, FW⟩ := fillAlloc hlt g0 g1 g2 g3 (.int .i64 3) (.int .i64 0) (.string ⟨#[]⟩) (.slice (some ⟨w2.heap.size, 0, none⟩) 1 1) #[c0, c1, c2, c3] 50
      have HB := hide (And.intro FB (And.intro FN (And.intro FS (FW w2 (Below.refl _ _)))))
      clear FB FN FS FW g0 g1 g2 g3 q0 q1 q2 q3
      generalize (fill4 w2 w.heap.size (.int .i64 3) (.int .i64 0) (.string ⟨#[]⟩) (.slice (some ⟨w2.heap.size, 0, none⟩) 1 1)).alloc (.cells #[c0, c1, c2, c3] 50) = V at *
      refine bodyPost_ret (v := .agg #[.int .i64 3, .int .i64 0, .string ⟨#[]⟩, .slice (some ⟨w2.heap.size, 0, none⟩) 1 1]) (by simp [results, Try.results50, go_sem, e0, e1, e2, e3]) rfl ?_
      obtain ⟨FB, FN, FS, FW⟩ := HB.out
      obtain ⟨hx, hr, he⟩ := HX.out
      have hs1 : w.heap.size < w1.heap.size := (new4E H1.out.2 HW.out.2.2.2).1
      exact ⟨.un 3 x, _, _, _, _, rfl, ⟨by decide, hx⟩, ⟨_, _, w2.heap.size, 0, _, c0, c1, c2, c3, rfl, by omega, VE.new_on hr (fun b l1 l2 => FB b (by omega) l2) (by omega) (by omega), FN 0 (by simp), FN 1 (by simp), FN 2 (by simp), FN 3 (by simp)⟩,
        H2.out.1.on' FW HW.out.2.2.2, (HW.out.2.2.1.trans H2.out.2).then_ FW⟩
    · subst hk5
      clear hk1 hk4 ha1 hb1
      go_wp2_with (fail)
      refine (HI.out HD.out _ H1.out.1 (HW.out.2.1.on H1.out.2)).mono ?_
      rintro e w2 ⟨x, c0, c1, c2, c3, rfl, hx, hr, h, he⟩
      have H2 := hide (And.intro h (H1.out.2.trans he))
      have HX := hide (And.intro hx (And.intro hr he))
      clear h he hx hr
      obtain ⟨hlt, ⟨g0, g1, g2, g3⟩, q0, q1, q2, q3⟩ := new4E H2.out.2 HW.out.2.2.2
      go_wp2
      obtain ⟨⟨e0, e1, e2, e3⟩, FB, FN, FS, FW⟩ := fillAlloc hlt g0 g1 g2 g3 (.int .i64 4) (.int .i64 0) (.string ⟨#[]⟩) (.slice (some ⟨w2.heap.size, 0, none⟩) 1 1) #[c0, c1, c2, c3] 50
      have HB := hide (And.intro FB (And.intro FN (And.intro FS (FW w2 (Below.refl _ _)))))
      clear FB FN FS FW g0 g1 g2 g3 q0 q1 q2 q3
      generalize (fill4 w2 w.heap.size (.int .i64 4) (.int .i64 0) (.string ⟨#[]⟩) (.slice (some ⟨w2.heap.size, 0, none⟩) 1 1)).alloc (.cells #[c0, c1, c2, c3] 50) = V at *
      refine bodyPost_ret (v := .agg #[.int .i64 4, .int .i64 0, .string ⟨#[]⟩, .slice (some ⟨w2.heap.size, 0, none⟩) 1 1]) (by simp [results, Try.results50, go_sem, e0, e1, e2, e3]) rfl ?_
      obtain ⟨FB, FN, FS, FW⟩ := HB.out
      obtain ⟨hx, hr, he⟩ := HX.out
      have hs1 : w.heap.size < w1.heap.size := (new4E H1.out.2 HW.out.2.2.2).1
      exact ⟨.un 4 x, _, _, _, _, rfl, ⟨by decide, hx⟩, ⟨_, _, w2.heap.size, 0, _, c0, c1, c2, c3, rfl, by omega, VE.new_on hr (fun b l1 l2 => FB b (by omega) l2) (by omega) (by omega), FN 0 (by simp), FN 1 (by simp), FN 2 (by simp), FN 3 (by simp)⟩,
        H2.out.1.on' FW HW.out.2.2.2, (HW.out.2.2.1.trans H2.out.2).then_ FW⟩
  have z4 : decide (k1 < 4) = false := by simpa using hk4
  clear hk1 ha1 hb1
  go_wp2_with (fail)
  refine (next_any _ s A n c l 13 H1.out.1 (by omega) (by omega)).mono ?_
  rintro e w2 ⟨k2, rfl, ha2, hb2, h, he⟩
  have H2 := hide (And.intro h (H1.out.2.trans he))
  clear h he
  have zo : wrap64 (5 + k2) = 5 + k2 := IntWalk.wrap64_in _ (by omega)
  have HO := hide (show 5 ≤ 5 + k2 ∧ 5 + k2 ≤ 17 by omega)
  clear ha2 hb2
  go_wp2_with (fail)
  refine (HI.out HD.out _ H2.out.1 (HW.out.2.1.on H2.out.2)).mono ?_
  rintro e w3 ⟨x, c0, c1, c2, c3, rfl, hx, hr, h, he⟩
  have H3 := hide (And.intro h (H2.out.2.trans he))
  have HX := hide (And.intro hx (And.intro hr he))
  clear h he hx hr
  go_wp2_with (fail)
  refine (HI.out HD.out _ H3.out.1 (HW.out.2.1.on H3.out.2)).mono ?_
  rintro e w4 ⟨y, d0, d1, d2, d3, rfl, hx, hr, h, he⟩
  have H4 := hide (And.intro h (H3.out.2.trans he))
  have HY := hide (And.intro hx (And.intro hr he))
  clear h he hx hr
  obtain ⟨hlt, ⟨g0, g1, g2, g3⟩, q0, q1, q2, q3⟩ := new4E H4.out.2 HW.out.2.2.2
  go_wp2
  obtain ⟨⟨e0, e1, e2, e3⟩, FB, FN, FS, FW⟩ := fillAlloc hlt g0 g1 g2 g3 (.int .i64 (5 + k2)) (.int .i64 0) (.string ⟨#[]⟩) (.slice (some ⟨w4.heap.size, 0, none⟩) 2 2) #[c0, c1, c2, c3, d0, d1, d2, d3] 50
  have HB := hide (And.intro FB (And.intro FN (And.intro FS (FW w4 (Below.refl _ _)))))
  clear FB FN FS FW g0 g1 g2 g3 q0 q1 q2 q3
  generalize (fill4 w4 w.heap.size (.int .i64 (5 + k2)) (.int .i64 0) (.string ⟨#[]⟩) (.slice (some ⟨w4.heap.size, 0, none⟩) 2 2)).alloc (.cells #[c0, c1, c2, c3, d0, d1, d2, d3] 50) = V at *
  refine bodyPost_ret (v := .agg #[.int .i64 (5 + k2), .int .i64 0, .string ⟨#[]⟩, .slice (some ⟨w4.heap.size, 0, none⟩) 2 2]) (by simp [results, Try.results50, go_sem, e0, e1, e2, e3]) rfl ?_
  obtain ⟨FB, FN, FS, FW⟩ := HB.out
  obtain ⟨hx, hr, he⟩ := HX.out
  obtain ⟨hy, hr2, he2⟩ := HY.out
  have hs2 : w.heap.size < w2.heap.size := (new4E H2.out.2 HW.out.2.2.2).1
  have hs3 := he.size
  have hs4 := he2.size
  have hss := HW.out.2.2.2
  exact ⟨.bin (5 + k2) x y, _, _, _, _, rfl, ⟨HO.out, hx, hy⟩, ⟨_, _, w4.heap.size, 0, _, c0, c1, c2, c3, d0, d1, d2, d3, rfl, by omega,
      VE.new_on hr (fun b l1 l2 => (FB b (by omega) (by omega)).trans (he2.block b l2 (by omega))) (by omega) (by omega), VE.new_on hr2 (fun b l1 l2 => FB b (by omega) l2) (by omega) (by omega), FN 0 (by simp), FN 1 (by simp), FN 2 (by simp), FN 3 (by simp), FN 4 (by simp), FN 5 (by simp), FN 6 (by simp), FN 7 (by simp)⟩,
    H4.out.1.on' FW HW.out.2.2.2, (HW.out.2.2.1.trans H4.out.2).then_ FW⟩

theorem sexpr_any (s b : Nat) (A : Option Addr) (n c : Nat) (l : List Int) : ∀ (d : Nat), d ≤ 5 → ∀ (w : World), SrcAt w s A n c l → NamesAt w s b →
    Calls Try.prog 50 #[.pointer (some ⟨s, 0, none⟩), .slice (some ⟨b, 0, none⟩) 3 3, .int .i64 d] w (SExprRes w s A n c l)
  | 0, hd, w, h, hN => sexpr_zero w s b A n c l 0 hd h hN (fun h => absurd rfl h)
  | d + 1, hd, w, h, hN => sexpr_zero w s b A n c l (d + 1) hd h hN (fun _ w2 h2 hN2 => by
      have := sexpr_any s b A n c l d (by omega) w2 h2 hN2
      rw [show ((d + 1 : Nat) : Int) - 1 = d by omega]
      exact this)
end Go.Proofs.Ytbbjncjkddekfaa

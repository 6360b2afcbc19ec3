/- The expressions that lockordermade makes of raw numbers: well-formed ones, of numbers and names, in new blocks. -/
import Derived.Test.YtbbjncjkddekfaaSrcB
namespace Go.Proofs.Ytbbjncjkddekfaa
open Go.RowKit

theorem SlR.take {α : Type} {f : α → List Value} {sz : Nat} {w : World} {B n m : Nat} {A : Option Addr} {l : List α} (h : SlR (EF f) sz w B A n l) (hm : m ≤ n) : SlR (EF f) sz w B A m (l.take m) := by
  refine ⟨by have := h.1; simp; omega, fun h0 => ?_⟩
  obtain ⟨b, o, hA, hb, hc⟩ := h.2 (by omega)
  exact ⟨b, o, hA, hb, fun k x hx => hc k x ((List.getElem?_take_of_lt (i := k) (by have := (List.getElem?_eq_some_iff.1 hx).1; simp at this; omega)).symm.trans hx)⟩

set_option maxHeartbeats 400000 in
theorem cut_any (A : Option Addr) (n c : Nat) (l : List Int) (w : World) (h : SlR (EF cInt) 1 w w.heap.size A n l) (hc : n ≤ c) :
    Calls Try.prog 49 #[.slice A n c, .int .i64 100] w fun e w' => (∃ A' n' c', e = .returned (.slice A' n' c') ∧ n' ≤ 100 ∧ ∃ l', SlR (EF cInt) 1 w w.heap.size A' n' l') ∧ w = w' := by
  have H := hide h
  by_cases hn : n ≤ 100
  · clear h
    go_enter Try.func49, Try.ntmps49
    go_wp2
    go_ret
    exact ⟨⟨A, n, c, rfl, hn, l, H.out⟩, rfl⟩
  · obtain ⟨b, o, rfl, hb⟩ := h.some_ (by omega)
    clear h
    go_enter Try.func49, Try.ntmps49
    go_wp2
    go_ret
    exact ⟨⟨_, 100, _, rfl, by omega, _, H.out.take (by omega)⟩, rfl⟩

def MadeRes (w : World) (e : Ending) (w' : World) : Prop :=
  ∃ (x : VE) (c0 c1 c2 c3 : Value), e = .returned (.agg #[c0, c1, c2, c3]) ∧ x.made ∧ x.rep w' (fun b => w.heap.size ≤ b ∧ b < w'.heap.size) [c0, c1, c2, c3] ∧ Below w.heap.size w w'

set_option maxHeartbeats 1600000 in
theorem made_any (A : Option Addr) (n c : Nat) (l : List Int) (w : World) (h : SlR (EF cInt) 1 w w.heap.size A n l) (hc : n ≤ c) :
    Calls Try.prog 39 #[.slice A n c] w (MadeRes w) := by
  have H := hide h
  clear h
  go_enter Try.func39, Try.ntmps39
  go_wp2_with (fail)
  have hbW := (Below.refl w.heap.size w).alloc (Nat.le_refl _) (.cells #[.int .i64 0, .int .i64 0, .string ⟨#[]⟩, .slice none 0 0] 50)
  have h1 := H.out.onF hbW hbW.size
  have HH := hide hbW
  clear hbW
  refine (cut_any A n c l _ h1 hc).mono ?_
  rintro e w1 ⟨⟨A', n', c', rfl, hn', l', hl'⟩, rfl⟩
  clear h1
  have HL := hide hl'
  clear hl' hc
  go_wp2_with (fail)
  have hb3 : Below w.heap.size w (((w.alloc (.cells #[.int .i64 0, .int .i64 0, .string ⟨#[]⟩, .slice none 0 0] 50)).alloc (.cells #[.slice A' n' c', .int .i64 0] 72)).alloc (.cells #[.string ⟨#[97]⟩, .string ⟨#[98]⟩, .string ⟨#[120, 49]⟩] 9)) := ((HH.out.alloc (by simp) _).alloc (by simp; omega) _)
  have hb1 : Below (w.heap.size + 1) (w.alloc (.cells #[.int .i64 0, .int .i64 0, .string ⟨#[]⟩, .slice none 0 0] 50)) (((w.alloc (.cells #[.int .i64 0, .int .i64 0, .string ⟨#[]⟩, .slice none 0 0] 50)).alloc (.cells #[.slice A' n' c', .int .i64 0] 72)).alloc (.cells #[.string ⟨#[97]⟩, .string ⟨#[98]⟩, .string ⟨#[120, 49]⟩] 9)) := (((Below.refl _ _).alloc (by simp) _).alloc (by simp) _)
  have hsrc : SrcAt (((w.alloc (.cells #[.int .i64 0, .int .i64 0, .string ⟨#[]⟩, .slice none 0 0] 50)).alloc (.cells #[.slice A' n' c', .int .i64 0] 72)).alloc (.cells #[.string ⟨#[97]⟩, .string ⟨#[98]⟩, .string ⟨#[120, 49]⟩] 9)) (w.heap.size + 1) A' n' c' l' :=
    ⟨by simp, by simp [go_sem], ⟨0, by omega, by simp [go_sem]⟩, by simp [go_sem], (by have := HL.out; simp only [World.size_alloc] at this; exact this.keepF hb1), hn'⟩
  have hnam : NamesAt (((w.alloc (.cells #[.int .i64 0, .int .i64 0, .string ⟨#[]⟩, .slice none 0 0] 50)).alloc (.cells #[.slice A' n' c', .int .i64 0] 72)).alloc (.cells #[.string ⟨#[97]⟩, .string ⟨#[98]⟩, .string ⟨#[120, 49]⟩] 9)) (w.heap.size + 1) (w.heap.size + 1 + 1) := ⟨by simp, by omega, _, _, _, by simp [go_sem]; rfl, by simp [go_sem]; rfl, by simp [go_sem]; rfl⟩
  have r0 : (((w.alloc (.cells #[.int .i64 0, .int .i64 0, .string ⟨#[]⟩, .slice none 0 0] 50)).alloc (.cells #[.slice A' n' c', .int .i64 0] 72)).alloc (.cells #[.string ⟨#[97]⟩, .string ⟨#[98]⟩, .string ⟨#[120, 49]⟩] 9)).cell? ⟨w.heap.size, 0, none⟩ = some (.int .i64 0) ∧ (((w.alloc (.cells #[.int .i64 0, .int .i64 0, .string ⟨#[]⟩, .slice none 0 0] 50)).alloc (.cells #[.slice A' n' c', .int .i64 0] 72)).alloc (.cells #[.string ⟨#[97]⟩, .string ⟨#[98]⟩, .string ⟨#[120, 49]⟩] 9)).cell? ⟨w.heap.size, 1, none⟩ = some (.int .i64 0) ∧ (((w.alloc (.cells #[.int .i64 0, .int .i64 0, .string ⟨#[]⟩, .slice none 0 0] 50)).alloc (.cells #[.slice A' n' c', .int .i64 0] 72)).alloc (.cells #[.string ⟨#[97]⟩, .string ⟨#[98]⟩, .string ⟨#[120, 49]⟩] 9)).cell? ⟨w.heap.size, 2, none⟩ = some (.string ⟨#[]⟩) ∧ (((w.alloc (.cells #[.int .i64 0, .int .i64 0, .string ⟨#[]⟩, .slice none 0 0] 50)).alloc (.cells #[.slice A' n' c', .int .i64 0] 72)).alloc (.cells #[.string ⟨#[97]⟩, .string ⟨#[98]⟩, .string ⟨#[120, 49]⟩] 9)).cell? ⟨w.heap.size, 3, none⟩ = some (.slice none 0 0) ∧
      (∀ j, (((w.alloc (.cells #[.int .i64 0, .int .i64 0, .string ⟨#[]⟩, .slice none 0 0] 50)).alloc (.cells #[.slice A' n' c', .int .i64 0] 72)).alloc (.cells #[.string ⟨#[97]⟩, .string ⟨#[98]⟩, .string ⟨#[120, 49]⟩] 9)).frozen? ⟨w.heap.size, j, none⟩ = false) ∧ w.heap.size < (((w.alloc (.cells #[.int .i64 0, .int .i64 0, .string ⟨#[]⟩, .slice none 0 0] 50)).alloc (.cells #[.slice A' n' c', .int .i64 0] 72)).alloc (.cells #[.string ⟨#[97]⟩, .string ⟨#[98]⟩, .string ⟨#[120, 49]⟩] 9)).heap.size := by
    refine ⟨by simp [go_sem], by simp [go_sem], by simp [go_sem], by simp [go_sem], fun j => by simp [go_sem], by simp; omega⟩
  have HW := hide (And.intro hsrc (And.intro hnam (And.intro hb3 r0)))
  clear hb3 hb1 hsrc hnam r0 HL HH H
  generalize (((w.alloc (.cells #[.int .i64 0, .int .i64 0, .string ⟨#[]⟩, .slice none 0 0] 50)).alloc (.cells #[.slice A' n' c', .int .i64 0] 72)).alloc (.cells #[.string ⟨#[97]⟩, .string ⟨#[98]⟩, .string ⟨#[120, 49]⟩] 9)) = W3 at *
  refine (next_any _ _ A' n' c' l' 5 HW.out.1 (by omega) (by omega)).mono ?_
  rintro e w1 ⟨k, rfl, hk0, hk1, h, he⟩
  have hw : wrap64 (1 + k) = 1 + k := IntWalk.wrap64_in _ (by omega)
  obtain ⟨d, hd⟩ : ∃ d : Nat, 1 + k = d := ⟨(1 + k).toNat, by omega⟩
  have hd5 : d ≤ 5 := by omega
  rw [hd] at hw
  have H1 := hide (And.intro h he)
  clear h he hk0 hk1
  go_wp2_with (fail)
  try simp only [hd, hw]
  refine (sexpr_any _ _ A' n' c' l' d hd5 _ H1.out.1 (HW.out.2.1.on H1.out.2)).mono ?_
  rintro e w2 ⟨x, c0, c1, c2, c3, rfl, hx, hr, h, he⟩
  obtain ⟨op, m, nm, A2, k2, cc, hcs⟩ := VE.rep_four _ _ hr
  injection hcs with h0 hcs
  injection hcs with h1 hcs
  injection hcs with h2 hcs
  injection hcs with h3 hcs
  subst h0 h1 h2 h3
  clear hcs
  have H2 := hide (And.intro hx (And.intro hr (And.intro h he)))
  have hE := H1.out.2.trans he
  clear h he hx hr
  obtain ⟨hsrc, hnam, hb3, r0, r1, r2, r3, rf, rl⟩ := HW.out
  have g0 := (hE.cell rl (by omega)).trans r0
  have g1 := (hE.cell rl (by omega)).trans r1
  have g2 := (hE.cell rl (by omega)).trans r2
  have g3 := (hE.cell rl (by omega)).trans r3
  have q0 := (hE.frozen (j := 0) rl (by omega)).trans (rf 0)
  have q1 := (hE.frozen (j := 1) rl (by omega)).trans (rf 1)
  have q2 := (hE.frozen (j := 2) rl (by omega)).trans (rf 2)
  have q3 := (hE.frozen (j := 3) rl (by omega)).trans (rf 3)
  have HE := hide hE
  clear hsrc hnam hb3 r0 r1 r2 r3 rf rl hE hw
  go_wp2
  obtain ⟨e0, e1, e2, e3⟩ := fill4_cells g0 g1 g2 g3 (.int .i64 op) (.int .i64 m) (.string nm) (.slice A2 k2 cc)
  have hbV : Below w.heap.size w2 (fill4 w2 w.heap.size (.int .i64 op) (.int .i64 m) (.string nm) (.slice A2 k2 cc)) := fill4_below (Below.refl _ _) _ _ _ _ _ (Nat.le_refl _)
  have hbk := fill4_block w2 w.heap.size (.int .i64 op) (.int .i64 m) (.string nm) (.slice A2 k2 cc)
  have hsz := fill4_size w2 w.heap.size (.int .i64 op) (.int .i64 m) (.string nm) (.slice A2 k2 cc)
  have HV := hide (And.intro hbV (And.intro hbk hsz))
  clear hbV hbk hsz g0 g1 g2 g3 q0 q1 q2 q3
  rw [show ((((w2.setCell ⟨w.heap.size, 0, none⟩ (.int .i64 op)).setCell ⟨w.heap.size, 1, none⟩ (.int .i64 m)).setCell ⟨w.heap.size, 2, none⟩ (.string nm)).setCell ⟨w.heap.size, 3, none⟩ (.slice A2 k2 cc)) = fill4 w2 w.heap.size (.int .i64 op) (.int .i64 m) (.string nm) (.slice A2 k2 cc) from rfl]
  generalize fill4 w2 w.heap.size (.int .i64 op) (.int .i64 m) (.string nm) (.slice A2 k2 cc) = V at *
  refine bodyPost_ret (v := .agg #[.int .i64 op, .int .i64 m, .string nm, .slice A2 k2 cc]) (by simp [results, Try.results39, go_sem, e0, e1, e2, e3]) rfl ?_
  obtain ⟨hbV, hbk, hsz⟩ := HV.out
  obtain ⟨hx, hr, h, he⟩ := H2.out
  obtain ⟨hsrc, hnam, hb3, _, _, _, _, _, rl⟩ := HW.out
  have hs1 := H1.out.2.size
  have hlt := hsrc.lt
  exact ⟨x, _, _, _, _, rfl, hx, VE.new_on hr (fun b l1 _ => hbk b (by omega)) (by omega) (by omega), (hb3.trans ((HE.out.below (by omega)).mono (by omega))).trans hbV⟩
end Go.Proofs.Ytbbjncjkddekfaa

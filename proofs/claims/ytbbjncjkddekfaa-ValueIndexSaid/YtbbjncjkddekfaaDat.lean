/- Data as trees (numbers, truth values, strings, structs, slices), how they lie in memory, and what keeps them. No condition. -/
import Derived.Test.YtbbjncjkddekfaaMem
namespace Go.Proofs.Ytbbjncjkddekfaa
open Go.RowKit

inductive D where
  | i (n : Int)
  | b (x : Bool)
  | s (x : ByteArray)
  | st (l : List D)
  | sl (l : List D)

mutual
/-- The cells cs read as the tree; slices lie in blocks of which P holds. -/
def D.rep (w : World) (P : Nat → Prop) : D → List Value → Prop
  | .i n => fun cs => cs = [.int .i64 n]
  | .b x => fun cs => cs = [.bool x]
  | .s x => fun cs => cs = [.string x]
  | .st l => fun cs => D.reps w P l cs
  | .sl l => fun cs => ∃ A c, cs = [.slice A l.length c] ∧ l.length ≤ c ∧ (0 < l.length → ∃ b o xs, A = some ⟨b, o, none⟩ ∧ P b ∧ D.reps w P l xs ∧ ∀ j u, xs[j]? = some u → w.cell? ⟨b, o + j, none⟩ = some u)
def D.reps (w : World) (P : Nat → Prop) : List D → List Value → Prop
  | [] => fun cs => cs = []
  | d :: l => fun cs => ∃ x y, cs = x ++ y ∧ D.rep w P d x ∧ D.reps w P l y
end
mutual
def D.sz : D → Nat
  | .i _ => 1
  | .b _ => 1
  | .s _ => 1
  | .st l => D.szs l
  | .sl _ => 1
def D.szs : List D → Nat
  | [] => 0
  | d :: l => D.sz d + D.szs l
end

mutual
theorem D.rep_len {w : World} {P : Nat → Prop} : ∀ (d : D) (cs : List Value), d.rep w P cs → cs.length = d.sz
  | .i n, cs, h => by simp only [D.rep] at h; subst h; rfl
  | .b x, cs, h => by simp only [D.rep] at h; subst h; rfl
  | .s x, cs, h => by simp only [D.rep] at h; subst h; rfl
  | .st l, cs, h => by simp only [D.rep] at h; simp only [D.sz]; exact D.reps_len l cs h
  | .sl l, cs, h => by simp only [D.rep] at h; obtain ⟨A, c, rfl, _⟩ := h; rfl
theorem D.reps_len {w : World} {P : Nat → Prop} : ∀ (l : List D) (cs : List Value), D.reps w P l cs → cs.length = D.szs l
  | [], cs, h => by simp only [D.reps] at h; subst h; rfl
  | d :: l, cs, h => by
    simp only [D.reps] at h
    obtain ⟨x, y, rfl, hx, hy⟩ := h
    simp only [D.szs, List.length_append, D.rep_len d x hx, D.reps_len l y hy]
end
mutual
theorem D.rep_keep {w w' : World} {P : Nat → Prop} (hk : ∀ b, P b → w'.heap[b]? = w.heap[b]?) : ∀ (d : D) (cs : List Value), d.rep w P cs → d.rep w' P cs
  | .i n, cs, h => by simpa only [D.rep] using h
  | .b x, cs, h => by simpa only [D.rep] using h
  | .s x, cs, h => by simpa only [D.rep] using h
  | .st l, cs, h => by simp only [D.rep] at h ⊢; exact D.reps_keep hk l cs h
  | .sl l, cs, h => by
    simp only [D.rep] at h ⊢
    obtain ⟨A, c, hcs, hc, hn⟩ := h
    refine ⟨A, c, hcs, hc, fun h0 => ?_⟩
    obtain ⟨b, o, xs, hA, hb, hr, hj⟩ := hn h0
    exact ⟨b, o, xs, hA, hb, D.reps_keep hk l xs hr, fun j u hu => (World.cell?_of_block (w := w) (hk b hb)).trans (hj j u hu)⟩
theorem D.reps_keep {w w' : World} {P : Nat → Prop} (hk : ∀ b, P b → w'.heap[b]? = w.heap[b]?) : ∀ (l : List D) (cs : List Value), D.reps w P l cs → D.reps w' P l cs
  | [], cs, h => by simpa only [D.reps] using h
  | d :: l, cs, h => by
    simp only [D.reps] at h ⊢
    obtain ⟨x, y, rfl, hx, hy⟩ := h
    exact ⟨x, y, rfl, D.rep_keep hk d x hx, D.reps_keep hk l y hy⟩
end
mutual
theorem D.rep_mono {w : World} {P P' : Nat → Prop} (hp : ∀ b, P b → P' b) : ∀ (d : D) (cs : List Value), d.rep w P cs → d.rep w P' cs
  | .i n, cs, h => by simpa only [D.rep] using h
  | .b x, cs, h => by simpa only [D.rep] using h
  | .s x, cs, h => by simpa only [D.rep] using h
  | .st l, cs, h => by simp only [D.rep] at h ⊢; exact D.reps_mono hp l cs h
  | .sl l, cs, h => by
    simp only [D.rep] at h ⊢
    obtain ⟨A, c, hcs, hc, hn⟩ := h
    refine ⟨A, c, hcs, hc, fun h0 => ?_⟩
    obtain ⟨b, o, xs, hA, hb, hr, hj⟩ := hn h0
    exact ⟨b, o, xs, hA, hp b hb, D.reps_mono hp l xs hr, hj⟩
theorem D.reps_mono {w : World} {P P' : Nat → Prop} (hp : ∀ b, P b → P' b) : ∀ (l : List D) (cs : List Value), D.reps w P l cs → D.reps w P' l cs
  | [], cs, h => by simpa only [D.reps] using h
  | d :: l, cs, h => by
    simp only [D.reps] at h ⊢
    obtain ⟨x, y, rfl, hx, hy⟩ := h
    exact ⟨x, y, rfl, D.rep_mono hp d x hx, D.reps_mono hp l y hy⟩
end
mutual
theorem D.rep_one {w : World} {P : Nat → Prop} : ∀ (d : D) (cs : List Value), d.rep w P cs → ∀ u ∈ cs, u.oneCell' = true
  | .i n, cs, h => by simp only [D.rep] at h; subst h; simp [Value.oneCell']
  | .b x, cs, h => by simp only [D.rep] at h; subst h; simp [Value.oneCell']
  | .s x, cs, h => by simp only [D.rep] at h; subst h; simp [Value.oneCell']
  | .st l, cs, h => by simp only [D.rep] at h; exact D.reps_one l cs h
  | .sl l, cs, h => by simp only [D.rep] at h; obtain ⟨A, c, rfl, _⟩ := h; simp [Value.oneCell']
theorem D.reps_one {w : World} {P : Nat → Prop} : ∀ (l : List D) (cs : List Value), D.reps w P l cs → ∀ u ∈ cs, u.oneCell' = true
  | [], cs, h => by simp only [D.reps] at h; subst h; simp
  | d :: l, cs, h => by
    simp only [D.reps] at h
    obtain ⟨x, y, rfl, hx, hy⟩ := h
    intro u hu
    rcases List.mem_append.1 hu with hu | hu
    · exact D.rep_one d x hx u hu
    · exact D.reps_one l y hy u hu
end

theorem D.reps_append {w : World} {P : Nat → Prop} : ∀ {l m : List D} {x y : List Value}, D.reps w P l x → D.reps w P m y → D.reps w P (l ++ m) (x ++ y)
  | [], m, x, y, hx, hy => by simp only [D.reps] at hx; subst hx; exact hy
  | d :: l, m, x, y, hx, hy => by
    simp only [D.reps, List.cons_append] at hx ⊢
    obtain ⟨a, c, rfl, ha, hc⟩ := hx
    exact ⟨a, c ++ y, by rw [List.append_assoc], ha, D.reps_append hc hy⟩
theorem D.reps_split {w : World} {P : Nat → Prop} : ∀ {l m : List D} {x : List Value}, D.reps w P (l ++ m) x → ∃ y z, x = y ++ z ∧ D.reps w P l y ∧ D.reps w P m z
  | [], m, x, h => ⟨[], x, rfl, by simp only [D.reps], h⟩
  | d :: l, m, x, h => by
    simp only [D.reps, List.cons_append] at h
    obtain ⟨a, c, rfl, ha, hc⟩ := h
    obtain ⟨y, z, rfl, hy, hz⟩ := D.reps_split hc
    exact ⟨a ++ y, z, by rw [List.append_assoc], by simp only [D.reps]; exact ⟨a, y, rfl, ha, hy⟩, hz⟩
theorem D.reps_one_ {w : World} {P : Nat → Prop} {d : D} {x : List Value} : D.reps w P [d] x ↔ d.rep w P x := by
  simp only [D.reps]
  constructor
  · rintro ⟨a, b, rfl, ha, rfl⟩; simpa using ha
  · intro h; exact ⟨x, [], by simp, h, rfl⟩

theorem D.szs_const {z : Nat} : ∀ {l : List D}, (∀ d ∈ l, d.sz = z) → D.szs l = l.length * z
  | [], _ => by simp [D.szs]
  | d :: l, h => by
    have ih : D.szs l = l.length * z := D.szs_const (fun x hx => h x (List.mem_cons_of_mem _ hx))
    simp only [D.szs, List.length_cons, Nat.succ_mul, h d (List.mem_cons_self), ih]
    omega

theorem D.reps_at {w : World} {P : Nat → Prop} {z : Nat} : ∀ {l : List D} {xs : List Value}, D.reps w P l xs → (∀ d ∈ l, d.sz = z) → ∀ {k : Nat} {d : D}, l[k]? = some d →
    ∃ cs, d.rep w P cs ∧ cs.length = z ∧ ∀ j u, cs[j]? = some u → xs[k * z + j]? = some u
  | [], xs, _, _, k, d, hk => by simp at hk
  | e :: l, xs, h, hz, 0, d, hk => by
    simp only [D.reps] at h
    obtain ⟨x, y, rfl, hx, _⟩ := h
    simp only [List.getElem?_cons_zero, Option.some.injEq] at hk
    subst hk
    refine ⟨x, hx, (D.rep_len _ _ hx).trans (hz e (by simp)), fun j u hu => ?_⟩
    rw [Nat.zero_mul, Nat.zero_add, List.getElem?_append_left (List.getElem?_eq_some_iff.1 hu).1]
    exact hu
  | e :: l, xs, h, hz, k + 1, d, hk => by
    simp only [D.reps] at h
    obtain ⟨x, y, rfl, hx, hy⟩ := h
    simp only [List.getElem?_cons_succ] at hk
    obtain ⟨cs, hr, hl, hj⟩ := D.reps_at hy (fun x hx => hz x (by simp [hx])) hk
    have hxl := (D.rep_len _ _ hx).trans (hz e (by simp))
    refine ⟨cs, hr, hl, fun j u hu => ?_⟩
    rw [List.getElem?_append_right (by rw [hxl, Nat.succ_mul]; omega), hxl, show (k + 1) * z + j - z = k * z + j by rw [Nat.succ_mul]; omega]
    exact hj j u hu

/-! ## slices -/

/-- The slice '.slice A n _' reads as the list l of trees. -/
def Sl (w : World) (P : Nat → Prop) (A : Option Addr) (n : Nat) (l : List D) : Prop :=
  l.length = n ∧ (0 < n → ∃ b o xs, A = some ⟨b, o, none⟩ ∧ P b ∧ D.reps w P l xs ∧ ∀ j u, xs[j]? = some u → w.cell? ⟨b, o + j, none⟩ = some u)

section
variable {w w' : World} {P P' : Nat → Prop} {A : Option Addr} {n z : Nat} {l : List D}
theorem D.sl_iff {cs : List Value} : (D.sl l).rep w P cs ↔ ∃ A c n, cs = [.slice A n c] ∧ n ≤ c ∧ Sl w P A n l := by
  simp only [D.rep, Sl]
  constructor
  · rintro ⟨A, c, rfl, hc, h⟩; exact ⟨A, c, _, rfl, hc, rfl, h⟩
  · rintro ⟨A, c, n, rfl, hc, rfl, h⟩; exact ⟨A, c, rfl, hc, h⟩
theorem Sl.nil_ (A : Option Addr) : Sl w P A 0 [] := ⟨rfl, fun h => absurd h (by omega)⟩
theorem Sl.keep (h : Sl w P A n l) (hk : ∀ b, P b → w'.heap[b]? = w.heap[b]?) : Sl w' P A n l := by
  refine ⟨h.1, fun hn => ?_⟩
  obtain ⟨b, o, xs, hA, hb, hr, hj⟩ := h.2 hn
  exact ⟨b, o, xs, hA, hb, D.reps_keep hk l xs hr, fun j u hu => (World.cell?_of_block (w := w) (hk b hb)).trans (hj j u hu)⟩
theorem Sl.mono (h : Sl w P A n l) (hp : ∀ b, P b → P' b) : Sl w P' A n l := by
  refine ⟨h.1, fun hn => ?_⟩
  obtain ⟨b, o, xs, hA, hb, hr, hj⟩ := h.2 hn
  exact ⟨b, o, xs, hA, hp b hb, D.reps_mono hp l xs hr, hj⟩
theorem Sl.some_ (h : Sl w P A n l) (hn : 0 < n) : ∃ b o, A = some ⟨b, o, none⟩ ∧ P b := by
  obtain ⟨b, o, xs, hA, hb, _⟩ := h.2 hn
  exact ⟨b, o, hA, hb⟩
theorem Sl.none_ (h : Sl w P none n l) : n = 0 := by
  rcases Nat.eq_zero_or_pos n with h0 | h0
  · exact h0
  · obtain ⟨b, o, hA, _⟩ := h.some_ h0
    cases hA
theorem Sl.at_ (h : Sl w P A n l) (hz : ∀ d ∈ l, d.sz = z) {k : Nat} (hk : k < n) :
    ∃ b o d cs, A = some ⟨b, o, none⟩ ∧ P b ∧ l[k]? = some d ∧ d.rep w P cs ∧ cs.length = z ∧ ∀ j u, cs[j]? = some u → w.cell? ⟨b, o + k * z + j, none⟩ = some u := by
  obtain ⟨b, o, xs, hA, hb, hr, hj⟩ := h.2 (by omega)
  have hm : l[k]? = some (l[k]'(by have := h.1; omega)) := List.getElem?_eq_getElem _
  obtain ⟨cs, hd, hl, hc⟩ := D.reps_at hr hz hm
  exact ⟨b, o, _, cs, hA, hb, hm, hd, hl, fun j u hu => by rw [Nat.add_assoc]; exact hj _ u (hc j u hu)⟩
/-- the typed form -/
theorem Sl.atM {α : Type} {enc : α → D} {l : List α} (h : Sl w P A n (l.map enc)) (hz : ∀ x, (enc x).sz = z) {k : Nat} (hk : k < n) :
    ∃ b o x cs, A = some ⟨b, o, none⟩ ∧ P b ∧ l[k]? = some x ∧ (enc x).rep w P cs ∧ cs.length = z ∧ ∀ j u, cs[j]? = some u → w.cell? ⟨b, o + k * z + j, none⟩ = some u := by
  obtain ⟨b, o, d, cs, hA, hb, hd, hr, hl, hc⟩ := h.at_ (z := z) (fun d hd => by obtain ⟨x, _, rfl⟩ := List.mem_map.1 hd; exact hz x) hk
  rw [List.getElem?_map] at hd
  cases hx : l[k]? with
  | none => rw [hx] at hd; cases hd
  | some x =>
    rw [hx] at hd
    injection hd with hd
    subst hd
    exact ⟨b, o, x, cs, hA, hb, rfl, hr, hl, hc⟩
/-- the first elements -/
theorem Sl.take (h : Sl w P A n l) {m : Nat} (hm : m ≤ n) : Sl w P A m (l.take m) := by
  refine ⟨by have := h.1; simp; omega, fun h0 => ?_⟩
  obtain ⟨b, o, xs, hA, hb, hr, hj⟩ := h.2 (by omega)
  rw [← List.take_append_drop m l] at hr
  obtain ⟨y, y2, rfl, hy, _⟩ := D.reps_split hr
  exact ⟨b, o, y, hA, hb, hy, fun j u hu => hj j u (by rw [List.getElem?_append_left (List.getElem?_eq_some_iff.1 hu).1]; exact hu)⟩
theorem Sl.src (h : Sl w P A n l) (hz : ∀ d ∈ l, d.sz = z) : ∃ xs, D.reps w P l xs ∧ Src w z A n xs := by
  rcases Nat.eq_zero_or_pos n with hn | hn
  · subst hn
    have : l = [] := List.eq_nil_of_length_eq_zero h.1
    subst this
    exact ⟨[], by simp only [D.reps], by simp, by simp, fun h => absurd h (by omega)⟩
  · obtain ⟨b, o, xs, hA, hb, hr, hj⟩ := h.2 hn
    exact ⟨xs, hr, by rw [D.reps_len _ _ hr, D.szs_const hz, h.1], D.reps_one l xs hr, fun _ => ⟨b, o, hA, hj⟩⟩
/-- a row of the call's own reads as a list of trees -/
theorem Sl.ofOwn {base : Nat} {e : TypeId} {c : Nat} {xs : List Value} (h : w.ownsRow base e z (.slice A n c) n xs) (hr : D.reps w P l xs) (hl : l.length = n) (hP : ∀ g, A = some ⟨g, 0, none⟩ → base ≤ g → g < w.heap.size → P g) : Sl w P A n l := by
  refine ⟨hl, fun hn => ?_⟩
  obtain ⟨g, hA, hb, hg, hc, _⟩ := own_block h hn
  exact ⟨g, 0, xs, hA, hP g hA hb hg, hr, fun j u hu => by rw [Nat.zero_add]; exact hc j u hu⟩
end

/-- everything lies below the world's end -/
abbrev lives (w : World) : Nat → Prop := fun b => b < w.heap.size
theorem D.on {w w' : World} {d : D} {cs : List Value} (h : d.rep w (lives w) cs) (hb : Below w.heap.size w w') : d.rep w' (lives w') cs :=
  D.rep_mono (fun _ hlt => Nat.lt_of_lt_of_le hlt hb.size) _ _ (D.rep_keep (fun b hlt => hb.block b hlt) _ _ h)
theorem D.ons {w w' : World} {l : List D} {cs : List Value} (h : D.reps w (lives w) l cs) (hb : Below w.heap.size w w') : D.reps w' (lives w') l cs :=
  D.reps_mono (fun _ hlt => Nat.lt_of_lt_of_le hlt hb.size) _ _ (D.reps_keep (fun b hlt => hb.block b hlt) _ _ h)
theorem Sl.on {w w' : World} {A : Option Addr} {n : Nat} {l : List D} (h : Sl w (lives w) A n l) (hb : Below w.heap.size w w') : Sl w' (lives w') A n l :=
  (h.keep (fun b hlt => hb.block b hlt)).mono (fun _ hlt => Nat.lt_of_lt_of_le hlt hb.size)
end Go.Proofs.Ytbbjncjkddekfaa

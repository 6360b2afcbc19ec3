/- Words for memory that all walks of this seat use: slices that read as lists, rows that the call owns, append from any source, facts kept from the walk. No condition. -/
import Derived.Test.YtbbjncjkddekfaaRows
import Derived.WalkKit
import Derived.WalkSpells
import Derived.WalkLawsBesides
import Derived.Maps.AppendAt
import Derived.Deep.Draws
namespace Go.Proofs.Ytbbjncjkddekfaa
open Go.RowKit

theorem hide {p : Prop} (h : p) : Hid p := h
theorem int_of {a b : Int} {k : IntKind} (h : a = b) : Value.int k a = Value.int k b := by rw [h]
theorem ret_int {a b : Int} {k : IntKind} (h : a = b) : Ending.returned (.int k a) = .returned (.int k b) := by rw [h]
theorem ret_bool {a b : Bool} (h : a = b) : Ending.returned (.bool a) = .returned (.bool b) := by rw [h]
theorem take_snoc {α : Type} {l : List α} {k : Nat} {x : α} (h : l[k]? = some x) : l.take (k + 1) = l.take k ++ [x] := by
  rw [List.take_add_one, h]; rfl

theorem ite_max (x y : Int) : (if y > x then y else x) = max x y := by
  by_cases h : x ≤ y <;> simp [Int.max_def, h] <;> omega
theorem ite_min (x y : Int) : (if y < x then y else x) = min x y := by
  by_cases h : x ≤ y <;> simp [Int.min_def, h] <;> omega
theorem run_max2 (P : Program) (w : World) (ts : Array TypeId) (t : TypeId) (k k' : IntKind) (x y : Int) : (Builtin.max_ ts t #[.int k x, .int k' y]).run P w = .ok (.int k (max x y)) w := by
  rw [run_max_int2, ite_max]
theorem run_min2 (P : Program) (w : World) (ts : Array TypeId) (t : TypeId) (k k' : IntKind) (x y : Int) : (Builtin.min_ ts t #[.int k x, .int k' y]).run P w = .ok (.int k (min x y)) w := by
  rw [run_min_int2, ite_min]

theorem bcell {W w1 : World} (hb : Below W.heap.size W w1) : (∀ b o, b < W.heap.size → w1.cell? ⟨b, o, none⟩ = W.cell? ⟨b, o, none⟩) ∧ (∀ b o, b < W.heap.size → w1.frozen? ⟨b, o, none⟩ = W.frozen? ⟨b, o, none⟩) :=
  ⟨fun b o h => hb.cell (p := ⟨b, o, none⟩) h, fun b o h => hb.frozen (p := ⟨b, o, none⟩) h⟩
theorem below_drewN' {B : Nat} {a w : World} (h : Below B a w) (n : Nat) : Below B a (w.drewN n) := ⟨h.os, h.tape, h.output, h.size, h.block⟩

/-! ## slices that read as lists -/

/-- The slice value '.slice A n _' lies below block B of w; its elements, of sz cells each, read as l by E. -/
def SlR {α : Type} (E : World → Nat → α → List Value → Prop) (sz : Nat) (w : World) (B : Nat) (A : Option Addr) (n : Nat) (l : List α) : Prop :=
  l.length = n ∧ (0 < n → ∃ b o, A = some ⟨b, o, none⟩ ∧ b < B ∧ ∀ k x, l[k]? = some x → ∃ cs : List Value, E w B x cs ∧ cs.length = sz ∧ ∀ j v, cs[j]? = some v → w.cell? ⟨b, o + k * sz + j, none⟩ = some v)

section
variable {α : Type} {E : World → Nat → α → List Value → Prop} {sz : Nat} {w w' : World} {B B' n : Nat} {A : Option Addr} {l : List α}
theorem SlR.nil_ (A : Option Addr) : SlR E sz w B A 0 ([] : List α) := ⟨rfl, fun h => absurd h (by omega)⟩
theorem SlR.keep (h : SlR E sz w B A n l) (hb : Below B w w') (hE : ∀ x cs, E w B x cs → E w' B x cs) : SlR E sz w' B A n l := by
  refine ⟨h.1, fun hn => ?_⟩
  obtain ⟨b, o, hA, hbb, hc⟩ := h.2 hn
  refine ⟨b, o, hA, hbb, fun k x hx => ?_⟩
  obtain ⟨cs, he, hl, hj⟩ := hc k x hx
  exact ⟨cs, hE _ _ he, hl, fun j v hv => (hb.cell (p := ⟨b, _, none⟩) hbb).trans (hj j v hv)⟩
theorem SlR.more (h : SlR E sz w B A n l) (hB : B ≤ B') (hE : ∀ x cs, E w B x cs → E w B' x cs) : SlR E sz w B' A n l := by
  refine ⟨h.1, fun hn => ?_⟩
  obtain ⟨b, o, hA, hbb, hc⟩ := h.2 hn
  refine ⟨b, o, hA, by omega, fun k x hx => ?_⟩
  obtain ⟨cs, he, hl, hj⟩ := hc k x hx
  exact ⟨cs, hE _ _ he, hl, hj⟩
end

/-- Elements whose cells are a function of the element: no address in them. -/
def EF {α : Type} (f : α → List Value) : World → Nat → α → List Value → Prop := fun _ _ x cs => cs = f x

section
variable {α : Type} {f : α → List Value} {sz : Nat} {w w' : World} {B B' n : Nat} {A : Option Addr} {l : List α}
theorem SlR.keepF (h : SlR (EF f) sz w B A n l) (hb : Below B w w') : SlR (EF f) sz w' B A n l := h.keep hb fun _ _ h => h
theorem SlR.moreF (h : SlR (EF f) sz w B A n l) (hB : B ≤ B') : SlR (EF f) sz w B' A n l := h.more hB fun _ _ h => h
/-- behind a step that leaves all that was there: the list lies below the new end too -/
theorem SlR.onF (h : SlR (EF f) sz w B A n l) (hb : Below B w w') (hB : B ≤ B') : SlR (EF f) sz w' B' A n l := (h.keepF hb).moreF hB
theorem SlR.at1 (h : SlR (EF f) sz w B A n l) {k : Nat} (hk : k < n) :
    ∃ b o x, A = some ⟨b, o, none⟩ ∧ b < B ∧ l[k]? = some x ∧ (f x).length = sz ∧ ∀ j v, (f x)[j]? = some v → w.cell? ⟨b, o + k * sz + j, none⟩ = some v := by
  obtain ⟨b, o, hA, hb, hc⟩ := h.2 (by omega)
  have hm : l[k]? = some (l[k]'(by have := h.1; omega)) := List.getElem?_eq_getElem _
  obtain ⟨cs, he, hl, hj⟩ := hc k _ hm
  rw [EF] at he
  subst he
  exact ⟨b, o, _, hA, hb, hm, hl, hj⟩
/-- the address is one and the same for all elements -/
theorem SlR.some_ (h : SlR (EF f) sz w B A n l) (hk : 0 < n) : ∃ b o, A = some ⟨b, o, none⟩ ∧ b < B := by
  obtain ⟨b, o, hA, hb, _⟩ := h.2 hk
  exact ⟨b, o, hA, hb⟩
end

theorem flatMap_at {α : Type} (f : α → List Value) (sz : Nat) : ∀ (l : List α), (∀ x ∈ l, (f x).length = sz) → ∀ k x, l[k]? = some x → ∀ j, j < sz → (l.flatMap f)[k * sz + j]? = (f x)[j]?
  | [], _, k, x, h, _, _ => by simp at h
  | a :: l, hs, 0, x, h, j, hj => by
    have ha := hs a (by simp)
    simp only [List.getElem?_cons_zero, Option.some.injEq] at h
    subst h
    simp only [List.flatMap_cons, Nat.zero_mul, Nat.zero_add]
    rw [List.getElem?_append_left (by omega)]
  | a :: l, hs, k + 1, x, h, j, hj => by
    have ha := hs a (by simp)
    simp only [List.getElem?_cons_succ] at h
    have ih := flatMap_at f sz l (fun y hy => hs y (by simp [hy])) k x h j hj
    simp only [List.flatMap_cons]
    rw [List.getElem?_append_right (by rw [ha, Nat.succ_mul]; omega), ha, ← ih]
    congr 1
    rw [Nat.succ_mul]; omega

theorem flatMap_length {α : Type} (f : α → List Value) (sz : Nat) (l : List α) (hs : ∀ x ∈ l, (f x).length = sz) : (l.flatMap f).length = l.length * sz := by
  induction l with
  | nil => simp
  | cons a l ih =>
    rw [List.flatMap_cons, List.length_append, hs a (by simp), ih (fun x hx => hs x (by simp [hx])), List.length_cons, Nat.succ_mul]
    omega

/-! ## rows that the call owns -/

theorem own_form {w : World} {base : Nat} {e : TypeId} {sz : Nat} {v : Value} {n : Nat} {xs : List Value} (h : w.ownsRow base e sz v n xs) :
    ∃ A c, v = .slice A n c ∧ n ≤ c ∧ c ≤ maxLen ∧ (A = none → n = 0 ∧ c = 0) ∧ ∀ ad, A = some ad → ∃ g, ad = ⟨g, 0, none⟩ ∧ base ≤ g ∧ g < w.heap.size := by
  rcases h.2 with ⟨rfl, rfl⟩ | ⟨g, cap, cur, rfl, hb, hg, hn, hc, _⟩
  · exact ⟨none, 0, rfl, Nat.le_refl _, by simp, fun _ => ⟨rfl, rfl⟩, fun _ h => nomatch h⟩
  · exact ⟨_, _, rfl, hn, hc, (fun h => nomatch h), fun ad h => (by injection h with h; exact ⟨g, h.symm, hb, (Array.getElem?_eq_some_iff.1 hg).1⟩)⟩

theorem own_read {α : Type} {f : α → List Value} {w : World} {base : Nat} {e : TypeId} {sz : Nat} {A : Option Addr} {n c : Nat} {l : List α}
    (h : w.ownsRow base e sz (.slice A n c) n (l.flatMap f)) (hs : ∀ x ∈ l, (f x).length = sz) (hl : l.length = n) : SlR (EF f) sz w w.heap.size A n l := by
  refine ⟨hl, fun hn => ?_⟩
  rcases h.2 with ⟨hv, h0⟩ | ⟨g, cap, cur, hv, _, hg, hnc, _, hcs, htake⟩
  · omega
  · injection hv with hA _ _
    subst hA
    refine ⟨g, 0, rfl, (Array.getElem?_eq_some_iff.1 hg).1, fun k x hx => ⟨f x, rfl, hs x (List.mem_of_getElem? hx), fun j v hj => ?_⟩⟩
    have hjs : j < sz := by
      have := hs x (List.mem_of_getElem? hx)
      have := (List.getElem?_eq_some_iff.1 hj).1
      omega
    have hkn : k < l.length := (List.getElem?_eq_some_iff.1 hx).1
    have hfl := flatMap_at f sz l hs k x hx j hjs
    rw [hj, ← htake, List.getElem?_take] at hfl
    split at hfl
    · rw [cell_of_row w g _ cur e (0, 0) hg, Nat.zero_add]
      simpa using hfl
    · cases hfl

/-- a row of the call's own is kept by whatever leaves what is below its end -/
theorem own_below {w w' : World} {base B : Nat} {e : TypeId} {sz : Nat} {v : Value} {n : Nat} {xs : List Value} (h : w.ownsRow base e sz v n xs) (hb : Below B w w') (hB : ∀ g, v.ownBlock = some g → g < B) : w'.ownsRow base e sz v n xs := by
  refine ⟨h.1, ?_⟩
  rcases h.2 with h2 | ⟨g, cap, cur, rfl, hbg, hg, rest⟩
  · exact .inl h2
  · exact .inr ⟨g, cap, cur, rfl, hbg, (hb.block g (hB g rfl)).trans hg, rest⟩
theorem own_below' {w w' : World} {base : Nat} {e : TypeId} {sz : Nat} {v : Value} {n : Nat} {xs : List Value} (h : w.ownsRow base e sz v n xs) (hb : Below w.heap.size w w') : w'.ownsRow base e sz v n xs :=
  own_below h hb fun g hg => (h.lt g hg).2

theorem add_zero_addr (g j : Nat) : (⟨g, 0, none⟩ : Addr).add j = ⟨g, j, none⟩ := by unfold Addr.add; split <;> simp_all
/-- an owned row that is not empty lies in a block of its own, whose cells may be read and written -/
theorem own_block {w : World} {base : Nat} {e : TypeId} {sz : Nat} {A : Option Addr} {n c : Nat} {xs : List Value} (h : w.ownsRow base e sz (.slice A n c) n xs) (hn : 0 < n) :
    ∃ g, A = some ⟨g, 0, none⟩ ∧ base ≤ g ∧ g < w.heap.size ∧ (∀ j u, xs[j]? = some u → w.cell? ⟨g, j, none⟩ = some u) ∧ (∀ j, w.frozen? ⟨g, j, none⟩ = false) ∧
      ∀ j u, j < n * sz → (w.setCell ⟨g, j, none⟩ u).ownsRow base e sz (.slice A n c) n (xs.set j u) := by
  rcases h.2 with ⟨hv, h0⟩ | ⟨g, cap, cur, hv, hb, hg, hnc, hcm, hcs, htake⟩
  · omega
  · injection hv with hA _ hc
    subst hA hc
    refine ⟨g, rfl, hb, (Array.getElem?_eq_some_iff.1 hg).1, fun j u hu => ?_, fun j => ?_, fun j u hj => ⟨by rw [List.length_set]; exact h.1, .inr ⟨g, c, cur.setIfInBounds j u, rfl, hb, ?_, hnc, hcm, by simpa using hcs, ?_⟩⟩⟩
    · rw [← htake, List.getElem?_take] at hu
      split at hu
      · rw [cell_of_row w g j cur e (0, 0) hg]
        simpa using hu
      · cases hu
    · simp [World.frozen?, hg]
    · simp [World.setCell, Array.getElem?_modify, hg]
    · rw [← htake, Array.toList_setIfInBounds, List.take_set]

theorem flatMap_set1 {α : Type} (f : α → List Value) (sz : Nat) : ∀ (l : List α), (∀ x ∈ l, (f x).length = sz) → ∀ k x, l[k]? = some x → ∀ j u y, j < sz → (f x).set j u = f y → (l.flatMap f).set (k * sz + j) u = (l.set k y).flatMap f
  | [], _, k, x, h, _, _, _, _, _ => by simp at h
  | a :: l, hs, 0, x, h, j, u, y, hj, hy => by
    have ha := hs a (by simp)
    simp only [List.getElem?_cons_zero, Option.some.injEq] at h
    subst h
    simp only [List.flatMap_cons, Nat.zero_mul, Nat.zero_add, List.set_cons_zero]
    rw [List.set_append_left _ _ (by omega), hy]
  | a :: l, hs, k + 1, x, h, j, u, y, hj, hy => by
    have ha := hs a (by simp)
    simp only [List.getElem?_cons_succ] at h
    have ih := flatMap_set1 f sz l (fun y hy => hs y (by simp [hy])) k x h j u y hj hy
    simp only [List.flatMap_cons, List.set_cons_succ]
    rw [List.set_append_right _ _ (by rw [ha, Nat.succ_mul]; omega), ha, ← ih]
    congr 2
    rw [Nat.succ_mul]; omega

theorem run_eqnil {P : Program} (w : World) (t e : TypeId) (a : Option Addr) (n c n' c' : Nat) (h : P.underlying t = some (.slice e)) :
    (binOp .eql t (.slice a n c) (.slice none n' c')).run P w = .ok (.bool a.isNone) w := by
  have key : ∀ d : Nat, (Op.equalIn (d + 1) t (.slice a n c) (.slice none n' c')).run P w = .ok a.isNone w := fun d => by
    rcases a with _ | a <;> simp [Op.equalIn, run_underlying h]
  simp only [binOp]
  simp [Op.equal, Op.maxDepth, key 9999]

/-! ## append, the source nil, empty or not -/

/-- The slice '.slice A m _' reads as the cells news. -/
def Src (w : World) (sz : Nat) (A : Option Addr) (m : Nat) (news : List Value) : Prop :=
  news.length = m * sz ∧ (∀ u ∈ news, u.oneCell' = true) ∧ (0 < m → ∃ b o, A = some ⟨b, o, none⟩ ∧ ∀ j u, news[j]? = some u → w.cell? ⟨b, o + j, none⟩ = some u)

theorem Src.one {w : World} {b : Nat} {u : Value} (h : w.cell? ⟨b, 0, none⟩ = some u) (h1 : u.oneCell' = true) : Src w 1 (some ⟨b, 0, none⟩) 1 [u] :=
  ⟨rfl, by simpa using h1, fun _ => ⟨b, 0, rfl, fun j v hj => by
    cases j with
    | zero => simp at hj; subst hj; exact h
    | succ j => simp at hj⟩⟩

/-- one new block, as '[]T{x}' lays it -/
theorem Src.block {w : World} {g : Nat} {e : TypeId} {xs : Array Value} {sz : Nat} (hg : w.heap[g]? = some (.cells xs e (0, 0))) (m : Nat) (hm : xs.size = m * sz) (h1 : ∀ u ∈ xs.toList, u.oneCell' = true) :
    Src w sz (some ⟨g, 0, none⟩) m xs.toList :=
  ⟨by simpa using hm, h1, fun _ => ⟨g, 0, rfl, fun j u hj => by
    rw [Nat.zero_add, cell_of_row w g j xs e (0, 0) hg]
    simpa using hj⟩⟩

theorem Src.ofSlR {α : Type} {f : α → List Value} {sz : Nat} {w : World} {B n : Nat} {A : Option Addr} {l : List α} (h : SlR (EF f) sz w B A n l) (hs : ∀ x ∈ l, (f x).length = sz) (h1 : ∀ x ∈ l, ∀ u ∈ f x, u.oneCell' = true) (hz : 0 < sz) :
    Src w sz A n (l.flatMap f) := by
  refine ⟨by rw [flatMap_length f sz l hs, h.1], fun u hu => ?_, fun hn => ?_⟩
  · obtain ⟨x, hx, hu⟩ := List.mem_flatMap.1 hu
    exact h1 x hx u hu
  · obtain ⟨b, o, hA, _, hc⟩ := h.2 hn
    refine ⟨b, o, hA, fun j u hj => ?_⟩
    have hjl := (List.getElem?_eq_some_iff.1 hj).1
    rw [flatMap_length f sz l hs] at hjl
    have hkn : j / sz < l.length := by rw [Nat.div_lt_iff_lt_mul hz]; exact hjl
    have hx : l[j / sz]? = some (l[j / sz]'hkn) := List.getElem?_eq_getElem hkn
    have hmod := Nat.mod_lt j hz
    have hdm : j / sz * sz + j % sz = j := Nat.div_add_mod' j sz
    have hfl := flatMap_at f sz l hs _ _ hx (j % sz) hmod
    rw [hdm, hj] at hfl
    obtain ⟨cs, he, _, hcj⟩ := hc _ _ hx
    rw [EF] at he
    subst he
    have := hcj _ _ hfl.symm
    rwa [Nat.add_assoc, hdm] at this

/-- What append asks of the program's tables. -/
def AppT (P : Program) (t e : TypeId) (z : Value) (size bytes : Nat) : Prop :=
  ∃ i, P.underlying t = some (.slice e) ∧ P.info? e = some i ∧ i.zero = some z ∧ i.size = size ∧ i.bytes = bytes ∧ z.cells.size = size ∧ 0 < size

theorem AppT.mk' {P : Program} {t e : TypeId} {z : Value} {size bytes : Nat} (ht : P.underlying t = some (.slice e)) (hi : (P.info? e).map (fun i => (i.zero, i.size, i.bytes)) = some (some z, size, bytes)) (hz : z.cells.size = size) (h0 : 0 < size) : AppT P t e z size bytes := by
  obtain ⟨i, h1, h2, h3, h4⟩ := info_parts hi
  exact ⟨i, ht, h1, h2, h3, h4, hz, h0⟩

section
variable {P : Program} (w : World)
theorem run_app_nil (base : Nat) (t ty e : TypeId) (i : TypeInfo) (size : Nat) (ht : P.underlying t = some (.slice e)) (hi : P.info? e = some i)
    (v : Value) (n : Nat) (xs : List Value) (hown : w.ownsRow base e size v n xs) (c : Nat) : (Builtin.append_ #[t, t] ty #[v, .slice none 0 c]).run P w = .ok v w := by
  rcases hown.2 with ⟨rfl, rfl⟩ | ⟨g, cap, cur, rfl, _, _, hnc, _⟩
  · simp [Builtin.append_, run_underlying ht, sizeOf, typeInfo, hi, Builtin.lenOf, Builtin.firstCells]
  · simp [Builtin.append_, run_underlying ht, sizeOf, typeInfo, hi, Builtin.lenOf, Builtin.firstCells, hnc, storeCells]

theorem run_app {t e : TypeId} {z : Value} {size bytes : Nat} (hA : AppT P t e z size bytes) (base : Nat) (ty : TypeId) (v : Value) (n : Nat) (xs : List Value) (hown : w.ownsRow base e size v n xs)
    (A : Option Addr) (m c : Nat) (news : List Value) (hs : Src w size A m news) (hbytes : (n + m) * bytes ≤ 140737488355328) (h63 : n + m ≤ 140737488355328) (hbase : base ≤ w.heap.size) (hAn : A = none → m = 0) :
    ∃ v' w', (Builtin.append_ #[t, t] ty #[v, .slice A m c]).run P w = .ok v' w' ∧ w'.ownsRow base e size v' (n + m) (xs ++ news) ∧ w.grownBy w' v.ownBlock ∧
      (v'.ownBlock = v.ownBlock ∨ v'.ownBlock = some w.heap.size) := by
  obtain ⟨i, ht, hi, hz, hsize, hby, hzs, hsz⟩ := hA
  rcases A with _ | ad
  · have hm := hAn rfl
    subst hm
    have hn : news = [] := List.eq_nil_of_length_eq_zero (by simpa using hs.1)
    subst hn
    exact ⟨v, w, run_app_nil w base t ty e i size ht hi v n xs hown c, by simpa using hown, World.grownBy.refl w _, .inl rfl⟩
  · have hcells : ∀ j u, news[j]? = some u → w.cell? (ad.add j) = some u := by
      intro j u hu
      rcases Nat.eq_zero_or_pos m with h0 | h0
      · subst h0
        have hn : news = [] := List.eq_nil_of_length_eq_zero (by simpa using hs.1)
        subst hn
        simp at hu
      · obtain ⟨b, o, h, hc⟩ := hs.2.2 h0
        injection h with h
        subst h
        have := hc j u hu
        by_cases hj : j = 0
        · subst hj; simpa [Addr.add] using this
        · simpa [Addr.add, hj] using this
    obtain ⟨v', w', hrun, h2, h3, _, h5⟩ := run_append_own_at (P := P) w base t ty e i z size bytes ht hi hz hsize hby hzs hsz v n xs hown ad m c news hs.1 hcells hs.2.1 (by simp only [maxLen]; omega) hbytes hbase
    exact ⟨v', w', hrun, h2, h3, h5⟩

theorem wp_app {o : Oper} {a : Act} {K : Act → World → Prop} {Q : Exit → Act → World → Prop} {t e : TypeId} {z : Value} {size bytes : Nat} (hA : AppT P t e z size bytes) (s x : Operand)
    (ho : o.op = .call { callee := .builtin .append, args := #[s, x], argTypes := #[t, t] })
    (base : Nat) (v : Value) (n : Nat) (xs : List Value) (hs : a.eval s = v) (hown : w.ownsRow base e size v n xs)
    (A : Option Addr) (m c : Nat) (news : List Value) (hx : a.eval x = .slice A m c) (hr : Src w size A m news)
    (hbytes : (n + m) * bytes ≤ 140737488355328) (h63 : n + m ≤ 140737488355328) (hbase : base ≤ w.heap.size) (hAn : A = none → m = 0)
    (h : ∀ v' w', w'.ownsRow base e size v' (n + m) (xs ++ news) → w.grownBy w' v.ownBlock → (v'.ownBlock = v.ownBlock ∨ v'.ownBlock = some w.heap.size) → K (a.put o.dst v') w') : o.wp P a w K Q := by
  obtain ⟨v', w', hrun, h2, h3, h4⟩ := run_app (P := P) w hA base o.type v n xs hown A m c news hr hbytes h63 hbase hAn
  unfold Oper.wp execOp
  simp only [ho, resolve, invoke, builtin, Sem.run_bind, Sem.run_pure, Result.andThen_ok, List.map_toArray, List.map_cons, List.map_nil, hs, hx, hrun]
  exact h v' w' h2 h3 h4

theorem wpList_app {ops : Array Oper} {rest : List Oper} {o : Oper} {a : Act} {Q : Exit → Act → World → Prop} {t e : TypeId} {z : Value} {size bytes : Nat} (hA : AppT P t e z size bytes) (hgd : o.guard = none) (s x : Operand)
    (ho : o.op = .call { callee := .builtin .append, args := #[s, x], argTypes := #[t, t] })
    (base : Nat) (v : Value) (n : Nat) (xs : List Value) (hs : a.eval s = v) (hown : w.ownsRow base e size v n xs)
    (A : Option Addr) (m c : Nat) (news : List Value) (hx : a.eval x = .slice A m c) (hr : Src w size A m news)
    (hbytes : (n + m) * bytes ≤ 140737488355328) (h63 : n + m ≤ 140737488355328) (hbase : base ≤ w.heap.size) (hAn : A = none → m = 0)
    (h : ∀ v' w', w'.ownsRow base e size v' (n + m) (xs ++ news) → w.grownBy w' v.ownBlock → (v'.ownBlock = v.ownBlock ∨ v'.ownBlock = some w.heap.size) → wpList P ops Q rest (a.put o.dst v') w') : wpList P ops Q (o :: rest) a w :=
  wpList_plain hgd fun _ hK => wp_app w hA s x ho base v n xs hs hown A m c news hx hr hbytes h63 hbase hAn fun v' w' h2 h3 h4 => hK _ _ (h v' w' h2 h3 h4)
end

/-- append of one element that a literal has just laid in a block of its own: 'append(v, T{..})' -/
theorem wpList_app1 {P : Program} (w0 : World) {ops : Array Oper} {rest : List Oper} {o : Oper} {a : Act} {Q : Exit → Act → World → Prop} {t e : TypeId} {z : Value} {size bytes : Nat} (hA : AppT P t e z size bytes) (hgd : o.guard = none) (s x : Operand)
    (ho : o.op = .call { callee := .builtin .append, args := #[s, x], argTypes := #[t, t] })
    (base : Nat) (v : Value) (n : Nat) (xs : List Value) (cs : Array Value) (hs : a.eval s = v) (hown : w0.ownsRow base e size v n xs)
    (hx : a.eval x = .slice (some ⟨w0.heap.size, 0, none⟩) 1 1) (hcs : cs.size = size) (h1 : ∀ u ∈ cs.toList, u.oneCell' = true)
    (hbytes : (n + 1) * bytes ≤ 140737488355328) (h63 : n + 1 ≤ 140737488355328) (hbase : base ≤ w0.heap.size)
    (h : ∀ v' w', w'.ownsRow base e size v' (n + 1) (xs ++ cs.toList) → w0.grownBy w' v.ownBlock → (v'.ownBlock = v.ownBlock ∨ v'.ownBlock = some (w0.heap.size + 1)) → wpList P ops Q rest (a.put o.dst v') w') : wpList P ops Q (o :: rest) a (w0.alloc (.cells cs e)) := by
  refine wpList_app _ hA hgd s x ho base v n xs hs (hown.alloc _) _ 1 1 cs.toList hx (Src.block (heap_alloc_new w0 _) 1 (by omega) h1) hbytes h63 (by simp; omega) (fun h => nomatch h) fun v' w' h2 h3 h4 => ?_
  refine h v' w' h2 ⟨h3.os, h3.tape, h3.output, by have := h3.size; simp at this; omega, fun k hk hne => (h3.block k (by simp; omega) hne).trans (Below.heap_alloc w0 _ k hk)⟩ ?_
  simpa using h4

theorem Src.on {w w' : World} {sz m : Nat} {A : Option Addr} {news : List Value} (h : Src w sz A m news) (hb : Below w.heap.size w w') : Src w' sz A m news := by
  refine ⟨h.1, h.2.1, fun hm => ?_⟩
  obtain ⟨b, o, hA, hc⟩ := h.2.2 hm
  refine ⟨b, o, hA, fun j u hj => ?_⟩
  have hcj := hc j u hj
  exact (hb.cell (p := ⟨b, o + j, none⟩) (World.block_lt_of_cell? w _ hcj)).trans hcj

/-- append onto a new, empty slice: 'append([]T{}, x...)' -/
theorem wpList_appE {P : Program} (w0 : World) {ops : Array Oper} {rest : List Oper} {o : Oper} {a : Act} {Q : Exit → Act → World → Prop} {t e : TypeId} {z : Value} {size bytes : Nat} (hA : AppT P t e z size bytes) (hgd : o.guard = none) (s x : Operand)
    (ho : o.op = .call { callee := .builtin .append, args := #[s, x], argTypes := #[t, t] })
    (hs : a.eval s = .slice (some ⟨w0.heap.size, 0, none⟩) 0 0) (A : Option Addr) (m c : Nat) (news : List Value) (hx : a.eval x = .slice A m c) (hr : Src w0 size A m news)
    (hbytes : m * bytes ≤ 140737488355328) (h63 : m ≤ 140737488355328) (hAn : A = none → m = 0)
    (h : ∀ A' c' w', w'.ownsRow w0.heap.size e size (.slice A' m c') m news → Below w0.heap.size w0 w' → wpList P ops Q rest (a.put o.dst (.slice A' m c')) w') : wpList P ops Q (o :: rest) a (w0.alloc (.cells #[] e)) := by
  have hown : (w0.alloc (.cells #[] e)).ownsRow w0.heap.size e size (.slice (some ⟨w0.heap.size, 0, none⟩) 0 0) 0 [] := World.ownsRow_made w0 #[] 0 (Nat.le_refl _) (Nat.zero_le _) (by simp)
  refine wpList_app _ hA hgd s x ho w0.heap.size _ 0 [] hs hown A m c news hx (hr.on ((Below.refl _ _).alloc (Nat.le_refl _) _)) (by rw [Nat.zero_add]; exact hbytes) (by omega) (by simp) hAn fun v' w' h2 h3 h4 => ?_
  simp only [Nat.zero_add, List.nil_append] at h2
  have hb : Below w0.heap.size w0 w' := ((Below.refl _ _).alloc (Nat.le_refl _) _).grown h3 (by simp) (by simp [Value.ownBlock])
  obtain ⟨A', c', rfl, _⟩ := own_form h2
  exact h A' c' w' h2 hb

/-- behind an append onto a row of the call's own -/
theorem below_app {B : Nat} {a w w' : World} {base : Nat} {e : TypeId} {sz : Nat} {v : Value} {n : Nat} {xs : List Value} (h : Below B a w) (hown : w.ownsRow base e sz v n xs) (hg : w.grownBy w' v.ownBlock) (hB : B ≤ base) (hBs : B ≤ w.heap.size) : Below B a w' :=
  h.grown hg hBs fun k hk => Nat.le_trans hB (hown.lt k hk).1

/-! ## make -/
section
variable {P : Program} {t e : TypeId} {z : Value} {size bytes : Nat}
theorem run_mk (hA : AppT P t e z size bytes) (kl kc : IntKind) (n : Nat) (hb : bytes * n ≤ 281474976710656) (h63 : n ≤ 281474976710656) (w : World) :
    (Instr.makeSlice t (.int kl (n : Int)) (.int kc (n : Int))).run P w = .ok (.slice (some ⟨w.heap.size, 0, none⟩) n n) (w.alloc (.cells (madeCells z.cells (n * size)) e)) := by
  obtain ⟨i, ht, hi, hz, hsize, hby, hzs, hsz⟩ := hA
  have hbi : (i.bytes : Int) * (n : Int) ≤ 281474976710656 := by
    have h : ((i.bytes * n : Nat) : Int) ≤ 281474976710656 := by rw [hby]; omega
    rwa [Int.natCast_mul] at h
  have hr := run_make (P := P) w t e i z ht hi hz kl kc n n (by omega) (by omega) hbi (by omega)
  simp only [Int.toNat_natCast] at hr
  rw [hr, hsize]
theorem made_flat {α : Type} {f : α → List Value} {x : α} {zc : Array Value} {sz : Nat} (hz : zc.toList = f x) (hs : (f x).length = sz) (h0 : 0 < sz) (n : Nat) : (madeCells zc (n * sz)).toList = (List.replicate n x).flatMap f := by
  have hzs : zc.size = sz := by rw [← Array.length_toList, hz, hs]
  apply List.ext_getElem?
  intro j
  by_cases hj : j < n * sz
  · have hk : j / sz < n := by rw [Nat.div_lt_iff_lt_mul h0]; exact hj
    have hm := Nat.mod_lt j h0
    have hx : (List.replicate n x)[j / sz]? = some x := by rw [List.getElem?_replicate, if_pos hk]
    have := flatMap_at f sz (List.replicate n x) (fun y hy => by rw [(List.mem_replicate.1 hy).2]; exact hs) _ _ hx _ hm
    rw [Nat.div_add_mod'] at this
    rw [this, ← hz]
    have hmz : j % zc.size < zc.size := by rw [hzs]; exact hm
    simp only [madeCells, Array.getElem?_toList, Array.getElem?_map, Array.getElem?_range, hj, if_pos, Option.map_some]
    rw [← hzs, getElem!_pos zc _ hmz, Array.getElem?_eq_getElem hmz]
  · rw [List.getElem?_eq_none (by rw [Array.length_toList, size_madeCells]; omega), List.getElem?_eq_none (by rw [flatMap_length f sz _ (fun y hy => by rw [(List.mem_replicate.1 hy).2]; exact hs), List.length_replicate]; omega)]
/-- what make lays, as a row of the call's own -/
theorem own_mk {α : Type} {f : α → List Value} {x : α} {zc : Array Value} {sz : Nat} (hz : zc.toList = f x) (hs : (f x).length = sz) (h0 : 0 < sz) (n : Nat) (hn : n ≤ 281474976710656) {w : World} {base : Nat} (hb : base ≤ w.heap.size) :
    (w.alloc (.cells (madeCells zc (n * sz)) e)).ownsRow base e sz (.slice (some ⟨w.heap.size, 0, none⟩) n n) n ((List.replicate n x).flatMap f) := by
  rw [← made_flat hz hs h0 n]
  exact World.ownsRow_lit w _ n hb (by unfold maxLen; omega) (size_madeCells _ _)
end

/-! ## elements -/
def cInt (x : Int) : List Value := [.int .i64 x]
def cStr (x : ByteArray) : List Value := [.string x]

theorem SlR.int {w : World} {B n : Nat} {A : Option Addr} {l : List Int} (h : SlR (EF cInt) 1 w B A n l) {k : Nat} (hk : k < n) :
    ∃ b o x, A = some ⟨b, o, none⟩ ∧ b < B ∧ l[k]? = some x ∧ w.cell? ⟨b, o + k, none⟩ = some (.int .i64 x) := by
  obtain ⟨b, o, x, hA, hb, hx, _, hc⟩ := h.at1 hk
  have := hc 0 _ rfl
  simp only [Nat.mul_one, Nat.add_zero] at this
  exact ⟨b, o, x, hA, hb, hx, this⟩
theorem SlR.str {w : World} {B n : Nat} {A : Option Addr} {l : List ByteArray} (h : SlR (EF cStr) 1 w B A n l) {k : Nat} (hk : k < n) :
    ∃ b o x, A = some ⟨b, o, none⟩ ∧ b < B ∧ l[k]? = some x ∧ w.cell? ⟨b, o + k, none⟩ = some (.string x) := by
  obtain ⟨b, o, x, hA, hb, hx, _, hc⟩ := h.at1 hk
  have := hc 0 _ rfl
  simp only [Nat.mul_one, Nat.add_zero] at this
  exact ⟨b, o, x, hA, hb, hx, this⟩
theorem flat_int (l : List Int) : l.flatMap cInt = l.map (Value.int .i64) := by
  induction l with
  | nil => rfl
  | cons a l ih => rw [List.flatMap_cons, ih]; rfl
theorem flat_int_snoc (l : List Int) (x : Int) : (l ++ [x]).flatMap cInt = l.flatMap cInt ++ [.int .i64 x] := by
  rw [List.flatMap_append]; rfl
theorem one_arr1 (k : IntKind) (x : Int) : ∀ u ∈ (#[Value.int k x] : Array Value).toList, u.oneCell' = true := by
  intro u hu
  simp at hu
  subst hu; rfl
theorem len_cInt (l : List Int) : ∀ x ∈ l, (cInt x).length = 1 := fun _ _ => rfl

/-- what the row's frame says of a slice of integers that came in -/
theorem row_slr {k : IntKind} {w : World} {a : Option Addr} {len cap : Nat} {zs : List Int}
    (h : (a = none ∧ len = 0 ∧ cap = 0 ∧ zs = []) ∨ ∃ x, a = some x ∧ len ≤ cap ∧ cap ≤ maxLen ∧ zs.length = cap ∧ (∀ i, i < zs.length → w.cell? (x.add i) = some (.int k (zs.getD i 0))) ∧ ∀ n ∈ zs, (Lit.int k n).wf = true) (hk : k = .i64) :
    SlR (EF cInt) 1 w w.heap.size a len (zs.take len) := by
  subst hk
  rcases h with ⟨rfl, rfl, rfl, rfl⟩ | ⟨x, rfl, hlc, _, hz, hc, _⟩
  · exact SlR.nil_ _
  · refine ⟨by simp; omega, fun hn => ?_⟩
    have h0 := hc 0 (by omega)
    have hx : x.spot = none := by
      have h1 : w.cell? x = some (.int .i64 (zs.getD 0 0)) := by simpa [Addr.add] using h0
      cases hs : x.spot with
      | none => rfl
      | some s =>
        rw [World.cell?] at h1
        split at h1
        · rw [hs] at h1; simp at h1
        · cases h1
    have hbl := World.block_lt_of_cell? w _ h0
    refine ⟨x.block, x.off, by rw [← hx], by simpa [Addr.add] using hbl, fun j v hj => ⟨cInt v, rfl, rfl, fun i u hu => ?_⟩⟩
    have hjl := (List.getElem?_eq_some_iff.1 hj).1
    rw [List.length_take] at hjl
    have hcj := hc j (by omega)
    rw [List.getElem?_take] at hj
    split at hj
    · have hv : zs.getD j 0 = v := by rw [List.getD_eq_getElem?_getD, hj]; rfl
      rw [hv] at hcj
      have hi : i = 0 ∧ u = .int .i64 v := by
        cases i with
        | zero => simp [cInt] at hu; exact ⟨rfl, hu.symm⟩
        | succ i => simp [cInt] at hu
      obtain ⟨rfl, rfl⟩ := hi
      have ha : x.add j = ⟨x.block, x.off + j * 1 + 0, none⟩ := by
        rw [Nat.mul_one, Nat.add_zero]
        unfold Addr.add
        split
        · rename_i hj0
          rw [hj0, Nat.add_zero, ← hx]
        · rfl
      rw [ha] at hcj
      exact hcj
    · cases hj

theorem appInt : AppT Try.prog 22 3 (.int .i64 0) 1 8 := AppT.mk' Try.underlying22 (by kernel_rfl) rfl (by omega)
end Go.Proofs.Ytbbjncjkddekfaa

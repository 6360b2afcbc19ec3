/- A region that draws its order, walked once along a plan: what only reads is taken first, each other operation when it alone may come up. No condition. -/
import Derived.OrdersHeld
import Derived.StillTail
import Derived.WalkKit
namespace Go.Proofs.Ytbbjncjkddekfaa
open Go.RowKit

section
variable {P : Program} {ops : Array Oper} {Q : Exit → Act → World → Prop} {md : Region.Mode} {R : World → World → Prop} {T : Nat → Bool}

/-- Whatever order is picked; R from world to world behind each operation of T. -/
def wpAnyT (P : Program) (md : Region.Mode) (ops : Array Oper) (Q : Exit → Act → World → Prop) (R : World → World → Prop) (T : Nat → Bool) : Nat → Array Bool → Act → World → Prop
  | 0, listed, a, w => Region.ready md ops listed = [] ∧ Q .normal a w
  | fuel + 1, listed, a, w =>
    (Region.ready md ops listed = [] → Q .normal a w) ∧
    ∀ i ∈ Region.ready md ops listed, wpOp P ops Q i (fun a' w' => (T i = true → R w w') ∧ wpAnyT P md ops Q R T fuel (listed.setIfInBounds i true) a' w') a w

theorem wpAny_of_T : ∀ (fuel : Nat) (listed : Array Bool) (a : Act) (w : World), wpAnyT P md ops Q R T fuel listed a w → wpAny P md ops Q fuel listed a w
  | 0, _, _, _, h => h
  | fuel + 1, _, _, _, h => ⟨h.1, fun i hi => wpOp_mono (fun a' w' h' => wpAny_of_T fuel _ a' w' h'.2) (h.2 i hi)⟩

/-- What is listed has all that it waits for listed. -/
def ClosedL (md : Region.Mode) (ops : Array Oper) (listed : Array Bool) : Prop :=
  ∀ j oj, ops[j]? = some oj → listed.getD j false = true → ∀ e ∈ oj.after, Region.binds md e = true → listed.getD e.on false = true

theorem ClosedL.set {i : Nat} {listed : Array Bool} (inv : ClosedL md ops listed) (hi : i ∈ Region.ready md ops listed) : ClosedL md ops (listed.setIfInBounds i true) := by
  obtain ⟨_, oi, hoi, hall⟩ := mem_ready.1 hi
  intro j oj hj hl e he hb
  by_cases hij : i = j
  · subst hij
    have : oj = oi := Option.some.inj (hj.symm.trans hoi)
    subst this
    exact getD_set_true (hall e he hb)
  · rw [getD_set_ne false hij] at hl
    exact getD_set_true (inv j oj hj hl e he hb)

/-- j waits for i, at once or through others. -/
def anc (md : Region.Mode) (ops : Array Oper) : Nat → Nat → Nat → Bool
  | 0, _, _ => false
  | f + 1, j, i => match ops[j]? with
    | none => false
    | some oj => oj.after.any fun e => Region.binds md e && (e.on == i || anc md ops f e.on i)

theorem anc_spec {i : Nat} {listed : Array Bool} (inv : ClosedL md ops listed) : ∀ (f j : Nat), anc md ops f j i = true →
    (∃ oj, ops[j]? = some oj ∧ ∀ e ∈ oj.after, Region.binds md e = true → listed.getD e.on false = true) → listed.getD i false = true := by
  intro f
  induction f with
  | zero => intro j h; simp [anc] at h
  | succ f ih =>
    intro j h hj
    obtain ⟨oj, ho, hall⟩ := hj
    simp only [anc, ho] at h
    obtain ⟨e, he, hb⟩ := Array.any_eq_true'.1 h
    simp only [Bool.and_eq_true, Bool.or_eq_true, beq_iff_eq] at hb
    have hl := hall e he hb.1
    rcases hb.2 with h2 | h2
    · rw [← h2]; exact hl
    · refine ih e.on h2 ?_
      cases hk : ops[e.on]? with
      | none => cases f <;> simp [anc, hk] at h2
      | some ok => exact ⟨ok, rfl, fun e' he' hb' => inv e.on ok hk hl e' he' hb'⟩

theorem wpAnyT_first {i : Nat} {oi : Oper} {v : Value} {U : World → World → Prop} (htr : ∀ a b c, R a b → U b c → U a c) (hrf : ∀ a, R a a) (huf : ∀ a, U a a) (hi : ops[i]? = some oi) (hsel : ∀ (j : Nat) (o : Oper) cs b, ops[j]? = some o → o.op ≠ .select cs b)
    (hQ : ∀ c a w, Q (.panic c) (a.put oi.dst v) w → Q (.panic c) a w) (hT : (∀ a b, U a b) ∨ ∀ j, T j = false → ∃ f, anc md ops f j i = true) :
    ∀ (fuel : Nat) (listed : Array Bool) (a : Act) (w : World), ClosedL md ops listed →
      (∀ j oj, ops[j]? = some oj → j ≠ i → listed.getD j true = false → (∀ e ∈ oj.after, Region.binds md e = true → e.on ≠ i) → oi.apart ops oj = true) →
      i ∈ Region.ready md ops listed → YieldsIf P ops (U w) oi v a →
      wpAnyT P md ops Q R T fuel (listed.setIfInBounds i true) (a.put oi.dst v) w → wpAnyT P md ops Q R T (fuel + 1) listed a w := by
  intro fuel
  induction fuel with
  | zero =>
    intro listed a w _ _ hr hy H
    refine ⟨fun h => (by rw [h] at hr; cases hr), fun j hj => ?_⟩
    by_cases hji : j = i
    · subst hji; exact hy.wpOp hi (huf w) ⟨fun _ => hrf w, H⟩
    · have := ready_mono hj hji
      rw [H.1] at this
      cases this
  | succ fuel ih =>
    intro listed a w inv hfree hr hy H
    refine ⟨fun h => (by rw [h] at hr; cases hr), fun j hj => ?_⟩
    by_cases hji : j = i
    · subst hji; exact hy.wpOp hi (huf w) ⟨fun _ => hrf w, H⟩
    · have h1 := H.2 j (ready_mono hj hji)
      obtain ⟨hjun, oj, hoj, hall⟩ := mem_ready.1 hj
      have hiun := (mem_ready.1 hr).1
      have hnot : ∀ e ∈ oj.after, Region.binds md e = true → e.on ≠ i := fun e he hb heq => by
        have h1 := hall e he hb
        have h0 := hiun
        rw [heq] at h1
        rcases Nat.lt_or_ge i listed.size with h' | h'
        · simp [h'] at h0 h1; rw [h0] at h1; cases h1
        · simp [Array.getElem?_eq_none h'] at h1
      have hTj : (∀ a b, U a b) ∨ T j = true := by
        rcases hT with hT | hT
        · exact .inl hT
        refine .inr ?_
        cases hTj : T j with
        | true => rfl
        | false =>
          obtain ⟨f, hf⟩ := hT j hTj
          have := anc_spec inv f j hf ⟨oj, hoj, hall⟩
          rcases Nat.lt_or_ge i listed.size with h' | h'
          · simp [h'] at hiun this; rw [hiun] at this; cases this
          · simp [Array.getElem?_eq_none h'] at this
      have h2 := wpOp_putIf (S := U w) hoj (hfree j oj hoj hji hjun hnot) (fun cs b => hsel i oi cs b hi) (fun cs b => hsel j oj cs b hoj) hQ hy h1
      have hfree' : ∀ k ok, ops[k]? = some ok → k ≠ i → (listed.setIfInBounds j true).getD k true = false →
          (∀ e ∈ ok.after, Region.binds md e = true → e.on ≠ i) → oi.apart ops ok = true := fun k ok hk hki hun hno => by
        refine hfree k ok hk hki ?_ hno
        by_cases hjk : j = k
        · subst hjk; exact hjun
        · rw [getD_set_ne true hjk] at hun; exact hun
      refine wpOp_mono (fun a' w' h3 => ?_) h2
      have hy' : YieldsIf P ops (U w') oi v a' := h3.1.imp (fun ⟨hw, hv⟩ => ⟨hw, fun V hV => hv V (hTj.elim (fun h => h _ _) fun h => htr _ _ _ (h3.2.1 h) hV)⟩) id
      refine ⟨h3.2.1, ih (listed.setIfInBounds j true) a' w' (inv.set hj) hfree' (ready_mono hr (Ne.symm hji)) hy' ?_⟩
      rw [Array.setIfInBounds_comm _ _ hji]
      exact h3.2.2

/-- The walk along a plan: kind 0 is taken first (it yields its value in every world that R leads to), kind 3 too (it yields its value in whatever world), kind 1 keeps R, kind 2 comes behind all of kind 0. -/
def wpPlan (P : Program) (ops : Array Oper) (Q : Exit → Act → World → Prop) (R : World → World → Prop) : List (Nat × Nat) → Act → World → Prop
  | [], a, w => Q .normal a w
  | (i, 0) :: rest, a, w => ∃ o v, ops[i]? = some o ∧ YieldsIf P ops (R w) o v a ∧ wpPlan P ops Q R rest (a.put o.dst v) w
  | (i, 3) :: rest, a, w => ∃ o v, ops[i]? = some o ∧ YieldsIf P ops (fun _ => True) o v a ∧ wpPlan P ops Q R rest (a.put o.dst v) w
  | (i, k + 1) :: rest, a, w => ∃ o, ops[i]? = some o ∧ ∀ K : Act → World → Prop, (∀ a' w', (k = 0 → R w w') → wpPlan P ops Q R rest a' w' → K a' w') →
      (if Region.wanted o (yielded ops a.tmps) = true then o.wp P a w K Q else K (a.put o.dst undef) w)

def planB (md : Region.Mode) (ops : Array Oper) : List (Nat × Nat) → Array Bool → Bool
  | [], listed => (Region.ready md ops listed).isEmpty
  | (i, 0) :: rest, listed => Region.free md ops listed i && (Region.ready md ops listed).contains i && planB md ops rest (listed.setIfInBounds i true)
  | (i, 3) :: rest, listed => Region.free md ops listed i && (Region.ready md ops listed).contains i && planB md ops rest (listed.setIfInBounds i true)
  | (i, _ + 1) :: rest, listed => (Region.ready md ops listed == [i]) && planB md ops rest (listed.setIfInBounds i true)

def tailsOf (plan : List (Nat × Nat)) : List Nat := (plan.filter fun p => decide (2 = p.2)).map (·.1)
def planOk (md : Region.Mode) (ops : Array Oper) (plan : List (Nat × Nat)) : Bool :=
  Region.noSelect ops && (plan.length == ops.size) && (plan.all fun p => decide (p.2 ≤ 3)) && (plan.all fun p => decide (p.2 = 1 ∨ p.2 = 2 ∨ p.2 = 3) || (tailsOf plan).all fun j => anc md ops ops.size j p.1) && planB md ops plan (Array.replicate ops.size false)

theorem plan_sound (htr : ∀ a b c, R a b → R b c → R a c) (hrf : ∀ a, R a a) (hsel : ∀ (j : Nat) (o : Oper) cs b, ops[j]? = some o → o.op ≠ .select cs b)
    (hQ : ∀ c a d v w, Q (.panic c) (a.put d v) w → Q (.panic c) a w) :
    ∀ (plan : List (Nat × Nat)) (listed : Array Bool) (a : Act) (w : World), ClosedL md ops listed → planB md ops plan listed = true →
      (∀ p ∈ plan, p.2 = 0 → ∀ j, T j = false → ∃ f, anc md ops f j p.1 = true) → (∀ p ∈ plan, 2 = p.2 → T p.1 = false) → (∀ p ∈ plan, p.2 ≤ 3) →
      wpPlan P ops Q R plan a w → wpAnyT P md ops Q R T plan.length listed a w
  | [], listed, a, w, _, hB, _, _, _, h => ⟨by simpa [planB] using hB, h⟩
  | (i, 0) :: rest, listed, a, w, inv, hB, h0, h2, h3, h => by
    obtain ⟨o, v, hi, hy, h⟩ := h
    simp only [planB, Bool.and_eq_true] at hB
    have hr : i ∈ Region.ready md ops listed := by simpa using hB.1.2
    exact wpAnyT_first (U := R) htr hrf hrf hi hsel (fun c a w => hQ c a _ _ w) (.inr (h0 (i, 0) (by simp) rfl)) rest.length listed a w inv (Region.free_spec hi hB.1.1) hr hy
      (plan_sound htr hrf hsel hQ rest _ _ _ (inv.set hr) hB.2 (fun p hp => h0 p (by simp [hp])) (fun p hp => h2 p (by simp [hp])) (fun p hp => h3 p (by simp [hp])) h)
  | (i, 3) :: rest, listed, a, w, inv, hB, h0, h2, h3, h => by
    obtain ⟨o, v, hi, hy, h⟩ := h
    simp only [planB, Bool.and_eq_true] at hB
    have hr : i ∈ Region.ready md ops listed := by simpa using hB.1.2
    exact wpAnyT_first (U := fun _ _ => True) (fun _ _ _ _ _ => trivial) hrf (fun _ => trivial) hi hsel (fun c a w => hQ c a _ _ w) (.inl fun _ _ => trivial) rest.length listed a w inv (Region.free_spec hi hB.1.1) hr hy
      (plan_sound htr hrf hsel hQ rest _ _ _ (inv.set hr) hB.2 (fun p hp => h0 p (by simp [hp])) (fun p hp => h2 p (by simp [hp])) (fun p hp => h3 p (by simp [hp])) h)
  | (i, 1) :: rest, listed, a, w, inv, hB, h0, h2, h3, h => by
    obtain ⟨o, hi, h⟩ := h
    simp only [planB, Bool.and_eq_true, beq_iff_eq] at hB
    have hr : i ∈ Region.ready md ops listed := by rw [hB.1]; simp
    refine ⟨fun h0 => (by rw [h0] at hr; cases hr), fun j hj => ?_⟩
    rw [hB.1] at hj
    have hji : j = i := by simpa using hj
    subst hji
    have hstep := h (fun a' w' => (T j = true → R w w') ∧ wpAnyT P md ops Q R T rest.length (listed.setIfInBounds j true) a' w') fun a' w' hR hp =>
      ⟨fun hT => hR rfl, plan_sound htr hrf hsel hQ rest _ _ _ (inv.set hr) hB.2 (fun p hp => h0 p (by simp [hp])) (fun p hp => h2 p (by simp [hp])) (fun p hp => h3 p (by simp [hp])) hp⟩
    unfold Go.wpOp
    simp only [hi]
    split
    · rename_i hw
      rw [if_pos hw] at hstep
      exact .inl hstep
    · rename_i hw
      rw [if_neg hw] at hstep
      exact hstep
  | (i, 2) :: rest, listed, a, w, inv, hB, h0, h2, h3, h => by
    obtain ⟨o, hi, h⟩ := h
    simp only [planB, Bool.and_eq_true, beq_iff_eq] at hB
    have hr : i ∈ Region.ready md ops listed := by rw [hB.1]; simp
    refine ⟨fun h0 => (by rw [h0] at hr; cases hr), fun j hj => ?_⟩
    rw [hB.1] at hj
    have hji : j = i := by simpa using hj
    subst hji
    have hTj : T j = false := h2 (j, 2) (by simp) rfl
    have hstep := h (fun a' w' => (T j = true → R w w') ∧ wpAnyT P md ops Q R T rest.length (listed.setIfInBounds j true) a' w') fun a' w' _ hp =>
      ⟨fun hT => (by rw [hTj] at hT; cases hT), plan_sound htr hrf hsel hQ rest _ _ _ (inv.set hr) hB.2 (fun p hp => h0 p (by simp [hp])) (fun p hp => h2 p (by simp [hp])) (fun p hp => h3 p (by simp [hp])) hp⟩
    unfold Go.wpOp
    simp only [hi]
    split
    · rename_i hw
      rw [if_pos hw] at hstep
      exact .inl hstep
    · rename_i hw
      rw [if_neg hw] at hstep
      exact hstep
  | (i, k + 4) :: rest, listed, a, w, inv, hB, h0, h2, h3, h => absurd (h3 (i, k + 4) (by simp)) (by simp)

/-- THE BEGINNING -/
theorem wp_region_plan (R : World → World → Prop) (plan : List (Nat × Nat)) {id : Nat} {a : Act} {w : World} (hm : P.follows .mixedOrders = true) (hB : planOk .any ops plan = true)
    (hrf : ∀ a, R a a) (htr : ∀ a b c, R a b → R b c → R a c) (hQ : ∀ c a d v w, Q (.panic c) (a.put d v) w → Q (.panic c) a w)
    (h : wpPlan P ops Q R plan a w.drew) : (Code.region id ops true).wp P Q a w := by
  simp only [planOk, Bool.and_eq_true, beq_iff_eq] at hB
  obtain ⟨⟨⟨⟨hs, hl⟩, h3⟩, ht⟩, hp⟩ := hB
  refine wp_region_any hm (wpAny_of_T (R := R) (T := fun j => !(tailsOf plan).contains j) _ _ _ _ ?_)
  rw [← hl]
  refine plan_sound htr hrf (Region.noSelect_spec hs) hQ plan _ a _ (fun j oj _ hj => ?_) (by rw [hl]; exact hp) (fun p hpm hp0 j hj => ?_) (fun p hpm hp2 => ?_) (fun p hpm => ?_) h
  · rw [getD_replicate_false] at hj
    cases hj
  · have h1 := List.all_eq_true.1 ht p hpm
    rw [hp0] at h1
    have hj' : j ∈ tailsOf plan := by simpa using hj
    have h2 : ((tailsOf plan).all fun j => anc .any ops ops.size j p.1) = true := by simpa using h1
    exact ⟨_, List.all_eq_true.1 h2 j hj'⟩
  · have : p.1 ∈ tailsOf plan := List.mem_map.2 ⟨p, List.mem_filter.2 ⟨hpm, by simpa using hp2⟩, rfl⟩
    simpa using this
  · exact List.all_eq_true.1 h3 p hpm |> of_decide_eq_true

/-- An operation that is taken first. -/
theorem plan_held {i : Nat} {o : Oper} {v : Value} {rest : List (Nat × Nat)} {a : Act} {w : World} (hi : ops[i]? = some o) (hw : Region.wanted o (yielded ops a.tmps) = true)
    (hv : ∀ V, R w V → (execOp a.eval o).run P V = .ok (.value v) V) (h : wpPlan P ops Q R rest (a.put o.dst v) w) : wpPlan P ops Q R ((i, 0) :: rest) a w :=
  ⟨o, v, hi, .inl ⟨hw, hv⟩, h⟩
/-- An operation whose guard is false. -/
theorem plan_skip {i : Nat} {o : Oper} {rest : List (Nat × Nat)} {a : Act} {w : World} (hi : ops[i]? = some o) (hw : Region.wanted o (yielded ops a.tmps) = false)
    (h : wpPlan P ops Q R rest (a.put o.dst undef) w) : wpPlan P ops Q R ((i, 0) :: rest) a w :=
  ⟨o, undef, hi, .inr ⟨hw, rfl⟩, h⟩
/-- An operation that looks at no memory. -/
theorem plan_free {i : Nat} {o : Oper} {v : Value} {rest : List (Nat × Nat)} {a : Act} {w : World} (hi : ops[i]? = some o) (hw : Region.wanted o (yielded ops a.tmps) = true)
    (hv : ∀ V, (execOp a.eval o).run P V = .ok (.value v) V) (h : wpPlan P ops Q R rest (a.put o.dst v) w) : wpPlan P ops Q R ((i, 3) :: rest) a w :=
  ⟨o, v, hi, .inl ⟨hw, fun V _ => hv V⟩, h⟩
theorem plan_none {i : Nat} {o : Oper} {rest : List (Nat × Nat)} {a : Act} {w : World} (hi : ops[i]? = some o) (hw : Region.wanted o (yielded ops a.tmps) = false)
    (h : wpPlan P ops Q R rest (a.put o.dst undef) w) : wpPlan P ops Q R ((i, 3) :: rest) a w :=
  ⟨o, undef, hi, .inr ⟨hw, rfl⟩, h⟩
/-- An operation that is carried out when it alone may come up. -/
theorem plan_main {i : Nat} {o : Oper} {rest : List (Nat × Nat)} {a : Act} {w : World} (hi : ops[i]? = some o)
    (h : ∀ K : Act → World → Prop, (∀ a' w', R w w' → wpPlan P ops Q R rest a' w' → K a' w') → if Region.wanted o (yielded ops a.tmps) = true then o.wp P a w K Q else K (a.put o.dst undef) w) :
    wpPlan P ops Q R ((i, 1) :: rest) a w :=
  ⟨o, hi, fun K hK => h K fun a' w' hR hp => hK a' w' (fun _ => hR) hp⟩
/-- One that comes behind all that look at memory. -/
theorem plan_last {i : Nat} {o : Oper} {rest : List (Nat × Nat)} {a : Act} {w : World} (hi : ops[i]? = some o)
    (h : ∀ K : Act → World → Prop, (∀ a' w', wpPlan P ops Q R rest a' w' → K a' w') → if Region.wanted o (yielded ops a.tmps) = true then o.wp P a w K Q else K (a.put o.dst undef) w) :
    wpPlan P ops Q R ((i, 2) :: rest) a w :=
  ⟨o, hi, fun K hK => h K fun a' w' hp => hK a' w' (fun h => absurd h (by decide)) hp⟩
theorem plan_end {a : Act} {w : World} (h : Q .normal a w) : wpPlan P ops Q R [] a w := h
end
end Go.Proofs.Ytbbjncjkddekfaa

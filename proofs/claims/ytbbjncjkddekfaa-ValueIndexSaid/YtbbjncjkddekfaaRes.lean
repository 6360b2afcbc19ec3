/- 'resolved': names become variables. -/
import Derived.Test.YtbbjncjkddekfaaMade
import Derived.Test.YtbbjncjkddekfaaValR
import Derived.Deep.AppendLies
import Derived.Deep.RegionLaw
import Derived.Lib.Bytes
namespace Go.Proofs.Ytbbjncjkddekfaa
open Go.RowKit

def res : VE → VE
  | .num n => .num n
  | .nam s => if s = ⟨#[97]⟩ then .loc 0 else if s = ⟨#[98]⟩ then .glo 1 else .glo 0
  | .loc k => .loc k
  | .glo k => .glo k
  | .un op x => .un op (res x)
  | .bin op x y => .bin op (res x) (res y)
theorem res_ok : ∀ (x : VE), x.made → (res x).ok 2 1
  | .num _, _ => trivial
  | .nam s, _ => by
    unfold res
    split
    · exact ⟨by decide, by decide⟩
    · split
      · exact ⟨by decide, by decide⟩
      · exact ⟨by decide, by decide⟩
  | .loc _, h => h.elim
  | .glo _, h => h.elim
  | .un _ x, h => ⟨h.1, res_ok x h.2⟩
  | .bin _ x y, h => ⟨h.1, res_ok x h.2.1, res_ok y h.2.2⟩
theorem res_fit : ∀ (x : VE), x.made → (res x).fit
  | .num n, h => by unfold VE.made at h; show Fits n; unfold Fits; omega
  | .nam s, _ => by
    unfold res
    split
    · trivial
    · split <;> trivial
  | .loc _, h => h.elim
  | .glo _, h => h.elim
  | .un _ x, h => res_fit x h.2
  | .bin _ x y, h => ⟨res_fit x h.2.1, res_fit y h.2.2⟩

theorem str_ne {s : ByteArray} {l : List UInt8} (h : ¬ s = ⟨l.toArray⟩) : (s.toList == l) = false := by
  refine beq_eq_false_iff_ne.2 fun e => h ?_
  rw [ByteArray.ext_iff, ← e, Go.Lib.toList_data]

def ResSaid (x : VE) : Prop := ∀ (w : World) (c0 c1 c2 c3 : Value), x.made → x.at_ w [c0, c1, c2, c3] → Calls Try.prog 38 #[.agg #[c0, c1, c2, c3]] w (ERes w (res x))

set_option maxHeartbeats 800000 in
theorem res_nam (s : ByteArray) : ResSaid (.nam s) := by
  intro w c0 c1 c2 c3 _ h
  obtain ⟨n, A, c, hcs⟩ := h
  injection hcs with h0 hcs
  injection hcs with h1 hcs
  injection hcs with h2 hcs
  injection hcs with h3 hcs
  subst h0 h1 h2 h3
  clear hcs
  by_cases ha : s = ⟨#[97]⟩
  · have HE := hide (show res (.nam s) = .loc 0 by simp [res, ha])
    subst ha
    go_enter Try.func38, Try.ntmps38
    go_wp2
    go_returns
    exact ERes.mk' HE.out ⟨_, _, _, rfl⟩ (by go_grown)
  by_cases hb : s = ⟨#[98]⟩
  · have HE := hide (show res (.nam s) = .glo 1 by simp [res, hb])
    subst hb
    go_enter Try.func38, Try.ntmps38
    go_wp2
    go_returns
    exact ERes.mk' HE.out ⟨_, _, _, rfl⟩ (by go_grown)
  have HE := hide (show res (.nam s) = .glo 0 by simp [res, ha, hb])
  have qa := str_ne ha
  have qb := str_ne hb
  clear ha hb
  go_enter Try.func38, Try.ntmps38
  go_wp2
  go_returns
  exact ERes.mk' HE.out ⟨_, _, _, rfl⟩ (by go_grown)

set_option maxHeartbeats 800000 in
theorem res_num (n : Int) : ResSaid (.num n) := by
  intro w c0 c1 c2 c3 _ h
  obtain ⟨nm, A, c, hcs⟩ := h
  injection hcs with h0 hcs
  injection hcs with h1 hcs
  injection hcs with h2 hcs
  injection hcs with h3 hcs
  subst h0 h1 h2 h3
  clear hcs
  go_enter Try.func38, Try.ntmps38
  go_wp2
  go_rounds 1
  go_returns
  exact ERes.mk' rfl ⟨_, _, _, rfl⟩ (by go_grown)
end Go.Proofs.Ytbbjncjkddekfaa

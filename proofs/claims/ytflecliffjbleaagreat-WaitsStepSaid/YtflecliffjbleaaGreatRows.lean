/-
  No cell of these rows narrows 'for every input' (looked for: loops, veiled, ifaces, maps, wideKeys, modest, calm, conditions, laid).
  DERIVED. THE GIVEN ROWS OF THIS SEAT. 6 by the template 'for every input the law returns true; each argument reads behind the call as it read before'; 0 by the template 'total and deterministic' (their statements: YtflecliffjbleaaGreatTotals.lean).
  GIVEN WITH THE SEED: the statements are not yours to turn. If you find one false, say at which input.
  Laid BY PROGRAM, IN A SANDBOX (cutbox-rows.mjs): the forced cells as the released guide's own fill.sh prints them over the translation b8c29e341277beec… (all of the seat's roots in one cut). By AI agents, Wed Nov 11 2026. No macro, syntax, notation, axiom, sorry.
-/
import Derived.Test.YtflecliffjbleaaGreatChecked
import GoSem.Claim
import GoSem.ClaimJoined
import GoSem.ClaimMapViews
import Derived.JoinedTies
import Derived.KernelRfl
namespace Go.Proofs.YtflecliffjbleaaGreat
/- THE CELL 'sum', in the pinned program and in every row, IS THE sha256 OF THE DUMP (.gsa) THAT YtflecliffjbleaaGreatProg.lean LOADS. Nothing in Lean hashes anything: it is a label: what it is worth is what the hold of that sum in a sandbox is worth. -/
noncomputable def Tryz.pinned : Pinned := { name := "ytflecliffjbleaagreat", sum := "b8c29e341277beec024e68a3b21df3a6c5ab350ef97f5adea2216b1f4d05b381", checked := Tryz.checked }
namespace Rows
def none {H : Type} : Left H := { results := [], args := [] }

/-- 'lockorderlaw11.WaitsDeadlocked': WHATEVER THE INPUT: true; the input reads as it did. -/
def waitsDeadlockedSpec : ChangeSpec := { name := "waitsDeadlocked", fn := fun _ => fun
  | [d1, d2, d3] => { results := [.lit (.bool true)], args := [d1, d2, d3] }
  | _ => none }
def waitsDeadlockedRow : OpenClaim := { program := "ytflecliffjbleaagreat", sum := "b8c29e341277beec024e68a3b21df3a6c5ab350ef97f5adea2216b1f4d05b381", func := "lockorder/lockorderlaw11.WaitsDeadlocked", spec := "waitsDeadlocked", unfollowed := true, recurses := true, apart := false }
def WaitsDeadlockedSaid : Prop := waitsDeadlockedRow.holds Tryz.pinned (OpenSpec.ofChange waitsDeadlockedSpec)

/-- ITS FALSE NEIGHBOUR: 'it returns false'. Refute it at one input. -/
def waitsDeadlockedWrong : ChangeSpec := { name := "waitsDeadlocked", fn := fun _ => fun
  | [d1, d2, d3] => { results := [.lit (.bool false)], args := [d1, d2, d3] }
  | _ => none }
def WaitsDeadlockedWrongFalsely : Prop := waitsDeadlockedRow.holds Tryz.pinned (OpenSpec.ofChange waitsDeadlockedWrong)

/-- 'lockorderlaw11.WaitsSet': WHATEVER THE INPUT: true; the input reads as it did. -/
def waitsSetSpec : ChangeSpec := { name := "waitsSet", fn := fun _ => fun
  | [d1, d2, d3, d4, d5] => { results := [.lit (.bool true)], args := [d1, d2, d3, d4, d5] }
  | _ => none }
def waitsSetRow : OpenClaim := { program := "ytflecliffjbleaagreat", sum := "b8c29e341277beec024e68a3b21df3a6c5ab350ef97f5adea2216b1f4d05b381", func := "lockorder/lockorderlaw11.WaitsSet", spec := "waitsSet", unfollowed := true, recurses := true, apart := false }
def WaitsSetSaid : Prop := waitsSetRow.holds Tryz.pinned (OpenSpec.ofChange waitsSetSpec)

/-- ITS FALSE NEIGHBOUR: 'it returns false'. Refute it at one input. -/
def waitsSetWrong : ChangeSpec := { name := "waitsSet", fn := fun _ => fun
  | [d1, d2, d3, d4, d5] => { results := [.lit (.bool false)], args := [d1, d2, d3, d4, d5] }
  | _ => none }
def WaitsSetWrongFalsely : Prop := waitsSetRow.holds Tryz.pinned (OpenSpec.ofChange waitsSetWrong)

/-- 'lockorderlaw11.WaitsCycle': WHATEVER THE INPUT: true; the input reads as it did. -/
def waitsCycleSpec : ChangeSpec := { name := "waitsCycle", fn := fun _ => fun
  | [d1, d2, d3, d4] => { results := [.lit (.bool true)], args := [d1, d2, d3, d4] }
  | _ => none }
def waitsCycleRow : OpenClaim := { program := "ytflecliffjbleaagreat", sum := "b8c29e341277beec024e68a3b21df3a6c5ab350ef97f5adea2216b1f4d05b381", func := "lockorder/lockorderlaw11.WaitsCycle", spec := "waitsCycle", unfollowed := true, recurses := true, apart := false }
def WaitsCycleSaid : Prop := waitsCycleRow.holds Tryz.pinned (OpenSpec.ofChange waitsCycleSpec)

/-- ITS FALSE NEIGHBOUR: 'it returns false'. Refute it at one input. -/
def waitsCycleWrong : ChangeSpec := { name := "waitsCycle", fn := fun _ => fun
  | [d1, d2, d3, d4] => { results := [.lit (.bool false)], args := [d1, d2, d3, d4] }
  | _ => none }
def WaitsCycleWrongFalsely : Prop := waitsCycleRow.holds Tryz.pinned (OpenSpec.ofChange waitsCycleWrong)

/-- 'lockorderlaw11.WaitsQuiet': WHATEVER THE INPUT: true; the input reads as it did. -/
def waitsQuietSpec : ChangeSpec := { name := "waitsQuiet", fn := fun _ => fun
  | [d1, d2, d3, d4, d5] => { results := [.lit (.bool true)], args := [d1, d2, d3, d4, d5] }
  | _ => none }
def waitsQuietRow : OpenClaim := { program := "ytflecliffjbleaagreat", sum := "b8c29e341277beec024e68a3b21df3a6c5ab350ef97f5adea2216b1f4d05b381", func := "lockorder/lockorderlaw11.WaitsQuiet", spec := "waitsQuiet", unfollowed := true, recurses := true, apart := false }
def WaitsQuietSaid : Prop := waitsQuietRow.holds Tryz.pinned (OpenSpec.ofChange waitsQuietSpec)

/-- ITS FALSE NEIGHBOUR: 'it returns false'. Refute it at one input. -/
def waitsQuietWrong : ChangeSpec := { name := "waitsQuiet", fn := fun _ => fun
  | [d1, d2, d3, d4, d5] => { results := [.lit (.bool false)], args := [d1, d2, d3, d4, d5] }
  | _ => none }
def WaitsQuietWrongFalsely : Prop := waitsQuietRow.holds Tryz.pinned (OpenSpec.ofChange waitsQuietWrong)

/-- 'lockorderlaw11.WaitsStep': WHATEVER THE INPUT: true; the input reads as it did. -/
def waitsStepSpec : ChangeSpec := { name := "waitsStep", fn := fun _ => fun
  | [d1, d2, d3] => { results := [.lit (.bool true)], args := [d1, d2, d3] }
  | _ => none }
def waitsStepRow : OpenClaim := { program := "ytflecliffjbleaagreat", sum := "b8c29e341277beec024e68a3b21df3a6c5ab350ef97f5adea2216b1f4d05b381", func := "lockorder/lockorderlaw11.WaitsStep", spec := "waitsStep", unfollowed := true, recurses := true, apart := false }
def WaitsStepSaid : Prop := waitsStepRow.holds Tryz.pinned (OpenSpec.ofChange waitsStepSpec)

/-- ITS FALSE NEIGHBOUR: 'it returns false'. Refute it at one input. -/
def waitsStepWrong : ChangeSpec := { name := "waitsStep", fn := fun _ => fun
  | [d1, d2, d3] => { results := [.lit (.bool false)], args := [d1, d2, d3] }
  | _ => none }
def WaitsStepWrongFalsely : Prop := waitsStepRow.holds Tryz.pinned (OpenSpec.ofChange waitsStepWrong)

/-- 'lockorderlaw11.WaitsForEver': WHATEVER THE INPUT: true; the input reads as it did. -/
def waitsForEverSpec : ChangeSpec := { name := "waitsForEver", fn := fun _ => fun
  | [d1, d2, d3, d4, d5] => { results := [.lit (.bool true)], args := [d1, d2, d3, d4, d5] }
  | _ => none }
def waitsForEverRow : OpenClaim := { program := "ytflecliffjbleaagreat", sum := "b8c29e341277beec024e68a3b21df3a6c5ab350ef97f5adea2216b1f4d05b381", func := "lockorder/lockorderlaw11.WaitsForEver", spec := "waitsForEver", unfollowed := true, recurses := true, apart := false }
def WaitsForEverSaid : Prop := waitsForEverRow.holds Tryz.pinned (OpenSpec.ofChange waitsForEverSpec)

/-- ITS FALSE NEIGHBOUR: 'it returns false'. Refute it at one input. -/
def waitsForEverWrong : ChangeSpec := { name := "waitsForEver", fn := fun _ => fun
  | [d1, d2, d3, d4, d5] => { results := [.lit (.bool false)], args := [d1, d2, d3, d4, d5] }
  | _ => none }
def WaitsForEverWrongFalsely : Prop := waitsForEverRow.holds Tryz.pinned (OpenSpec.ofChange waitsForEverWrong)

/- THE SECOND FORM. 'bulk': how many values and letters a reading holds, each counted each time it is reached (what is shared counts as often as it is met; a slice's spare places count too). A statement '..UptoSaid' is the law's where the arguments, and the package variables that the reading takes, are together of bulk at most 1048576: NARROWER than '..Said'. Prove '..Said' where nothing that the law and all that it calls make is longer than what came in: it says more and counts as full. Else prove '..UptoSaid'. A law counts once. -/
mutual
def uptoBulk {H : Type} : DataW H → Nat
  | .lit (.string bytes) => bytes.length + 1
  | .lit _ => 1
  | .nil => 1
  | .ptr d => uptoBulk d + 1
  | .slice elems spare => uptoBulkAll elems + uptoBulkAll spare + 1
  | .agg parts => uptoBulkAll parts + 1
  | .iface _ d => uptoBulk d + 1
  | .map entries => uptoBulkEntries entries + 1
  | .held _ => 1
def uptoBulkAll {H : Type} : List (DataW H) → Nat
  | [] => 0
  | d :: r => uptoBulk d + uptoBulkAll r
def uptoBulkEntries {H : Type} : List (Lit × DataW H) → Nat
  | [] => 0
  | x :: r => uptoBulkEntry x + uptoBulkEntries r
def uptoBulkEntry {H : Type} : Lit × DataW H → Nat
  | (.string bytes, d) => bytes.length + uptoBulk d + 1
  | (_, d) => uptoBulk d + 1
 end
def uptoSmall : (H : Type) → List (DataW H) → Bool := fun _ ds => decide (uptoBulkAll ds ≤ 1048576)
def OpenSpec.upto (s : _root_.Go.ChangeSpec) : _root_.Go.OpenSpec := { _root_.Go.OpenSpec.ofChange s with cond := some uptoSmall }

/-- 'lockorderlaw11.WaitsDeadlocked', WHERE WHAT IT READS IS OF BULK AT MOST 1048576: true; the input reads as it did. -/
def waitsDeadlockedUptoRow : OpenClaim := { program := "ytflecliffjbleaagreat", sum := "b8c29e341277beec024e68a3b21df3a6c5ab350ef97f5adea2216b1f4d05b381", func := "lockorder/lockorderlaw11.WaitsDeadlocked", spec := "waitsDeadlocked", unfollowed := true, recurses := true, apart := false, narrowed := true }
def WaitsDeadlockedUptoSaid : Prop := waitsDeadlockedUptoRow.holds Tryz.pinned (OpenSpec.upto waitsDeadlockedSpec)

/-- 'lockorderlaw11.WaitsSet', WHERE WHAT IT READS IS OF BULK AT MOST 1048576: true; the input reads as it did. -/
def waitsSetUptoRow : OpenClaim := { program := "ytflecliffjbleaagreat", sum := "b8c29e341277beec024e68a3b21df3a6c5ab350ef97f5adea2216b1f4d05b381", func := "lockorder/lockorderlaw11.WaitsSet", spec := "waitsSet", unfollowed := true, recurses := true, apart := false, narrowed := true }
def WaitsSetUptoSaid : Prop := waitsSetUptoRow.holds Tryz.pinned (OpenSpec.upto waitsSetSpec)

/-- 'lockorderlaw11.WaitsCycle', WHERE WHAT IT READS IS OF BULK AT MOST 1048576: true; the input reads as it did. -/
def waitsCycleUptoRow : OpenClaim := { program := "ytflecliffjbleaagreat", sum := "b8c29e341277beec024e68a3b21df3a6c5ab350ef97f5adea2216b1f4d05b381", func := "lockorder/lockorderlaw11.WaitsCycle", spec := "waitsCycle", unfollowed := true, recurses := true, apart := false, narrowed := true }
def WaitsCycleUptoSaid : Prop := waitsCycleUptoRow.holds Tryz.pinned (OpenSpec.upto waitsCycleSpec)

/-- 'lockorderlaw11.WaitsQuiet', WHERE WHAT IT READS IS OF BULK AT MOST 1048576: true; the input reads as it did. -/
def waitsQuietUptoRow : OpenClaim := { program := "ytflecliffjbleaagreat", sum := "b8c29e341277beec024e68a3b21df3a6c5ab350ef97f5adea2216b1f4d05b381", func := "lockorder/lockorderlaw11.WaitsQuiet", spec := "waitsQuiet", unfollowed := true, recurses := true, apart := false, narrowed := true }
def WaitsQuietUptoSaid : Prop := waitsQuietUptoRow.holds Tryz.pinned (OpenSpec.upto waitsQuietSpec)

/-- 'lockorderlaw11.WaitsStep', WHERE WHAT IT READS IS OF BULK AT MOST 1048576: true; the input reads as it did. -/
def waitsStepUptoRow : OpenClaim := { program := "ytflecliffjbleaagreat", sum := "b8c29e341277beec024e68a3b21df3a6c5ab350ef97f5adea2216b1f4d05b381", func := "lockorder/lockorderlaw11.WaitsStep", spec := "waitsStep", unfollowed := true, recurses := true, apart := false, narrowed := true }
def WaitsStepUptoSaid : Prop := waitsStepUptoRow.holds Tryz.pinned (OpenSpec.upto waitsStepSpec)

/-- 'lockorderlaw11.WaitsForEver', WHERE WHAT IT READS IS OF BULK AT MOST 1048576: true; the input reads as it did. -/
def waitsForEverUptoRow : OpenClaim := { program := "ytflecliffjbleaagreat", sum := "b8c29e341277beec024e68a3b21df3a6c5ab350ef97f5adea2216b1f4d05b381", func := "lockorder/lockorderlaw11.WaitsForEver", spec := "waitsForEver", unfollowed := true, recurses := true, apart := false, narrowed := true }
def WaitsForEverUptoSaid : Prop := waitsForEverUptoRow.holds Tryz.pinned (OpenSpec.upto waitsForEverSpec)

end Rows
end Go.Proofs.YtflecliffjbleaaGreat

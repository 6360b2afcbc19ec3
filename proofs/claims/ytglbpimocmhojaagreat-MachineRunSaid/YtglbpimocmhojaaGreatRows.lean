/-
  No cell of these rows narrows 'for every input' (looked for: loops, veiled, ifaces, maps, wideKeys, modest, calm, conditions, laid).
  DERIVED. THE GIVEN ROWS OF THIS SEAT. 2 by the template 'for every input the law returns true; each argument reads behind the call as it read before'; 0 by the template 'total and deterministic' (their statements: YtglbpimocmhojaaGreatTotals.lean).
  GIVEN WITH THE SEED: the statements are not yours to turn. If you find one false, say at which input.
  Laid BY PROGRAM, IN A SANDBOX (cutbox-rows.mjs): the forced cells as the released guide's own fill.sh prints them over the translation e331724618f273ea… (all of the seat's roots in one cut). By AI agents, Wed Nov 11 2026. No macro, syntax, notation, axiom, sorry.
-/
import Derived.Test.YtglbpimocmhojaaGreatChecked
import GoSem.Claim
import GoSem.ClaimJoined
import GoSem.ClaimMapViews
import Derived.JoinedTies
import Derived.KernelRfl
namespace Go.Proofs.YtglbpimocmhojaaGreat
/- THE CELL 'sum', in the pinned program and in every row, IS THE sha256 OF THE DUMP (.gsa) THAT YtglbpimocmhojaaGreatProg.lean LOADS. Nothing in Lean hashes anything: it is a label: what it is worth is what the hold of that sum in a sandbox is worth. -/
noncomputable def Tryz.pinned : Pinned := { name := "ytglbpimocmhojaagreat", sum := "e331724618f273eacfda87334629c535b9298bae3cbfa8f68773dbe0fa04a0cb", checked := Tryz.checked }
namespace Rows
def none {H : Type} : Left H := { results := [], args := [] }

/-- 'lockorderlaw09.MachineRun': WHATEVER THE INPUT: true; the input reads as it did. -/
def machineRunSpec : ChangeSpec := { name := "machineRun", fn := fun _ => fun
  | [d1, d2] => { results := [.lit (.bool true)], args := [d1, d2] }
  | _ => none }
def machineRunRow : OpenClaim := { program := "ytglbpimocmhojaagreat", sum := "e331724618f273eacfda87334629c535b9298bae3cbfa8f68773dbe0fa04a0cb", func := "lockorder/lockorderlaw09.MachineRun", spec := "machineRun", unfollowed := true, recurses := true, apart := false }
def MachineRunSaid : Prop := machineRunRow.holds Tryz.pinned (OpenSpec.ofChange machineRunSpec)

/-- ITS FALSE NEIGHBOUR: 'it returns false'. Refute it at one input. -/
def machineRunWrong : ChangeSpec := { name := "machineRun", fn := fun _ => fun
  | [d1, d2] => { results := [.lit (.bool false)], args := [d1, d2] }
  | _ => none }
def MachineRunWrongFalsely : Prop := machineRunRow.holds Tryz.pinned (OpenSpec.ofChange machineRunWrong)

/-- 'lockorderlaw09.MachineInstruction': WHATEVER THE INPUT: true; the input reads as it did. -/
def machineInstructionSpec : ChangeSpec := { name := "machineInstruction", fn := fun _ => fun
  | [d1, d2, d3, d4] => { results := [.lit (.bool true)], args := [d1, d2, d3, d4] }
  | _ => none }
def machineInstructionRow : OpenClaim := { program := "ytglbpimocmhojaagreat", sum := "e331724618f273eacfda87334629c535b9298bae3cbfa8f68773dbe0fa04a0cb", func := "lockorder/lockorderlaw09.MachineInstruction", spec := "machineInstruction", unfollowed := true, recurses := true, apart := false }
def MachineInstructionSaid : Prop := machineInstructionRow.holds Tryz.pinned (OpenSpec.ofChange machineInstructionSpec)

/-- ITS FALSE NEIGHBOUR: 'it returns false'. Refute it at one input. -/
def machineInstructionWrong : ChangeSpec := { name := "machineInstruction", fn := fun _ => fun
  | [d1, d2, d3, d4] => { results := [.lit (.bool false)], args := [d1, d2, d3, d4] }
  | _ => none }
def MachineInstructionWrongFalsely : Prop := machineInstructionRow.holds Tryz.pinned (OpenSpec.ofChange machineInstructionWrong)

/- THE SECOND FORM. 'bulk': how many values and letters a reading holds, each counted each time it is reached (what is shared counts as often as it is met; a slice's spare places count too). A statement '..UptoSaid' is the law's where the arguments, and the package variables that the reading takes, are together of bulk at most 1048576: NARROWER than '..Said'. Prove '..Said' where nothing that the law and all that it calls make is longer than what came in: it says more and counts as full. Else prove '..UptoSaid'. A law counts once. -/
mutual
def uptoBulk {H : Type} : DataW H → Nat
  | .lit (.string bytes) => bytes.length + 1
  | .lit _ => 1
  | .nil => 1
  | .ptr d => uptoBulk d + 1
  | .slice elems spare => uptoBulkAll elems + uptoBulkAll spare + 1
  | .agg parts => uptoBulkAll parts + 1
  | .iface _ d => uptoBulk d + 1
  | .map entries => uptoBulkEntries entries + 1
  | .held _ => 1
def uptoBulkAll {H : Type} : List (DataW H) → Nat
  | [] => 0
  | d :: r => uptoBulk d + uptoBulkAll r
def uptoBulkEntries {H : Type} : List (Lit × DataW H) → Nat
  | [] => 0
  | x :: r => uptoBulkEntry x + uptoBulkEntries r
def uptoBulkEntry {H : Type} : Lit × DataW H → Nat
  | (.string bytes, d) => bytes.length + uptoBulk d + 1
  | (_, d) => uptoBulk d + 1
 end
def uptoSmall : (H : Type) → List (DataW H) → Bool := fun _ ds => decide (uptoBulkAll ds ≤ 1048576)
def OpenSpec.upto (s : _root_.Go.ChangeSpec) : _root_.Go.OpenSpec := { _root_.Go.OpenSpec.ofChange s with cond := some uptoSmall }

/-- 'lockorderlaw09.MachineRun', WHERE WHAT IT READS IS OF BULK AT MOST 1048576: true; the input reads as it did. -/
def machineRunUptoRow : OpenClaim := { program := "ytglbpimocmhojaagreat", sum := "e331724618f273eacfda87334629c535b9298bae3cbfa8f68773dbe0fa04a0cb", func := "lockorder/lockorderlaw09.MachineRun", spec := "machineRun", unfollowed := true, recurses := true, apart := false, narrowed := true }
def MachineRunUptoSaid : Prop := machineRunUptoRow.holds Tryz.pinned (OpenSpec.upto machineRunSpec)

/-- 'lockorderlaw09.MachineInstruction', WHERE WHAT IT READS IS OF BULK AT MOST 1048576: true; the input reads as it did. -/
def machineInstructionUptoRow : OpenClaim := { program := "ytglbpimocmhojaagreat", sum := "e331724618f273eacfda87334629c535b9298bae3cbfa8f68773dbe0fa04a0cb", func := "lockorder/lockorderlaw09.MachineInstruction", spec := "machineInstruction", unfollowed := true, recurses := true, apart := false, narrowed := true }
def MachineInstructionUptoSaid : Prop := machineInstructionUptoRow.holds Tryz.pinned (OpenSpec.upto machineInstructionSpec)

end Rows
end Go.Proofs.YtglbpimocmhojaaGreat

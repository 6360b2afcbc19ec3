/-
  No cell of these rows narrows 'for every input' (looked for: loops, veiled, ifaces, maps, wideKeys, modest, calm, conditions, laid).
  DERIVED. THE GIVEN ROWS OF THIS SEAT. 11 by the template 'for every input the law returns true; each argument reads behind the call as it read before'; 0 by the template 'total and deterministic' (their statements: YtkhnkojkplbioaaGreatTotals.lean).
  GIVEN WITH THE SEED: the statements are not yours to turn. If you find one false, say at which input.
  Laid BY PROGRAM, IN A SANDBOX (cutbox-rows.mjs): the forced cells as the released guide's own fill.sh prints them over the translation 4401f5d8cd5f33ad… (all of the seat's roots in one cut). By AI agents, Wed Nov 11 2026. No macro, syntax, notation, axiom, sorry.
-/
import Derived.Test.YtkhnkojkplbioaaGreatChecked
import GoSem.Claim
import GoSem.ClaimJoined
import GoSem.ClaimMapViews
import Derived.JoinedTies
import Derived.KernelRfl
namespace Go.Proofs.YtkhnkojkplbioaaGreat
/- THE CELL 'sum', in the pinned program and in every row, IS THE sha256 OF THE DUMP (.gsa) THAT YtkhnkojkplbioaaGreatProg.lean LOADS. Nothing in Lean hashes anything: it is a label: what it is worth is what the hold of that sum in a sandbox is worth. -/
noncomputable def Tryz.pinned : Pinned := { name := "ytkhnkojkplbioaagreat", sum := "4401f5d8cd5f33ad8366e106a0ab2b80a4df252171ba0cfdaefc0567ae58e33d", checked := Tryz.checked }
namespace Rows
def none {H : Type} : Left H := { results := [], args := [] }

/-- 'lockorderlaw09.MachineRun': WHATEVER THE INPUT: true; the input reads as it did. -/
def machineRunSpec : ChangeSpec := { name := "machineRun", fn := fun _ => fun
  | [d1, d2] => { results := [.lit (.bool true)], args := [d1, d2] }
  | _ => none }
def machineRunRow : OpenClaim := { program := "ytkhnkojkplbioaagreat", sum := "4401f5d8cd5f33ad8366e106a0ab2b80a4df252171ba0cfdaefc0567ae58e33d", func := "lockorder/lockorderlaw09.MachineRun", spec := "machineRun", unfollowed := true, recurses := true, apart := false }
def MachineRunSaid : Prop := machineRunRow.holds Tryz.pinned (OpenSpec.ofChange machineRunSpec)

/-- ITS FALSE NEIGHBOUR: 'it returns false'. Refute it at one input. -/
def machineRunWrong : ChangeSpec := { name := "machineRun", fn := fun _ => fun
  | [d1, d2] => { results := [.lit (.bool false)], args := [d1, d2] }
  | _ => none }
def MachineRunWrongFalsely : Prop := machineRunRow.holds Tryz.pinned (OpenSpec.ofChange machineRunWrong)

/-- 'lockorderlaw09.MachineInstruction': WHATEVER THE INPUT: true; the input reads as it did. -/
def machineInstructionSpec : ChangeSpec := { name := "machineInstruction", fn := fun _ => fun
  | [d1, d2, d3, d4] => { results := [.lit (.bool true)], args := [d1, d2, d3, d4] }
  | _ => none }
def machineInstructionRow : OpenClaim := { program := "ytkhnkojkplbioaagreat", sum := "4401f5d8cd5f33ad8366e106a0ab2b80a4df252171ba0cfdaefc0567ae58e33d", func := "lockorder/lockorderlaw09.MachineInstruction", spec := "machineInstruction", unfollowed := true, recurses := true, apart := false }
def MachineInstructionSaid : Prop := machineInstructionRow.holds Tryz.pinned (OpenSpec.ofChange machineInstructionSpec)

/-- ITS FALSE NEIGHBOUR: 'it returns false'. Refute it at one input. -/
def machineInstructionWrong : ChangeSpec := { name := "machineInstruction", fn := fun _ => fun
  | [d1, d2, d3, d4] => { results := [.lit (.bool false)], args := [d1, d2, d3, d4] }
  | _ => none }
def MachineInstructionWrongFalsely : Prop := machineInstructionRow.holds Tryz.pinned (OpenSpec.ofChange machineInstructionWrong)

/-- 'lockorderlaw09.MachineValid': WHATEVER THE INPUT: true; the input reads as it did. -/
def machineValidSpec : ChangeSpec := { name := "machineValid", fn := fun _ => fun
  | [d1, d2, d3, d4, d5, d6] => { results := [.lit (.bool true)], args := [d1, d2, d3, d4, d5, d6] }
  | _ => none }
def machineValidRow : OpenClaim := { program := "ytkhnkojkplbioaagreat", sum := "4401f5d8cd5f33ad8366e106a0ab2b80a4df252171ba0cfdaefc0567ae58e33d", func := "lockorder/lockorderlaw09.MachineValid", spec := "machineValid", unfollowed := true, recurses := true, apart := false }
def MachineValidSaid : Prop := machineValidRow.holds Tryz.pinned (OpenSpec.ofChange machineValidSpec)

/-- ITS FALSE NEIGHBOUR: 'it returns false'. Refute it at one input. -/
def machineValidWrong : ChangeSpec := { name := "machineValid", fn := fun _ => fun
  | [d1, d2, d3, d4, d5, d6] => { results := [.lit (.bool false)], args := [d1, d2, d3, d4, d5, d6] }
  | _ => none }
def MachineValidWrongFalsely : Prop := machineValidRow.holds Tryz.pinned (OpenSpec.ofChange machineValidWrong)

/-- 'lockorderlaw09.MachineCommute': WHATEVER THE INPUT: true; the input reads as it did. -/
def machineCommuteSpec : ChangeSpec := { name := "machineCommute", fn := fun _ => fun
  | [d1, d2, d3, d4] => { results := [.lit (.bool true)], args := [d1, d2, d3, d4] }
  | _ => none }
def machineCommuteRow : OpenClaim := { program := "ytkhnkojkplbioaagreat", sum := "4401f5d8cd5f33ad8366e106a0ab2b80a4df252171ba0cfdaefc0567ae58e33d", func := "lockorder/lockorderlaw09.MachineCommute", spec := "machineCommute", unfollowed := true, recurses := true, apart := false }
def MachineCommuteSaid : Prop := machineCommuteRow.holds Tryz.pinned (OpenSpec.ofChange machineCommuteSpec)

/-- ITS FALSE NEIGHBOUR: 'it returns false'. Refute it at one input. -/
def machineCommuteWrong : ChangeSpec := { name := "machineCommute", fn := fun _ => fun
  | [d1, d2, d3, d4] => { results := [.lit (.bool false)], args := [d1, d2, d3, d4] }
  | _ => none }
def MachineCommuteWrongFalsely : Prop := machineCommuteRow.holds Tryz.pinned (OpenSpec.ofChange machineCommuteWrong)

/-- 'lockorderlaw09.MachineOthers': WHATEVER THE INPUT: true; the input reads as it did. -/
def machineOthersSpec : ChangeSpec := { name := "machineOthers", fn := fun _ => fun
  | [d1, d2, d3] => { results := [.lit (.bool true)], args := [d1, d2, d3] }
  | _ => none }
def machineOthersRow : OpenClaim := { program := "ytkhnkojkplbioaagreat", sum := "4401f5d8cd5f33ad8366e106a0ab2b80a4df252171ba0cfdaefc0567ae58e33d", func := "lockorder/lockorderlaw09.MachineOthers", spec := "machineOthers", unfollowed := true, recurses := true, apart := false }
def MachineOthersSaid : Prop := machineOthersRow.holds Tryz.pinned (OpenSpec.ofChange machineOthersSpec)

/-- ITS FALSE NEIGHBOUR: 'it returns false'. Refute it at one input. -/
def machineOthersWrong : ChangeSpec := { name := "machineOthers", fn := fun _ => fun
  | [d1, d2, d3] => { results := [.lit (.bool false)], args := [d1, d2, d3] }
  | _ => none }
def MachineOthersWrongFalsely : Prop := machineOthersRow.holds Tryz.pinned (OpenSpec.ofChange machineOthersWrong)

/-- 'lockorderlaw10.ScheduleRun': WHATEVER THE INPUT: true; the input reads as it did. -/
def scheduleRunSpec : ChangeSpec := { name := "scheduleRun", fn := fun _ => fun
  | [d1, d2, d3] => { results := [.lit (.bool true)], args := [d1, d2, d3] }
  | _ => none }
def scheduleRunRow : OpenClaim := { program := "ytkhnkojkplbioaagreat", sum := "4401f5d8cd5f33ad8366e106a0ab2b80a4df252171ba0cfdaefc0567ae58e33d", func := "lockorder/lockorderlaw10.ScheduleRun", spec := "scheduleRun", unfollowed := true, recurses := true, apart := false }
def ScheduleRunSaid : Prop := scheduleRunRow.holds Tryz.pinned (OpenSpec.ofChange scheduleRunSpec)

/-- ITS FALSE NEIGHBOUR: 'it returns false'. Refute it at one input. -/
def scheduleRunWrong : ChangeSpec := { name := "scheduleRun", fn := fun _ => fun
  | [d1, d2, d3] => { results := [.lit (.bool false)], args := [d1, d2, d3] }
  | _ => none }
def ScheduleRunWrongFalsely : Prop := scheduleRunRow.holds Tryz.pinned (OpenSpec.ofChange scheduleRunWrong)

/-- 'lockorderlaw10.ScheduleUseful': WHATEVER THE INPUT: true; the input reads as it did. -/
def scheduleUsefulSpec : ChangeSpec := { name := "scheduleUseful", fn := fun _ => fun
  | [d1, d2] => { results := [.lit (.bool true)], args := [d1, d2] }
  | _ => none }
def scheduleUsefulRow : OpenClaim := { program := "ytkhnkojkplbioaagreat", sum := "4401f5d8cd5f33ad8366e106a0ab2b80a4df252171ba0cfdaefc0567ae58e33d", func := "lockorder/lockorderlaw10.ScheduleUseful", spec := "scheduleUseful", unfollowed := true, recurses := true, apart := false }
def ScheduleUsefulSaid : Prop := scheduleUsefulRow.holds Tryz.pinned (OpenSpec.ofChange scheduleUsefulSpec)

/-- ITS FALSE NEIGHBOUR: 'it returns false'. Refute it at one input. -/
def scheduleUsefulWrong : ChangeSpec := { name := "scheduleUseful", fn := fun _ => fun
  | [d1, d2] => { results := [.lit (.bool false)], args := [d1, d2] }
  | _ => none }
def ScheduleUsefulWrongFalsely : Prop := scheduleUsefulRow.holds Tryz.pinned (OpenSpec.ofChange scheduleUsefulWrong)

/-- 'lockorderlaw10.ScheduleTwo': WHATEVER THE INPUT: true; the input reads as it did. -/
def scheduleTwoSpec : ChangeSpec := { name := "scheduleTwo", fn := fun _ => fun
  | [d1, d2, d3] => { results := [.lit (.bool true)], args := [d1, d2, d3] }
  | _ => none }
def scheduleTwoRow : OpenClaim := { program := "ytkhnkojkplbioaagreat", sum := "4401f5d8cd5f33ad8366e106a0ab2b80a4df252171ba0cfdaefc0567ae58e33d", func := "lockorder/lockorderlaw10.ScheduleTwo", spec := "scheduleTwo", unfollowed := true, recurses := true, apart := false }
def ScheduleTwoSaid : Prop := scheduleTwoRow.holds Tryz.pinned (OpenSpec.ofChange scheduleTwoSpec)

/-- ITS FALSE NEIGHBOUR: 'it returns false'. Refute it at one input. -/
def scheduleTwoWrong : ChangeSpec := { name := "scheduleTwo", fn := fun _ => fun
  | [d1, d2, d3] => { results := [.lit (.bool false)], args := [d1, d2, d3] }
  | _ => none }
def ScheduleTwoWrongFalsely : Prop := scheduleTwoRow.holds Tryz.pinned (OpenSpec.ofChange scheduleTwoWrong)

/-- 'lockorderlaw10.ScheduleTrace': WHATEVER THE INPUT: true; the input reads as it did. -/
def scheduleTraceSpec : ChangeSpec := { name := "scheduleTrace", fn := fun _ => fun
  | [d1, d2] => { results := [.lit (.bool true)], args := [d1, d2] }
  | _ => none }
def scheduleTraceRow : OpenClaim := { program := "ytkhnkojkplbioaagreat", sum := "4401f5d8cd5f33ad8366e106a0ab2b80a4df252171ba0cfdaefc0567ae58e33d", func := "lockorder/lockorderlaw10.ScheduleTrace", spec := "scheduleTrace", unfollowed := true, recurses := true, apart := false }
def ScheduleTraceSaid : Prop := scheduleTraceRow.holds Tryz.pinned (OpenSpec.ofChange scheduleTraceSpec)

/-- ITS FALSE NEIGHBOUR: 'it returns false'. Refute it at one input. -/
def scheduleTraceWrong : ChangeSpec := { name := "scheduleTrace", fn := fun _ => fun
  | [d1, d2] => { results := [.lit (.bool false)], args := [d1, d2] }
  | _ => none }
def ScheduleTraceWrongFalsely : Prop := scheduleTraceRow.holds Tryz.pinned (OpenSpec.ofChange scheduleTraceWrong)

/-- 'lockorderlaw10.ScheduleFair': WHATEVER THE INPUT: true; the input reads as it did. -/
def scheduleFairSpec : ChangeSpec := { name := "scheduleFair", fn := fun _ => fun
  | [d1, d2, d3] => { results := [.lit (.bool true)], args := [d1, d2, d3] }
  | _ => none }
def scheduleFairRow : OpenClaim := { program := "ytkhnkojkplbioaagreat", sum := "4401f5d8cd5f33ad8366e106a0ab2b80a4df252171ba0cfdaefc0567ae58e33d", func := "lockorder/lockorderlaw10.ScheduleFair", spec := "scheduleFair", unfollowed := true, recurses := true, apart := false }
def ScheduleFairSaid : Prop := scheduleFairRow.holds Tryz.pinned (OpenSpec.ofChange scheduleFairSpec)

/-- ITS FALSE NEIGHBOUR: 'it returns false'. Refute it at one input. -/
def scheduleFairWrong : ChangeSpec := { name := "scheduleFair", fn := fun _ => fun
  | [d1, d2, d3] => { results := [.lit (.bool false)], args := [d1, d2, d3] }
  | _ => none }
def ScheduleFairWrongFalsely : Prop := scheduleFairRow.holds Tryz.pinned (OpenSpec.ofChange scheduleFairWrong)

/-- 'lockorderlaw10.ScheduleFinished': WHATEVER THE INPUT: true; the input reads as it did. -/
def scheduleFinishedSpec : ChangeSpec := { name := "scheduleFinished", fn := fun _ => fun
  | [d1, d2] => { results := [.lit (.bool true)], args := [d1, d2] }
  | _ => none }
def scheduleFinishedRow : OpenClaim := { program := "ytkhnkojkplbioaagreat", sum := "4401f5d8cd5f33ad8366e106a0ab2b80a4df252171ba0cfdaefc0567ae58e33d", func := "lockorder/lockorderlaw10.ScheduleFinished", spec := "scheduleFinished", unfollowed := true, recurses := true, apart := false }
def ScheduleFinishedSaid : Prop := scheduleFinishedRow.holds Tryz.pinned (OpenSpec.ofChange scheduleFinishedSpec)

/-- ITS FALSE NEIGHBOUR: 'it returns false'. Refute it at one input. -/
def scheduleFinishedWrong : ChangeSpec := { name := "scheduleFinished", fn := fun _ => fun
  | [d1, d2] => { results := [.lit (.bool false)], args := [d1, d2] }
  | _ => none }
def ScheduleFinishedWrongFalsely : Prop := scheduleFinishedRow.holds Tryz.pinned (OpenSpec.ofChange scheduleFinishedWrong)

/- THE SECOND FORM. 'bulk': how many values and letters a reading holds, each counted each time it is reached (what is shared counts as often as it is met; a slice's spare places count too). A statement '..UptoSaid' is the law's where the arguments, and the package variables that the reading takes, are together of bulk at most 1048576: NARROWER than '..Said'. Prove '..Said' where nothing that the law and all that it calls make is longer than what came in: it says more and counts as full. Else prove '..UptoSaid'. A law counts once. -/
mutual
def uptoBulk {H : Type} : DataW H → Nat
  | .lit (.string bytes) => bytes.length + 1
  | .lit _ => 1
  | .nil => 1
  | .ptr d => uptoBulk d + 1
  | .slice elems spare => uptoBulkAll elems + uptoBulkAll spare + 1
  | .agg parts => uptoBulkAll parts + 1
  | .iface _ d => uptoBulk d + 1
  | .map entries => uptoBulkEntries entries + 1
  | .held _ => 1
def uptoBulkAll {H : Type} : List (DataW H) → Nat
  | [] => 0
  | d :: r => uptoBulk d + uptoBulkAll r
def uptoBulkEntries {H : Type} : List (Lit × DataW H) → Nat
  | [] => 0
  | x :: r => uptoBulkEntry x + uptoBulkEntries r
def uptoBulkEntry {H : Type} : Lit × DataW H → Nat
  | (.string bytes, d) => bytes.length + uptoBulk d + 1
  | (_, d) => uptoBulk d + 1
 end
def uptoSmall : (H : Type) → List (DataW H) → Bool := fun _ ds => decide (uptoBulkAll ds ≤ 1048576)
def OpenSpec.upto (s : _root_.Go.ChangeSpec) : _root_.Go.OpenSpec := { _root_.Go.OpenSpec.ofChange s with cond := some uptoSmall }

/-- 'lockorderlaw09.MachineRun', WHERE WHAT IT READS IS OF BULK AT MOST 1048576: true; the input reads as it did. -/
def machineRunUptoRow : OpenClaim := { program := "ytkhnkojkplbioaagreat", sum := "4401f5d8cd5f33ad8366e106a0ab2b80a4df252171ba0cfdaefc0567ae58e33d", func := "lockorder/lockorderlaw09.MachineRun", spec := "machineRun", unfollowed := true, recurses := true, apart := false, narrowed := true }
def MachineRunUptoSaid : Prop := machineRunUptoRow.holds Tryz.pinned (OpenSpec.upto machineRunSpec)

/-- 'lockorderlaw09.MachineInstruction', WHERE WHAT IT READS IS OF BULK AT MOST 1048576: true; the input reads as it did. -/
def machineInstructionUptoRow : OpenClaim := { program := "ytkhnkojkplbioaagreat", sum := "4401f5d8cd5f33ad8366e106a0ab2b80a4df252171ba0cfdaefc0567ae58e33d", func := "lockorder/lockorderlaw09.MachineInstruction", spec := "machineInstruction", unfollowed := true, recurses := true, apart := false, narrowed := true }
def MachineInstructionUptoSaid : Prop := machineInstructionUptoRow.holds Tryz.pinned (OpenSpec.upto machineInstructionSpec)

/-- 'lockorderlaw09.MachineValid', WHERE WHAT IT READS IS OF BULK AT MOST 1048576: true; the input reads as it did. -/
def machineValidUptoRow : OpenClaim := { program := "ytkhnkojkplbioaagreat", sum := "4401f5d8cd5f33ad8366e106a0ab2b80a4df252171ba0cfdaefc0567ae58e33d", func := "lockorder/lockorderlaw09.MachineValid", spec := "machineValid", unfollowed := true, recurses := true, apart := false, narrowed := true }
def MachineValidUptoSaid : Prop := machineValidUptoRow.holds Tryz.pinned (OpenSpec.upto machineValidSpec)

/-- 'lockorderlaw09.MachineCommute', WHERE WHAT IT READS IS OF BULK AT MOST 1048576: true; the input reads as it did. -/
def machineCommuteUptoRow : OpenClaim := { program := "ytkhnkojkplbioaagreat", sum := "4401f5d8cd5f33ad8366e106a0ab2b80a4df252171ba0cfdaefc0567ae58e33d", func := "lockorder/lockorderlaw09.MachineCommute", spec := "machineCommute", unfollowed := true, recurses := true, apart := false, narrowed := true }
def MachineCommuteUptoSaid : Prop := machineCommuteUptoRow.holds Tryz.pinned (OpenSpec.upto machineCommuteSpec)

/-- 'lockorderlaw09.MachineOthers', WHERE WHAT IT READS IS OF BULK AT MOST 1048576: true; the input reads as it did. -/
def machineOthersUptoRow : OpenClaim := { program := "ytkhnkojkplbioaagreat", sum := "4401f5d8cd5f33ad8366e106a0ab2b80a4df252171ba0cfdaefc0567ae58e33d", func := "lockorder/lockorderlaw09.MachineOthers", spec := "machineOthers", unfollowed := true, recurses := true, apart := false, narrowed := true }
def MachineOthersUptoSaid : Prop := machineOthersUptoRow.holds Tryz.pinned (OpenSpec.upto machineOthersSpec)

/-- 'lockorderlaw10.ScheduleRun', WHERE WHAT IT READS IS OF BULK AT MOST 1048576: true; the input reads as it did. -/
def scheduleRunUptoRow : OpenClaim := { program := "ytkhnkojkplbioaagreat", sum := "4401f5d8cd5f33ad8366e106a0ab2b80a4df252171ba0cfdaefc0567ae58e33d", func := "lockorder/lockorderlaw10.ScheduleRun", spec := "scheduleRun", unfollowed := true, recurses := true, apart := false, narrowed := true }
def ScheduleRunUptoSaid : Prop := scheduleRunUptoRow.holds Tryz.pinned (OpenSpec.upto scheduleRunSpec)

/-- 'lockorderlaw10.ScheduleUseful', WHERE WHAT IT READS IS OF BULK AT MOST 1048576: true; the input reads as it did. -/
def scheduleUsefulUptoRow : OpenClaim := { program := "ytkhnkojkplbioaagreat", sum := "4401f5d8cd5f33ad8366e106a0ab2b80a4df252171ba0cfdaefc0567ae58e33d", func := "lockorder/lockorderlaw10.ScheduleUseful", spec := "scheduleUseful", unfollowed := true, recurses := true, apart := false, narrowed := true }
def ScheduleUsefulUptoSaid : Prop := scheduleUsefulUptoRow.holds Tryz.pinned (OpenSpec.upto scheduleUsefulSpec)

/-- 'lockorderlaw10.ScheduleTwo', WHERE WHAT IT READS IS OF BULK AT MOST 1048576: true; the input reads as it did. -/
def scheduleTwoUptoRow : OpenClaim := { program := "ytkhnkojkplbioaagreat", sum := "4401f5d8cd5f33ad8366e106a0ab2b80a4df252171ba0cfdaefc0567ae58e33d", func := "lockorder/lockorderlaw10.ScheduleTwo", spec := "scheduleTwo", unfollowed := true, recurses := true, apart := false, narrowed := true }
def ScheduleTwoUptoSaid : Prop := scheduleTwoUptoRow.holds Tryz.pinned (OpenSpec.upto scheduleTwoSpec)

/-- 'lockorderlaw10.ScheduleTrace', WHERE WHAT IT READS IS OF BULK AT MOST 1048576: true; the input reads as it did. -/
def scheduleTraceUptoRow : OpenClaim := { program := "ytkhnkojkplbioaagreat", sum := "4401f5d8cd5f33ad8366e106a0ab2b80a4df252171ba0cfdaefc0567ae58e33d", func := "lockorder/lockorderlaw10.ScheduleTrace", spec := "scheduleTrace", unfollowed := true, recurses := true, apart := false, narrowed := true }
def ScheduleTraceUptoSaid : Prop := scheduleTraceUptoRow.holds Tryz.pinned (OpenSpec.upto scheduleTraceSpec)

/-- 'lockorderlaw10.ScheduleFair', WHERE WHAT IT READS IS OF BULK AT MOST 1048576: true; the input reads as it did. -/
def scheduleFairUptoRow : OpenClaim := { program := "ytkhnkojkplbioaagreat", sum := "4401f5d8cd5f33ad8366e106a0ab2b80a4df252171ba0cfdaefc0567ae58e33d", func := "lockorder/lockorderlaw10.ScheduleFair", spec := "scheduleFair", unfollowed := true, recurses := true, apart := false, narrowed := true }
def ScheduleFairUptoSaid : Prop := scheduleFairUptoRow.holds Tryz.pinned (OpenSpec.upto scheduleFairSpec)

/-- 'lockorderlaw10.ScheduleFinished', WHERE WHAT IT READS IS OF BULK AT MOST 1048576: true; the input reads as it did. -/
def scheduleFinishedUptoRow : OpenClaim := { program := "ytkhnkojkplbioaagreat", sum := "4401f5d8cd5f33ad8366e106a0ab2b80a4df252171ba0cfdaefc0567ae58e33d", func := "lockorder/lockorderlaw10.ScheduleFinished", spec := "scheduleFinished", unfollowed := true, recurses := true, apart := false, narrowed := true }
def ScheduleFinishedUptoSaid : Prop := scheduleFinishedUptoRow.holds Tryz.pinned (OpenSpec.upto scheduleFinishedSpec)

end Rows
end Go.Proofs.YtkhnkojkplbioaaGreat

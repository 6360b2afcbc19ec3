/-
  DERIVED. GIVEN WITH THE SEED: THE CARDS: each row of YtajlmkkidmjgoaaGreatDoorRows.lean that lists a variable, with what it lists TIED to the program's text (the seventh form; the later family's looks); each row that meets fmt, with fmt's text TOLD by the authors' own Lean function (tested against real Go, not proved from fmt's source: count such statements apart). THE CARD IS WHAT COUNTS. Prove the row's statement (the work); the ties are given (YtajlmkkidmjgoaaGreatDoorTie.lean); close each card by the builder's one call (the guide's Derived/Test/ToyasCard.lean, 'card_holds'). Laid BY PROGRAM, IN A SANDBOX (cutbox-door.mjs). By AI agents, Wed Nov 11 2026. No macro, syntax, notation, axiom, sorry.
-/
import Derived.Test.YtajlmkkidmjgoaaGreatDoorRows
import GoSem.ClaimSeven
namespace Go.Proofs.YtajlmkkidmjgoaaGreatDoor
namespace Rows

/-- THE TIED CARD OF 'lockorderlaw12.ExploreDifferent'. -/
def exploreDifferentCard : Claim7 := { stood := { row := exploreDifferentRow, standIns := [], harness := (true, "eaf67c3df3d1577c90dfc8f064d5ff6afd6e54d7eedb524a4980e9c37fc2f4f1"), looks := false }, kinds := [], alts := [], laidByText := true, laidKinds := [.data, .data, .data], laidTests := true, laidLooks := .later }
def ExploreDifferentCardSaid : Prop := Claim7.holds Tryz.pinned (.plain (OpenSpec.ofChange exploreDifferentSpec)) exploreDifferentCard

/-- THE TIED CARD OF 'lockorderlaw12.ExploreComplete'. -/
def exploreCompleteCard : Claim7 := { stood := { row := exploreCompleteRow, standIns := [], harness := (true, "eaf67c3df3d1577c90dfc8f064d5ff6afd6e54d7eedb524a4980e9c37fc2f4f1"), looks := false }, kinds := [], alts := [], laidByText := true, laidKinds := [.data, .data, .data], laidTests := true, laidLooks := .later }
def ExploreCompleteCardSaid : Prop := Claim7.holds Tryz.pinned (.plain (OpenSpec.ofChange exploreCompleteSpec)) exploreCompleteCard

/-- THE TIED CARD OF 'lockorderlaw12.ExploreDeadlock'. -/
def exploreDeadlockCard : Claim7 := { stood := { row := exploreDeadlockRow, standIns := [], harness := (true, "eaf67c3df3d1577c90dfc8f064d5ff6afd6e54d7eedb524a4980e9c37fc2f4f1"), looks := false }, kinds := [], alts := [], laidByText := true, laidKinds := [.data, .data, .data], laidTests := true, laidLooks := .later }
def ExploreDeadlockCardSaid : Prop := Claim7.holds Tryz.pinned (.plain (OpenSpec.ofChange exploreDeadlockSpec)) exploreDeadlockCard

/-- THE SECOND FORM's CARD OF 'lockorderlaw12.ExploreDifferent'. -/
def exploreDifferentUptoCard : Claim7 := { stood := { row := exploreDifferentUptoRow, standIns := [], harness := (true, "eaf67c3df3d1577c90dfc8f064d5ff6afd6e54d7eedb524a4980e9c37fc2f4f1"), looks := false }, kinds := [], alts := [], laidByText := true, laidKinds := [.data, .data, .data], laidTests := true, laidLooks := .later }
def ExploreDifferentUptoCardSaid : Prop := Claim7.holds Tryz.pinned (.plain (OpenSpec.upto exploreDifferentSpec)) exploreDifferentUptoCard

/-- THE SECOND FORM's CARD OF 'lockorderlaw12.ExploreComplete'. -/
def exploreCompleteUptoCard : Claim7 := { stood := { row := exploreCompleteUptoRow, standIns := [], harness := (true, "eaf67c3df3d1577c90dfc8f064d5ff6afd6e54d7eedb524a4980e9c37fc2f4f1"), looks := false }, kinds := [], alts := [], laidByText := true, laidKinds := [.data, .data, .data], laidTests := true, laidLooks := .later }
def ExploreCompleteUptoCardSaid : Prop := Claim7.holds Tryz.pinned (.plain (OpenSpec.upto exploreCompleteSpec)) exploreCompleteUptoCard

/-- THE SECOND FORM's CARD OF 'lockorderlaw12.ExploreDeadlock'. -/
def exploreDeadlockUptoCard : Claim7 := { stood := { row := exploreDeadlockUptoRow, standIns := [], harness := (true, "eaf67c3df3d1577c90dfc8f064d5ff6afd6e54d7eedb524a4980e9c37fc2f4f1"), looks := false }, kinds := [], alts := [], laidByText := true, laidKinds := [.data, .data, .data], laidTests := true, laidLooks := .later }
def ExploreDeadlockUptoCardSaid : Prop := Claim7.holds Tryz.pinned (.plain (OpenSpec.upto exploreDeadlockSpec)) exploreDeadlockUptoCard
end Rows
end Go.Proofs.YtajlmkkidmjgoaaGreatDoor

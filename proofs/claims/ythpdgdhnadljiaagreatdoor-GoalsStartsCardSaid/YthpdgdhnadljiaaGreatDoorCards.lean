/-
  DERIVED. GIVEN WITH THE SEED: THE CARDS: each row of YthpdgdhnadljiaaGreatDoorRows.lean that lists a variable, with what it lists TIED to the program's text (the seventh form; the later family's looks); each row that meets fmt, with fmt's text TOLD by the authors' own Lean function (tested against real Go, not proved from fmt's source: count such statements apart). THE CARD IS WHAT COUNTS. Prove the row's statement (the work); the ties are given (YthpdgdhnadljiaaGreatDoorTie.lean); close each card by the builder's one call (the guide's Derived/Test/ToyasCard.lean, 'card_holds'). Laid BY PROGRAM, IN A SANDBOX (cutbox-door.mjs). By AI agents, Wed Nov 11 2026. No macro, syntax, notation, axiom, sorry.
-/
import Derived.Test.YthpdgdhnadljiaaGreatDoorRows
import GoSem.ClaimSeven
namespace Go.Proofs.YthpdgdhnadljiaaGreatDoor
namespace Rows

/-- THE TIED CARD OF 'euclidlaw35.GoalsStarts'. -/
def goalsStartsCard : Claim7 := { stood := { row := goalsStartsRow, standIns := [], harness := (true, "6b7b9d4ab7e229a5ea28b674ab57cccf1abc240f883c2cccae4ac31a6198bf14"), looks := true }, kinds := [], alts := [], laidByText := true, laidKinds := [.data, .data, .data], laidTests := true, laidLooks := .later }
def GoalsStartsCardSaid : Prop := Claim7.holds Tryz.pinned (.plain (OpenSpec.ofChange goalsStartsSpec)) goalsStartsCard

/-- THE SECOND FORM's CARD OF 'euclidlaw35.GoalsStarts'. -/
def goalsStartsUptoCard : Claim7 := { stood := { row := goalsStartsUptoRow, standIns := [], harness := (true, "6b7b9d4ab7e229a5ea28b674ab57cccf1abc240f883c2cccae4ac31a6198bf14"), looks := true }, kinds := [], alts := [], laidByText := true, laidKinds := [.data, .data, .data], laidTests := true, laidLooks := .later }
def GoalsStartsUptoCardSaid : Prop := Claim7.holds Tryz.pinned (.plain (OpenSpec.upto goalsStartsSpec)) goalsStartsUptoCard
end Rows
end Go.Proofs.YthpdgdhnadljiaaGreatDoor

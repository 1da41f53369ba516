/-
  DERIVED. GIVEN WITH THE SEED: THE CARDS: each row of YtkokikfooooiiaaGreatDoorRows.lean that lists a variable, with what it lists TIED to the program's text (the seventh form; the later family's looks); each row that meets fmt, with fmt's text TOLD by the authors' own Lean function (tested against real Go, not proved from fmt's source: count such statements apart). THE CARD IS WHAT COUNTS. Prove the row's statement (the work); the ties are given (YtkokikfooooiiaaGreatDoorTie.lean); close each card by the builder's one call (the guide's Derived/Test/ToyasCard.lean, 'card_holds'). Laid BY PROGRAM, IN A SANDBOX (cutbox-door.mjs). By AI agents, Wed Nov 11 2026. No macro, syntax, notation, axiom, sorry.
-/
import Derived.Test.YtkokikfooooiiaaGreatDoorRows
import GoSem.ClaimSeven
namespace Go.Proofs.YtkokikfooooiiaaGreatDoor
namespace Rows

/-- THE TIED CARD OF 'cubitlaw05.RootTexts'. -/
def rootTextsCard : Claim7 := { stood := { row := rootTextsRow, standIns := [], harness := (true, "688ac4441630d4449b285c093a6f5db34aa6ed0d9494f538ce5ecadb94fe94a1"), looks := true }, kinds := [], alts := [], laidByText := true, laidKinds := [.data, .data, .data, .sentinel, .sentinel, .data, .data, .data, .data, .data], laidTests := true, laidLooks := .later }
def RootTextsCardSaid : Prop := Claim7.holds Tryz.pinned (.plain (OpenSpec.ofChange rootTextsSpec)) rootTextsCard

/-- THE SECOND FORM's CARD OF 'cubitlaw05.RootTexts'. -/
def rootTextsUptoCard : Claim7 := { stood := { row := rootTextsUptoRow, standIns := [], harness := (true, "688ac4441630d4449b285c093a6f5db34aa6ed0d9494f538ce5ecadb94fe94a1"), looks := true }, kinds := [], alts := [], laidByText := true, laidKinds := [.data, .data, .data, .sentinel, .sentinel, .data, .data, .data, .data, .data], laidTests := true, laidLooks := .later }
def RootTextsUptoCardSaid : Prop := Claim7.holds Tryz.pinned (.plain (OpenSpec.upto rootTextsSpec)) rootTextsUptoCard
end Rows
end Go.Proofs.YtkokikfooooiiaaGreatDoor

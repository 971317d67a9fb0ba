/-
  DERIVED. GIVEN WITH THE SEED: THE CARDS: each row of YtkjlhdndbdenaaaGreatDoorRows.lean that lists a variable, with what it lists TIED to the program's text (the seventh form; the later family's looks); each row that meets fmt, with fmt's text TOLD by the authors' own Lean function (tested against real Go, not proved from fmt's source: count such statements apart). THE CARD IS WHAT COUNTS. Prove the row's statement (the work); the ties are given (YtkjlhdndbdenaaaGreatDoorTie.lean); close each card by the builder's one call (the guide's Derived/Test/ToyasCard.lean, 'card_holds'). Laid BY PROGRAM, IN A SANDBOX (cutbox-door.mjs). By AI agents, Wed Nov 11 2026. No macro, syntax, notation, axiom, sorry.
-/
import Derived.Test.YtkjlhdndbdenaaaGreatDoorRows
import GoSem.ClaimSeven
namespace Go.Proofs.YtkjlhdndbdenaaaGreatDoor
namespace Rows

/-- THE TIED CARD OF 'churnlaw25.CascadeMemory'. -/
def cascadeMemoryCard : Claim7 := { stood := { row := cascadeMemoryRow, standIns := [], harness := (true, "2e0556381facc7c80e3fd2065c95378c9a33c8e41ea1cbb7930a1ebdc4504555"), looks := false }, kinds := [], alts := [], goes := true, laidByText := true, laidKinds := [.data], laidTests := true, laidLooks := .later }
def CascadeMemoryCardSaid : Prop := Claim7.holds Tryz.pinned (.plain (OpenSpec.ofChange cascadeMemorySpec)) cascadeMemoryCard

/-- THE SECOND FORM's CARD OF 'churnlaw25.CascadeMemory'. -/
def cascadeMemoryUptoCard : Claim7 := { stood := { row := cascadeMemoryUptoRow, standIns := [], harness := (true, "2e0556381facc7c80e3fd2065c95378c9a33c8e41ea1cbb7930a1ebdc4504555"), looks := false }, kinds := [], alts := [], goes := true, laidByText := true, laidKinds := [.data], laidTests := true, laidLooks := .later }
def CascadeMemoryUptoCardSaid : Prop := Claim7.holds Tryz.pinned (.plain (OpenSpec.upto cascadeMemorySpec)) cascadeMemoryUptoCard
end Rows
end Go.Proofs.YtkjlhdndbdenaaaGreatDoor

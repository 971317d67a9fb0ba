/-
  DERIVED. GIVEN WITH THE SEED: THE CARDS: each row of YtlkjdchmeihhkaaGreatDoorRows.lean that lists a variable, with what it lists TIED to the program's text (the seventh form; the later family's looks); each row that meets fmt, with fmt's text TOLD by the authors' own Lean function (tested against real Go, not proved from fmt's source: count such statements apart). THE CARD IS WHAT COUNTS. Prove the row's statement (the work); the ties are given (YtlkjdchmeihhkaaGreatDoorTie.lean); close each card by the builder's one call (the guide's Derived/Test/ToyasCard.lean, 'card_holds'). Laid BY PROGRAM, IN A SANDBOX (cutbox-door.mjs). By AI agents, Wed Nov 11 2026. No macro, syntax, notation, axiom, sorry.
-/
import Derived.Test.YtlkjdchmeihhkaaGreatDoorRows
import GoSem.ClaimSeven
namespace Go.Proofs.YtlkjdchmeihhkaaGreatDoor
namespace Rows

/-- THE TIED CARD OF 'churnlaw21.RoundKeeps'. -/
def roundKeepsCard : Claim7 := { stood := { row := roundKeepsRow, standIns := [], harness := (true, "63caa58333c9e04f844af09ac684849d8498d0f8ae1a59fae11014321df902ca"), looks := false }, kinds := [], alts := [], laidByText := true, laidKinds := [.data], laidTests := true, laidLooks := .later }
def RoundKeepsCardSaid : Prop := Claim7.holds Tryz.pinned (.plain (OpenSpec.ofChange roundKeepsSpec)) roundKeepsCard

/-- THE TIED CARD OF 'churnlaw29.BackForwards'. -/
def backForwardsCard : Claim7 := { stood := { row := backForwardsRow, standIns := [], harness := (true, "63caa58333c9e04f844af09ac684849d8498d0f8ae1a59fae11014321df902ca"), looks := false }, kinds := [], alts := [], laidByText := true, laidKinds := [.data], laidTests := true, laidLooks := .later }
def BackForwardsCardSaid : Prop := Claim7.holds Tryz.pinned (.plain (OpenSpec.ofChange backForwardsSpec)) backForwardsCard

/-- THE TIED CARD OF 'churnlaw29.BackKeeps'. -/
def backKeepsCard : Claim7 := { stood := { row := backKeepsRow, standIns := [], harness := (true, "63caa58333c9e04f844af09ac684849d8498d0f8ae1a59fae11014321df902ca"), looks := false }, kinds := [], alts := [], laidByText := true, laidKinds := [.data], laidTests := true, laidLooks := .later }
def BackKeepsCardSaid : Prop := Claim7.holds Tryz.pinned (.plain (OpenSpec.ofChange backKeepsSpec)) backKeepsCard

/-- THE SECOND FORM's CARD OF 'churnlaw21.RoundKeeps'. -/
def roundKeepsUptoCard : Claim7 := { stood := { row := roundKeepsUptoRow, standIns := [], harness := (true, "63caa58333c9e04f844af09ac684849d8498d0f8ae1a59fae11014321df902ca"), looks := false }, kinds := [], alts := [], laidByText := true, laidKinds := [.data], laidTests := true, laidLooks := .later }
def RoundKeepsUptoCardSaid : Prop := Claim7.holds Tryz.pinned (.plain (OpenSpec.upto roundKeepsSpec)) roundKeepsUptoCard

/-- THE SECOND FORM's CARD OF 'churnlaw29.BackForwards'. -/
def backForwardsUptoCard : Claim7 := { stood := { row := backForwardsUptoRow, standIns := [], harness := (true, "63caa58333c9e04f844af09ac684849d8498d0f8ae1a59fae11014321df902ca"), looks := false }, kinds := [], alts := [], laidByText := true, laidKinds := [.data], laidTests := true, laidLooks := .later }
def BackForwardsUptoCardSaid : Prop := Claim7.holds Tryz.pinned (.plain (OpenSpec.upto backForwardsSpec)) backForwardsUptoCard

/-- THE SECOND FORM's CARD OF 'churnlaw29.BackKeeps'. -/
def backKeepsUptoCard : Claim7 := { stood := { row := backKeepsUptoRow, standIns := [], harness := (true, "63caa58333c9e04f844af09ac684849d8498d0f8ae1a59fae11014321df902ca"), looks := false }, kinds := [], alts := [], laidByText := true, laidKinds := [.data], laidTests := true, laidLooks := .later }
def BackKeepsUptoCardSaid : Prop := Claim7.holds Tryz.pinned (.plain (OpenSpec.upto backKeepsSpec)) backKeepsUptoCard
end Rows
end Go.Proofs.YtlkjdchmeihhkaaGreatDoor

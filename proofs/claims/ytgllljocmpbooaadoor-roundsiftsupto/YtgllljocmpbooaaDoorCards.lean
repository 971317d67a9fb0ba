/-
  DERIVED. GIVEN WITH THE SEED: THE CARDS: each row of YtgllljocmpbooaaDoorRows.lean that lists a variable, with what it lists TIED to the program's text (the seventh form; the later family's looks); each row that meets fmt, with fmt's text TOLD by the authors' own Lean function (tested against real Go, not proved from fmt's source: count such statements apart). THE CARD IS WHAT COUNTS. Prove the row's statement (the work); the ties are given (YtgllljocmpbooaaDoorTie.lean); close each card by the builder's one call (the guide's Derived/Test/ToyasCard.lean, 'card_holds'). Laid BY PROGRAM, IN A SANDBOX (cutbox-door.mjs). By AI agents, Wed Nov 11 2026. No macro, syntax, notation, axiom, sorry.
-/
import Derived.Test.YtgllljocmpbooaaDoorRows
import GoSem.ClaimSeven
namespace Go.Proofs.YtgllljocmpbooaaDoor
namespace Rows

/-- THE TIED CARD OF 'churnlaw21.RoundSifts'. -/
def roundSiftsCard : Claim7 := { stood := { row := roundSiftsRow, standIns := [], harness := (true, "fe526c79d0af3aa7efc73cc5b6afe14d990d02bcfab7d5c5da9db121e0edc359"), looks := false }, kinds := [], alts := [], laidByText := true, laidKinds := [.data], laidTests := true, laidLooks := .later }
def RoundSiftsCardSaid : Prop := Claim7.holds Tryd.pinned (.plain (OpenSpec.ofChange roundSiftsSpec)) roundSiftsCard

/-- THE SECOND FORM's CARD OF 'churnlaw21.RoundSifts'. -/
def roundSiftsUptoCard : Claim7 := { stood := { row := roundSiftsUptoRow, standIns := [], harness := (true, "fe526c79d0af3aa7efc73cc5b6afe14d990d02bcfab7d5c5da9db121e0edc359"), looks := false }, kinds := [], alts := [], laidByText := true, laidKinds := [.data], laidTests := true, laidLooks := .later }
def RoundSiftsUptoCardSaid : Prop := Claim7.holds Tryd.pinned (.plain (OpenSpec.upto roundSiftsSpec)) roundSiftsUptoCard
end Rows
end Go.Proofs.YtgllljocmpbooaaDoor

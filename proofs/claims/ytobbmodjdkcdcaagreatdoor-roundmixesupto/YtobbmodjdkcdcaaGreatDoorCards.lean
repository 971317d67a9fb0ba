/-
  DERIVED. GIVEN WITH THE SEED: THE CARDS: each row of YtobbmodjdkcdcaaGreatDoorRows.lean that lists a variable, with what it lists TIED to the program's text (the seventh form; the later family's looks); each row that meets fmt, with fmt's text TOLD by the authors' own Lean function (tested against real Go, not proved from fmt's source: count such statements apart). THE CARD IS WHAT COUNTS. Prove the row's statement (the work); the ties are given (YtobbmodjdkcdcaaGreatDoorTie.lean); close each card by the builder's one call (the guide's Derived/Test/ToyasCard.lean, 'card_holds'). Laid BY PROGRAM, IN A SANDBOX (cutbox-door.mjs). By AI agents, Wed Nov 11 2026. No macro, syntax, notation, axiom, sorry.
-/
import Derived.Test.YtobbmodjdkcdcaaGreatDoorRows
import GoSem.ClaimSeven
namespace Go.Proofs.YtobbmodjdkcdcaaGreatDoor
namespace Rows

/-- THE TIED CARD OF 'churnlaw21.RoundMixes'. -/
def roundMixesCard : Claim7 := { stood := { row := roundMixesRow, standIns := [], harness := (true, "67b572af018ced628a67aca81a78210c4baab5b650eb880b9cbf2428c1731049"), looks := false }, kinds := [], alts := [], laidByText := true, laidKinds := [.data], laidTests := true, laidLooks := .later }
def RoundMixesCardSaid : Prop := Claim7.holds Tryz.pinned (.plain (OpenSpec.ofChange roundMixesSpec)) roundMixesCard

/-- THE TIED CARD OF 'churnlaw21.RoundAlike'. -/
def roundAlikeCard : Claim7 := { stood := { row := roundAlikeRow, standIns := [], harness := (true, "67b572af018ced628a67aca81a78210c4baab5b650eb880b9cbf2428c1731049"), looks := false }, kinds := [], alts := [], laidByText := true, laidKinds := [.data], laidTests := true, laidLooks := .later }
def RoundAlikeCardSaid : Prop := Claim7.holds Tryz.pinned (.plain (OpenSpec.ofChange roundAlikeSpec)) roundAlikeCard

/-- THE TIED CARD OF 'churnlaw21.RoundOrder'. -/
def roundOrderCard : Claim7 := { stood := { row := roundOrderRow, standIns := [], harness := (true, "67b572af018ced628a67aca81a78210c4baab5b650eb880b9cbf2428c1731049"), looks := false }, kinds := [], alts := [], laidByText := true, laidKinds := [.data], laidTests := true, laidLooks := .later }
def RoundOrderCardSaid : Prop := Claim7.holds Tryz.pinned (.plain (OpenSpec.ofChange roundOrderSpec)) roundOrderCard

/-- THE TIED CARD OF 'churnlaw21.RoundTrace'. -/
def roundTraceCard : Claim7 := { stood := { row := roundTraceRow, standIns := [], harness := (true, "67b572af018ced628a67aca81a78210c4baab5b650eb880b9cbf2428c1731049"), looks := false }, kinds := [], alts := [], laidByText := true, laidKinds := [.data], laidTests := true, laidLooks := .later }
def RoundTraceCardSaid : Prop := Claim7.holds Tryz.pinned (.plain (OpenSpec.ofChange roundTraceSpec)) roundTraceCard

/-- THE TIED CARD OF 'churnlaw21.RoundOnce'. -/
def roundOnceCard : Claim7 := { stood := { row := roundOnceRow, standIns := [], harness := (true, "67b572af018ced628a67aca81a78210c4baab5b650eb880b9cbf2428c1731049"), looks := false }, kinds := [], alts := [], laidByText := true, laidKinds := [.data], laidTests := true, laidLooks := .later }
def RoundOnceCardSaid : Prop := Claim7.holds Tryz.pinned (.plain (OpenSpec.ofChange roundOnceSpec)) roundOnceCard

/-- THE TIED CARD OF 'churnlaw21.RoundKeeps'. -/
def roundKeepsCard : Claim7 := { stood := { row := roundKeepsRow, standIns := [], harness := (true, "67b572af018ced628a67aca81a78210c4baab5b650eb880b9cbf2428c1731049"), looks := false }, kinds := [], alts := [], laidByText := true, laidKinds := [.data], laidTests := true, laidLooks := .later }
def RoundKeepsCardSaid : Prop := Claim7.holds Tryz.pinned (.plain (OpenSpec.ofChange roundKeepsSpec)) roundKeepsCard

/-- THE TIED CARD OF 'churnlaw29.BackForwards'. -/
def backForwardsCard : Claim7 := { stood := { row := backForwardsRow, standIns := [], harness := (true, "67b572af018ced628a67aca81a78210c4baab5b650eb880b9cbf2428c1731049"), looks := false }, kinds := [], alts := [], laidByText := true, laidKinds := [.data], laidTests := true, laidLooks := .later }
def BackForwardsCardSaid : Prop := Claim7.holds Tryz.pinned (.plain (OpenSpec.ofChange backForwardsSpec)) backForwardsCard

/-- THE TIED CARD OF 'churnlaw29.BackChecks'. -/
def backChecksCard : Claim7 := { stood := { row := backChecksRow, standIns := [], harness := (true, "67b572af018ced628a67aca81a78210c4baab5b650eb880b9cbf2428c1731049"), looks := false }, kinds := [], alts := [], laidByText := true, laidKinds := [.data], laidTests := true, laidLooks := .later }
def BackChecksCardSaid : Prop := Claim7.holds Tryz.pinned (.plain (OpenSpec.ofChange backChecksSpec)) backChecksCard

/-- THE TIED CARD OF 'churnlaw29.BackReturns'. -/
def backReturnsCard : Claim7 := { stood := { row := backReturnsRow, standIns := [], harness := (true, "67b572af018ced628a67aca81a78210c4baab5b650eb880b9cbf2428c1731049"), looks := false }, kinds := [], alts := [], laidByText := true, laidKinds := [.data], laidTests := true, laidLooks := .later }
def BackReturnsCardSaid : Prop := Claim7.holds Tryz.pinned (.plain (OpenSpec.ofChange backReturnsSpec)) backReturnsCard

/-- THE TIED CARD OF 'churnlaw29.BackMemory'. -/
def backMemoryCard : Claim7 := { stood := { row := backMemoryRow, standIns := [], harness := (true, "67b572af018ced628a67aca81a78210c4baab5b650eb880b9cbf2428c1731049"), looks := false }, kinds := [], alts := [], laidByText := true, laidKinds := [.data], laidTests := true, laidLooks := .later }
def BackMemoryCardSaid : Prop := Claim7.holds Tryz.pinned (.plain (OpenSpec.ofChange backMemorySpec)) backMemoryCard

/-- THE TIED CARD OF 'churnlaw29.BackPlaces'. -/
def backPlacesCard : Claim7 := { stood := { row := backPlacesRow, standIns := [], harness := (true, "67b572af018ced628a67aca81a78210c4baab5b650eb880b9cbf2428c1731049"), looks := false }, kinds := [], alts := [], laidByText := true, laidKinds := [.data], laidTests := true, laidLooks := .later }
def BackPlacesCardSaid : Prop := Claim7.holds Tryz.pinned (.plain (OpenSpec.ofChange backPlacesSpec)) backPlacesCard

/-- THE TIED CARD OF 'churnlaw29.BackOthers'. -/
def backOthersCard : Claim7 := { stood := { row := backOthersRow, standIns := [], harness := (true, "67b572af018ced628a67aca81a78210c4baab5b650eb880b9cbf2428c1731049"), looks := false }, kinds := [], alts := [], laidByText := true, laidKinds := [.data], laidTests := true, laidLooks := .later }
def BackOthersCardSaid : Prop := Claim7.holds Tryz.pinned (.plain (OpenSpec.ofChange backOthersSpec)) backOthersCard

/-- THE SECOND FORM's CARD OF 'churnlaw21.RoundMixes'. -/
def roundMixesUptoCard : Claim7 := { stood := { row := roundMixesUptoRow, standIns := [], harness := (true, "67b572af018ced628a67aca81a78210c4baab5b650eb880b9cbf2428c1731049"), looks := false }, kinds := [], alts := [], laidByText := true, laidKinds := [.data], laidTests := true, laidLooks := .later }
def RoundMixesUptoCardSaid : Prop := Claim7.holds Tryz.pinned (.plain (OpenSpec.upto roundMixesSpec)) roundMixesUptoCard

/-- THE SECOND FORM's CARD OF 'churnlaw21.RoundAlike'. -/
def roundAlikeUptoCard : Claim7 := { stood := { row := roundAlikeUptoRow, standIns := [], harness := (true, "67b572af018ced628a67aca81a78210c4baab5b650eb880b9cbf2428c1731049"), looks := false }, kinds := [], alts := [], laidByText := true, laidKinds := [.data], laidTests := true, laidLooks := .later }
def RoundAlikeUptoCardSaid : Prop := Claim7.holds Tryz.pinned (.plain (OpenSpec.upto roundAlikeSpec)) roundAlikeUptoCard

/-- THE SECOND FORM's CARD OF 'churnlaw21.RoundOrder'. -/
def roundOrderUptoCard : Claim7 := { stood := { row := roundOrderUptoRow, standIns := [], harness := (true, "67b572af018ced628a67aca81a78210c4baab5b650eb880b9cbf2428c1731049"), looks := false }, kinds := [], alts := [], laidByText := true, laidKinds := [.data], laidTests := true, laidLooks := .later }
def RoundOrderUptoCardSaid : Prop := Claim7.holds Tryz.pinned (.plain (OpenSpec.upto roundOrderSpec)) roundOrderUptoCard

/-- THE SECOND FORM's CARD OF 'churnlaw21.RoundTrace'. -/
def roundTraceUptoCard : Claim7 := { stood := { row := roundTraceUptoRow, standIns := [], harness := (true, "67b572af018ced628a67aca81a78210c4baab5b650eb880b9cbf2428c1731049"), looks := false }, kinds := [], alts := [], laidByText := true, laidKinds := [.data], laidTests := true, laidLooks := .later }
def RoundTraceUptoCardSaid : Prop := Claim7.holds Tryz.pinned (.plain (OpenSpec.upto roundTraceSpec)) roundTraceUptoCard

/-- THE SECOND FORM's CARD OF 'churnlaw21.RoundOnce'. -/
def roundOnceUptoCard : Claim7 := { stood := { row := roundOnceUptoRow, standIns := [], harness := (true, "67b572af018ced628a67aca81a78210c4baab5b650eb880b9cbf2428c1731049"), looks := false }, kinds := [], alts := [], laidByText := true, laidKinds := [.data], laidTests := true, laidLooks := .later }
def RoundOnceUptoCardSaid : Prop := Claim7.holds Tryz.pinned (.plain (OpenSpec.upto roundOnceSpec)) roundOnceUptoCard

/-- THE SECOND FORM's CARD OF 'churnlaw21.RoundKeeps'. -/
def roundKeepsUptoCard : Claim7 := { stood := { row := roundKeepsUptoRow, standIns := [], harness := (true, "67b572af018ced628a67aca81a78210c4baab5b650eb880b9cbf2428c1731049"), looks := false }, kinds := [], alts := [], laidByText := true, laidKinds := [.data], laidTests := true, laidLooks := .later }
def RoundKeepsUptoCardSaid : Prop := Claim7.holds Tryz.pinned (.plain (OpenSpec.upto roundKeepsSpec)) roundKeepsUptoCard

/-- THE SECOND FORM's CARD OF 'churnlaw29.BackForwards'. -/
def backForwardsUptoCard : Claim7 := { stood := { row := backForwardsUptoRow, standIns := [], harness := (true, "67b572af018ced628a67aca81a78210c4baab5b650eb880b9cbf2428c1731049"), looks := false }, kinds := [], alts := [], laidByText := true, laidKinds := [.data], laidTests := true, laidLooks := .later }
def BackForwardsUptoCardSaid : Prop := Claim7.holds Tryz.pinned (.plain (OpenSpec.upto backForwardsSpec)) backForwardsUptoCard

/-- THE SECOND FORM's CARD OF 'churnlaw29.BackChecks'. -/
def backChecksUptoCard : Claim7 := { stood := { row := backChecksUptoRow, standIns := [], harness := (true, "67b572af018ced628a67aca81a78210c4baab5b650eb880b9cbf2428c1731049"), looks := false }, kinds := [], alts := [], laidByText := true, laidKinds := [.data], laidTests := true, laidLooks := .later }
def BackChecksUptoCardSaid : Prop := Claim7.holds Tryz.pinned (.plain (OpenSpec.upto backChecksSpec)) backChecksUptoCard

/-- THE SECOND FORM's CARD OF 'churnlaw29.BackReturns'. -/
def backReturnsUptoCard : Claim7 := { stood := { row := backReturnsUptoRow, standIns := [], harness := (true, "67b572af018ced628a67aca81a78210c4baab5b650eb880b9cbf2428c1731049"), looks := false }, kinds := [], alts := [], laidByText := true, laidKinds := [.data], laidTests := true, laidLooks := .later }
def BackReturnsUptoCardSaid : Prop := Claim7.holds Tryz.pinned (.plain (OpenSpec.upto backReturnsSpec)) backReturnsUptoCard

/-- THE SECOND FORM's CARD OF 'churnlaw29.BackMemory'. -/
def backMemoryUptoCard : Claim7 := { stood := { row := backMemoryUptoRow, standIns := [], harness := (true, "67b572af018ced628a67aca81a78210c4baab5b650eb880b9cbf2428c1731049"), looks := false }, kinds := [], alts := [], laidByText := true, laidKinds := [.data], laidTests := true, laidLooks := .later }
def BackMemoryUptoCardSaid : Prop := Claim7.holds Tryz.pinned (.plain (OpenSpec.upto backMemorySpec)) backMemoryUptoCard

/-- THE SECOND FORM's CARD OF 'churnlaw29.BackPlaces'. -/
def backPlacesUptoCard : Claim7 := { stood := { row := backPlacesUptoRow, standIns := [], harness := (true, "67b572af018ced628a67aca81a78210c4baab5b650eb880b9cbf2428c1731049"), looks := false }, kinds := [], alts := [], laidByText := true, laidKinds := [.data], laidTests := true, laidLooks := .later }
def BackPlacesUptoCardSaid : Prop := Claim7.holds Tryz.pinned (.plain (OpenSpec.upto backPlacesSpec)) backPlacesUptoCard

/-- THE SECOND FORM's CARD OF 'churnlaw29.BackOthers'. -/
def backOthersUptoCard : Claim7 := { stood := { row := backOthersUptoRow, standIns := [], harness := (true, "67b572af018ced628a67aca81a78210c4baab5b650eb880b9cbf2428c1731049"), looks := false }, kinds := [], alts := [], laidByText := true, laidKinds := [.data], laidTests := true, laidLooks := .later }
def BackOthersUptoCardSaid : Prop := Claim7.holds Tryz.pinned (.plain (OpenSpec.upto backOthersSpec)) backOthersUptoCard
end Rows
end Go.Proofs.YtobbmodjdkcdcaaGreatDoor

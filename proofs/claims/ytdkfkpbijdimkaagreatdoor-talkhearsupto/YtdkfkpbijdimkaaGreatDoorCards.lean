/-
  DERIVED. GIVEN WITH THE SEED: THE CARDS: each row of YtdkfkpbijdimkaaGreatDoorRows.lean that lists a variable, with what it lists TIED to the program's text (the seventh form; the later family's looks); each row that meets fmt, with fmt's text TOLD by the authors' own Lean function (tested against real Go, not proved from fmt's source: count such statements apart). THE CARD IS WHAT COUNTS. Prove the row's statement (the work); the ties are given (YtdkfkpbijdimkaaGreatDoorTie.lean); close each card by the builder's one call (the guide's Derived/Test/ToyasCard.lean, 'card_holds'). Laid BY PROGRAM, IN A SANDBOX (cutbox-door.mjs). By AI agents, Wed Nov 11 2026. No macro, syntax, notation, axiom, sorry.
-/
import Derived.Test.YtdkfkpbijdimkaaGreatDoorRows
import GoSem.ClaimSeven
namespace Go.Proofs.YtdkfkpbijdimkaaGreatDoor
namespace Rows

/-- THE TIED CARD OF 'churnlaw25.CascadeSubmits'. -/
def cascadeSubmitsCard : Claim7 := { stood := { row := cascadeSubmitsRow, standIns := [], harness := (true, "e6c402c863b618c6eb29acff36d7ce56712b02f2bebb276d7236b8347a8276da"), looks := false }, kinds := [], alts := [], goes := true, laidByText := true, laidKinds := [.data], laidTests := true, laidLooks := .later }
def CascadeSubmitsCardSaid : Prop := Claim7.holds Tryz.pinned (.plain (OpenSpec.ofChange cascadeSubmitsSpec)) cascadeSubmitsCard

/-- THE TIED CARD OF 'churnlaw25.CascadeEntries'. -/
def cascadeEntriesCard : Claim7 := { stood := { row := cascadeEntriesRow, standIns := [], harness := (true, "e6c402c863b618c6eb29acff36d7ce56712b02f2bebb276d7236b8347a8276da"), looks := false }, kinds := [], alts := [], goes := true, laidByText := true, laidKinds := [.data], laidTests := true, laidLooks := .later }
def CascadeEntriesCardSaid : Prop := Claim7.holds Tryz.pinned (.plain (OpenSpec.ofChange cascadeEntriesSpec)) cascadeEntriesCard

/-- THE TIED CARD OF 'churnlaw30.TalkAsks'. -/
def talkAsksCard : Claim7 := { stood := { row := talkAsksRow, standIns := [], harness := (true, "e6c402c863b618c6eb29acff36d7ce56712b02f2bebb276d7236b8347a8276da"), looks := false }, kinds := [], alts := [], goes := true, laidByText := true, laidKinds := [.data], laidTests := true, laidLooks := .later }
def TalkAsksCardSaid : Prop := Claim7.holds Tryz.pinned (.plain (OpenSpec.ofChange talkAsksSpec)) talkAsksCard

/-- THE TIED CARD OF 'churnlaw30.TalkHears'. -/
def talkHearsCard : Claim7 := { stood := { row := talkHearsRow, standIns := [], harness := (true, "e6c402c863b618c6eb29acff36d7ce56712b02f2bebb276d7236b8347a8276da"), looks := false }, kinds := [], alts := [], goes := true, laidByText := true, laidKinds := [.data], laidTests := true, laidLooks := .later }
def TalkHearsCardSaid : Prop := Claim7.holds Tryz.pinned (.plain (OpenSpec.ofChange talkHearsSpec)) talkHearsCard

/-- THE SECOND FORM's CARD OF 'churnlaw25.CascadeSubmits'. -/
def cascadeSubmitsUptoCard : Claim7 := { stood := { row := cascadeSubmitsUptoRow, standIns := [], harness := (true, "e6c402c863b618c6eb29acff36d7ce56712b02f2bebb276d7236b8347a8276da"), looks := false }, kinds := [], alts := [], goes := true, laidByText := true, laidKinds := [.data], laidTests := true, laidLooks := .later }
def CascadeSubmitsUptoCardSaid : Prop := Claim7.holds Tryz.pinned (.plain (OpenSpec.upto cascadeSubmitsSpec)) cascadeSubmitsUptoCard

/-- THE SECOND FORM's CARD OF 'churnlaw25.CascadeEntries'. -/
def cascadeEntriesUptoCard : Claim7 := { stood := { row := cascadeEntriesUptoRow, standIns := [], harness := (true, "e6c402c863b618c6eb29acff36d7ce56712b02f2bebb276d7236b8347a8276da"), looks := false }, kinds := [], alts := [], goes := true, laidByText := true, laidKinds := [.data], laidTests := true, laidLooks := .later }
def CascadeEntriesUptoCardSaid : Prop := Claim7.holds Tryz.pinned (.plain (OpenSpec.upto cascadeEntriesSpec)) cascadeEntriesUptoCard

/-- THE SECOND FORM's CARD OF 'churnlaw30.TalkAsks'. -/
def talkAsksUptoCard : Claim7 := { stood := { row := talkAsksUptoRow, standIns := [], harness := (true, "e6c402c863b618c6eb29acff36d7ce56712b02f2bebb276d7236b8347a8276da"), looks := false }, kinds := [], alts := [], goes := true, laidByText := true, laidKinds := [.data], laidTests := true, laidLooks := .later }
def TalkAsksUptoCardSaid : Prop := Claim7.holds Tryz.pinned (.plain (OpenSpec.upto talkAsksSpec)) talkAsksUptoCard

/-- THE SECOND FORM's CARD OF 'churnlaw30.TalkHears'. -/
def talkHearsUptoCard : Claim7 := { stood := { row := talkHearsUptoRow, standIns := [], harness := (true, "e6c402c863b618c6eb29acff36d7ce56712b02f2bebb276d7236b8347a8276da"), looks := false }, kinds := [], alts := [], goes := true, laidByText := true, laidKinds := [.data], laidTests := true, laidLooks := .later }
def TalkHearsUptoCardSaid : Prop := Claim7.holds Tryz.pinned (.plain (OpenSpec.upto talkHearsSpec)) talkHearsUptoCard
end Rows
end Go.Proofs.YtdkfkpbijdimkaaGreatDoor

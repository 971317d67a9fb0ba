/-
  No cell of these rows narrows 'for every input' (looked for: loops, veiled, ifaces, maps, wideKeys, modest, calm, conditions, laid).
  DERIVED. THE GIVEN ROWS OF THIS SEAT. 9 by the template 'for every input the law returns true; each argument reads behind the call as it read before'; 0 by the template 'total and deterministic' (their statements: YtgllljocmpbooaaTotals.lean).
  GIVEN WITH THE SEED: the statements are not yours to turn. If you find one false, say at which input.
  Laid BY PROGRAM, IN A SANDBOX (cutbox-rows.mjs): the forced cells as the released guide's own fill.sh prints them over the translation 49b6b2361c459cc4… (all of the seat's roots in one cut). By AI agents, Wed Nov 11 2026. No macro, syntax, notation, axiom, sorry.
-/
import Derived.Test.YtgllljocmpbooaaChecked
import GoSem.Claim
import GoSem.ClaimJoined
import GoSem.ClaimMapViews
import Derived.JoinedTies
import Derived.KernelRfl
namespace Go.Proofs.Ytgllljocmpbooaa
/- THE CELL 'sum', in the pinned program and in every row, IS THE sha256 OF THE DUMP (.gsa) THAT YtgllljocmpbooaaProg.lean LOADS. Nothing in Lean hashes anything: it is a label: what it is worth is what the hold of that sum in a sandbox is worth. -/
noncomputable def Try.pinned : Pinned := { name := "ytgllljocmpbooaa", sum := "49b6b2361c459cc40bf8c910647eb3941bc4808b7f2036dbd7a60a396fde4684", checked := Try.checked }
namespace Rows
def none {H : Type} : Left H := { results := [], args := [] }

/-- 'churnlaw21.RoundChecks': WHATEVER THE INPUT: true; the input reads as it did. -/
def roundChecksSpec : ChangeSpec := { name := "roundChecks", fn := fun _ => fun
  | [d1, d2] => { results := [.lit (.bool true)], args := [d1, d2] }
  | _ => none }
def roundChecksRow : OpenClaim := { program := "ytgllljocmpbooaa", sum := "49b6b2361c459cc40bf8c910647eb3941bc4808b7f2036dbd7a60a396fde4684", func := "churn/churnlaw21.RoundChecks", spec := "roundChecks", inPlace := ["internal/bytealg.Compare"], unfollowed := true, recurses := true, plainKeys := false, apart := false }
def RoundChecksSaid : Prop := roundChecksRow.holds Try.pinned (OpenSpec.ofChange roundChecksSpec)

/-- ITS FALSE NEIGHBOUR: 'it returns false'. Refute it at one input. -/
def roundChecksWrong : ChangeSpec := { name := "roundChecks", fn := fun _ => fun
  | [d1, d2] => { results := [.lit (.bool false)], args := [d1, d2] }
  | _ => none }
def RoundChecksWrongFalsely : Prop := roundChecksRow.holds Try.pinned (OpenSpec.ofChange roundChecksWrong)

/-- 'churnlaw16.WindowNames': WHATEVER THE INPUT: true; the input reads as it did. -/
def windowNamesSpec : ChangeSpec := { name := "windowNames", fn := fun _ => fun
  | [] => { results := [.lit (.bool true)], args := [] }
  | _ => none }
def windowNamesRow : OpenClaim := { program := "ytgllljocmpbooaa", sum := "49b6b2361c459cc40bf8c910647eb3941bc4808b7f2036dbd7a60a396fde4684", func := "churn/churnlaw16.WindowNames", spec := "windowNames", inPlace := ["internal/bytealg.Compare"], unfollowed := true, recurses := true, plainKeys := false, apart := false }
def WindowNamesSaid : Prop := windowNamesRow.holds Try.pinned (OpenSpec.ofChange windowNamesSpec)

/-- ITS FALSE NEIGHBOUR: 'it returns false'. Refute it at one input. -/
def windowNamesWrong : ChangeSpec := { name := "windowNames", fn := fun _ => fun
  | [] => { results := [.lit (.bool false)], args := [] }
  | _ => none }
def WindowNamesWrongFalsely : Prop := windowNamesRow.holds Try.pinned (OpenSpec.ofChange windowNamesWrong)

/-- 'churnlaw16.WindowChecks': WHATEVER THE INPUT: true; the input reads as it did. -/
def windowChecksSpec : ChangeSpec := { name := "windowChecks", fn := fun _ => fun
  | [d] => { results := [.lit (.bool true)], args := [d] }
  | _ => none }
def windowChecksRow : OpenClaim := { program := "ytgllljocmpbooaa", sum := "49b6b2361c459cc40bf8c910647eb3941bc4808b7f2036dbd7a60a396fde4684", func := "churn/churnlaw16.WindowChecks", spec := "windowChecks", inPlace := ["internal/bytealg.Compare"], unfollowed := true, recurses := true, plainKeys := false, apart := false }
def WindowChecksSaid : Prop := windowChecksRow.holds Try.pinned (OpenSpec.ofChange windowChecksSpec)

/-- ITS FALSE NEIGHBOUR: 'it returns false'. Refute it at one input. -/
def windowChecksWrong : ChangeSpec := { name := "windowChecks", fn := fun _ => fun
  | [d] => { results := [.lit (.bool false)], args := [d] }
  | _ => none }
def WindowChecksWrongFalsely : Prop := windowChecksRow.holds Try.pinned (OpenSpec.ofChange windowChecksWrong)

/-- 'churnlaw16.WindowOpens': WHATEVER THE INPUT: true; the input reads as it did. -/
def windowOpensSpec : ChangeSpec := { name := "windowOpens", fn := fun _ => fun
  | [d1, d2, d3] => { results := [.lit (.bool true)], args := [d1, d2, d3] }
  | _ => none }
def windowOpensRow : OpenClaim := { program := "ytgllljocmpbooaa", sum := "49b6b2361c459cc40bf8c910647eb3941bc4808b7f2036dbd7a60a396fde4684", func := "churn/churnlaw16.WindowOpens", spec := "windowOpens", inPlace := ["internal/bytealg.Compare"], unfollowed := true, recurses := true, plainKeys := false, apart := false }
def WindowOpensSaid : Prop := windowOpensRow.holds Try.pinned (OpenSpec.ofChange windowOpensSpec)

/-- ITS FALSE NEIGHBOUR: 'it returns false'. Refute it at one input. -/
def windowOpensWrong : ChangeSpec := { name := "windowOpens", fn := fun _ => fun
  | [d1, d2, d3] => { results := [.lit (.bool false)], args := [d1, d2, d3] }
  | _ => none }
def WindowOpensWrongFalsely : Prop := windowOpensRow.holds Try.pinned (OpenSpec.ofChange windowOpensWrong)

/-- 'churnlaw16.WindowAdds': WHATEVER THE INPUT: true; the input reads as it did. -/
def windowAddsSpec : ChangeSpec := { name := "windowAdds", fn := fun _ => fun
  | [d] => { results := [.lit (.bool true)], args := [d] }
  | _ => none }
def windowAddsRow : OpenClaim := { program := "ytgllljocmpbooaa", sum := "49b6b2361c459cc40bf8c910647eb3941bc4808b7f2036dbd7a60a396fde4684", func := "churn/churnlaw16.WindowAdds", spec := "windowAdds", inPlace := ["internal/bytealg.Compare"], unfollowed := true, recurses := true, plainKeys := false, apart := false }
def WindowAddsSaid : Prop := windowAddsRow.holds Try.pinned (OpenSpec.ofChange windowAddsSpec)

/-- ITS FALSE NEIGHBOUR: 'it returns false'. Refute it at one input. -/
def windowAddsWrong : ChangeSpec := { name := "windowAdds", fn := fun _ => fun
  | [d] => { results := [.lit (.bool false)], args := [d] }
  | _ => none }
def WindowAddsWrongFalsely : Prop := windowAddsRow.holds Try.pinned (OpenSpec.ofChange windowAddsWrong)

/-- 'churnlaw16.WindowLives': WHATEVER THE INPUT: true; the input reads as it did. -/
def windowLivesSpec : ChangeSpec := { name := "windowLives", fn := fun _ => fun
  | [d1, d2, d3] => { results := [.lit (.bool true)], args := [d1, d2, d3] }
  | _ => none }
def windowLivesRow : OpenClaim := { program := "ytgllljocmpbooaa", sum := "49b6b2361c459cc40bf8c910647eb3941bc4808b7f2036dbd7a60a396fde4684", func := "churn/churnlaw16.WindowLives", spec := "windowLives", inPlace := ["internal/bytealg.Compare"], unfollowed := true, recurses := true, plainKeys := false, apart := false }
def WindowLivesSaid : Prop := windowLivesRow.holds Try.pinned (OpenSpec.ofChange windowLivesSpec)

/-- ITS FALSE NEIGHBOUR: 'it returns false'. Refute it at one input. -/
def windowLivesWrong : ChangeSpec := { name := "windowLives", fn := fun _ => fun
  | [d1, d2, d3] => { results := [.lit (.bool false)], args := [d1, d2, d3] }
  | _ => none }
def WindowLivesWrongFalsely : Prop := windowLivesRow.holds Try.pinned (OpenSpec.ofChange windowLivesWrong)

/-- 'churnlaw16.WindowHolds': WHATEVER THE INPUT: true; the input reads as it did. -/
def windowHoldsSpec : ChangeSpec := { name := "windowHolds", fn := fun _ => fun
  | [d] => { results := [.lit (.bool true)], args := [d] }
  | _ => none }
def windowHoldsRow : OpenClaim := { program := "ytgllljocmpbooaa", sum := "49b6b2361c459cc40bf8c910647eb3941bc4808b7f2036dbd7a60a396fde4684", func := "churn/churnlaw16.WindowHolds", spec := "windowHolds", inPlace := ["internal/bytealg.Compare"], unfollowed := true, recurses := true, plainKeys := false, apart := false }
def WindowHoldsSaid : Prop := windowHoldsRow.holds Try.pinned (OpenSpec.ofChange windowHoldsSpec)

/-- ITS FALSE NEIGHBOUR: 'it returns false'. Refute it at one input. -/
def windowHoldsWrong : ChangeSpec := { name := "windowHolds", fn := fun _ => fun
  | [d] => { results := [.lit (.bool false)], args := [d] }
  | _ => none }
def WindowHoldsWrongFalsely : Prop := windowHoldsRow.holds Try.pinned (OpenSpec.ofChange windowHoldsWrong)

/-- 'churnlaw16.WindowPieces': WHATEVER THE INPUT: true; the input reads as it did. -/
def windowPiecesSpec : ChangeSpec := { name := "windowPieces", fn := fun _ => fun
  | [d] => { results := [.lit (.bool true)], args := [d] }
  | _ => none }
def windowPiecesRow : OpenClaim := { program := "ytgllljocmpbooaa", sum := "49b6b2361c459cc40bf8c910647eb3941bc4808b7f2036dbd7a60a396fde4684", func := "churn/churnlaw16.WindowPieces", spec := "windowPieces", inPlace := ["internal/bytealg.Compare"], unfollowed := true, recurses := true, plainKeys := false, apart := false }
def WindowPiecesSaid : Prop := windowPiecesRow.holds Try.pinned (OpenSpec.ofChange windowPiecesSpec)

/-- ITS FALSE NEIGHBOUR: 'it returns false'. Refute it at one input. -/
def windowPiecesWrong : ChangeSpec := { name := "windowPieces", fn := fun _ => fun
  | [d] => { results := [.lit (.bool false)], args := [d] }
  | _ => none }
def WindowPiecesWrongFalsely : Prop := windowPiecesRow.holds Try.pinned (OpenSpec.ofChange windowPiecesWrong)

/-- 'churnlaw16.WindowKeeps': WHATEVER THE INPUT: true; the input reads as it did. -/
def windowKeepsSpec : ChangeSpec := { name := "windowKeeps", fn := fun _ => fun
  | [d] => { results := [.lit (.bool true)], args := [d] }
  | _ => none }
def windowKeepsRow : OpenClaim := { program := "ytgllljocmpbooaa", sum := "49b6b2361c459cc40bf8c910647eb3941bc4808b7f2036dbd7a60a396fde4684", func := "churn/churnlaw16.WindowKeeps", spec := "windowKeeps", inPlace := ["internal/bytealg.Compare"], unfollowed := true, recurses := true, plainKeys := false, apart := false }
def WindowKeepsSaid : Prop := windowKeepsRow.holds Try.pinned (OpenSpec.ofChange windowKeepsSpec)

/-- ITS FALSE NEIGHBOUR: 'it returns false'. Refute it at one input. -/
def windowKeepsWrong : ChangeSpec := { name := "windowKeeps", fn := fun _ => fun
  | [d] => { results := [.lit (.bool false)], args := [d] }
  | _ => none }
def WindowKeepsWrongFalsely : Prop := windowKeepsRow.holds Try.pinned (OpenSpec.ofChange windowKeepsWrong)

/- THE SECOND FORM. 'bulk': how many values and letters a reading holds, each counted each time it is reached (what is shared counts as often as it is met; a slice's spare places count too). A statement '..UptoSaid' is the law's where the arguments, and the package variables that the reading takes, are together of bulk at most 1048576: NARROWER than '..Said'. Prove '..Said' where nothing that the law and all that it calls make is longer than what came in: it says more and counts as full. Else prove '..UptoSaid'. A law counts once. -/
mutual
def uptoBulk {H : Type} : DataW H → Nat
  | .lit (.string bytes) => bytes.length + 1
  | .lit _ => 1
  | .nil => 1
  | .ptr d => uptoBulk d + 1
  | .slice elems spare => uptoBulkAll elems + uptoBulkAll spare + 1
  | .agg parts => uptoBulkAll parts + 1
  | .iface _ d => uptoBulk d + 1
  | .map entries => uptoBulkEntries entries + 1
  | .held _ => 1
def uptoBulkAll {H : Type} : List (DataW H) → Nat
  | [] => 0
  | d :: r => uptoBulk d + uptoBulkAll r
def uptoBulkEntries {H : Type} : List (Lit × DataW H) → Nat
  | [] => 0
  | x :: r => uptoBulkEntry x + uptoBulkEntries r
def uptoBulkEntry {H : Type} : Lit × DataW H → Nat
  | (.string bytes, d) => bytes.length + uptoBulk d + 1
  | (_, d) => uptoBulk d + 1
 end
def uptoSmall : (H : Type) → List (DataW H) → Bool := fun _ ds => decide (uptoBulkAll ds ≤ 1048576)
def OpenSpec.upto (s : _root_.Go.ChangeSpec) : _root_.Go.OpenSpec := { _root_.Go.OpenSpec.ofChange s with cond := some uptoSmall }

/-- 'churnlaw21.RoundChecks', WHERE WHAT IT READS IS OF BULK AT MOST 1048576: true; the input reads as it did. -/
def roundChecksUptoRow : OpenClaim := { program := "ytgllljocmpbooaa", sum := "49b6b2361c459cc40bf8c910647eb3941bc4808b7f2036dbd7a60a396fde4684", func := "churn/churnlaw21.RoundChecks", spec := "roundChecks", inPlace := ["internal/bytealg.Compare"], unfollowed := true, recurses := true, plainKeys := false, apart := false, narrowed := true }
def RoundChecksUptoSaid : Prop := roundChecksUptoRow.holds Try.pinned (OpenSpec.upto roundChecksSpec)

/-- 'churnlaw16.WindowNames', WHERE WHAT IT READS IS OF BULK AT MOST 1048576: true; the input reads as it did. -/
def windowNamesUptoRow : OpenClaim := { program := "ytgllljocmpbooaa", sum := "49b6b2361c459cc40bf8c910647eb3941bc4808b7f2036dbd7a60a396fde4684", func := "churn/churnlaw16.WindowNames", spec := "windowNames", inPlace := ["internal/bytealg.Compare"], unfollowed := true, recurses := true, plainKeys := false, apart := false, narrowed := true }
def WindowNamesUptoSaid : Prop := windowNamesUptoRow.holds Try.pinned (OpenSpec.upto windowNamesSpec)

/-- 'churnlaw16.WindowChecks', WHERE WHAT IT READS IS OF BULK AT MOST 1048576: true; the input reads as it did. -/
def windowChecksUptoRow : OpenClaim := { program := "ytgllljocmpbooaa", sum := "49b6b2361c459cc40bf8c910647eb3941bc4808b7f2036dbd7a60a396fde4684", func := "churn/churnlaw16.WindowChecks", spec := "windowChecks", inPlace := ["internal/bytealg.Compare"], unfollowed := true, recurses := true, plainKeys := false, apart := false, narrowed := true }
def WindowChecksUptoSaid : Prop := windowChecksUptoRow.holds Try.pinned (OpenSpec.upto windowChecksSpec)

/-- 'churnlaw16.WindowOpens', WHERE WHAT IT READS IS OF BULK AT MOST 1048576: true; the input reads as it did. -/
def windowOpensUptoRow : OpenClaim := { program := "ytgllljocmpbooaa", sum := "49b6b2361c459cc40bf8c910647eb3941bc4808b7f2036dbd7a60a396fde4684", func := "churn/churnlaw16.WindowOpens", spec := "windowOpens", inPlace := ["internal/bytealg.Compare"], unfollowed := true, recurses := true, plainKeys := false, apart := false, narrowed := true }
def WindowOpensUptoSaid : Prop := windowOpensUptoRow.holds Try.pinned (OpenSpec.upto windowOpensSpec)

/-- 'churnlaw16.WindowAdds', WHERE WHAT IT READS IS OF BULK AT MOST 1048576: true; the input reads as it did. -/
def windowAddsUptoRow : OpenClaim := { program := "ytgllljocmpbooaa", sum := "49b6b2361c459cc40bf8c910647eb3941bc4808b7f2036dbd7a60a396fde4684", func := "churn/churnlaw16.WindowAdds", spec := "windowAdds", inPlace := ["internal/bytealg.Compare"], unfollowed := true, recurses := true, plainKeys := false, apart := false, narrowed := true }
def WindowAddsUptoSaid : Prop := windowAddsUptoRow.holds Try.pinned (OpenSpec.upto windowAddsSpec)

/-- 'churnlaw16.WindowLives', WHERE WHAT IT READS IS OF BULK AT MOST 1048576: true; the input reads as it did. -/
def windowLivesUptoRow : OpenClaim := { program := "ytgllljocmpbooaa", sum := "49b6b2361c459cc40bf8c910647eb3941bc4808b7f2036dbd7a60a396fde4684", func := "churn/churnlaw16.WindowLives", spec := "windowLives", inPlace := ["internal/bytealg.Compare"], unfollowed := true, recurses := true, plainKeys := false, apart := false, narrowed := true }
def WindowLivesUptoSaid : Prop := windowLivesUptoRow.holds Try.pinned (OpenSpec.upto windowLivesSpec)

/-- 'churnlaw16.WindowHolds', WHERE WHAT IT READS IS OF BULK AT MOST 1048576: true; the input reads as it did. -/
def windowHoldsUptoRow : OpenClaim := { program := "ytgllljocmpbooaa", sum := "49b6b2361c459cc40bf8c910647eb3941bc4808b7f2036dbd7a60a396fde4684", func := "churn/churnlaw16.WindowHolds", spec := "windowHolds", inPlace := ["internal/bytealg.Compare"], unfollowed := true, recurses := true, plainKeys := false, apart := false, narrowed := true }
def WindowHoldsUptoSaid : Prop := windowHoldsUptoRow.holds Try.pinned (OpenSpec.upto windowHoldsSpec)

/-- 'churnlaw16.WindowPieces', WHERE WHAT IT READS IS OF BULK AT MOST 1048576: true; the input reads as it did. -/
def windowPiecesUptoRow : OpenClaim := { program := "ytgllljocmpbooaa", sum := "49b6b2361c459cc40bf8c910647eb3941bc4808b7f2036dbd7a60a396fde4684", func := "churn/churnlaw16.WindowPieces", spec := "windowPieces", inPlace := ["internal/bytealg.Compare"], unfollowed := true, recurses := true, plainKeys := false, apart := false, narrowed := true }
def WindowPiecesUptoSaid : Prop := windowPiecesUptoRow.holds Try.pinned (OpenSpec.upto windowPiecesSpec)

/-- 'churnlaw16.WindowKeeps', WHERE WHAT IT READS IS OF BULK AT MOST 1048576: true; the input reads as it did. -/
def windowKeepsUptoRow : OpenClaim := { program := "ytgllljocmpbooaa", sum := "49b6b2361c459cc40bf8c910647eb3941bc4808b7f2036dbd7a60a396fde4684", func := "churn/churnlaw16.WindowKeeps", spec := "windowKeeps", inPlace := ["internal/bytealg.Compare"], unfollowed := true, recurses := true, plainKeys := false, apart := false, narrowed := true }
def WindowKeepsUptoSaid : Prop := windowKeepsUptoRow.holds Try.pinned (OpenSpec.upto windowKeepsSpec)

end Rows
end Go.Proofs.Ytgllljocmpbooaa

/-
  NARROWER THAN 'FOR EVERY INPUT', by the rows' own cells (each row's printed sentence says how): RoundMixes: laid · RoundAlike: laid · RoundOrder: laid · RoundTrace: laid · RoundOnce: laid · RoundKeeps: laid · BackForwards: laid · BackChecks: laid · BackReturns: laid · BackMemory: laid · BackPlaces: laid · BackOthers: laid.
  DERIVED. THE GIVEN ROWS OF THIS SEAT. 12 by the template 'for every input the law returns true; each argument reads behind the call as it read before'; 0 by the template 'total and deterministic' (their statements: YtobbmodjdkcdcaaGreatDoorTotals.lean).
  GIVEN WITH THE SEED: the statements are not yours to turn. If you find one false, say at which input.
  Laid BY PROGRAM, IN A SANDBOX (cutbox-rows.mjs): the forced cells as the released guide's own fill.sh prints them over the translation b63dbc5ce90819c9… (all of the seat's roots in one cut). By AI agents, Wed Nov 11 2026. No macro, syntax, notation, axiom, sorry.
-/
import Derived.Test.YtobbmodjdkcdcaaGreatDoorChecked
import GoSem.Claim
import GoSem.ClaimJoined
import GoSem.ClaimMapViews
import Derived.JoinedTies
import Derived.KernelRfl
namespace Go.Proofs.YtobbmodjdkcdcaaGreatDoor
/- THE CELL 'sum', in the pinned program and in every row, IS THE sha256 OF THE DUMP (.gsa) THAT YtobbmodjdkcdcaaGreatDoorProg.lean LOADS. Nothing in Lean hashes anything: it is a label: what it is worth is what the hold of that sum in a sandbox is worth. -/
noncomputable def Tryz.pinned : Pinned := { name := "ytobbmodjdkcdcaagreatdoor", sum := "b63dbc5ce90819c9a41b7275ac4aac525feefcd115b5d6169966735288528030", checked := Tryz.checked }
namespace Rows
def none {H : Type} : Left H := { results := [], args := [] }

/- WHAT THE LISTED PACKAGE-LEVEL VARIABLES READ AS WHEN THE CALL BEGINS. Each datum BY PROGRAM (the guide's laid-datum.mjs) off the statement by which the dump's own 'gosem.cut.vars' lays the variable. In a bare row this is a premise. The card (YtobbmodjdkcdcaaGreatDoorCards.lean) ties it to the program's text. -/
def laid_churn_hash_roots {H : Type} : DataW H := .agg [.lit (.int .u32 1116352408), .lit (.int .u32 1899447441), .lit (.int .u32 3049323471), .lit (.int .u32 3921009573), .lit (.int .u32 961987163), .lit (.int .u32 1508970993), .lit (.int .u32 2453635748), .lit (.int .u32 2870763221), .lit (.int .u32 3624381080), .lit (.int .u32 310598401), .lit (.int .u32 607225278), .lit (.int .u32 1426881987), .lit (.int .u32 1925078388), .lit (.int .u32 2162078206), .lit (.int .u32 2614888103), .lit (.int .u32 3248222580), .lit (.int .u32 3835390401), .lit (.int .u32 4022224774), .lit (.int .u32 264347078), .lit (.int .u32 604807628), .lit (.int .u32 770255983), .lit (.int .u32 1249150122), .lit (.int .u32 1555081692), .lit (.int .u32 1996064986), .lit (.int .u32 2554220882), .lit (.int .u32 2821834349), .lit (.int .u32 2952996808), .lit (.int .u32 3210313671), .lit (.int .u32 3336571891), .lit (.int .u32 3584528711), .lit (.int .u32 113926993), .lit (.int .u32 338241895), .lit (.int .u32 666307205), .lit (.int .u32 773529912), .lit (.int .u32 1294757372), .lit (.int .u32 1396182291), .lit (.int .u32 1695183700), .lit (.int .u32 1986661051), .lit (.int .u32 2177026350), .lit (.int .u32 2456956037), .lit (.int .u32 2730485921), .lit (.int .u32 2820302411), .lit (.int .u32 3259730800), .lit (.int .u32 3345764771), .lit (.int .u32 3516065817), .lit (.int .u32 3600352804), .lit (.int .u32 4094571909), .lit (.int .u32 275423344), .lit (.int .u32 430227734), .lit (.int .u32 506948616), .lit (.int .u32 659060556), .lit (.int .u32 883997877), .lit (.int .u32 958139571), .lit (.int .u32 1322822218), .lit (.int .u32 1537002063), .lit (.int .u32 1747873779), .lit (.int .u32 1955562222), .lit (.int .u32 2024104815), .lit (.int .u32 2227730452), .lit (.int .u32 2361852424), .lit (.int .u32 2428436474), .lit (.int .u32 2756734187), .lit (.int .u32 3204031479), .lit (.int .u32 3329325298)]

/-- 'churnlaw21.RoundMixes': WHATEVER THE INPUT: true; the input reads as it did. -/
def roundMixesSpec : ChangeSpec := { name := "roundMixes", fn := fun _ => fun
  | [d] => { results := [.lit (.bool true)], args := [d] }
  | _ => none }
def roundMixesRow : OpenClaim := { program := "ytobbmodjdkcdcaagreatdoor", sum := "b63dbc5ce90819c9a41b7275ac4aac525feefcd115b5d6169966735288528030", func := "churn/churnlaw21.RoundMixes", spec := "roundMixes", inPlace := ["internal/bytealg.Compare"], unfollowed := true, recurses := true, named := ["churn/hash.roots"], plainKeys := false, apart := false, laid := [("churn/hash.roots", laid_churn_hash_roots)] }
def RoundMixesSaid : Prop := roundMixesRow.holds Tryz.pinned (OpenSpec.ofChange roundMixesSpec)

/-- ITS FALSE NEIGHBOUR: 'it returns false'. Refute it at one input. -/
def roundMixesWrong : ChangeSpec := { name := "roundMixes", fn := fun _ => fun
  | [d] => { results := [.lit (.bool false)], args := [d] }
  | _ => none }
def RoundMixesWrongFalsely : Prop := roundMixesRow.holds Tryz.pinned (OpenSpec.ofChange roundMixesWrong)

/-- 'churnlaw21.RoundAlike': WHATEVER THE INPUT: true; the input reads as it did. -/
def roundAlikeSpec : ChangeSpec := { name := "roundAlike", fn := fun _ => fun
  | [d] => { results := [.lit (.bool true)], args := [d] }
  | _ => none }
def roundAlikeRow : OpenClaim := { program := "ytobbmodjdkcdcaagreatdoor", sum := "b63dbc5ce90819c9a41b7275ac4aac525feefcd115b5d6169966735288528030", func := "churn/churnlaw21.RoundAlike", spec := "roundAlike", inPlace := ["internal/bytealg.Compare"], unfollowed := true, recurses := true, named := ["churn/hash.roots"], plainKeys := false, apart := false, laid := [("churn/hash.roots", laid_churn_hash_roots)] }
def RoundAlikeSaid : Prop := roundAlikeRow.holds Tryz.pinned (OpenSpec.ofChange roundAlikeSpec)

/-- ITS FALSE NEIGHBOUR: 'it returns false'. Refute it at one input. -/
def roundAlikeWrong : ChangeSpec := { name := "roundAlike", fn := fun _ => fun
  | [d] => { results := [.lit (.bool false)], args := [d] }
  | _ => none }
def RoundAlikeWrongFalsely : Prop := roundAlikeRow.holds Tryz.pinned (OpenSpec.ofChange roundAlikeWrong)

/-- 'churnlaw21.RoundOrder': WHATEVER THE INPUT: true; the input reads as it did. -/
def roundOrderSpec : ChangeSpec := { name := "roundOrder", fn := fun _ => fun
  | [d] => { results := [.lit (.bool true)], args := [d] }
  | _ => none }
def roundOrderRow : OpenClaim := { program := "ytobbmodjdkcdcaagreatdoor", sum := "b63dbc5ce90819c9a41b7275ac4aac525feefcd115b5d6169966735288528030", func := "churn/churnlaw21.RoundOrder", spec := "roundOrder", inPlace := ["internal/bytealg.Compare"], unfollowed := true, recurses := true, named := ["churn/hash.roots"], plainKeys := false, apart := false, laid := [("churn/hash.roots", laid_churn_hash_roots)] }
def RoundOrderSaid : Prop := roundOrderRow.holds Tryz.pinned (OpenSpec.ofChange roundOrderSpec)

/-- ITS FALSE NEIGHBOUR: 'it returns false'. Refute it at one input. -/
def roundOrderWrong : ChangeSpec := { name := "roundOrder", fn := fun _ => fun
  | [d] => { results := [.lit (.bool false)], args := [d] }
  | _ => none }
def RoundOrderWrongFalsely : Prop := roundOrderRow.holds Tryz.pinned (OpenSpec.ofChange roundOrderWrong)

/-- 'churnlaw21.RoundTrace': WHATEVER THE INPUT: true; the input reads as it did. -/
def roundTraceSpec : ChangeSpec := { name := "roundTrace", fn := fun _ => fun
  | [d1, d2, d3] => { results := [.lit (.bool true)], args := [d1, d2, d3] }
  | _ => none }
def roundTraceRow : OpenClaim := { program := "ytobbmodjdkcdcaagreatdoor", sum := "b63dbc5ce90819c9a41b7275ac4aac525feefcd115b5d6169966735288528030", func := "churn/churnlaw21.RoundTrace", spec := "roundTrace", inPlace := ["internal/bytealg.Compare"], unfollowed := true, recurses := true, named := ["churn/hash.roots"], plainKeys := false, apart := false, laid := [("churn/hash.roots", laid_churn_hash_roots)] }
def RoundTraceSaid : Prop := roundTraceRow.holds Tryz.pinned (OpenSpec.ofChange roundTraceSpec)

/-- ITS FALSE NEIGHBOUR: 'it returns false'. Refute it at one input. -/
def roundTraceWrong : ChangeSpec := { name := "roundTrace", fn := fun _ => fun
  | [d1, d2, d3] => { results := [.lit (.bool false)], args := [d1, d2, d3] }
  | _ => none }
def RoundTraceWrongFalsely : Prop := roundTraceRow.holds Tryz.pinned (OpenSpec.ofChange roundTraceWrong)

/-- 'churnlaw21.RoundOnce': WHATEVER THE INPUT: true; the input reads as it did. -/
def roundOnceSpec : ChangeSpec := { name := "roundOnce", fn := fun _ => fun
  | [d1, d2, d3] => { results := [.lit (.bool true)], args := [d1, d2, d3] }
  | _ => none }
def roundOnceRow : OpenClaim := { program := "ytobbmodjdkcdcaagreatdoor", sum := "b63dbc5ce90819c9a41b7275ac4aac525feefcd115b5d6169966735288528030", func := "churn/churnlaw21.RoundOnce", spec := "roundOnce", inPlace := ["internal/bytealg.Compare"], unfollowed := true, recurses := true, named := ["churn/hash.roots"], plainKeys := false, apart := false, laid := [("churn/hash.roots", laid_churn_hash_roots)] }
def RoundOnceSaid : Prop := roundOnceRow.holds Tryz.pinned (OpenSpec.ofChange roundOnceSpec)

/-- ITS FALSE NEIGHBOUR: 'it returns false'. Refute it at one input. -/
def roundOnceWrong : ChangeSpec := { name := "roundOnce", fn := fun _ => fun
  | [d1, d2, d3] => { results := [.lit (.bool false)], args := [d1, d2, d3] }
  | _ => none }
def RoundOnceWrongFalsely : Prop := roundOnceRow.holds Tryz.pinned (OpenSpec.ofChange roundOnceWrong)

/-- 'churnlaw21.RoundKeeps': WHATEVER THE INPUT: true; the input reads as it did. -/
def roundKeepsSpec : ChangeSpec := { name := "roundKeeps", fn := fun _ => fun
  | [d] => { results := [.lit (.bool true)], args := [d] }
  | _ => none }
def roundKeepsRow : OpenClaim := { program := "ytobbmodjdkcdcaagreatdoor", sum := "b63dbc5ce90819c9a41b7275ac4aac525feefcd115b5d6169966735288528030", func := "churn/churnlaw21.RoundKeeps", spec := "roundKeeps", inPlace := ["internal/bytealg.Compare"], unfollowed := true, recurses := true, named := ["churn/hash.roots"], plainKeys := false, apart := false, laid := [("churn/hash.roots", laid_churn_hash_roots)] }
def RoundKeepsSaid : Prop := roundKeepsRow.holds Tryz.pinned (OpenSpec.ofChange roundKeepsSpec)

/-- ITS FALSE NEIGHBOUR: 'it returns false'. Refute it at one input. -/
def roundKeepsWrong : ChangeSpec := { name := "roundKeeps", fn := fun _ => fun
  | [d] => { results := [.lit (.bool false)], args := [d] }
  | _ => none }
def RoundKeepsWrongFalsely : Prop := roundKeepsRow.holds Tryz.pinned (OpenSpec.ofChange roundKeepsWrong)

/-- 'churnlaw29.BackForwards': WHATEVER THE INPUT: true; the input reads as it did. -/
def backForwardsSpec : ChangeSpec := { name := "backForwards", fn := fun _ => fun
  | [d] => { results := [.lit (.bool true)], args := [d] }
  | _ => none }
def backForwardsRow : OpenClaim := { program := "ytobbmodjdkcdcaagreatdoor", sum := "b63dbc5ce90819c9a41b7275ac4aac525feefcd115b5d6169966735288528030", func := "churn/churnlaw29.BackForwards", spec := "backForwards", inPlace := ["internal/bytealg.Compare"], unfollowed := true, recurses := true, named := ["churn/hash.roots"], plainKeys := false, apart := false, laid := [("churn/hash.roots", laid_churn_hash_roots)] }
def BackForwardsSaid : Prop := backForwardsRow.holds Tryz.pinned (OpenSpec.ofChange backForwardsSpec)

/-- ITS FALSE NEIGHBOUR: 'it returns false'. Refute it at one input. -/
def backForwardsWrong : ChangeSpec := { name := "backForwards", fn := fun _ => fun
  | [d] => { results := [.lit (.bool false)], args := [d] }
  | _ => none }
def BackForwardsWrongFalsely : Prop := backForwardsRow.holds Tryz.pinned (OpenSpec.ofChange backForwardsWrong)

/-- 'churnlaw29.BackChecks': WHATEVER THE INPUT: true; the input reads as it did. -/
def backChecksSpec : ChangeSpec := { name := "backChecks", fn := fun _ => fun
  | [d] => { results := [.lit (.bool true)], args := [d] }
  | _ => none }
def backChecksRow : OpenClaim := { program := "ytobbmodjdkcdcaagreatdoor", sum := "b63dbc5ce90819c9a41b7275ac4aac525feefcd115b5d6169966735288528030", func := "churn/churnlaw29.BackChecks", spec := "backChecks", inPlace := ["internal/bytealg.Compare"], unfollowed := true, recurses := true, named := ["churn/hash.roots"], plainKeys := false, apart := false, laid := [("churn/hash.roots", laid_churn_hash_roots)] }
def BackChecksSaid : Prop := backChecksRow.holds Tryz.pinned (OpenSpec.ofChange backChecksSpec)

/-- ITS FALSE NEIGHBOUR: 'it returns false'. Refute it at one input. -/
def backChecksWrong : ChangeSpec := { name := "backChecks", fn := fun _ => fun
  | [d] => { results := [.lit (.bool false)], args := [d] }
  | _ => none }
def BackChecksWrongFalsely : Prop := backChecksRow.holds Tryz.pinned (OpenSpec.ofChange backChecksWrong)

/-- 'churnlaw29.BackReturns': WHATEVER THE INPUT: true; the input reads as it did. -/
def backReturnsSpec : ChangeSpec := { name := "backReturns", fn := fun _ => fun
  | [d] => { results := [.lit (.bool true)], args := [d] }
  | _ => none }
def backReturnsRow : OpenClaim := { program := "ytobbmodjdkcdcaagreatdoor", sum := "b63dbc5ce90819c9a41b7275ac4aac525feefcd115b5d6169966735288528030", func := "churn/churnlaw29.BackReturns", spec := "backReturns", inPlace := ["internal/bytealg.Compare"], unfollowed := true, recurses := true, named := ["churn/hash.roots"], plainKeys := false, apart := false, laid := [("churn/hash.roots", laid_churn_hash_roots)] }
def BackReturnsSaid : Prop := backReturnsRow.holds Tryz.pinned (OpenSpec.ofChange backReturnsSpec)

/-- ITS FALSE NEIGHBOUR: 'it returns false'. Refute it at one input. -/
def backReturnsWrong : ChangeSpec := { name := "backReturns", fn := fun _ => fun
  | [d] => { results := [.lit (.bool false)], args := [d] }
  | _ => none }
def BackReturnsWrongFalsely : Prop := backReturnsRow.holds Tryz.pinned (OpenSpec.ofChange backReturnsWrong)

/-- 'churnlaw29.BackMemory': WHATEVER THE INPUT: true; the input reads as it did. -/
def backMemorySpec : ChangeSpec := { name := "backMemory", fn := fun _ => fun
  | [d] => { results := [.lit (.bool true)], args := [d] }
  | _ => none }
def backMemoryRow : OpenClaim := { program := "ytobbmodjdkcdcaagreatdoor", sum := "b63dbc5ce90819c9a41b7275ac4aac525feefcd115b5d6169966735288528030", func := "churn/churnlaw29.BackMemory", spec := "backMemory", inPlace := ["internal/bytealg.Compare"], unfollowed := true, recurses := true, named := ["churn/hash.roots"], plainKeys := false, apart := false, laid := [("churn/hash.roots", laid_churn_hash_roots)] }
def BackMemorySaid : Prop := backMemoryRow.holds Tryz.pinned (OpenSpec.ofChange backMemorySpec)

/-- ITS FALSE NEIGHBOUR: 'it returns false'. Refute it at one input. -/
def backMemoryWrong : ChangeSpec := { name := "backMemory", fn := fun _ => fun
  | [d] => { results := [.lit (.bool false)], args := [d] }
  | _ => none }
def BackMemoryWrongFalsely : Prop := backMemoryRow.holds Tryz.pinned (OpenSpec.ofChange backMemoryWrong)

/-- 'churnlaw29.BackPlaces': WHATEVER THE INPUT: true; the input reads as it did. -/
def backPlacesSpec : ChangeSpec := { name := "backPlaces", fn := fun _ => fun
  | [d] => { results := [.lit (.bool true)], args := [d] }
  | _ => none }
def backPlacesRow : OpenClaim := { program := "ytobbmodjdkcdcaagreatdoor", sum := "b63dbc5ce90819c9a41b7275ac4aac525feefcd115b5d6169966735288528030", func := "churn/churnlaw29.BackPlaces", spec := "backPlaces", inPlace := ["internal/bytealg.Compare"], unfollowed := true, recurses := true, named := ["churn/hash.roots"], plainKeys := false, apart := false, laid := [("churn/hash.roots", laid_churn_hash_roots)] }
def BackPlacesSaid : Prop := backPlacesRow.holds Tryz.pinned (OpenSpec.ofChange backPlacesSpec)

/-- ITS FALSE NEIGHBOUR: 'it returns false'. Refute it at one input. -/
def backPlacesWrong : ChangeSpec := { name := "backPlaces", fn := fun _ => fun
  | [d] => { results := [.lit (.bool false)], args := [d] }
  | _ => none }
def BackPlacesWrongFalsely : Prop := backPlacesRow.holds Tryz.pinned (OpenSpec.ofChange backPlacesWrong)

/-- 'churnlaw29.BackOthers': WHATEVER THE INPUT: true; the input reads as it did. -/
def backOthersSpec : ChangeSpec := { name := "backOthers", fn := fun _ => fun
  | [d1, d2] => { results := [.lit (.bool true)], args := [d1, d2] }
  | _ => none }
def backOthersRow : OpenClaim := { program := "ytobbmodjdkcdcaagreatdoor", sum := "b63dbc5ce90819c9a41b7275ac4aac525feefcd115b5d6169966735288528030", func := "churn/churnlaw29.BackOthers", spec := "backOthers", inPlace := ["internal/bytealg.Compare"], unfollowed := true, recurses := true, named := ["churn/hash.roots"], plainKeys := false, apart := false, laid := [("churn/hash.roots", laid_churn_hash_roots)] }
def BackOthersSaid : Prop := backOthersRow.holds Tryz.pinned (OpenSpec.ofChange backOthersSpec)

/-- ITS FALSE NEIGHBOUR: 'it returns false'. Refute it at one input. -/
def backOthersWrong : ChangeSpec := { name := "backOthers", fn := fun _ => fun
  | [d1, d2] => { results := [.lit (.bool false)], args := [d1, d2] }
  | _ => none }
def BackOthersWrongFalsely : Prop := backOthersRow.holds Tryz.pinned (OpenSpec.ofChange backOthersWrong)

/- THE SECOND FORM. 'bulk': how many values and letters a reading holds, each counted each time it is reached (what is shared counts as often as it is met; a slice's spare places count too). A statement '..UptoSaid' is the law's where the arguments, and the package variables that the reading takes, are together of bulk at most 1048576: NARROWER than '..Said'. Prove '..Said' where nothing that the law and all that it calls make is longer than what came in: it says more and counts as full. Else prove '..UptoSaid'. A law counts once. -/
mutual
def uptoBulk {H : Type} : DataW H → Nat
  | .lit (.string bytes) => bytes.length + 1
  | .lit _ => 1
  | .nil => 1
  | .ptr d => uptoBulk d + 1
  | .slice elems spare => uptoBulkAll elems + uptoBulkAll spare + 1
  | .agg parts => uptoBulkAll parts + 1
  | .iface _ d => uptoBulk d + 1
  | .map entries => uptoBulkEntries entries + 1
  | .held _ => 1
def uptoBulkAll {H : Type} : List (DataW H) → Nat
  | [] => 0
  | d :: r => uptoBulk d + uptoBulkAll r
def uptoBulkEntries {H : Type} : List (Lit × DataW H) → Nat
  | [] => 0
  | x :: r => uptoBulkEntry x + uptoBulkEntries r
def uptoBulkEntry {H : Type} : Lit × DataW H → Nat
  | (.string bytes, d) => bytes.length + uptoBulk d + 1
  | (_, d) => uptoBulk d + 1
 end
def uptoSmall : (H : Type) → List (DataW H) → Bool := fun _ ds => decide (uptoBulkAll ds ≤ 1048576)
def OpenSpec.upto (s : _root_.Go.ChangeSpec) : _root_.Go.OpenSpec := { _root_.Go.OpenSpec.ofChange s with cond := some uptoSmall }

/-- 'churnlaw21.RoundMixes', WHERE WHAT IT READS IS OF BULK AT MOST 1048576: true; the input reads as it did. -/
def roundMixesUptoRow : OpenClaim := { program := "ytobbmodjdkcdcaagreatdoor", sum := "b63dbc5ce90819c9a41b7275ac4aac525feefcd115b5d6169966735288528030", func := "churn/churnlaw21.RoundMixes", spec := "roundMixes", inPlace := ["internal/bytealg.Compare"], unfollowed := true, recurses := true, named := ["churn/hash.roots"], plainKeys := false, apart := false, laid := [("churn/hash.roots", laid_churn_hash_roots)], narrowed := true }
def RoundMixesUptoSaid : Prop := roundMixesUptoRow.holds Tryz.pinned (OpenSpec.upto roundMixesSpec)

/-- 'churnlaw21.RoundAlike', WHERE WHAT IT READS IS OF BULK AT MOST 1048576: true; the input reads as it did. -/
def roundAlikeUptoRow : OpenClaim := { program := "ytobbmodjdkcdcaagreatdoor", sum := "b63dbc5ce90819c9a41b7275ac4aac525feefcd115b5d6169966735288528030", func := "churn/churnlaw21.RoundAlike", spec := "roundAlike", inPlace := ["internal/bytealg.Compare"], unfollowed := true, recurses := true, named := ["churn/hash.roots"], plainKeys := false, apart := false, laid := [("churn/hash.roots", laid_churn_hash_roots)], narrowed := true }
def RoundAlikeUptoSaid : Prop := roundAlikeUptoRow.holds Tryz.pinned (OpenSpec.upto roundAlikeSpec)

/-- 'churnlaw21.RoundOrder', WHERE WHAT IT READS IS OF BULK AT MOST 1048576: true; the input reads as it did. -/
def roundOrderUptoRow : OpenClaim := { program := "ytobbmodjdkcdcaagreatdoor", sum := "b63dbc5ce90819c9a41b7275ac4aac525feefcd115b5d6169966735288528030", func := "churn/churnlaw21.RoundOrder", spec := "roundOrder", inPlace := ["internal/bytealg.Compare"], unfollowed := true, recurses := true, named := ["churn/hash.roots"], plainKeys := false, apart := false, laid := [("churn/hash.roots", laid_churn_hash_roots)], narrowed := true }
def RoundOrderUptoSaid : Prop := roundOrderUptoRow.holds Tryz.pinned (OpenSpec.upto roundOrderSpec)

/-- 'churnlaw21.RoundTrace', WHERE WHAT IT READS IS OF BULK AT MOST 1048576: true; the input reads as it did. -/
def roundTraceUptoRow : OpenClaim := { program := "ytobbmodjdkcdcaagreatdoor", sum := "b63dbc5ce90819c9a41b7275ac4aac525feefcd115b5d6169966735288528030", func := "churn/churnlaw21.RoundTrace", spec := "roundTrace", inPlace := ["internal/bytealg.Compare"], unfollowed := true, recurses := true, named := ["churn/hash.roots"], plainKeys := false, apart := false, laid := [("churn/hash.roots", laid_churn_hash_roots)], narrowed := true }
def RoundTraceUptoSaid : Prop := roundTraceUptoRow.holds Tryz.pinned (OpenSpec.upto roundTraceSpec)

/-- 'churnlaw21.RoundOnce', WHERE WHAT IT READS IS OF BULK AT MOST 1048576: true; the input reads as it did. -/
def roundOnceUptoRow : OpenClaim := { program := "ytobbmodjdkcdcaagreatdoor", sum := "b63dbc5ce90819c9a41b7275ac4aac525feefcd115b5d6169966735288528030", func := "churn/churnlaw21.RoundOnce", spec := "roundOnce", inPlace := ["internal/bytealg.Compare"], unfollowed := true, recurses := true, named := ["churn/hash.roots"], plainKeys := false, apart := false, laid := [("churn/hash.roots", laid_churn_hash_roots)], narrowed := true }
def RoundOnceUptoSaid : Prop := roundOnceUptoRow.holds Tryz.pinned (OpenSpec.upto roundOnceSpec)

/-- 'churnlaw21.RoundKeeps', WHERE WHAT IT READS IS OF BULK AT MOST 1048576: true; the input reads as it did. -/
def roundKeepsUptoRow : OpenClaim := { program := "ytobbmodjdkcdcaagreatdoor", sum := "b63dbc5ce90819c9a41b7275ac4aac525feefcd115b5d6169966735288528030", func := "churn/churnlaw21.RoundKeeps", spec := "roundKeeps", inPlace := ["internal/bytealg.Compare"], unfollowed := true, recurses := true, named := ["churn/hash.roots"], plainKeys := false, apart := false, laid := [("churn/hash.roots", laid_churn_hash_roots)], narrowed := true }
def RoundKeepsUptoSaid : Prop := roundKeepsUptoRow.holds Tryz.pinned (OpenSpec.upto roundKeepsSpec)

/-- 'churnlaw29.BackForwards', WHERE WHAT IT READS IS OF BULK AT MOST 1048576: true; the input reads as it did. -/
def backForwardsUptoRow : OpenClaim := { program := "ytobbmodjdkcdcaagreatdoor", sum := "b63dbc5ce90819c9a41b7275ac4aac525feefcd115b5d6169966735288528030", func := "churn/churnlaw29.BackForwards", spec := "backForwards", inPlace := ["internal/bytealg.Compare"], unfollowed := true, recurses := true, named := ["churn/hash.roots"], plainKeys := false, apart := false, laid := [("churn/hash.roots", laid_churn_hash_roots)], narrowed := true }
def BackForwardsUptoSaid : Prop := backForwardsUptoRow.holds Tryz.pinned (OpenSpec.upto backForwardsSpec)

/-- 'churnlaw29.BackChecks', WHERE WHAT IT READS IS OF BULK AT MOST 1048576: true; the input reads as it did. -/
def backChecksUptoRow : OpenClaim := { program := "ytobbmodjdkcdcaagreatdoor", sum := "b63dbc5ce90819c9a41b7275ac4aac525feefcd115b5d6169966735288528030", func := "churn/churnlaw29.BackChecks", spec := "backChecks", inPlace := ["internal/bytealg.Compare"], unfollowed := true, recurses := true, named := ["churn/hash.roots"], plainKeys := false, apart := false, laid := [("churn/hash.roots", laid_churn_hash_roots)], narrowed := true }
def BackChecksUptoSaid : Prop := backChecksUptoRow.holds Tryz.pinned (OpenSpec.upto backChecksSpec)

/-- 'churnlaw29.BackReturns', WHERE WHAT IT READS IS OF BULK AT MOST 1048576: true; the input reads as it did. -/
def backReturnsUptoRow : OpenClaim := { program := "ytobbmodjdkcdcaagreatdoor", sum := "b63dbc5ce90819c9a41b7275ac4aac525feefcd115b5d6169966735288528030", func := "churn/churnlaw29.BackReturns", spec := "backReturns", inPlace := ["internal/bytealg.Compare"], unfollowed := true, recurses := true, named := ["churn/hash.roots"], plainKeys := false, apart := false, laid := [("churn/hash.roots", laid_churn_hash_roots)], narrowed := true }
def BackReturnsUptoSaid : Prop := backReturnsUptoRow.holds Tryz.pinned (OpenSpec.upto backReturnsSpec)

/-- 'churnlaw29.BackMemory', WHERE WHAT IT READS IS OF BULK AT MOST 1048576: true; the input reads as it did. -/
def backMemoryUptoRow : OpenClaim := { program := "ytobbmodjdkcdcaagreatdoor", sum := "b63dbc5ce90819c9a41b7275ac4aac525feefcd115b5d6169966735288528030", func := "churn/churnlaw29.BackMemory", spec := "backMemory", inPlace := ["internal/bytealg.Compare"], unfollowed := true, recurses := true, named := ["churn/hash.roots"], plainKeys := false, apart := false, laid := [("churn/hash.roots", laid_churn_hash_roots)], narrowed := true }
def BackMemoryUptoSaid : Prop := backMemoryUptoRow.holds Tryz.pinned (OpenSpec.upto backMemorySpec)

/-- 'churnlaw29.BackPlaces', WHERE WHAT IT READS IS OF BULK AT MOST 1048576: true; the input reads as it did. -/
def backPlacesUptoRow : OpenClaim := { program := "ytobbmodjdkcdcaagreatdoor", sum := "b63dbc5ce90819c9a41b7275ac4aac525feefcd115b5d6169966735288528030", func := "churn/churnlaw29.BackPlaces", spec := "backPlaces", inPlace := ["internal/bytealg.Compare"], unfollowed := true, recurses := true, named := ["churn/hash.roots"], plainKeys := false, apart := false, laid := [("churn/hash.roots", laid_churn_hash_roots)], narrowed := true }
def BackPlacesUptoSaid : Prop := backPlacesUptoRow.holds Tryz.pinned (OpenSpec.upto backPlacesSpec)

/-- 'churnlaw29.BackOthers', WHERE WHAT IT READS IS OF BULK AT MOST 1048576: true; the input reads as it did. -/
def backOthersUptoRow : OpenClaim := { program := "ytobbmodjdkcdcaagreatdoor", sum := "b63dbc5ce90819c9a41b7275ac4aac525feefcd115b5d6169966735288528030", func := "churn/churnlaw29.BackOthers", spec := "backOthers", inPlace := ["internal/bytealg.Compare"], unfollowed := true, recurses := true, named := ["churn/hash.roots"], plainKeys := false, apart := false, laid := [("churn/hash.roots", laid_churn_hash_roots)], narrowed := true }
def BackOthersUptoSaid : Prop := backOthersUptoRow.holds Tryz.pinned (OpenSpec.upto backOthersSpec)

end Rows
end Go.Proofs.YtobbmodjdkcdcaaGreatDoor

/-
  NARROWER THAN 'FOR EVERY INPUT', by the rows' own cells (each row's printed sentence says how): CascadeSubmits: laid · CascadeEntries: laid · TalkAsks: laid · TalkHears: laid.
  DERIVED. THE GIVEN ROWS OF THIS SEAT. 4 by the template 'for every input the law returns true; each argument reads behind the call as it read before'; 0 by the template 'total and deterministic' (their statements: YtdkfkpbijdimkaaGreatDoorTotals.lean).
  GIVEN WITH THE SEED: the statements are not yours to turn. If you find one false, say at which input.
  Laid BY PROGRAM, IN A SANDBOX (cutbox-rows.mjs): the forced cells as the released guide's own fill.sh prints them over the translation d36a93a24ada7e0d… (all of the seat's roots in one cut). By AI agents, Wed Nov 11 2026. No macro, syntax, notation, axiom, sorry.
-/
import Derived.Test.YtdkfkpbijdimkaaGreatDoorChecked
import GoSem.Claim
import GoSem.ClaimJoined
import GoSem.ClaimMapViews
import Derived.JoinedTies
import Derived.KernelRfl
namespace Go.Proofs.YtdkfkpbijdimkaaGreatDoor
/- THE CELL 'sum', in the pinned program and in every row, IS THE sha256 OF THE DUMP (.gsa) THAT YtdkfkpbijdimkaaGreatDoorProg.lean LOADS. Nothing in Lean hashes anything: it is a label: what it is worth is what the hold of that sum in a sandbox is worth. -/
noncomputable def Tryz.pinned : Pinned := { name := "ytdkfkpbijdimkaagreatdoor", sum := "d36a93a24ada7e0da1d6cf0bc7f2af84464a19364be37214bfc46b28a7e83eb4", checked := Tryz.checked }
namespace Rows
def none {H : Type} : Left H := { results := [], args := [] }

/- WHAT THE LISTED PACKAGE-LEVEL VARIABLES READ AS WHEN THE CALL BEGINS. Each datum BY PROGRAM (the guide's laid-datum.mjs) off the statement by which the dump's own 'gosem.cut.vars' lays the variable. In a bare row this is a premise. The card (YtdkfkpbijdimkaaGreatDoorCards.lean) ties it to the program's text. -/
def laid_churn_hash_roots {H : Type} : DataW H := .agg [.lit (.int .u32 1116352408), .lit (.int .u32 1899447441), .lit (.int .u32 3049323471), .lit (.int .u32 3921009573), .lit (.int .u32 961987163), .lit (.int .u32 1508970993), .lit (.int .u32 2453635748), .lit (.int .u32 2870763221), .lit (.int .u32 3624381080), .lit (.int .u32 310598401), .lit (.int .u32 607225278), .lit (.int .u32 1426881987), .lit (.int .u32 1925078388), .lit (.int .u32 2162078206), .lit (.int .u32 2614888103), .lit (.int .u32 3248222580), .lit (.int .u32 3835390401), .lit (.int .u32 4022224774), .lit (.int .u32 264347078), .lit (.int .u32 604807628), .lit (.int .u32 770255983), .lit (.int .u32 1249150122), .lit (.int .u32 1555081692), .lit (.int .u32 1996064986), .lit (.int .u32 2554220882), .lit (.int .u32 2821834349), .lit (.int .u32 2952996808), .lit (.int .u32 3210313671), .lit (.int .u32 3336571891), .lit (.int .u32 3584528711), .lit (.int .u32 113926993), .lit (.int .u32 338241895), .lit (.int .u32 666307205), .lit (.int .u32 773529912), .lit (.int .u32 1294757372), .lit (.int .u32 1396182291), .lit (.int .u32 1695183700), .lit (.int .u32 1986661051), .lit (.int .u32 2177026350), .lit (.int .u32 2456956037), .lit (.int .u32 2730485921), .lit (.int .u32 2820302411), .lit (.int .u32 3259730800), .lit (.int .u32 3345764771), .lit (.int .u32 3516065817), .lit (.int .u32 3600352804), .lit (.int .u32 4094571909), .lit (.int .u32 275423344), .lit (.int .u32 430227734), .lit (.int .u32 506948616), .lit (.int .u32 659060556), .lit (.int .u32 883997877), .lit (.int .u32 958139571), .lit (.int .u32 1322822218), .lit (.int .u32 1537002063), .lit (.int .u32 1747873779), .lit (.int .u32 1955562222), .lit (.int .u32 2024104815), .lit (.int .u32 2227730452), .lit (.int .u32 2361852424), .lit (.int .u32 2428436474), .lit (.int .u32 2756734187), .lit (.int .u32 3204031479), .lit (.int .u32 3329325298)]

/-- 'churnlaw25.CascadeSubmits': WHATEVER THE INPUT: true; the input reads as it did. -/
def cascadeSubmitsSpec : ChangeSpec := { name := "cascadeSubmits", fn := fun _ => fun
  | [d] => { results := [.lit (.bool true)], args := [d] }
  | _ => none }
def cascadeSubmitsRow : OpenClaim := { program := "ytdkfkpbijdimkaagreatdoor", sum := "d36a93a24ada7e0da1d6cf0bc7f2af84464a19364be37214bfc46b28a7e83eb4", func := "churn/churnlaw25.CascadeSubmits", spec := "cascadeSubmits", inPlace := ["internal/bytealg.Compare"], unfollowed := true, recurses := true, named := ["churn/hash.roots"], plainKeys := false, leaving := true, apart := false, laid := [("churn/hash.roots", laid_churn_hash_roots)] }
def CascadeSubmitsSaid : Prop := cascadeSubmitsRow.holds Tryz.pinned (OpenSpec.ofChange cascadeSubmitsSpec)

/-- ITS FALSE NEIGHBOUR: 'it returns false'. Refute it at one input. -/
def cascadeSubmitsWrong : ChangeSpec := { name := "cascadeSubmits", fn := fun _ => fun
  | [d] => { results := [.lit (.bool false)], args := [d] }
  | _ => none }
def CascadeSubmitsWrongFalsely : Prop := cascadeSubmitsRow.holds Tryz.pinned (OpenSpec.ofChange cascadeSubmitsWrong)

/-- 'churnlaw25.CascadeEntries': WHATEVER THE INPUT: true; the input reads as it did. -/
def cascadeEntriesSpec : ChangeSpec := { name := "cascadeEntries", fn := fun _ => fun
  | [d1, d2, d3] => { results := [.lit (.bool true)], args := [d1, d2, d3] }
  | _ => none }
def cascadeEntriesRow : OpenClaim := { program := "ytdkfkpbijdimkaagreatdoor", sum := "d36a93a24ada7e0da1d6cf0bc7f2af84464a19364be37214bfc46b28a7e83eb4", func := "churn/churnlaw25.CascadeEntries", spec := "cascadeEntries", inPlace := ["internal/bytealg.Compare"], unfollowed := true, recurses := true, named := ["churn/hash.roots"], plainKeys := false, leaving := true, apart := false, laid := [("churn/hash.roots", laid_churn_hash_roots)] }
def CascadeEntriesSaid : Prop := cascadeEntriesRow.holds Tryz.pinned (OpenSpec.ofChange cascadeEntriesSpec)

/-- ITS FALSE NEIGHBOUR: 'it returns false'. Refute it at one input. -/
def cascadeEntriesWrong : ChangeSpec := { name := "cascadeEntries", fn := fun _ => fun
  | [d1, d2, d3] => { results := [.lit (.bool false)], args := [d1, d2, d3] }
  | _ => none }
def CascadeEntriesWrongFalsely : Prop := cascadeEntriesRow.holds Tryz.pinned (OpenSpec.ofChange cascadeEntriesWrong)

/-- 'churnlaw30.TalkAsks': WHATEVER THE INPUT: true; the input reads as it did. -/
def talkAsksSpec : ChangeSpec := { name := "talkAsks", fn := fun _ => fun
  | [d] => { results := [.lit (.bool true)], args := [d] }
  | _ => none }
def talkAsksRow : OpenClaim := { program := "ytdkfkpbijdimkaagreatdoor", sum := "d36a93a24ada7e0da1d6cf0bc7f2af84464a19364be37214bfc46b28a7e83eb4", func := "churn/churnlaw30.TalkAsks", spec := "talkAsks", inPlace := ["internal/bytealg.Compare"], unfollowed := true, recurses := true, named := ["churn/hash.roots"], plainKeys := false, leaving := true, apart := false, laid := [("churn/hash.roots", laid_churn_hash_roots)] }
def TalkAsksSaid : Prop := talkAsksRow.holds Tryz.pinned (OpenSpec.ofChange talkAsksSpec)

/-- ITS FALSE NEIGHBOUR: 'it returns false'. Refute it at one input. -/
def talkAsksWrong : ChangeSpec := { name := "talkAsks", fn := fun _ => fun
  | [d] => { results := [.lit (.bool false)], args := [d] }
  | _ => none }
def TalkAsksWrongFalsely : Prop := talkAsksRow.holds Tryz.pinned (OpenSpec.ofChange talkAsksWrong)

/-- 'churnlaw30.TalkHears': WHATEVER THE INPUT: true; the input reads as it did. -/
def talkHearsSpec : ChangeSpec := { name := "talkHears", fn := fun _ => fun
  | [d1, d2] => { results := [.lit (.bool true)], args := [d1, d2] }
  | _ => none }
def talkHearsRow : OpenClaim := { program := "ytdkfkpbijdimkaagreatdoor", sum := "d36a93a24ada7e0da1d6cf0bc7f2af84464a19364be37214bfc46b28a7e83eb4", func := "churn/churnlaw30.TalkHears", spec := "talkHears", inPlace := ["internal/bytealg.Compare"], unfollowed := true, recurses := true, named := ["churn/hash.roots"], plainKeys := false, leaving := true, apart := false, laid := [("churn/hash.roots", laid_churn_hash_roots)] }
def TalkHearsSaid : Prop := talkHearsRow.holds Tryz.pinned (OpenSpec.ofChange talkHearsSpec)

/-- ITS FALSE NEIGHBOUR: 'it returns false'. Refute it at one input. -/
def talkHearsWrong : ChangeSpec := { name := "talkHears", fn := fun _ => fun
  | [d1, d2] => { results := [.lit (.bool false)], args := [d1, d2] }
  | _ => none }
def TalkHearsWrongFalsely : Prop := talkHearsRow.holds Tryz.pinned (OpenSpec.ofChange talkHearsWrong)

/- THE SECOND FORM. 'bulk': how many values and letters a reading holds, each counted each time it is reached (what is shared counts as often as it is met; a slice's spare places count too). A statement '..UptoSaid' is the law's where the arguments, and the package variables that the reading takes, are together of bulk at most 1048576: NARROWER than '..Said'. Prove '..Said' where nothing that the law and all that it calls make is longer than what came in: it says more and counts as full. Else prove '..UptoSaid'. A law counts once. -/
mutual
def uptoBulk {H : Type} : DataW H → Nat
  | .lit (.string bytes) => bytes.length + 1
  | .lit _ => 1
  | .nil => 1
  | .ptr d => uptoBulk d + 1
  | .slice elems spare => uptoBulkAll elems + uptoBulkAll spare + 1
  | .agg parts => uptoBulkAll parts + 1
  | .iface _ d => uptoBulk d + 1
  | .map entries => uptoBulkEntries entries + 1
  | .held _ => 1
def uptoBulkAll {H : Type} : List (DataW H) → Nat
  | [] => 0
  | d :: r => uptoBulk d + uptoBulkAll r
def uptoBulkEntries {H : Type} : List (Lit × DataW H) → Nat
  | [] => 0
  | x :: r => uptoBulkEntry x + uptoBulkEntries r
def uptoBulkEntry {H : Type} : Lit × DataW H → Nat
  | (.string bytes, d) => bytes.length + uptoBulk d + 1
  | (_, d) => uptoBulk d + 1
 end
def uptoSmall : (H : Type) → List (DataW H) → Bool := fun _ ds => decide (uptoBulkAll ds ≤ 1048576)
def OpenSpec.upto (s : _root_.Go.ChangeSpec) : _root_.Go.OpenSpec := { _root_.Go.OpenSpec.ofChange s with cond := some uptoSmall }

/-- 'churnlaw25.CascadeSubmits', WHERE WHAT IT READS IS OF BULK AT MOST 1048576: true; the input reads as it did. -/
def cascadeSubmitsUptoRow : OpenClaim := { program := "ytdkfkpbijdimkaagreatdoor", sum := "d36a93a24ada7e0da1d6cf0bc7f2af84464a19364be37214bfc46b28a7e83eb4", func := "churn/churnlaw25.CascadeSubmits", spec := "cascadeSubmits", inPlace := ["internal/bytealg.Compare"], unfollowed := true, recurses := true, named := ["churn/hash.roots"], plainKeys := false, leaving := true, apart := false, laid := [("churn/hash.roots", laid_churn_hash_roots)], narrowed := true }
def CascadeSubmitsUptoSaid : Prop := cascadeSubmitsUptoRow.holds Tryz.pinned (OpenSpec.upto cascadeSubmitsSpec)

/-- 'churnlaw25.CascadeEntries', WHERE WHAT IT READS IS OF BULK AT MOST 1048576: true; the input reads as it did. -/
def cascadeEntriesUptoRow : OpenClaim := { program := "ytdkfkpbijdimkaagreatdoor", sum := "d36a93a24ada7e0da1d6cf0bc7f2af84464a19364be37214bfc46b28a7e83eb4", func := "churn/churnlaw25.CascadeEntries", spec := "cascadeEntries", inPlace := ["internal/bytealg.Compare"], unfollowed := true, recurses := true, named := ["churn/hash.roots"], plainKeys := false, leaving := true, apart := false, laid := [("churn/hash.roots", laid_churn_hash_roots)], narrowed := true }
def CascadeEntriesUptoSaid : Prop := cascadeEntriesUptoRow.holds Tryz.pinned (OpenSpec.upto cascadeEntriesSpec)

/-- 'churnlaw30.TalkAsks', WHERE WHAT IT READS IS OF BULK AT MOST 1048576: true; the input reads as it did. -/
def talkAsksUptoRow : OpenClaim := { program := "ytdkfkpbijdimkaagreatdoor", sum := "d36a93a24ada7e0da1d6cf0bc7f2af84464a19364be37214bfc46b28a7e83eb4", func := "churn/churnlaw30.TalkAsks", spec := "talkAsks", inPlace := ["internal/bytealg.Compare"], unfollowed := true, recurses := true, named := ["churn/hash.roots"], plainKeys := false, leaving := true, apart := false, laid := [("churn/hash.roots", laid_churn_hash_roots)], narrowed := true }
def TalkAsksUptoSaid : Prop := talkAsksUptoRow.holds Tryz.pinned (OpenSpec.upto talkAsksSpec)

/-- 'churnlaw30.TalkHears', WHERE WHAT IT READS IS OF BULK AT MOST 1048576: true; the input reads as it did. -/
def talkHearsUptoRow : OpenClaim := { program := "ytdkfkpbijdimkaagreatdoor", sum := "d36a93a24ada7e0da1d6cf0bc7f2af84464a19364be37214bfc46b28a7e83eb4", func := "churn/churnlaw30.TalkHears", spec := "talkHears", inPlace := ["internal/bytealg.Compare"], unfollowed := true, recurses := true, named := ["churn/hash.roots"], plainKeys := false, leaving := true, apart := false, laid := [("churn/hash.roots", laid_churn_hash_roots)], narrowed := true }
def TalkHearsUptoSaid : Prop := talkHearsUptoRow.holds Tryz.pinned (OpenSpec.upto talkHearsSpec)

end Rows
end Go.Proofs.YtdkfkpbijdimkaaGreatDoor

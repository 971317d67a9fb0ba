/- BackForwards: every Forward: what goes out, report, error, state and the memory kept for the way back are the document's. Conditions: the statement's own bound on the size of the input; nothing else. -/
import Derived.Test.YtlkjdchmeihhkaaGreatDoorLawBackF
import Derived.Test.YtlkjdchmeihhkaaGreatDoorLawAwake
import Derived.Test.YtlkjdchmeihhkaaGreatDoorBackForwardsS
namespace Go.Proofs.YtlkjdchmeihhkaaGreatDoor
open Go Go.Sim
theorem backForwardsUpto:Rows.BackForwardsUptoCardSaid:=haveI:Fu:=Fu.of 0;DBackForwards.card (A6 FS)
end Go.Proofs.YtlkjdchmeihhkaaGreatDoor

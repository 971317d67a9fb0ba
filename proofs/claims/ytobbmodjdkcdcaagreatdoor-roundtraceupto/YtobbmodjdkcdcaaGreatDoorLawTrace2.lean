/- RoundTrace: without some of the cells that are not fresh, and with a malformed one put in at a place, the same goes out and the same is kept; for every job, mask and place that the statement's bound lets in. -/
import Derived.Test.YtobbmodjdkcdcaaGreatDoorLawTrace
import Derived.Test.YtobbmodjdkcdcaaGreatDoorLawAwakeM
import Derived.Test.YtobbmodjdkcdcaaGreatDoorRoundTraceS
namespace Go.Proofs.YtobbmodjdkcdcaaGreatDoor
open Go Go.Sim
theorem roundTraceUpto:Rows.RoundTraceUptoCardSaid:=haveI:Fu:=Fu.of 0;DRoundTrace.card (CB AG)
end Go.Proofs.YtobbmodjdkcdcaaGreatDoor

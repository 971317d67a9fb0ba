/- RoundMixes: every Mix: bytes, state, report, error and place are the document's; for every job that the statement's bound lets in. -/
import Derived.Test.YtobbmodjdkcdcaaGreatDoorLawRefR
import Derived.Test.YtobbmodjdkcdcaaGreatDoorLawAwakeM
import Derived.Test.YtobbmodjdkcdcaaGreatDoorRoundMixesS
namespace Go.Proofs.YtobbmodjdkcdcaaGreatDoor
open Go Go.Sim
theorem roundMixesUpto:Rows.RoundMixesUptoCardSaid:=haveI:Fu:=Fu.of 0;DRoundMixes.card (D6 Cq)
end Go.Proofs.YtobbmodjdkcdcaaGreatDoor

/- QawOrder2: the statement of RoundOrder (the tied card) holds, for every input whose bulk is at most 1048576. -/
import Derived.Test.YtobbmodjdkcdcaaGreatDoorQawOrder
import Derived.Test.YtobbmodjdkcdcaaGreatDoorQawAwakeM
import Derived.Test.YtobbmodjdkcdcaaGreatDoorRoundOrderS
namespace Go.Proofs.YtobbmodjdkcdcaaGreatDoor
open Go Go.Sim
theorem roundOrderUpto : Rows.RoundOrderUptoCardSaid := haveI : Fu := Fu.of 0; DRoundOrder.card (fun j hg hb => Ah sF j hg hb)
end Go.Proofs.YtobbmodjdkcdcaaGreatDoor

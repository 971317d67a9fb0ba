/-  -/
import Derived.Test.YtlkjdchmeihhkaaGreatDoorLawOwn
import Derived.Test.YtlkjdchmeihhkaaGreatDoorLawAwake
import Derived.Test.YtlkjdchmeihhkaaGreatDoorBackKeepsS
namespace Go.Proofs.YtlkjdchmeihhkaaGreatDoor
open Go Go.Sim
theorem backKeepsUpto:Rows.BackKeepsUptoCardSaid:=haveI:Fu:=Fu.of 0;DBackKeeps.card (C6 D0)
end Go.Proofs.YtlkjdchmeihhkaaGreatDoor

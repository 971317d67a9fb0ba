/-  -/
import Derived.Test.YtkjlhdndbdenaaaGreatDoorLawMemC
import Derived.Test.YtkjlhdndbdenaaaGreatDoorLawAwake25
import Derived.Test.YtkjlhdndbdenaaaGreatDoorCascadeMemoryS
set_option autoImplicit true
set_option relaxedAutoImplicit true
namespace Go.Proofs.YtkjlhdndbdenaaaGreatDoor
open Go Go.Sim
theorem cascadeMemoryUpto:Rows.CascadeMemoryUptoCardSaid:=haveI:Fu:=Fu.of 0;DCascadeMemory.card (λa b c d _=>qy qm a b c d)
end Go.Proofs.YtkjlhdndbdenaaaGreatDoor

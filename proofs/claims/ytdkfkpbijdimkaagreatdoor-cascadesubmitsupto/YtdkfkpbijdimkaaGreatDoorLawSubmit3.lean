/- CascadeSubmits: every Submit's cell or error is the document's; for every input of bulk up to 1048576 (tied card: churn/hash.roots is laid by the program's text). -/
import Derived.Test.YtdkfkpbijdimkaaGreatDoorLawSubmit2
import Derived.Test.YtdkfkpbijdimkaaGreatDoorLawAwake25
import Derived.Test.YtdkfkpbijdimkaaGreatDoorCascadeSubmitsS
namespace Go.Proofs.YtdkfkpbijdimkaaGreatDoor
open Go Go.Sim
theorem cascadeSubmitsUpto:Rows.CascadeSubmitsUptoCardSaid:=haveI:Fu:=Fu.of 0;DCascadeSubmits.card (fun x0 g0 hb=>kl kT x0 g0 hb)
end Go.Proofs.YtdkfkpbijdimkaaGreatDoor

/- CascadeEntries: every Entry's bytes and every Payloads' answer are the document's; for every input of bulk up to 1048576 (tied card: churn/hash.roots is laid by the program's text). -/
import Derived.Test.YtdkfkpbijdimkaaGreatDoorLawEntries2
import Derived.Test.YtdkfkpbijdimkaaGreatDoorLawAwake25
import Derived.Test.YtdkfkpbijdimkaaGreatDoorCascadeEntriesS
namespace Go.Proofs.YtdkfkpbijdimkaaGreatDoor
open Go Go.Sim
theorem cascadeEntriesUpto:Rows.CascadeEntriesUptoCardSaid:=haveI:Fu:=Fu.of 0;DCascadeEntries.card (fun x0 x1 x2 g0 g1 g2 hb=>jM kN x0 x1 x2 g0 g1 g2 hb)
end Go.Proofs.YtdkfkpbijdimkaaGreatDoor

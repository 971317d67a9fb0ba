/- TalkAsks: every Ask's cell or error is the document's; for every input of bulk up to 1048576 (tied card: churn/hash.roots is laid by the program's text). -/
import Derived.Test.YtdkfkpbijdimkaaGreatDoorLawAsk
import Derived.Test.YtdkfkpbijdimkaaGreatDoorLawAwake30
import Derived.Test.YtdkfkpbijdimkaaGreatDoorTalkAsksS
namespace Go.Proofs.YtdkfkpbijdimkaaGreatDoor
open Go Go.Sim
theorem talkAsksUpto:Rows.TalkAsksUptoCardSaid:=haveI:Fu:=Fu.of 0;DTalkAsks.card (fun x0 g0 hb=>lV ko x0 g0 hb)
end Go.Proofs.YtdkfkpbijdimkaaGreatDoor

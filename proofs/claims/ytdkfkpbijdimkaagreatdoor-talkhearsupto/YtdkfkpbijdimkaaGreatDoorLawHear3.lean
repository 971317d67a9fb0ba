/- TalkHears: every Hear's answer, of any cell, is the document's; for every input of bulk up to 1048576 (tied card: churn/hash.roots is laid by the program's text). -/
import Derived.Test.YtdkfkpbijdimkaaGreatDoorLawHear
import Derived.Test.YtdkfkpbijdimkaaGreatDoorLawAwake30
import Derived.Test.YtdkfkpbijdimkaaGreatDoorTalkHearsS
namespace Go.Proofs.YtdkfkpbijdimkaaGreatDoor
open Go Go.Sim
theorem talkHearsUpto:Rows.TalkHearsUptoCardSaid:=haveI:Fu:=Fu.of 0;DTalkHears.card (fun x0 x1 g0 g1 hb=>l5 kT x0 x1 g0 g1 hb)
end Go.Proofs.YtdkfkpbijdimkaaGreatDoor

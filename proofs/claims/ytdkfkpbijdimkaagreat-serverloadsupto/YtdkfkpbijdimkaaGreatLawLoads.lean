/- ServerLoads: what server.Load and server.New answer is the document's; for every input of bulk up to 1048576. -/
import Derived.Test.YtdkfkpbijdimkaaGreatLawLoad
import Derived.Test.YtdkfkpbijdimkaaGreatLawAwake24
import Derived.Test.YtdkfkpbijdimkaaGreatServerLoadsS
namespace Go.Proofs.YtdkfkpbijdimkaaGreat
open Go Go.Sim
theorem serverLoadsUpto:Rows.ServerLoadsUptoSaid:=haveI:Fu:=Fu.of 0;DServerLoads.said (fun x0 x1 g0 g1 hb=>gQ gg x0 x1 g0 g1 hb)
end Go.Proofs.YtdkfkpbijdimkaaGreat

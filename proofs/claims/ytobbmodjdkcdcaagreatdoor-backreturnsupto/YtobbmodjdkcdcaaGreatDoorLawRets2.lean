/- BackReturns: every Return's bytes, place and error are the document's; for every input of bulk up to 1048576 (tied card: churn/hash.roots is laid by the program's text). -/
import Derived.Test.YtobbmodjdkcdcaaGreatDoorLawRets
import Derived.Test.YtobbmodjdkcdcaaGreatDoorLawAwake
import Derived.Test.YtobbmodjdkcdcaaGreatDoorBackReturnsS
namespace Go.Proofs.YtobbmodjdkcdcaaGreatDoor
open Go Go.Sim
theorem backReturnsUpto:Rows.BackReturnsUptoCardSaid:=haveI:Fu:=Fu.of 0;DBackReturns.card (uX yK)
end Go.Proofs.YtobbmodjdkcdcaaGreatDoor

/- BackPlaces: each answer at the place of its cell, in one layer more, noughts elsewhere; for every input of bulk up to 1048576 (tied card: churn/hash.roots is laid by the program's text). -/
import Derived.Test.YtobbmodjdkcdcaaGreatDoorLawBlaces
import Derived.Test.YtobbmodjdkcdcaaGreatDoorLawAwake
import Derived.Test.YtobbmodjdkcdcaaGreatDoorBackPlacesS
namespace Go.Proofs.YtobbmodjdkcdcaaGreatDoor
open Go Go.Sim
theorem backPlacesUpto:Rows.BackPlacesUptoCardSaid:=haveI:Fu:=Fu.of 0;DBackPlaces.card (td vV)
end Go.Proofs.YtobbmodjdkcdcaaGreatDoor

/- LawOthers2: BackOthers (back.Return: of the configuration the master key and the hops left alone have a say), for every input of bulk up to 1048576. -/
import Derived.Test.YtobbmodjdkcdcaaGreatDoorLawOthers
import Derived.Test.YtobbmodjdkcdcaaGreatDoorLawAwake
namespace Go.Proofs.YtobbmodjdkcdcaaGreatDoor
theorem backOthersUpto : Rows.BackOthersUptoCardSaid := DBackOthers.card (others_of awake_eq)
#print axioms backOthersUpto
end Go.Proofs.YtobbmodjdkcdcaaGreatDoor

/- LawAlike2: the statement of RoundAlike (the tied card) holds, for every input whose bulk is at most 1048576. -/
import Derived.Test.YtobbmodjdkcdcaaGreatDoorLawAlike
import Derived.Test.YtobbmodjdkcdcaaGreatDoorLawAwakeM
import Derived.Test.YtobbmodjdkcdcaaGreatDoorRoundAlikeS
namespace Go.Proofs.YtobbmodjdkcdcaaGreatDoor
open Go Go.Sim
theorem roundAlikeUpto : Rows.RoundAlikeUptoCardSaid := haveI : Fu := Fu.of 0; DRoundAlike.card (fun j hg hb => zP sF j hg hb)
end Go.Proofs.YtobbmodjdkcdcaaGreatDoor

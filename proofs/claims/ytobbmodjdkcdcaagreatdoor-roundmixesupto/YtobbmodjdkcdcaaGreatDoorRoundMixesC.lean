import Derived.Test.YtobbmodjdkcdcaaGreatDoorRm9
set_option linter.all false
set_option maxRecDepth 20000
namespace Go.Proofs.YtobbmodjdkcdcaaGreatDoor
open Go Go.Sim Go.ChangeShapes Go.WideShapes Go.ChangeAt Go.RowKit Go.Proofs.Tryz
variable [Fu]
namespace DRoundMixes
noncomputable abbrev pp := Tryz.pinned.checked.prog
noncomputable abbrev cc := Rows.roundMixesUptoRow
noncomputable abbrev ss := (Rows.OpenSpec.upto Rows.roundMixesSpec).bare
theorem aT {a b : Bool} (h : a = true) (k : b = true) : (a && b) = true := by rw [h, k]; rfl
theorem k0 : (cc.wf (OpenSpec.ofChange ss) && laidOutB pp && mapsRowed pp) = true := kr
theorem k1 : (cc.inPlace == pp.inPlace 3) = true := kr
theorem k2 : (cc.unfollowed == pp.unfollowed 3) = true := kr
theorem k3 : (cc.recurses == pp.recurses 3) = true := kr
theorem k4 : (cc.named == pp.varsNamed 3) = true := kr
theorem k5 : pp.stopsHeard = true := kr
theorem k6 : pp.mayEnter = true := kr
theorem k7 : (cc.lifted == pp.liftsFinal) = true := kr
theorem k8 : (pp.make == some cc.make) = true := kr
theorem closed : joinedFacts Tryz.pinned.checked.prog 3 Tryz.f3 (Rows.OpenSpec.upto Rows.roundMixesSpec).bare Rows.roundMixesUptoRow = true := by unfold joinedFacts; exact aT (aT (aT (aT (aT (aT (aT (aT (aT (aT (aT (aT (aT (aT (aT (aT (aT (aT (aT (aT (aT (aT (aT (aT (aT (aT (aT (aT (aT k0 kr) kr) kr) kr) kr) kr) k1) k2) k3) k4) kr) kr) kr) kr) kr) kr) kr) kr) kr) kr) kr) k5) k6) k7) k8) kr) kr) kr) kr
end DRoundMixes
end Go.Proofs.YtobbmodjdkcdcaaGreatDoor

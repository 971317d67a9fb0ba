/- LawChecks3: BackChecks (back.Check is the document's), for every input of bulk up to 1048576. -/
import Derived.Test.YtobbmodjdkcdcaaGreatDoorLawChecksM
import Derived.Test.YtobbmodjdkcdcaaGreatDoorLawAwake
import Derived.Test.YtobbmodjdkcdcaaGreatDoorBackChecksS
namespace Go.Proofs.YtobbmodjdkcdcaaGreatDoor
open Go Go.Sim
theorem checks_law : DBackChecks.Law := by
  intro m gm hb
  unfold f_churnlaw29_BackChecks
  rw [awake_eq]
  simp only [bindS, Bool.not_true, cond_false]
  rw [ref29_Check, back_Check]
  simp only [bindS, beq_self_eq_true]
theorem backChecksUpto : Rows.BackChecksUptoCardSaid := DBackChecks.card checks_law
#print axioms backChecksUpto
end Go.Proofs.YtobbmodjdkcdcaaGreatDoor

/- LawAdds2B: WindowAdds is true of every input (of bulk up to 1048576). -/
import Derived.Test.YtgllljocmpbooaaLawPutB
import Derived.Test.YtgllljocmpbooaaWindowAddsS
set_option linter.unusedVariables false
set_option linter.unusedSimpArgs false
namespace Go.Proofs.Ytgllljocmpbooaa
open Go Go.Sim
theorem lawAdds : DWindowAdds.Law := by
  intro o hg hb
  have g := goodJ_of hg (by omega)
  unfold f_churnlaw16_WindowAdds
  rw [alive_eq]
  simp only [Option.bind_some, Bool.not_true, cond_false]
  have hl : o.Tags.length ≤ 1048576 := by have := g.len; omega
  rw [ref16_Add g.w g.ep g.tags hl, window_Add g.w g.ep g.tags hl]
  simp only [Option.bind_some, beq_self_eq_true, cond_true]
  rw [same_self (addS_good g.w g.tags)]
  rfl
theorem windowAddsUpto : Rows.WindowAddsUptoSaid := DWindowAdds.said lawAdds
#print axioms windowAddsUpto
end Go.Proofs.Ytgllljocmpbooaa

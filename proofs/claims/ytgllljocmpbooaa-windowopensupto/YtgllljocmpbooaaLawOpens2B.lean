/- LawOpens2B: WindowOpens is true of every input (of bulk up to 1048576). -/
import Derived.Test.YtgllljocmpbooaaLawGuardB
import Derived.Test.YtgllljocmpbooaaWindowOpensS
set_option linter.unusedVariables false
set_option linter.unusedSimpArgs false
namespace Go.Proofs.Ytgllljocmpbooaa
open Go Go.Sim
theorem lawOpens : DWindowOpens.Law := by
  intro w a s hg ha hs hb
  exact opens_true (goodW_of hg (by omega)) ha
theorem windowOpensUpto : Rows.WindowOpensUptoSaid := DWindowOpens.said lawOpens
#print axioms windowOpensUpto
end Go.Proofs.Ytgllljocmpbooaa

/- LawNamesB: WindowNames, WindowOpens, WindowAdds. -/
import Derived.Test.YtgllljocmpbooaaLawAliveB
import Derived.Test.YtgllljocmpbooaaWindowNamesS
set_option linter.unusedVariables false
set_option linter.unusedSimpArgs false
namespace Go.Proofs.Ytgllljocmpbooaa
open Go Go.Sim
theorem lawNames : DWindowNames.Law := by
  unfold DWindowNames.Law f_churnlaw16_WindowNames
  simp [alive_eq]
theorem windowNamesUpto : Rows.WindowNamesUptoSaid := DWindowNames.said lawNames
#print axioms windowNamesUpto
end Go.Proofs.Ytgllljocmpbooaa

/- LawChecks2B: WindowChecks is true of every input (of bulk up to 1048576). -/
import Derived.Test.YtgllljocmpbooaaLawGuardB
import Derived.Test.YtgllljocmpbooaaWindowChecksS
set_option linter.unusedVariables false
set_option linter.unusedSimpArgs false
namespace Go.Proofs.Ytgllljocmpbooaa
open Go Go.Sim
theorem lawChecks : DWindowChecks.Law := by
  intro o hg hb
  obtain ⟨h1, h2, h3, h4, _⟩ := hg
  have hbw : b_Churnlaw16_Look o = b_Api_Window o.W + (bOne o.Span + (bOne o.Room + (bSl (bArr bOne) o.Tags + 0))) := rfl
  have l1 := tags_le h4
  have hw := goodW_of h1 (by omega)
  obtain ⟨c, hc, _⟩ := ref_check hw (s := o.Span) (r := o.Room)
  unfold f_churnlaw16_WindowChecks
  rw [alive_eq]
  simp only [Option.bind_some, Bool.not_true, cond_false]
  rw [checks_same hw, hc]
  simp only [Option.bind_some, bne_self_eq_false, cond_false]
  rw [window_Len hw, ref16_Len hw]
  simp only [Option.bind_some, bne_self_eq_false, cond_false]
  rw [Loop.run_eq0 (st := fun i => (i : Int)) (res := fun _ => (.inl () : Unit ⊕ Bool)) (n := o.Tags.length)]
  · rfl
  · intro i hi
    left
    have h1 : (i : Int) < (o.Tags.length : Int) := by omega
    refine ⟨?_, rfl⟩
    simp only [h1, decide_true, cond_true, idx_nat hi, Option.bind_some]
    rw [window_Has hw, ref16_Has hw]
    simp only [Option.bind_some, bne_self_eq_false, cond_false]
    rw [wrap64 (by omega)]; simp
  · simp
  · simp
theorem windowChecksUpto : Rows.WindowChecksUptoSaid := DWindowChecks.said lawChecks
#print axioms windowChecksUpto
end Go.Proofs.Ytgllljocmpbooaa

/- LawPutB: what Add answers is a good window. -/
import Derived.Test.YtgllljocmpbooaaLawGuardB
set_option linter.unusedVariables false
set_option linter.unusedSimpArgs false
namespace Go.Proofs.Ytgllljocmpbooaa
open Go Go.Sim
section
variable {w : Api_Window}
theorem okB_iff (hw : GoodW w) : okB w = true ↔ VW w 8 4096 := by
  have := check_iff hw (s := 8) (r := 4096)
  unfold okB; rw [this]
  exact ⟨fun h => h.2, fun h => ⟨by decide, h⟩⟩
theorem put_good (hw : GoodW w) {ep r : Int} {tags : List (List Int)} (ht : Tags tags) (h : (addS w ep tags r).2 = 0) : VW (put w ep tags) 8 r ∧ GoodW (put w ep tags) ∧ (addS w ep tags r).1 = put w ep tags := by
  obtain ⟨h1, h2, h3, h4, h5, h6⟩ := addS_ok h
  have v := put_valid ((okB_iff hw).1 h3) ht hw.tag h4 (Int.le_refl _) h5
  refine ⟨v, v.good h2 fun t htt => ?_, by rw [h6]; rfl⟩
  rcases put_tags.1 htt with k | k
  · exact hw.tag t k
  · exact ht t k
theorem addS_good (hw : GoodW w) {ep r : Int} {tags : List (List Int)} (ht : Tags tags) : GoodW (addS w ep tags r).1 := by
  by_cases h : (addS w ep tags r).2 = 0
  · obtain ⟨_, h2, h3⟩ := put_good hw ht h; rw [h3]; exact h2
  · rw [addS_err h]; exact good_nil
end
end Go.Proofs.Ytgllljocmpbooaa

/- LawOpensB: WindowOpens. -/
import Derived.Test.YtgllljocmpbooaaLawAliveB
set_option linter.unusedVariables false
set_option linter.unusedSimpArgs false
namespace Go.Proofs.Ytgllljocmpbooaa
open Go Go.Sim
theorem good_nil : GoodW ⟨0, []⟩ := ⟨⟨by decide, by decide⟩, by simp, by simp [tagsOf], by simp [lenOf, tagsOf], by simp⟩
theorem sub_flat {xs ys : List Api_Epoch} (h : List.Sublist xs ys) : List.Sublist (xs.flatMap (·.Tags)) (ys.flatMap (·.Tags)) := by
  induction h with
  | slnil => exact List.Sublist.refl _
  | cons a _ ih => rw [List.flatMap_cons]; exact ih.trans (List.sublist_append_right _ _)
  | cons_cons a _ ih => rw [List.flatMap_cons, List.flatMap_cons]; exact (List.Sublist.refl _).append ih
theorem openS_good {w : Api_Window} (hw : GoodW w) {a s : Int} (ha : gInt .i64 a) : GoodW (openS w a s).1 := by
  unfold openS
  cases (decide (s < 1) || decide (s > 8) || decide (a < 0) || decide (a > 4611686018427387904)) with
  | true => exact good_nil
  | false =>
    cases (decide (w.Newest ≥ a + s) || decide (w.Newest < a - 1024)) with
    | true => exact good_nil
    | false =>
      have h1 := i64_range hw.newest
      have h2 := i64_range ha
      have hs : List.Sublist (w.Epochs.filter (keep (max w.Newest a) s)) w.Epochs := List.filter_sublist
      have ht : List.Sublist ((w.Epochs.filter (keep (max w.Newest a) s)).flatMap (·.Tags)) (tagsOf w) := sub_flat hs
      exact ⟨show -9223372036854775808 ≤ max w.Newest a ∧ max w.Newest a ≤ 9223372036854775807 by omega, fun e he => hw.num e (hs.subset he), fun t h => hw.tag t (ht.subset h), Nat.le_trans ht.length_le hw.len, Nat.le_trans hs.length_le hw.eps⟩
theorem opens_true {w : Api_Window} (hw : GoodW w) {a s : Int} (ha : gInt .i64 a) : f_churnlaw16_WindowOpens w a s = some true := by
  unfold f_churnlaw16_WindowOpens
  rw [alive_eq]
  simp only [Option.bind_some, Bool.not_true, cond_false]
  rw [ref16_Open hw ha, window_Open hw ha]
  simp only [Option.bind_some, beq_self_eq_true, cond_true]
  rw [same_self (openS_good hw ha)]
  rfl
end Go.Proofs.Ytgllljocmpbooaa

/- LawAliveB: alive() is true. -/
import Derived.Test.YtgllljocmpbooaaLawRefAddB
set_option linter.unusedVariables false
set_option linter.unusedSimpArgs false
namespace Go.Proofs.Ytgllljocmpbooaa
open Go Go.Sim
theorem tag_eq (c : Int) : f_churnlaw16_tag c = some (List.replicate 16 c) := by
  unfold f_churnlaw16_tag
  rw [Loop.run_eq0 (st := fun i => ((i : Int), List.replicate (min i 16) c ++ List.replicate (16 - i) 0)) (res := fun _ => List.replicate 16 c) (n := 16)]
  · rfl
  · intro i hi
    left
    refine ⟨?_, rfl⟩
    match i, hi with
    | 0, _ | 1, _ | 2, _ | 3, _ | 4, _ | 5, _ | 6, _ | 7, _ | 8, _ | 9, _ | 10, _ | 11, _ | 12, _ | 13, _ | 14, _ | 15, _ => rfl
    | n + 16, h => exact absurd h (by omega)
  · rfl
  · rfl
def tg1 (c : Int) : List Int := List.replicate 16 c
def someW : Api_Window := ⟨5, [⟨4, [tg1 97, tg1 99]⟩, ⟨5, [tg1 98]⟩]⟩
theorem some_eq : f_churnlaw16_some = some someW := by
  unfold f_churnlaw16_some
  rw [tag_eq, tag_eq, tag_eq]; rfl
theorem tg1_ok {c : Int} (h : 0 ≤ c ∧ c ≤ 255) : (tg1 c).length = 16 ∧ byteL (tg1 c) := ⟨by simp [tg1], fun b hb => by simp [tg1] at hb; omega⟩
theorem someG : GoodW someW := by
  refine ⟨⟨by decide, by decide⟩, fun e he => ?_, fun t ht => ?_, by decide, by decide⟩
  · simp [someW] at he; rcases he with rfl | rfl <;> exact ⟨by decide, by decide⟩
  · simp [tagsOf, someW] at ht; rcases ht with rfl | rfl | rfl <;> exact tg1_ok (by decide)
theorem fresh1 : freshK someW [tg1 100] = [tg1 100] := by decide
theorem fresh2 : (freshK someW [tg1 100, tg1 101]).length = 2 := by decide
theorem tags1 : Tags [tg1 100] := fun t h => by simp at h; subst h; exact tg1_ok (by decide)
theorem tags2 : Tags [tg1 100, tg1 101] := fun t h => by simp at h; rcases h with rfl | rfl <;> exact tg1_ok (by decide)
theorem freshS1 : freshS someW [tg1 100] = [tg1 100] := by unfold freshS; rw [fresh1, msort_self tags1 (by simp)]
theorem okS : okB someW = true := by decide
theorem alive_eq : f_churnlaw16_alive = some true := by
  have hO : f_window_Open someW 6 2 = some (⟨6, [⟨5, [tg1 98]⟩]⟩, 0) := by rw [window_Open someG ⟨by decide, by decide⟩]; rfl
  have hA1 : f_window_Add someW 3 [tg1 100] 4 = some (⟨5, (putI someW.Epochs 3 [tg1 100]).map sortE⟩, 0) := by
    rw [window_Add someG ⟨by decide, by decide⟩ tags1 (by decide)]
    unfold addS
    rw [okS, freshS1]; rfl
  have hA2 : f_window_Add someW 5 [tg1 100, tg1 101] 4 = some (⟨0, []⟩, 160) := by
    rw [window_Add someG ⟨by decide, by decide⟩ tags2 (by decide)]
    have : (freshS someW [tg1 100, tg1 101]).length = 2 := by unfold freshS; rw [(msort_perm _).length_eq]; exact fresh2
    unfold addS
    rw [okS, this]; rfl
  have hH1 : f_window_Has someW (tg1 99) = some true := by rw [window_Has someG]; rfl
  have hH2 : f_window_Has someW (tg1 100) = some false := by rw [window_Has someG]; rfl
  have hL : f_window_Len someW = some 3 := by rw [window_Len someG]; rfl
  have hC1 : f_window_Check someW 2 2 = some 2 := by rw [window_Check someG]; rfl
  have hC2 : f_window_Check someW 2 3 = some 0 := by rw [window_Check someG]; rfl
  have hp : (putI someW.Epochs 3 [tg1 100]).map sortE = [sortE ⟨3, [tg1 100]⟩, sortE ⟨4, [tg1 97, tg1 99]⟩, sortE ⟨5, [tg1 98]⟩] := rfl
  have ht : ∀ c, f_churnlaw16_tag c = some (tg1 c) := tag_eq
  unfold f_churnlaw16_alive
  simp only [some_eq, ht, Option.bind_some, hO, hA1, hA2, hp, hH1, hH2, hL, hC1, hC2]
  rfl
end Go.Proofs.Ytgllljocmpbooaa

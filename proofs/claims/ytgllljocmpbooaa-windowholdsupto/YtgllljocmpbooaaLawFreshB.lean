/- LawFreshB: churnref16.Add: what is asked and not held. -/
import Derived.Test.YtgllljocmpbooaaLawRefB
set_option linter.unusedVariables false
set_option linter.unusedSimpArgs false
namespace Go.Proofs.Ytgllljocmpbooaa
open Go Go.Sim
section
variable {H A : List (List Int)}
theorem finger (hH : Tags H) (hA : Tags A) (hl : H.length ≤ 1048576) {i : Nat} (hi : i < A.length) : ∀ (k j : Nat), H.length - j = k → j ≤ H.length →
    ∃ j', Loop.run (S := Int) (R := Int) (fun x2491 =>
                ((bif decide (x2491 < (H.length : Int)) then
                  (idx H x2491).bind fun x2510 =>
                  (idx A (i : Int)).bind fun x2512 =>
                  (f_churnref16_less x2510 x2512).bind fun y2514 =>
                  some y2514
                else
                  some false
                  : Option Bool)).bind fun x2509 =>
                bif x2509 then
                  some (.next (IntKind.wrap .i64 (x2491 + 1)))
                else
                  some (.done x2491)) (j : Int) = some ((j' : Nat) : Int) ∧ j ≤ j' ∧ j' ≤ H.length ∧ (∀ q, j ≤ q → q < j' → ltL (H.getD q []) A[i] = true) ∧ (j' < H.length → ltL (H.getD j' []) A[i] = false)
  | 0, j, hk, hj => by
    have : j = H.length := by omega
    subst this
    refine ⟨H.length, Loop.run_done (by simp), Nat.le_refl _, Nat.le_refl _, fun q h1 h2 => by omega, fun h => by omega⟩
  | k + 1, j, hk, hj => by
    have hj' : j < H.length := by omega
    have h1 : decide ((j : Int) < (H.length : Int)) = true := by simp; omega
    have hg : H.getD j [] = H[j] := by simp [hj']
    have hless : f_churnref16_less H[j] A[i] = some (ltL H[j] A[i]) := less_eq (hH _ (List.getElem_mem hj')).1 (hA _ (List.getElem_mem hi)).1
    cases hc : ltL H[j] A[i] with
    | false =>
      refine ⟨j, Loop.run_done ?_, Nat.le_refl _, hj, fun q h1 h2 => by omega, fun _ => by rw [hg]; exact hc⟩
      simp only [h1, cond_true, idx_nat hj', idx_nat hi, Option.bind_some, hless, hc, cond_false]
    | true =>
      obtain ⟨j', r1, r2, r3, r4, r5⟩ := finger hH hA hl hi k (j + 1) (by omega) (by omega)
      refine ⟨j', ?_, by omega, r3, fun q h1 h2 => ?_, r5⟩
      · rw [Loop.run_next (s' := ((j + 1 : Nat) : Int))]
        · exact r1
        · simp only [h1, cond_true, idx_nat hj', idx_nat hi, Option.bind_some, hless, hc, wrapN (show j ≤ 4000000 by omega)]
      · by_cases hq : q = j
        · subst hq; rw [hg]; exact hc
        · exact r4 q (by omega) h2
theorem finger_mem (hHr : Rises H) {x : List Int} {j : Nat} (h1 : ∀ q, q < j → ltL (H.getD q []) x = true) (h2 : j < H.length → ltL (H.getD j []) x = false) : x ∈ H ↔ ∃ h : j < H.length, H[j] = x := by
  constructor
  · intro hm
    obtain ⟨k, hk, e⟩ := List.getElem_of_mem hm
    have hge : ¬ k < j := fun h => by
      have := h1 k h
      rw [show H.getD k [] = H[k] by simp [hk], e, ltL_irrefl] at this; cases this
    by_cases hkj : k = j
    · subst hkj; exact ⟨hk, e⟩
    · exfalso
      have hj : j < H.length := by omega
      have := h2 hj
      have h3 := List.pairwise_iff_getElem.1 hHr j k hj hk (by omega)
      rw [show H.getD j [] = H[j] by simp [hj], ← e, h3] at this; cases this
  · rintro ⟨h, rfl⟩; exact List.getElem_mem h
theorem loop_inv {S R : Type} {step : S → Option (Ctl S R)} (I : Nat → S → Prop) (n : Nat) (r : R) (hs : ∀ i s, i < n → I i s → ∃ s', step s = some (.next s') ∧ I (i + 1) s') (he : ∀ s, I n s → step s = some (.done r)) :
    ∀ k i s, n - i = k → i ≤ n → I i s → Loop.run step s = some r
  | 0, i, s, hk, hi, h => by
    have : i = n := by omega
    subst this; exact Loop.run_done (he s h)
  | k + 1, i, s, hk, hi, h => by
    obtain ⟨s', h1, h2⟩ := hs i s (by omega) h
    rw [Loop.run_next h1]; exact loop_inv I n r hs he k (i + 1) s' (by omega) (by omega) h2
theorem fresh_ref (hH : Tags H) (hA : Tags A) (hHr : Rises H) (hAr : Rises A) (hl : H.length ≤ 1048576) (hlA : A.length ≤ 1048576) :
    Loop.run (S := ((List (List Int)) × Int × Int)) (R := (List (List Int))) (fun (x2044, x2045, x2046) =>
          bif decide (x2046 < (A.length : Int)) then
            (((((Loop.run (S := Int) (R := Int) (fun x2491 =>
                ((bif decide (x2491 < (H.length : Int)) then
                  (idx H x2491).bind fun x2510 =>
                  (idx A x2046).bind fun x2512 =>
                  (f_churnref16_less x2510 x2512).bind fun y2514 =>
                  some y2514
                else
                  some false
                  : Option Bool)).bind fun x2509 =>
                bif x2509 then
                  some (.next (IntKind.wrap .i64 (x2491 + 1)))
                else
                  some (.done x2491)) x2045).bind fun x2501 =>
            some x2501
              : Option Int)).bind fun x2454 =>
            ((bif x2454 == (H.length : Int) then
              some true
            else
              (idx H x2454).bind fun x2461 =>
              (idx A x2046).bind fun x2463 =>
              some (x2461 != x2463)
              : Option Bool)).bind fun x2460 =>
            bif x2460 then
              (idx A x2046).bind fun x2465 =>
              (app x2044 [x2465]).bind fun z2467 =>
              some (z2467, x2454)
            else
              some (x2044, x2454)
              : Option ((List (List Int)) × Int))).bind fun r2404 => match r2404 with
              | (x2402, x2403) =>
                some (.next (x2402, x2403, IntKind.wrap .i64 (x2046 + 1)))
          else
            some (.done x2044)) ([], 0, 0) = some (A.filter fun y => decide (y ∉ H)) := by
  refine loop_inv (I := fun i s => ∃ j : Nat, s = ((A.take i).filter (fun y => decide (y ∉ H)), (j : Int), (i : Int)) ∧ j ≤ H.length ∧ ∀ q, q < j → ∀ p, (h : p < A.length) → i ≤ p → ltL (H.getD q []) A[p] = true) A.length _ (fun i s hi ⟨j, hs, hj, hlt⟩ => ?_) (fun s ⟨j, hs, _, _⟩ => ?_) A.length 0 _ (by omega) (by omega) ⟨0, by simp, by omega, fun q h => by omega⟩
  · subst hs
    obtain ⟨j', r1, r2, r3, r4, r5⟩ := finger hH hA hl hi _ j rfl hj
    have hall : ∀ q, q < j' → ltL (H.getD q []) A[i] = true := fun q hq => by
      by_cases h : q < j
      · exact hlt q h i hi (Nat.le_refl _)
      · exact r4 q (by omega) hq
    have hmem := finger_mem hHr hall r5
    have h1 : decide ((i : Int) < (A.length : Int)) = true := by simp; omega
    refine ⟨((A.take (i + 1)).filter (fun y => decide (y ∉ H)), (j' : Int), ((i + 1 : Nat) : Int)), ?_, j', rfl, r3, fun q hq p hp hip => ?_⟩
    · have hlen : ((A.take i).filter (fun y => decide (y ∉ H))).length ≤ i := Nat.le_trans (List.length_filter_le _ _) (by simp; omega)
      simp only [h1, cond_true]
      rw [r1]
      simp only [Option.bind_some, wrapN (show i ≤ 4000000 by omega)]
      rw [List.take_succ_eq_append_getElem hi, List.filter_append]
      by_cases hj' : j' < H.length
      · have h2 : ((j' : Int) == (H.length : Int)) = false := by simp; omega
        simp only [h2, cond_false, idx_nat hj', idx_nat hi, Option.bind_some]
        by_cases he : H[j'] = A[i]
        · have hin : A[i] ∈ H := hmem.2 ⟨hj', he⟩
          have hne : (H[j'] != A[i]) = false := by simp [he]
          simp [hne, hin]
        · have hin : A[i] ∉ H := fun h => by obtain ⟨_, e⟩ := hmem.1 h; exact he e
          have hne : (H[j'] != A[i]) = true := by simpa using he
          simp only [hne, cond_true]
          rw [app_eq (by simp only [List.length_cons, List.length_nil, room]; omega)]
          simp [hin]
      · have h2 : ((j' : Int) == (H.length : Int)) = true := by simp; omega
        have hin : A[i] ∉ H := fun h => by obtain ⟨h3, _⟩ := hmem.1 h; exact hj' h3
        simp only [h2, cond_true, idx_nat hi, Option.bind_some]
        rw [app_eq (by simp only [List.length_cons, List.length_nil, room]; omega)]
        simp [hin]
    · have h3 := hall q hq
      by_cases hpi : p = i
      · subst hpi; exact h3
      · exact ltL_trans h3 (List.pairwise_iff_getElem.1 hAr i p hi hp (by omega))
  · subst hs; simp
end
end Go.Proofs.Ytgllljocmpbooaa

/- LawOpB: window.Open and churnref16.Open, same, Has. -/
import Derived.Test.YtgllljocmpbooaaLawCheckB
set_option linter.unusedVariables false
set_option linter.unusedSimpArgs false
namespace Go.Proofs.Ytgllljocmpbooaa
open Go Go.Sim

theorem wrap_lo {x : Int} (h1 : x < -9223372036854775808) (h2 : -9223372036854785808 ≤ x) : IntKind.i64.wrap x = x + 18446744073709551616 := by
  simp [IntKind.wrap, IntKind.bits, IntKind.signed]; omega
theorem wrap_hi {x : Int} (h1 : 9223372036854775807 < x) (h2 : x ≤ 9223372036854785807) : IntKind.i64.wrap x = x - 18446744073709551616 := by
  simp [IntKind.wrap, IntKind.bits, IntKind.signed]; omega
theorem above_eq {a b d : Int} (ha : gInt .i64 a) (hb : gInt .i64 b) (hd : -2000 ≤ d ∧ d ≤ 2000) : f_window_above a b d = some (decide (a > b + d)) := by
  have ha := i64_range ha
  have hb := i64_range hb
  unfold f_window_above
  by_cases h1 : b + d < -9223372036854775808
  · rw [wrap_lo h1 (by omega)]
    have e1 : decide (d < 0) = true := by simp; omega
    have e2 : decide (b + d + 18446744073709551616 > b) = true := by simp; omega
    have e3 : decide (a > b + d) = true := by simp; omega
    simp [e1, e2, e3]
  · by_cases h2 : 9223372036854775807 < b + d
    · rw [wrap_hi h2 (by omega)]
      have e1 : decide (d < 0) = false := by simp; omega
      have e2 : decide (d > 0) = true := by simp; omega
      have e3 : decide (b + d - 18446744073709551616 < b) = true := by simp; omega
      have e4 : decide (a > b + d) = false := by simp; omega
      rw [e1, e2, e3, e4]; rfl
    · rw [wrap64 (by omega)]
      have e1 : (decide (d < 0) && decide (b + d > b)) = false := by
        cases h : decide (d < 0) <;> simp at h ⊢; omega
      have e2 : (decide (d > 0) && decide (b + d < b)) = false := by
        cases h : decide (d > 0) <;> simp at h ⊢; omega
      rw [e1, e2]; rfl
def keep (m s : Int) (e : Api_Epoch) : Bool := decide (e.Number > m - s)
def openS (w : Api_Window) (a s : Int) : Api_Window × Int :=
  bif decide (s < 1) || decide (s > 8) || decide (a < 0) || decide (a > 4611686018427387904) then (⟨0, []⟩, 2)
  else bif decide (w.Newest ≥ a + s) || decide (w.Newest < a - 1024) then (⟨0, []⟩, 161)
  else (⟨max w.Newest a, w.Epochs.filter (keep (max w.Newest a) s)⟩, 0)
section
variable {w : Api_Window}
theorem filt_len (m s : Int) (i : Nat) : ((w.Epochs.take i).filter (keep m s)).length ≤ i := Nat.le_trans (List.length_filter_le _ _) (by simp; omega)
theorem clone_eq {ts : List (List Int)} (h : ts.length ≤ 1048576) : f_slices_Clone ts = some ts := by
  simp [f_slices_Clone, app_eq (show ([] : List (List Int)).length + ts.length ≤ room by simp [room]; omega)]
theorem window_Open (hw : GoodW w) {a s : Int} (ha : gInt .i64 a) : f_window_Open w a s = some (openS w a s) := by
  have hl := hw.len
  have he := hw.eps
  have hn := i64_range hw.newest
  unfold f_window_Open openS
  cases hc : (decide (s < 1) || decide (s > 8) || decide (a < 0) || decide (a > 4611686018427387904)) with
  | true => rfl
  | false =>
    simp only [Bool.or_eq_false_iff, decide_eq_false_iff_not] at hc
    obtain ⟨⟨⟨c1, c2⟩, c3⟩, c4⟩ := hc
    simp only [cond_false]
    rw [wrap64 (x := 0 - s) (by omega), above_eq ha hw.newest (by omega), Option.bind_some]
    have hmax : gInt .i64 (max w.Newest a) := by
      show -9223372036854775808 ≤ max w.Newest a ∧ max w.Newest a ≤ 9223372036854775807
      have := i64_range ha
      omega
    cases h1 : decide (a > w.Newest + (0 - s)) with
    | false =>
      have : (decide (w.Newest ≥ a + s) || decide (w.Newest < a - 1024)) = true := by
        simp only [decide_eq_false_iff_not] at h1
        simp; omega
      rw [this]; rfl
    | true =>
      simp only [decide_eq_true_eq] at h1
      simp only [Bool.not_true, cond_false]
      rw [above_eq ha hw.newest (by omega), Option.bind_some, Option.bind_some]
      have e1 : (decide (w.Newest ≥ a + s) || decide (w.Newest < a - 1024)) = decide (a > w.Newest + 1024) := by
        have : decide (w.Newest ≥ a + s) = false := by simp; omega
        rw [this, Bool.false_or]; congr 1; exact propext ⟨fun h => by omega, fun h => by omega⟩
      rw [e1]
      cases h2 : decide (a > w.Newest + 1024) with
      | true => rfl
      | false =>
        simp only [cond_false]
        rw [Loop.run_eq0 (st := fun i => ((i : Int), (w.Epochs.take i).filter (keep (max w.Newest a) s))) (res := fun _ => (⟨max w.Newest a, w.Epochs.filter (keep (max w.Newest a) s)⟩ : Api_Window)) (n := w.Epochs.length)]
        · rfl
        · intro i hi
          left
          have h1 : (i : Int) < (w.Epochs.length : Int) := by omega
          have hf := filt_len (w := w) (max w.Newest a) s i
          have hep := ep_le hi
          refine ⟨?_, rfl⟩
          simp only [h1, decide_true, cond_true, idx_nat hi, Option.bind_some]
          rw [above_eq (hw.num _ (List.getElem_mem hi)) hmax (by omega), Option.bind_some, wrap64 (by omega)]
          have hk : decide (w.Epochs[i].Number > max w.Newest a + (0 - s)) = keep (max w.Newest a) s w.Epochs[i] := by
            unfold keep; congr 1; exact propext ⟨fun h => by omega, fun h => by omega⟩
          rw [hk, List.take_succ_eq_append_getElem hi, List.filter_append]
          cases hkk : keep (max w.Newest a) s w.Epochs[i] with
          | true =>
            rw [clone_eq (by omega)]
            simp only [cond_true, Option.bind_some]
            rw [app_eq (by simp [room]; omega)]
            simp [hkk]
          | false => simp [hkk]
        · simp
        · simp
theorem ref16_Open (hw : GoodW w) {a s : Int} (ha : gInt .i64 a) : f_churnref16_Open w a s = some (openS w a s) := by
  have hl := hw.len
  have he := hw.eps
  have hn := i64_range hw.newest
  unfold f_churnref16_Open openS
  cases hc : (decide (s < 1) || decide (s > 8) || decide (a < 0) || decide (a > 4611686018427387904)) with
  | true => rfl
  | false =>
    simp only [Bool.or_eq_false_iff, decide_eq_false_iff_not] at hc
    obtain ⟨⟨⟨c1, c2⟩, c3⟩, c4⟩ := hc
    simp only [cond_false]
    rw [wrap64 (x := a + s) (by omega), wrap64 (x := a - 1024) (by omega)]
    cases h1 : (decide (w.Newest ≥ a + s) || decide (w.Newest < a - 1024)) with
    | true => rfl
    | false =>
      simp only [Bool.or_eq_false_iff, decide_eq_false_iff_not] at h1
      simp only [cond_false]
      rw [Loop.run_eq0 (st := fun i => ((i : Int), (w.Epochs.take i).filter (keep (max w.Newest a) s))) (res := fun _ => (⟨max w.Newest a, w.Epochs.filter (keep (max w.Newest a) s)⟩ : Api_Window)) (n := w.Epochs.length)]
      · rfl
      · intro i hi
        left
        have h1 : (i : Int) < (w.Epochs.length : Int) := by omega
        have hf := filt_len (w := w) (max w.Newest a) s i
        have hep := ep_le hi
        refine ⟨?_, rfl⟩
        simp only [h1, decide_true, cond_true, idx_nat hi, Option.bind_some]
        rw [wrap64 (x := max w.Newest a - s) (by omega), wrap64 (x := (i : Int) + 1) (by omega)]
        have hk : decide (w.Epochs[i].Number > max w.Newest a - s) = keep (max w.Newest a) s w.Epochs[i] := rfl
        rw [hk, List.take_succ_eq_append_getElem hi, List.filter_append]
        cases hkk : keep (max w.Newest a) s w.Epochs[i] with
        | true =>
          simp only [cond_true]
          rw [app_eq (by simp [room]; omega), Option.bind_some, app_eq (by simp [room]; omega)]
          simp [hkk]
        | false => simp [hkk]
      · simp
      · simp
theorem same_self (hw : GoodW w) : f_churnlaw16_same w w = some true := by
  have hl := hw.len
  have he := hw.eps
  unfold f_churnlaw16_same
  simp only [bne_self_eq_false, Bool.or_self, cond_false]
  rw [Loop.run_eq0 (st := fun i => (i : Int)) (res := fun _ => (.inl () : Unit ⊕ Bool)) (n := w.Epochs.length)]
  · rfl
  · intro i hi
    left
    have h1 : (i : Int) < (w.Epochs.length : Int) := by omega
    have hep := ep_le hi
    refine ⟨?_, rfl⟩
    simp only [h1, decide_true, cond_true, idx_nat hi, Option.bind_some, bne_self_eq_false, Bool.or_self, cond_false]
    rw [Loop.run_eq0 (st := fun j => (j : Int)) (res := fun _ => (.inl () : Unit ⊕ Bool)) (n := w.Epochs[i].Tags.length)]
    · simp only [Option.bind_some]
      rw [wrap64 (by omega)]; simp
    · intro j hj
      left
      have h2 : (j : Int) < (w.Epochs[i].Tags.length : Int) := by omega
      refine ⟨?_, rfl⟩
      simp only [h2, decide_true, cond_true, idx_nat hj, Option.bind_some, bne_self_eq_false, cond_false]
      rw [wrap64 (by omega)]; simp
    · simp
    · simp
  · simp
  · simp
end
end Go.Proofs.Ytgllljocmpbooaa

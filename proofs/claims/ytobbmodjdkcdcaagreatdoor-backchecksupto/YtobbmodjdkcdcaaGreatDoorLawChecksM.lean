/- LawChecksM: back.Check and the document's Check of a memory are the same. -/
import Derived.Test.YtobbmodjdkcdcaaGreatDoorLawScan
import Derived.Test.YtobbmodjdkcdcaaGreatDoorBc5
set_option linter.unusedVariables false
set_option linter.unusedSimpArgs false
set_option maxRecDepth 20000
namespace Go.Proofs.YtobbmodjdkcdcaaGreatDoor
open Go Go.Sim
def headM (m : Api_Memory) : Bool := ((((((((((decide (m.Count < 0)) || (decide (m.Count > 256))) || (decide ((m.From.length : Int) > 256))) || ((m.Nonces.length : Int) != m.Count)) || (decide (m.Header.Left < 0))) || (decide (m.Header.Left ≥ 8))) || (decide (m.Header.Round < 0))) || (decide (m.Header.Round > 4611686018427387903))) || (decide (m.Header.Epoch < 0))) || (decide (m.Header.Epoch > 4611686018427387904)))
def okF (m : Api_Memory) (k : Nat) : Bool := m.From.getD k 0 == -1 || (decide (0 ≤ m.From.getD k 0) && decide (m.From.getD k 0 < m.Count) && !(m.From.take k).elem (m.From.getD k 0))
def checkM (m : Api_Memory) : Int := bif headM m then 290 else bif allFrom (okF m) m.From.length 0 then 0 else 290
def seenT (m : Api_Memory) (i : Nat) : List Bool := (List.range m.Count.toNat).map fun v : Nat => (m.From.take i).elem (v : Int)
theorem seenT_len (m : Api_Memory) (i : Nat) : (seenT m i).length = m.Count.toNat := by simp [seenT]
theorem elem_take_succ (l : List Int) (i : Nat) (h : i < l.length) (x : Int) : (l.take (i + 1)).elem x = ((l.take i).elem x || x == l[i]) := by
  rw [List.take_succ_eq_append_getElem h, Bool.eq_iff_iff]
  simp only [List.elem_eq_mem, decide_eq_true_eq, Bool.or_eq_true, List.mem_append, List.mem_singleton, beq_iff_eq]
theorem getD_at (l : List Int) (i : Nat) (h : i < l.length) : l.getD i 0 = l[i] := by simp [List.getD, h]
theorem seenT_same (m : Api_Memory) (i : Nat) (h : i < m.From.length) (hx : m.From[i] < 0) : seenT m (i + 1) = seenT m i := by
  unfold seenT
  apply List.map_congr_left
  intro v hv
  rw [elem_take_succ _ _ h]
  have : ((v : Int) == m.From[i]) = false := by simp; omega
  rw [this, Bool.or_false]
theorem seenT_set (m : Api_Memory) (i : Nat) (h : i < m.From.length) (hx : 0 ≤ m.From[i]) : List.set (seenT m i) (Int.toNat m.From[i]) true = seenT m (i + 1) := by
  apply List.ext_getElem
  · simp [seenT]
  · intro j h1 h2
    rw [List.getElem_set]
    simp only [seenT, List.getElem_map, List.getElem_range]
    rw [elem_take_succ _ _ h]
    split
    · rename_i e
      have : ((j : Int) == m.From[i]) = true := by simp; omega
      rw [this, Bool.or_true]
    · rename_i e
      have : ((j : Int) == m.From[i]) = false := by simp; omega
      rw [this, Bool.or_false]
theorem back_Check (m : Api_Memory) : f_back_Check m = some (checkM m) := by
  unfold f_back_Check checkM
  have hroomI : (room : Int) = 17179869184 := rfl
  have hh : headM m = (((((decide (m.Count < 0)) || (decide (m.Count > 256))) || (decide ((m.From.length : Int) > 256))) || ((m.Nonces.length : Int) != m.Count)) || ((((((decide (m.Header.Left < 0)) || (decide (m.Header.Left ≥ 8))) || (decide (m.Header.Round < 0))) || (decide (m.Header.Round > 4611686018427387903))) || (decide (m.Header.Epoch < 0))) || (decide (m.Header.Epoch > 4611686018427387904)))) := by
    unfold headM; simp only [Bool.or_assoc]
  rw [hh]
  cases c1 : (((decide (m.Count < 0)) || (decide (m.Count > 256))) || (decide ((m.From.length : Int) > 256))) || ((m.Nonces.length : Int) != m.Count) with
  | true => rfl
  | false =>
    simp only [Bool.or_eq_false_iff, decide_eq_false_iff_not, bne_eq_false_iff_eq] at c1
    obtain ⟨⟨⟨a1, a2⟩, a3⟩, a4⟩ := c1
    rw [cond_false, Bool.false_or]
    cases c2 : (((((decide (m.Header.Left < 0)) || (decide (m.Header.Left ≥ 8))) || (decide (m.Header.Round < 0))) || (decide (m.Header.Round > 4611686018427387903))) || (decide (m.Header.Epoch < 0))) || (decide (m.Header.Epoch > 4611686018427387904)) with
    | true => rfl
    | false =>
      have g : mkB m.Count m.Count = true := by unfold mkB; rw [hroomI]; simp; omega
      rw [cond_false, g, cond_true]
      rw [scan_run (fun i => (seenT m i, (i : Int))) (Sum.inl ()) (Sum.inr 290) (okF m) m.From.length ?_ ?_ ?_]
      · simp only [bindS, cond_false]
        cases allFrom (okF m) m.From.length 0 <;> rfl
      · intro i hi
        have hd : decide ((i : Int) < (m.From.length : Int)) = true := decide_eq_true (by omega)
        simp only [hd, cond_true]
        rw [idx_nat hi]
        simp only [bindS, okF]
        rw [getD_at _ _ hi, wrap64 (x := (i : Int) + 1) (by omega)]
        cases hm : (m.From[i] == -1) with
        | true =>
          have e := eq_of_beq hm
          refine ⟨fun _ => ?_, fun h => (by simp at h)⟩
          rw [seenT_same m i hi (by omega)]
          rfl
        | false =>
          have e : m.From[i] ≠ -1 := by simpa using hm
          simp only [cond_false, Bool.false_or]
          cases hb : (decide (m.From[i] < 0)) || (decide (m.From[i] ≥ m.Count)) with
          | true =>
            refine ⟨fun h => ?_, fun _ => rfl⟩
            simp only [Bool.and_eq_true, Bool.or_eq_true, decide_eq_true_eq] at h hb
            omega
          | false =>
            simp only [Bool.or_eq_false_iff, decide_eq_false_iff_not] at hb
            have h0 : decide (0 ≤ m.From[i]) = true := decide_eq_true (by omega)
            have h1 : decide (m.From[i] < m.Count) = true := decide_eq_true (by omega)
            simp only [cond_false, h0, h1, Bool.true_and]
            rw [idx_atG (i := m.From[i].toNat) false (by omega) (by rw [seenT_len]; omega)]
            have hg : (seenT m i).getD m.From[i].toNat false = (m.From.take i).elem m.From[i] := by
              have hl : m.From[i].toNat < m.Count.toNat := by omega
              unfold seenT
              simp only [List.getD, List.getElem?_map, List.getElem?_range hl, Option.map_some, Option.getD_some]
              rw [show ((m.From[i].toNat : Nat) : Int) = m.From[i] by omega]
            rw [hg]
            simp only [bindS]
            cases (m.From.take i).elem m.From[i] with
            | true => exact ⟨fun h => (by simp at h), fun _ => rfl⟩
            | false =>
              refine ⟨fun _ => ?_, fun h => (by simp at h)⟩
              rw [← seenT_set m i hi (by omega)]
              rfl
      · have hd : decide ((m.From.length : Int) < (m.From.length : Int)) = false := decide_eq_false (by omega)
        simp only [hd, cond_false]
      · simp only [seenT, List.take_zero]
        rw [Prod.mk.injEq]
        refine ⟨?_, rfl⟩
        apply List.ext_getElem
        · simp
        · intro j h1 h2; simp
theorem ref29_Check (m : Api_Memory) : f_churnref29_Check m = some (checkM m) := by
  unfold f_churnref29_Check checkM
  show (bif headM m then _ else _) = _
  cases hh : headM m with
  | true => rfl
  | false =>
    unfold headM at hh
    simp only [Bool.or_eq_false_iff, decide_eq_false_iff_not, bne_eq_false_iff_eq] at hh
    obtain ⟨⟨⟨⟨⟨⟨⟨⟨⟨a1, a2⟩, a3⟩, a4⟩, _⟩, _⟩, _⟩, _⟩, _⟩, _⟩ := hh
    simp only [cond_false]
    rw [scan_run (s0 := 0) (fun i => (i : Int)) (Sum.inl ()) (Sum.inr 290) (okF m) m.From.length ?_ ?_ rfl]
    · simp only [bindS]
      cases allFrom (okF m) m.From.length 0 <;> rfl
    · intro i hi
      have hd : decide ((i : Int) < (m.From.length : Int)) = true := decide_eq_true (by omega)
      simp only [hd, cond_true]
      rw [idx_nat hi]
      simp only [bindS]
      cases h1 : decide (m.From[i] < (-1)) with
      | true =>
        have h1 := of_decide_eq_true h1
        simp only [cond_true, bindS, okF]
        rw [getD_at _ _ hi]
        refine ⟨fun h => ?_, fun _ => trivial⟩
        simp only [Bool.or_eq_true, beq_iff_eq, Bool.and_eq_true, decide_eq_true_eq] at h
        omega
      | false =>
        have h1 := of_decide_eq_false h1
        simp only [cond_false, bindS]
        cases h2 : decide (m.From[i] ≥ m.Count) with
        | true =>
          have h2 := of_decide_eq_true h2
          simp only [cond_true, bindS, okF]
          rw [getD_at _ _ hi]
          refine ⟨fun h => ?_, fun _ => trivial⟩
          simp only [Bool.or_eq_true, beq_iff_eq, Bool.and_eq_true, decide_eq_true_eq] at h
          omega
        | false =>
          have h2 := of_decide_eq_false h2
          simp only [cond_false]
          rw [scan_run (s0 := 0) (fun j => (j : Int)) (Sum.inl ()) (Sum.inr 290) (fun j => !(decide (m.From[i] ≥ 0) && (m.From.getD j 0 == m.From[i]))) i ?_ ?_ rfl]
          · have e : allFrom (fun j => !(decide (m.From[i] ≥ 0) && (m.From.getD j 0 == m.From[i]))) i 0 = okF m i := by
              rw [Bool.eq_iff_iff, allFrom_iff]
              simp only [okF, getD_at _ _ hi]
              constructor
              · intro h
                by_cases hz : m.From[i] = -1
                · simp [hz]
                · have hz0 : 0 ≤ m.From[i] := by omega
                  have : (m.From.take i).elem m.From[i] = false := by
                    rw [← Bool.not_eq_true]
                    intro he
                    rw [List.elem_eq_mem, decide_eq_true_eq, List.mem_take_iff_getElem] at he
                    obtain ⟨j, hj, e⟩ := he
                    have := h j (by omega) (by omega)
                    rw [getD_at _ _ (by omega), e] at this
                    simp [hz0] at this
                  simp only [this, Bool.not_false, Bool.and_true, Bool.or_eq_true, beq_iff_eq, Bool.and_eq_true, decide_eq_true_eq]
                  right; exact ⟨hz0, by omega⟩
              · intro h k _ hk
                rw [getD_at _ _ (by omega)]
                simp only [Bool.or_eq_true, beq_iff_eq, Bool.and_eq_true, decide_eq_true_eq, Bool.not_eq_true'] at h
                rw [Bool.not_eq_true', Bool.and_eq_false_iff]
                by_cases hz : m.From[i] ≥ 0
                · right
                  rcases h with h | h
                  · omega
                  · rw [beq_eq_false_iff_ne]
                    intro e
                    have := h.2
                    rw [List.elem_eq_mem, decide_eq_false_iff_not] at this
                    exact this (List.mem_take_iff_getElem.2 ⟨k, by omega, e⟩)
                · left; exact decide_eq_false hz
            rw [e, wrap64 (x := (i : Int) + 1) (by omega)]
            cases okF m i with
            | true => exact ⟨fun _ => rfl, fun h => (by cases h)⟩
            | false => exact ⟨fun h => (by cases h), fun _ => rfl⟩
          · intro j hj
            have hd2 : decide ((j : Int) < (i : Int)) = true := decide_eq_true (by omega)
            simp only [hd2, cond_true]
            rw [idx_nat (show j < m.From.length by omega), getD_at _ _ (show j < m.From.length by omega), wrap64 (x := (j : Int) + 1) (by omega)]
            simp only [bindS]
            cases decide (m.From[i] ≥ 0) with
            | false => exact ⟨fun _ => rfl, fun h => (by simp at h)⟩
            | true =>
              simp only [cond_true, bindS, Bool.true_and]
              cases m.From[j] == m.From[i] with
              | true => exact ⟨fun h => (by simp at h), fun _ => rfl⟩
              | false => exact ⟨fun _ => rfl, fun h => (by simp at h)⟩
          · have hd : decide ((i : Int) < (i : Int)) = false := decide_eq_false (by omega)
            simp only [hd, cond_false]
    · have hd : decide ((m.From.length : Int) < (m.From.length : Int)) = false := decide_eq_false (by omega)
      simp only [hd, cond_false]
end Go.Proofs.YtobbmodjdkcdcaaGreatDoor

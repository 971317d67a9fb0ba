/- LawFrameT: frame.Read answers on every input. -/
import Derived.Test.YtobbmodjdkcdcaaGreatDoorLawPeel
set_option linter.unusedVariables false
set_option linter.unusedSimpArgs false
set_option maxRecDepth 20000
set_option maxHeartbeats 1000000
namespace Go.Proofs.YtobbmodjdkcdcaaGreatDoor
open Go Go.Sim
def sizes : List Int := [4, 1, 1, 2, 8, 8, 2, 320, 4, 1]
theorem sizes_at (i : Nat) (h : i < 10) : 1 ≤ sizes.getD i 0 ∧ sizes.getD i 0 ≤ 320 ∧ (i = 7 → sizes.getD i 0 = 320) := by
  match i, h with
  | 0, _ => decide
  | 1, _ => decide
  | 2, _ => decide
  | 3, _ => decide
  | 4, _ => decide
  | 5, _ => decide
  | 6, _ => decide
  | 7, _ => decide
  | 8, _ => decide
  | 9, _ => decide
theorem feed_size {f : Frame_Feed} {i : Nat} (hs : f.stage = i) (h : i < 10) : f_frame_Feed_size_b f = some (sizes.getD i 0) := by
  unfold f_frame_Feed_size_b
  rw [hs, idx_at rfl (by simpa using h)]; rfl
theorem frame_read_ex {p : List Int} (h : p.length < 2 ^ 30) : ∃ v, f_frame_read p = some v := by
  unfold f_frame_read
  obtain ⟨r, hr, _⟩ := run_ind (P := fun s : Int × Int => 0 ≤ s.2 ∧ s.2 ≤ p.length) (Q := fun _ : Int => True) (fun s => (p.length - s.2).toNat) (step := (fun (x33, x34) =>
      bif decide (x34 < (p.length : Int)) then
        (idx p x34).bind fun x43 =>
        some (.next (orI .u64 (shlI .u64 x33 8) (IntKind.wrap .u64 x43), IntKind.wrap .i64 (x34 + 1)))
      else
        some (.done x33) : Int × Int → Option (Ctl (Int × Int) Int))) (fun s hs => by
        obtain ⟨x, i⟩ := s
        obtain ⟨h1, h2⟩ := hs
        simp only at h1 h2
        by_cases c : i < (p.length : Int)
        · right
          have hi : i.toNat < p.length := by omega
          refine ⟨(orI .u64 (shlI .u64 x 8) (IntKind.wrap .u64 (p.getD i.toNat 0)), i + 1), ?_, ⟨by simp only; omega, by simp only; omega⟩, by simp only; omega⟩
          simp only [decide_eq_true c, cond_true]
          rw [idx_at (i := i.toNat) (by omega) hi]
          simp only [bindS]
          rw [wrap64 (by omega)]
        · left
          exact ⟨x, by simp only [decide_eq_false c, cond_false], trivial⟩) (s := (0, 0)) ⟨by simp, by simp⟩
  rw [hr]; exact ⟨_, rfl⟩
theorem run_tot {S R : Type} {step : Int × S → Option (Ctl (Int × S) R)} {n : Nat} (h : ∀ i : Nat, i < n → ∀ x, ∃ y, step ((i : Int), x) = some (.next (((i + 1 : Nat) : Int), y))) (hn : ∀ x, ∃ r, step ((n : Int), x) = some (.done r)) (x : S) : ∃ r, Loop.run step (0, x) = some r := by
  have key : ∀ k i x, n - i = k → i ≤ n → ∃ r, Loop.run step ((i : Int), x) = some r := by
    intro k
    induction k with
    | zero =>
      intro i x h1 h2
      have : i = n := by omega
      subst this
      obtain ⟨r, hr⟩ := hn x
      exact ⟨r, Loop.run_done hr⟩
    | succ k ih =>
      intro i x h1 h2
      obtain ⟨y, hy⟩ := h i (by omega) x
      rw [Loop.run_next hy]
      exact ih _ _ (by omega) (by omega)
  exact key _ 0 x rfl (by omega)
theorem sum_add_ex {s : Frame_sum} {p : List Int} (h : p.length < 2 ^ 30) : ∃ v, f_frame_sum_add s p = some v := by
  unfold f_frame_sum_add
  refine Exists.elim (run_tot (n := p.length) ?_ ?_ s) (fun r hr => ⟨r, by rw [hr]; rfl⟩)
  · intro i hi x
    have h1 : decide ((i : Int) < (p.length : Int)) = true := decide_eq_true (by omega)
    simp only [h1, cond_true]
    rw [idx_at rfl hi, wrap64 (x := (i : Int) + 1) (by omega)]
    exact ⟨_, rfl⟩
  · intro x
    exact ⟨x, bif_ff (decide_eq_false (by omega))⟩
/-- The field that is whole is judged. -/
theorem judge_ex {f : Frame_Feed} {i : Nat} (hs : f.stage = i) (h : i < 10) (hl : 1 ≤ f.field.length) (hl2 : f.field.length < 2 ^ 30) :
    ∃ r, f_frame_Feed_judge_b f = some r ∧ r.2.field = f.field ∧ (r.1 = 0 → ∃ j : Nat, j < 10 ∧ r.2.stage = j) := by
  unfold f_frame_Feed_judge_b
  obtain ⟨v, hv⟩ := frame_read_ex hl2
  obtain ⟨q, hq⟩ := sum_add_ex (s := f.sum) hl2
  rw [hv, hq]
  simp only [bindS, f_frame_sum_foot]
  rw [idx_at (z := 0) (i := 0) rfl (by omega)]
  simp only [bindS]
  cases h8 : (f.stage == 8) with
  | true =>
    simp only [cond_true]
    cases v != _ with
    | true => exact ⟨_, rfl, rfl, fun h => by cases h⟩
    | false => exact ⟨_, rfl, rfl, fun _ => ⟨9, by omega, rfl⟩⟩
  | false =>
    simp only [cond_false]
    have fin : ∀ (l : Int) (hd : Api_Header), i ≠ 9 → ∃ r : Int × Frame_Feed, (((bif ((IntKind.wrap .i64 (f.stage + 1)) == 6) || ((IntKind.wrap .i64 (f.stage + 1)) == 8) then
          bif l == 0 then
            some 8
          else
            some 6
        else
          some (IntKind.wrap .i64 (f.stage + 1))
          : Option Int)).bind fun x30 =>
        some ((0 : Int), (⟨f.field, f.at_, x30, l, hd, q, f.err, f.place⟩ : Frame_Feed))) = some r ∧ r.2.field = f.field ∧ (r.1 = 0 → ∃ j : Nat, j < 10 ∧ r.2.stage = j) := by
      intro l hd h9
      rw [hs, wrap64 (by omega)]
      cases ((i : Int) + 1 == 6) || ((i : Int) + 1 == 8) with
      | true =>
        cases l == 0 with
        | true => exact ⟨_, rfl, rfl, fun _ => ⟨8, by omega, rfl⟩⟩
        | false => exact ⟨_, rfl, rfl, fun _ => ⟨6, by omega, rfl⟩⟩
      | false => exact ⟨_, rfl, rfl, fun _ => ⟨i + 1, by omega, by simp⟩⟩
    have h8' : i ≠ 8 := by
      intro e; rw [hs, e] at h8; simp at h8
    have err : ∀ (z : Int × Frame_Feed), z.1 ≠ 0 → z.2.field = f.field → ∃ r, (some z : Option (Int × Frame_Feed)) = some r ∧ r.2.field = f.field ∧ (r.1 = 0 → ∃ j : Nat, j < 10 ∧ r.2.stage = j) := fun z h1 h2 => ⟨z, rfl, h2, fun h => absurd h h1⟩
    have c : ∀ k : Nat, (((i : Nat) : Int) == ((k : Nat) : Int)) = decide (i = k) := fun k => by
      rw [Bool.eq_iff_iff]; simp only [beq_iff_eq, decide_eq_true_eq]; omega
    have c0 : (((i : Nat) : Int) == 0) = decide (i = 0) := c 0
    have c1 : (((i : Nat) : Int) == 1) = decide (i = 1) := c 1
    have c2 : (((i : Nat) : Int) == 2) = decide (i = 2) := c 2
    have c3 : (((i : Nat) : Int) == 3) = decide (i = 3) := c 3
    have c4 : (((i : Nat) : Int) == 4) = decide (i = 4) := c 4
    have c5 : (((i : Nat) : Int) == 5) = decide (i = 5) := c 5
    have c6 : (((i : Nat) : Int) == 6) = decide (i = 6) := c 6
    have c7 : (((i : Nat) : Int) == 7) = decide (i = 7) := c 7
    have c9 : (((i : Nat) : Int) == 9) = decide (i = 9) := c 9
    rw [hs] at *
    rw [c0, c1, c2, c3, c4, c5, c6, c7, c9]
    by_cases k0 : i = 0
    · rw [decide_eq_true k0, cond_true]
      cases (strB f.field) != [67, 72, 82, 78] with
      | true => exact err _ (by simp) rfl
      | false => exact fin _ _ (by omega)
    rw [decide_eq_false k0, cond_false]
    by_cases k1 : i = 1
    · rw [decide_eq_true k1, cond_true]
      cases (f.field.getD 0 0) != 1 with
      | true => exact err _ (by simp) rfl
      | false => exact fin _ _ (by omega)
    rw [decide_eq_false k1, cond_false]
    by_cases k2 : i = 2
    · rw [decide_eq_true k2, cond_true]
      cases decide ((({ f.header with Left := IntKind.wrap .i64 (f.field.getD 0 0) } : Api_Header).Left) > 8) with
      | true => exact err _ (by simp) rfl
      | false => exact fin _ _ (by omega)
    rw [decide_eq_false k2, cond_false]
    by_cases k3 : i = 3
    · rw [decide_eq_true k3, cond_true]
      cases decide ((IntKind.wrap .i64 v) > 256) with
      | true => exact err _ (by simp) rfl
      | false => exact fin _ _ (by omega)
    rw [decide_eq_false k3, cond_false]
    by_cases k4 : i = 4
    · rw [decide_eq_true k4, cond_true]
      cases decide (v > 4611686018427387903) with
      | true => exact err _ (by simp) rfl
      | false => exact fin _ _ (by omega)
    rw [decide_eq_false k4, cond_false]
    by_cases k5 : i = 5
    · rw [decide_eq_true k5, cond_true]
      cases decide (v > 4611686018427387904) with
      | true => exact err _ (by simp) rfl
      | false => exact fin _ _ (by omega)
    rw [decide_eq_false k5, cond_false]
    by_cases k6 : i = 6
    · rw [decide_eq_true k6, cond_true]
      cases v != 320 with
      | true => exact err _ (by simp) rfl
      | false => exact fin _ _ (by omega)
    rw [decide_eq_false k6, cond_false]
    by_cases k7 : i = 7
    · rw [decide_eq_true k7, cond_true]
      exact fin _ _ (by omega)
    rw [decide_eq_false k7, cond_false]
    have k9 : i = 9 := by omega
    rw [decide_eq_true k9, cond_true]
    exact err _ (by simp) rfl
end Go.Proofs.YtobbmodjdkcdcaaGreatDoor

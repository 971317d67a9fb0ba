/- LawBackR: frame.Pack answers; back.Return answers behind a right configuration. -/
import Derived.Test.YtobbmodjdkcdcaaGreatDoorLawBackA
set_option linter.unusedVariables false
set_option linter.unusedSimpArgs false
set_option maxRecDepth 20000
set_option maxHeartbeats 1000000
namespace Go.Proofs.YtobbmodjdkcdcaaGreatDoor
open Go Go.Sim
theorem num_ro (x : List Int) (v k : Int) : f_frame_number_ovv_ro x v k = f_frame_number_ovv x v k := rfl
theorem number_ex {x : List Int} {v z : Int} {k : Nat} (hz : z = k) (hk : k ≤ 8) (hx : x.length < 2 ^ 31) : ∃ r, f_frame_number_ovv x v z = some r ∧ r.length = x.length + k := by
  subst hz
  unfold f_frame_number_ovv
  have hroom : room = 17179869184 := rfl
  rw [wrap64 (x := (k : Int) - 1) (by omega)]
  have key : ∀ (j : Nat) (y : List Int), j ≤ k → y.length = x.length + (k - j) → ∃ r, Loop.run (S := ((List Int) × Int)) (R := (List Int)) (fun (x49, x50) =>
      bif decide (x50 ≥ 0) then
        bif decide (0 ≤ (IntKind.wrap .i64 (8 * x50))) then
        (app x49 [IntKind.wrap .u8 (shrI .u64 v (IntKind.wrap .i64 (8 * x50)))]).bind fun z62 =>
        some (.next (z62, IntKind.wrap .i64 (x50 - 1)))
        else none
      else
        some (.done x49)) (y, (j : Int) - 1) = some r ∧ r.length = x.length + k := by
    intro j
    induction j with
    | zero => intro y _ hy; exact ⟨y, Loop.run_done rfl, by omega⟩
    | succ j ih =>
      intro y hj hy
      obtain ⟨r, hr, hl⟩ := ih (y ++ [IntKind.wrap .u8 (shrI .u64 v (8 * (j : Int)))]) (by omega) (by simp; omega)
      refine ⟨r, (Loop.run_next ?_).trans hr, hl⟩
      have e : ((j + 1 : Nat) : Int) - 1 = j := by omega
      rw [e]
      have h1 : decide ((j : Int) ≥ 0) = true := decide_eq_true (by omega)
      have h2 : decide (0 ≤ 8 * (j : Int)) = true := decide_eq_true (by omega)
      have h3 : IntKind.wrap .i64 (8 * (j : Int)) = 8 * (j : Int) := wrap64 (by omega)
      simp only [h1, h3, h2, cond_true]
      rw [app_eq (by rw [hroom]; simp; omega)]
      simp only [bindS]
      rw [wrap64 (by omega)]
  obtain ⟨r, hr, hl⟩ := key k x (Nat.le_refl _) (by omega)
  exact ⟨r, by rw [hr]; rfl, hl⟩
theorem frame_Pack_ex (b : Api_Batch) : ∃ r, f_frame_Pack b = some r := by
  unfold f_frame_Pack f_frame_fits
  have hroom : room = 17179869184 := rfl
  have hroomI : (room : Int) = 17179869184 := rfl
  simp only [bindS]
  cases !((((((decide (b.Header.Left ≥ 0)) && (decide (b.Header.Left ≤ 8))) && (decide (b.Header.Round ≥ 0))) && (decide (b.Header.Round ≤ 4611686018427387903))) && (decide (b.Header.Epoch ≥ 0))) && (decide (b.Header.Epoch ≤ 4611686018427387904))) with
  | true => exact ⟨_, rfl⟩
  | false =>
    rw [cond_false]
    cases hc : decide ((b.Cells.length : Int) > 256) with
    | true => exact ⟨_, rfl⟩
    | false =>
      have hc := of_decide_eq_false hc
      rw [cond_false, wrap64 (x := (b.Cells.length : Int) * 322) (by omega), wrap64 (x := 24 + (b.Cells.length : Int) * 322) (by omega), wrap64 (x := 24 + (b.Cells.length : Int) * 322 + 4) (by omega)]
      have g : mkB 0 (24 + (b.Cells.length : Int) * 322 + 4) = true := by unfold mkB; rw [hroomI]; simp; omega
      have e0 : List.replicate (Int.toNat 0) (0 : Int) = [] := rfl
      rw [g, cond_true, e0, app_eq (by rw [hroom]; simp)]
      simp only [bindS, List.nil_append]
      rw [app_eq (by rw [hroom]; simp)]
      simp only [bindS, num_ro]
      obtain ⟨r1, h1, l1⟩ := number_ex (x := [67, 72, 82, 78] ++ [1, IntKind.wrap .u8 b.Header.Left]) (v := IntKind.wrap .u64 (b.Cells.length : Int)) (z := 2) (k := 2) rfl (by omega) (by simp)
      rw [h1]
      simp only [bindS]
      have l1' : r1.length = 8 := by rw [l1]; rfl
      obtain ⟨r2, h2, l2⟩ := number_ex (x := r1) (v := IntKind.wrap .u64 b.Header.Round) (z := 8) (k := 8) rfl (by omega) (by omega)
      rw [h2]
      simp only [bindS]
      obtain ⟨r3, h3, l3⟩ := number_ex (x := r2) (v := IntKind.wrap .u64 b.Header.Epoch) (z := 8) (k := 8) rfl (by omega) (by omega)
      rw [h3]
      simp only [bindS]
      have loop : ∀ (k i : Nat) (y : List Int), b.Cells.length - i = k → i ≤ b.Cells.length → y.length = 24 + 322 * i → ∃ r : List Int ⊕ (List Int × Int), Loop.run (S := ((List Int) × Int)) (R := ((List Int) ⊕ ((List Int) × Int))) (fun (x104, x105) =>
          bif decide (x105 < (b.Cells.length : Int)) then
            (idx b.Cells x105).bind fun x121 =>
            bif (x121.length : Int) != 320 then
              some (.done (.inr ([], 64)))
            else
              (f_frame_number_ovv x104 320 2).bind fun y126 =>
              (app y126 x121).bind fun z129 =>
              some (.next (z129, IntKind.wrap .i64 (x105 + 1)))
          else
            some (.done (.inl x104))) (y, (i : Int)) = some r ∧ ∀ q, r = .inl q → q.length ≤ 24 + 322 * b.Cells.length := by
        intro k
        induction k with
        | zero =>
          intro i y h1 h2 h3
          have : i = b.Cells.length := by omega
          subst this
          exact ⟨.inl y, Loop.run_done (bif_ff (decide_eq_false (by omega))), fun q h => by cases h; omega⟩
        | succ k ih =>
          intro i y h1 h2 h3
          have hi : i < b.Cells.length := by omega
          have hd : decide ((i : Int) < (b.Cells.length : Int)) = true := decide_eq_true (by omega)
          cases hl : ((b.Cells[i].length : Int) != 320) with
          | true =>
            refine ⟨.inr ([], 64), Loop.run_done ?_, fun q h => by cases h⟩
            simp only [hd, cond_true, idx_nat hi, bindS, hl]
          | false =>
            have hl' : b.Cells[i].length = 320 := by simp at hl; omega
            obtain ⟨n, hn, ln⟩ := number_ex (x := y) (v := 320) (z := 2) (k := 2) rfl (by omega) (by omega)
            obtain ⟨r, hr, hq⟩ := ih (i + 1) (n ++ b.Cells[i]) (by omega) (by omega) (by rw [List.length_append]; omega)
            refine ⟨r, (Loop.run_next ?_).trans hr, hq⟩
            simp only [hd, cond_true, idx_nat hi, bindS, hl, cond_false]
            rw [hn]
            simp only [bindS]
            rw [app_eq (by rw [hroom]; omega)]
            simp only [bindS]
            rw [wrap64 (by omega)]; rfl
      obtain ⟨r, hr, hq⟩ := loop _ 0 r3 rfl (by omega) (by omega)
      rw [show (((0 : Nat) : Int)) = 0 from rfl] at hr
      rw [hr]
      cases r with
      | inr z => exact ⟨_, rfl⟩
      | inl q =>
        have hql := hq q rfl
        simp only [bindS, f_frame_sum_foot]
        obtain ⟨s, hs⟩ := sum_add_ex (s := ⟨1, 0⟩) (p := q) (by omega)
        rw [hs]
        simp only [bindS]
        obtain ⟨n, hn, _⟩ := number_ex (x := q) (v := IntKind.wrap .u64 (orI .u32 (shlI .u32 s.b 16) s.a)) (z := 4) (k := 4) rfl (by omega) (by omega)
        rw [hn]; exact ⟨_, rfl⟩
end Go.Proofs.YtobbmodjdkcdcaaGreatDoor

/- LawBackC: back.Check answers, and what a right memory is. -/
import Derived.Test.YtobbmodjdkcdcaaGreatDoorLawFrameU
set_option linter.unusedVariables false
set_option linter.unusedSimpArgs false
set_option maxRecDepth 20000
set_option maxHeartbeats 1000000
namespace Go.Proofs.YtobbmodjdkcdcaaGreatDoor
open Go Go.Sim
structure GoodM (m : Api_Memory) : Prop where
  cnt : 0 ≤ m.Count ∧ m.Count ≤ 256
  from_ : m.From.length ≤ 256
  non : (m.Nonces.length : Int) = m.Count
  left : 0 ≤ m.Header.Left ∧ m.Header.Left < 8
  rnd : 0 ≤ m.Header.Round ∧ m.Header.Round ≤ 4611686018427387903
  ep : 0 ≤ m.Header.Epoch ∧ m.Header.Epoch ≤ 4611686018427387904
  at_ : ∀ i, (h : i < m.From.length) → m.From[i] < m.Count
theorem ex_run2 {S R A B : Type} {step : S → Option (Ctl S R)} {s : S} {Q : R → Prop} {k1 : R → Option A} {k2 : A → Option B} {G : B → Prop} (h : ∃ r, Loop.run step s = some r ∧ Q r) (hk : ∀ r, Q r → ∃ b, ((k1 r).bind k2) = some b ∧ G b) : ∃ b, (((Loop.run step s).bind k1).bind k2) = some b ∧ G b := by
  obtain ⟨r, e, q⟩ := h
  obtain ⟨b, e2, g⟩ := hk r q
  exact ⟨b, by rw [e]; exact e2, g⟩
theorem back_Check_ex (m : Api_Memory) : ∃ r, f_back_Check m = some r ∧ (r = 0 → GoodM m) := by
  unfold f_back_Check
  have hroomI : (room : Int) = 17179869184 := rfl
  cases c1 : (((decide (m.Count < 0)) || (decide (m.Count > 256))) || (decide ((m.From.length : Int) > 256))) || ((m.Nonces.length : Int) != m.Count) with
  | true => exact ⟨290, rfl, fun h => by cases h⟩
  | false =>
    simp only [Bool.or_eq_false_iff, decide_eq_false_iff_not, bne_eq_false_iff_eq] at c1
    obtain ⟨⟨⟨a1, a2⟩, a3⟩, a4⟩ := c1
    rw [cond_false]
    cases c2 : (((((decide (m.Header.Left < 0)) || (decide (m.Header.Left ≥ 8))) || (decide (m.Header.Round < 0))) || (decide (m.Header.Round > 4611686018427387903))) || (decide (m.Header.Epoch < 0))) || (decide (m.Header.Epoch > 4611686018427387904)) with
    | true => exact ⟨290, rfl, fun h => by cases h⟩
    | false =>
      simp only [Bool.or_eq_false_iff, decide_eq_false_iff_not] at c2
      obtain ⟨⟨⟨⟨⟨b1, b2⟩, b3⟩, b4⟩, b5⟩, b6⟩ := c2
      have g : mkB m.Count m.Count = true := by unfold mkB; rw [hroomI]; simp; omega
      rw [cond_false, g, cond_true]
      refine ex_run2 (Q := fun r : Unit ⊕ Int => (r = .inl () → ∀ k : Nat, (h : k < m.From.length) → m.From[k] < m.Count) ∧ ∀ z, r = .inr z → z = 290) (run_ind (P := fun s : List Bool × Int => s.1.length = m.Count.toNat ∧ 0 ≤ s.2 ∧ s.2 ≤ m.From.length ∧ ∀ k : Nat, (k : Int) < s.2 → (h : k < m.From.length) → m.From[k] < m.Count)
        (Q := fun r : Unit ⊕ Int => (r = .inl () → ∀ k : Nat, (h : k < m.From.length) → m.From[k] < m.Count) ∧ ∀ z, r = .inr z → z = 290) (fun s : List Bool × Int => (m.From.length - s.2).toNat) (fun s hs => by
          obtain ⟨t, i⟩ := s
          obtain ⟨p1, p2, p3, p4⟩ := hs
          simp only at p1 p2 p3 p4
          by_cases c : i < (m.From.length : Int)
          · have hi : i.toNat < m.From.length := by omega
            simp only [decide_eq_true c, cond_true]
            have hx : idx m.From i = some m.From[i.toNat] := by
              have := idx_nat hi
              rw [show ((i.toNat : Nat) : Int) = i by omega] at this; exact this
            rw [hx]
            simp only [bindS]
            have nxt : ∀ t' : List Bool, t'.length = m.Count.toNat → m.From[i.toNat] < m.Count → t'.length = m.Count.toNat ∧ 0 ≤ i + 1 ∧ i + 1 ≤ (m.From.length : Int) ∧ ∀ k : Nat, (k : Int) < i + 1 → (h : k < m.From.length) → m.From[k] < m.Count := fun t' h1 h2 => ⟨h1, by omega, by omega, fun k hk hl => by
              by_cases e : k = i.toNat
              · subst e; exact h2
              · exact p4 k (by omega) hl⟩
            rw [wrap64 (x := i + 1) (by omega)]
            cases hm : (m.From[i.toNat] == -1) with
            | true =>
              have := eq_of_beq hm
              right
              exact ⟨(t, i + 1), rfl, nxt t p1 (by omega), by simp only; omega⟩
            | false =>
              simp only [cond_false]
              cases hb : (decide (m.From[i.toNat] < 0)) || (decide (m.From[i.toNat] ≥ m.Count)) with
              | true => left; exact ⟨_, rfl, fun h => (by cases h), fun z h => (by cases h; rfl)⟩
              | false =>
                simp only [Bool.or_eq_false_iff, decide_eq_false_iff_not] at hb
                simp only [cond_false]
                rw [idx_atG (i := m.From[i.toNat].toNat) false (by omega) (by omega)]
                simp only [bindS]
                cases t.getD m.From[i.toNat].toNat false with
                | true => left; exact ⟨_, rfl, fun h => (by cases h), fun z h => (by cases h; rfl)⟩
                | false =>
                  right
                  exact ⟨(List.set t (Int.toNat m.From[i.toNat]) true, i + 1), rfl, nxt _ (by rw [List.length_set]; exact p1) (by omega), by simp only; omega⟩
          · left
            simp only [decide_eq_false c, cond_false]
            exact ⟨_, rfl, fun _ k hk => p4 k (by omega) hk, fun z h => (by cases h)⟩) ⟨by simp, by simp, by simp, fun k hk => (by simp only at hk; omega)⟩) (fun r hq => ?_)
      cases r with
      | inl u => exact ⟨0, rfl, fun _ => ⟨⟨by omega, by omega⟩, by omega, a4, ⟨by omega, by omega⟩, ⟨by omega, by omega⟩, ⟨by omega, by omega⟩, hq.1 rfl⟩⟩
      | inr z =>
        have := hq.2 z rfl
        exact ⟨z, rfl, fun hz => (by omega)⟩
end Go.Proofs.YtobbmodjdkcdcaaGreatDoor

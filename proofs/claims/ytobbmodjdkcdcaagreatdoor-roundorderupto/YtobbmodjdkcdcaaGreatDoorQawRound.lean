import Derived.Test.YtobbmodjdkcdcaaGreatDoorQawRead
import Derived.Test.YtobbmodjdkcdcaaGreatDoorQawRiff
import Derived.Test.YtobbmodjdkcdcaaGreatDoorQawNoise
import Derived.Test.YtobbmodjdkcdcaaGreatDoorQawSift
import Derived.Test.YtobbmodjdkcdcaaGreatDoorQawWinP
set_option linter.unusedVariables false
set_option linter.unusedSimpArgs false
set_option linter.unusedSectionVars false
set_option maxRecDepth 20000
set_option maxHeartbeats 1000000
namespace Go.Proofs.YtobbmodjdkcdcaaGreatDoor
open Go Go.Sim
variable [Fu]
theorem s8 {a : Bool} {p q : ak × Int} (h : (bif a then p else q).2 = 0) (hp : p.2 ≠ 0) : (bif a then p else q) = q ∧ q.2 = 0 := by
 cases a with
 | true => exact absurd h hp
 | false => exact ⟨rfl, h⟩
theorem xd {key : List Int} {l : Int} {c : List Int} (h : (mP key l c).2 = 0) : (mP key l c).1.Replay.length = 16 ∧ bz (mP key l c).1.Replay := by
 unfold mP at h ⊢
 obtain ⟨e1, h1⟩ := s8 h (by simp)
 rw [e1]
 cases h2 : (cutS c (dg l)).2 != 0 with
 | true => rw [h2, cond_true] at h1; simp only at h1; rw [h1] at h2; cases h2
 | false =>
  rw [h2, cond_false] at h1
  simp only [cond_false]
  unfold Be at h1 ⊢
  obtain ⟨e3, h3⟩ := s8 h1 (by simp)
  rw [e3]
  obtain ⟨e4, h4⟩ := s8 h3 (by simp)
  rw [e4]
  simp only
  exact ⟨Ag _ _, qZ _ _⟩
section
variable {P : Nat → ak × Int} {w : aa}
theorem Bj (hP : ∀ i, (P i).2 = 0 → (P i).1.Replay.length = 16 ∧ bz (P i).1.Replay) (n : Nat) : ∀ i, ∀ p ∈ (stS P w n i).1, p.Replay.length = 16 ∧ bz p.Replay
 | 0 => fun p hp => (by cases hp)
 | i + 1 => fun p hp => by
  have ih := Bj hP n i
  unfold stS uR at hp
  cases ho : okS P i with
  | false => rw [ho] at hp; exact ih p hp
  | true =>
   rw [ho] at hp
   simp only [cond_true] at hp
   cases hh : hitS P w i with
   | true => rw [hh] at hp; exact ih p hp
   | false =>
    rw [hh] at hp
    simp only [cond_false] at hp
    rcases List.mem_append.1 hp with hp | hp
    · exact ih p hp
    · have := List.mem_singleton.1 hp
      subst this
      exact hP i (by simpa [okS] using ho)
theorem Bk (n : Nat) : ∀ i, i < 2 ^ 30 → ((stS P w n i).1.length : Int) + (stS P w n i).2.Malformed + (stS P w n i).2.Replays = i ∧ 0 ≤ (stS P w n i).2.Malformed ∧ 0 ≤ (stS P w n i).2.Replays ∧ (stS P w n i).2.In = n ∧ (stS P w n i).2.Noise = 0 ∧ (stS P w n i).2.Out = 0
 | 0, _ => by simp [stS]
 | i + 1, hi => by
  obtain ⟨a, b, c, d, e, f⟩ := Bk n i (by omega)
  unfold stS uR
  generalize stS P w n i = st at *
  cases okS P i with
  | false =>
   simp only [cond_false]
   rw [wrap64 (by omega)]
   exact ⟨by omega, by omega, c, d, e, f⟩
  | true =>
   cases hitS P w i with
   | true =>
    simp only [cond_true]
    rw [wrap64 (by omega)]
    exact ⟨by omega, b, by omega, d, e, f⟩
   | false =>
    simp only [cond_true, cond_false]
    refine ⟨?_, b, c, d, e, f⟩
    simp only [List.length_append, List.length_singleton]; omega
end
theorem f7.ofEp {w : aa} (hw : f7 w) {e : ab} (he : e ∈ w.Epochs) : e.Tags.length ≤ 1048576 := by
 obtain ⟨i, hi, rfl⟩ := List.mem_iff_getElem.1 he
 exact Nat.le_trans (tf hi) hw.len
theorem f7.small {w : aa} (hw : f7 w) : yj w := ⟨hw.eps, fun e he => hw.ofEp he⟩
theorem vO {s : aC} (hw : f7 s.Window) : fD s = some s := by
 unfold fD dq
 have hl := hw.eps
 rw [cr (by rw [gu]; simp; omega)]
 simp only [aj, List.nil_append]
 rw [bV (s0 := (0, s.Window.Epochs)) (r := s) (fun i => ((i : Int), s.Window.Epochs)) 0 s.Window.Epochs.length (Nat.zero_le _) ?_ ?_ rfl]
 · rfl
 · intro i _ hi
   have h1 : decide ((i : Int) < (s.Window.Epochs.length : Int)) = true := decide_eq_true (by omega)
   simp only [h1, cond_true]
   have hx := hw.ofEp (List.getElem_mem hi)
   rw [fT hi]
   simp only [aj]
   rw [xl hx]
   simp only [aj]
   rw [wrap64 (by omega), Int.toNat_natCast]
   have : s.Window.Epochs.set i { s.Window.Epochs[i] with Tags := s.Window.Epochs[i].Tags } = s.Window.Epochs := by
    show s.Window.Epochs.set i s.Window.Epochs[i] = _
    simp
   rw [this]
   rfl
 · have h1 : decide ((s.Window.Epochs.length : Int) < (s.Window.Epochs.length : Int)) = false := decide_eq_false (by omega)
   simp only [h1, cond_false]
theorem tX {s : aC} (hw : f7 s.Window) (e a : Int) : bT s e a = some ⟨[], s, ⟨0, 0, 0, 0, 0⟩, e, a⟩ := by
 unfold bT
 rw [vO hw]
 simp only [aj]
theorem nj {c : ar} {s : aC} (hw : f7 s.Window) : ∃ z, eL c s = some z ∧ (z = 0 ↔ dn c = some true ∧ 0 ≤ s.Next ∧ s.Next ≤ 4611686018427387904 ∧ c1 c.Span c.Room = true ∧ VW s.Window c.Span c.Room) := by
 obtain ⟨b, hb⟩ := oz c
 unfold eL
 rw [hb]
 simp only [aj]
 cases hc : ((!b) || (decide (s.Next < 0))) || (decide (s.Next > 4611686018427387904)) with
 | true =>
  refine ⟨210, rfl, Iff.intro (fun h => absurd h (by decide)) (fun h => ?_)⟩
  obtain ⟨h1, h2, h3, _⟩ := h
  cases h1
  simp at hc; omega
 | false =>
  simp only [Bool.or_eq_false_iff, decide_eq_false_iff_not] at hc
  obtain ⟨⟨c1', c2'⟩, c3'⟩ := hc
  have hb1 : b = true := by simpa using c1'
  subst hb1
  simp only [cond_false]
  rw [pK hw]
  simp only [aj]
  have key := uX hw (s := c.Span) (r := c.Room)
  cases hk : (c1 c.Span c.Room && c2 s.Window c.Room && c3 s.Window && ly (okW s.Window c.Span) s.Window.Epochs.length 0) with
  | true =>
   exact ⟨0, rfl, Iff.intro (fun _ => ⟨trivial, by omega, by omega, key.1 hk⟩) (fun _ => rfl)⟩
  | false =>
   refine ⟨210, rfl, Iff.intro (fun h => absurd h (by decide)) (fun h => ?_)⟩
   have := key.2 ⟨h.2.2.2.1, h.2.2.2.2⟩
   rw [hk] at this; cases this
end Go.Proofs.YtobbmodjdkcdcaaGreatDoor

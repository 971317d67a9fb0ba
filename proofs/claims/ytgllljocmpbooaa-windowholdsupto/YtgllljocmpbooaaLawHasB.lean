/- LawHasB: window.Has and churnref16.Has. -/
import Derived.Test.YtgllljocmpbooaaLawOpB
set_option linter.unusedVariables false
set_option linter.unusedSimpArgs false
namespace Go.Proofs.Ytgllljocmpbooaa
open Go Go.Sim

noncomputable def findRes {R : Type} (n : Nat) (p : Nat → Bool) (good : R) (bad : Nat → R) : R := match (List.range n).find? p with
  | some i => bad i
  | none => good
theorem findRes_cases {R : Type} (n : Nat) (p : Nat → Bool) (good : R) (bad : Nat → R) : (findRes n p good bad = good ∧ ∀ j, j < n → p j = false) ∨ ∃ j, j < n ∧ p j = true ∧ findRes n p good bad = bad j := by
  unfold findRes
  cases h : (List.range n).find? p with
  | none => exact .inl ⟨rfl, fun j hj => by have := List.find?_eq_none.1 h j (by simpa using hj); simpa using this⟩
  | some i => exact .inr ⟨i, by simpa using List.mem_of_find?_eq_some h, List.find?_some h, rfl⟩
theorem range_first {n : Nat} {p : Nat → Bool} {i : Nat} (hi : i < n) (hp : p i = true) (hb : ∀ j, j < i → p j = false) : (List.range n).find? p = some i := by
  exact List.find?_range_eq_some.2 ⟨hp, by simpa using hi, fun j hj => by simp [hb j hj]⟩
theorem loop_findE {S R : Type} {step : S → Option (Ctl S R)} {s0 : S} (st : Nat → S) (n : Nat) (p : Nat → Bool) (good : R) (bad : Nat → R)
    (h : ∀ i, i < n → step (st i) = some (bif p i then .done (bad i) else .next (st (i + 1)))) (he : step (st n) = some (.done good)) (h0 : s0 = st 0) :
    Loop.run step s0 = some (findRes n p good bad) := by
  subst h0
  have key : ∀ k i, n - i = k → i ≤ n → (∀ j, j < i → p j = false) → Loop.run step (st i) = some (findRes n p good bad) := by
    intro k
    induction k with
    | zero =>
      intro i hk hi hb
      have : i = n := by omega
      subst this
      rw [Loop.run_done he]
      have : (List.range i).find? p = none := List.find?_eq_none.2 fun j hj => by have := hb j (by simpa using hj); simp [this]
      simp [findRes, this]
    | succ k ih =>
      intro i hk hi hb
      have hi' : i < n := by omega
      have hs := h i hi'
      cases hp : p i with
      | true => rw [hp, cond_true] at hs; rw [Loop.run_done hs]; simp [findRes, range_first hi' hp hb]
      | false =>
        rw [hp, cond_false] at hs
        rw [Loop.run_next hs]
        exact ih (i + 1) (by omega) (by omega) fun j hj => by
          by_cases hji : j = i
          · subst hji; exact hp
          · exact hb j (by omega)
  exact key n 0 (by omega) (by omega) fun j hj => by omega
theorem mem_at {ts : List (List Int)} {t : List Int} : t ∈ ts ↔ ∃ j, ∃ h : j < ts.length, ts[j] = t := by
  constructor
  · intro h; obtain ⟨j, hj, e⟩ := List.getElem_of_mem h; exact ⟨j, hj, e⟩
  · rintro ⟨j, hj, rfl⟩; exact List.getElem_mem hj
theorem find_mem {R : Type} {ts : List (List Int)} {t : List Int} {p : Nat → Bool} {good : R} {bad : Nat → R} (hp : ∀ j, (h : j < ts.length) → p j = (ts[j] == t)) :
    (findRes ts.length p good bad = good ∧ t ∉ ts) ∨ ∃ j, t ∈ ts ∧ findRes ts.length p good bad = bad j := by
  rcases findRes_cases ts.length p good bad with ⟨h1, h2⟩ | ⟨j, hj, h1, h2⟩
  · refine .inl ⟨h1, fun hm => ?_⟩
    obtain ⟨j, hj, e⟩ := mem_at.1 hm
    have := h2 j hj
    rw [hp j hj, e] at this; simp at this
  · refine .inr ⟨j, ?_, h2⟩
    rw [hp j hj] at h1
    have := eq_of_beq h1
    rw [← this]; exact List.getElem_mem hj
theorem contains_eq {ts : List (List Int)} {t : List Int} (hl : ts.length ≤ 1048576) : f_slices_Contains ts t = some (decide (t ∈ ts)) := by
  unfold f_slices_Contains f_slices_Index
  rw [loop_findE (st := fun i => (i : Int)) (n := ts.length) (p := fun i => t == ts.getD i []) (good := .inl ()) (bad := fun i => .inr (i : Int))]
  · rcases find_mem (ts := ts) (t := t) (p := fun i => t == ts.getD i []) (good := (.inl () : Unit ⊕ Int)) (bad := fun i => .inr (i : Int)) (fun j hj => by simp [hj]; exact Bool.beq_comm) with ⟨h1, h2⟩ | ⟨j, h1, h2⟩
    · rw [h1]; simp [h2]
    · rw [h2]; simp [h1]
  · intro i hi
    have h1 : (i : Int) < (ts.length : Int) := by omega
    simp only [h1, decide_true, cond_true, idx_nat hi, Option.bind_some]
    have : ts.getD i [] = ts[i] := by simp [hi]
    rw [this, wrap64 (by omega)]
    cases t == ts[i] <;> rfl
  · simp
  · simp
section
variable {w : Api_Window}
theorem tags_at {t : List Int} : t ∈ tagsOf w ↔ ∃ j, ∃ h : j < w.Epochs.length, t ∈ w.Epochs[j].Tags := by
  unfold tagsOf
  rw [List.mem_flatMap]
  constructor
  · rintro ⟨e, he, ht⟩; obtain ⟨j, hj, rfl⟩ := List.getElem_of_mem he; exact ⟨j, hj, ht⟩
  · rintro ⟨j, hj, ht⟩; exact ⟨_, List.getElem_mem hj, ht⟩
theorem find_tags {R : Type} {t : List Int} {p : Nat → Bool} {good : R} {bad : Nat → R} (hp : ∀ j, (h : j < w.Epochs.length) → p j = decide (t ∈ w.Epochs[j].Tags)) :
    (findRes w.Epochs.length p good bad = good ∧ t ∉ tagsOf w) ∨ ∃ j, t ∈ tagsOf w ∧ findRes w.Epochs.length p good bad = bad j := by
  rcases findRes_cases w.Epochs.length p good bad with ⟨h1, h2⟩ | ⟨j, hj, h1, h2⟩
  · refine .inl ⟨h1, fun hm => ?_⟩
    obtain ⟨j, hj, e⟩ := tags_at.1 hm
    have := h2 j hj
    rw [hp j hj] at this; simp [e] at this
  · refine .inr ⟨j, ?_, h2⟩
    rw [hp j hj] at h1
    exact tags_at.2 ⟨j, hj, of_decide_eq_true h1⟩
theorem window_Has (hw : GoodW w) {t : List Int} : f_window_Has w t = some (decide (t ∈ tagsOf w)) := by
  have hl := hw.len
  have he := hw.eps
  unfold f_window_Has f_slices_ContainsFunc_window_Has_1 f_slices_IndexFunc_window_Has_1
  rw [loop_findE (st := fun i => (i : Int)) (n := w.Epochs.length) (p := fun i => decide (t ∈ (w.Epochs.getD i ⟨0, []⟩).Tags)) (good := .inl ()) (bad := fun i => .inr (i : Int))]
  · rcases find_tags (w := w) (t := t) (p := fun i => decide (t ∈ (w.Epochs.getD i ⟨0, []⟩).Tags)) (good := (.inl () : Unit ⊕ Int)) (bad := fun i => .inr (i : Int)) (fun j hj => by simp [hj]) with ⟨h1, h2⟩ | ⟨j, h1, h2⟩
    · rw [h1]; simp [h2]
    · rw [h2]; simp [h1]
  · intro i hi
    have h1 : (i : Int) < (w.Epochs.length : Int) := by omega
    have hep := ep_le hi
    simp only [h1, decide_true, cond_true, idx_nat hi, Option.bind_some]
    have : w.Epochs.getD i ⟨0, []⟩ = w.Epochs[i] := by simp [hi]
    rw [this, wrap64 (by omega)]
    unfold f_window_Has_1
    rw [contains_eq (by omega)]
    simp only [Option.bind_some]
    cases decide (t ∈ w.Epochs[i].Tags) <;> rfl
  · simp
  · simp
theorem ref16_Has (hw : GoodW w) {t : List Int} : f_churnref16_Has w t = some (decide (t ∈ tagsOf w)) := by
  have hl := hw.len
  have he := hw.eps
  unfold f_churnref16_Has
  rw [loop_findE (st := fun i => (i : Int)) (n := w.Epochs.length) (p := fun i => decide (t ∈ (w.Epochs.getD i ⟨0, []⟩).Tags)) (good := .inl ()) (bad := fun i => .inr true)]
  · rcases find_tags (w := w) (t := t) (p := fun i => decide (t ∈ (w.Epochs.getD i ⟨0, []⟩).Tags)) (good := (.inl () : Unit ⊕ Bool)) (bad := fun i => .inr true) (fun j hj => by simp [hj]) with ⟨h1, h2⟩ | ⟨j, h1, h2⟩
    · rw [h1]; simp [h2]
    · rw [h2]; simp [h1]
  · intro i hi
    have h1 : (i : Int) < (w.Epochs.length : Int) := by omega
    have hep := ep_le hi
    simp only [h1, decide_true, cond_true, idx_nat hi, Option.bind_some]
    have : w.Epochs.getD i ⟨0, []⟩ = w.Epochs[i] := by simp [hi]
    rw [this]
    rw [loop_findE (st := fun j => (j : Int)) (n := w.Epochs[i].Tags.length) (p := fun j => w.Epochs[i].Tags.getD j [] == t) (good := .inl ()) (bad := fun _ => .inr true)]
    · rw [wrap64 (by omega)]
      rcases find_mem (ts := w.Epochs[i].Tags) (t := t) (p := fun j => w.Epochs[i].Tags.getD j [] == t) (good := (.inl () : Unit ⊕ Bool)) (bad := fun _ => .inr true) (fun j hj => by simp [hj]) with ⟨h1, h2⟩ | ⟨j, h1, h2⟩
      · rw [h1]; simp [h2]
      · rw [h2]; simp [h1]
    · intro j hj
      have h1 : (j : Int) < (w.Epochs[i].Tags.length : Int) := by omega
      simp only [h1, decide_true, cond_true, idx_nat hj, Option.bind_some]
      have : w.Epochs[i].Tags.getD j [] = w.Epochs[i].Tags[j] := by simp [hj]
      rw [this, wrap64 (by omega)]
      cases w.Epochs[i].Tags[j] == t <;> rfl
    · simp
    · simp
  · simp
  · simp
end
end Go.Proofs.Ytgllljocmpbooaa

/- LawSift: Sift: the program's and the reference's are one. -/
import Derived.Test.YtgllljocmpbooaaDoorLawPeel
set_option linter.unusedVariables false
set_option linter.unusedSimpArgs false
set_option maxRecDepth 20000
set_option maxHeartbeats 1000000
namespace Go.Proofs.YtgllljocmpbooaaDoor
open Go Go.Sim
/-- A loop that looks for a place and tells it. -/
theorem run_scanE {R : Type} {step : Int → Option (Ctl Int R)} {p : Nat → Bool} {good : R} {bad : Nat → R} {s0 : Int} (b : Bool) (n : Nat) (hb : b = true ↔ ∃ i, i < n ∧ p i = true)
    (h : ∀ i : Nat, i < n → step (i : Int) = some (bif p i then .done (bad i) else .next ((i + 1 : Nat) : Int))) (hn : step (n : Int) = some (.done good)) (h0 : s0 = 0) :
    ∃ r, Loop.run step s0 = some r ∧ (b = false → r = good) ∧ (b = true → ∃ i, i < n ∧ r = bad i) := by
  subst h0
  have key : ∀ k a, n - a = k → a ≤ n → (∃ i, a ≤ i ∧ i < n ∧ p i = true ∧ Loop.run step (a : Int) = some (bad i)) ∨ ((¬ ∃ i, a ≤ i ∧ i < n ∧ p i = true) ∧ Loop.run step (a : Int) = some good) := by
    intro k
    induction k with
    | zero =>
      intro a h1 h2
      have : a = n := by omega
      subst this
      exact .inr ⟨fun ⟨i, h4, h5, _⟩ => by omega, Loop.run_done hn⟩
    | succ k ih =>
      intro a h1 h2
      have hs := h a (by omega)
      cases hp : p a with
      | true =>
        rw [hp, cond_true] at hs
        exact .inl ⟨a, Nat.le_refl _, by omega, hp, Loop.run_done hs⟩
      | false =>
        rw [hp, cond_false] at hs
        rw [Loop.run_next hs]
        rcases ih (a + 1) (by omega) (by omega) with ⟨i, i1, i2, i3, i4⟩ | ⟨i1, i2⟩
        · exact .inl ⟨i, by omega, i2, i3, i4⟩
        · refine .inr ⟨fun ⟨i, h4, h5, h6⟩ => i1 ⟨i, ?_, h5, h6⟩, i2⟩
          have : i ≠ a := fun e => by rw [e, hp] at h6; cases h6
          omega
  rcases key _ 0 rfl (by omega) with ⟨i, i1, i2, i3, i4⟩ | ⟨i1, i2⟩
  · exact ⟨_, i4, fun hf => (by have := hb.2 ⟨i, i2, i3⟩; rw [hf] at this; cases this), fun _ => ⟨i, i2, rfl⟩⟩
  · exact ⟨_, i2, fun _ => rfl, fun ht => by obtain ⟨i, j1, j2⟩ := hb.1 ht; exact absurd ⟨i, by omega, j1, j2⟩ i1⟩
/-! ### windows -/
def hasL (ts : List (List Int)) (t : List Int) : Bool := ts.any fun x => x == t
def hasS (w : Api_Window) (t : List Int) : Bool := w.Epochs.any fun e => hasL e.Tags t
structure SmallW (w : Api_Window) : Prop where
  eps : w.Epochs.length ≤ 1048576
  tags : ∀ e ∈ w.Epochs, e.Tags.length ≤ 1048576
theorem any_iff {α : Type} {xs : List α} {p : α → Bool} (d : α) : xs.any p = true ↔ ∃ i, i < xs.length ∧ p (xs.getD i d) = true := by
  rw [List.any_eq_true]
  constructor
  · rintro ⟨x, hx, h⟩
    obtain ⟨i, hi, rfl⟩ := List.getElem_of_mem hx
    exact ⟨i, hi, by simpa [hi] using h⟩
  · rintro ⟨i, hi, h⟩
    exact ⟨xs[i], List.getElem_mem hi, by simpa [hi] using h⟩
theorem contains_eq {ts : List (List Int)} {t : List Int} (hl : ts.length ≤ 1048576) : f_slices_Contains ts t = some (hasL ts t) := by
  unfold f_slices_Contains f_slices_Index
  obtain ⟨r, h1, h2, h3⟩ := run_scanE (step := (fun x29 =>
      bif decide (x29 < (ts.length : Int)) then
        (idx ts x29).bind fun x37 =>
        bif t == x37 then
          some (.done (.inr x29))
        else
          some (.next (IntKind.wrap .i64 (x29 + 1)))
      else
        some (.done (.inl ())) : Int → Option (Ctl Int (Unit ⊕ Int)))) (p := fun i => ts.getD i [] == t) (good := .inl ()) (bad := fun i => .inr (i : Int)) (hasL ts t) ts.length (any_iff []) (by
        intro i hi
        have h1 : decide ((i : Int) < (ts.length : Int)) = true := decide_eq_true (by omega)
        rw [h1, cond_true, idx_atG [] rfl hi]
        simp only [bindS]
        have e : (t == ts.getD i []) = (ts.getD i [] == t) := Bool.beq_comm
        rw [e, wrap64 (by omega)]; cases ts.getD i [] == t <;> rfl) (bif_ff (decide_eq_false (by omega))) rfl
  rw [h1]
  cases hc : hasL ts t with
  | true => obtain ⟨i, _, rfl⟩ := h3 hc; simp
  | false => rw [h2 hc]; rfl
theorem window_Has {w : Api_Window} (hw : SmallW w) {t : List Int} : f_window_Has w t = some (hasS w t) := by
  unfold f_window_Has f_slices_ContainsFunc_window_Has_1 f_slices_IndexFunc_window_Has_1
  have he := hw.eps
  obtain ⟨r, h1, h2, h3⟩ := run_scanE (step := (fun x29 =>
      bif decide (x29 < (w.Epochs.length : Int)) then
        (idx w.Epochs x29).bind fun x37 =>
        (f_window_Has_1 x37 t).bind fun y40 =>
        bif y40 then
          some (.done (.inr x29))
        else
          some (.next (IntKind.wrap .i64 (x29 + 1)))
      else
        some (.done (.inl ())) : Int → Option (Ctl Int (Unit ⊕ Int)))) (p := fun i => hasL (w.Epochs.getD i ⟨0, []⟩).Tags t) (good := .inl ()) (bad := fun i => .inr (i : Int)) (hasS w t) w.Epochs.length (any_iff (xs := w.Epochs) (p := fun e => hasL e.Tags t) ⟨0, []⟩) (by
        intro i hi
        have h1 : decide ((i : Int) < (w.Epochs.length : Int)) = true := decide_eq_true (by omega)
        rw [h1, cond_true, idx_atG ⟨0, []⟩ rfl hi]
        simp only [bindS]
        have ht := hw.tags _ (List.getElem_mem hi)
        have e : w.Epochs.getD i ⟨0, []⟩ = w.Epochs[i] := by simp [hi]
        unfold f_window_Has_1
        rw [e, contains_eq ht]
        simp only [bindS]
        rw [wrap64 (by omega)]; cases hasL w.Epochs[i].Tags t <;> rfl) (bif_ff (decide_eq_false (by omega))) rfl
  rw [h1]
  cases hc : hasS w t with
  | true => obtain ⟨i, _, rfl⟩ := h3 hc; simp
  | false => rw [h2 hc]; rfl
theorem ref_Has {w : Api_Window} (hw : SmallW w) {t : List Int} : f_churnref16_Has w t = some (hasS w t) := by
  unfold f_churnref16_Has
  have he := hw.eps
  rw [run_scan (p := fun i => hasL (w.Epochs.getD i ⟨0, []⟩).Tags t) (good := .inl ()) (bad := .inr true) (hasS w t) 0 w.Epochs.length (by omega) (by have := any_iff (xs := w.Epochs) (p := fun e => hasL e.Tags t) ⟨0, []⟩; rw [show hasS w t = w.Epochs.any (fun e => hasL e.Tags t) from rfl, this]; simp) ?_ (bif_ff (decide_eq_false (by omega))) (by rfl)]
  · cases hasS w t <;> rfl
  · intro i _ hi
    have h1 : decide ((i : Int) < (w.Epochs.length : Int)) = true := decide_eq_true (by omega)
    have ht := hw.tags _ (List.getElem_mem hi)
    have e : w.Epochs.getD i ⟨0, []⟩ = w.Epochs[i] := by simp [hi]
    rw [e, h1, cond_true]
    rw [run_scan (p := fun j => w.Epochs[i].Tags.getD j [] == t) (good := .inl ()) (bad := .inr true) (hasL w.Epochs[i].Tags t) 0 w.Epochs[i].Tags.length (by omega) (by have := any_iff (xs := w.Epochs[i].Tags) (p := fun x => x == t) []; rw [show hasL w.Epochs[i].Tags t = w.Epochs[i].Tags.any (fun x => x == t) from rfl, this]; simp) ?_ ?_ (by rfl)]
    · rw [wrap64 (by omega)]; cases hasL w.Epochs[i].Tags t <;> rfl
    · intro j _ hj
      have h2 : decide ((j : Int) < (w.Epochs[i].Tags.length : Int)) = true := decide_eq_true (by omega)
      rw [idx_nat hi]
      simp only [bindS]
      rw [h2, cond_true, idx_atG [] rfl hj]
      simp only [bindS]
      rw [wrap64 (by omega)]; cases w.Epochs[i].Tags.getD j [] == t <;> rfl
    · rw [idx_nat hi]
      simp only [bindS]
      exact bif_ff (decide_eq_false (by omega))
/-! ### right configurations -/
theorem within_eq : f_churnref21_within = f_round_within := rfl
theorem right_eq (c : Api_Config) : f_churnref21_Right c = f_round_right c := rfl
theorem right_some (c : Api_Config) : ∃ b, f_round_right c = some b := by
  unfold f_round_right
  have key : ∀ (x a b e : Int) (y : Bool), ∃ z, (bif y then (f_round_within x a b).bind fun y4 => some y4 else some false : Option Bool) = some z := fun x a b e y => by cases y <;> exact ⟨_, rfl⟩
  obtain ⟨z1, e1⟩ := key c.Left 1 8 0 ((c.Master.length : Int) == 32)
  rw [e1]; simp only [bindS]
  obtain ⟨z2, e2⟩ := key c.Span 1 8 0 z1
  rw [e2]; simp only [bindS]
  obtain ⟨z3, e3⟩ := key c.Room 0 4096 0 z2
  rw [e3]; simp only [bindS]
  obtain ⟨z4, e4⟩ := key c.Den 1 1000 0 z3
  rw [e4]; simp only [bindS]
  obtain ⟨z5, e5⟩ := key c.Num 0 c.Den 0 z4
  rw [e5]; simp only [bindS]
  obtain ⟨z6, e6⟩ := key c.Noise 0 16 0 z5
  rw [e6]; simp only [bindS]
  obtain ⟨z7, e7⟩ := key c.Chunks 1 64 0 z6
  rw [e7]; simp only [bindS]
  obtain ⟨z8, e8⟩ := key c.Workers 1 64 0 z7
  rw [e8]; simp only [bindS]
  obtain ⟨z9, e9⟩ := key c.Cap 0 1024 0 z8
  rw [e9]; simp only [bindS]
  obtain ⟨z10, e10⟩ := key c.Shards 1 64 0 z9
  rw [e10]; exact ⟨_, rfl⟩
/-! ### a count by key -/
theorem mfind_mset_ne {α β : Type} [BEq α] [LawfulBEq α] {x y : α} {v : β} (h : (x == y) = false) : ∀ {ps : List (α × β)}, mfind x (mset y v ps) = mfind x ps
  | [] => by simp [mset, mfind, h]
  | p :: ps => by
    unfold mset
    cases hy : (y == p.1) with
    | true =>
      have := eq_of_beq hy
      simp only [cond_true]
      unfold mfind
      rw [← this, h]; rfl
    | false =>
      simp only [cond_false]
      unfold mfind
      rw [mfind_mset_ne h]
/-! ### Sift -/
section
variable (P : Nat → Api_Peeled × Int) (w : Api_Window)
def okS (i : Nat) : Bool := (P i).2 == 0
def rpS (i : Nat) : List Int := (P i).1.Replay
def anyS (r : List Int) (i : Nat) : Bool := (List.range i).any fun k => okS P k && rpS P k == r
def hitS (i : Nat) : Bool := hasS w (rpS P i) || anyS P (rpS P i) i
def stepS (s : List Api_Peeled × Api_Report) (i : Nat) : List Api_Peeled × Api_Report :=
  bif okS P i then (bif hitS P w i then (s.1, { s.2 with Replays := IntKind.wrap .i64 (s.2.Replays + 1) }) else (s.1 ++ [(P i).1], s.2))
  else (s.1, { s.2 with Malformed := IntKind.wrap .i64 (s.2.Malformed + 1) })
def stS (n : Nat) : Nat → List Api_Peeled × Api_Report
  | 0 => ([], ⟨(n : Int), 0, 0, 0, 0⟩)
  | i + 1 => stepS P w (stS n i) i
def seenS : Nat → List (List Int × Int)
  | 0 => []
  | i + 1 => bif okS P i then mset (rpS P i) (IntKind.wrap .i64 (mgetD (rpS P i) (seenS i) 0 + 1)) (mset (rpS P i) (mgetD (rpS P i) (seenS i) 0) (seenS i)) else seenS i
theorem anyS_succ (r : List Int) (i : Nat) : anyS P r (i + 1) = (anyS P r i || (okS P i && rpS P i == r)) := by
  unfold anyS; rw [List.range_succ, List.any_append]; simp
theorem seen_count : ∀ (i : Nat) (r : List Int), i < 2 ^ 40 → 0 ≤ mgetD r (seenS P i) 0 ∧ mgetD r (seenS P i) 0 ≤ i ∧ (decide (mgetD r (seenS P i) 0 > 0) = anyS P r i)
  | 0, r, _ => by simp [seenS, mgetD, mfind, anyS]
  | i + 1, r, h => by
    obtain ⟨h1, h2, h3⟩ := seen_count i r (by omega)
    unfold seenS
    rw [anyS_succ]
    cases ho : okS P i with
    | false => simp only [cond_false, Bool.false_and, Bool.or_false]; exact ⟨h1, by omega, h3⟩
    | true =>
      simp only [cond_true, Bool.true_and]
      by_cases hr : rpS P i = r
      · subst hr
        have e : mgetD (rpS P i) (mset (rpS P i) (IntKind.wrap .i64 (mgetD (rpS P i) (seenS P i) 0 + 1)) (mset (rpS P i) (mgetD (rpS P i) (seenS P i) 0) (seenS P i))) 0 = mgetD (rpS P i) (seenS P i) 0 + 1 := by
          rw [mgetD_mset, wrap64 (by omega)]
        refine ⟨by rw [e]; omega, by rw [e]; omega, ?_⟩
        simp only [e]
        simp; omega
      · have hb : (rpS P i == r) = false := beq_false_of_ne hr
        have hb' : (r == rpS P i) = false := beq_false_of_ne fun e => hr e.symm
        have e : mgetD r (mset (rpS P i) (IntKind.wrap .i64 (mgetD (rpS P i) (seenS P i) 0 + 1)) (mset (rpS P i) (mgetD (rpS P i) (seenS P i) 0) (seenS P i))) 0 = mgetD r (seenS P i) 0 := by
          unfold mgetD; rw [mfind_mset_ne hb', mfind_mset_ne hb']
        refine ⟨by rw [e]; exact h1, by rw [e]; omega, ?_⟩
        simp only [e]
        rw [hb, Bool.or_false]; exact h3
theorem st_len (n : Nat) : ∀ i, (stS P w n i).1.length ≤ i
  | 0 => by simp [stS]
  | i + 1 => by
    have := st_len n i
    unfold stS stepS
    cases okS P i <;> cases hitS P w i <;> simp <;> omega
end
/-- Sift, as both make it. -/
noncomputable def siftS (c : Api_Config) (w : Api_Window) (b : Api_Batch) : List Api_Peeled × Api_Report × Int :=
  bif !((f_round_right c).getD false) then ([], ⟨0, 0, 0, 0, 0⟩, 210)
  else bif (keyS c.Master b.Header.Epoch).2 != 0 then ([], ⟨0, 0, 0, 0, 0⟩, (keyS c.Master b.Header.Epoch).2)
  else ((stS (fun i => peelS (keyS c.Master b.Header.Epoch).1 c.Left (b.Cells.getD i [])) w b.Cells.length b.Cells.length).1, (stS (fun i => peelS (keyS c.Master b.Header.Epoch).1 c.Left (b.Cells.getD i [])) w b.Cells.length b.Cells.length).2, 0)
theorem round_Sift {c : Api_Config} {w : Api_Window} {b : Api_Batch} (hw : SmallW w) (hc : ∀ x ∈ b.Cells, byteL x) (hn : b.Cells.length < 2 ^ 30) : f_round_Sift c w b = some (siftS c w b) := by
  unfold f_round_Sift siftS
  obtain ⟨rb, hr⟩ := right_some c
  rw [hr]
  simp only [bindS, Option.getD_some]
  cases rb with
  | false => rfl
  | true =>
    simp only [Bool.not_true, cond_false]
    rw [route_Key]
    simp only [bindS]
    cases hk : ((keyS c.Master b.Header.Epoch).2 != 0) with
    | true => rfl
    | false =>
      simp only [cond_false]
      have hkl := keyS_len (key := c.Master) (e := b.Header.Epoch) (by simpa using hk)
      generalize (keyS c.Master b.Header.Epoch).1 = key at *
      obtain ⟨Q, hQ⟩ : ∃ Q : Nat → Api_Peeled × Int, Q = fun i => peelS key c.Left (b.Cells.getD i []) := ⟨_, rfl⟩
      have hpe : ∀ i (hi : i < b.Cells.length), f_onion_Peel key c.Left (b.Cells.getD i []) = some (Q i) := fun i hi => by
        rw [hQ]
        have e : b.Cells.getD i [] = b.Cells[i] := by simp [hi]
        show _ = some (peelS key c.Left (b.Cells.getD i []))
        rw [e, onion_Peel (by omega) (hc _ (List.getElem_mem hi))]
      rw [← hQ]
      rw [run_for (fun i => ((stS Q w b.Cells.length i).1, (i : Int), (stS Q w b.Cells.length i).2, seenS Q i)) 0 b.Cells.length (r := ((stS Q w b.Cells.length b.Cells.length).2, (stS Q w b.Cells.length b.Cells.length).1)) (by omega) ?_ (bif_ff (decide_eq_false (by show ¬ (b.Cells.length : Int) < (b.Cells.length : Int); omega))) (by rfl)]
      · rfl
      · intro i _ hi
        have h1 : decide ((i : Int) < (b.Cells.length : Int)) = true := decide_eq_true (by omega)
        simp only [h1, cond_true]
        rw [idx_atG [] rfl hi]
        simp only [bindS]
        rw [hpe i hi]
        simp only [bindS]
        obtain ⟨s1, s2, s3⟩ := seen_count Q i (rpS Q i) (by omega)
        have hlen := st_len Q w b.Cells.length i
        have hst : stS Q w b.Cells.length (i + 1) = stepS Q w (stS Q w b.Cells.length i) i := rfl
        have hse : seenS Q (i + 1) = bif okS Q i then mset (rpS Q i) (IntKind.wrap .i64 (mgetD (rpS Q i) (seenS Q i) 0 + 1)) (mset (rpS Q i) (mgetD (rpS Q i) (seenS Q i) 0) (seenS Q i)) else seenS Q i := rfl
        rw [hst, hse, wrap64 (x := (i : Int) + 1) (by omega)]
        generalize stS Q w b.Cells.length i = st at *
        generalize seenS Q i = se at *
        unfold stepS hitS
        have ho : ((Q i).2 != 0) = !okS Q i := rfl
        rw [ho]
        cases okS Q i with
        | false => rfl
        | true =>
          have hrp : (Q i).1.Replay = rpS Q i := rfl
          simp only [Bool.not_true, cond_false, cond_true]
          rw [hrp, window_Has hw, s3]
          cases anyS Q (rpS Q i) i with
          | true => rw [Bool.or_true]; rfl
          | false =>
            rw [Bool.or_false]
            simp only [cond_false, bindS]
            cases hasS w (rpS Q i) with
            | true => rfl
            | false =>
              simp only [cond_false]
              rw [app_eq (by simp [room]; omega)]; rfl
/-! ### the reference's -/
def fateS (P : Nat → Api_Peeled × Int) (w : Api_Window) (i : Nat) : Int := bif okS P i then (bif hitS P w i then 1 else 2) else 0
theorem fate_pos (P : Nat → Api_Peeled × Int) (w : Api_Window) (i : Nat) : decide (fateS P w i > 0) = okS P i := by
  unfold fateS; cases okS P i <;> cases hitS P w i <;> decide
theorem ref_Fate {key : List Int} {l : Int} {w : Api_Window} {cs : List (List Int)} (hkl : key.length = 32) (hw : SmallW w) (hc : ∀ x ∈ cs, byteL x) (hn : cs.length < 2 ^ 30) :
    f_churnref21_Fate key l w cs = some ((List.range cs.length).map (fateS (fun i => peelS key l (cs.getD i [])) w), (List.range cs.length).map fun i => (peelS key l (cs.getD i [])).1) := by
  unfold f_churnref21_Fate
  have hroom : room = 17179869184 := rfl
  obtain ⟨Q, hQ⟩ : ∃ Q : Nat → Api_Peeled × Int, Q = fun i => peelS key l (cs.getD i []) := ⟨_, rfl⟩
  have hpe : ∀ i (hi : i < cs.length), f_churnref07_Peel key l (cs.getD i []) = some (Q i) := fun i hi => by
    rw [hQ]
    have e : cs.getD i [] = cs[i] := by simp [hi]
    show _ = some (peelS key l (cs.getD i []))
    rw [e, ref_Peel (by omega) (hc _ (List.getElem_mem hi))]
  have hq : (fun i => (peelS key l (cs.getD i [])).1) = fun i => (Q i).1 := by rw [hQ]
  rw [← hQ, hq]
  rw [run_for (fun i => ((List.range i).map (fateS Q w), (List.range i).map (fun i => (Q i).1), (i : Int))) 0 cs.length (r := ((List.range cs.length).map (fateS Q w), (List.range cs.length).map fun i => (Q i).1)) (by omega) ?_ (bif_ff (decide_eq_false (by show ¬ (cs.length : Int) < (cs.length : Int); omega))) (by rfl)]
  · rfl
  · intro i _ hi
    have h1 : decide ((i : Int) < (cs.length : Int)) = true := decide_eq_true (by omega)
    simp only [h1, cond_true]
    rw [idx_atG [] rfl hi]
    simp only [bindS]
    rw [hpe i hi]
    simp only [bindS]
    have ho : ((Q i).2 == 0) = okS Q i := rfl
    have hrp : (Q i).1.Replay = rpS Q i := rfl
    rw [ho, hrp, ref_Has hw]
    simp only [bindS]
    have ef : (bif okS Q i then
          ((bif hasS w (rpS Q i) then some 1 else some 2 : Option Int).bind fun x3949 =>
          (Loop.run (S := (Int × Int)) (R := Int) (fun (x4001, x4002) =>
              bif decide (x4002 < (i : Int)) then
                (((idx ((List.range i).map (fateS Q w)) x4002).bind fun x4044 =>
                ((bif decide (x4044 > 0) then
                  (idx ((List.range i).map (fun i => (Q i).1)) x4002).bind fun x4046 =>
                  some (x4046.Replay == rpS Q i)
                else
                  some false
                  : Option Bool)).bind fun x4048 =>
                bif x4048 then
                  some 1
                else
                  some x4001
                  : Option Int)).bind fun x4040 =>
                some (.next (x4040, IntKind.wrap .i64 (x4002 + 1)))
              else
                some (.done x4001)) (x3949, 0)).bind fun x4026 =>
          some x4026)
        else
          some 0
          : Option Int) = some (fateS Q w i) := by
      have hf : fateS Q w i = bif okS Q i then (bif hitS Q w i then 1 else 2) else 0 := rfl
      rw [hf]
      cases okS Q i with
      | false => rfl
      | true =>
        simp only [cond_true]
        have e0 : (bif hasS w (rpS Q i) then some 1 else some 2 : Option Int) = some (bif hasS w (rpS Q i) then 1 else 2) := by cases hasS w (rpS Q i) <;> rfl
        rw [e0]
        simp only [bindS]
        rw [run_for (fun k => ((bif hasS w (rpS Q i) || anyS Q (rpS Q i) k then 1 else 2 : Int), (k : Int))) 0 i (r := (bif hitS Q w i then 1 else 2 : Int)) (by omega) ?_ (bif_ff (decide_eq_false (by show ¬ (i : Int) < (i : Int); omega))) (by show (_, _) = (bif _ || false then _ else _, _); rw [Bool.or_false]; rfl)]
        · rfl
        · intro k _ hk
          have h2 : decide ((k : Int) < (i : Int)) = true := decide_eq_true (by omega)
          simp only [h2, cond_true]
          rw [idx_at (i := k) rfl (by simp; omega), rmap_getD hk]
          simp only [bindS]
          rw [fate_pos, anyS_succ, idx_atG (i := k) zeroP rfl (by simp; omega)]
          have e3 : ((List.range i).map (fun i => (Q i).1)).getD k zeroP = (Q k).1 := by simp [hk]
          have e4 : (Q k).1.Replay = rpS Q k := rfl
          rw [e3]
          simp only [bindS]
          rw [e4, wrap64 (by omega)]
          cases okS Q k <;> cases (rpS Q k == rpS Q i) <;> cases hasS w (rpS Q i) <;> cases anyS Q (rpS Q i) k <;> rfl
    have ef' := ef
    cases hok : okS Q i with
    | false =>
      have e0 : fateS Q w i = 0 := by unfold fateS; rw [hok]; rfl
      simp only [cond_false, bindS]
      rw [app_eq (by rw [hroom]; simp; omega), app_eq (by rw [hroom]; simp; omega)]
      simp only [bindS]
      rw [wrap64 (by omega), List.range_succ, List.map_append, List.map_append]
      simp only [List.map_cons, List.map_nil]
      rw [e0]; rfl
    | true =>
      rw [hok] at ef
      simp only [cond_true] at ef ⊢
      rw [ef]
      simp only [bindS]
      rw [app_eq (by rw [hroom]; simp; omega), app_eq (by rw [hroom]; simp; omega)]
      simp only [bindS]
      rw [wrap64 (by omega), List.range_succ, List.map_append, List.map_append]; rfl
theorem ref_Sift {c : Api_Config} {w : Api_Window} {b : Api_Batch} (hw : SmallW w) (hc : ∀ x ∈ b.Cells, byteL x) (hn : b.Cells.length < 2 ^ 30) : f_churnref21_Sift c w b = some (siftS c w b) := by
  unfold f_churnref21_Sift siftS
  obtain ⟨rb, hr⟩ := right_some c
  rw [right_eq, hr]
  simp only [bindS, Option.getD_some]
  cases rb with
  | false => rfl
  | true =>
    simp only [Bool.not_true, cond_false]
    rw [ref_Key]
    simp only [bindS]
    cases hk : ((keyS c.Master b.Header.Epoch).2 != 0) with
    | true => rfl
    | false =>
      simp only [cond_false]
      have hkl := keyS_len (key := c.Master) (e := b.Header.Epoch) (by simpa using hk)
      generalize (keyS c.Master b.Header.Epoch).1 = key at *
      rw [ref_Fate hkl hw hc hn]
      simp only [bindS]
      obtain ⟨Q, hQ⟩ : ∃ Q : Nat → Api_Peeled × Int, Q = fun i => peelS key c.Left (b.Cells.getD i []) := ⟨_, rfl⟩
      have hq : (fun i => (peelS key c.Left (b.Cells.getD i [])).1) = fun i => (Q i).1 := by rw [hQ]
      rw [← hQ, hq]
      rw [run_for (fun i => ((stS Q w b.Cells.length i).1, (i : Int), (stS Q w b.Cells.length i).2)) 0 b.Cells.length (r := ((stS Q w b.Cells.length b.Cells.length).2, (stS Q w b.Cells.length b.Cells.length).1)) (by omega) ?_ (bif_ff (decide_eq_false (by simp))) (by rfl)]
      · rfl
      · intro i _ hi
        have h1 : decide ((i : Int) < (((List.range b.Cells.length).map (fateS Q w)).length : Int)) = true := decide_eq_true (by simp; omega)
        simp only [h1, cond_true]
        rw [idx_at (i := i) rfl (by simp; omega), rmap_getD hi]
        simp only [bindS]
        have hlen := st_len Q w b.Cells.length i
        have hst : stS Q w b.Cells.length (i + 1) = stepS Q w (stS Q w b.Cells.length i) i := rfl
        rw [hst, wrap64 (x := (i : Int) + 1) (by omega), idx_atG (i := i) zeroP rfl (by simp; omega)]
        have e3 : ((List.range b.Cells.length).map (fun i => (Q i).1)).getD i zeroP = (Q i).1 := by simp [hi]
        rw [e3]
        generalize stS Q w b.Cells.length i = st at *
        unfold stepS fateS
        simp only [bindS]
        rw [app_eq (by simp [room]; omega)]
        cases okS Q i <;> cases hitS Q w i <;> rfl
end Go.Proofs.YtgllljocmpbooaaDoor

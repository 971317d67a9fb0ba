/- LawWin: what window.Check and churnref16.Check come to. -/
import Derived.Test.YtgllljocmpbooaaWn3
import Derived.Test.YtgllljocmpbooaaSimC
set_option linter.unusedVariables false
set_option linter.unusedSimpArgs false
namespace Go.Proofs.Ytgllljocmpbooaa
open Go Go.Sim

def tagsOf (w : Api_Window) : List (List Int) := w.Epochs.flatMap (·.Tags)
def lenOf (w : Api_Window) : Nat := (tagsOf w).length
structure GoodW (w : Api_Window) : Prop where
  newest : gInt .i64 w.Newest
  num : ∀ e ∈ w.Epochs, gInt .i64 e.Number
  tag : ∀ t ∈ tagsOf w, t.length = 16 ∧ byteL t
  len : lenOf w ≤ 1048576
  eps : w.Epochs.length ≤ 1048576
def part (w : Api_Window) (i : Nat) : List (List Int) := (w.Epochs.take i).flatMap (·.Tags)
theorem part_succ {w : Api_Window} {i : Nat} (h : i < w.Epochs.length) : part w (i + 1) = part w i ++ w.Epochs[i].Tags := by
  unfold part; rw [List.take_succ_eq_append_getElem h, List.flatMap_append]; simp
theorem part_all (w : Api_Window) : part w w.Epochs.length = tagsOf w := by simp [part, tagsOf]
theorem part_split (w : Api_Window) (i : Nat) : tagsOf w = part w i ++ (w.Epochs.drop i).flatMap (·.Tags) := by
  unfold part tagsOf; rw [← List.flatMap_append, List.take_append_drop]
theorem part_le (w : Api_Window) (i : Nat) : (part w i).length ≤ lenOf w := by
  unfold lenOf; rw [part_split w i, List.length_append]; omega
theorem ep_le {w : Api_Window} {i : Nat} (h : i < w.Epochs.length) : w.Epochs[i].Tags.length ≤ lenOf w := by
  have := part_le w (i + 1); rw [part_succ h, List.length_append] at this; omega
theorem ep_tag {w : Api_Window} {i : Nat} (h : i < w.Epochs.length) {t : List Int} (ht : t ∈ w.Epochs[i].Tags) : t ∈ tagsOf w :=
  List.mem_flatMap.2 ⟨_, List.getElem_mem h, ht⟩

theorem i64_range {x : Int} (h : gInt .i64 x) : -9223372036854775808 ≤ x ∧ x ≤ 9223372036854775807 := h

section
variable {w : Api_Window}
theorem window_Len (hw : GoodW w) : f_window_Len w = some (lenOf w : Int) := by
  have hl := hw.len
  have he := hw.eps
  unfold f_window_Len
  rw [Loop.run_eq0 (st := fun i => (((part w i).length : Int), (i : Int))) (res := fun _ => (lenOf w : Int)) (n := w.Epochs.length)]
  · rfl
  · intro i hi
    left
    have h1 : (i : Int) < (w.Epochs.length : Int) := by omega
    have h2 := part_le w (i + 1)
    rw [part_succ hi, List.length_append] at h2
    refine ⟨?_, rfl⟩
    simp only [h1, decide_true, cond_true, idx_nat hi, Option.bind_some]
    rw [wrap64 (by omega), wrap64 (by omega), part_succ hi, List.length_append]
    simp
  · simp [part_all, lenOf]
  · simp [part]
theorem ref16_Len (hw : GoodW w) : f_churnref16_Len w = some (lenOf w : Int) := by
  have hl := hw.len
  have he := hw.eps
  unfold f_churnref16_Len
  rw [Loop.run_eq0 (st := fun i => (((part w i).length : Int), (i : Int))) (res := fun _ => (lenOf w : Int)) (n := w.Epochs.length)]
  · rfl
  · intro i hi
    left
    have h1 : (i : Int) < (w.Epochs.length : Int) := by omega
    have h2 := part_le w (i + 1)
    rw [part_succ hi, List.length_append] at h2
    refine ⟨?_, rfl⟩
    simp only [h1, decide_true, cond_true, idx_nat hi, Option.bind_some]
    rw [wrap64 (by omega), wrap64 (by omega), part_succ hi, List.length_append]
    simp
  · simp [part_all, lenOf]
  · simp [part]
theorem ref16_all (hw : GoodW w) : f_churnref16_all w = some (tagsOf w) := by
  have hl := hw.len
  have he := hw.eps
  unfold f_churnref16_all
  rw [Loop.run_eq0 (st := fun i => (part w i, (i : Int))) (res := fun _ => tagsOf w) (n := w.Epochs.length)]
  · rfl
  · intro i hi
    left
    have h1 : (i : Int) < (w.Epochs.length : Int) := by omega
    have h2 := part_le w (i + 1)
    rw [part_succ hi, List.length_append] at h2
    refine ⟨?_, rfl⟩
    simp only [h1, decide_true, cond_true, idx_nat hi, Option.bind_some]
    rw [app_eq (by unfold room; omega), Option.bind_some, wrap64 (by omega), part_succ hi]
    simp
  · simp [part_all]
  · simp [part]
/-- The tags that have come, each once. -/
def keysOf (w : Api_Window) : List (List Int) := (tagsOf w).foldl addk []
theorem known_inner {ts : List (List Int)} (hl : ts.length ≤ 1048576) {v : Int} {m : List (List Int × Int)} :
    Loop.run (S := (Int × (List ((List Int) × Int)))) (R := (List ((List Int) × Int))) (fun (x483, x484) =>
            bif decide (x483 < (ts.length : Int)) then
              (idx ts x483).bind fun x494 =>
              some (.next (IntKind.wrap .i64 (x483 + 1), mset x494 v x484))
            else
              some (.done x484)) (0, m) = some (ts.foldl (fun m t => mset t v m) m) := by
  rw [Loop.run_eq0 (st := fun i => ((i : Int), (ts.take i).foldl (fun m t => mset t v m) m)) (res := fun _ => ts.foldl (fun m t => mset t v m) m) (n := ts.length)]
  · intro i hi
    left
    have h1 : (i : Int) < (ts.length : Int) := by omega
    refine ⟨?_, rfl⟩
    simp only [h1, decide_true, cond_true, idx_nat hi, Option.bind_some]
    rw [wrap64 (by omega), List.take_succ_eq_append_getElem hi, List.foldl_append]
    simp
  · simp
  · simp
theorem fold_keys (v : Int) : ∀ (ts : List (List Int)) (m : List (List Int × Int)), (ts.foldl (fun m t => mset t v m) m).map (·.1) = ts.foldl addk (m.map (·.1))
  | [], m => rfl
  | t :: ts, m => by rw [List.foldl_cons, fold_keys v ts, mset_keys]; rfl
def mapAt (w : Api_Window) : Nat → List (List Int × Int)
  | 0 => []
  | i + 1 => match w.Epochs[i]? with
    | some e => e.Tags.foldl (fun m t => mset t (i : Int) m) (mapAt w i)
    | none => mapAt w i
theorem mapAt_keys : ∀ i, i ≤ w.Epochs.length → (mapAt w i).map (·.1) = (part w i).foldl addk []
  | 0, _ => by simp [mapAt, part]
  | i + 1, h => by
    have hi : i < w.Epochs.length := h
    have : w.Epochs[i]? = some w.Epochs[i] := by simp [hi]
    rw [mapAt, this, part_succ hi, List.foldl_append, ← mapAt_keys i (by omega), ← fold_keys]
theorem window_known (hw : GoodW w) : ∃ m, f_window_known w = some m ∧ m.map (·.1) = keysOf w := by
  have hl := hw.len
  have he := hw.eps
  refine ⟨mapAt w w.Epochs.length, ?_, by rw [mapAt_keys _ (Nat.le_refl _), part_all]; rfl⟩
  unfold f_window_known
  rw [Loop.run_eq0 (st := fun i => ((i : Int), mapAt w i)) (res := fun _ => mapAt w w.Epochs.length) (n := w.Epochs.length)]
  · rfl
  · intro i hi
    left
    have h1 : (i : Int) < (w.Epochs.length : Int) := by omega
    have h2 := ep_le hi
    refine ⟨?_, rfl⟩
    simp only [h1, decide_true, cond_true, idx_nat hi, Option.bind_some]
    rw [known_inner (by omega)]
    simp only [Option.bind_some]
    rw [wrap64 (by omega)]
    have h3 : w.Epochs[i]? = some w.Epochs[i] := by simp [hi]
    simp only [mapAt, h3]
    simp
  · simp
  · simp [mapAt]
end

/-! ### Order -/
theorem less_eq {a b : List Int} (ha : a.length = 16) (hb : b.length = 16) : f_churnref16_less a b = some (ltL a b) := by
  unfold f_churnref16_less
  have key : ∀ i, i < 16 → (a.drop i = a.getD i 0 :: a.drop (i + 1)) ∧ (b.drop i = b.getD i 0 :: b.drop (i + 1)) := by
    intro i hi
    constructor
    · rw [List.drop_eq_getElem_cons (by omega)]; simp [show i < a.length by omega]
    · rw [List.drop_eq_getElem_cons (by omega)]; simp [show i < b.length by omega]
  rw [Loop.run_eq0 (st := fun i => (i : Int)) (res := fun i => if a.drop i = b.drop i then (Sum.inl () : Unit ⊕ Bool) else .inr (ltL (a.drop i) (b.drop i))) (n := 16)]
  · simp only [List.drop_zero]
    by_cases h : a = b
    · subst h; simp [ltL_irrefl]
    · simp [h]
  · intro i hi
    obtain ⟨k1, k2⟩ := key i hi
    have h1 : (i : Int) < 16 := by omega
    have ia := idx_nat (xs := a) (i := i) (by omega)
    have ib := idx_nat (xs := b) (i := i) (by omega)
    have ea : a.getD i 0 = a[i] := by simp [show i < a.length by omega]
    have eb : b.getD i 0 = b[i] := by simp [show i < b.length by omega]
    by_cases hne : a[i] = b[i]
    · left
      constructor
      · simp only [h1, decide_true, cond_true, ia, ib, Option.bind_some, hne, bne_self_eq_false, cond_false]
        rw [wrap64 (by omega)]; simp
      · rw [k1, k2, ea, eb, hne]
        generalize a.drop (i + 1) = p
        generalize b.drop (i + 1) = q
        generalize b[i] = z
        simp [ltL]
    · right
      have hb' : (a[i] != b[i]) = true := by simpa using hne
      simp only [h1, decide_true, cond_true, ia, ib, Option.bind_some, hb']
      rw [k1, k2, ea, eb]
      generalize a.drop (i + 1) = p
      generalize b.drop (i + 1) = q
      generalize a[i] = y at hne ⊢
      generalize b[i] = z at hne ⊢
      simp [ltL, hne]
  · simp [List.drop_eq_nil_of_le (show a.length ≤ 16 by omega), List.drop_eq_nil_of_le (show b.length ≤ 16 by omega)]
  · rfl
theorem order_eq {a b : List Int} : f_window_order a b = some (cmpB a b) := by simp [f_window_order, f_bytes_Compare]

/-- No tag goes ahead of the one before it. -/
def upB : List (List Int) → Nat → Bool
  | ts, 0 => true
  | ts, i + 1 => upB ts i && !(ltL (ts.getD (i + 1) []) (ts.getD i []))
theorem isSorted_eq {ts : List (List Int)} (ht : ∀ t ∈ ts, t.length = 16 ∧ byteL t) (hl : ts.length ≤ 1048576) : f_slices_IsSortedFunc_window_order ts = some (upB ts (ts.length - 1)) := by
  unfold f_slices_IsSortedFunc_window_order
  rcases Nat.eq_zero_or_pos ts.length with h0 | h0
  · have : ts = [] := List.eq_nil_of_length_eq_zero h0
    subst this
    rw [Loop.run_done (r := (.inl () : Unit ⊕ Bool))]
    · rfl
    · simp [wrap64]
  rw [wrap64 (by omega)]
  rw [Loop.run_eq0 (st := fun j => (ts.length : Int) - 1 - j) (res := fun j => if upB ts (ts.length - 1 - j) = true then (Sum.inl () : Unit ⊕ Bool) else .inr false) (n := ts.length - 1)]
  · simp only [Nat.sub_zero]
    cases upB ts (ts.length - 1) <;> simp
  · intro j hj
    have e1 : (ts.length : Int) - 1 - j = ((ts.length - 1 - j : Nat) : Int) := by omega
    have e2 : (ts.length : Int) - 1 - ((j + 1 : Nat) : Int) = ((ts.length - 1 - (j + 1) : Nat) : Int) := by omega
    have e3 : ts.length - 1 - j = (ts.length - 1 - (j + 1)) + 1 := by omega
    generalize hk : ts.length - 1 - (j + 1) = k at e2 e3
    have hk1 : k + 1 < ts.length := by omega
    have h1 : (((k + 1 : Nat) : Int) > 0) := by omega
    have t1 := ht ts[k + 1] (List.getElem_mem hk1)
    have t2 := ht ts[k] (List.getElem_mem (by omega))
    have hc := cmpB_lt t1.2 t2.2 (by rw [t1.1, t2.1])
    have g1 : ts.getD (k + 1) [] = ts[k + 1] := by simp [hk1]
    have g2 : ts.getD k [] = ts[k] := by simp [show k < ts.length by omega]
    simp only [e1, e2, e3, h1, decide_true, cond_true, idx_nat hk1, Option.bind_some, upB, g1, g2]
    rw [wrap64 (by omega), show (((k + 1 : Nat) : Int) - 1) = (k : Int) by omega, idx_nat (show k < ts.length by omega)]
    simp only [Option.bind_some, order_eq]
    by_cases hlt : ltL ts[k + 1] ts[k] = true
    · right
      simp [hc.2 hlt, hlt]
    · left
      have hlt' : ltL ts[k + 1] ts[k] = false := by simpa using hlt
      have hc' : ¬ cmpB ts[k + 1] ts[k] < 0 := fun h => hlt (hc.1 h)
      simp [hc', hlt']
  · have e1 : (ts.length : Int) - 1 - ((ts.length - 1 : Nat) : Int) = 0 := by omega
    simp [e1, upB]
  · simp
end Go.Proofs.Ytgllljocmpbooaa

/- LawHoldsB: WindowHolds is true of every input (of bulk up to 1048576). -/
import Derived.Test.YtgllljocmpbooaaLawPutB
import Derived.Test.YtgllljocmpbooaaWindowHoldsS
set_option linter.unusedVariables false
set_option linter.unusedSimpArgs false
namespace Go.Proofs.Ytgllljocmpbooaa
open Go Go.Sim
theorem in_eq {ts : List (List Int)} {t : List Int} (hl : ts.length ≤ 1048576) : f_churnlaw16_in ts t = some (decide (t ∈ ts)) := by
  unfold f_churnlaw16_in
  rw [loop_findE (st := fun i => (i : Int)) (n := ts.length) (p := fun i => ts.getD i [] == t) (good := .inl ()) (bad := fun i => .inr true)]
  · rcases find_mem (ts := ts) (t := t) (p := fun i => ts.getD i [] == t) (good := (.inl () : Unit ⊕ Bool)) (bad := fun i => .inr true) (fun j hj => by simp [hj]) with ⟨h1, h2⟩ | ⟨j, h1, h2⟩
    · rw [h1]; simp [h2]
    · rw [h2]; simp [h1]
  · intro i hi
    have h1 : (i : Int) < (ts.length : Int) := by omega
    simp only [h1, decide_true, cond_true, idx_nat hi, Option.bind_some]
    have : ts.getD i [] = ts[i] := by simp [hi]
    rw [this, wrap64 (by omega)]
    cases ts[i] == t <;> rfl
  · simp
  · simp
theorem one_ep {t : List Int} : ∀ {es : List Api_Epoch}, (es.flatMap (·.Tags)).Nodup → ∀ {x y : Api_Epoch}, x ∈ es → y ∈ es → t ∈ x.Tags → t ∈ y.Tags → x = y
  | [], _, _, _, h, _, _, _ => by cases h
  | e :: es, hn, x, y, hx, hy, tx, ty => by
    rw [List.flatMap_cons] at hn
    obtain ⟨_, h2, h3⟩ := List.nodup_append.1 hn
    rcases List.mem_cons.1 hx with rfl | hx2 <;> rcases List.mem_cons.1 hy with rfl | hy2
    · rfl
    · exact absurd rfl (h3 t tx t (List.mem_flatMap.2 ⟨_, hy2, ty⟩))
    · exact absurd rfl (h3 t ty t (List.mem_flatMap.2 ⟨_, hx2, tx⟩))
    · exact one_ep h2 hx2 hy2 tx ty
theorem filt_has {w : Api_Window} (hn : (tagsOf w).Nodup) {m s : Int} {e : Api_Epoch} (he : e ∈ w.Epochs) {t : List Int} (ht : t ∈ e.Tags) :
    t ∈ tagsOf ⟨m, w.Epochs.filter (keep m s)⟩ ↔ keep m s e = true := by
  constructor
  · intro h
    obtain ⟨y, hy, ty⟩ := List.mem_flatMap.1 h
    obtain ⟨h1, h2⟩ := List.mem_filter.1 hy
    rw [one_ep hn he h1 ht ty]; exact h2
  · intro h
    exact List.mem_flatMap.2 ⟨e, List.mem_filter.2 ⟨he, h⟩, ht⟩
/-- The tags of the first epochs that are kept. -/
def keptN (w : Api_Window) (m s : Int) (i : Nat) : Nat := (((w.Epochs.take i).filter (keep m s)).flatMap (·.Tags)).length
theorem kept_succ {w : Api_Window} {m s : Int} {i : Nat} (h : i < w.Epochs.length) : keptN w m s (i + 1) = keptN w m s i + (bif keep m s w.Epochs[i] then w.Epochs[i].Tags.length else 0) := by
  unfold keptN
  rw [List.take_succ_eq_append_getElem h, List.filter_append, List.flatMap_append, List.length_append]
  congr 1
  cases hk : keep m s w.Epochs[i] <;> simp [List.filter_cons, hk]
theorem kept_le {w : Api_Window} {m s : Int} (i : Nat) : keptN w m s i ≤ lenOf w :=
  Nat.le_trans (sub_flat (List.filter_sublist)).length_le (part_le w i)
theorem lawHolds : DWindowHolds.Law := by
  intro o hg hb
  have g := goodJ_of hg (by omega)
  have gl := g.len
  have hw := g.w
  have hwn := i64_range hw.newest
  have hwl := hw.len
  have hwe := hw.eps
  have hsp := i64_range g.span
  unfold f_churnlaw16_WindowHolds
  rw [alive_eq]
  simp only [Option.bind_some, Bool.not_true, cond_false]
  obtain ⟨c, hc, hci⟩ := ref_check hw (s := o.Span) (r := o.Room)
  rw [hc]
  simp only [Option.bind_some]
  by_cases h0 : c = 0 ∧ ¬ ((o.Tags.length : Int) > 2000)
  case neg =>
    have : ((c != 0) || decide ((o.Tags.length : Int) > 2000)) = true := by
      by_cases hc0 : c = 0
      · simp only [Bool.or_eq_true, decide_eq_true_eq]; right; exact Classical.not_not.1 fun h => h0 ⟨hc0, h⟩
      · simp [hc0]
    rw [this]; rfl
  obtain ⟨hc0, ht2⟩ := h0
  have e0 : ((c != 0) || decide ((o.Tags.length : Int) > 2000)) = false := by simp [hc0]; omega
  rw [e0]
  simp only [cond_false]
  obtain ⟨hc1, hv⟩ := hci.1 hc0
  have hs := c1_iff.1 hc1
  rw [window_Open hw g.ep]
  simp only [Option.bind_some]
  -- behind Open
  have fin : ∀ x : Api_Window, GoodW x → ((openS o.W o.Epoch o.Span).2 = 0 → VW x o.Span o.Room ∧ 0 ≤ o.Epoch ∧ o.Epoch ≤ x.Newest ∧ x.Newest - o.Epoch < o.Span) → VW x 8 4096 →
      ((f_window_Add x o.Epoch o.Tags o.Room).bind fun y1420 =>
          bif y1420.2 != 0 then
            some ((((y1420.1.Epochs.length : Int) == 0) && (y1420.1.Newest == 0)) && ((y1420.2 == 160) || ((openS o.W o.Epoch o.Span).2 != 0)))
          else
            ((bif (openS o.W o.Epoch o.Span).2 == 0 then
              (f_churnref16_Check y1420.1 o.Span o.Room).bind fun y1436 =>
              some (y1436 != 0)
            else
              some false
              : Option Bool)).bind fun x1435 =>
            bif x1435 || (y1420.1.Newest != x.Newest) then
              some false
            else
              (((Loop.run (S := (Int × Int)) (R := (Int ⊕ Bool)) (fun (x2663, x2664) =>
                  bif decide (x2664 < (y1420.1.Epochs.length : Int)) then
                    (((Loop.run (S := (Int × Int)) (R := (Int ⊕ Bool)) (fun (x2993, x2994) =>
                        (idx y1420.1.Epochs x2664).bind fun x3020 =>
                        bif decide (x2994 < (x3020.Tags.length : Int)) then
                          (idx y1420.1.Epochs x2664).bind fun x3022 =>
                          (idx x3022.Tags x2994).bind fun x3024 =>
                          (f_churnref16_Has x x3024).bind fun y3027 =>
                          ((bif !y3027 then
                            (idx y1420.1.Epochs x2664).bind fun x3032 =>
                            ((bif x3032.Number != o.Epoch then
                              some true
                            else
                              (f_churnlaw16_in o.Tags x3024).bind fun y3037 =>
                              some (!y3037)
                              : Option Bool)).bind fun x3036 =>
                            some x3036
                          else
                            some false
                            : Option Bool)).bind fun x3031 =>
                          bif x3031 then
                            some (.done (.inr false))
                          else
                            some (.next (IntKind.wrap .i64 (x2993 + 1), IntKind.wrap .i64 (x2994 + 1)))
                        else
                          some (.done (.inl x2993))) (x2663, 0)).bind fun r3017 => match r3017 with
                      | .inl x3014 =>
                        some (.inr x3014)
                      | .inr z =>
                        some (.inl z)
                      : Option (Bool ⊕ Int))).bind fun r2950 => match r2950 with
                      | .inl z =>
                        some (.done (.inr z))
                      | .inr x2949 =>
                        some (.next (x2949, IntKind.wrap .i64 (x2664 + 1)))
                  else
                    some (.done (.inl x2663))) (0, 0)).bind fun r2856 => match r2856 with
                | .inl x2853 =>
                  some (.inr x2853)
                | .inr z =>
                  some (.inl z)
                : Option (Bool ⊕ Int))).bind fun r2209 => match r2209 with
                | .inl z =>
                  some z
                | .inr x2208 =>
                  (((Loop.run (S := Int) (R := (Unit ⊕ Bool)) (fun x2262 =>
                      bif decide (x2262 < (o.Tags.length : Int)) then
                        (idx o.Tags x2262).bind fun x2272 =>
                        (f_window_Has y1420.1 x2272).bind fun y2274 =>
                        bif !y2274 then
                          some (.done (.inr false))
                        else
                          some (.next (IntKind.wrap .i64 (x2262 + 1)))
                      else
                        some (.done (.inl ()))) 0).bind fun r2269 => match r2269 with
                    | .inl _ =>
                      some (.inr ())
                    | .inr z =>
                      some (.inl z)
                    : Option (Bool ⊕ Unit))).bind fun r2239 => match r2239 with
                    | .inl z =>
                      some z
                    | .inr _ =>
                      (f_window_Len y1420.1).bind fun y2242 =>
                      ((bif x2208 == y2242 then
                        (f_window_Len x).bind fun y2247 =>
                        some (decide (x2208 ≥ y2247))
                      else
                        some false
                        : Option Bool)).bind fun x2246 =>
                      some (x2246 && (decide (x2208 ≤ o.Room)))) = some true := by
    intro x gx hx vx
    rw [window_Add gx g.ep g.tags (by omega)]
    simp only [Option.bind_some]
    by_cases h1 : (addS x o.Epoch o.Tags o.Room).2 = 0
    · obtain ⟨p1, p2, p3⟩ := put_good gx g.tags h1
      obtain ⟨_, _, _, q4, q5, _⟩ := addS_ok h1
      rw [h1, p3]
      have hnx : (put x o.Epoch o.Tags).Newest = x.Newest := rfl
      have hy := p2.len
      have hye := p2.eps
      have e1 : (bif (openS o.W o.Epoch o.Span).2 == 0 then (f_churnref16_Check (put x o.Epoch o.Tags) o.Span o.Room).bind fun y1436 => some (y1436 != 0) else some false : Option Bool) = some false := by
        by_cases h2 : (openS o.W o.Epoch o.Span).2 = 0
        · rw [h2]
          obtain ⟨a, b, c, d⟩ := hx h2
          obtain ⟨k, hk, hki⟩ := ref_check p2 (s := o.Span) (r := o.Room)
          rw [hk, hki.2 ⟨hc1, put_valid a g.tags gx.tag ⟨b, c, d⟩ (Int.le_refl _) q5⟩]; rfl
        · rw [beq_false_of_ne h2]; rfl
      rw [e1]
      simp only [bne_self_eq_false, cond_false, Option.bind_some, hnx, Bool.or_self]
      generalize hy0 : put x o.Epoch o.Tags = y at *
      have hp : ∀ n t, pairs y n t → pairs x n t ∨ (n = o.Epoch ∧ t ∈ o.Tags ∧ t ∉ tagsOf x) := fun n t h => by rw [← hy0] at h; exact put_pairs.1 h
      rw [Loop.run_eq0 (st := fun i => (((part y i).length : Int), (i : Int))) (res := fun _ => (.inl (lenOf y : Int) : Int ⊕ Bool)) (n := y.Epochs.length)]
      · simp only [Option.bind_some]
        rw [Loop.run_eq0 (st := fun i => (i : Int)) (res := fun _ => (.inl () : Unit ⊕ Bool)) (n := o.Tags.length)]
        · simp only [Option.bind_some]
          rw [window_Len p2, window_Len gx]
          have l1 : (lenOf y : Int) ≥ (lenOf x : Int) := by
            have := put_len (w := x) (ep := o.Epoch) (tags := o.Tags); rw [hy0] at this; omega
          have l2 : (lenOf y : Int) ≤ o.Room := by
            have := p1.len; exact this
          simp [l1, l2]
        · intro i hi
          left
          have h1 : (i : Int) < (o.Tags.length : Int) := by omega
          refine ⟨?_, rfl⟩
          simp only [h1, decide_true, cond_true, idx_nat hi, Option.bind_some]
          rw [window_Has p2]
          have : o.Tags[i] ∈ tagsOf y := by rw [← hy0]; exact put_tags.2 (.inr (List.getElem_mem hi))
          simp only [this, decide_true, Bool.not_true, cond_false, Option.bind_some]
          rw [wrap64 (by omega)]; simp
        · simp
        · rfl
      · intro i hi
        left
        have h1 : (i : Int) < (y.Epochs.length : Int) := by omega
        have h2 := part_le y (i + 1)
        rw [part_succ hi, List.length_append] at h2
        refine ⟨?_, rfl⟩
        simp only [h1, decide_true, cond_true]
        rw [Loop.run_eq0 (st := fun j => ((((part y i).length + j : Nat) : Int), (j : Int))) (res := fun _ => (.inl (((part y i).length + y.Epochs[i].Tags.length : Nat) : Int) : Int ⊕ Bool)) (n := y.Epochs[i].Tags.length)]
        · simp only [Option.bind_some]
          rw [wrap64 (by omega), part_succ hi, List.length_append]
          simp
        · intro j hj
          left
          have h3 : (j : Int) < (y.Epochs[i].Tags.length : Int) := by omega
          refine ⟨?_, rfl⟩
          simp only [idx_nat hi, Option.bind_some, h3, decide_true, cond_true, idx_nat hj]
          rw [ref16_Has gx]
          simp only [Option.bind_some]
          have hpp := hp y.Epochs[i].Number y.Epochs[i].Tags[j] ⟨y.Epochs[i], List.getElem_mem hi, rfl, List.getElem_mem hj⟩
          have e2 : ((bif !decide (y.Epochs[i].Tags[j] ∈ tagsOf x) then
                            ((bif y.Epochs[i].Number != o.Epoch then
                              some true
                            else
                              (f_churnlaw16_in o.Tags y.Epochs[i].Tags[j]).bind fun y3037 =>
                              some (!y3037)
                              : Option Bool)).bind fun x3036 =>
                            some x3036
                          else
                            some false
                            : Option Bool)) = some false := by
            rcases hpp with ⟨e, he, _, ht⟩ | ⟨e1, e2, e3⟩
            · have : y.Epochs[i].Tags[j] ∈ tagsOf x := List.mem_flatMap.2 ⟨e, he, ht⟩
              simp [this]
            · rw [in_eq (by omega)]
              simp [e1, e2, e3]
          rw [e2]
          simp only [Option.bind_some, cond_false]
          rw [wrap64 (by omega), wrap64 (by omega)]
          simp [Int.add_assoc]
        · simp [idx_nat hi]
        · simp
      · simp [part_all, lenOf]
      · simp [part]
    · rw [addS_err h1]
      have : ((addS x o.Epoch o.Tags o.Room).2 != 0) = true := by simp [h1]
      rw [this]
      simp only [cond_true]
      by_cases h2 : (openS o.W o.Epoch o.Span).2 = 0
      · obtain ⟨a, b, c, d⟩ := hx h2
        have hok : okB x = true := (okB_iff gx).2 vx
        have h3 : (addS x o.Epoch o.Tags o.Room).2 = 160 := by
          unfold addS at h1 ⊢
          have e1 : (decide (o.Room < 0) || decide (o.Room > 4096) || !okB x) = false := by rw [hok]; simp; omega
          have e2 : (decide (o.Epoch < 0) || !(decide (o.Epoch ≤ x.Newest) && decide (x.Newest - o.Epoch < 8))) = false := by
            simp only [Bool.or_eq_false_iff, Bool.not_eq_false', Bool.and_eq_true, decide_eq_true_eq, decide_eq_false_iff_not]; omega
          rw [e1, e2] at h1 ⊢
          cases h4 : decide ((lenOf x : Int) + ((freshS x o.Tags).length : Int) > o.Room) with
          | true => rfl
          | false => rw [h4] at h1; exact absurd rfl h1
        rw [h3]; rfl
      · have : ((openS o.W o.Epoch o.Span).2 != 0) = true := by simp [h2]
        rw [this]; simp
  by_cases h1 : (openS o.W o.Epoch o.Span).2 = 0
  · obtain ⟨a1, a2, a3⟩ := openS_ok h1
    have gx := openS_good hw (a := o.Epoch) (s := o.Span) g.ep
    have vx : VW (openS o.W o.Epoch o.Span).1 o.Span o.Room := by rw [a3]; exact openS_valid hv ⟨a1.2.2.1, a1.2.2.2⟩
    have hx := fin _ gx (fun _ => ⟨vx, a1.2.2.1, by rw [a3]; show o.Epoch ≤ max _ _; omega, by rw [a3]; show max o.W.Newest o.Epoch - o.Epoch < _; omega⟩) (vx.weaken (by omega) (by omega))
    have hl : (openS o.W o.Epoch o.Span).1 = ⟨max o.W.Newest o.Epoch, o.W.Epochs.filter (keep (max o.W.Newest o.Epoch) o.Span)⟩ := by rw [a3]
    rw [h1] at hx ⊢
    generalize hX : (openS o.W o.Epoch o.Span).1 = x at *
    simp only [beq_self_eq_true, cond_true]
    obtain ⟨k, hk, hki⟩ := ref_check gx (s := o.Span) (r := o.Room)
    rw [hk, hki.2 ⟨hc1, vx⟩]
    have hxn : x.Newest = max o.W.Newest o.Epoch := by rw [hl]
    simp only [Option.bind_some, hxn, bne_self_eq_false, Bool.or_self, cond_false]
    have hep := a1
    rw [Loop.run_eq0 (st := fun i => ((keptN o.W (max o.W.Newest o.Epoch) o.Span i : Int), (i : Int))) (res := fun _ => (.inl (lenOf x : Int) : Int ⊕ Bool)) (n := o.W.Epochs.length)]
    · simp only [Option.bind_some]
      rw [window_Len gx]
      simp only [Option.bind_some, bne_self_eq_false, cond_false]
      exact hx
    · intro i hi
      left
      have h2 : (i : Int) < (o.W.Epochs.length : Int) := by omega
      have h3 := kept_le (w := o.W) (m := max o.W.Newest o.Epoch) (s := o.Span) i
      have h4 := kept_le (w := o.W) (m := max o.W.Newest o.Epoch) (s := o.Span) (i + 1)
      have h5 := ep_le hi
      refine ⟨?_, rfl⟩
      simp only [h2, decide_true, cond_true, idx_nat hi, Option.bind_some]
      rw [wrap64 (x := max o.W.Newest o.Epoch - o.Span) (by omega)]
      have hkd : decide (o.W.Epochs[i].Number > max o.W.Newest o.Epoch - o.Span) = keep (max o.W.Newest o.Epoch) o.Span o.W.Epochs[i] := rfl
      rw [hkd]
      have hks := kept_succ (w := o.W) (m := max o.W.Newest o.Epoch) (s := o.Span) hi
      rw [Loop.run_eq0 (st := fun j => (((keptN o.W (max o.W.Newest o.Epoch) o.Span i + (bif keep (max o.W.Newest o.Epoch) o.Span o.W.Epochs[i] then j else 0) : Nat) : Int), (j : Int))) (res := fun _ => (.inl ((keptN o.W (max o.W.Newest o.Epoch) o.Span (i + 1) : Nat) : Int) : Int ⊕ Bool)) (n := o.W.Epochs[i].Tags.length)]
      · simp only [Option.bind_some]
        rw [wrap64 (by omega)]; simp
      · intro j hj
        left
        have h6 : (j : Int) < (o.W.Epochs[i].Tags.length : Int) := by omega
        refine ⟨?_, rfl⟩
        simp only [h6, decide_true, cond_true, idx_nat hj, Option.bind_some]
        rw [window_Has gx]
        have hh : decide (o.W.Epochs[i].Tags[j] ∈ tagsOf x) = keep (max o.W.Newest o.Epoch) o.Span o.W.Epochs[i] := by
          rw [hl]
          have := filt_has hv.nodup (m := max o.W.Newest o.Epoch) (s := o.Span) (List.getElem_mem hi) (List.getElem_mem hj)
          cases hkk : keep (max o.W.Newest o.Epoch) o.Span o.W.Epochs[i] with
          | true => exact decide_eq_true (this.2 hkk)
          | false => exact decide_eq_false fun h => by rw [this.1 h] at hkk; cases hkk
        rw [hh]
        simp only [Option.bind_some, bne_self_eq_false, cond_false]
        cases hkk : keep (max o.W.Newest o.Epoch) o.Span o.W.Epochs[i] with
        | true =>
          simp only [cond_true, Option.bind_some]
          rw [wrap64 (by omega), wrap64 (by omega)]
          simp [Int.add_assoc]
        | false =>
          simp only [cond_false, Option.bind_some]
          rw [wrap64 (by omega)]
          simp
      · have : ¬ ((o.W.Epochs[i].Tags.length : Int) < (o.W.Epochs[i].Tags.length : Int)) := by omega
        simp only [this, decide_false, cond_false]
        rw [hks]
      · simp
    · have : keptN o.W (max o.W.Newest o.Epoch) o.Span o.W.Epochs.length = lenOf x := by
        rw [hl]; simp [keptN, lenOf, tagsOf]
      simp [this]
    · simp [keptN]
  · have e1 : ((openS o.W o.Epoch o.Span).2 == 0) = false := beq_false_of_ne h1
    have hx := fin o.W hw (fun h => absurd h h1) (hv.weaken (by omega) (by omega))
    rw [e1] at hx ⊢
    simp only [cond_false, Option.bind_some] at hx ⊢
    exact hx
theorem windowHoldsUpto : Rows.WindowHoldsUptoSaid := DWindowHolds.said lawHolds
#print axioms windowHoldsUpto
end Go.Proofs.Ytgllljocmpbooaa

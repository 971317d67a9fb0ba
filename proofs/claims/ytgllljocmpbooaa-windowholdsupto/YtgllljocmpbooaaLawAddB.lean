/- LawAddB: window.Add. -/
import Derived.Test.YtgllljocmpbooaaLawHasB
import Derived.Test.YtgllljocmpbooaaLawSrt
set_option linter.unusedVariables false
set_option linter.unusedSimpArgs false
namespace Go.Proofs.Ytgllljocmpbooaa
open Go Go.Sim

/-! ### Sorted lists -/
def msort (ts : List (List Int)) : List (List Int) := ts.mergeSort fun x y => !ltL y x
theorem msort_perm (ts : List (List Int)) : (msort ts).Perm ts := List.mergeSort_perm _ _
theorem msort_rises {ts : List (List Int)} (ht : Tags ts) (hn : ts.Nodup) : Rises (msort ts) := by
  obtain ⟨d, hd⟩ := tags_of ts (fun x hx => (ht x hx).1) (fun x hx => (ht x hx).2)
  have hs : (d.mergeSort fun x y => !ltOf cfT y x).Pairwise fun a b => (!ltOf cfT b a) = true := by
    refine List.pairwise_mergeSort (fun a b c h1 h2 => ?_) (fun a b => ?_) d
    · simp only [Bool.not_eq_true', Bool.not_eq_eq_eq_not, Bool.not_true] at *
      exact swoT.ntrans _ _ _ h2 h1
    · cases h1 : ltOf cfT b a with
      | false => simp
      | true =>
        cases h2 : ltOf cfT a b with
        | false => simp
        | true => have := swoT.trans _ _ _ h1 h2; rw [swoT.irrefl] at this; cases this
  have hnd : (d.mergeSort fun x y => !ltOf cfT y x).Nodup := by
    have h2 : d.Nodup := by
      rw [← hd] at hn
      exact (List.pairwise_map.1 hn).imp fun h e => h (by rw [e])
    exact (List.mergeSort_perm d _).nodup_iff.2 h2
  unfold msort Rises
  rw [← hd, ← mergeSort_map, List.pairwise_map]
  refine (hs.and hnd).imp fun {a b} ⟨h1, h2⟩ => ?_
  rw [← ltOf_eq]
  cases h3 : ltOf cfT a b with
  | true => rfl
  | false =>
    simp only [Bool.not_eq_true', Bool.not_eq_eq_eq_not, Bool.not_true] at h1
    exact absurd (partT a b h3 h1) h2
theorem rises_unique : ∀ {a b : List (List Int)}, Rises a → Rises b → (∀ t, t ∈ a ↔ t ∈ b) → a = b
  | [], [], _, _, _ => rfl
  | [], y :: b, _, _, h => by have := (h y).2 (by simp); simp at this
  | x :: a, [], _, _, h => by have := (h x).1 (by simp); simp at this
  | x :: a, y :: b, ha, hb, h => by
    have ha' := List.pairwise_cons.1 ha
    have hb' := List.pairwise_cons.1 hb
    have hxy : x = y := by
      have h1 := (h x).1 (by simp)
      have h2 := (h y).2 (by simp)
      rcases List.mem_cons.1 h1 with h1 | h1
      · exact h1
      · rcases List.mem_cons.1 h2 with h2 | h2
        · exact h2.symm
        · have := ltL_trans (hb'.1 x h1) (ha'.1 y h2)
          rw [ltL_irrefl] at this; cases this
    subst hxy
    congr 1
    refine rises_unique ha'.2 hb'.2 fun t => ⟨fun ht => ?_, fun ht => ?_⟩
    · rcases List.mem_cons.1 ((h t).1 (by simp [ht])) with rfl | h1
      · have := ha'.1 t ht; rw [ltL_irrefl] at this; cases this
      · exact h1
    · rcases List.mem_cons.1 ((h t).2 (by simp [ht])) with rfl | h1
      · have := hb'.1 t ht; rw [ltL_irrefl] at this; cases this
      · exact h1
theorem rises_nodup {a : List (List Int)} (h : Rises a) : a.Nodup := h.imp fun {x y} h e => by subst e; rw [ltL_irrefl] at h; cases h
theorem sortG_eq {ts : List (List Int)} (ht : Tags ts) (hl : ts.length ≤ 4000000) : sortG ts = some (msort ts) := by
  unfold sortG
  rw [if_pos ⟨fun x hx => (ht x hx).2, by omega⟩]; rfl
theorem msort_self {ts : List (List Int)} (ht : Tags ts) (h : Rises ts) : msort ts = ts :=
  rises_unique (msort_rises ht (rises_nodup h)) h fun t => (msort_perm ts).mem_iff

/-! ### The fresh tags -/
def frAt (tags : List (List Int)) : Nat → List (List Int × Int)
  | 0 => []
  | i + 1 => match tags[i]? with
    | some t => mset t (i : Int) (frAt tags i)
    | none => frAt tags i
theorem frAt_keys {tags : List (List Int)} : ∀ i, i ≤ tags.length → (frAt tags i).map (·.1) = (tags.take i).foldl addk []
  | 0, _ => by simp [frAt]
  | i + 1, h => by
    have hi : i < tags.length := h
    have : tags[i]? = some tags[i] := by simp [hi]
    rw [frAt, this, List.take_succ_eq_append_getElem hi, List.foldl_append, ← frAt_keys i (by omega)]
    simp [mset_keys]
theorem mdel_keys {x : List Int} : ∀ {ps : List (List Int × Int)}, (ps.map (·.1)).Nodup → (mdel x ps).map (·.1) = (ps.map (·.1)).filter (fun y => !(x == y))
  | [], _ => rfl
  | p :: ps, hn => by
    have hn' := List.nodup_cons.1 hn
    by_cases h : x = p.1
    · subst h
      have hf : (ps.map (·.1)).filter (fun y => !(p.1 == y)) = ps.map (·.1) := List.filter_eq_self.2 fun y hy => by
        have : p.1 ≠ y := fun e => hn'.1 (by show p.1 ∈ _; rw [e]; exact hy)
        simpa using this
      simp [mdel, hf]
    · have hne : (x == p.1) = false := by simpa using h
      have ih := mdel_keys (x := x) hn'.2
      simp [mdel, hne, ih]
theorem dels_keys : ∀ {qs ps : List (List Int × Int)}, (ps.map (·.1)).Nodup → (qs.foldl (fun s q => mdel q.1 s) ps).map (·.1) = (ps.map (·.1)).filter fun y => decide (y ∉ qs.map (·.1))
  | [], ps, _ => by simp only [List.foldl_nil]; exact (List.filter_eq_self.2 fun y _ => by simp).symm
  | q :: qs, ps, hn => by
    have h1 := mdel_keys (x := q.1) hn
    have hn2 : ((mdel q.1 ps).map (·.1)).Nodup := by rw [h1]; exact hn.filter _
    rw [List.foldl_cons, dels_keys hn2, h1, List.filter_filter]
    refine List.filter_congr fun y _ => ?_
    by_cases h : q.1 = y
    · subst h; simp
    · have h' : ¬ y = q.1 := fun e => h e.symm
      have h2 : (q.1 == y) = false := by simpa using h
      simp only [List.map_cons, List.mem_cons, h', false_or, h2, Bool.not_false, Bool.and_true]
theorem foldlM_some {α β : Type} {f : β → α → β} : ∀ {l : List α} {s : β}, l.foldlM (fun s q => some (f s q)) s = some (l.foldl f s)
  | [], s => rfl
  | a :: l, s => by rw [List.foldlM_cons, List.foldl_cons]; exact foldlM_some

/-! ### The epochs with the tags put in -/
def stepI (ep : Int) (ad : List (List Int)) (s : List Api_Epoch × Bool) (e : Api_Epoch) : List Api_Epoch × Bool :=
  bif s.2 then (s.1 ++ [e], true)
  else bif decide (e.Number ≥ ep) then
    bif decide (e.Number > ep) then (s.1 ++ [⟨ep, ad⟩, e], true) else (s.1 ++ [{ e with Tags := ad ++ e.Tags }], true)
  else (s.1 ++ [e], false)
def insI (es : List Api_Epoch) (ep : Int) (ad : List (List Int)) : List Api_Epoch × Bool := es.foldl (stepI ep ad) ([], (ad.length : Int) == 0)
def putI (es : List Api_Epoch) (ep : Int) (ad : List (List Int)) : List Api_Epoch := bif (insI es ep ad).2 then (insI es ep ad).1 else (insI es ep ad).1 ++ [⟨ep, ad⟩]
theorem stepI_len {ep : Int} {ad : List (List Int)} {s : List Api_Epoch × Bool} {e : Api_Epoch} : (stepI ep ad s e).1.length ≤ s.1.length + 2 := by
  unfold stepI
  cases s.2 <;> cases decide (e.Number ≥ ep) <;> cases decide (e.Number > ep) <;> simp
theorem foldI_len {ep : Int} {ad : List (List Int)} : ∀ {es : List Api_Epoch} {s : List Api_Epoch × Bool}, (es.foldl (stepI ep ad) s).1.length ≤ s.1.length + 2 * es.length
  | [], s => by simp
  | e :: es, s => by
    have h1 := stepI_len (ep := ep) (ad := ad) (s := s) (e := e)
    have h2 := foldI_len (ep := ep) (ad := ad) (es := es) (s := stepI ep ad s e)
    rw [List.foldl_cons, List.length_cons]; omega
theorem cloneR_eq {ts : List (List Int)} (h : ts.length ≤ 4000000) : f_slices_Clone_ro ts = some ts := by
  simp [f_slices_Clone_ro, app_eq (show ([] : List (List Int)).length + ts.length ≤ room by simp [room]; omega)]
/-- Each epoch's tags sorted. -/
def sortE (e : Api_Epoch) : Api_Epoch := { e with Tags := msort e.Tags }
theorem sort_loop {es : List Api_Epoch} {n : Int} (hl : es.length ≤ 4000000) (ht : ∀ e ∈ es, Tags e.Tags ∧ e.Tags.length ≤ 4000000) :
    Loop.run (S := ((List Api_Epoch) × Int)) (R := Api_Window) (fun (x707, x708) =>
                          bif decide (x708 < (es.length : Int)) then
                            (idx x707 x708).bind fun x726 =>
                            (sortG x726.Tags).bind fun y735 =>
                            some (.next (List.set x707 (Int.toNat x708) ({ x726 with Tags := y735 } : Api_Epoch), IntKind.wrap .i64 (x708 + 1)))
                          else
                            some (.done (⟨n, x707⟩ : Api_Window))) (es, 0) = some ⟨n, es.map sortE⟩ := by
  have hat : ∀ i, (h : i < es.length) → ((es.take i).map sortE ++ es.drop i)[i]? = some es[i] := fun i h => by
    rw [List.getElem?_append_right (by simp; omega)]
    simp [Nat.min_eq_left (Nat.le_of_lt h), h]
  rw [Loop.run_eq0 (st := fun i => ((es.take i).map sortE ++ es.drop i, (i : Int))) (res := fun _ => (⟨n, es.map sortE⟩ : Api_Window)) (n := es.length)]
  · intro i hi
    left
    have h1 : (i : Int) < (es.length : Int) := by omega
    have hlen : ((es.take i).map sortE ++ es.drop i).length = es.length := by simp; omega
    refine ⟨?_, rfl⟩
    simp only [h1, decide_true, cond_true]
    rw [idx_nat (show i < ((es.take i).map sortE ++ es.drop i).length by omega), Option.bind_some]
    have hg : ((es.take i).map sortE ++ es.drop i)[i]'(by omega) = es[i] := by
      have := hat i hi
      rw [List.getElem?_eq_getElem (by omega)] at this
      exact Option.some.inj this
    rw [hg, sortG_eq (ht _ (List.getElem_mem hi)).1 (ht _ (List.getElem_mem hi)).2, Option.bind_some, wrap64 (by omega)]
    have hset : ((es.take i).map sortE ++ es.drop i).set i (sortE es[i]) = (es.take (i + 1)).map sortE ++ es.drop (i + 1) := by
      rw [List.set_append_right _ _ (by simp; omega), show i - ((es.take i).map sortE).length = 0 by simp; omega, List.drop_eq_getElem_cons hi, List.set_cons_zero, List.take_succ_eq_append_getElem hi, List.map_append, List.append_assoc]
      rfl
    have hz : Int.toNat (i : Int) = i := by simp
    rw [hz]
    have : ({ es[i] with Tags := msort es[i].Tags } : Api_Epoch) = sortE es[i] := rfl
    rw [this, hset]
    simp
  · simp
  · simp

section
variable {w : Api_Window}
theorem ep_step {es : List Api_Epoch} {i : Nat} (hi : i < es.length) {ep : Int} {ad : List (List Int)} {s : List Api_Epoch × Bool} : (es.take (i + 1)).foldl (stepI ep ad) s = stepI ep ad ((es.take i).foldl (stepI ep ad) s) es[i] := by
  rw [List.take_succ_eq_append_getElem hi, List.foldl_append]; rfl
/-- The middle loop. -/
theorem put_loop (hw : GoodW w) {ep : Int} {ad : List (List Int)} (had : ad.length ≤ 1048576) :
    Loop.run (S := (Int × (List Api_Epoch) × Bool)) (R := ((List Api_Epoch) × Bool)) (fun (x226, x228, mode_) =>
                    bif mode_ then
                      bif decide (x226 < (w.Epochs.length : Int)) then
                        (idx w.Epochs x226).bind fun x467 =>
                        ((some ()
                          : Option Unit)).bind fun _ =>
                        (f_slices_Clone_ro x467.Tags).bind fun y476 =>
                        (app x228 [(⟨x467.Number, y476⟩ : Api_Epoch)]).bind fun z479 =>
                        some (.next (IntKind.wrap .i64 (x226 + 1), z479, true))
                      else
                        some (.done (x228, true))
                    else
                      bif decide (x226 < (w.Epochs.length : Int)) then
                        (idx w.Epochs x226).bind fun x292 =>
                        bif decide (x292.Number ≥ ep) then
                          bif decide (x292.Number > ep) then
                            (app x228 [(⟨ep, ad⟩ : Api_Epoch)]).bind fun z299 =>
                            (f_slices_Clone_ro x292.Tags).bind fun y303 =>
                            (app z299 [(⟨x292.Number, y303⟩ : Api_Epoch)]).bind fun z306 =>
                            some (.next (IntKind.wrap .i64 (x226 + 1), z306, true))
                          else
                            (app ad x292.Tags).bind fun z310 =>
                            (f_slices_Clone_ro (({ x292 with Tags := z310 } : Api_Epoch).Tags)).bind fun y313 =>
                            (app x228 [(⟨({ x292 with Tags := z310 } : Api_Epoch).Number, y313⟩ : Api_Epoch)]).bind fun z316 =>
                            some (.next (IntKind.wrap .i64 (x226 + 1), z316, true))
                        else
                          (f_slices_Clone_ro x292.Tags).bind fun y320 =>
                          (app x228 [(⟨x292.Number, y320⟩ : Api_Epoch)]).bind fun z323 =>
                          some (.next (IntKind.wrap .i64 (x226 + 1), z323, false))
                      else
                        some (.done (x228, false))) (0, [], (ad.length : Int) == 0) = some (insI w.Epochs ep ad) := by
  have hl := hw.len
  have he := hw.eps
  rw [Loop.run_eq0 (st := fun i => ((i : Int), (w.Epochs.take i).foldl (stepI ep ad) ([], (ad.length : Int) == 0))) (res := fun _ => insI w.Epochs ep ad) (n := w.Epochs.length)]
  · intro i hi
    left
    have h1 : (i : Int) < (w.Epochs.length : Int) := by omega
    have hep := ep_le hi
    have hlen := foldI_len (ep := ep) (ad := ad) (es := w.Epochs.take i) (s := ([], (ad.length : Int) == 0))
    simp only [List.length_nil, List.length_take] at hlen
    refine ⟨?_, rfl⟩
    simp only [ep_step hi]
    generalize (w.Epochs.take i).foldl (stepI ep ad) ([], (ad.length : Int) == 0) = s at hlen ⊢
    obtain ⟨acc, m⟩ := s
    simp only at hlen
    have hs : ((i : Int) + 1) = ((i + 1 : Nat) : Int) := by simp
    cases m with
    | true =>
      simp only [h1, decide_true, cond_true, idx_nat hi, Option.bind_some]
      rw [cloneR_eq (by omega), Option.bind_some, app_eq (by simp [room]; omega), Option.bind_some, wrap64 (by omega), hs]
      rfl
    | false =>
      simp only [h1, decide_true, cond_true, cond_false, idx_nat hi, Option.bind_some]
      unfold stepI
      simp only [cond_false]
      cases hge : decide (w.Epochs[i].Number ≥ ep) with
      | false =>
        simp only [cond_false]
        rw [cloneR_eq (by omega), Option.bind_some, app_eq (by simp [room]; omega), Option.bind_some, wrap64 (by omega), hs]
      | true =>
        simp only [cond_true]
        cases hgt : decide (w.Epochs[i].Number > ep) with
        | true =>
          simp only [cond_true]
          rw [app_eq (by simp [room]; omega), Option.bind_some, cloneR_eq (by omega), Option.bind_some, app_eq (by simp [room]; omega), Option.bind_some, wrap64 (by omega), hs]
          simp
        | false =>
          simp only [cond_false]
          rw [app_eq (by simp [room]; omega), Option.bind_some, cloneR_eq (by simp; omega), Option.bind_some, app_eq (by simp [room]; omega), Option.bind_some, wrap64 (by omega), hs]
  · have h2 : ¬ ((w.Epochs.length : Int) < (w.Epochs.length : Int)) := by omega
    simp only [List.take_length, insI]
    generalize w.Epochs.foldl (stepI ep ad) ([], (ad.length : Int) == 0) = s
    obtain ⟨acc, m⟩ := s
    cases m <;> simp
  · simp
end
end Go.Proofs.Ytgllljocmpbooaa

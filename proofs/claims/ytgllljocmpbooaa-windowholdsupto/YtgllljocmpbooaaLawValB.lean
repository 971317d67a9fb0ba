/- LawValB: right windows; what Open and Add make of them. -/
import Derived.Test.YtgllljocmpbooaaLawOpensB
set_option linter.unusedVariables false
set_option linter.unusedSimpArgs false
namespace Go.Proofs.Ytgllljocmpbooaa
open Go Go.Sim
structure VW (w : Api_Window) (s r : Int) : Prop where
  new : 0 ≤ w.Newest ∧ w.Newest ≤ 4611686018427387904
  len : (lenOf w : Int) ≤ r
  nodup : (tagsOf w).Nodup
  ep : ∀ e ∈ w.Epochs, 0 ≤ e.Number ∧ e.Number ≤ w.Newest ∧ w.Newest - e.Number < s ∧ e.Tags ≠ [] ∧ Rises e.Tags
  inc : w.Epochs.Pairwise fun a b => a.Number < b.Number
theorem fold_self {l ks : List (List Int)} (h : l.Nodup) (h2 : ∀ x ∈ l, x ∉ ks) : l.foldl addk ks = ks ++ l := by
  induction l generalizing ks with
  | nil => simp
  | cons x l ih =>
    obtain ⟨h3, h4⟩ := List.nodup_cons.1 h
    have hx := h2 x (by simp)
    have : addk ks x = ks ++ [x] := by simp [addk, hx]
    rw [List.foldl_cons, this, ih h4 fun y hy hm => by
      rcases List.mem_append.1 hm with hm | hm
      · exact h2 y (by simp [hy]) hm
      · simp at hm; subst hm; exact h3 hy]
    simp
theorem c3_iff {w : Api_Window} : c3 w = true ↔ (tagsOf w).Nodup := by
  constructor
  · exact full_nodup
  · intro h
    have := fold_self (ks := []) h (by simp)
    simp [c3, keysOf, lenOf, this]
theorem getD_mem {α : Type} {xs : List α} {i : Nat} (h : i < xs.length) (d : α) : xs.getD i d = xs[i] := by simp [h]
theorem rises_up {ts : List (List Int)} (h : Rises ts) : riseB ts = true := by
  refine allIn_iff.2 fun j _ hj => ?_
  rw [getD_mem (show j < ts.length by omega), getD_mem (show j + 1 < ts.length by omega)]
  exact List.pairwise_iff_getElem.1 h j (j + 1) (by omega) (by omega) (by omega)
section
variable {w : Api_Window}
theorem tags_sub {e : Api_Epoch} (he : e ∈ w.Epochs) : e.Tags.Sublist (tagsOf w) := by
  obtain ⟨i, hi, rfl⟩ := List.getElem_of_mem he
  rw [part_split w i, drop_at hi, List.flatMap_cons]
  exact ((List.sublist_append_left _ _).trans (List.sublist_append_right _ _))
theorem check_iff (hw : GoodW w) {s r : Int} : (c1 s r && c2 w r && c3 w && allIn (okW w s) w.Epochs.length 0) = true ↔ c1 s r = true ∧ VW w s r := by
  simp only [Bool.and_eq_true]
  constructor
  · rintro ⟨⟨⟨h1, h2⟩, h3⟩, h4⟩
    have hn := c3_iff.1 h3
    have hk := fun i (hi : i < w.Epochs.length) => allIn_iff.1 h4 i (by omega) (by omega)
    simp only [c2, Bool.and_eq_true, Bool.not_eq_true', Bool.or_eq_false_iff, decide_eq_false_iff_not] at h2
    refine ⟨h1, ⟨by omega, by omega, hn, fun e he => ?_, ?_⟩⟩
    · obtain ⟨i, hi, rfl⟩ := List.getElem_of_mem he
      have h := hk i hi
      have g : w.Epochs.getD i ⟨0, []⟩ = w.Epochs[i] := getD_mem hi _
      simp only [okW, epN, epT, g, Bool.and_eq_true, Bool.not_eq_true', decide_eq_false_iff_not, decide_eq_true_eq, List.isEmpty_eq_false_iff] at h
      obtain ⟨⟨⟨⟨a1, a2⟩, a3⟩, a4⟩, a5⟩ := h
      rw [up_rise (ep_tags hw hi) (hn.sublist (tags_sub (List.getElem_mem hi)))] at a5
      exact ⟨by omega, a2.1, a2.2, a4, rise_rises a5⟩
    · have adj : ∀ i, (h : i + 1 < w.Epochs.length) → w.Epochs[i].Number < w.Epochs[i + 1].Number := fun i h => by
        have h5 := hk (i + 1) h
        have g : w.Epochs.getD (i + 1) ⟨0, []⟩ = w.Epochs[i + 1] := getD_mem h _
        have g2 : w.Epochs.getD i ⟨0, []⟩ = w.Epochs[i] := getD_mem (by omega) _
        simp only [okW, epN, epT, Nat.add_sub_cancel, g, g2, Bool.and_eq_true, Bool.not_eq_true', Bool.and_eq_false_iff, decide_eq_false_iff_not, decide_eq_true_eq] at h5
        have := h5.1.1.2
        omega
      have far : ∀ d i, (h : i + d + 1 < w.Epochs.length) → w.Epochs[i].Number < w.Epochs[i + d + 1].Number := by
        intro d
        induction d with
        | zero => intro i h; exact adj i h
        | succ d ih => intro i h; have h1 := ih i (by omega); have h2 := adj (i + d + 1) (by omega); simp only [show i + (d + 1) + 1 = i + d + 1 + 1 by omega]; omega
      refine List.pairwise_iff_getElem.2 fun i j hi hj hij => ?_
      have := far (j - i - 1) i (by omega)
      simp only [show i + (j - i - 1) + 1 = j by omega] at this; exact this
  · rintro ⟨h1, v⟩
    have hv1 := v.new
    have hv2 := v.len
    refine ⟨⟨⟨h1, ?_⟩, c3_iff.2 v.nodup⟩, allIn_iff.2 fun i _ hi => ?_⟩
    · simp only [c2, Bool.and_eq_true, Bool.not_eq_true', Bool.or_eq_false_iff, decide_eq_false_iff_not]; omega
    · have hi : i < w.Epochs.length := by omega
      have g : w.Epochs.getD i ⟨0, []⟩ = w.Epochs[i] := getD_mem hi _
      obtain ⟨a1, a2, a3, a4, a5⟩ := v.ep _ (List.getElem_mem hi)
      simp only [okW, epN, epT, g, Bool.and_eq_true, Bool.not_eq_true', decide_eq_false_iff_not, decide_eq_true_eq, List.isEmpty_eq_false_iff]
      refine ⟨⟨⟨⟨by omega, a2, a3⟩, ?_⟩, a4⟩, ?_⟩
      · cases i with
        | zero => simp
        | succ i =>
          have g2 : w.Epochs.getD i ⟨0, []⟩ = w.Epochs[i] := getD_mem (by omega) _
          have := List.pairwise_iff_getElem.1 v.inc i (i + 1) (by omega) hi (by omega)
          simp only [Nat.add_sub_cancel, g2, Bool.and_eq_false_iff, decide_eq_false_iff_not]; omega
      · rw [up_rise (ep_tags hw hi) (v.nodup.sublist (tags_sub (List.getElem_mem hi)))]; exact rises_up a5
theorem window_Check0 (hw : GoodW w) {s r : Int} (h : c1 s r = true) (v : VW w s r) : f_window_Check w s r = some 0 := by
  rw [window_Check hw, (check_iff hw).2 ⟨h, v⟩]; rfl
theorem ref_check (hw : GoodW w) {s r : Int} : ∃ c, f_churnref16_Check w s r = some c ∧ (c = 0 ↔ c1 s r = true ∧ VW w s r) := by
  rw [← checks_same hw, window_Check hw]
  refine ⟨_, rfl, ?_⟩
  rw [← check_iff hw]
  cases (c1 s r && c2 w r && c3 w && allIn (okW w s) w.Epochs.length 0) <;> simp
end
theorem VW.weaken {w : Api_Window} {s r s' r' : Int} (h : VW w s r) (hs : s ≤ s') (hr : r ≤ r') : VW w s' r' := ⟨h.new, by have := h.len; omega, h.nodup, fun e he => by obtain ⟨a, b, c, d⟩ := h.ep e he; exact ⟨a, b, by omega, d⟩, h.inc⟩
theorem c1_iff {s r : Int} : c1 s r = true ↔ 1 ≤ s ∧ s ≤ 8 ∧ 0 ≤ r ∧ r ≤ 4096 := by
  simp only [c1, Bool.not_eq_true', Bool.or_eq_false_iff, decide_eq_false_iff_not]; omega
theorem VW.good {w : Api_Window} {s r : Int} (h : VW w s r) (hr : r ≤ 4096) (ht : Tags (tagsOf w)) : GoodW w := by
  have h1 := h.new
  have h2 := h.len
  refine ⟨show -9223372036854775808 ≤ w.Newest ∧ w.Newest ≤ 9223372036854775807 by omega, fun e he => ?_, ht, by omega, ?_⟩
  · obtain ⟨a, b, _⟩ := h.ep e he
    show -9223372036854775808 ≤ e.Number ∧ e.Number ≤ 9223372036854775807; omega
  · have : ∀ es : List Api_Epoch, (∀ e ∈ es, e.Tags ≠ []) → es.length ≤ (es.flatMap (·.Tags)).length := by
      intro es
      induction es with
      | nil => simp
      | cons e es ih =>
        intro h
        have h1 := ih fun x hx => h x (by simp [hx])
        have h2 : 0 < e.Tags.length := List.length_pos_iff.2 (h e (by simp))
        simp only [List.flatMap_cons, List.length_append, List.length_cons]; omega
    have := this w.Epochs fun e he => (h.ep e he).2.2.2.1
    have h3 : lenOf w = (w.Epochs.flatMap (·.Tags)).length := rfl
    omega
/-! ### Open -/
theorem openS_valid {w : Api_Window} {a s s' r : Int} (h : VW w s r) (ha : 0 ≤ a ∧ a ≤ 4611686018427387904) : VW ⟨max w.Newest a, w.Epochs.filter (keep (max w.Newest a) s')⟩ s' r := by
  have h1 := h.new
  have hs : List.Sublist (w.Epochs.filter (keep (max w.Newest a) s')) w.Epochs := List.filter_sublist
  have ht : List.Sublist ((w.Epochs.filter (keep (max w.Newest a) s')).flatMap (·.Tags)) (tagsOf w) := sub_flat hs
  refine ⟨by simp only; omega, ?_, h.nodup.sublist ht, fun e he => ?_, h.inc.sublist hs⟩
  · have := h.len
    have h2 := ht.length_le
    have h3 : lenOf w = (tagsOf w).length := rfl
    have h4 : lenOf ⟨max w.Newest a, w.Epochs.filter (keep (max w.Newest a) s')⟩ = ((w.Epochs.filter (keep (max w.Newest a) s')).flatMap (·.Tags)).length := rfl
    omega
  · obtain ⟨h2, h3⟩ := List.mem_filter.1 he
    obtain ⟨a1, a2, a3, a4⟩ := h.ep e h2
    simp only [keep, decide_eq_true_eq] at h3
    exact ⟨a1, by simp only; omega, by simp only; omega, a4⟩
theorem openS_ok {w : Api_Window} {a s : Int} (h : (openS w a s).2 = 0) : (1 ≤ s ∧ s ≤ 8 ∧ 0 ≤ a ∧ a ≤ 4611686018427387904) ∧ (w.Newest < a + s ∧ a - 1024 ≤ w.Newest) ∧ openS w a s = (⟨max w.Newest a, w.Epochs.filter (keep (max w.Newest a) s)⟩, 0) := by
  unfold openS at h ⊢
  cases hc : (decide (s < 1) || decide (s > 8) || decide (a < 0) || decide (a > 4611686018427387904)) with
  | true => rw [hc] at h; simp at h
  | false =>
    rw [hc] at h
    cases hd : (decide (w.Newest ≥ a + s) || decide (w.Newest < a - 1024)) with
    | true => rw [hd] at h; simp at h
    | false =>
      simp only [Bool.or_eq_false_iff, decide_eq_false_iff_not] at hc hd
      exact ⟨by omega, by omega, rfl⟩
theorem openS_err {w : Api_Window} {a s : Int} (h : (openS w a s).2 ≠ 0) : (openS w a s).1 = ⟨0, []⟩ := by
  unfold openS at h ⊢
  cases hc : (decide (s < 1) || decide (s > 8) || decide (a < 0) || decide (a > 4611686018427387904)) with
  | true => rfl
  | false =>
    rw [hc] at h
    cases hd : (decide (w.Newest ≥ a + s) || decide (w.Newest < a - 1024)) with
    | true => rfl
    | false => rw [hd] at h; simp at h
/-! ### Add -/
def ins (ep : Int) (ad : List (List Int)) : List Api_Epoch → List Api_Epoch
  | [] => [⟨ep, ad⟩]
  | e :: es => if e.Number < ep then e :: ins ep ad es else if e.Number > ep then ⟨ep, ad⟩ :: e :: es else { e with Tags := ad ++ e.Tags } :: es
theorem fold_true {ep : Int} {ad : List (List Int)} : ∀ {es acc : List Api_Epoch}, es.foldl (stepI ep ad) (acc, true) = (acc ++ es, true)
  | [], acc => by simp
  | e :: es, acc => by rw [List.foldl_cons]; simp [stepI, fold_true (es := es)]
theorem fold_false {ep : Int} {ad : List (List Int)} : ∀ {es acc : List Api_Epoch}, (bif (es.foldl (stepI ep ad) (acc, false)).2 then (es.foldl (stepI ep ad) (acc, false)).1 else (es.foldl (stepI ep ad) (acc, false)).1 ++ [⟨ep, ad⟩]) = acc ++ ins ep ad es
  | [], acc => by simp [ins]
  | e :: es, acc => by
    rw [List.foldl_cons]
    by_cases h1 : e.Number < ep
    · have h2 : decide (e.Number ≥ ep) = false := by simp; omega
      have : stepI ep ad (acc, false) e = (acc ++ [e], false) := by simp [stepI, h2]
      rw [this, fold_false (es := es), ins, if_pos h1]; simp
    · have h2 : decide (e.Number ≥ ep) = true := by simp; omega
      by_cases h3 : e.Number > ep
      · have h4 : decide (e.Number > ep) = true := by simpa using h3
        have : stepI ep ad (acc, false) e = (acc ++ [⟨ep, ad⟩, e], true) := by simp [stepI, h2, h4]
        rw [this, fold_true, ins, if_neg h1, if_pos h3]; simp
      · have h4 : decide (e.Number > ep) = false := by simpa using h3
        have : stepI ep ad (acc, false) e = (acc ++ [{ e with Tags := ad ++ e.Tags }], true) := by simp [stepI, h2, h4]
        rw [this, fold_true, ins, if_neg h1, if_neg h3]; simp
theorem putI_eq {es : List Api_Epoch} {ep : Int} {ad : List (List Int)} : putI es ep ad = if ad = [] then es else ins ep ad es := by
  unfold putI insI
  by_cases h : ad = []
  · subst h; simp [fold_true]
  · have : ((ad.length : Int) == 0) = false := by
      have := List.length_pos_iff.2 h
      simp; omega
    rw [this, fold_false, if_neg h]; simp
theorem ins_mem {ep : Int} {ad : List (List Int)} : ∀ {es : List Api_Epoch} {e : Api_Epoch}, e ∈ ins ep ad es → e ∈ es ∨ e = ⟨ep, ad⟩ ∨ ∃ e0 ∈ es, e0.Number = ep ∧ e = { e0 with Tags := ad ++ e0.Tags }
  | [], e, h => by simp [ins] at h; exact .inr (.inl h)
  | x :: es, e, h => by
    rw [ins] at h
    split at h
    · rcases List.mem_cons.1 h with rfl | h
      · exact .inl (by simp)
      · rcases ins_mem h with h | h | ⟨e0, h, k⟩
        · exact .inl (by simp [h])
        · exact .inr (.inl h)
        · exact .inr (.inr ⟨e0, by simp [h], k⟩)
    · split at h
      · rcases List.mem_cons.1 h with rfl | h
        · exact .inr (.inl rfl)
        · exact .inl h
      · rcases List.mem_cons.1 h with rfl | h
        · exact .inr (.inr ⟨x, by simp, by omega, rfl⟩)
        · exact .inl (by simp [h])
theorem ins_nums {ep : Int} {ad : List (List Int)} {es : List Api_Epoch} {e : Api_Epoch} (h : e ∈ ins ep ad es) : e.Number = ep ∨ ∃ x ∈ es, e.Number = x.Number := by
  rcases ins_mem h with h | rfl | ⟨e0, h, k, rfl⟩
  · exact .inr ⟨e, h, rfl⟩
  · exact .inl rfl
  · exact .inl k
theorem ins_inc {ep : Int} {ad : List (List Int)} : ∀ {es : List Api_Epoch}, es.Pairwise (fun a b => a.Number < b.Number) → (ins ep ad es).Pairwise (fun a b => a.Number < b.Number)
  | [], _ => by simp [ins]
  | x :: es, h => by
    obtain ⟨h1, h2⟩ := List.pairwise_cons.1 h
    rw [ins]
    split
    · rename_i hx
      refine List.pairwise_cons.2 ⟨fun y hy => ?_, ins_inc h2⟩
      rcases ins_nums hy with e | ⟨z, hz, e⟩
      · omega
      · have := h1 z hz; omega
    · split
      · rename_i hx hx2
        refine List.pairwise_cons.2 ⟨fun y hy => ?_, h⟩
        rcases List.mem_cons.1 hy with rfl | hy
        · exact hx2
        · have := h1 y hy; simp only; omega
      · exact List.pairwise_cons.2 ⟨fun y hy => h1 y hy, h2⟩
theorem ins_perm {ep : Int} {ad : List (List Int)} : ∀ {es : List Api_Epoch}, ((ins ep ad es).flatMap (·.Tags)).Perm (ad ++ es.flatMap (·.Tags))
  | [] => by simp [ins]
  | x :: es => by
    rw [ins]
    split
    · rw [List.flatMap_cons, List.flatMap_cons]
      refine (List.Perm.append_left _ (ins_perm (es := es))).trans ?_
      rw [← List.append_assoc, ← List.append_assoc]
      exact List.Perm.append_right _ List.perm_append_comm
    · split
      · simp
      · simp
theorem exm {α : Type} {p : α → Prop} {a : α} {l : List α} : (∃ x ∈ a :: l, p x) ↔ p a ∨ ∃ x ∈ l, p x := by
  constructor
  · rintro ⟨x, hx, h⟩
    rcases List.mem_cons.1 hx with rfl | hx
    · exact .inl h
    · exact .inr ⟨x, hx, h⟩
  · rintro (h | ⟨x, hx, h⟩)
    · exact ⟨a, by simp, h⟩
    · exact ⟨x, by simp [hx], h⟩
/-- Which tag stands at which epoch. -/
def pairs (w : Api_Window) (n : Int) (t : List Int) : Prop := ∃ e ∈ w.Epochs, e.Number = n ∧ t ∈ e.Tags
theorem ins_pairs {ep : Int} {ad : List (List Int)} {n : Int} {t : List Int} : ∀ {es : List Api_Epoch}, (∃ e ∈ ins ep ad es, e.Number = n ∧ t ∈ e.Tags) ↔ (∃ e ∈ es, e.Number = n ∧ t ∈ e.Tags) ∨ (n = ep ∧ t ∈ ad)
  | [] => by simp [ins, eq_comm]
  | x :: es => by
    have ih := ins_pairs (ep := ep) (ad := ad) (n := n) (t := t) (es := es)
    rw [ins]
    split
    · simp only [exm, ih, or_assoc]
    · split
      · simp only [exm]
        constructor
        · rintro (⟨a, b⟩ | h | h)
          · exact .inr ⟨a.symm, b⟩
          · exact .inl (.inl h)
          · exact .inl (.inr h)
        · rintro ((h | h) | ⟨a, b⟩)
          · exact .inr (.inl h)
          · exact .inr (.inr h)
          · exact .inl ⟨a.symm, b⟩
      · rename_i h1 h2
        have hx : x.Number = ep := by omega
        simp only [exm, List.mem_append]
        constructor
        · rintro (⟨a, b | b⟩ | h)
          · exact .inr ⟨by omega, b⟩
          · exact .inl (.inl ⟨a, b⟩)
          · exact .inl (.inr h)
        · rintro ((⟨a, b⟩ | h) | ⟨a, b⟩)
          · exact .inl ⟨a, .inr b⟩
          · exact .inr h
          · exact .inl ⟨by omega, .inl b⟩
theorem sortE_pairs {n : Int} {t : List Int} {es : List Api_Epoch} : (∃ e ∈ es.map sortE, e.Number = n ∧ t ∈ e.Tags) ↔ ∃ e ∈ es, e.Number = n ∧ t ∈ e.Tags := by
  constructor
  · rintro ⟨e, he, h1, h2⟩
    obtain ⟨x, hx, rfl⟩ := List.mem_map.1 he
    exact ⟨x, hx, h1, (msort_perm _).mem_iff.1 h2⟩
  · rintro ⟨e, he, h1, h2⟩
    exact ⟨sortE e, List.mem_map_of_mem he, h1, (msort_perm _).mem_iff.2 h2⟩
theorem sortE_perm : ∀ {es : List Api_Epoch}, ((es.map sortE).flatMap (·.Tags)).Perm (es.flatMap (·.Tags))
  | [] => by simp
  | e :: es => by
    rw [List.map_cons, List.flatMap_cons, List.flatMap_cons]
    exact (msort_perm _).append sortE_perm
section
variable {w : Api_Window}
theorem addS_ok {ep r : Int} {tags : List (List Int)} (h : (addS w ep tags r).2 = 0) : 0 ≤ r ∧ r ≤ 4096 ∧ okB w = true ∧ (0 ≤ ep ∧ ep ≤ w.Newest ∧ w.Newest - ep < 8) ∧ (lenOf w : Int) + ((freshS w tags).length : Int) ≤ r ∧ addS w ep tags r = (⟨w.Newest, (putI w.Epochs ep (freshS w tags)).map sortE⟩, 0) := by
  unfold addS at h ⊢
  cases h1 : (decide (r < 0) || decide (r > 4096) || !okB w) with
  | true => rw [h1] at h; simp at h
  | false =>
    rw [h1] at h
    cases h2 : (decide (ep < 0) || !(decide (ep ≤ w.Newest) && decide (w.Newest - ep < 8))) with
    | true => rw [h2] at h; simp at h
    | false =>
      rw [h2] at h
      cases h3 : decide ((lenOf w : Int) + ((freshS w tags).length : Int) > r) with
      | true => rw [h3] at h; simp at h
      | false =>
        simp only [Bool.or_eq_false_iff, decide_eq_false_iff_not, Bool.not_eq_false', Bool.and_eq_true, decide_eq_true_eq] at h1 h2 h3
        exact ⟨by omega, by omega, h1.2, by omega, by omega, rfl⟩
theorem addS_err {ep r : Int} {tags : List (List Int)} (h : (addS w ep tags r).2 ≠ 0) : (addS w ep tags r).1 = ⟨0, []⟩ := by
  unfold addS at h ⊢
  cases h1 : (decide (r < 0) || decide (r > 4096) || !okB w) with
  | true => rfl
  | false =>
    rw [h1] at h
    cases h2 : (decide (ep < 0) || !(decide (ep ≤ w.Newest) && decide (w.Newest - ep < 8))) with
    | true => rfl
    | false =>
      rw [h2] at h
      cases h3 : decide ((lenOf w : Int) + ((freshS w tags).length : Int) > r) with
      | true => rfl
      | false => rw [h3] at h; simp at h
/-- The window with these tags put in. -/
def put (w : Api_Window) (ep : Int) (tags : List (List Int)) : Api_Window := ⟨w.Newest, (putI w.Epochs ep (freshS w tags)).map sortE⟩
theorem freshS_mem {tags : List (List Int)} {t : List Int} : t ∈ freshS w tags ↔ t ∈ tags ∧ t ∉ tagsOf w := by
  unfold freshS; rw [(msort_perm _).mem_iff, freshK_mem]
theorem freshS_nodup {tags : List (List Int)} : (freshS w tags).Nodup := (msort_perm _).nodup_iff.2 freshK_nodup
theorem put_pairs {ep : Int} {tags : List (List Int)} {n : Int} {t : List Int} : pairs (put w ep tags) n t ↔ pairs w n t ∨ (n = ep ∧ t ∈ tags ∧ t ∉ tagsOf w) := by
  unfold pairs put
  simp only [sortE_pairs, putI_eq]
  split
  · rename_i h
    constructor
    · exact .inl
    · rintro (h2 | ⟨_, h3⟩)
      · exact h2
      · have := freshS_mem.2 h3; rw [h] at this; cases this
  · rw [ins_pairs, freshS_mem]
theorem put_perm {ep : Int} {tags : List (List Int)} : (tagsOf (put w ep tags)).Perm (freshS w tags ++ tagsOf w) := by
  refine (sortE_perm (es := putI w.Epochs ep (freshS w tags))).trans ?_
  rw [putI_eq]
  split
  · rename_i h; rw [h]; exact List.Perm.refl _
  · exact ins_perm
theorem put_tags {ep : Int} {tags : List (List Int)} {t : List Int} : t ∈ tagsOf (put w ep tags) ↔ t ∈ tagsOf w ∨ t ∈ tags := by
  rw [put_perm.mem_iff, List.mem_append, freshS_mem]
  by_cases h : t ∈ tagsOf w <;> simp [h]
theorem put_len {ep : Int} {tags : List (List Int)} : lenOf (put w ep tags) = (freshS w tags).length + lenOf w := by
  have := (put_perm (w := w) (ep := ep) (tags := tags)).length_eq
  rwa [List.length_append] at this
theorem put_valid {ep s s' r r' : Int} {tags : List (List Int)} (h : VW w s r) (ht : Tags tags) (hT : Tags (tagsOf w)) (he : 0 ≤ ep ∧ ep ≤ w.Newest ∧ w.Newest - ep < s') (hs : s ≤ s') (hl : (lenOf w : Int) + ((freshS w tags).length : Int) ≤ r') : VW (put w ep tags) s' r' := by
  have hnd : (freshS w tags ++ tagsOf w).Nodup := List.nodup_append.2 ⟨freshS_nodup, h.nodup, fun a ha b hb e => by subst e; exact (freshS_mem.1 ha).2 hb⟩
  have hTf : Tags (freshS w tags) := fun t h => ht t (freshS_mem.1 h).1
  refine ⟨h.new, by rw [put_len]; omega, put_perm.nodup_iff.2 hnd, fun e hm => ?_, ?_⟩
  · obtain ⟨x, hx, rfl⟩ := List.mem_map.1 hm
    have key : 0 ≤ x.Number ∧ x.Number ≤ w.Newest ∧ w.Newest - x.Number < s' ∧ x.Tags ≠ [] ∧ Tags x.Tags ∧ x.Tags.Nodup := by
      have old : ∀ y ∈ w.Epochs, 0 ≤ y.Number ∧ y.Number ≤ w.Newest ∧ w.Newest - y.Number < s' ∧ y.Tags ≠ [] ∧ Tags y.Tags ∧ y.Tags.Nodup := fun y hy => by
        obtain ⟨a, b, c, d, f⟩ := h.ep y hy
        exact ⟨a, b, by omega, d, fun t htt => hT t ((tags_sub hy).subset htt), h.nodup.sublist (tags_sub hy)⟩
      rw [putI_eq] at hx
      split at hx
      · exact old x hx
      · rename_i hne
        rcases ins_mem hx with hx | rfl | ⟨y, hy, hyn, rfl⟩
        · exact old x hx
        · exact ⟨he.1, he.2.1, he.2.2, hne, hTf, freshS_nodup⟩
        · obtain ⟨a, b, c, d, f, g⟩ := old y hy
          refine ⟨a, b, c, by simp [hne], fun t htt => ?_, ?_⟩
          · rcases List.mem_append.1 htt with k | k
            · exact hTf t k
            · exact f t k
          · exact hnd.sublist ((List.Sublist.refl _).append (tags_sub hy))
    obtain ⟨k1, k2, k3, k4, k5, k6⟩ := key
    refine ⟨k1, k2, k3, fun e => k4 ?_, msort_rises k5 k6⟩
    have := (msort_perm x.Tags).length_eq
    have e : msort x.Tags = [] := e
    rw [e] at this
    exact List.eq_nil_of_length_eq_zero this.symm
  · refine List.pairwise_map.2 ?_
    show List.Pairwise (fun a b : Api_Epoch => a.Number < b.Number) _
    rw [putI_eq]
    split
    · exact h.inc
    · exact ins_inc h.inc
end
/-! ### Right windows that hold the same are the same -/
theorem sorted_ext {α : Type} {f : α → Int} : ∀ {a b : List α}, a.Pairwise (fun x y => f x < f y) → b.Pairwise (fun x y => f x < f y) → (∀ t, t ∈ a ↔ t ∈ b) → a = b
  | [], [], _, _, _ => rfl
  | [], y :: b, _, _, h => by have := (h y).2 (by simp); cases this
  | x :: a, [], _, _, h => by have := (h x).1 (by simp); cases this
  | x :: a, y :: b, ha, hb, h => by
    obtain ⟨h1, h2⟩ := List.pairwise_cons.1 ha
    obtain ⟨h3, h4⟩ := List.pairwise_cons.1 hb
    have e : x = y := by
      rcases List.mem_cons.1 ((h x).1 (by simp)) with e | hx
      · exact e
      · rcases List.mem_cons.1 ((h y).2 (by simp)) with e | hy
        · exact e.symm
        · have := h3 x hx; have := h1 y hy; omega
    subst e
    rw [sorted_ext h2 h4 fun t => ?_]
    constructor
    · intro ht
      rcases List.mem_cons.1 ((h t).1 (by simp [ht])) with rfl | k
      · have := h1 t ht; omega
      · exact k
    · intro ht
      rcases List.mem_cons.1 ((h t).2 (by simp [ht])) with rfl | k
      · have := h3 t ht; omega
      · exact k
theorem ep_one {es : List Api_Epoch} (h : es.Pairwise fun a b => a.Number < b.Number) {x y : Api_Epoch} (hx : x ∈ es) (hy : y ∈ es) (e : x.Number = y.Number) : x = y := by
  obtain ⟨i, hi, rfl⟩ := List.getElem_of_mem hx
  obtain ⟨j, hj, rfl⟩ := List.getElem_of_mem hy
  rcases Nat.lt_trichotomy i j with h1 | h1 | h1
  · have := List.pairwise_iff_getElem.1 h i j hi hj h1; omega
  · subst h1; rfl
  · have := List.pairwise_iff_getElem.1 h j i hj hi h1; omega
theorem valid_ext {w v : Api_Window} {s r s' r' : Int} (hw : VW w s r) (hv : VW v s' r') (hn : w.Newest = v.Newest) (hp : ∀ n t, pairs w n t ↔ pairs v n t) : w = v := by
  have half : ∀ {a b : Api_Window} {s r s' r' : Int}, VW a s r → VW b s' r' → (∀ n t, pairs a n t ↔ pairs b n t) → ∀ e ∈ a.Epochs, e ∈ b.Epochs := by
    intro a b s r s' r' ha hb h e he
    obtain ⟨t, ht⟩ := List.exists_mem_of_ne_nil _ (ha.ep e he).2.2.2.1
    obtain ⟨f, hf, h1, h2⟩ := (h e.Number t).1 ⟨e, he, rfl, ht⟩
    have : e.Tags = f.Tags := rises_unique (ha.ep e he).2.2.2.2 (hb.ep f hf).2.2.2.2 fun u => by
      constructor
      · intro hu
        obtain ⟨g, hg, h3, h4⟩ := (h e.Number u).1 ⟨e, he, rfl, hu⟩
        rw [ep_one hb.inc hf hg (by omega)]; exact h4
      · intro hu
        obtain ⟨g, hg, h3, h4⟩ := (h f.Number u).2 ⟨f, hf, rfl, hu⟩
        rw [ep_one ha.inc he hg (by omega)]; exact h4
    have : e = f := by
      cases e; cases f; simp only at this h1; subst this; subst h1; rfl
    rw [this]; exact hf
  have he : w.Epochs = v.Epochs := sorted_ext hw.inc hv.inc fun e => ⟨half hw hv hp e, half hv hw (fun n t => (hp n t).symm) e⟩
  cases w; cases v; simp only at hn he; subst hn; subst he; rfl
end Go.Proofs.Ytgllljocmpbooaa

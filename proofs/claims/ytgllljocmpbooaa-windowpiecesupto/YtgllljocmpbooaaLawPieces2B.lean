/- LawPieces2B: WindowPieces is true of every input (of bulk up to 1048576). -/
import Derived.Test.YtgllljocmpbooaaLawPutB
import Derived.Test.YtgllljocmpbooaaWindowPiecesS
set_option linter.unusedVariables false
set_option linter.unusedSimpArgs false
namespace Go.Proofs.Ytgllljocmpbooaa
open Go Go.Sim
section
variable {w : Api_Window}
theorem fresh_len {a b : List (List Int)} (h : ∀ t, t ∈ a ↔ t ∈ b) : (freshS w a).length = (freshS w b).length :=
  ((List.perm_ext_iff_of_nodup freshS_nodup freshS_nodup).2 fun t => by rw [freshS_mem, freshS_mem, h]).length_eq
/-- In pieces or at once. -/
theorem fresh_parts {ep : Int} {a b : List (List Int)} : (freshS w (a ++ b)).length = (freshS w a).length + (freshS (put w ep a) b).length := by
  have : (freshS w (a ++ b)).Perm (freshS w a ++ freshS (put w ep a) b) := by
    refine (List.perm_ext_iff_of_nodup freshS_nodup (List.nodup_append.2 ⟨freshS_nodup, freshS_nodup, fun x hx y hy e => ?_⟩)).2 fun t => ?_
    · subst e
      exact (freshS_mem.1 hy).2 (put_tags.2 (.inr (freshS_mem.1 hx).1))
    · rw [List.mem_append, freshS_mem, freshS_mem, freshS_mem, put_tags, List.mem_append]
      by_cases h1 : t ∈ tagsOf w <;> by_cases h2 : t ∈ a <;> simp [h1, h2]
  rw [this.length_eq, List.length_append]
theorem err_of {ep r : Int} {a b : List (List Int)} (h : (freshS w a).length = (freshS w b).length) : (addS w ep a r).2 = (addS w ep b r).2 := by
  unfold addS
  rw [h]
  cases (decide (r < 0) || decide (r > 4096) || !okB w) <;> cases (decide (ep < 0) || !(decide (ep ≤ w.Newest) && decide (w.Newest - ep < 8))) <;> cases decide ((lenOf w : Int) + ((freshS w b).length : Int) > r) <;> rfl
theorem put_same {ep s s' r r' : Int} {a b : List (List Int)} (ha : VW (put w ep a) s r) (hb : VW (put w ep b) s' r') (h : ∀ t, t ∈ a ↔ t ∈ b) : put w ep a = put w ep b :=
  valid_ext ha hb rfl fun n t => by rw [put_pairs, put_pairs, h]
theorem add_same (hw : GoodW w) {ep r : Int} {a b : List (List Int)} (ta : Tags a) (tb : Tags b) (h : ∀ t, t ∈ a ↔ t ∈ b) : addS w ep a r = addS w ep b r := by
  have he := err_of (ep := ep) (r := r) (fresh_len (w := w) h)
  by_cases h0 : (addS w ep a r).2 = 0
  · obtain ⟨v1, _, e1⟩ := put_good hw ta h0
    obtain ⟨v2, _, e2⟩ := put_good hw tb (he ▸ h0)
    exact Prod.ext (by rw [e1, e2, put_same v1 v2 h]) he
  · exact Prod.ext (by rw [addS_err h0, addS_err (fun e => h0 (he.trans e))]) he
theorem add_parts (hw : GoodW w) {ep r : Int} {a b : List (List Int)} (ta : Tags a) (tb : Tags b) (h0 : (addS w ep a r).2 = 0) : addS (addS w ep a r).1 ep b r = addS w ep (a ++ b) r := by
  obtain ⟨v1, g1, e1⟩ := put_good hw ta h0
  obtain ⟨a1, a2, a3, a4, a5, a6⟩ := addS_ok h0
  have tab : Tags (a ++ b) := fun t h => (List.mem_append.1 h).elim (ta t) (tb t)
  rw [e1]
  have hok : okB (put w ep a) = true := (okB_iff g1).2 (v1.weaken (Int.le_refl _) (by omega))
  have hf := fresh_parts (w := w) (ep := ep) (a := a) (b := b)
  have hl := put_len (w := w) (ep := ep) (tags := a)
  have hN : (put w ep a).Newest = w.Newest := rfl
  have herr : (addS (put w ep a) ep b r).2 = (addS w ep (a ++ b) r).2 := by
    unfold addS
    rw [hok, a3, hN]
    have e3 : decide ((lenOf (put w ep a) : Int) + ((freshS (put w ep a) b).length : Int) > r) = decide ((lenOf w : Int) + ((freshS w (a ++ b)).length : Int) > r) := by
      congr 1; rw [hf, hl]; exact propext ⟨fun h => by omega, fun h => by omega⟩
    rw [e3]
    cases (decide (r < 0) || decide (r > 4096) || !true) <;> cases (decide (ep < 0) || !(decide (ep ≤ w.Newest) && decide (w.Newest - ep < 8))) <;> cases decide ((lenOf w : Int) + ((freshS w (a ++ b)).length : Int) > r) <;> rfl
  by_cases h1 : (addS w ep (a ++ b) r).2 = 0
  · obtain ⟨v2, _, e2⟩ := put_good hw tab h1
    obtain ⟨v3, _, e3⟩ := put_good g1 tb (herr.trans h1)
    refine Prod.ext ?_ herr
    rw [e2, e3]
    refine valid_ext v3 v2 rfl fun n t => ?_
    rw [put_pairs, put_pairs, put_pairs, put_tags, List.mem_append]
    constructor
    · rintro ((h | ⟨h, i, j⟩) | ⟨h, i, j⟩)
      · exact .inl h
      · exact .inr ⟨h, .inl i, j⟩
      · exact .inr ⟨h, .inr i, fun k => j (.inl k)⟩
    · rintro (h | ⟨h, i, j⟩)
      · exact .inl (.inl h)
      · by_cases k : t ∈ a
        · exact .inl (.inr ⟨h, k, j⟩)
        · exact .inr ⟨h, i.resolve_left k, fun q => q.elim j k⟩
  · exact Prod.ext (by rw [addS_err h1, addS_err (fun e => h1 (herr ▸ e))]) herr
/-- Refused in a part, refused as a whole. -/
theorem add_refused {ep r : Int} {a b : List (List Int)} (h0 : (addS w ep a r).2 ≠ 0) : (addS w ep (a ++ b) r).2 = (addS w ep a r).2 := by
  have hf := fresh_parts (w := w) (ep := ep) (a := a) (b := b)
  unfold addS at h0 ⊢
  cases h1 : (decide (r < 0) || decide (r > 4096) || !okB w) with
  | true => rfl
  | false =>
    rw [h1] at h0
    cases h2 : (decide (ep < 0) || !(decide (ep ≤ w.Newest) && decide (w.Newest - ep < 8))) with
    | true => rfl
    | false =>
      rw [h2] at h0
      cases h3 : decide ((lenOf w : Int) + ((freshS w a).length : Int) > r) with
      | false => rw [h3] at h0; simp at h0
      | true =>
        have : decide ((lenOf w : Int) + ((freshS w (a ++ b)).length : Int) > r) = true := by
          simp only [decide_eq_true_eq] at h3 ⊢; omega
        rw [this]; rfl
end
theorem lawPieces : DWindowPieces.Law := by
  intro o hg hb
  have g := goodJ_of hg (by omega)
  have gl := g.len
  have tab : Tags (o.Tags ++ o.More) := fun t h => (List.mem_append.1 h).elim (g.tags t) (g.more t)
  have tba : Tags (o.More ++ o.Tags) := fun t h => (List.mem_append.1 h).elim (g.more t) (g.tags t)
  unfold f_churnlaw16_WindowPieces
  rw [alive_eq]
  simp only [Option.bind_some, Bool.not_true, cond_false]
  rw [app_eq (show ([] : List (List Int)).length + o.Tags.length ≤ room by simp [room]; omega), app_eq (show ([] : List (List Int)).length + o.More.length ≤ room by simp [room]; omega)]
  simp only [Option.bind_some, List.nil_append]
  rw [app_eq (show o.Tags.length + o.More.length ≤ room by simp [room]; omega), app_eq (show o.More.length + o.Tags.length ≤ room by simp [room]; omega)]
  simp only [Option.bind_some]
  have hA := addS_good g.w g.tags (ep := o.Epoch) (r := o.Room)
  rw [window_Add g.w g.ep tab (by simp; omega), window_Add g.w g.ep tba (by simp; omega), window_Add g.w g.ep g.tags (by omega)]
  simp only [Option.bind_some]
  rw [window_Add hA g.ep g.more (by omega)]
  have hs := add_same g.w (ep := o.Epoch) (r := o.Room) tba tab (fun t => by simp [or_comm])
  rw [hs]
  have hG := addS_good g.w tab (ep := o.Epoch) (r := o.Room)
  simp only [Option.bind_some, bne_self_eq_false, cond_false]
  rw [same_self hG]
  simp only [Option.bind_some, Bool.not_true, cond_false]
  by_cases h0 : (addS o.W o.Epoch o.Tags o.Room).2 = 0
  · rw [add_parts g.w g.tags g.more h0]
    simp only [h0, bne_self_eq_false, cond_false, beq_self_eq_true, cond_true]
    rw [same_self hG]; rfl
  · have : ((addS o.W o.Epoch o.Tags o.Room).2 != 0) = true := by simpa using h0
    rw [this, cond_true, add_refused h0]; simp
theorem windowPiecesUpto : Rows.WindowPiecesUptoSaid := DWindowPieces.said lawPieces
#print axioms windowPiecesUpto
end Go.Proofs.Ytgllljocmpbooaa

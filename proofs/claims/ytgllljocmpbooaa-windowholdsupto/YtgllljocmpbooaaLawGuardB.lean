/- LawGuardB: what a guard gives. -/
import Derived.Test.YtgllljocmpbooaaLawValB
set_option linter.unusedVariables false
set_option linter.unusedSimpArgs false
namespace Go.Proofs.Ytgllljocmpbooaa
open Go Go.Sim
theorem sum_one {α : Type} (xs : List α) : (xs.map (bOne (α := α))).sum = xs.length := by
  induction xs with
  | nil => rfl
  | cons x xs ih => simp [bOne] at ih ⊢; omega
theorem goodW_of {w : Api_Window} (hg : g_Api_Window w) (hb : b_Api_Window w ≤ 1048576) : GoodW w := by
  obtain ⟨h1, ⟨h2, h3⟩, _⟩ := hg
  have hsum : (tagsOf w).length + w.Epochs.length ≤ (w.Epochs.map b_Api_Epoch).sum := by
    have : ∀ es : List Api_Epoch, (∀ e ∈ es, g_Api_Epoch e) → (es.flatMap (·.Tags)).length + es.length ≤ (es.map b_Api_Epoch).sum := by
      intro es hes
      induction es with
      | nil => simp
      | cons e es ih =>
        have i1 := ih fun x hx => hes x (by simp [hx])
        obtain ⟨_, ⟨g2, _⟩, _⟩ := hes e (by simp)
        have h16 : e.Tags.length ≤ (e.Tags.map (bArr bOne)).sum := by
          have : ∀ ts : List (List Int), (∀ t ∈ ts, gArr 16 (gInt .u8) t) → ts.length ≤ (ts.map (bArr bOne)).sum := by
            intro ts hts
            induction ts with
            | nil => simp
            | cons t ts ih2 =>
              have i2 := ih2 fun x hx => hts x (by simp [hx])
              have i3 := (hts t (by simp)).2
              have : bArr bOne t = t.length := sum_one t
              simp only [List.map_cons, List.sum_cons, List.length_cons, this]; omega
          exact this _ g2
        have hbe : b_Api_Epoch e = bOne e.Number + (bSl (bArr bOne) e.Tags + 0) := rfl
        have hb2 : bSl (bArr bOne) e.Tags = (e.Tags.map (bArr bOne)).sum + 1 := rfl
        simp only [List.flatMap_cons, List.length_append, List.map_cons, List.sum_cons, List.length_cons, hbe, hb2]
        omega
    exact this _ h2
  have hbw : b_Api_Window w = bOne w.Newest + (((w.Epochs.map b_Api_Epoch).sum + 1) + 0) := rfl
  refine ⟨h1, fun e he => (h2 e he).1, fun t ht => ?_, by unfold lenOf; omega, by omega⟩
  obtain ⟨e, he, het⟩ := List.mem_flatMap.1 ht
  obtain ⟨_, ⟨g2, _⟩, _⟩ := h2 e he
  exact ⟨(g2 t het).2, fun b hb => (g2 t het).1 b hb⟩
theorem tagsG_of {ts : List (List Int)} (h : gSl (gArr 16 (gInt .u8)) ts) : Tags ts := fun t ht => ⟨(h.1 t ht).2, fun b hb => (h.1 t ht).1 b hb⟩
theorem tags_le {ts : List (List Int)} (h : gSl (gArr 16 (gInt .u8)) ts) : ts.length ≤ bSl (bArr bOne) ts := by
  have : ∀ ts : List (List Int), (∀ t ∈ ts, gArr 16 (gInt .u8) t) → ts.length ≤ (ts.map (bArr bOne)).sum := by
    intro ts hts
    induction ts with
    | nil => simp
    | cons t ts ih2 =>
      have i2 := ih2 fun x hx => hts x (by simp [hx])
      have i3 := (hts t (by simp)).2
      have : bArr bOne t = t.length := sum_one t
      simp only [List.map_cons, List.sum_cons, List.length_cons, this]; omega
  have h1 := this ts h.1
  have h2 : bSl (bArr bOne) ts = (ts.map (bArr bOne)).sum + 1 := rfl
  omega
/-- What a job's guard gives. -/
structure GoodJ (o : Churnlaw16_Job) : Prop where
  w : GoodW o.W
  ep : gInt .i64 o.Epoch
  span : gInt .i64 o.Span
  tags : Tags o.Tags
  more : Tags o.More
  len : o.Tags.length + o.More.length ≤ 1048576
theorem goodJ_of {o : Churnlaw16_Job} (hg : g_Churnlaw16_Job o) (hb : b_Churnlaw16_Job o ≤ 1048576) : GoodJ o := by
  obtain ⟨h1, h2, h3, h4, h5, h6, _⟩ := hg
  have l1 := tags_le h5
  have l2 := tags_le h6
  have hbw : b_Churnlaw16_Job o = b_Api_Window o.W + (bOne o.Span + (bOne o.Room + (bOne o.Epoch + (bSl (bArr bOne) o.Tags + (bSl (bArr bOne) o.More + 0))))) := rfl
  exact ⟨goodW_of h1 (by omega), h4, h2, tagsG_of h5, tagsG_of h6, by omega⟩
end Go.Proofs.Ytgllljocmpbooaa

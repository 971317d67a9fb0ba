/- LawAddCB: window.Add, whole. -/
import Derived.Test.YtgllljocmpbooaaLawAddB
set_option linter.unusedVariables false
set_option linter.unusedSimpArgs false
namespace Go.Proofs.Ytgllljocmpbooaa
open Go Go.Sim

def freshK (w : Api_Window) (tags : List (List Int)) : List (List Int) := (tags.foldl addk []).filter fun y => decide (y ∉ tagsOf w)
def freshS (w : Api_Window) (tags : List (List Int)) : List (List Int) := msort (freshK w tags)
def okB (w : Api_Window) : Bool := c1 8 4096 && c2 w 4096 && c3 w && allIn (okW w 8) w.Epochs.length 0
def addS (w : Api_Window) (ep : Int) (tags : List (List Int)) (r : Int) : Api_Window × Int :=
  bif decide (r < 0) || decide (r > 4096) || !okB w then (⟨0, []⟩, 2)
  else bif decide (ep < 0) || !(decide (ep ≤ w.Newest) && decide (w.Newest - ep < 8)) then (⟨0, []⟩, 161)
  else bif decide ((lenOf w : Int) + ((freshS w tags).length : Int) > r) then (⟨0, []⟩, 160)
  else (⟨w.Newest, (putI w.Epochs ep (freshS w tags)).map sortE⟩, 0)
theorem freshK_nodup {w : Api_Window} {tags : List (List Int)} : (freshK w tags).Nodup := (foldk_nodup List.nodup_nil).filter _
theorem freshK_mem {w : Api_Window} {tags : List (List Int)} {t : List Int} : t ∈ freshK w tags ↔ t ∈ tags ∧ t ∉ tagsOf w := by
  unfold freshK
  rw [List.mem_filter, foldk_mem]; simp
theorem freshK_tags {w : Api_Window} {tags : List (List Int)} (ht : Tags tags) : Tags (freshK w tags) := fun t h => ht t (freshK_mem.1 h).1
theorem msort_congr {a b : List (List Int)} (ht : Tags a) (hn : a.Nodup) (hp : a.Perm b) : msort a = msort b :=
  rises_unique (msort_rises ht hn) (msort_rises (fun t h => ht t (hp.mem_iff.2 h)) (hp.nodup_iff.1 hn)) fun t => by rw [(msort_perm a).mem_iff, (msort_perm b).mem_iff]; exact hp.mem_iff
theorem step_congr {ep : Int} {a b : List (List Int)} {s s' : List Api_Epoch × Bool} {e : Api_Epoch} (h1 : s.1.map sortE = s'.1.map sortE) (h2 : s.2 = s'.2) (ha : msort a = msort b) (hc : msort (a ++ e.Tags) = msort (b ++ e.Tags)) :
    (stepI ep a s e).1.map sortE = (stepI ep b s' e).1.map sortE ∧ (stepI ep a s e).2 = (stepI ep b s' e).2 := by
  obtain ⟨x, m⟩ := s; obtain ⟨y, m'⟩ := s'
  simp only at h1 h2
  subst h2
  unfold stepI
  cases m <;> cases decide (e.Number ≥ ep) <;> cases decide (e.Number > ep) <;> simp [h1, sortE, ha, hc]
theorem fold_congr {ep : Int} {a b : List (List Int)} (ha : msort a = msort b) : ∀ {es : List Api_Epoch} {s s' : List Api_Epoch × Bool}, (∀ e ∈ es, msort (a ++ e.Tags) = msort (b ++ e.Tags)) → s.1.map sortE = s'.1.map sortE → s.2 = s'.2 →
    (es.foldl (stepI ep a) s).1.map sortE = (es.foldl (stepI ep b) s').1.map sortE ∧ (es.foldl (stepI ep a) s).2 = (es.foldl (stepI ep b) s').2
  | [], s, s', _, h1, h2 => ⟨h1, h2⟩
  | e :: es, s, s', hc, h1, h2 => by
    obtain ⟨h3, h4⟩ := step_congr (ep := ep) h1 h2 ha (hc e (by simp))
    exact fold_congr (s := stepI ep a s e) (s' := stepI ep b s' e) ha (fun x hx => hc x (by simp [hx])) h3 h4
theorem put_congr {es : List Api_Epoch} {ep : Int} {a b : List (List Int)} (hl : a.length = b.length) (ha : msort a = msort b) (hc : ∀ e ∈ es, msort (a ++ e.Tags) = msort (b ++ e.Tags)) : (putI es ep a).map sortE = (putI es ep b).map sortE := by
  obtain ⟨h1, h2⟩ := fold_congr (ep := ep) ha (s := ([], (a.length : Int) == 0)) (s' := ([], (b.length : Int) == 0)) hc rfl (by simp [hl])
  unfold putI insI
  rw [h2]
  cases (es.foldl (stepI ep b) ([], (b.length : Int) == 0)).2 <;> simp [h1, sortE, ha]

theorem fresh_loop {tags : List (List Int)} (hl : tags.length ≤ 1048576) :
    Loop.run (S := (Int × (List ((List Int) × Int)))) (R := (List ((List Int) × Int))) (fun (x901, x902) =>
          bif decide (x901 < (tags.length : Int)) then
            (idx tags x901).bind fun x912 =>
            some (.next (IntKind.wrap .i64 (x901 + 1), mset x912 x901 x902))
          else
            some (.done x902)) (0, []) = some (frAt tags tags.length) := by
  rw [Loop.run_eq0 (st := fun i => ((i : Int), frAt tags i)) (res := fun _ => frAt tags tags.length) (n := tags.length)]
  · intro i hi
    left
    have h1 : (i : Int) < (tags.length : Int) := by omega
    have h2 : tags[i]? = some tags[i] := by simp [hi]
    refine ⟨?_, rfl⟩
    simp only [h1, decide_true, cond_true, idx_nat hi, Option.bind_some, frAt, h2]
    rw [wrap64 (by omega)]; simp
  · simp
  · simp [frAt]
section
variable {w : Api_Window}
theorem full_nodup (h : c3 w = true) : (tagsOf w).Nodup := by
  have h4 : (keysOf w).length = lenOf w := by
    have := h; simp only [c3, beq_iff_eq] at this; omega
  exact (foldk_full (l := tagsOf w) (ks := []) (by simpa [keysOf, lenOf] using h4)).1
theorem app_loop : ∀ {qs : List (List Int × Int)} {acc : List (List Int)}, acc.length + qs.length ≤ 4000000 →
    qs.foldlM (fun x103 p106 => (app x103 [p106.1]).bind fun z885 => some z885) acc = some (acc ++ qs.map (·.1))
  | [], acc, _ => by simp
  | q :: qs, acc, h => by
    simp only [List.length_cons] at h
    rw [List.foldlM_cons, app_eq (by simp [room]; omega)]
    simp only [Option.bind_some, Option.bind_eq_bind]
    rw [app_loop (by simp; omega)]
    simp
theorem putI_epochs {es : List Api_Epoch} {ep : Int} {ad : List (List Int)} (P : Api_Epoch → Prop) (h1 : ∀ e ∈ es, P e) (h2 : P ⟨ep, ad⟩) (h3 : ∀ e ∈ es, P { e with Tags := ad ++ e.Tags }) : ∀ e ∈ putI es ep ad, P e := by
  have key : ∀ (l : List Api_Epoch), (∀ e ∈ l, e ∈ es) → ∀ s : List Api_Epoch × Bool, (∀ e ∈ s.1, P e) → ∀ e ∈ (l.foldl (stepI ep ad) s).1, P e := by
    intro l
    induction l with
    | nil => intro _ s hs; exact hs
    | cons x l ih =>
      intro hl s hs
      rw [List.foldl_cons]
      refine ih (fun e he => hl e (by simp [he])) _ fun e he => ?_
      have hx := hl x (by simp)
      unfold stepI at he
      cases h4 : s.2 <;> cases h5 : decide (x.Number ≥ ep) <;> cases h6 : decide (x.Number > ep) <;> simp [h4, h5, h6] at he <;> rcases he with he | he <;> first | exact hs e he | (rw [he]; first | exact h1 x hx | exact h3 x hx) | (rcases he with he | he <;> rw [he] <;> first | exact h2 | exact h1 _ hx)
  intro e he
  have hfold := key es (fun e h => h) ([], (ad.length : Int) == 0) (by simp)
  unfold putI insI at he
  cases hm : (es.foldl (stepI ep ad) ([], (ad.length : Int) == 0)).2 <;> rw [hm] at he <;> simp only [cond_true, cond_false] at he
  · rcases List.mem_append.1 he with he | he
    · exact hfold e he
    · simp at he; subst he; exact h2
  · exact hfold e he
theorem putI_len {es : List Api_Epoch} {ep : Int} {ad : List (List Int)} : (putI es ep ad).length ≤ 2 * es.length + 1 := by
  have := foldI_len (ep := ep) (ad := ad) (es := es) (s := ([], (ad.length : Int) == 0))
  unfold putI insI
  cases (es.foldl (stepI ep ad) ([], (ad.length : Int) == 0)).2 <;> simp at this ⊢ <;> omega
end
end Go.Proofs.Ytgllljocmpbooaa

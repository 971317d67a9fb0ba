/- LawAddDB: window.Add, whole. -/
import Derived.Test.YtgllljocmpbooaaLawAddCB
set_option linter.unusedVariables false
set_option linter.unusedSimpArgs false
namespace Go.Proofs.Ytgllljocmpbooaa
open Go Go.Sim
theorem bind_of {α β : Type} {o : Option α} {a : α} {k : α → Option β} {r : Option β} (h : o = some a) (hk : k a = r) : o.bind k = r := by rw [h]; exact hk
section
variable {w : Api_Window}
theorem add_tail (hw : GoodW w) (hn : (tagsOf w).Nodup) {ep : Int} {tags ad : List (List Int)} (ht : Tags tags) (hl : tags.length ≤ 1048576) (hp : ad.Perm (freshK w tags)) :
    (putI w.Epochs ep ad).map sortE = (putI w.Epochs ep (freshS w tags)).map sortE ∧ ad.length = (freshS w tags).length ∧ ad.length ≤ 1048576 ∧ ∀ e ∈ putI w.Epochs ep ad, Tags e.Tags ∧ e.Tags.length ≤ 4000000 := by
  have hF := (msort_perm (freshK w tags))
  have hp2 : ad.Perm (freshS w tags) := hp.trans hF.symm
  have hK := freshK_tags (w := w) ht
  have hTad : Tags ad := fun t h => hK t (hp.mem_iff.1 h)
  have hNad : ad.Nodup := hp.nodup_iff.2 freshK_nodup
  have hlen : (freshK w tags).length ≤ 1048576 := by
    have h1 : (freshK w tags).length ≤ (tags.foldl addk []).length := List.length_filter_le _ _
    have h2 := foldk_len (l := tags) (ks := ([] : List (List Int)))
    simp at h2; omega
  have hlad : ad.length ≤ 1048576 := by rw [hp.length_eq]; exact hlen
  have hwl := hw.len
  have hNe : ∀ e ∈ w.Epochs, (ad ++ e.Tags).Nodup := fun e he => by
    have hs : e.Tags.Sublist (tagsOf w) := by
      obtain ⟨j, hj, rfl⟩ := List.getElem_of_mem he
      rw [part_split w j, drop_at hj, List.flatMap_cons]
      exact ((List.sublist_append_left _ _).trans (List.sublist_append_right _ _))
    refine List.nodup_append.2 ⟨hNad, hn.sublist hs, fun a ha b hb e => ?_⟩
    subst e
    exact (freshK_mem.1 (hp.mem_iff.1 ha)).2 (hs.subset hb)
  have hTe : ∀ e ∈ w.Epochs, Tags e.Tags := fun e he => by
    obtain ⟨j, hj, rfl⟩ := List.getElem_of_mem he
    exact ep_tags hw hj
  have hLe : ∀ e ∈ w.Epochs, e.Tags.length ≤ 1048576 := fun e he => by
    obtain ⟨j, hj, rfl⟩ := List.getElem_of_mem he
    have := ep_le hj; omega
  refine ⟨put_congr hp2.length_eq (msort_congr hTad hNad hp2) fun e he => msort_congr (fun t h => ?_) (hNe e he) (hp2.append_right _), hp2.length_eq, hlad, ?_⟩
  · rcases List.mem_append.1 h with h | h
    · exact hTad t h
    · exact hTe e he t h
  · refine putI_epochs (fun e => Tags e.Tags ∧ e.Tags.length ≤ 4000000) (fun e he => ⟨hTe e he, by have := hLe e he; omega⟩) ⟨hTad, by simp only; omega⟩ fun e he => ⟨fun t h => ?_, by have := hLe e he; simp; omega⟩
    rcases List.mem_append.1 h with h | h
    · exact hTad t h
    · exact hTe e he t h
theorem window_Add (hw : GoodW w) {ep r : Int} (hep : gInt .i64 ep) {tags : List (List Int)} (ht : Tags tags) (hl : tags.length ≤ 1048576) : f_window_Add w ep tags r = some (addS w ep tags r) := by
  have hwl := hw.len
  have hwe := hw.eps
  have hne := i64_range hw.newest
  have hepr := i64_range hep
  unfold f_window_Add addS
  cases hr : (decide (r < 0) || decide (r > 4096)) with
  | true => simp
  | false =>
    simp only [cond_false, Bool.false_or]
    rw [window_Check hw]
    have hok : (c1 8 4096 && c2 w 4096 && c3 w && allIn (okW w 8) w.Epochs.length 0) = okB w := rfl
    rw [hok]
    cases hb : okB w with
    | false => simp
    | true =>
      have hb' := hb
      unfold okB at hb'
      simp only [Bool.and_eq_true] at hb'
      obtain ⟨⟨⟨_, hc2⟩, hc3⟩, _⟩ := hb'
      have hN : 0 ≤ w.Newest ∧ w.Newest ≤ 4611686018427387904 := by
        unfold c2 at hc2; simp at hc2; omega
      have hnd := full_nodup hc3
      simp only [cond_true, Option.bind_some, bne_self_eq_false, cond_false, Bool.not_true]
      cases h1 : decide (ep < 0) with
      | true => simp
      | false =>
        simp only [decide_eq_false_iff_not] at h1
        have hk : f_window_kept ep w.Newest 8 = some (decide (ep ≤ w.Newest) && decide (w.Newest - ep < 8)) := by
          unfold f_window_kept; rw [wrap64 (by omega)]
        simp only [cond_false, hk, Option.bind_some, Bool.false_or]
        cases h2 : (decide (ep ≤ w.Newest) && decide (w.Newest - ep < 8)) with
        | false => simp
        | true =>
          simp only [Bool.not_true, cond_false]
          rw [fresh_loop hl]
          obtain ⟨m, hm, hmk⟩ := window_known hw
          rw [hm]
          simp only [Option.bind_some]
          refine allOrd_of fun qs hq => ?_
          rw [foldlM_some (f := fun s (q : List Int × Int) => mdel q.1 s)]
          simp only [Option.bind_some]
          have hfk := frAt_keys (tags := tags) tags.length (Nat.le_refl _)
          rw [List.take_length] at hfk
          have hkeys : (qs.foldl (fun s q => mdel q.1 s) (frAt tags tags.length)).map (·.1) = freshK w tags := by
            rw [dels_keys (by rw [hfk]; exact foldk_nodup List.nodup_nil), hfk]
            unfold freshK
            refine List.filter_congr fun y _ => ?_
            have : y ∈ qs.map (·.1) ↔ y ∈ tagsOf w := by
              rw [(hq.map _).mem_iff, hmk, keysOf, foldk_mem]; simp
            simp [this]
          generalize qs.foldl (fun s q => mdel q.1 s) (frAt tags tags.length) = fm at hkeys
          have hfl : fm.length = (freshK w tags).length := by rw [← hkeys]; simp
          have hFl : (freshS w tags).length = (freshK w tags).length := (msort_perm _).length_eq
          obtain ⟨_, _, hKl, _⟩ := add_tail hw hnd (ep := ep) ht hl (List.Perm.refl (freshK w tags))
          rw [window_Len hw]
          simp only [Option.bind_some]
          rw [wrap64 (by omega), hfl, hFl]
          cases h3 : decide ((lenOf w : Int) + ((freshK w tags).length : Int) > r) with
          | true => rfl
          | false =>
            simp only [cond_false]
            refine allOrd_of fun ps hps => ?_
            have hadp : (ps.map (·.1)).Perm (freshK w tags) := by rw [← hkeys]; exact hps.map _
            obtain ⟨t1, t2, t3, t4⟩ := add_tail hw hnd (ep := ep) ht hl hadp
            have hapl := app_loop (qs := ps) (acc := []) (by have := hps.length_eq; simp; omega)
            rw [List.nil_append] at hapl
            rw [hapl]
            simp only [Option.bind_some]
            refine bind_of (put_loop hw t3) ?_
            have hpl := putI_len (es := w.Epochs) (ep := ep) (ad := ps.map (·.1))
            have hsl := sort_loop (n := w.Newest) (by omega) t4
            rw [← t1]
            unfold putI at hsl hpl ⊢
            generalize hI : insI w.Epochs ep (ps.map (·.1)) = s at hsl hpl ⊢
            obtain ⟨acc, mo⟩ := s
            cases mo with
            | true =>
              simp only [cond_true] at hsl ⊢
              exact bind_of (bind_of hsl rfl) rfl
            | false =>
              simp only [cond_false] at hsl hpl ⊢
              refine bind_of (bind_of (app_eq (by simp at hpl; simp [room]; omega)) rfl) ?_
              exact bind_of (bind_of hsl rfl) rfl
end
end Go.Proofs.Ytgllljocmpbooaa

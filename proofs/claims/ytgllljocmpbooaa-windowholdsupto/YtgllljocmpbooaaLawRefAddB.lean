/- LawRefAddB: churnref16.Add = addS. -/
import Derived.Test.YtgllljocmpbooaaLawFreshB
set_option linter.unusedVariables false
set_option linter.unusedSimpArgs false
namespace Go.Proofs.Ytgllljocmpbooaa
open Go Go.Sim
theorem rise_rises {ts : List (List Int)} (h : riseB ts = true) : Rises ts := by
  have h1 := allIn_iff.1 h
  have key : ∀ d i, (hi : i + d + 1 < ts.length) → ltL (ts.getD i []) (ts.getD (i + d + 1) []) = true := by
    intro d
    induction d with
    | zero => intro i hi; exact h1 i (by omega) (by omega)
    | succ d ih => intro i hi; exact ltL_trans (ih i (by omega)) (by have := h1 (i + d + 1) (by omega) (by omega); rwa [show i + (d + 1) + 1 = i + d + 1 + 1 by omega])
  refine List.pairwise_iff_getElem.2 fun i j hi hj hij => ?_
  have := key (j - i - 1) i (by omega)
  rw [show i + (j - i - 1) + 1 = j by omega] at this
  simpa [hi, hj] using this
section
variable {w : Api_Window}
theorem ok_rises (hw : GoodW w) (hn : (tagsOf w).Nodup) (h : allIn (okW w 8) w.Epochs.length 0 = true) : ∀ e ∈ w.Epochs, Rises e.Tags := fun e he => by
  obtain ⟨i, hi, rfl⟩ := List.getElem_of_mem he
  have h1 := allIn_iff.1 h i (by omega) (by omega)
  unfold okW at h1
  simp only [Bool.and_eq_true] at h1
  have g1 : epT w i = w.Epochs[i].Tags := by simp [epT, hi]
  have h2 := h1.2
  rw [g1] at h2
  have hs : (w.Epochs[i].Tags).Sublist (tagsOf w) := by
    rw [part_split w i, drop_at hi, List.flatMap_cons]
    exact ((List.sublist_append_left _ _).trans (List.sublist_append_right _ _))
  rw [up_rise (ep_tags hw hi) (hn.sublist hs)] at h2
  exact rise_rises h2
theorem ref16_Add (hw : GoodW w) {ep r : Int} (hep : gInt .i64 ep) {tags : List (List Int)} (ht : Tags tags) (hl : tags.length ≤ 1048576) : f_churnref16_Add w ep tags r = some (addS w ep tags r) := by
  have hwl := hw.len
  have hwe := hw.eps
  have hne := i64_range hw.newest
  have hepr := i64_range hep
  unfold f_churnref16_Add addS
  cases hr : (decide (r < 0) || decide (r > 4096)) with
  | true => simp
  | false =>
    simp only [cond_false, Bool.false_or]
    rw [← checks_same hw, window_Check hw]
    have hok : (c1 8 4096 && c2 w 4096 && c3 w && allIn (okW w 8) w.Epochs.length 0) = okB w := rfl
    rw [hok]
    cases hb : okB w with
    | false => simp
    | true =>
      have hb' := hb
      unfold okB at hb'
      simp only [Bool.and_eq_true] at hb'
      obtain ⟨⟨⟨_, hc2⟩, hc3⟩, hall⟩ := hb'
      have hN : (0 ≤ w.Newest ∧ w.Newest ≤ 4611686018427387904) ∧ (lenOf w : Int) ≤ 4096 := by
        unfold c2 at hc2; simp at hc2; omega
      have hnd := full_nodup hc3
      have hre := ok_rises hw hnd hall
      simp only [cond_true, Option.bind_some, bne_self_eq_false, cond_false, Bool.not_true]
      rw [wrap64 (x := w.Newest - 8) (by omega)]
      have hcond : ((decide (ep < 0) || decide (ep > w.Newest)) || decide (ep ≤ w.Newest - 8)) = (decide (ep < 0) || !(decide (ep ≤ w.Newest) && decide (w.Newest - ep < 8))) := by
        by_cases a1 : ep < 0 <;> by_cases a2 : ep ≤ w.Newest <;> by_cases a3 : w.Newest - ep < 8 <;> simp [a1, a2, a3] <;> omega
      rw [hcond]
      cases h2 : (decide (ep < 0) || !(decide (ep ≤ w.Newest) && decide (w.Newest - ep < 8))) with
      | true => rfl
      | false =>
        simp only [cond_false]
        rw [ref16_all hw]
        obtain ⟨H, s1, s2, s3, s4⟩ := sorted_eq 63 (tagsOf w) hw.tag hwl (Nat.le_trans hwl (by decide))
        obtain ⟨A, a1, a2, a3, a4⟩ := sorted_eq 63 tags ht hl (Nat.le_trans hl (by decide))
        simp only [Option.bind_some]
        rw [s1, a1]
        simp only [Option.bind_some]
        have hTH : Tags H := fun t h => hw.tag t ((s3 t).1 h)
        have hTA : Tags A := fun t h => ht t ((a3 t).1 h)
        have hHl : H.length = lenOf w := by
          rw [keys_sorted s2 s3]; have := hc3; simp only [c3, beq_iff_eq] at this; omega
        have hfr : (A.filter fun y => decide (y ∉ H)) = freshS w tags := by
          refine rises_unique (filter_rises a2) (msort_rises (freshK_tags ht) freshK_nodup) fun t => ?_
          unfold freshS
          rw [(msort_perm _).mem_iff, freshK_mem, List.mem_filter, a3, decide_eq_true_eq, s3]
        refine bind_of (bind_of (fresh_ref hTH hTA s2 a2 (by omega) (by omega)) rfl) ?_
        rw [hfr]
        obtain ⟨_, _, hKl, _⟩ := add_tail hw hnd (ep := ep) ht hl (List.Perm.refl (freshK w tags))
        have hFl : (freshS w tags).length = (freshK w tags).length := (msort_perm _).length_eq
        rw [wrap64 (by omega), hHl]
        cases h3 : decide ((lenOf w : Int) + ((freshS w tags).length : Int) > r) with
        | true => rfl
        | false =>
          simp only [cond_false]
          have hrr : r ≤ 4096 := by simp at hr; omega
          have hfl : (freshS w tags).length ≤ 4096 := by simp at h3; omega
          have hTF : Tags (freshS w tags) := fun t h => freshK_tags (w := w) ht t ((msort_perm _).mem_iff.1 h)
          have hRF : Rises (freshS w tags) := msort_rises (freshK_tags ht) freshK_nodup
          refine bind_of (bind_of (ref_loop hw hre hRF hTF hfl (fun e he => ?_) fun e he => ?_) rfl) rfl
          · obtain ⟨j, hj, rfl⟩ := List.getElem_of_mem he
            have := ep_le hj; omega
          · have hs : e.Tags.Sublist (tagsOf w) := by
              obtain ⟨j, hj, rfl⟩ := List.getElem_of_mem he
              rw [part_split w j, drop_at hj, List.flatMap_cons]
              exact ((List.sublist_append_left _ _).trans (List.sublist_append_right _ _))
            refine List.nodup_append.2 ⟨rises_nodup hRF, hnd.sublist hs, fun a ha b hb e => ?_⟩
            subst e
            exact (freshK_mem.1 ((msort_perm _).mem_iff.1 ha)).2 (hs.subset hb)
end
end Go.Proofs.Ytgllljocmpbooaa

/- LawLives2B: WindowLives is true of every input (of bulk up to 1048576). -/
import Derived.Test.YtgllljocmpbooaaLawPutB
import Derived.Test.YtgllljocmpbooaaWindowLivesS
set_option linter.unusedVariables false
set_option linter.unusedSimpArgs false
namespace Go.Proofs.Ytgllljocmpbooaa
open Go Go.Sim
theorem and_range {x : Int} (m : Nat) (hm : m < 2 ^ 63) : 0 ≤ andI .i64 x m ∧ andI .i64 x m ≤ m := by
  have h : ((BitVec.ofInt 64 x &&& BitVec.ofInt 64 (m : Int)).toNat : Int) ≤ m := by
    rw [BitVec.toNat_and]
    have h2 : (BitVec.ofInt 64 (m : Int)).toNat = m := by
      rw [BitVec.toNat_ofInt]; omega
    rw [h2]
    exact_mod_cast Nat.and_le_right
  have e : andI .i64 x m = IntKind.wrap .i64 ((BitVec.ofInt 64 x &&& BitVec.ofInt 64 (m : Int)).toNat : Int) := rfl
  rw [e, wrap64 (by omega)]
  omega
def spanL (s : Int) : Int := bif decide (s < 1) || decide (s > 8) then IntKind.wrap .i64 (1 + andI .i64 s 7) else s
def roomL (r : Int) : Int := bif decide (r < 0) || decide (r > 4096) then andI .i64 r 63 else r
theorem spanL_ok (s : Int) : 1 ≤ spanL s ∧ spanL s ≤ 8 := by
  unfold spanL
  cases h : (decide (s < 1) || decide (s > 8)) with
  | true =>
    have := and_range (x := s) 7 (by decide)
    simp only [cond_true]
    have e : (7 : Int) = ((7 : Nat) : Int) := rfl
    rw [e, wrap64 (by omega)]; omega
  | false => simp at h; simp only [cond_false]; omega
theorem roomL_ok (r : Int) : 0 ≤ roomL r ∧ roomL r ≤ 4096 := by
  unfold roomL
  cases h : (decide (r < 0) || decide (r > 4096)) with
  | true =>
    have := and_range (x := r) 63 (by decide)
    simp only [cond_true]
    have e : (63 : Int) = ((63 : Nat) : Int) := rfl
    rw [e]; omega
  | false => simp at h; simp only [cond_false]; omega
/-- One step of the script. -/
def stepL (s r : Int) (w : Api_Window) (q : Churnlaw16_Step) : Api_Window :=
  let o := bif q.Put && decide (q.Epoch > w.Newest - s) then addS w q.Epoch q.Tags r else openS w q.Epoch s
  bif o.2 == 0 then o.1 else w
structure Inv (w : Api_Window) (s r : Int) : Prop where
  v : VW w s r
  g : GoodW w
theorem inv_zero {s r : Int} (hr : 0 ≤ r) : Inv ⟨0, []⟩ s r := ⟨⟨by decide, by simp [lenOf, tagsOf]; omega, by simp [tagsOf], by simp, by simp⟩, good_nil⟩
theorem inv_step {w : Api_Window} {s r : Int} (hs : 1 ≤ s ∧ s ≤ 8) (hr : 0 ≤ r ∧ r ≤ 4096) (h : Inv w s r) {q : Churnlaw16_Step} (he : gInt .i64 q.Epoch) (ht : Tags q.Tags) : Inv (stepL s r w q) s r := by
  unfold stepL
  cases hc : (q.Put && decide (q.Epoch > w.Newest - s)) with
  | true =>
    simp only [cond_true]
    cases h0 : ((addS w q.Epoch q.Tags r).2 == 0) with
    | false => exact h
    | true =>
      have h0 : (addS w q.Epoch q.Tags r).2 = 0 := eq_of_beq h0
      obtain ⟨h1, h2, h3⟩ := put_good h.g ht h0
      obtain ⟨_, _, _, a4, a5, _⟩ := addS_ok h0
      simp only [cond_true, h3]
      simp only [Bool.and_eq_true, decide_eq_true_eq] at hc
      exact ⟨put_valid h.v ht h.g.tag ⟨a4.1, a4.2.1, by omega⟩ (Int.le_refl _) a5, h2⟩
  | false =>
    simp only [cond_false]
    cases h0 : ((openS w q.Epoch s).2 == 0) with
    | false => exact h
    | true =>
      have h0 : (openS w q.Epoch s).2 = 0 := eq_of_beq h0
      obtain ⟨h1, h2, h3⟩ := openS_ok h0
      have hg := openS_good h.g (s := s) he
      rw [h3] at hg ⊢
      exact ⟨openS_valid h.v ⟨h1.2.2.1, h1.2.2.2⟩, hg⟩
def runL (s r : Int) (qs : List Churnlaw16_Step) (i : Nat) : Api_Window := (qs.take i).foldl (stepL s r) ⟨0, []⟩
theorem lawLives : DWindowLives.Law := by
  intro a0 a1 qs g1 g2 g3 hb
  have hq : ∀ q ∈ qs, gInt .i64 q.Epoch ∧ Tags q.Tags := fun q hq => by
    obtain ⟨_, h2, h3, _⟩ := g3.1 q hq
    exact ⟨h2, tagsG_of h3⟩
  have hlen : ∀ q ∈ qs, q.Tags.length ≤ 1048576 := fun q hq => by
    obtain ⟨_, h2, h3, _⟩ := g3.1 q hq
    have h4 := tags_le h3
    have h5 : ∀ l : List Churnlaw16_Step, q ∈ l → b_Churnlaw16_Step q ≤ (l.map b_Churnlaw16_Step).sum := by
      intro l
      induction l with
      | nil => intro h; cases h
      | cons x l ih =>
        intro h
        rcases List.mem_cons.1 h with rfl | h
        · simp
        · have := ih h; simp; omega
    have h6 := h5 qs hq
    have h7 : b_Churnlaw16_Step q = bOne q.Put + (bOne q.Epoch + (bSl (bArr bOne) q.Tags + 0)) := rfl
    have h8 : bSl b_Churnlaw16_Step qs = (qs.map b_Churnlaw16_Step).sum + 1 := rfl
    omega
  have hs := spanL_ok a0
  have hr := roomL_ok a1
  unfold f_churnlaw16_WindowLives
  rw [alive_eq]
  simp only [Option.bind_some, Bool.not_true, cond_false]
  have e1 : (bif decide (a0 < 1) || decide (a0 > 8) then some (IntKind.wrap .i64 (1 + andI .i64 a0 7)) else some a0) = some (spanL a0) := by
    unfold spanL; cases (decide (a0 < 1) || decide (a0 > 8)) <;> rfl
  have e2 : (bif decide (a1 < 0) || decide (a1 > 4096) then some (andI .i64 a1 63) else some a1) = some (roomL a1) := by
    unfold roomL; cases (decide (a1 < 0) || decide (a1 > 4096)) <;> rfl
  rw [e1, e2]
  simp only [Option.bind_some]
  generalize spanL a0 = s at hs
  generalize roomL a1 = r at hr
  have inv : ∀ i, Inv (runL s r qs i) s r := by
    intro i
    have : ∀ (l : List Churnlaw16_Step) (w : Api_Window), (∀ q ∈ l, q ∈ qs) → Inv w s r → Inv (l.foldl (stepL s r) w) s r := by
      intro l
      induction l with
      | nil => intro w _ h; exact h
      | cons q l ih => intro w hm h; exact ih _ (fun x hx => hm x (by simp [hx])) (inv_step hs hr h (hq q (hm q (by simp))).1 (hq q (hm q (by simp))).2)
    exact this _ _ (fun q hq => (List.take_subset _ _) hq) (inv_zero hr.1)
  have hc1 : c1 s r = true := c1_iff.2 ⟨hs.1, hs.2, hr.1, hr.2⟩
  rw [Loop.run_eq0 (st := fun i => ((i : Int), runL s r qs i, runL s r qs i)) (res := fun _ => (.inl (runL s r qs (min qs.length 500), runL s r qs (min qs.length 500)) : (Api_Window × Api_Window) ⊕ Bool)) (n := min qs.length 500)]
  · simp only [Option.bind_some]
    rw [same_self (inv _).g]; rfl
  · intro i hi
    left
    have hil : i < qs.length := by omega
    have h1 : (i : Int) < (qs.length : Int) := by omega
    have h2 : (i : Int) < 500 := by omega
    have hI := inv i
    have hg := hI.g
    have hn := i64_range hg.newest
    have hvn := hI.v.new
    obtain ⟨q1, q2⟩ := hq qs[i] (List.getElem_mem hil)
    have q3 := hlen qs[i] (List.getElem_mem hil)
    have hnext : runL s r qs (i + 1) = stepL s r (runL s r qs i) qs[i] := by
      unfold runL; rw [List.take_succ_eq_append_getElem hil, List.foldl_append]; rfl
    refine ⟨?_, rfl⟩
    simp only [h1, h2, decide_true, Bool.and_true, cond_true, idx_nat hil, Option.bind_some]
    rw [window_Open hg q1, ref16_Open hg q1]
    simp only [Option.bind_some]
    rw [wrap64 (x := (runL s r qs i).Newest - s) (by omega), hnext]
    have hI' := inv (i + 1)
    rw [hnext] at hI'
    have tail : ∀ o : Api_Window × Int, GoodW o.1 → (bif o.2 == 0 then o.1 else runL s r qs i) = stepL s r (runL s r qs i) qs[i] →
        ((bif o.2 != o.2 then some true else (f_churnlaw16_same o.1 o.1).bind fun y459 => some (!y459) : Option Bool)).bind (fun x458 =>
              bif x458 then
                (some (.done (.inr false)) : Option (Ctl (Int × Api_Window × Api_Window) ((Api_Window × Api_Window) ⊕ Bool)))
              else
                ((bif o.2 == 0 then some (o.1, o.1) else some (runL s r qs i, runL s r qs i) : Option (Api_Window × Api_Window))).bind fun r467 => match r467 with
                  | (x465, x466) =>
                    (f_window_Check x465 s r).bind fun y470 =>
                    bif y470 != 0 then some (.done (.inr false)) else some (.next (IntKind.wrap .i64 ((i : Int) + 1), x465, x466))) = some (.next (((i + 1 : Nat) : Int), stepL s r (runL s r qs i) qs[i], stepL s r (runL s r qs i) qs[i])) := by
      intro o ho he
      simp only [bne_self_eq_false, cond_false]
      rw [same_self ho]
      simp only [Option.bind_some, Bool.not_true, cond_false]
      have : (bif o.2 == 0 then some (o.1, o.1) else some (runL s r qs i, runL s r qs i) : Option (Api_Window × Api_Window)) = some (stepL s r (runL s r qs i) qs[i], stepL s r (runL s r qs i) qs[i]) := by
        rw [← he]; cases (o.2 == 0) <;> rfl
      rw [this]
      simp only [Option.bind_some]
      rw [window_Check0 hI'.g hc1 hI'.v]
      simp only [Option.bind_some, bne_self_eq_false, cond_false]
      rw [wrap64 (by omega)]; simp
    cases hc : (qs[i].Put && decide (qs[i].Epoch > (runL s r qs i).Newest - s)) with
    | true =>
      simp only [cond_true]
      rw [window_Add hg q1 q2 q3, ref16_Add hg q1 q2 q3]
      simp only [Option.bind_some]
      exact tail (addS (runL s r qs i) qs[i].Epoch qs[i].Tags r) (addS_good hg q2) (by unfold stepL; rw [hc]; rfl)
    | false =>
      simp only [cond_false, Option.bind_some]
      exact tail (openS (runL s r qs i) qs[i].Epoch s) (openS_good hg q1) (by unfold stepL; rw [hc]; rfl)
  · have : ¬ (((min qs.length 500 : Nat) : Int) < (qs.length : Int) ∧ ((min qs.length 500 : Nat) : Int) < 500) := by omega
    have e : (decide (((min qs.length 500 : Nat) : Int) < (qs.length : Int)) && decide (((min qs.length 500 : Nat) : Int) < 500)) = false := by
      simp only [Bool.and_eq_false_iff, decide_eq_false_iff_not]; omega
    simp only [e, cond_false]
  · rfl
theorem windowLivesUpto : Rows.WindowLivesUptoSaid := DWindowLives.said lawLives
#print axioms windowLivesUpto
end Go.Proofs.Ytgllljocmpbooaa

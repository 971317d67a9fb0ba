import Derived.Test.YtobbmodjdkcdcaaGreatDoorQawMix
set_option linter.unusedVariables false
set_option linter.unusedSimpArgs false
set_option linter.unusedSectionVars false
set_option maxRecDepth 20000
set_option maxHeartbeats 1000000
namespace Go.Proofs.YtobbmodjdkcdcaaGreatDoor
open Go Go.Sim
variable [Fu]
theorem wO {b : aH} {out : List Int} (h : lX b = (out, 0)) : out = uF b ∧ InvH b.Header ∧ b.Cells.length ≤ 256 ∧ ∀ c ∈ b.Cells, c.length = 320 := by
 unfold lX at h
 cases h1 : !qU b.Header with
 | true => rw [h1, cond_true] at h; cases h
 | false =>
  rw [h1, cond_false] at h
  cases h2 : decide ((b.Cells.length : Int) > 256) with
  | true => rw [h2, cond_true] at h; cases h
  | false =>
   rw [h2, cond_false] at h
   have h2 := of_decide_eq_false h2
   cases h3 : b.Cells.all fun c => c.length == 320 with
   | false => rw [h3, cond_false] at h; cases h
   | true =>
    rw [h3, cond_true] at h
    cases h
    have h1 : qU b.Header = true := by simpa using h1
    unfold qU at h1
    simp only [Bool.and_eq_true, decide_eq_true_eq] at h1
    refine ⟨rfl, ⟨by omega, by omega, by omega⟩, by omega, fun c hc => ?_⟩
    have := List.all_eq_true.1 h3 c hc
    simpa using this
theorem nR {c : ar} {acc : List ak} {t : List Int} {cells : List (List Int)} {k : Int} (h : iJ c acc t = (cells, k, 0)) :
  (iS c t).2 = 0 ∧ (fw c t).2 = 0 ∧ (jz c t).2 = 0 ∧ cells = acc.map (·.Cell) ++ (jz c t).1 ∧ k = (fw c t).1 ∧ 0 ≤ k ∧ k ≤ 16 ∧ ((jz c t).1.length : Int) = k := by
 unfold iJ at h
 cases h1 : (iS c t).2 != 0 with
 | true => rw [h1, cond_true] at h; have e := (Prod.mk.inj (Prod.mk.inj h).2).2; rw [e] at h1; cases h1
 | false =>
  rw [h1, cond_false] at h
  cases h2 : (fw c t).2 != 0 with
  | true => rw [h2, cond_true] at h; have e := (Prod.mk.inj (Prod.mk.inj h).2).2; rw [e] at h2; cases h2
  | false =>
   rw [h2, cond_false] at h
   cases h3 : decide ((IntKind.wrap .i64 ((acc.length : Int) + (fw c t).1)) > 256) with
   | true => rw [h3, cond_true] at h; cases h
   | false =>
    rw [h3, cond_false] at h
    cases h4 : (jz c t).2 != 0 with
    | true => rw [h4, cond_true] at h; have e := (Prod.mk.inj (Prod.mk.inj h).2).2; rw [e] at h4; cases h4
    | false =>
     rw [h4, cond_false] at h
     obtain ⟨e1, e2⟩ := Prod.mk.inj h
     obtain ⟨e2, _⟩ := Prod.mk.inj e2
     have h4' : (jz c t).2 = 0 := by simpa using h4
     have key : 0 ≤ (fw c t).1 ∧ (fw c t).1 ≤ 16 ∧ ((jz c t).1.length : Int) = (fw c t).1 := by
      unfold jz nf at h4' ⊢
      cases hc : (((decide ((fw c t).1 < 0)) || (decide ((fw c t).1 > 16))) || (decide (IntKind.wrap .i64 (c.Left - 1) < 0))) || (decide (IntKind.wrap .i64 (c.Left - 1) > 7)) with
      | true => rw [hc, cond_true] at h4'; cases h4'
      | false =>
       rw [hc, cond_false] at h4'
       simp only [Bool.or_eq_false_iff, decide_eq_false_iff_not] at hc
       cases hd : decide (((iS c t).1.Noise.length : Int) < 18) with
       | true => rw [hd, cond_true] at h4'; cases h4'
       | false =>
        refine ⟨by omega, by omega, ?_⟩
        simp only [cond_false, List.length_map, List.length_range]; omega
     subst e2
     exact ⟨by simpa using h1, by simpa using h2, h4', e1.symm, rfl, key⟩
theorem sE {c : ar} {s : aC} {w2 : aa} {ep : Int} {tags : List (List Int)} (hw : f7 s.Window) (hck : eL c s = some 0) (hep : gInt .i64 ep)
  (h5 : (jw s.Window ep c.Span).2 = 0) (ht : ∀ t ∈ tags, t.length = 16 ∧ bz t) (hadd : addW (jw s.Window ep c.Span).1 ep tags c.Room = (w2, 0)) : f7 w2 ∧ VW w2 c.Span c.Room ∧ dn c = some true ∧ c1 c.Span c.Room = true := by
 obtain ⟨z, hz, hz0⟩ := nj (c := c) hw
 rw [hck] at hz
 cases hz
 obtain ⟨hr, hn0, hn1, hc1, hv⟩ := hz0.1 rfl
 have hw1 := mx hw hep (s := c.Span)
 obtain ⟨⟨s1, s2, a1, a2⟩, ⟨n1, n2⟩, ho⟩ := By h5
 have hv1 : VW (jw s.Window ep c.Span).1 c.Span c.Room := by rw [ho]; exact xv hv ⟨a1, a2⟩
 have hnew : (jw s.Window ep c.Span).1.Newest = max s.Window.Newest ep := by rw [ho]
 generalize (jw s.Window ep c.Span).1 = w1 at *
 have h2 : (addW w1 ep tags c.Room).2 = 0 := by rw [hadd]
 obtain ⟨r1, r2, _, ⟨e1, e2, e3⟩, hl, hp⟩ := zq h2
 have hp' : w2 = put w1 ep tags := by rw [hadd] at hp; exact (Prod.mk.inj hp).1
 have hg : f7 w2 := by have := Ay hw1 (ep := ep) (r := c.Room) ht; rw [hadd] at this; exact this
 refine ⟨hg, ?_, hr, hc1⟩
 rw [hp']
 exact uY hv1 ht hw1.tag ⟨e1, e2, by rw [hnew]; omega⟩ (Int.le_refl _) hl
end Go.Proofs.YtobbmodjdkcdcaaGreatDoor

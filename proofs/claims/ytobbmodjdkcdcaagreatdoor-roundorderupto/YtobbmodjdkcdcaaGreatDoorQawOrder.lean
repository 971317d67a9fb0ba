import Derived.Test.YtobbmodjdkcdcaaGreatDoorQawAlike
set_option linter.unusedVariables false
set_option linter.unusedSimpArgs false
set_option linter.unusedSectionVars false
set_option maxRecDepth 20000
set_option maxHeartbeats 1000000
namespace Go.Proofs.YtobbmodjdkcdcaaGreatDoor
open Go Go.Sim
variable [Fu]
theorem tU {t : List Int} {c : Int} {xs : List (List Int)} (h : (iK t c xs).2 = 0) :
  (gx t xs.length c).2 = 0 ∧ (gx t xs.length c).1.length = xs.length ∧ pr (gx t xs.length c).1 = true ∧ (iK t c xs).1 = nV (gx t xs.length c).1 xs := by
 unfold iK at h ⊢
 cases h1 : (gx t xs.length c).2 != 0 with
 | true => rw [h1, cond_true] at h; simp only at h; rw [h] at h1; cases h1
 | false =>
  rw [h1, cond_false] at h
  simp only [cond_false]
  cases h2 : decide ((gx t xs.length c).1.length ≠ xs.length) || !pr (gx t xs.length c).1 with
  | true => rw [h2, cond_true] at h; cases h
  | false =>
   simp only [Bool.or_eq_false_iff, decide_eq_false_iff_not, ne_eq, Decidable.not_not] at h2
   exact ⟨by simpa using h1, h2.1, by simpa using h2.2, rfl⟩
theorem B4 {p : List Int} (h : pr p = true) {i : Nat} (hi : i < p.length) : 0 ≤ p.getD i 0 ∧ p.getD i 0 < p.length := by
 have := iq.1 h i (Nat.zero_le _) (by omega)
 unfold fitP at this
 simp only [Bool.and_eq_true, decide_eq_true_eq] at this
 exact this.1
theorem B5 {c : ar} {s : aC} {w2 : aa} {ep : Int} {tags : List (List Int)} (hw : f7 s.Window) (hep : gInt .i64 ep)
  (ht : ∀ t ∈ tags, t.length = 16 ∧ bz t) (hadd : addW (jw s.Window ep c.Span).1 ep tags c.Room = (w2, 0)) {t : List Int} (h : t ∈ tags) : t ∈ dN w2 := by
 have hw1 := mx hw hep (s := c.Span)
 generalize (jw s.Window ep c.Span).1 = w1 at *
 have h2 : (addW w1 ep tags c.Room).2 = 0 := by rw [hadd]
 obtain ⟨_, _, hp⟩ := xz hw1 (r := c.Room) ht h2
 rw [hadd] at hp
 have hp : w2 = put w1 ep tags := hp
 rw [hp]
 exact xx.2 (.inr h)
theorem yg (aw : cF = some true) {j : bi} (hw : f7 j.S.Window) (hs : gInt .i64 j.C.Span) (hr : j.Raw.length ≤ 2 ^ 21) (hrb : bz j.Raw) (ht : j.Tape.length ≤ 2 ^ 21) (htb : bz j.Tape) : dX j = some true := by
 unfold dX
 rw [aw]
 simp only [aj, Bool.not_true, cond_false]
 obtain ⟨o, ho, hcase⟩ := uM (c := j.C) hw hs hr hrb ht htb
 rw [ho]
 simp only [aj]
 rcases hcase with bad | ok
 · obtain ⟨b1, b2, b3, b4, b5, b6⟩ := bad
   rw [zc b4, b1]
   rfl
 · obtain ⟨b, a, acc, rep, cells, w2, hrd, hinv, hlen, h320, hleft, hnext, hck, h5, hsift, hcov, hsh, htags, hacc, hadd, hpk, heq⟩ := ok
   obtain ⟨oo, os, orp, oe, oa⟩ := o
   simp only [aK.mk.injEq] at heq
   simp only at hpk
   obtain ⟨_, rfl, rfl, rfl, rfl⟩ := heq
   have hgE : gInt .i64 b.Header.Epoch := by
     show -9223372036854775808 ≤ b.Header.Epoch ∧ b.Header.Epoch ≤ 9223372036854775807
     have := hinv.2.2; omega
   obtain ⟨hg2, hv2, hright, hc1⟩ := sE hw hck hgE h5 htags hadd
   obtain ⟨p1, p2, p3, p4⟩ := wO hpk
   obtain ⟨q1, q2, q3, q4, q5, q6, q7, q8⟩ := ne hsift hlen
   obtain ⟨v1, v2, v3, v4, v5, v6, v7, v8⟩ := nR hcov
   obtain ⟨s1, s2, s3, s4⟩ := tU hsh
   have hol := sS (n := (cells.length : Int)) (c := j.C.Chunks) htb
   subst p1
   simp only [bne_self_eq_false, cond_false]
   rw [hrd, ng p2 p3 p4]
   simp only [aj, bne_self_eq_false, Bool.or_self, cond_false]
   rw [rh hw hgE]
   simp only [aj]
   rw [h5]
   simp only [bne_self_eq_false, cond_false]
   rw [tc (mx hw hgE).small (fun x hx => (h320 x hx).2) (by omega), hsift]
   simp only [aj]
   rw [mu (by omega)]
   simp only [aj]
   rw [show j7 j.Tape j.C.Chunks = iS j.C j.Tape from rfl, qY (lj htb)]
   simp only [aj]
   rw [show nf (iS j.C j.Tape).1.Noise (fw j.C j.Tape).1 (IntKind.wrap .i64 (j.C.Left - 1)) = jz j.C j.Tape from rfl, v1, v3]
   simp only [bne_self_eq_false, Bool.or_self, cond_false]
   rw [bV (s0 := (([] : List (List Int)), (0 : Int))) (r := (.inl (acc.map (·.Cell)) : (List (List Int)) ⊕ Bool)) (fun i => ((List.range i).map (fun i => (acc.getD i ⟨[], []⟩).Cell), (i : Int))) 0 acc.length (Nat.zero_le _) ?_ ?_ rfl]
   · simp only [aj]
     have hnl : (jz j.C j.Tape).1.length ≤ 16 := sR
     rw [cr (by rw [gu]; simp; omega)]
     simp only [aj]
     rw [← v4, pu htb (by omega)]
     simp only [aj]
     rw [s1, s2, s4]
     have hpl : (nV (gx j.Tape (cells.length : Int) j.C.Chunks).1 cells).length = cells.length := by simp [nV, s2]
     rw [hpl]
     simp only [bne_self_eq_false, Bool.or_self, cond_false]
     rw [bV (s0 := (0 : Int)) (r := (.inl () : Unit ⊕ Bool)) (fun i => (i : Int)) 0 cells.length (Nat.zero_le _) ?_ ?_ rfl]
     · rfl
     · intro i _ hi
       have h1 : decide ((i : Int) < (cells.length : Int)) = true := decide_eq_true (by omega)
       obtain ⟨f1, f2⟩ := B4 s3 (i := i) (by omega)
       simp only [h1, cond_true]
       rw [ba (i := i) rfl (by omega)]
       simp only [aj]
       generalize hz : (gx j.Tape (cells.length : Int) j.C.Chunks).1.getD i 0 = z at *
       have d1 : decide (z < 0) = false := decide_eq_false (by omega)
       have d2 : decide (z ≥ (cells.length : Int)) = false := decide_eq_false (by omega)
       obtain ⟨k, rfl⟩ : ∃ k : Nat, z = k := ⟨z.toNat, by omega⟩
       simp only [d1, d2, cond_false, aj]
       rw [fU [] (i := i) rfl (by omega), fU [] (i := k) rfl (by omega)]
       simp only [aj]
       have e : (nV (gx j.Tape (cells.length : Int) j.C.Chunks).1 cells).getD i [] = cells.getD k [] := by
        have hi2 : i < (gx j.Tape (cells.length : Int) j.C.Chunks).1.length := by omega
        unfold nV
        simp only [List.getD, List.getElem?_map, List.getElem?_range hi2, Option.map_some, Option.getD_some] at hz ⊢
        rw [hz, Int.toNat_natCast]
       rw [e]
       simp only [bne_self_eq_false, cond_false]
       rw [wrap64 (by omega)]; rfl
     · have h1 : decide ((cells.length : Int) < (cells.length : Int)) = false := decide_eq_false (by omega)
       simp only [h1, cond_false]
   · intro i _ hi
     have hd : decide ((i : Int) < (acc.length : Int)) = true := decide_eq_true (by omega)
     simp only [hd, cond_true]
     rw [fT hi]
     simp only [aj]
     rw [cr (by rw [gu]; simp; omega)]
     simp only [aj]
     have hm : acc[i].Replay ∈ acc.map (·.Replay) := List.mem_map.2 ⟨_, List.getElem_mem hi, rfl⟩
     rw [xn hg2, decide_eq_true (B5 hw hgE htags hadd hm)]
     simp only [aj, Bool.not_true, cond_false]
     rw [wrap64 (by omega), ← gv]
     simp [hi]
   · have hd : decide ((acc.length : Int) < (acc.length : Int)) = false := decide_eq_false (by omega)
     simp only [hd, cond_false]
     rw [qo ⟨[], []⟩ (fun p : ak => p.Cell)]
theorem Ah (aw : cF = some true) (j : bi) (hg : fY j) (hb : dF j ≤ 1048576) : dX j = some true := by
 obtain ⟨gC, gS, gR, gT, _⟩ := hg
 unfold dF at hb
 have hbs : fB j.S.Window ≤ 1048576 := by unfold iy at hb; omega
 have hR : j.Raw.length ≤ bSl bOne j.Raw := by unfold bSl; rw [pO]; omega
 have hT : j.Tape.length ≤ bSl bOne j.Tape := by unfold bSl; rw [pO]; omega
 exact yg aw (xy gS.2.1 hbs) gC.2.2.1 (by omega) (fun x hx => gR.1 x hx) (by omega) (fun x hx => gT.1 x hx)
end Go.Proofs.YtobbmodjdkcdcaaGreatDoor

import Derived.Test.YtobbmodjdkcdcaaGreatDoorLawMix
set_option linter.unusedVariables false
set_option linter.unusedSimpArgs false
set_option linter.unusedSectionVars false
set_option maxRecDepth 20000
set_option maxHeartbeats 1000000
namespace Go.Proofs.YtobbmodjdkcdcaaGreatDoor
open Go Go.Sim
variable [Fu]
theorem wN {w : aa} (hw : f7 w) : fo w w = some true := by
 have hl := hw.eps
 unfold fo
 simp only [bne_self_eq_false, Bool.or_self, cond_false]
 rw [bV (s0 := (0 : Int)) (r := (.inl () : Unit ⊕ Bool)) (fun i => (i : Int)) 0 w.Epochs.length (Nat.zero_le _) ?_ ?_ rfl]
 · rfl
 · intro i _ hi
   have h1 : decide ((i : Int) < (w.Epochs.length : Int)) = true := decide_eq_true (by omega)
   have hx := hw.ofEp (List.getElem_mem hi)
   simp only [h1, cond_true]
   rw [fT hi]
   simp only [aj, bne_self_eq_false, Bool.or_self, cond_false]
   rw [bV (s0 := (0 : Int)) (r := (.inl () : Unit ⊕ Bool)) (fun i => (i : Int)) 0 w.Epochs[i].Tags.length (Nat.zero_le _) ?_ ?_ rfl]
   · simp only [aj]
     rw [wrap64 (by omega)]; rfl
   · intro k _ hk
     have h1 : decide ((k : Int) < (w.Epochs[i].Tags.length : Int)) = true := decide_eq_true (by omega)
     simp only [h1, cond_true]
     rw [fT hk]
     simp only [aj, bne_self_eq_false, cond_false]
     rw [wrap64 (by omega)]; rfl
   · have h1 : decide ((w.Epochs[i].Tags.length : Int) < (w.Epochs[i].Tags.length : Int)) = false := decide_eq_false (by omega)
     simp only [h1, cond_false]
 · have h1 : decide ((w.Epochs.length : Int) < (w.Epochs.length : Int)) = false := decide_eq_false (by omega)
   simp only [h1, cond_false]
theorem xS {s : aC} (hw : f7 s.Window) : fR s s = some true := by
 unfold fR
 rw [wN hw]
 simp only [beq_self_eq_true, cond_true, aj]
theorem wO {b : aH} {out : List Int} (h : lX b = (out, 0)) : out = uF b ∧ InvH b.Header ∧ b.Cells.length ≤ 256 ∧ ∀ c ∈ b.Cells, c.length = 320 := by
 unfold lX at h
 cases h1 : !qU b.Header with
 | true => rw [h1, cond_true] at h; cases h
 | false =>
  rw [h1, cond_false] at h
  cases h2 : decide ((b.Cells.length : Int) > 256) with
  | true => rw [h2, cond_true] at h; cases h
  | false =>
   rw [h2, cond_false] at h
   have h2 := of_decide_eq_false h2
   cases h3 : b.Cells.all fun c => c.length == 320 with
   | false => rw [h3, cond_false] at h; cases h
   | true =>
    rw [h3, cond_true] at h
    cases h
    have h1 : qU b.Header = true := by simpa using h1
    unfold qU at h1
    simp only [Bool.and_eq_true, decide_eq_true_eq] at h1
    refine ⟨rfl, ⟨by omega, by omega, by omega⟩, by omega, fun c hc => ?_⟩
    have := List.all_eq_true.1 h3 c hc
    simpa using this
theorem wP {t : List Int} {c : Int} {xs : List (List Int)} (h : (iK t c xs).2 = 0) : (iK t c xs).1.length = xs.length := by
 unfold iK at h ⊢
 cases h1 : (gx t xs.length c).2 != 0 with
 | true => rw [h1, cond_true] at h; simp only at h; rw [h] at h1; cases h1
 | false =>
  rw [h1, cond_false] at h
  simp only [cond_false]
  cases h2 : decide ((gx t xs.length c).1.length ≠ xs.length) || !pr (gx t xs.length c).1 with
  | true => rw [h2, cond_true] at h; cases h
  | false =>
   simp only [Bool.or_eq_false_iff, decide_eq_false_iff_not, ne_eq, Decidable.not_not] at h2
   simp only [cond_false, nV, List.length_map, List.length_range]
   exact h2.1
theorem nR {c : ar} {acc : List ak} {t : List Int} {cells : List (List Int)} {k : Int} (h : iJ c acc t = (cells, k, 0)) :
  (iS c t).2 = 0 ∧ (fw c t).2 = 0 ∧ (jz c t).2 = 0 ∧ cells = acc.map (·.Cell) ++ (jz c t).1 ∧ k = (fw c t).1 ∧ 0 ≤ k ∧ k ≤ 16 ∧ ((jz c t).1.length : Int) = k := by
 unfold iJ at h
 cases h1 : (iS c t).2 != 0 with
 | true => rw [h1, cond_true] at h; have e := (Prod.mk.inj (Prod.mk.inj h).2).2; rw [e] at h1; cases h1
 | false =>
  rw [h1, cond_false] at h
  cases h2 : (fw c t).2 != 0 with
  | true => rw [h2, cond_true] at h; have e := (Prod.mk.inj (Prod.mk.inj h).2).2; rw [e] at h2; cases h2
  | false =>
   rw [h2, cond_false] at h
   cases h3 : decide ((IntKind.wrap .i64 ((acc.length : Int) + (fw c t).1)) > 256) with
   | true => rw [h3, cond_true] at h; cases h
   | false =>
    rw [h3, cond_false] at h
    cases h4 : (jz c t).2 != 0 with
    | true => rw [h4, cond_true] at h; have e := (Prod.mk.inj (Prod.mk.inj h).2).2; rw [e] at h4; cases h4
    | false =>
     rw [h4, cond_false] at h
     obtain ⟨e1, e2⟩ := Prod.mk.inj h
     obtain ⟨e2, _⟩ := Prod.mk.inj e2
     have h4' : (jz c t).2 = 0 := by simpa using h4
     have key : 0 ≤ (fw c t).1 ∧ (fw c t).1 ≤ 16 ∧ ((jz c t).1.length : Int) = (fw c t).1 := by
      unfold jz nf at h4' ⊢
      cases hc : (((decide ((fw c t).1 < 0)) || (decide ((fw c t).1 > 16))) || (decide (IntKind.wrap .i64 (c.Left - 1) < 0))) || (decide (IntKind.wrap .i64 (c.Left - 1) > 7)) with
      | true => rw [hc, cond_true] at h4'; cases h4'
      | false =>
       rw [hc, cond_false] at h4'
       simp only [Bool.or_eq_false_iff, decide_eq_false_iff_not] at hc
       cases hd : decide (((iS c t).1.Noise.length : Int) < 18) with
       | true => rw [hd, cond_true] at h4'; cases h4'
       | false =>
        refine ⟨by omega, by omega, ?_⟩
        simp only [cond_false, List.length_map, List.length_range]; omega
     subst e2
     exact ⟨by simpa using h1, by simpa using h2, h4', e1.symm, rfl, key⟩
theorem AU {B : Bool} {K : Option Bool} (h : B = true) (hk : K = some true) : ((bif B then K else some false : Option Bool).bind fun x => some x) = some true := by
 subst h; rw [cond_true, hk]; rfl
theorem sE {c : ar} {s : aC} {w2 : aa} {ep : Int} {tags : List (List Int)} (hw : f7 s.Window) (hck : eL c s = some 0) (hep : gInt .i64 ep)
  (h5 : (jw s.Window ep c.Span).2 = 0) (ht : ∀ t ∈ tags, t.length = 16 ∧ bz t) (hadd : addW (jw s.Window ep c.Span).1 ep tags c.Room = (w2, 0)) : f7 w2 ∧ VW w2 c.Span c.Room ∧ dn c = some true ∧ c1 c.Span c.Room = true := by
 obtain ⟨z, hz, hz0⟩ := nj (c := c) hw
 rw [hck] at hz
 cases hz
 obtain ⟨hr, hn0, hn1, hc1, hv⟩ := hz0.1 rfl
 have hw1 := mx hw hep (s := c.Span)
 obtain ⟨⟨s1, s2, a1, a2⟩, ⟨n1, n2⟩, ho⟩ := By h5
 have hv1 : VW (jw s.Window ep c.Span).1 c.Span c.Room := by rw [ho]; exact xv hv ⟨a1, a2⟩
 have hnew : (jw s.Window ep c.Span).1.Newest = max s.Window.Newest ep := by rw [ho]
 generalize (jw s.Window ep c.Span).1 = w1 at *
 have h2 : (addW w1 ep tags c.Room).2 = 0 := by rw [hadd]
 obtain ⟨r1, r2, _, ⟨e1, e2, e3⟩, hl, hp⟩ := zq h2
 have hp' : w2 = put w1 ep tags := by rw [hadd] at hp; exact (Prod.mk.inj hp).1
 have hg : f7 w2 := by have := Ay hw1 (ep := ep) (r := c.Room) ht; rw [hadd] at this; exact this
 refine ⟨hg, ?_, hr, hc1⟩
 rw [hp']
 exact uY hv1 ht hw1.tag ⟨e1, e2, by rw [hnew]; omega⟩ (Int.le_refl _) hl
theorem beqH (h : ac) : (h == h) = true := by
 show (h.Round == h.Round && (h.Epoch == h.Epoch && (h.Left == h.Left && true))) = true
 simp
theorem xT (aw : cF = some true) {j : bi} (hw : f7 j.S.Window) (hs : gInt .i64 j.C.Span) (hr : j.Raw.length ≤ 2 ^ 21) (hrb : bz j.Raw) (ht : j.Tape.length ≤ 2 ^ 21) (htb : bz j.Tape) : dW j = some true := by
 unfold dW
 rw [aw]
 simp only [aj, Bool.not_true, cond_false]
 obtain ⟨o, ho, hcase⟩ := uM (c := j.C) hw hs hr hrb ht htb
 rw [ho]
 simp only [aj]
 rcases hcase with bad | ok
 · obtain ⟨b1, b2, b3, b4, b5, b6⟩ := bad
   rw [zc b4, b1, b2, b3, xS hw]
   have e : (((([] : List Int).length : Int) == 0) && ((⟨0, 0, 0, 0, 0⟩ : ah) == ⟨0, 0, 0, 0, 0⟩)) = true := rfl
   rw [e, decide_eq_true b5, decide_eq_true b6]
   rfl
 · obtain ⟨b, a, acc, rep, cells, w2, hrd, hinv, hlen, h320, hleft, hnext, hck, h5, hsift, hcov, hsh, htags, hacc, hadd, hpk, heq⟩ := ok
   obtain ⟨oo, os, orp, oe, oa⟩ := o
   simp only [aK.mk.injEq] at heq
   simp only at hpk
   obtain ⟨_, rfl, rfl, rfl, rfl⟩ := heq
   have hgE : gInt .i64 b.Header.Epoch := by
     show -9223372036854775808 ≤ b.Header.Epoch ∧ b.Header.Epoch ≤ 9223372036854775807
     have := hinv.2.2; omega
   obtain ⟨hg2, hv2, hright, hc1⟩ := sE hw hck hgE h5 htags hadd
   obtain ⟨p1, p2, p3, p4⟩ := wO hpk
   obtain ⟨q1, q2, q3, q4, q5, q6, q7, q8⟩ := ne hsift hlen
   obtain ⟨v1, v2, v3, v4, v5, v6, v7, v8⟩ := nR hcov
   have hslen := wP hsh
   have hrnd := hinv.2.1
   have hwr : IntKind.wrap .i64 (b.Header.Round + 1) = b.Header.Round + 1 := wrap64 (by omega)
   obtain ⟨z, hz, hz0⟩ := nj (c := j.C) (s := ⟨IntKind.wrap .i64 (b.Header.Round + 1), w2⟩) hg2
   have z0 : z = 0 := hz0.2 ⟨hright, by show 0 ≤ IntKind.wrap .i64 (b.Header.Round + 1); omega, by show IntKind.wrap .i64 (b.Header.Round + 1) ≤ _; omega, hc1, hv2⟩
   subst z0
   subst p1
   rw [hrd, ng p2 p3 p4]
   simp only [aj, bne_self_eq_false, Bool.or_self, cond_false]
   rw [hz]
   simp only [aj, bne_self_eq_false, cond_false]
   rw [mu (by omega)]
   simp only [aj]
   rw [show j7 j.Tape j.C.Chunks = iS j.C j.Tape from rfl, qW (lj htb)]
   simp only [aj]
   rw [show sU (iS j.C j.Tape).1.Noise j.C.Num j.C.Den j.C.Noise = fw j.C j.Tape from rfl]
   have hcl : (cells.length : Int) = (acc.length : Int) + (fw j.C j.Tape).1 := by
     rw [v4, List.length_append, List.length_map]; omega
   refine AU ?_ ?_
   · simp only [Bool.and_eq_true, beq_iff_eq, decide_eq_true_eq]
     rw [v1, v2, hleft, hslen]
     have w1 : IntKind.wrap .i64 (rep.In - rep.Malformed) = rep.In - rep.Malformed := wrap64 (by omega)
     have w2' : IntKind.wrap .i64 (rep.In - rep.Malformed - rep.Replays) = rep.In - rep.Malformed - rep.Replays := wrap64 (by omega)
     have w3 : IntKind.wrap .i64 (rep.In - rep.Malformed - rep.Replays + (fw j.C j.Tape).1) = rep.In - rep.Malformed - rep.Replays + (fw j.C j.Tape).1 := wrap64 (by omega)
     simp only [w1, w2', w3]
     refine ⟨⟨⟨⟨⟨⟨⟨⟨⟨⟨trivial, trivial⟩, ?_⟩, trivial⟩, by omega⟩, trivial⟩, by omega⟩, by omega⟩, by omega⟩, by omega⟩, trivial⟩
     exact beqH _
   · rw [oP hg2]
     simp only [aj]
     rw [decide_eq_true hv2.len]
theorem zP (aw : cF = some true) (j : bi) (hg : fY j) (hb : dF j ≤ 1048576) : dW j = some true := by
 obtain ⟨gC, gS, gR, gT, _⟩ := hg
 unfold dF at hb
 have hbs : fB j.S.Window ≤ 1048576 := by unfold iy at hb; omega
 have hR : j.Raw.length ≤ bSl bOne j.Raw := by unfold bSl; rw [pO]; omega
 have hT : j.Tape.length ≤ bSl bOne j.Tape := by unfold bSl; rw [pO]; omega
 exact xT aw (xy gS.2.1 hbs) gC.2.2.1 (by omega) (fun x hx => gR.1 x hx) (by omega) (fun x hx => gT.1 x hx)
end Go.Proofs.YtobbmodjdkcdcaaGreatDoor

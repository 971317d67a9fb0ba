import Derived.Test.YtobbmodjdkcdcaaGreatDoorQawRound
set_option linter.unusedVariables false
set_option linter.unusedSimpArgs false
set_option linter.unusedSectionVars false
set_option maxRecDepth 20000
set_option maxHeartbeats 1000000
namespace Go.Proofs.YtobbmodjdkcdcaaGreatDoor
open Go Go.Sim
variable [Fu]
def iS (c : ar) (t : List Int) : aE × Int := j7 t c.Chunks
def fw (c : ar) (t : List Int) : Int × Int := sU (iS c t).1.Noise c.Num c.Den c.Noise
def jz (c : ar) (t : List Int) : List (List Int) × Int := nf (iS c t).1.Noise (fw c t).1 (IntKind.wrap .i64 (c.Left - 1))
def iJ (c : ar) (acc : List ak) (t : List Int) : List (List Int) × Int × Int :=
 bif (iS c t).2 != 0 then ([], 0, (iS c t).2) else
 bif (fw c t).2 != 0 then ([], 0, (fw c t).2) else
 bif decide ((IntKind.wrap .i64 ((acc.length : Int) + (fw c t).1)) > 256) then ([], 0, 213) else
 bif (jz c t).2 != 0 then ([], 0, (jz c t).2) else (acc.map (·.Cell) ++ (jz c t).1, (fw c t).1, 0)
theorem lj {c : ar} {t : List Int} (hb : bz t) : bz (iS c t).1.Noise := by
 unfold iS j7
 cases decide (c.Chunks < 1) || decide (c.Chunks > 64) with
 | true => exact fun b hb => (by cases hb)
 | false =>
  cases decide ((t.length : Int) < 18) with
  | true => exact fun b hb => (by cases hb)
  | false => exact (lM hb _).1
theorem sR {ns : List Int} {k l : Int} : (nf ns k l).1.length ≤ 16 := by
 unfold nf
 cases h : (((decide (k < 0)) || (decide (k > 16))) || (decide (l < 0))) || (decide (l > 7)) with
 | true => simp
 | false =>
  simp only [Bool.or_eq_false_iff, decide_eq_false_iff_not] at h
  cases decide ((ns.length : Int) < 18) with
  | true => simp
  | false => simp; omega
theorem qo {α β : Type} (d : α) (f : α → β) (l : List α) : (List.range l.length).map (fun i => f (l.getD i d)) = l.map f := by
 apply List.ext_getElem (by simp)
 intro i h1 h2
 simp at h1
 simp [h1]
theorem tT {c : ar} {acc : List ak} {t : List Int} (hb : bz t) (ht : t.length < 2 ^ 30) (ha : acc.length ≤ 256) : eX c acc t = some (iJ c acc t) := by
 unfold eX iJ
 rw [mu (by omega)]
 simp only [aj]
 show (bif (iS c t).2 != 0 then _ else _) = _
 cases h1 : (iS c t).2 != 0 with
 | true => rfl
 | false =>
  simp only [cond_false]
  rw [show j7 t c.Chunks = iS c t from rfl, qW (lj hb)]
  simp only [aj]
  rw [show sU (iS c t).1.Noise c.Num c.Den c.Noise = fw c t from rfl]
  cases h2 : (fw c t).2 != 0 with
  | true => rfl
  | false =>
   simp only [cond_false]
   cases h3 : decide ((IntKind.wrap .i64 ((acc.length : Int) + (fw c t).1)) > 256) with
   | true => rfl
   | false =>
    simp only [cond_false]
    rw [qY (lj hb)]
    simp only [aj]
    rw [show nf (iS c t).1.Noise (fw c t).1 (IntKind.wrap .i64 (c.Left - 1)) = jz c t from rfl]
    have hn : (jz c t).1.length ≤ 16 := sR
    cases h4 : (jz c t).2 != 0 with
    | true => rfl
    | false =>
     simp only [cond_false]
     rw [xh (fun i => (acc.getD i ⟨[], []⟩).Cell) acc.length (r := acc.map (·.Cell)) ?_ ?_]
     · simp only [aj]
       rw [cr (by rw [gu]; simp; omega)]
       rfl
     · intro i hi
       have hd : decide ((i : Int) < (acc.length : Int)) = true := decide_eq_true (by omega)
       simp only [hd, cond_true]
       rw [fT hi]
       simp only [aj]
       rw [cr (by rw [gu]; simp; omega)]
       simp only [aj]
       rw [wrap64 (by omega), ← gv]
       simp [hi]
     · have hd : decide ((acc.length : Int) < (acc.length : Int)) = false := decide_eq_false (by omega)
       simp only [hd, cond_false]
       rw [qo ⟨[], []⟩ (fun p : ak => p.Cell)]
theorem sS {t : List Int} {n c : Int} (hb : bz t) : (gx t n c).1.length ≤ 256 := by
 unfold gx
 cases hr : pt t n c with
 | inl e => simp
 | inr r =>
  have ok := xc hb hr
  have h1 := ok.pk
  have h2 := ok.n0
  show (ordL _ _ _ _).length ≤ 256
  rw [xb]; omega
def iK (t : List Int) (c : Int) (xs : List (List Int)) : List (List Int) × Int :=
 bif (gx t xs.length c).2 != 0 then ([], (gx t xs.length c).2) else
 bif decide ((gx t xs.length c).1.length ≠ xs.length) || !pr (gx t xs.length c).1 then ([], 110) else (nV (gx t xs.length c).1 xs, 0)
theorem sT {t : List Int} {c : Int} {xs : List (List Int)} (hb : bz t) (hl : t.length < 2 ^ 30) : eP t c xs = some (iK t c xs) := by
 unfold eP iK
 rw [pu hb hl]
 simp only [aj]
 have := sS (n := (xs.length : Int)) (c := c) hb
 cases (gx t xs.length c).2 != 0 with
 | true => rfl
 | false =>
  simp only [cond_false]
  rw [yi (by omega)]
  simp only [aj]
theorem yc {c : ar} {acc : List ak} {t : List Int} (h : (iJ c acc t).2.2 = 0) : iJ c acc t = ((iJ c acc t).1, (fw c t).1, 0) := by
 unfold iJ at h ⊢
 cases h1 : (iS c t).2 != 0 with
 | true => rw [h1, cond_true] at h; simp only at h; rw [h] at h1; cases h1
 | false =>
  rw [h1, cond_false] at h
  cases h2 : (fw c t).2 != 0 with
  | true => rw [h2, cond_true] at h; simp only at h; rw [h] at h2; cases h2
  | false =>
   rw [h2, cond_false] at h
   cases h3 : decide ((IntKind.wrap .i64 ((acc.length : Int) + (fw c t).1)) > 256) with
   | true => rw [h3, cond_true] at h; cases h
   | false =>
    rw [h3, cond_false] at h
    cases h4 : (jz c t).2 != 0 with
    | true => rw [h4, cond_true] at h; simp only at h; rw [h] at h4; cases h4
    | false => rfl
structure Cj (c : ar) (s : aC) (raw tape : List Int) (o : aK) : Prop where
 ex : ∃ b a acc rep cells w2,
  dx raw = some (b, a, 0) ∧ InvH b.Header ∧ b.Cells.length ≤ 256 ∧ Good320 b.Cells ∧ b.Header.Left = c.Left ∧ s.Next ≤ b.Header.Round ∧
  eL c s = some 0 ∧ (jw s.Window b.Header.Epoch c.Span).2 = 0 ∧ ta c (jw s.Window b.Header.Epoch c.Span).1 b = (acc, rep, 0) ∧
  iJ c acc tape = (cells, (fw c tape).1, 0) ∧ (iK tape c.Chunks cells).2 = 0 ∧
  (∀ t ∈ acc.map (·.Replay), t.length = 16 ∧ bz t) ∧ acc.length ≤ 256 ∧
  addW (jw s.Window b.Header.Epoch c.Span).1 b.Header.Epoch (acc.map (·.Replay)) c.Room = (w2, 0) ∧
  lX ⟨⟨b.Header.Round, b.Header.Epoch, IntKind.wrap .i64 (c.Left - 1)⟩, (iK tape c.Chunks cells).1⟩ = (o.Out, 0) ∧
  o = ⟨o.Out, ⟨IntKind.wrap .i64 (b.Header.Round + 1), w2⟩, { { rep with Noise := (fw c tape).1 } with Out := ((iK tape c.Chunks cells).1.length : Int) }, 0, 0⟩
structure A8 (s : aC) (raw : List Int) (o : aK) : Prop where
 out : o.Out = []
 st : o.State = s
 rep : o.Report = ⟨0, 0, 0, 0, 0⟩
 err : o.Err ≠ 0
 at_ : 0 ≤ o.At ∧ o.At ≤ raw.length
theorem ne {c : ar} {w : aa} {b : aH} {acc : List ak} {rep : ah} (h : ta c w b = (acc, rep, 0)) (hn : b.Cells.length ≤ 256) :
  dn c = some true ∧ (∀ p ∈ acc, p.Replay.length = 16 ∧ bz p.Replay) ∧ (acc.length : Int) + rep.Malformed + rep.Replays = b.Cells.length ∧ 0 ≤ rep.Malformed ∧ 0 ≤ rep.Replays ∧ rep.In = b.Cells.length ∧ rep.Noise = 0 ∧ rep.Out = 0 := by
 obtain ⟨r, hr⟩ := oz c
 unfold ta at h
 rw [hr, Option.getD_some] at h
 cases r with
 | false => simp at h
 | true =>
  rw [Bool.not_true, cond_false] at h
  cases hk : (keyS c.Master b.Header.Epoch).2 != 0 with
  | true =>
   rw [hk, cond_true] at h
   have e : (keyS c.Master b.Header.Epoch).2 = 0 := (Prod.mk.inj (Prod.mk.inj h).2).2
   rw [e] at hk; cases hk
  | false =>
   rw [hk, cond_false] at h
   obtain ⟨e1, e2⟩ := Prod.mk.inj h
   obtain ⟨e2, _⟩ := Prod.mk.inj e2
   have hc := Bk (P := fun i => mP (keyS c.Master b.Header.Epoch).1 c.Left (b.Cells.getD i [])) (w := w) b.Cells.length b.Cells.length (by omega)
   have ha := Bj (P := fun i => mP (keyS c.Master b.Header.Epoch).1 c.Left (b.Cells.getD i [])) (w := w) (fun i h => xd h) b.Cells.length b.Cells.length
   rw [e1, e2] at hc
   rw [e1] at ha
   exact ⟨hr, ha, hc⟩
theorem zc {z : Int} (h : z ≠ 0) : (z != 0) = true := by simpa using h
theorem uM {c : ar} {s : aC} {raw tape : List Int} (hw : f7 s.Window) (hs : gInt .i64 c.Span) (hr : raw.length ≤ 2 ^ 21) (hrb : bz raw) (ht : tape.length ≤ 2 ^ 21) (htb : bz tape) :
  ∃ o, gn c s raw tape = some o ∧ (A8 s raw o ∨ Cj c s raw tape o) := by
 have ref : ∀ (e a : Int), e ≠ 0 → 0 ≤ a → a ≤ raw.length → ∃ o, (bT s e a).bind (fun y => some y) = some o ∧ (A8 s raw o ∨ Cj c s raw tape o) := fun e a he h0 h1 => by
  rw [tX hw]
  exact ⟨_, rfl, .inl ⟨rfl, rfl, rfl, he, h0, h1⟩⟩
 unfold gn gP
 obtain ⟨ck, hck, hck0⟩ := nj (c := c) hw
 rw [hck]
 simp only [aj]
 cases h1 : ck != 0 with
 | true => simp only [cond_true, aj, h1]; exact ref _ _ (by simpa using h1) (by omega) (by omega)
 | false =>
  have ck0 : ck = 0 := by simpa using h1
  subst ck0
  obtain ⟨rd, hrd, hrd0, hat0, hat1⟩ := qm (raw := raw) (by omega) hrb
  simp only [cond_false]
  rw [hrd]
  simp only [aj]
  cases h2 : rd.2.2 != 0 with
  | true => simp only [cond_true, aj, h2]; exact ref _ _ (by simpa using h2) hat0 hat1
  | false =>
   obtain ⟨b, a, e⟩ := rd
   simp only at h2 hrd0 hat0 hat1
   have e0 : e = 0 := by simpa using h2
   subst e0
   obtain ⟨hinv, hlen, h320⟩ := hrd0 rfl
   simp only [cond_false]
   cases h3 : b.Header.Left != c.Left with
   | true => simp only [cond_true, aj]; exact ref 212 0 (by omega) (by omega) (by omega)
   | false =>
    have hleft : b.Header.Left = c.Left := by simpa using h3
    simp only [cond_false]
    cases h4 : decide (b.Header.Round < s.Next) with
    | true => simp only [cond_true, aj]; exact ref 211 0 (by omega) (by omega) (by omega)
    | false =>
     have hnext : s.Next ≤ b.Header.Round := by have := of_decide_eq_false h4; omega
     simp only [cond_false]
     have hgE : gInt .i64 b.Header.Epoch := by
      show -9223372036854775808 ≤ b.Header.Epoch ∧ b.Header.Epoch ≤ 9223372036854775807
      have := hinv.2.2; omega
     rw [rh hw hgE]
     simp only [aj]
     have hw1 := mx hw hgE (s := c.Span)
     cases h5 : (jw s.Window b.Header.Epoch c.Span).2 != 0 with
     | true => simp only [cond_true, aj]; exact ref _ 0 (by simpa using h5) (by omega) (by omega)
     | false =>
      simp only [cond_false]
      rw [tc hw1.small (fun x hx => (h320 x hx).2) (by omega)]
      simp only [aj]
      cases h6 : (ta c (jw s.Window b.Header.Epoch c.Span).1 b).2.2 != 0 with
      | true => simp only [cond_true, aj]; exact ref _ 0 (by simpa using h6) (by omega) (by omega)
      | false =>
       have h5' : (jw s.Window b.Header.Epoch c.Span).2 = 0 := by simpa using h5
       obtain ⟨acc, rep, e, hsift⟩ : ∃ acc rep e, ta c (jw s.Window b.Header.Epoch c.Span).1 b = (acc, rep, e) := ⟨_, _, _, rfl⟩
       rw [hsift] at h6
       have : e = 0 := by simpa using h6
       subst this
       rw [hsift]
       obtain ⟨q1, q2, q3, q4, q5, q6, q7, q8⟩ := ne hsift hlen
       have hacc : acc.length ≤ 256 := by omega
       simp only [cond_false]
       rw [tT htb (by omega) hacc]
       simp only [aj]
       cases h7 : (iJ c acc tape).2.2 != 0 with
       | true => simp only [cond_true, aj]; exact ref _ 0 (by simpa using h7) (by omega) (by omega)
       | false =>
        have hcov : iJ c acc tape = ((iJ c acc tape).1, (fw c tape).1, 0) := yc (by simpa using h7)
        generalize (iJ c acc tape).1 = cells at hcov
        rw [hcov]
        simp only [cond_false]
        rw [sT htb (by omega)]
        simp only [aj]
        cases h8 : (iK tape c.Chunks cells).2 != 0 with
        | true => simp only [cond_true, aj]; exact ref _ 0 (by simpa using h8) (by omega) (by omega)
        | false =>
         simp only [cond_false]
         rw [xh (fun i => (acc.getD i ⟨[], []⟩).Replay) acc.length (r := acc.map (·.Replay)) ?_ ?_]
         · simp only [aj]
           have htags : ∀ t ∈ acc.map (·.Replay), t.length = 16 ∧ bz t := fun t h => by
            obtain ⟨p, hp, rfl⟩ := List.mem_map.1 h
            exact q2 p hp
           rw [yn hw1 hgE htags (by simp; omega)]
           simp only [aj]
           obtain ⟨w2, e, hadd⟩ : ∃ w2 e, addW (jw s.Window b.Header.Epoch c.Span).1 b.Header.Epoch (acc.map (·.Replay)) c.Room = (w2, e) := ⟨_, _, rfl⟩
           rw [hadd]
           cases h9 : e != 0 with
           | true => simp only [cond_true, aj]; exact ref _ 0 (by simpa using h9) (by omega) (by omega)
           | false =>
            have : e = 0 := by simpa using h9
            subst this
            simp only [cond_false]
            rw [xY]
            simp only [aj]
            obtain ⟨out, e, hpk⟩ : ∃ out e, lX ⟨⟨b.Header.Round, b.Header.Epoch, IntKind.wrap .i64 (c.Left - 1)⟩, (iK tape c.Chunks cells).1⟩ = (out, e) := ⟨_, _, rfl⟩
            rw [hpk]
            cases h10 : e != 0 with
            | true => simp only [cond_true, aj]; exact ref _ 0 (by simpa using h10) (by omega) (by omega)
            | false =>
             have : e = 0 := by simpa using h10
             subst this
             simp only [cond_false]
             exact ⟨_, rfl, .inr ⟨b, a, acc, rep, cells, w2, hrd, hinv, hlen, h320, hleft, hnext, hck, h5', hsift, hcov, by simpa using h8, htags, hacc, hadd, hpk, rfl⟩⟩
         · intro i hi
           have hd : decide ((i : Int) < (acc.length : Int)) = true := decide_eq_true (by omega)
           simp only [hd, cond_true]
           rw [fT hi]
           simp only [aj]
           rw [cr (by rw [gu]; simp; omega)]
           simp only [aj]
           rw [wrap64 (by omega), ← gv]
           simp [hi]
         · have hd : decide ((acc.length : Int) < (acc.length : Int)) = false := decide_eq_false (by omega)
           simp only [hd, cond_false]
           rw [qo ⟨[], []⟩ (fun p : ak => p.Replay)]
end Go.Proofs.YtobbmodjdkcdcaaGreatDoor

import Derived.Test.YtobbmodjdkcdcaaGreatDoorQawBraid2
set_option linter.unusedVariables false
set_option linter.unusedSimpArgs false
set_option maxRecDepth 20000
namespace Go.Proofs.YtobbmodjdkcdcaaGreatDoor
open Go Go.Sim
set_option linter.unusedSectionVars false
variable [Fu]
def zg : aW := ⟨⟨[], [], []⟩, [], []⟩
def iT (sizes : List Int) (i : Nat) : List Int := (List.range i).map fun j => (sizes.take j).sum
def q9 (chs : List (List Int)) (i : Nat) (ps : List (List Int)) (s : Int) : Option (List (List Int)) :=
 match allD (chs.getD i []) (mQ s) 0 with
 | none => none
 | some q => some (ps ++ [j5 s.toNat q.1 q.1.length])
structure Read where
 parts : aE
 sizes : List Int
 pk : List (Nat × Int)
 perms : List (List Int)
def pt (t : List Int) (n c : Int) : Int ⊕ Read :=
 bif (lQ n c).2 != 0 then .inl (lQ n c).2 else bif (j7 t c).2 != 0 then .inl (j7 t c).2 else
 match allD (im t c.toNat).Braid (jM n.toNat) 0 with
 | none => .inl 3
 | some q => match jG (q9 (im t c.toNat).Chunks) 0 [] (jg n.toNat c.toNat) with
  | none => .inl 3
  | some ps => .inr ⟨im t c.toNat, jg n.toNat c.toNat, picks (jg n.toNat c.toNat) q.1, ps⟩
def Bh (t : List Int) (n c : Int) : aW × List Int × List Int × List (List Int) × Int :=
 match pt t n c with
 | .inl e => (zg, [], [], [], e)
 | .inr r => (⟨r.parts, r.sizes, iT r.sizes r.sizes.length⟩, (patR r.sizes.length r.pk).1, (patR r.sizes.length r.pk).2.1, r.perms, 0)
theorem lx {x : List Int} (h : bz x) (n : Nat) : bz (x.take n) := fun b hb => h b (List.mem_of_mem_take hb)
theorem kx {x : List Int} (h : bz x) (n : Nat) : bz (x.drop n) := fun b hb => h b (List.mem_of_mem_drop hb)
theorem lM {t : List Int} (h : bz t) (c : Nat) : bz (im t c).Noise ∧ bz (im t c).Braid ∧ ∀ x ∈ (im t c).Chunks, bz x ∧ x.length ≤ t.length := by
 refine ⟨lx h _, lx (kx h _) _, fun x hx => ?_⟩
 obtain ⟨j, _, rfl⟩ := List.mem_map.1 hx
 refine ⟨kx (lx (kx (kx h _) _) _) _, ?_⟩
 simp [zS]; omega
theorem rk (t : List Int) (c : Nat) : (im t c).Braid.length ≤ t.length := by simp [im]; omega
theorem uO {α : Type} {l : List α} {i : Nat} {d : α} (h : i < l.length) : l.getD i d ∈ l := by simp only [List.getD, List.getElem?_eq_getElem h, Option.getD_some]; exact List.getElem_mem h
theorem sZ {bs : List Int} {n : Nat} {ds : List Int} {w : Nat} (hb : bz bs) (hn : n ≤ 256) (h : allD bs (mQ (n : Int)) 0 = some (ds, w)) : ds.length = n - 1 ∧ okP (n : Int) ds = true := by
 have r := ow hb (sI (ux hn)) (Nat.zero_le _) h
 rw [qq] at r
 refine ⟨by simpa using r.1, ?_⟩
 unfold okP
 rw [iq]
 intro k _ hk
 have hk2 : k < n - 1 := by rw [r.1] at hk; simpa using hk
 have := r.2.1 k (by simpa using hk2)
 have e : (mQ (n : Int)).getD k 0 = (n : Int) - (k : Int) := by simp [mQ, List.getD, List.getElem?_range hk2]
 rw [e] at this
 simp only [Bool.and_eq_true, decide_eq_true_eq]; exact this
theorem vN {n : Nat} {ds : List Int} (h : n ≤ 256) (hl : ds.length = n - 1) (ho : okP (n : Int) ds = true) : gX (n : Int) ds = some (j5 n ds ds.length, 0) := by
 rw [Aj h (by omega)]
 unfold Bg
 rw [decide_eq_false (by omega : ¬ ds.length ≠ n - 1), cond_false, ho, cond_true]
theorem nh {chs : List (List Int)} : ∀ (ss : List Int) (i : Nat) (ps z : List (List Int)), jG (q9 chs) i ps ss = some z → ∃ e, z = ps ++ e ∧ e.length = ss.length ∧ ∀ k, k < ss.length → (e.getD k []).length = (ss.getD k 0).toNat
 | [], i, ps, z, h => by cases h; exact ⟨[], by simp, rfl, fun k hk => by simp at hk⟩
 | s :: ss, i, ps, z, h => by
  simp only [jG, q9] at h
  split at h
  · cases h
  · rename_i y hy
    split at hy
    · cases hy
    · rename_i q hq
      cases hy
      obtain ⟨e, h1, h2, h3⟩ := nh ss (i + 1) _ z h
      refine ⟨j5 s.toNat q.1 q.1.length :: e, by rw [h1]; simp, by simp [h2], fun k hk => ?_⟩
      cases k with
      | zero => simp [ny]
      | succ k => simpa using h3 k (by simpa using hk)
theorem ni {chs : List (List Int)} (hb : ∀ i, bz (chs.getD i [])) : ∀ (ss : List Int) (i : Nat) (ps z : List (List Int)), (∀ s ∈ ss, 0 ≤ s ∧ s ≤ 256) → jG (q9 chs) i ps ss = some z → ∃ e, z = ps ++ e ∧ ∀ k j, 0 ≤ (e.getD k []).getD j 0 ∧ (e.getD k []).getD j 0 ≤ 256
 | [], i, ps, z, _, h => by cases h; exact ⟨[], by simp, fun k j => by simp⟩
 | s :: ss, i, ps, z, hs, h => by
  simp only [jG, q9] at h
  split at h
  · cases h
  · rename_i y hy
    split at hy
    · cases hy
    · rename_i q hq
      cases hy
      obtain ⟨e, h1, h2⟩ := ni hb ss (i + 1) _ z (fun x hx => hs x (by simp [hx])) h
      have hsr := hs s (by simp)
      obtain ⟨sn, rfl⟩ : ∃ sn : Nat, s = sn := ⟨s.toNat, by omega⟩
      obtain ⟨d1, d2⟩ := sZ (hb i) (by omega) hq
      refine ⟨j5 sn q.1 q.1.length :: e, by rw [h1]; simp, fun k j => ?_⟩
      cases k with
      | zero =>
       have r := uN d1 d2 q.1.length (Nat.le_refl _) j
       simp only [List.getD_cons_zero]
       refine ⟨r.1, ?_⟩
       by_cases c : j < (j5 sn q.1 q.1.length).length
       · have := r.2 c; omega
       · simp only [List.getD, List.getElem?_eq_none (by omega : (j5 sn q.1 q.1.length).length ≤ j), Option.getD_none]; omega
      | succ k => simpa using h2 k j
theorem w9 {bs : List Int} {n : Nat} {ds : List Int} {w : Nat} (hb : bz bs) (hn : n ≤ 256) (h : allD bs (jM n) 0 = some (ds, w)) : vp n ds := by
 have r := ow hb (sI (qP hn)) (Nat.zero_le _) h
 rw [m6] at r
 refine ⟨r.1, fun i hi => ?_⟩
 have := r.2.1 i hi
 have e : (jM n).getD i 0 = (n : Int) - (i : Int) := by simp [jM, List.getD, List.getElem?_range hi]
 rw [e] at this; exact this
theorem ra {n c : Nat} (hn : n ≤ 256) (hc : 0 < c) : nS (jg n c) n := ⟨mn hn, xV hc⟩
theorem xa {t : List Int} {n c : Int} (hb : bz t) (hl : t.length < 2 ^ 30) : gh t n c = some (Bh t n c) := by
 unfold gh Bh pt
 rw [wR]
 simp only [aj]
 cases h1 : (lQ n c).2 != 0 with
 | true => rfl
 | false =>
  have hsz : lQ n c = (jg n.toNat c.toNat, 0) ∧ 0 ≤ n ∧ n ≤ 256 ∧ 1 ≤ c ∧ c ≤ 64 := by
   unfold lQ at h1 ⊢
   cases hc : (((decide (n < 0)) || (decide (n > 256))) || (decide (c < 1))) || (decide (c > 64)) with
   | true => rw [hc] at h1; simp at h1
   | false =>
    simp only [Bool.or_eq_false_iff, decide_eq_false_iff_not] at hc
    exact ⟨rfl, by omega, by omega, by omega, by omega⟩
  obtain ⟨es, n0, n1, c0, c1⟩ := hsz
  rw [es]
  obtain ⟨k, rfl⟩ : ∃ k : Nat, n = k := ⟨n.toNat, by omega⟩
  obtain ⟨m, rfl⟩ : ∃ m : Nat, c = m := ⟨c.toNat, by omega⟩
  simp only [cond_false, Int.toNat_natCast]
  rw [mu (by omega)]
  simp only [aj]
  cases h2 : (j7 t (m : Int)).2 != 0 with
  | true => rfl
  | false =>
   have esp : j7 t (m : Int) = (im t m, 0) := by
    unfold j7 at h2 ⊢
    cases hx : decide ((m : Int) < 1) || decide ((m : Int) > 64) with
    | true => rw [hx] at h2; simp at h2
    | false =>
      rw [hx] at h2
      simp only [cond_false] at h2 ⊢
      cases hy : decide ((t.length : Int) < 18) with
      | true => rw [hy] at h2; simp at h2
      | false => rfl
   rw [esp]
   obtain ⟨pb1, pb2, pb3⟩ := lM hb m
   have pl := rk t m
   simp only [cond_false]
   rw [vk (by omega)]
   simp only [aj]
   rw [wW pb2 (by omega) (by rw [m6]; omega)]
   simp only [aj, yZ, qP (show k ≤ 256 by omega), cond_true]
   cases hd : allD (im t m).Braid (jM k) 0 with
   | none => rfl
   | some q =>
    obtain ⟨ds, w⟩ := q
    simp only [bne_self_eq_false, cond_false]
    have hg := ra (n := k) (c := m) (by omega) (by omega)
    have hsl := mm k m
    have hrng := mn (n := k) (c := m) (by omega)
    obtain ⟨sizes, hS⟩ : ∃ s, s = jg k m := ⟨_, rfl⟩
    simp only [← hS] at hg hsl hrng ⊢
    have hchl := Ar (t := t) (c := m)
    rw [(pg (fun (i : Nat) (x : List (List Int)) => (x, (sizes.take i).sum, (i : Int), iT sizes i)) (q9 (im t m).Chunks) sizes (fun i r x => x.length = i) (fun x => Sum.inl (x, iT sizes sizes.length)) (Sum.inr (zg, [], [], [], 3)) ?_ ?_ [] rfl ?_).1]
    · cases hf : jG (q9 (im t m).Chunks) 0 [] sizes with
      | none => rfl
      | some ps =>
       simp only [aj]
       rw [tS (n := k) (by omega) (by omega) hg (by omega) (w9 pb2 (by omega) hd)]
       rfl
    · intro i s r x hdr hi hget I
      have hsd : sizes.getD i 0 = s := by simp [List.getD, hget]
      have hsr := hrng s (List.mem_of_getElem? hget)
      obtain ⟨sn, rfl⟩ : ∃ sn : Nat, s = sn := ⟨s.toNat, by omega⟩
      have hlt : decide ((i : Int) < (sizes.length : Int)) = true := decide_eq_true (by omega)
      have hcm := pb3 _ (uO (d := []) (show i < (im t m).Chunks.length by omega))
      have hsum := lJ hrng i
      simp only [hlt, cond_true, q9, Int.toNat_natCast]
      rw [ba rfl hi, hsd]
      simp only [aj]
      rw [cr (by rw [gu]; simp [iT]; omega)]
      simp only [aj]
      rw [fU (i := i) [] rfl (by omega)]
      simp only [aj]
      rw [w7 (by omega) (by omega)]
      simp only [aj]
      rw [wW hcm.1 (by omega) (by rw [qq]; omega)]
      simp only [aj, yZ, ux (show sn ≤ 256 by omega), cond_true]
      cases ha : allD ((im t m).Chunks.getD i []) (mQ (sn : Int)) 0 with
      | none => exact ⟨fun _ => rfl, fun y hy => (by cases hy)⟩
      | some q2 =>
       obtain ⟨ds2, w2⟩ := q2
       refine ⟨fun h => (by cases h), fun y hy => ?_⟩
       cases hy
       obtain ⟨d1, d2⟩ := sZ hcm.1 (by omega) ha
       simp only [bne_self_eq_false, cond_false]
       rw [vN (by omega) d1 d2]
       simp only [aj, bne_self_eq_false, cond_false]
       rw [cr (by rw [gu]; simp; omega)]
       simp only [aj]
       rw [wrap64 (x := (sizes.take i).sum + (sn : Int)) (by omega), wrap64 (x := (i : Int) + 1) (by omega), lR hi, hsd]
       refine ⟨?_, by simp [I]⟩
       have hpush : iT sizes i ++ [(sizes.take i).sum] = iT sizes (i + 1) := gv (fun j => (sizes.take j).sum) i
       rw [hpush]
       rfl
    · intro x I
      have hlt : decide ((sizes.length : Int) < (sizes.length : Int)) = false := decide_eq_false (by omega)
      simp only [hlt, cond_false]
    · rfl
def ordL (starts : List Int) (perms : List (List Int)) : List (Nat × Int) → List (Nat × Int) → List Int
 | _, [] => []
 | pp, q :: r => (starts.getD q.1 0 + (perms.getD q.1 []).getD (cntP pp q.1) 0) :: ordL starts perms (pp ++ [q]) r
theorem xb {starts : List Int} {perms : List (List Int)} : ∀ {r pp : List (Nat × Int)}, (ordL starts perms pp r).length = r.length
 | [], _ => rfl
 | q :: r, pp => by simp [ordL, xb]
def ordN (starts : List Int) (perms : List (List Int)) (_ : Nat) (x : List (Nat × Int) × List Int) (q : Nat × Int) : Option (List (Nat × Int) × List Int) :=
 some (x.1 ++ [q], x.2 ++ [starts.getD q.1 0 + (perms.getD q.1 []).getD (cntP x.1 q.1) 0])
theorem uP {starts : List Int} {perms : List (List Int)} : ∀ (r : List (Nat × Int)) (i : Nat) (pp : List (Nat × Int)) (o : List Int), jG (ordN starts perms) i (pp, o) r = some (pp ++ r, o ++ ordL starts perms pp r)
 | [], i, pp, o => by simp [jG, ordL]
 | q :: r, i, pp, o => by simp only [jG, ordN, uP r, ordL]; simp
def cntL (c : Nat) (pp : List (Nat × Int)) : List Int := (List.range c).map fun j => (cntP pp j : Int)
theorem Bi {c j : Nat} {pp : List (Nat × Int)} (h : j < c) : (cntL c pp).getD j 0 = (cntP pp j : Int) := by simp [cntL, List.getD, List.getElem?_range h]
theorem An {c : Nat} {pp : List (Nat × Int)} {q : Nat × Int} (h : q.1 < c) : (cntL c pp).set q.1 ((cntP pp q.1 : Int) + 1) = cntL c (pp ++ [q]) := by
 apply List.ext_getElem
 · simp [cntL]
 · intro j h1 h2
   rw [List.getElem_set]
   simp only [cntL, List.getElem_map, List.getElem_range, uz]
   split
   · rename_i e; subst e; simp
   · rename_i e; simp [e]
def gx (t : List Int) (n c : Int) : List Int × Int :=
 match pt t n c with
 | .inl e => ([], e)
 | .inr r => (ordL (iT r.sizes r.sizes.length) r.perms [] r.pk, 0)
theorem Ao {t : List Int} {n c e : Int} (h : pt t n c = .inl e) : e ≠ 0 := by
 unfold pt at h
 cases h1 : (lQ n c).2 != 0 with
 | true => rw [h1, cond_true] at h; cases h; simpa using h1
 | false =>
  rw [h1, cond_false] at h
  cases h2 : (j7 t c).2 != 0 with
  | true => rw [h2, cond_true] at h; cases h; simpa using h2
  | false =>
   rw [h2, cond_false] at h
   split at h
   · cases h; omega
   · split at h
     · cases h; omega
     · cases h
structure Ct (t : List Int) (n c : Int) (r : Read) : Prop where
 n0 : 0 ≤ n ∧ n ≤ 256
 c0 : 1 ≤ c ∧ c ≤ 64
 sizes : r.sizes = jg n.toNat c.toNat
 pk : r.pk.length = n.toNat
 perms : r.perms.length = c.toNat ∧ ∀ j, j < c.toNat → (r.perms.getD j []).length = (r.sizes.getD j 0).toNat
 val : ∀ k j, 0 ≤ (r.perms.getD k []).getD j 0 ∧ (r.perms.getD k []).getD j 0 ≤ 256
 at_ : ∀ pre q s, r.pk = pre ++ q :: s → q.1 < c.toNat ∧ (cntP pre q.1 : Int) < r.sizes.getD q.1 0
theorem xc {t : List Int} {n c : Int} {r : Read} (hb : bz t) (h : pt t n c = .inr r) : Ct t n c r := by
 unfold pt at h
 cases h1 : (lQ n c).2 != 0 with
 | true => rw [h1, cond_true] at h; cases h
 | false =>
  rw [h1, cond_false] at h
  have hsz : 0 ≤ n ∧ n ≤ 256 ∧ 1 ≤ c ∧ c ≤ 64 := by
   unfold lQ at h1
   cases hc : (((decide (n < 0)) || (decide (n > 256))) || (decide (c < 1))) || (decide (c > 64)) with
   | true => rw [hc] at h1; simp at h1
   | false =>
     simp only [Bool.or_eq_false_iff, decide_eq_false_iff_not] at hc
     exact ⟨by omega, by omega, by omega, by omega⟩
  obtain ⟨n0, n1, c0, c1⟩ := hsz
  cases h2 : (j7 t c).2 != 0 with
  | true => rw [h2, cond_true] at h; cases h
  | false =>
   rw [h2, cond_false] at h
   split at h
   · cases h
   · rename_i q hq
     obtain ⟨ds, w⟩ := q
     split at h
     · cases h
     · rename_i ps hps
       cases h
       obtain ⟨k, rfl⟩ : ∃ k : Nat, n = k := ⟨n.toNat, by omega⟩
       obtain ⟨m, rfl⟩ : ∃ m : Nat, c = m := ⟨c.toNat, by omega⟩
       simp only [Int.toNat_natCast] at *
       have hd := w9 (lM hb m).2.1 (by omega) hq
       obtain ⟨e, e1, e2, e3⟩ := nh _ _ _ _ hps
       rw [List.nil_append] at e1
       subst e1
       rw [mm] at e2 e3
       have hcb : ∀ i, bz ((im t m).Chunks.getD i []) := fun i => by
        by_cases hi : i < (im t m).Chunks.length
        · exact ((lM hb m).2.2 _ (uO (d := []) hi)).1
        · simp only [List.getD, List.getElem?_eq_none (by omega : (im t m).Chunks.length ≤ i), Option.getD_none]; exact fun b hb => (by cases hb)
       obtain ⟨e', e4, e5⟩ := ni hcb _ _ _ _ (mn (by omega)) hps
       rw [List.nil_append] at e4
       subst e4
       refine ⟨⟨n0, n1⟩, ⟨c0, c1⟩, rfl, by simp only [qj]; exact hd.1, ⟨e2, fun j hj => e3 j hj⟩, e5, fun pre q s hpre => ?_⟩
       have hg := ra (n := k) (c := m) (by omega) (by omega)
       have := wU (sizes := jg k m) (c := m) ds (jg k m) [] (mm k m) (fun j => by simp [cntP]) (by rw [hd.1]; exact hg) (by rw [hd.1]; exact hd) pre q s hpre
       simpa using this
theorem pu {t : List Int} {n c : Int} (hb : bz t) (hl : t.length < 2 ^ 30) : eS t n c = some (gx t n c) := by
 unfold eS gx
 rw [xa hb hl]
 simp only [aj, Bh]
 cases hr : pt t n c with
 | inl e =>
  have := Ao hr
  have : (e != 0) = true := by simpa using this
  simp only [this, cond_true]
 | inr r =>
  have ok := xc hb hr
  obtain ⟨⟨n0, n1⟩, ⟨c0, c1⟩, hsz, hpk, ⟨hp1, hp2⟩, hval, hat⟩ := ok
  obtain ⟨k, rfl⟩ : ∃ k : Nat, n = k := ⟨n.toNat, by omega⟩
  obtain ⟨m, rfl⟩ : ∃ m : Nat, c = m := ⟨c.toNat, by omega⟩
  simp only [Int.toNat_natCast] at *
  have hsl : r.sizes.length = m := by rw [hsz, mm]
  have hrng : ∀ x ∈ r.sizes, 0 ≤ x ∧ x ≤ 256 := by rw [hsz]; exact mn (by omega)
  simp only [bne_self_eq_false, cond_false, patR, hsl]
  rw [oK (by omega), cond_true, oK (by omega), cond_true]
  have hst : (iT r.sizes m).length = m := by simp [iT]
  have hpm : ∀ j, j < m → 0 ≤ (iT r.sizes m).getD j 0 ∧ (iT r.sizes m).getD j 0 ≤ 256 * m := fun j hj => by
    have : (iT r.sizes m).getD j 0 = (r.sizes.take j).sum := by simp [iT, List.getD, List.getElem?_range hj]
    rw [this]
    have := lJ hrng j
    omega
  have hcnt : ∀ pp : List (Nat × Int), ∀ j, cntP pp j ≤ pp.length := fun pp j => List.length_filter_le _ _
  rw [(pg (fun (i : Nat) (x : List (Nat × Int) × List Int) => (cntL m x.1, x.2 ++ List.replicate (k - i) (0 : Int), (i : Int))) (ordN (iT r.sizes m) r.perms) r.pk (fun i s x => r.pk = x.1 ++ s ∧ x.1.length = i ∧ x.2.length = i) (fun x => x.2) ([] : List Int) ?_ ?_ ([], []) ⟨rfl, rfl, rfl⟩ ?_).1]
  · rw [uP]
    simp only [aj, List.nil_append]
  · intro i q s x hdr hi hget I
    obtain ⟨I1, I2, I3⟩ := I
    refine ⟨fun h => (by cases h), fun y hy => ?_⟩
    cases hy
    obtain ⟨pp, o⟩ := x
    simp only at I1 I2 I3
    have ha := hat pp q s I1
    have hlt : decide ((i : Int) < ((r.pk.map fun q => (q.1 : Int)).length : Int)) = true := decide_eq_true (by simp; omega)
    have hqi : (r.pk.map fun q => (q.1 : Int)).getD i 0 = (q.1 : Int) := by simp [List.getD, hget]
    obtain ⟨z, hz⟩ : ∃ z, k - i = z + 1 := ⟨k - i - 1, by omega⟩
    have hz2 : k - (i + 1) = z := by omega
    have hpl := hp2 q.1 ha.1
    have hcn := hcnt pp q.1
    refine ⟨?_, by rw [I1]; simp, by simp [I2], by simp [I3]⟩
    simp only [hlt, cond_true]
    rw [ba (i := i) rfl (by simp; omega), hqi]
    simp only [aj]
    rw [ba (xs := iT r.sizes m) (i := q.1) rfl (by omega)]
    simp only [aj]
    rw [fU (xs := r.perms) (i := q.1) [] rfl (by omega)]
    simp only [aj]
    rw [ba (xs := cntL m pp) (i := q.1) rfl (by simp [cntL]; omega), Bi ha.1]
    simp only [aj]
    rw [ba (xs := r.perms.getD q.1 []) (i := cntP pp q.1) rfl (by omega)]
    simp only [aj]
    rw [ba (xs := o ++ List.replicate (k - i) (0 : Int)) (i := i) rfl (by simp; omega)]
    simp only [aj, Int.toNat_natCast]
    rw [wrap64 (x := (cntP pp q.1 : Int) + 1) (by omega), An ha.1, wrap64 (x := (i : Int) + 1) (by omega), hz, hz2, wQ I3]
    have hfr := hpm q.1 ha.1
    have hvr := hval q.1 (cntP pp q.1)
    rw [wrap64 (by omega)]
    rfl
  · intro x I
    have hlt : decide ((r.pk.length : Int) < ((r.pk.map fun q => (q.1 : Int)).length : Int)) = false := decide_eq_false (by simp)
    obtain ⟨I1, I2, I3⟩ := I
    rw [hpk] at hlt
    simp only [hpk, hlt, cond_false, Nat.sub_self, List.replicate_zero, List.append_nil]
  · simp only [List.nil_append, Nat.sub_zero]
    rw [Prod.mk.injEq, Prod.mk.injEq]
    refine ⟨?_, rfl, rfl⟩
    apply List.ext_getElem
    · simp [cntL]
    · intro j h1 h2; simp [cntL, cntP]
end Go.Proofs.YtobbmodjdkcdcaaGreatDoor

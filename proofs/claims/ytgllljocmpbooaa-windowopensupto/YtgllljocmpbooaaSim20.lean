/- Sim20: regions of any order, in phases: a group that only adds memory. -/
import Derived.Test.YtgllljocmpbooaaSim19
set_option linter.unusedVariables false
set_option linter.unusedSimpArgs false
namespace Go.Sim
open Go

def pick (l : List Oper) : List Nat → List Oper
  | [] => []
  | i :: g => match l[i]? with
    | some o => o :: pick l g
    | none => pick l g
theorem pick_len {l : List Oper} : ∀ {g : List Nat}, (∀ i ∈ g, i < l.length) → (pick l g).length = g.length
  | [], _ => rfl
  | i :: g, h => by
    have hil : i < l.length := h i (by simp)
    have hi : l[i]? = some l[i] := by simp [hil]
    rw [pick, hi]; simp [pick_len (g := g) fun j hj => h j (by simp [hj])]
theorem pick_get {l : List Oper} : ∀ {g : List Nat}, (∀ i ∈ g, i < l.length) → ∀ (k i : Nat), g[k]? = some i → (pick l g)[k]? = l[i]?
  | [], _, k, i, h => by simp at h
  | j :: g, h, k, i, hk => by
    have hjl : j < l.length := h j (by simp)
    have hj : l[j]? = some l[j] := by simp [hjl]
    rw [pick, hj]
    cases k with
    | zero => simp at hk; subst hk; simp
    | succ k => simpa using pick_get (g := g) (fun q hq => h q (by simp [hq])) k i (by simpa using hk)
def useB (R : List (List Nat)) (g : List Nat) (lg : List Oper) (k t : Nat) : Bool :=
  (List.range g.length).all fun q => match lg[q]? with
    | some o => (match o.dst with
      | some d => !(Nat.beq d t) || (cond (Nat.blt q k) (memN (g.getD q 0) (R.getD (g.getD k 0) [])) (cond (Nat.beq q k) true (memN (g.getD k 0) (R.getD (g.getD q 0) []))))
      | none => false)
    | none => true
def groupB (l : List Oper) (D g : List Nat) (p : List (List Nat)) : Bool :=
  g.all (fun i => Nat.blt i l.length) && g.all (fun i => !memN i D) && nodupN g && nodupN ((pick l g).filterMap (·.dst)) &&
  (List.range l.length).all (fun j => memN j D || memN j g || g.all (fun i => memN i ((reachZ l []).getD j []))) &&
  (List.range g.length).all fun k => match (pick l g)[k]?, p[k]? with
    | some o, some us => !isSel o.op && (afters o).all (fun e => Nat.blt e l.length && (memN e D || memN e (g.take k))) && us.all (fun t => useB (reachZ l []) g (pick l g) k t)
    | _, _ => false
structure GB (l : List Oper) (D g : List Nat) (p : List (List Nat)) : Prop where
  lt : ∀ i ∈ g, i < l.length
  apart : ∀ i ∈ g, i ∉ D
  nodup : g.Nodup
  dsts : ((pick l g).filterMap (·.dst)).Nodup
  others : ∀ j, j < l.length → j ∈ D ∨ j ∈ g ∨ ∀ i ∈ g, i ∈ ((reachZ l [])[j]?).getD []
  op : ∀ k i, g[k]? = some i → ∃ o us, l[i]? = some o ∧ (pick l g)[k]? = some o ∧ p[k]? = some us ∧ isSel o.op = false ∧ (∀ e ∈ afters o, e < l.length ∧ (e ∈ D ∨ e ∈ g.take k)) ∧
    ∀ t ∈ us, ∀ q j o', g[q]? = some j → l[j]? = some o' → o'.dst = some t → (q < k → j ∈ ((reachZ l [])[i]?).getD []) ∧ (k < q → i ∈ ((reachZ l [])[j]?).getD [])
theorem groupB_spec {l : List Oper} {D g : List Nat} {p : List (List Nat)} (h : groupB l D g p = true) : GB l D g p := by
  simp only [groupB, Bool.and_eq_true, List.all_eq_true] at h
  obtain ⟨⟨⟨⟨⟨h1, h2⟩, h3⟩, h4⟩, h5⟩, h6⟩ := h
  have hlt : ∀ i ∈ g, i < l.length := fun i hi => by simpa [Nat.blt_eq] using h1 i hi
  refine ⟨hlt, fun i hi hm => ?_, nodupN_iff h3, nodupN_iff h4, fun j hj => ?_, fun k i hk => ?_⟩
  · have := h2 i hi; rw [memN_iff.2 hm] at this; cases this
  · have := h5 j (List.mem_range.2 hj)
    simp only [Bool.or_eq_true, List.all_eq_true] at this
    rcases this with (h | h) | h
    · exact .inl (memN_iff.1 h)
    · exact .inr (.inl (memN_iff.1 h))
    · exact .inr (.inr fun i hi => by have := memN_iff.1 (h i hi); simpa [List.getD] using this)
  · have hkl : k < g.length := (List.getElem?_eq_some_iff.1 hk).1
    have hil : i < l.length := hlt i (List.mem_of_getElem? hk)
    have hpk := pick_get hlt k i hk
    have ho : l[i]? = some l[i] := by simp [hil]
    have h7 := h6 k (List.mem_range.2 hkl)
    rw [hpk, ho] at h7
    cases hp : p[k]? with
    | none => rw [hp] at h7; cases h7
    | some us =>
      rw [hp] at h7
      simp only [Bool.and_eq_true, List.all_eq_true, Bool.not_eq_true'] at h7
      refine ⟨l[i], us, ho, by rw [hpk, ho], rfl, h7.1.1, fun e he => ?_, fun t ht q j o' hq hj hd => ?_⟩
      · have := h7.1.2 e he
        simp only [Bool.and_eq_true, Bool.or_eq_true, Nat.blt_eq] at this
        exact ⟨this.1, this.2.imp memN_iff.1 memN_iff.1⟩
      · have h8 := h7.2 t ht
        simp only [useB, List.all_eq_true] at h8
        have hql : q < g.length := (List.getElem?_eq_some_iff.1 hq).1
        have h9 := h8 q (List.mem_range.2 hql)
        rw [pick_get hlt q j hq, hj] at h9
        have gk : g.getD k 0 = i := by simp [List.getD, hk]
        have gq : g.getD q 0 = j := by simp [List.getD, hq]
        simp only [hd, Nat.beq_refl, Bool.not_true, Bool.false_or, gk, gq] at h9
        constructor
        · intro hlt2
          have : Nat.blt q k = true := by simpa [Nat.blt_eq] using hlt2
          rw [this, cond_true] at h9
          simpa [List.getD] using memN_iff.1 h9
        · intro hlt2
          have hb : Nat.blt q k = false := by
            cases hb : Nat.blt q k with
            | false => rfl
            | true => have : q < k := by simpa [Nat.blt_eq] using hb
                      omega
          have hne : Nat.beq q k = false := by
            cases hb : Nat.beq q k with
            | false => rfl
            | true => have := Nat.eq_of_beq_eq_true hb; omega
          rw [hb, cond_false, hne, cond_false] at h9
          simpa [List.getD] using memN_iff.1 h9

section
variable {P : Program} {Q : Exit → Act → World → Prop} {F0 : Fz} {n : Nat} {E : List (Nat × SV)} {L : List Res}

structure InvG (F : Fz) (n : Nat) (L : List Res) (l : List Oper) (D g : List Nat) (sv : List SV) (E : List (Nat × SV)) (listed : Array Bool) (a : Act) (w : World) : Prop where
  size : listed.size = l.length
  closed : ∀ j o, l[j]? = some o → listed.getD j false = true → ∀ e ∈ afters o, listed.getD e false = true
  dl : ∀ j ∈ D, j < l.length → listed.getD j false = true
  ex : ∀ j, j < l.length → listed.getD j false = true → j ∈ D ∨ j ∈ g
  st : ∃ G, F ≤ G ∧ St G w L ∧ a.defers = [] ∧ a.tmps.size = n ∧
    (∀ (k i : Nat) (o : Oper) (d : Nat) (s : SV), g[k]? = some i → l[i]? = some o → o.dst = some d → sv[k]? = some s → listed.getD i false = true → ∃ v, a.tmps[d]? = some v ∧ s.ok G v) ∧
    (∀ (t : Nat) (s : SV), look E t = some s → (∀ (i : Nat) (o : Oper), i ∈ g → l[i]? = some o → listed.getD i false = true → o.dst ≠ some t) → ∃ v, a.tmps[t]? = some v ∧ s.ok G v)

theorem region_g {l : List Oper} {D g : List Nat} {p : List (List Nat)} {sv : List SV} {F : Fz} (hB : GB l D g p) (hsv : sv.length = (pick l g).length) (hds : ∀ o ∈ pick l g, ∃ d, o.dst = some d)
    (hn : ∀ o ∈ pick l g, ∀ d, o.dst = some d → d < n)
    (hstep : ∀ (k : Nat) o us s d, (pick l g)[k]? = some o → p[k]? = some us → sv[k]? = some s → o.dst = some d → ∀ G, F ≤ G → Under G n (keepE us (accE ((pick l g).take k) (sv.take k) E)) L (wpList P l.toArray (Exit.then (PostZ G n L d s) QF) [o]))
    (hfin : ∀ G a w, F ≤ G → Env G a n (accE (pick l g) sv E) → St G w L → RestP P Q l (g ++ D) a w) :
    ∀ (fuel : Nat) (listed : Array Bool) (a : Act) (w : World), cntF listed ≤ fuel → InvG F n L l D g sv E listed a w → wpAny P .any l.toArray Q fuel listed a w := by
  have hlen := pick_len hB.lt
  have atEnd : ∀ (fuel : Nat) (listed : Array Bool) (a : Act) (w : World), cntF listed ≤ fuel → InvG F n L l D g sv E listed a w → (∀ i ∈ g, listed.getD i false = true) → wpAny P .any l.toArray Q fuel listed a w := by
    intro fuel listed a w hc inv all
    obtain ⟨G, hg, hS, hd, hsz, hA, hB'⟩ := inv.st
    refine hfin G a w hg ⟨hd, hsz, fun t s e => ?_⟩ hS fuel listed hc ⟨inv.size, inv.closed, fun j hj => ⟨fun h => ?_, fun h => ?_⟩⟩
    · by_cases hw : ∃ o ∈ pick l g, o.dst = some t
      · obtain ⟨o, ho, hot⟩ := hw
        obtain ⟨k, hk⟩ := List.mem_iff_getElem?.1 ho
        have hkl : k < (pick l g).length := (List.getElem?_eq_some_iff.1 hk).1
        have hkg : g[k]? = some g[k] := by
          have : k < g.length := by omega
          simp [this]
        have hsk : sv[k]? = some sv[k] := by simp [hsv, hkl]
        rw [accE_at hds hB.dsts hk hot hsk] at e
        cases e
        have hl := pick_get hB.lt k _ hkg
        exact hA k _ o t _ hkg (by rw [← hl]; exact hk) hot hsk (all _ (List.mem_of_getElem? hkg))
      · rw [accE_other hds (fun o ho e => hw ⟨o, ho, e⟩)] at e
        refine hB' t s e fun i o hi hl _ e' => hw ⟨o, ?_, e'⟩
        obtain ⟨k, hk⟩ := List.mem_iff_getElem?.1 hi
        have := pick_get hB.lt k i hk
        exact List.mem_of_getElem? (this.trans hl)
    · rcases inv.ex j hj h with h | h
      · exact List.mem_append_right _ h
      · exact List.mem_append_left _ h
    · rcases List.mem_append.1 h with h | h
      · exact all j h
      · exact inv.dl j h hj
  intro fuel
  induction fuel with
  | zero =>
    intro listed a w hc inv
    refine atEnd 0 listed a w hc inv fun i hi => ?_
    cases hl : listed.getD i false with
    | true => rfl
    | false =>
      exfalso
      have hlt : i < listed.size := by have := hB.lt i hi; have := inv.size; omega
      have hun : listed.getD i true = false := by simp [hlt] at hl ⊢; exact hl
      have := cntF_set hun; omega
  | succ fuel ih =>
    intro listed a w hc inv
    by_cases hall : ∀ i ∈ g, listed.getD i false = true
    · exact atEnd _ listed a w hc inv hall
    · -- the first that has not come up may come up
      have hex : ∃ k : Nat, ∃ i, g[k]? = some i ∧ listed.getD i false = false := by
        refine Classical.byContradiction fun hno => hall fun i hi => ?_
        obtain ⟨k, hk⟩ := List.mem_iff_getElem?.1 hi
        cases hl : listed.getD i false with
        | true => rfl
        | false => exact absurd ⟨k, i, hk, hl⟩ hno
      have hready : ∃ i, i ∈ Region.ready .any l.toArray listed := by
        obtain ⟨k, i, hk, hl⟩ := hex
        induction k using Nat.strongRecOn generalizing i with
        | _ k ihk =>
          by_cases hbef : ∃ q, q < k ∧ ∃ j, g[q]? = some j ∧ listed.getD j false = false
          · obtain ⟨q, hq, j, hj, hlj⟩ := hbef
            exact ihk q hq j hj hlj
          · obtain ⟨o, us, ho, _, _, _, haf, _⟩ := hB.op k i hk
            have hil : i < l.length := hB.lt i (List.mem_of_getElem? hk)
            have hlt : i < listed.size := by have := inv.size; omega
            refine ⟨i, mem_ready.2 ⟨by simp [hlt] at hl ⊢; exact hl, o, by simpa using ho, afters_all' fun e he => ?_⟩⟩
            obtain ⟨h1, h2 | h2⟩ := haf e he
            · exact inv.dl e h2 h1
            · obtain ⟨q, hq⟩ := List.mem_iff_getElem?.1 h2
              have hqk : q < k := by have := (List.getElem?_eq_some_iff.1 hq).1; simp at this; omega
              rw [List.getElem?_take_of_lt hqk] at hq
              cases hle : listed.getD e false with
              | true => rfl
              | false => exact absurd ⟨q, hqk, e, hq, hle⟩ hbef
      refine ⟨fun h0 => (by obtain ⟨i, hi⟩ := hready; rw [h0] at hi; cases hi), fun i hi => ?_⟩
      obtain ⟨hun, o, ho, haft⟩ := mem_ready.1 hi
      have ho' : l[i]? = some o := by simpa using ho
      have hil : i < l.length := (List.getElem?_eq_some_iff.1 ho').1
      have hlist := afters_all haft
      have hlt : i < listed.size := by have := inv.size; omega
      have hunf : listed.getD i false = false := by simp [hlt] at hun ⊢; exact hun
      have hiD : i ∉ D := fun h => by rw [inv.dl i h hil] at hunf; cases hunf
      have hig : i ∈ g := by
        rcases hB.others i hil with h | h | h
        · exact absurd h hiD
        · exact h
        · exact absurd (fun j hj => mem_reach' (fun j => listed.getD j false = true) inv.closed ho' hlist j (h j hj)) hall
      obtain ⟨k, hk⟩ := List.mem_iff_getElem?.1 hig
      obtain ⟨o2, us, ho2, hpk, hus, hsel, haf, hwr⟩ := hB.op k i hk
      rw [ho'] at ho2; cases ho2
      have hkl : k < (pick l g).length := (List.getElem?_eq_some_iff.1 hpk).1
      obtain ⟨d, hd⟩ := hds o (List.mem_of_getElem? hpk)
      have hsk : sv[k]? = some sv[k] := by simp [hsv, hkl]
      obtain ⟨G, hg, hS, hdf, hsz, hA, hB'⟩ := inv.st
      have hEnv : Env G a n (keepE us (accE ((pick l g).take k) (sv.take k) E)) := by
        refine ⟨hdf, hsz, fun t s e => ?_⟩
        rw [look_keepE] at e
        split at e
        · rename_i htu
          have hwt := hwr t htu
          by_cases hw : ∃ q ∈ (pick l g).take k, q.dst = some t
          · obtain ⟨o', hq, hqt⟩ := hw
            obtain ⟨q, hq'⟩ := List.mem_iff_getElem?.1 hq
            have hqk : q < k := by have := (List.getElem?_eq_some_iff.1 hq').1; simp at this; omega
            have hpq : (pick l g)[q]? = some o' := by rw [List.getElem?_take_of_lt hqk] at hq'; exact hq'
            have hgq : g[q]? = some g[q] := by
              have : q < g.length := by omega
              simp [this]
            have hlq := pick_get hB.lt q _ hgq
            have hlo : l[g[q]]? = some o' := by rw [← hlq]; exact hpq
            have hsq : sv[q]? = some sv[q] := by
              have : q < sv.length := by omega
              simp [this]
            have hndt : (((pick l g).take k).filterMap (·.dst)).Nodup := hB.dsts.sublist ((List.take_sublist k _).filterMap _)
            rw [accE_at (fun x hx => hds x (List.mem_of_mem_take hx)) hndt hq' hqt (by rw [List.getElem?_take_of_lt hqk]; exact hsq)] at e
            cases e
            refine hA q _ o' t _ hgq hlo hqt hsq ?_
            exact mem_reach' (fun j => listed.getD j false = true) inv.closed ho' hlist _ ((hwt q _ o' hgq hlo hqt).1 hqk)
          · rw [accE_other (fun x hx => hds x (List.mem_of_mem_take hx)) (fun x hx e' => hw ⟨x, hx, e'⟩)] at e
            refine hB' t s e fun j o' hj hlj hlisted hqt => ?_
            obtain ⟨q, hq⟩ := List.mem_iff_getElem?.1 hj
            have hpq := pick_get hB.lt q j hq
            have hqk : ¬ q < k := fun h => hw ⟨o', by
              have : ((pick l g).take k)[q]? = some o' := by rw [List.getElem?_take_of_lt h, hpq]; exact hlj
              exact List.mem_of_getElem? this, hqt⟩
            by_cases hqk2 : q = k
            · subst hqk2
              rw [hk] at hq; cases hq
              rw [hunf] at hlisted; cases hlisted
            · have := mem_reach' (fun j => listed.getD j false = true) inv.closed hlj (inv.closed j o' hlj hlisted) i ((hwt q j o' hq hlj hqt).2 (by omega))
              rw [hunf] at this; cases this
        · cases e
      have hrun := hstep k o us sv[k] d hpk hus hsk hd G hg G a w (Fz.rf G) hEnv hS
      have hdn : d < n := hn o (List.mem_of_getElem? hpk) d hd
      have hfr := wpOp_frame (Q := Q) (i := i) (by simpa using ho') hd hsel hrun (by rw [hsz]; exact hdn) hdf
      refine wpOp_mono (fun a' w' h => ?_) hfr
      obtain ⟨v, H, rfl, hgh, hok, hS'⟩ := h
      refine ih _ _ _ (by have := cntF_set hun; omega) ⟨by simp [inv.size], fun j q hj hlj e he => ?_, fun j hj hjl => ?_, fun j hj hlj => ?_, H, Fz.tr hg hgh, hS', hdf, by simp [Act.put, hsz], fun q j o' d' s' hq hj hd' hs' hlj => ?_, fun t s' hl hno => ?_⟩
      · by_cases hji : i = j
        · subst hji
          rw [ho'] at hj; cases hj
          exact getD_set_true (hlist e he)
        · rw [getD_set_ne false hji] at hlj
          exact getD_set_true (inv.closed j q hj hlj e he)
      · exact getD_set_true (inv.dl j hj hjl)
      · by_cases hji : i = j
        · subst hji; exact .inr hig
        · rw [getD_set_ne false hji] at hlj; exact inv.ex j hj hlj
      · by_cases hji : i = j
        · subst hji
          rw [ho'] at hj; cases hj
          rw [hd] at hd'; cases hd'
          have : q = k := by
            have hql : q < g.length := (List.getElem?_eq_some_iff.1 hq).1
            have hkl2 : k < g.length := (List.getElem?_eq_some_iff.1 hk).1
            have e1 := (List.getElem?_eq_some_iff.1 hq).2
            have e2 := (List.getElem?_eq_some_iff.1 hk).2
            exact (List.getElem_inj hB.nodup).1 (e1.trans e2.symm)
          subst this
          rw [hsk] at hs'; cases hs'
          exact ⟨v, by simp only [Act.put]; rw [Array.getElem?_setIfInBounds_self_of_lt (by rw [hsz]; exact hdn)], hok⟩
        · rw [getD_set_ne false hji] at hlj
          obtain ⟨u, hu, ho3⟩ := hA q j o' d' s' hq hj hd' hs' hlj
          refine ⟨u, ?_, SV.ok_mono hgh ho3⟩
          have hne : d ≠ d' := fun e => by
            subst e
            have hpq := pick_get hB.lt q j hq
            have := nodup_idx hB.dsts hpk (hpq.trans hj) hd hd'
            subst this
            rw [hk] at hq; cases hq; exact hji rfl
          simp only [Act.put]; rw [Array.getElem?_setIfInBounds_ne hne]; exact hu
      · have hne : d ≠ t := fun e => by
          subst e
          refine hno i o hig ho' ?_ hd
          simp [hlt]
        obtain ⟨u, hu, ho3⟩ := hB' t s' hl (fun j o' hj hlj hlisted => hno j o' hj hlj (getD_set_true hlisted))
        exact ⟨u, by simp only [Act.put]; rw [Array.getElem?_setIfInBounds_ne hne]; exact hu, SV.ok_mono hgh ho3⟩

/-- A group of the region that only adds memory. -/
theorem Under.grp {l : List Oper} {D : List Nat} (g : List Nat) (p : List (List Nat)) (hB : groupB l D g p = true) (hn : (pick l g).all (fun o => match o.dst with | some d => Nat.blt d n | none => true) = true)
    (h : ∀ F, F0 ≤ F → seqZ P n L l.toArray F (fun E' => Under F n E' L (RestP P Q l (g ++ D))) p (pick l g) E) : Under F0 n E L (RestP P Q l D) := fun F a w h0 hE hS fuel listed hc inv => by
  obtain ⟨sv, e1, e2, e3, e4⟩ := seqZ_out (h F h0)
  have hG := groupB_spec hB
  refine region_g hG e1 e2 (fun o ho d hd => ?_) e4 (fun G a w hg hE' hS' => e3 G a w hg hE' hS') fuel listed a w hc ⟨inv.size, inv.closed, fun j hj hjl => (inv.ex j hjl).2 hj, fun j hj hl => .inl ((inv.ex j hj).1 hl), F, Fz.rf F, hS, hE.defers, hE.size, fun k i o d s hk hi _ _ hl => ?_, fun t s hl _ => hE.at_ t s hl⟩
  · have := List.all_eq_true.1 hn o ho
    rw [hd] at this; simpa [Nat.blt_eq] using this
  · have hig := List.mem_of_getElem? hk
    exact absurd ((inv.ex i (hG.lt i hig)).1 hl) (hG.apart i hig)
/-- A region in phases: its beginning. -/
theorem Under.phases {id : Nat} {l : List Oper} (hm : P.follows .mixedOrders = true) (k : Under F0 n E L (RestP P Q l [])) : Under F0 n E L ((Code.region id l.toArray true).wp P Q) := fun F a w h0 hE hS => by
  refine wp_region_any hm (k F a _ h0 hE (StG.drew hS) _ _ ?_ ?_)
  · simp only [cntF]; exact Nat.le_trans (List.length_filter_le _ _) (by simp)
  · refine ⟨by simp, fun j o hj hl => ?_, fun j hj => ?_⟩
    · rw [getD_rep] at hl; cases hl
    · rw [getD_rep]; simp
/-- One operation, by the plain rules. -/
theorem Under.p1 {l : List Oper} {D : List Nat} (i : Nat) {o : Oper} (hB : oneB l D i = true) (hi : l[i]? = some o) (k : Under F0 n E L (wpList P l.toArray (Exit.then (RestP P Q l (i :: D)) QF) [o])) : Under F0 n E L (RestP P Q l D) := fun F a w h0 hE hS =>
  Rest.one hB hi (wpOp_of (by simpa using hi) (k F a w h0 hE hS))
theorem Under.pn {ops : Array Oper} {X : Act → World → Prop} (k : Under F0 n E L X) : Under F0 n E L (wpList P ops (Exit.then X QF) []) := k
theorem Under.pdone {l : List Oper} {D : List Nat} (hD : allB l.length D = true) (k : Under F0 n E L (Q .normal)) : Under F0 n E L (RestP P Q l D) := fun F a w h0 hE hS => Rest.done hD (k F a w h0 hE hS)
theorem Under.le {G : Fz} {X : Act → World → Prop} (h0 : F0 ≤ G) (k : Under F0 n E L X) : Under G n E L X := fun F a w h hE hS => k F a w (Fz.tr h0 h) hE hS
end
end Go.Sim

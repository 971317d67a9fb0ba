/- Sim10: regions of any order whose operations only add memory. -/
import Derived.Test.YtgllljocmpbooaaSim9
import Derived.Orders
set_option linter.unusedVariables false
set_option linter.unusedSimpArgs false
namespace Go.Sim
open Go

/-- What an operation looks at, of what is known. -/
def memN (t : Nat) : List Nat → Bool
  | [] => false
  | u :: us => Nat.beq u t || memN t us
theorem memN_iff {t : Nat} : ∀ {us : List Nat}, memN t us = true ↔ t ∈ us
  | [] => by simp [memN]
  | u :: us => by
    simp only [memN, Bool.or_eq_true, List.mem_cons, memN_iff (us := us)]
    constructor
    · rintro (h | h)
      · exact .inl (Nat.eq_of_beq_eq_true h).symm
      · exact .inr h
    · rintro (h | h)
      · subst h; exact .inl (Nat.beq_refl _)
      · exact .inr h
def keepE (us : List Nat) : List (Nat × SV) → List (Nat × SV)
  | [] => []
  | q :: E => cond (memN q.1 us) (q :: keepE us E) (keepE us E)
theorem look_keepE {us : List Nat} {t : Nat} : ∀ {E : List (Nat × SV)}, look (keepE us E) t = if t ∈ us then look E t else none
  | [] => by simp [keepE, look]
  | (k, v) :: E => by
    have ih := look_keepE (us := us) (t := t) (E := E)
    rw [keepE]
    cases hm : memN k us with
    | true =>
      have hk := memN_iff.1 hm
      rw [cond_true, look_cons, look_cons, ih]
      by_cases h : k = t
      · subst h; simp [hk]
      · simp [h]
    | false =>
      have hk : k ∉ us := fun h => by rw [memN_iff.2 h] at hm; cases hm
      rw [cond_false, ih, look_cons]
      by_cases h : k = t
      · subst h; simp [hk]
      · simp [h]

def PostZ (G : Fz) (n : Nat) (L : List Res) (d : Nat) (s : SV) : Act → World → Prop := fun a w => ∃ H, G ≤ H ∧ Env H a n [(d, s)] ∧ St H w L
def QF : Exit → Act → World → Prop := fun _ _ _ => False

def seqZ (P : Program) (n : Nat) (L : List Res) (ops : Array Oper) (F0 : Fz) (K : List (Nat × SV) → Prop) : List (List Nat) → List Oper → List (Nat × SV) → Prop
  | us :: p, o :: rest, E => ∃ d s, o.dst = some d ∧ (∀ G, F0 ≤ G → Under G n (keepE us E) L (wpList P ops (Exit.then (PostZ G n L d s) QF) [o])) ∧ seqZ P n L ops F0 K p rest ((d, s) :: E)
  | [], [], E => K E
  | _, _, _ => False

section
variable {P : Program} {ops : Array Oper} {Q : Exit → Act → World → Prop} {rest : List Oper} {F0 : Fz} {n : Nat} {E : List (Nat × SV)} {L : List Res}
variable {d : Nat} {op : Op} {ty : TypeId} {pos : String} {aft : Array Edge} {s : SV}

theorem Zq.st {K : List (Nat × SV) → Prop} {us : List Nat} {p : List (List Nat)} {g : Option (Nat × Bool)} (s : SV)
    (h : ∀ G, F0 ≤ G → Under G n (keepE us E) L (wpList P ops (Exit.then (PostZ G n L d s) QF) [⟨some d, op, ty, pos, aft, g⟩])) (k : seqZ P n L ops F0 K p rest ((d, s) :: E)) :
    seqZ P n L ops F0 K (us :: p) (⟨some d, op, ty, pos, aft, g⟩ :: rest) E := ⟨d, s, rfl, h, k⟩
theorem Zq.done {Q' : Exit → Act → World → Prop} (h : look E d = some s) : Under F0 n E L (wpList P ops (Exit.then (PostZ F0 n L d s) Q') []) := fun F a w h0 hE hS =>
  ⟨F, h0, ⟨hE.defers, hE.size, fun t u e => by
    rw [look_cons] at e; split at e
    · rename_i hk; subst hk; cases e; exact hE.at_ _ _ h
    · cases e⟩, hS⟩
theorem Zq.nil {K : List (Nat × SV) → Prop} (h : K E) : seqZ P n L ops F0 K [] [] E := h
theorem Zq.by {X : Prop} (c : Bool) (kt : c = true → X) (kf : c = false → X) : X := by
  cases hc : c with
  | true => exact kt hc
  | false => exact kf hc

/-! ### The check of a region -/
def afters (o : Oper) : List Nat := (o.after.toList.filter fun e => Region.binds .any e).map (·.on)
/-- For each operation, what it waits for, through others too. -/
def reachZ : List Oper → List (List Nat) → List (List Nat)
  | [], acc => acc
  | o :: l, acc => reachZ l (acc ++ [(afters o).flatMap fun j => j :: (acc[j]?).getD []])
def isSel : Op → Bool
  | .select _ _ => true
  | _ => false
def writersB (l : List Oper) (R : List (List Nat)) (i t : Nat) : Nat → List Oper → Bool
  | _, [] => true
  | j, o :: m => (match o.dst with
      | some d => cond (Nat.beq d t) (cond (Nat.blt j i) (memN j ((R[i]?).getD [])) (cond (Nat.beq j i) true (memN i ((R[j]?).getD [])))) true
      | none => false) && writersB l R i t (j + 1) m
def opsB (l : List Oper) (R : List (List Nat)) : Nat → List (List Nat) → List Oper → Bool
  | _, [], [] => true
  | i, us :: p, o :: m => !isSel o.op && us.all (fun t => writersB l R i t 0 l) && (afters o).all (fun j => Nat.blt j i) && opsB l R (i + 1) p m
  | _, _, _ => false
def nodupN : List Nat → Bool
  | [] => true
  | x :: l => !memN x l && nodupN l
def zB (l : List Oper) (p : List (List Nat)) : Bool := opsB l (reachZ l []) 0 p l && nodupN (l.filterMap (·.dst))

theorem wpOp_frame {i : Nat} {o : Oper} {a : Act} {w : World} {s : SV} {d : Nat} (hi : ops[i]? = some o) (hd : o.dst = some d) (hsel : isSel o.op = false) {G : Fz}
    (h : wpList P ops (Exit.then (PostZ G n L d s) QF) [o] a w) (hlt : d < a.tmps.size) (hdef : a.defers = []) :
    wpOp P ops Q i (fun a' w' => ∃ v H, a' = a.put (some d) v ∧ G ≤ H ∧ s.ok H v ∧ St H w' L) a w := by
  have fin : ∀ v w', PostZ G n L d s (a.put (some d) v) w' → ∃ v' H, a.put (some d) v = a.put (some d) v' ∧ G ≤ H ∧ s.ok H v' ∧ St H w' L := fun v w' ⟨H, h1, h2, h3⟩ => by
    obtain ⟨u, hu, ho⟩ := h2.at_ d s (by simp [look])
    simp only [Act.put] at hu
    rw [Array.getElem?_setIfInBounds_self_of_lt hlt] at hu
    cases hu
    exact ⟨_, H, rfl, h1, ho, h3⟩
  unfold wpOp
  simp only [hi]
  unfold wpList at h
  split
  · rename_i hw
    rw [if_pos hw] at h
    refine .inl ?_
    rcases h with h | ⟨_, hlets⟩
    case inr => exact absurd hlets (fun hl => by simp [LetsOut, QF, Exit.then] at hl)
    unfold Oper.wp at *
    generalize (execOp a.eval o).run P w = r at *
    cases r with
    | ok nx w' =>
      cases nx <;> simp only [Oper.upon] at h ⊢
      case value u => rw [hd] at h ⊢; exact fin _ _ h
      case skip => rw [hd] at h ⊢; exact fin _ _ h
      case defer dd =>
        rw [hd] at h
        obtain ⟨H, h1, h2, h3⟩ := h
        have := h2.defers
        simp [Act.put] at this
      case enter f args =>
        refine Calls.mono h fun e w'' he => ?_
        cases e with
        | returned u => rw [hd] at he ⊢; exact fin _ _ he
        | panicked c => exact he.elim
        | outgrown => obtain ⟨_, _, x⟩ := he; exact x.elim
      case row row args => exact Rows.mono h fun u w'' he => by rw [hd] at he ⊢; exact fin _ _ he
    | halt x w' =>
      cases x <;> simp only [Oper.upon] at h ⊢ <;> exact h.elim
  · rename_i hw
    rw [if_neg hw] at h
    rw [hd] at h ⊢
    exact fin _ _ h

/-! ### What the check says -/
theorem mem_reach (Ls : Nat → Prop) {l : List Oper} (hcl : ∀ j o, l[j]? = some o → Ls j → ∀ e ∈ afters o, Ls e) :
    ∀ (m pre : List Oper) (acc : List (List Nat)), l = pre ++ m → acc.length = pre.length → (∀ (i : Nat) o R, l[i]? = some o → acc[i]? = some R → (∀ j ∈ afters o, Ls j) → ∀ j ∈ R, Ls j) →
      ∀ (i : Nat) o R, l[i]? = some o → (reachZ m acc)[i]? = some R → (∀ j ∈ afters o, Ls j) → ∀ j ∈ R, Ls j
  | [], pre, acc, _, _, hacc => hacc
  | q :: m, pre, acc, he, hlen, hacc => by
    refine mem_reach Ls hcl m (pre ++ [q]) _ (by simp [he]) (by simp [hlen]) ?_
    intro i o R ho hR haf j hj
    by_cases hi : i < acc.length
    · rw [List.getElem?_append_left hi] at hR; exact hacc i o R ho hR haf j hj
    · have hi2 : i = acc.length := by
        have := (List.getElem?_eq_some_iff.1 hR).1; simp at this; omega
      subst hi2
      simp only [List.getElem?_concat_length, Option.some.injEq] at hR
      subst hR
      have hoq : o = q := by rw [he, hlen] at ho; simp at ho; exact ho.symm
      subst hoq
      obtain ⟨k, hk, hjk⟩ := List.mem_flatMap.1 hj
      rcases List.mem_cons.1 hjk with rfl | hjk
      · exact haf _ hk
      · cases hak : acc[k]? with
        | none => rw [hak] at hjk; simp at hjk
        | some Rk =>
          rw [hak] at hjk
          have hkl : k < acc.length := (List.getElem?_eq_some_iff.1 hak).1
          have hkl2 : k < l.length := by rw [he]; simp; omega
          exact hacc k l[k] Rk (by simp [hkl2]) hak (hcl k l[k] (by simp [hkl2]) (haf k hk)) j hjk
theorem reach_some : ∀ (m : List Oper) (acc : List (List Nat)), (reachZ m acc).length = acc.length + m.length
  | [], acc => by simp [reachZ]
  | q :: m, acc => by rw [reachZ, reach_some m]; simp; omega
theorem mem_reach' (Ls : Nat → Prop) {l : List Oper} (hcl : ∀ j o, l[j]? = some o → Ls j → ∀ e ∈ afters o, Ls e) {i : Nat} {o : Oper} (ho : l[i]? = some o) (haf : ∀ j ∈ afters o, Ls j) : ∀ j ∈ ((reachZ l [])[i]?).getD [], Ls j := by
  intro j hj
  cases hR : (reachZ l [])[i]? with
  | none => rw [hR] at hj; simp at hj
  | some R => rw [hR] at hj; exact mem_reach Ls hcl l [] [] rfl rfl (fun _ _ _ _ h => by simp at h) i o R ho hR haf j hj

theorem writersB_spec {l : List Oper} {R : List (List Nat)} {i t : Nat} : ∀ {m : List Oper} {j0 : Nat}, writersB l R i t j0 m = true → ∀ k o, m[k]? = some o → o.dst = some t → (j0 + k < i → j0 + k ∈ ((R[i]?).getD [])) ∧ (i < j0 + k → i ∈ ((R[j0 + k]?).getD []))
  | [], j0, _, k, o, hk, _ => by simp at hk
  | q :: m, j0, h, k, o, hk, hd => by
    simp only [writersB, Bool.and_eq_true] at h
    cases k with
    | zero =>
      simp at hk; subst hk
      have h1 := h.1
      rw [hd] at h1
      simp only [Nat.beq_refl, cond_true] at h1
      rw [Nat.add_zero]
      cases hb : Nat.blt j0 i with
      | true =>
        rw [hb, cond_true] at h1
        have : j0 < i := by simpa [Nat.blt_eq] using hb
        exact ⟨fun _ => memN_iff.1 h1, fun h => by omega⟩
      | false =>
        rw [hb, cond_false] at h1
        have hge : ¬ j0 < i := fun h => by have : Nat.blt j0 i = true := by simpa [Nat.blt_eq] using h
                                           rw [this] at hb; cases hb
        refine ⟨fun h => absurd h hge, fun h => ?_⟩
        have hne : Nat.beq j0 i = false := by
          cases hq : Nat.beq j0 i with
          | false => rfl
          | true => have := Nat.eq_of_beq_eq_true hq; omega
        rw [hne, cond_false] at h1; exact memN_iff.1 h1
    | succ k =>
      have := writersB_spec h.2 k o (by simpa using hk) hd
      rw [show j0 + 1 + k = j0 + (k + 1) by omega] at this; exact this
theorem writersB_dst {l : List Oper} {R : List (List Nat)} {i t : Nat} : ∀ {m : List Oper} {j0 : Nat}, writersB l R i t j0 m = true → True := fun _ => trivial
theorem opsB_spec {l : List Oper} {R : List (List Nat)} : ∀ {m : List Oper} {p : List (List Nat)} {i0 : Nat}, opsB l R i0 p m = true → ∀ k o, m[k]? = some o → ∃ us, p[k]? = some us ∧ isSel o.op = false ∧ (∀ t ∈ us, writersB l R (i0 + k) t 0 l = true) ∧ ∀ j ∈ afters o, j < i0 + k
  | [], p, i0, _, k, o, hk => by simp at hk
  | q :: m, [], i0, h, k, o, hk => by simp [opsB] at h
  | q :: m, us :: p, i0, h, k, o, hk => by
    simp only [opsB, Bool.and_eq_true, List.all_eq_true] at h
    cases k with
    | zero =>
      simp at hk; subst hk
      refine ⟨us, rfl, by simpa using h.1.1.1, fun t ht => h.1.1.2 t ht, fun j hj => ?_⟩
      have := h.1.2 j hj; simpa [Nat.blt_eq] using this
    | succ k =>
      obtain ⟨us', h1, h2, h4, h5⟩ := opsB_spec h.2 k o (by simpa using hk)
      rw [show i0 + 1 + k = i0 + (k + 1) by omega] at h4 h5
      exact ⟨us', by simpa using h1, h2, h4, h5⟩
theorem nodupN_iff : ∀ {l : List Nat}, nodupN l = true → l.Nodup
  | [], _ => List.nodup_nil
  | x :: l, h => by
    simp only [nodupN, Bool.and_eq_true, Bool.not_eq_true'] at h
    exact List.nodup_cons.2 ⟨fun hm => by rw [memN_iff.2 hm] at h; exact absurd h.1 (by simp), nodupN_iff h.2⟩

/-! ### The list of what is yielded -/
def accE : List Oper → List SV → List (Nat × SV) → List (Nat × SV)
  | o :: l, s :: sv, E => accE l sv ((o.dst.getD 0, s) :: E)
  | _, _, E => E
theorem accE_other {t : Nat} : ∀ {l : List Oper} {sv : List SV} {E : List (Nat × SV)}, (∀ o ∈ l, ∃ d, o.dst = some d) → (∀ o ∈ l, o.dst ≠ some t) → look (accE l sv E) t = look E t
  | [], sv, E, _, _ => by simp [accE]
  | o :: l, [], E, _, _ => by simp [accE]
  | o :: l, s :: sv, E, hd, h => by
    obtain ⟨d, hd0⟩ := hd o (by simp)
    rw [accE, accE_other (fun q hq => hd q (by simp [hq])) (fun q hq => h q (by simp [hq])), look_cons, if_neg]
    intro e; apply h o (by simp); rw [hd0] at e ⊢; simpa using e
theorem accE_at {t : Nat} {s : SV} : ∀ {l : List Oper} {sv : List SV} {E : List (Nat × SV)} {j : Nat} {o : Oper}, (∀ o ∈ l, ∃ d, o.dst = some d) → (l.filterMap (·.dst)).Nodup → l[j]? = some o → o.dst = some t → sv[j]? = some s → look (accE l sv E) t = some s
  | [], sv, E, j, o, _, _, hj, _, _ => by simp at hj
  | q :: l, [], E, j, o, _, _, _, _, hs => by simp at hs
  | q :: l, s0 :: sv, E, j, o, hd, hn, hj, ht, hs => by
    obtain ⟨d, hd0⟩ := hd q (by simp)
    rw [List.filterMap_cons_some hd0, List.nodup_cons] at hn
    cases j with
    | zero =>
      simp at hj hs; subst hj; subst hs
      rw [hd0] at ht; cases ht
      rw [accE, accE_other (fun x hx => hd x (by simp [hx])) (fun x hx e => hn.1 (List.mem_filterMap.2 ⟨x, hx, e⟩)), look_cons, hd0]; simp
    | succ j => rw [accE]; exact accE_at (fun x hx => hd x (by simp [hx])) hn.2 (by simpa using hj) ht (by simpa using hs)
theorem seqZ_out {K : List (Nat × SV) → Prop} : ∀ {p : List (List Nat)} {l : List Oper} {E : List (Nat × SV)}, seqZ P n L ops F0 K p l E →
    ∃ sv : List SV, sv.length = l.length ∧ (∀ o ∈ l, ∃ d, o.dst = some d) ∧ K (accE l sv E) ∧ ∀ (i : Nat) o us s d, l[i]? = some o → p[i]? = some us → sv[i]? = some s → o.dst = some d → ∀ G, F0 ≤ G → Under G n (keepE us (accE (l.take i) (sv.take i) E)) L (wpList P ops (Exit.then (PostZ G n L d s) QF) [o])
  | [], [], E, h => ⟨[], rfl, by simp, h, fun i o us s d hi => by simp at hi⟩
  | [], _ :: _, E, h => by simp [seqZ] at h
  | _ :: _, [], E, h => by simp [seqZ] at h
  | us :: p, o :: l, E, h => by
    obtain ⟨d, s, hd, h1, h2⟩ := h
    obtain ⟨sv, e1, e2, e3, e4⟩ := seqZ_out h2
    refine ⟨s :: sv, by simp [e1], fun q hq => ?_, by simpa [accE, hd] using e3, fun i q us' s' d' hi hp hs hd' => ?_⟩
    · rcases List.mem_cons.1 hq with rfl | hq
      · exact ⟨d, hd⟩
      · exact e2 q hq
    · cases i with
      | zero =>
        simp at hi hp hs; subst hi; subst hp; subst hs
        rw [hd] at hd'; cases hd'
        simpa [accE] using h1
      | succ i => have := e4 i q us' s' d' (by simpa using hi) (by simpa using hp) (by simpa using hs) hd'; simpa [accE, hd] using this

theorem nodup_idx : ∀ {l : List Oper} {i j : Nat} {o q : Oper} {d : Nat}, (l.filterMap (·.dst)).Nodup → l[i]? = some o → l[j]? = some q → o.dst = some d → q.dst = some d → i = j
  | [], i, j, o, q, d, _, hi, _, _, _ => by simp at hi
  | x :: l, i, j, o, q, d, hn, hi, hj, ho, hq => by
    have hn2 : (l.filterMap (·.dst)).Nodup := hn.sublist ((List.sublist_cons_self x l).filterMap _)
    cases i with
    | zero =>
      cases j with
      | zero => rfl
      | succ j =>
        simp at hi hj; subst hi
        rw [List.filterMap_cons_some ho, List.nodup_cons] at hn
        exact absurd (List.mem_filterMap.2 ⟨q, List.mem_of_getElem? hj, hq⟩) hn.1
    | succ i =>
      cases j with
      | zero =>
        simp at hi hj; subst hj
        rw [List.filterMap_cons_some hq, List.nodup_cons] at hn
        exact absurd (List.mem_filterMap.2 ⟨o, List.mem_of_getElem? hi, ho⟩) hn.1
      | succ j => simp at hi hj; rw [nodup_idx hn2 hi hj ho hq]

structure InvZ (F : Fz) (n : Nat) (L : List Res) (l : List Oper) (sv : List SV) (E : List (Nat × SV)) (listed : Array Bool) (a : Act) (w : World) : Prop where
  size : listed.size = l.length
  closed : ∀ j o, l[j]? = some o → listed.getD j false = true → ∀ e ∈ afters o, listed.getD e false = true
  st : ∃ G, F ≤ G ∧ St G w L ∧ a.defers = [] ∧ a.tmps.size = n ∧
    (∀ j o d s, l[j]? = some o → o.dst = some d → sv[j]? = some s → listed.getD j false = true → ∃ v, a.tmps[d]? = some v ∧ s.ok G v) ∧
    (∀ t s, look E t = some s → (∀ j o, l[j]? = some o → listed.getD j false = true → o.dst ≠ some t) → ∃ v, a.tmps[t]? = some v ∧ s.ok G v)

theorem afters_all {o : Oper} {listed : Array Bool} (h : ∀ e ∈ o.after, Region.binds .any e = true → listed.getD e.on false = true) : ∀ e ∈ afters o, listed.getD e false = true := by
  intro e he
  simp only [afters, List.mem_map, List.mem_filter] at he
  obtain ⟨x, ⟨hx, hb⟩, rfl⟩ := he
  exact h x (by simpa using hx) hb
theorem afters_all' {o : Oper} {listed : Array Bool} (h : ∀ e ∈ afters o, listed.getD e false = true) : ∀ e ∈ o.after, Region.binds .any e = true → listed.getD e.on false = true := by
  intro e he hb
  exact h _ (by simp only [afters, List.mem_map, List.mem_filter]; exact ⟨e, ⟨by simpa using he, hb⟩, rfl⟩)

theorem getD_rep (m j : Nat) : (Array.replicate m false).getD j false = false := by
  rcases Nat.lt_or_ge j m with h | h
  · simp [h]
  · simp [h]
def cntF (listed : Array Bool) : Nat := (listed.toList.filter (!·)).length
theorem cntF_set {listed : Array Bool} {i : Nat} (h : listed.getD i true = false) : cntF listed = cntF (listed.setIfInBounds i true) + 1 := by
  have hi : i < listed.size := by
    rcases Nat.lt_or_ge i listed.size with h' | h'
    · exact h'
    · simp [Array.getElem?_eq_none h'] at h
  have hv : listed.toList[i]? = some false := by
    simp [hi] at h ⊢; exact h
  unfold cntF
  rw [Array.toList_setIfInBounds]
  generalize listed.toList = xs at hv
  clear h hi
  induction xs generalizing i with
  | nil => simp at hv
  | cons x xs ih =>
    cases i with
    | zero => simp at hv; subst hv; simp
    | succ i =>
      simp at hv
      have := ih hv
      simp only [List.set_cons_succ, List.filter_cons]
      split <;> simp only [List.length_cons, this] <;> omega

theorem region_z {l : List Oper} {p : List (List Nat)} {sv : List SV} {F : Fz} (hB : zB l p = true) (hsv : sv.length = l.length) (hds : ∀ o ∈ l, ∃ d, o.dst = some d)
    (hn : ∀ o ∈ l, ∀ d, o.dst = some d → d < n)
    (hstep : ∀ (i : Nat) o us s d, l[i]? = some o → p[i]? = some us → sv[i]? = some s → o.dst = some d → ∀ G, F ≤ G → Under G n (keepE us (accE (l.take i) (sv.take i) E)) L (wpList P l.toArray (Exit.then (PostZ G n L d s) QF) [o]))
    (hfin : ∀ G a w, F ≤ G → Env G a n (accE l sv E) → St G w L → Q .normal a w) :
    ∀ (fuel : Nat) (listed : Array Bool) (a : Act) (w : World), cntF listed ≤ fuel → InvZ F n L l sv E listed a w → wpAny P .any l.toArray Q fuel listed a w := by
  simp only [zB, Bool.and_eq_true] at hB
  obtain ⟨hO, hND⟩ := hB
  have hnd := nodupN_iff hND
  have hspec := fun k o hk => opsB_spec (i0 := 0) hO k o hk
  simp only [Nat.zero_add] at hspec
  have atEnd : ∀ (listed : Array Bool) (a : Act) (w : World), InvZ F n L l sv E listed a w → Region.ready .any l.toArray listed = [] → Q .normal a w := by
    intro listed a w inv hr
    have all : ∀ i, i < l.length → listed.getD i false = true := by
      intro i
      induction i using Nat.strongRecOn with
      | _ i ih =>
        intro hi
        cases hl : listed.getD i false with
        | true => rfl
        | false =>
          exfalso
          have ho : l[i]? = some l[i] := by simp [hi]
          obtain ⟨us, _, _, _, h5⟩ := hspec i _ ho
          have : i ∈ Region.ready .any l.toArray listed := by
            refine mem_ready.2 ⟨?_, l[i], by simp, afters_all' fun e he => ih e (h5 e he) (by have := h5 e he; omega)⟩
            have hsz := inv.size
            have : i < listed.size := by omega
            simp [this] at hl ⊢; exact hl
          rw [hr] at this; cases this
    obtain ⟨G, hg, hS, hd, hsz, hA, hB'⟩ := inv.st
    refine hfin G a w hg ⟨hd, hsz, fun t s e => ?_⟩ hS
    by_cases hw : ∃ o ∈ l, o.dst = some t
    · obtain ⟨o, ho, hot⟩ := hw
      obtain ⟨j, hj⟩ := List.mem_iff_getElem?.1 ho
      have hjl : j < l.length := (List.getElem?_eq_some_iff.1 hj).1
      have hsj : sv[j]? = some sv[j] := by simp [hsv, hjl]
      rw [accE_at hds hnd hj hot hsj] at e
      cases e
      exact hA j o t _ hj hot hsj (all j hjl)
    · rw [accE_other hds (fun o ho e => hw ⟨o, ho, e⟩)] at e
      exact hB' t s e (fun j o hj _ e' => hw ⟨o, List.mem_of_getElem? hj, e'⟩)
  intro fuel
  induction fuel with
  | zero =>
    intro listed a w hc inv
    have hr : Region.ready .any l.toArray listed = [] := by
      cases hq : Region.ready .any l.toArray listed with
      | nil => rfl
      | cons i r =>
        have hi : i ∈ Region.ready .any l.toArray listed := by rw [hq]; simp
        have := cntF_set (mem_ready.1 hi).1
        omega
    exact ⟨hr, atEnd listed a w inv hr⟩
  | succ fuel ih =>
    intro listed a w hc inv
    refine ⟨atEnd listed a w inv, fun i hi => ?_⟩
    obtain ⟨hun, o, ho, haft⟩ := mem_ready.1 hi
    have ho' : l[i]? = some o := by simpa using ho
    have hil : i < l.length := (List.getElem?_eq_some_iff.1 ho').1
    obtain ⟨us, hus, hsel, hwr, haf⟩ := hspec i o ho'
    have hlist := afters_all haft
    obtain ⟨d, hd⟩ := hds o (List.mem_of_getElem? ho')
    have hsi : sv[i]? = some sv[i] := by simp [hsv, hil]
    obtain ⟨G, hg, hS, hdf, hsz, hA, hB'⟩ := inv.st
    have hunf : listed.getD i false = false := by
      have : i < listed.size := by have := inv.size; omega
      simp [this] at hun ⊢; exact hun
    have hEnv : Env G a n (keepE us (accE (l.take i) (sv.take i) E)) := by
      refine ⟨hdf, hsz, fun t s e => ?_⟩
      rw [look_keepE] at e
      split at e
      · rename_i htu
        have hwt := writersB_spec (j0 := 0) (hwr t htu)
        simp only [Nat.zero_add] at hwt
        by_cases hw : ∃ q ∈ l.take i, q.dst = some t
        · obtain ⟨q, hq, hqt⟩ := hw
          obtain ⟨j, hj⟩ := List.mem_iff_getElem?.1 hq
          have hji : j < i := by have := (List.getElem?_eq_some_iff.1 hj).1; simp at this; omega
          have hj' : l[j]? = some q := by rw [List.getElem?_take_of_lt hji] at hj; exact hj
          have hsj : sv[j]? = some sv[j] := by
            have : j < sv.length := by omega
            simp [this]
          have hndt : ((l.take i).filterMap (·.dst)).Nodup := hnd.sublist ((List.take_sublist i l).filterMap _)
          rw [accE_at (fun x hx => hds x (List.mem_of_mem_take hx)) hndt hj hqt (by rw [List.getElem?_take_of_lt hji]; exact hsj)] at e
          cases e
          refine hA j q t _ hj' hqt hsj ?_
          exact mem_reach' (fun j => listed.getD j false = true) inv.closed ho' hlist j ((hwt j q hj' hqt).1 hji)
        · rw [accE_other (fun x hx => hds x (List.mem_of_mem_take hx)) (fun x hx e' => hw ⟨x, hx, e'⟩)] at e
          refine hB' t s e fun j q hj hlj hqt => ?_
          have hji : ¬ j < i := fun h => hw ⟨q, by
            have : (l.take i)[j]? = some q := by rw [List.getElem?_take_of_lt h]; exact hj
            exact List.mem_of_getElem? this, hqt⟩
          by_cases hij : j = i
          · subst hij; rw [hunf] at hlj; cases hlj
          · have := mem_reach' (fun j => listed.getD j false = true) inv.closed hj (inv.closed j q hj hlj) i ((hwt j q hj hqt).2 (by omega))
            rw [hunf] at this; cases this
      · cases e
    have hrun := hstep i o us sv[i] d ho' hus hsi hd G hg G a w (Fz.rf G) hEnv hS
    have hdn : d < n := hn o (List.mem_of_getElem? ho') d hd
    have hfr := wpOp_frame (Q := Q) (i := i) (by simpa using ho') hd hsel hrun (by rw [hsz]; exact hdn) hdf
    refine wpOp_mono (fun a' w' h => ?_) hfr
    obtain ⟨v, H, rfl, hgh, hok, hS'⟩ := h
    refine ih _ _ _ (by have := cntF_set hun; omega) ⟨by simp [inv.size], fun j q hj hlj e he => ?_, H, Fz.tr hg hgh, hS', hdf, by simp [Act.put, hsz], fun j q d' s' hj hd' hs' hlj => ?_, fun t s' hl hno => ?_⟩
    · by_cases hji : i = j
      · subst hji
        rw [ho'] at hj; cases hj
        exact getD_set_true (hlist e he)
      · rw [getD_set_ne false hji] at hlj
        exact getD_set_true (inv.closed j q hj hlj e he)
    · by_cases hji : i = j
      · subst hji
        rw [ho'] at hj; cases hj
        rw [hd] at hd'; cases hd'
        rw [hsi] at hs'; cases hs'
        exact ⟨v, by simp only [Act.put]; rw [Array.getElem?_setIfInBounds_self_of_lt (by rw [hsz]; exact hdn)], hok⟩
      · rw [getD_set_ne false hji] at hlj
        obtain ⟨u, hu, ho2⟩ := hA j q d' s' hj hd' hs' hlj
        refine ⟨u, ?_, SV.ok_mono hgh ho2⟩
        have hne : d ≠ d' := fun e => by
          subst e
          have hjl : j < l.length := (List.getElem?_eq_some_iff.1 hj).1
          exact hji (nodup_idx hnd ho' hj hd hd')
        simp only [Act.put]; rw [Array.getElem?_setIfInBounds_ne hne]; exact hu
    · have hne : d ≠ t := fun e => by
        subst e
        refine hno i o ho' ?_ hd
        have hlt : i < listed.size := by have := inv.size; omega
        simp [hlt]
      obtain ⟨u, hu, ho2⟩ := hB' t s' hl (fun j q hj hlj => hno j q hj (getD_set_true hlj))
      exact ⟨u, by simp only [Act.put]; rw [Array.getElem?_setIfInBounds_ne hne]; exact hu, SV.ok_mono hgh ho2⟩

/-- A region of any order whose operations only add memory. -/
theorem Under.drawz {id : Nat} {l : List Oper} (p : List (List Nat)) (Z : List (Nat × SV)) (hm : P.follows .mixedOrders = true) (hB : zB l p = true) (hn : l.all (fun o => match o.dst with | some d => Nat.blt d n | none => true) = true)
    (kk : Under F0 n (Z ++ E) L (Q .normal))
    (k : Under F0 n (Z ++ E) L (Q .normal) → ∀ F, F0 ≤ F → seqZ P n L l.toArray F (fun E' => Under F n E' L (Q .normal)) p l E) : Under F0 n E L ((Code.region id l.toArray true).wp P Q) := fun F a w h0 hE hS => by
  obtain ⟨sv, e1, e2, e3, e4⟩ := seqZ_out (k kk F h0)
  refine wp_region_any hm (region_z hB e1 e2 (fun o ho d hd => ?_) e4 (fun G a w hg hE' hS' => e3 G a w hg hE' hS') _ _ _ _ ?_ ?_)
  · have := List.all_eq_true.1 hn o ho
    rw [hd] at this; simpa [Nat.blt_eq] using this
  · simp only [cntF]; exact Nat.le_trans (List.length_filter_le _ _) (by simp)
  · refine ⟨by simp, fun j o hj hl => ?_, F, Fz.rf F, StG.drew hS, hE.defers, hE.size, fun j o d s _ _ _ hl => ?_, fun t s hl _ => hE.at_ t s hl⟩
    · have : (Array.replicate l.toArray.size false).getD j false = false := by
        exact getD_rep l.toArray.size j
      rw [this] at hl; cases hl
    · have : (Array.replicate l.toArray.size false).getD j false = false := by
        exact getD_rep l.toArray.size j
      rw [this] at hl; cases hl
theorem Zq.fin (m : Nat) {F : Fz} {E1 Z : List (Nat × SV)} {X : Act → World → Prop} (h0 : F0 ≤ F) (hz : SubZ E1 Z) (hj : noneB (E1.take m) Z (E1.drop m) = true) (k : Under F0 n (Z ++ E1.drop m) L X) : Under F n E1 L X :=
  fun G a w h hE hS => Under.fin m hz hj k G a w (Fz.tr h0 h) hE hS
theorem Under.fi2 {r0 r1 r2 : Res} {X : Act → World → Prop} (k : Under F0 n E (r1 :: r2 :: r0 :: L) X) : Under F0 n E (r0 :: r1 :: r2 :: L) X := Under.perm ((List.Perm.swap _ _ _).trans (List.Perm.cons _ (List.Perm.swap _ _ _))) k
end
end Go.Sim

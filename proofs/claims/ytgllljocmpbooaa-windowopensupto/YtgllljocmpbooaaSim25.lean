/- Sim25: regions of any order, in phases: a group that adds memory, some of it owned. -/
import Derived.Test.YtgllljocmpbooaaSim24
set_option linter.unusedVariables false
set_option linter.unusedSimpArgs false
namespace Go.Sim
open Go

/-- What an operation of a group gives: a value; a variable of the call's own (how it reads at first, and behind the store that sets it, which is number q of the group); that store. -/
inductive It : Type 1 where
  | v (s : SV)
  | v1 (k : Nat) (s : Value → SV)
  | al (sv : Value → SV) (r0 r1 : Value → Res) (q : Option Nat)
  | st (k : Nat)
  | sx (e : Nat)
def bptr (b : Nat) : SV := .raw (.pointer (some ⟨b, 0, none⟩))
def svA : List It → (Nat → Value) → Nat → List SV
  | [], _, _ => []
  | .v s :: r, bs, j => s :: svA r bs (j + 1)
  | .v1 k s :: r, bs, j => s (bs k) :: svA r bs (j + 1)
  | .al sv _ _ _ :: r, bs, j => sv (bs j) :: svA r bs (j + 1)
  | .st _ :: r, bs, j => .raw undef :: svA r bs (j + 1)
  | .sx _ :: r, bs, j => .raw undef :: svA r bs (j + 1)
def posA : List It → Nat → List Nat
  | [], _ => []
  | .al _ _ _ _ :: r, j => j :: posA r (j + 1)
  | .v _ :: r, j => posA r (j + 1)
  | .v1 _ _ :: r, j => posA r (j + 1)
  | .st _ :: r, j => posA r (j + 1)
  | .sx _ :: r, j => posA r (j + 1)
/-- How a variable of the group reads behind it. -/
def raE (it : It) (b : Value) : Res := match it with
  | .al _ r0 _ none => r0 b
  | .al _ _ r1 (some _) => r1 b
  | _ => .any fun _ => False
def resA : List It → (Nat → Value) → Nat → List Res
  | [], _, _ => []
  | .al sv r0 r1 q :: r, bs, j => raE (.al sv r0 r1 q) (bs j) :: resA r bs (j + 1)
  | .v _ :: r, bs, j => resA r bs (j + 1)
  | .v1 _ _ :: r, bs, j => resA r bs (j + 1)
  | .st _ :: r, bs, j => resA r bs (j + 1)
  | .sx _ :: r, bs, j => resA r bs (j + 1)
/-- How it reads now. -/
def raC (its : List It) (g : List Nat) (listed : Array Bool) (k : Nat) (b : Value) : Res := match its[k]? with
  | some (.al _ r0 r1 (some q)) => if listed.getD (g.getD q 0) false then r1 b else r0 b
  | some (.al _ r0 _ none) => r0 b
  | _ => .any fun _ => False
/-- What was owned before and is stored into by one operation of the group: how it reads before it, behind it, its number. -/
abbrev Xs := List (Res × Res × Nat)
def xsC (xs : Xs) (g : List Nat) (listed : Array Bool) : List Res := xs.map fun x => if listed.getD (g.getD x.2.2 0) false then x.2.1 else x.1
def accE2 : List Oper → List SV → List (Nat × SV) → List (Nat × SV)
  | o :: l, s :: sv, E => match o.dst with
    | some d => accE2 l sv ((d, s) :: E)
    | none => accE2 l sv E
  | _, _, E => E
def PostS (G : Fz) (L : List Res) : Act → World → Prop := fun a w => ∃ H, G ≤ H ∧ St H w L ∧ a.defers = []
/-- An operation that yields a value and something owned, both told by one hidden value. -/
def PostA (G : Fz) (n : Nat) (L : List Res) (d : Nat) (sv : Value → SV) (r0 : Value → Res) : Act → World → Prop := fun a w => ∃ H v, G ≤ H ∧ Env H a n [(d, sv v)] ∧ St H w (r0 v :: L)
/-- The operations one behind the other; A: what has been allocated: its number, how it reads at first and at last. -/
def seqA (P : Program) (n : Nat) (xs : Xs) (Lf : List Res → List Res) (ops : Array Oper) (F0 : Fz) (bs : Nat → Value) (K : List (Nat × SV) → List Res → Prop) : Nat → List It → List (List Nat) → List Oper → List (Nat × SV) → List (Nat × Res × Res) → List Res → Prop
  | j, .v s :: its, us :: p, o :: l, E, A, B => ∃ d, o.dst = some d ∧ (∀ G T, F0 ≤ G → Under G n (keepE us E) (Lf T) (wpList P ops (Exit.then (PostZ G n (Lf T) d s) QF) [o])) ∧ seqA P n xs Lf ops F0 bs K (j + 1) its p l ((d, s) :: E) A B
  | j, .al sv r0 r1 q :: its, us :: p, o :: l, E, A, B => ∃ d, o.dst = some d ∧ (∀ G T, F0 ≤ G → Under G n (keepE us E) (Lf T) (wpList P ops (Exit.then (PostA G n (Lf T) d sv r0) QF) [o])) ∧ seqA P n xs Lf ops F0 bs K (j + 1) its p l ((d, sv (bs j)) :: E) ((j, r0 (bs j), r1 (bs j)) :: A) (B ++ [raE (.al sv r0 r1 q) (bs j)])
  | j, .v1 k s :: its, us :: p, o :: l, E, A, B => ∃ d, o.dst = some d ∧ (∀ G T, F0 ≤ G → Under G n (keepE us E) (Lf T) (wpList P ops (Exit.then (PostZ G n (Lf T) d (s (bs k))) QF) [o])) ∧ seqA P n xs Lf ops F0 bs K (j + 1) its p l ((d, s (bs k)) :: E) A B
  | j, .st k :: its, us :: p, o :: l, E, A, B => o.dst = none ∧ (∃ ra rb, (k, ra, rb) ∈ A ∧ ∀ G T, F0 ≤ G → Under G n (keepE us E) (ra :: Lf T) (wpList P ops (Exit.then (PostS G (rb :: Lf T)) QF) [o])) ∧ seqA P n xs Lf ops F0 bs K (j + 1) its p l E A B
  | j, .sx e :: its, us :: p, o :: l, E, A, B => o.dst = none ∧ (∃ ra rb, xs[e]? = some (ra, rb, j) ∧ ∀ G T, F0 ≤ G → Under G n (keepE us E) (ra :: Lf T) (wpList P ops (Exit.then (PostS G (rb :: Lf T)) QF) [o])) ∧ seqA P n xs Lf ops F0 bs K (j + 1) its p l E A B
  | _, [], [], [], E, A, B => K E B
  | _, _, _, _, _, _, _ => False
/-- The check of a group. -/
def useB2 (R : List (List Nat)) (g : List Nat) (lg : List Oper) (k t : Nat) : Bool :=
  (List.range g.length).all fun q => match lg[q]? with
    | some o => (match o.dst with
      | some d => !(Nat.beq d t) || (cond (Nat.blt q k) (memN (g.getD q 0) (R.getD (g.getD k 0) [])) (cond (Nat.beq q k) true (memN (g.getD k 0) (R.getD (g.getD q 0) []))))
      | none => true)
    | none => true
def groupB2 (l : List Oper) (D g : List Nat) (p : List (List Nat)) : Bool :=
  g.all (fun i => Nat.blt i l.length) && g.all (fun i => !memN i D) && nodupN g && nodupN ((pick l g).filterMap (·.dst)) &&
  (List.range l.length).all (fun j => memN j D || memN j g || g.all (fun i => memN i ((reachZ l []).getD j []))) &&
  (List.range g.length).all fun k => match (pick l g)[k]?, p[k]? with
    | some o, some us => !isSel o.op && (afters o).all (fun e => Nat.blt e l.length && (memN e D || memN e (g.take k))) && us.all (fun t => useB2 (reachZ l []) g (pick l g) k t)
    | _, _ => false
/-- Stores and what they set belong together. -/
def itsB (l : List Oper) (g : List Nat) (ps : List (Nat × Nat)) : Bool := ps.all fun (k, q) => Nat.blt k g.length && Nat.blt q g.length && memN (g.getD k 0) ((reachZ l []).getD (g.getD q 0) [])
/-- Values that hang on a hidden one are told behind it. -/
def depB (l : List Oper) (g : List Nat) : List It → Nat → Bool
  | [], _ => true
  | .v1 k _ :: r, j => Nat.blt k g.length && Nat.blt j g.length && memN (g.getD k 0) ((reachZ l []).getD (g.getD j 0) []) && depB l g r (j + 1)
  | .v _ :: r, j => depB l g r (j + 1)
  | .al _ _ _ _ :: r, j => depB l g r (j + 1)
  | .st _ :: r, j => depB l g r (j + 1)
  | .sx _ :: r, j => depB l g r (j + 1)
theorem depB_spec {l : List Oper} {g : List Nat} : ∀ {its : List It} {j : Nat}, depB l g its j = true → ∀ (q k : Nat) (s : Value → SV), its[q]? = some (It.v1 k s) → k < g.length ∧ g.getD k 0 ∈ ((reachZ l [])[g.getD (j + q) 0]?).getD []
  | [], _, _, q, k, s, h => by simp at h
  | it :: r, j, hd, 0, k, s, h => by
    simp at h; subst h
    simp only [depB, Bool.and_eq_true, Nat.blt_eq] at hd
    exact ⟨hd.1.1.1, by have := memN_iff.1 hd.1.2; simpa [List.getD] using this⟩
  | it :: r, j, hd, q + 1, k, s, h => by
    have hd2 : depB l g r (j + 1) = true := by
      cases it <;> simp only [depB, Bool.and_eq_true] at hd <;> first | exact hd | exact hd.2
    have := depB_spec hd2 q k s (by simpa using h)
    rw [show j + (q + 1) = j + 1 + q by omega]; exact this
/-- The stores' numbers, as the items tell them. -/
structure ItsOk (its : List It) (ps : List (Nat × Nat)) (xs : Xs) (m : Nat) : Prop where
  hx : ∀ (e : Nat) (r0 r1 : Res) (q : Nat), xs[e]? = some (r0, r1, q) → its[q]? = some (It.sx e) ∧ q < m
  hal : ∀ (k : Nat) (sv : Value → SV) (r0 r1 : Value → Res) (q : Nat), its[k]? = some (It.al sv r0 r1 (some q)) → its[q]? = some (It.st k) ∧ (k, q) ∈ ps
  hst : ∀ (q k : Nat), its[q]? = some (It.st k) → ∃ (sv : Value → SV) (r0 r1 : Value → Res), its[k]? = some (It.al sv r0 r1 (some q))

section
variable {P : Program} {ops : Array Oper} {Q : Exit → Act → World → Prop} {rest : List Oper} {F0 : Fz} {n : Nat} {E : List (Nat × SV)} {L : List Res}
variable {d : Nat} {op : Op} {ty : TypeId} {pos : String} {aft : Array Edge} {s : SV} {Lf : List Res → List Res} {xs : Xs}

theorem groupB2_spec {l : List Oper} {D g : List Nat} {p : List (List Nat)} (h : groupB2 l D g p = true) : GB l D g p := by
  simp only [groupB2, Bool.and_eq_true, List.all_eq_true] at h
  obtain ⟨⟨⟨⟨⟨h1, h2⟩, h3⟩, h4⟩, h5⟩, h6⟩ := h
  have hlt : ∀ i ∈ g, i < l.length := fun i hi => by simpa [Nat.blt_eq] using h1 i hi
  refine ⟨hlt, fun i hi hm => ?_, nodupN_iff h3, nodupN_iff h4, fun j hj => ?_, fun k i hk => ?_⟩
  · have := h2 i hi; rw [memN_iff.2 hm] at this; cases this
  · have := h5 j (List.mem_range.2 hj)
    simp only [Bool.or_eq_true, List.all_eq_true] at this
    rcases this with (h | h) | h
    · exact .inl (memN_iff.1 h)
    · exact .inr (.inl (memN_iff.1 h))
    · exact .inr (.inr fun i hi => by have := memN_iff.1 (h i hi); simpa [List.getD] using this)
  · have hkl : k < g.length := (List.getElem?_eq_some_iff.1 hk).1
    have hil : i < l.length := hlt i (List.mem_of_getElem? hk)
    have hpk := pick_get hlt k i hk
    have ho : l[i]? = some l[i] := by simp [hil]
    have h7 := h6 k (List.mem_range.2 hkl)
    rw [hpk, ho] at h7
    cases hp : p[k]? with
    | none => rw [hp] at h7; cases h7
    | some us =>
      rw [hp] at h7
      simp only [Bool.and_eq_true, List.all_eq_true, Bool.not_eq_true'] at h7
      refine ⟨l[i], us, ho, by rw [hpk, ho], rfl, h7.1.1, fun e he => ?_, fun t ht q j o' hq hj hd => ?_⟩
      · have := h7.1.2 e he
        simp only [Bool.and_eq_true, Bool.or_eq_true, Nat.blt_eq] at this
        exact ⟨this.1, this.2.imp memN_iff.1 memN_iff.1⟩
      · have h8 := h7.2 t ht
        simp only [useB2, List.all_eq_true] at h8
        have hql : q < g.length := (List.getElem?_eq_some_iff.1 hq).1
        have h9 := h8 q (List.mem_range.2 hql)
        rw [pick_get hlt q j hq, hj] at h9
        have gk : g.getD k 0 = i := by simp [List.getD, hk]
        have gq : g.getD q 0 = j := by simp [List.getD, hq]
        simp only [hd, Nat.beq_refl, Bool.not_true, Bool.false_or, gk, gq] at h9
        constructor
        · intro hlt2
          have : Nat.blt q k = true := by simpa [Nat.blt_eq] using hlt2
          rw [this, cond_true] at h9
          simpa [List.getD] using memN_iff.1 h9
        · intro hlt2
          have hb : Nat.blt q k = false := by
            cases hb : Nat.blt q k with
            | false => rfl
            | true => have : q < k := by simpa [Nat.blt_eq] using hb
                      omega
          have hne : Nat.beq q k = false := by
            cases hb : Nat.beq q k with
            | false => rfl
            | true => have := Nat.eq_of_beq_eq_true hb; omega
          rw [hb, cond_false, hne, cond_false] at h9
          simpa [List.getD] using memN_iff.1 h9
theorem svA_len : ∀ {its : List It} {bs : Nat → Value} {j : Nat}, (svA its bs j).length = its.length
  | [], _, _ => rfl
  | it :: r, bs, j => by cases it <;> simp [svA, svA_len (its := r)]
theorem svA_get : ∀ {its : List It} {bs : Nat → Value} {j k : Nat} {it : It}, its[k]? = some it → (svA its bs j)[k]? = some (match it with | .v s => s | .v1 k' s => s (bs k') | .al sv _ _ _ => sv (bs (j + k)) | .st _ => .raw undef | .sx _ => .raw undef)
  | [], _, _, _, _, h => by simp at h
  | it0 :: r, bs, j, 0, it, h => by simp at h; subst h; cases it0 <;> simp [svA]
  | it0 :: r, bs, j, k + 1, it, h => by
    rw [show j + (k + 1) = j + 1 + k by omega]
    have := svA_get (its := r) (bs := bs) (j := j + 1) (k := k) (it := it) (by simpa using h)
    cases it0 <;> simpa [svA] using this
theorem posA_mem : ∀ {its : List It} {j k : Nat}, k ∈ posA its j ↔ ∃ q sv r0 r1 o, k = j + q ∧ its[q]? = some (.al sv r0 r1 o)
  | [], j, k => by simp [posA]
  | it :: r, j, k => by
    have ih := posA_mem (its := r) (j := j + 1) (k := k)
    have key : (k ∈ posA r (j + 1)) ↔ ∃ q sv r0 r1 o, k = j + (q + 1) ∧ r[q]? = some (.al sv r0 r1 o) := by
      rw [ih]; constructor <;> rintro ⟨q, sv, r0, r1, o, e, h⟩ <;> exact ⟨q, sv, r0, r1, o, by omega, h⟩
    constructor
    · intro h
      cases it with
      | al sv r0 r1 o =>
        rcases List.mem_cons.1 h with rfl | h
        · exact ⟨0, sv, r0, r1, o, rfl, rfl⟩
        · obtain ⟨q, a, b, c, c2, e, h⟩ := key.1 h; exact ⟨q + 1, a, b, c, c2, by omega, by simpa using h⟩
      | v s => obtain ⟨q, a, b, c, c2, e, h⟩ := key.1 h; exact ⟨q + 1, a, b, c, c2, by omega, by simpa using h⟩
      | v1 k' s => obtain ⟨q, a, b, c, c2, e, h⟩ := key.1 h; exact ⟨q + 1, a, b, c, c2, by omega, by simpa using h⟩
      | st q => obtain ⟨q, a, b, c, c2, e, h⟩ := key.1 h; exact ⟨q + 1, a, b, c, c2, by omega, by simpa using h⟩
      | sx q => obtain ⟨q, a, b, c, c2, e, h⟩ := key.1 h; exact ⟨q + 1, a, b, c, c2, by omega, by simpa using h⟩
    · rintro ⟨q, sv, r0, r1, o, e, h⟩
      cases q with
      | zero => simp at h; subst h; subst e; exact List.mem_cons_self
      | succ q =>
        have := key.2 ⟨q, sv, r0, r1, o, by omega, by simpa using h⟩
        cases it <;> simp only [posA] <;> first | exact this | exact List.mem_cons_of_mem _ this
theorem posA_nodup : ∀ {its : List It} {j : Nat}, (posA its j).Nodup
  | [], j => by simp [posA]
  | it :: r, j => by
    cases it with
    | al sv r0 r1 o =>
      rw [posA, List.nodup_cons]
      exact ⟨fun h => by obtain ⟨q, _, _, _, _, e, _⟩ := posA_mem.1 h; omega, posA_nodup⟩
    | v s => exact posA_nodup (its := r)
    | v1 k s => exact posA_nodup (its := r)
    | st k => exact posA_nodup (its := r)
    | sx k => exact posA_nodup (its := r)
theorem resA_eq : ∀ {its pre : List It} {bs : Nat → Value}, resA its bs pre.length = (posA its pre.length).map (fun k => match (pre ++ its)[k]? with | some it => raE it (bs k) | none => .any fun _ => False)
  | [], pre, bs => by simp [resA, posA]
  | it :: r, pre, bs => by
    have := resA_eq (its := r) (pre := pre ++ [it]) (bs := bs)
    simp only [List.length_append, List.length_cons, List.length_nil, Nat.zero_add, List.append_assoc, List.cons_append, List.nil_append] at this
    cases it with
    | al sv r0 r1 o =>
      simp only [resA, posA, List.map_cons, List.cons.injEq]
      exact ⟨by simp, this⟩
    | v s => simpa [resA, posA] using this
    | v1 k s => simpa [resA, posA] using this
    | st k => simpa [resA, posA] using this
    | sx k => simpa [resA, posA] using this
theorem accE2_other {t : Nat} : ∀ {l : List Oper} {sv : List SV} {E : List (Nat × SV)}, (∀ o ∈ l, o.dst ≠ some t) → look (accE2 l sv E) t = look E t
  | [], sv, E, _ => by simp [accE2]
  | o :: l, [], E, _ => by simp [accE2]
  | o :: l, s :: sv, E, h => by
    have ih := fun E' => accE2_other (t := t) (l := l) (sv := sv) (E := E') (fun q hq => h q (by simp [hq]))
    have ho := h o (by simp)
    rw [accE2]
    cases hd : o.dst with
    | none => exact ih E
    | some d =>
      simp only []
      rw [ih, look_cons, if_neg]
      intro e; rw [hd] at ho; exact ho (by rw [e])
theorem accE2_at {t : Nat} {s : SV} : ∀ {l : List Oper} {sv : List SV} {E : List (Nat × SV)} {j : Nat} {o : Oper}, (l.filterMap (·.dst)).Nodup → l[j]? = some o → o.dst = some t → sv[j]? = some s → look (accE2 l sv E) t = some s
  | [], sv, E, j, o, _, hj, _, _ => by simp at hj
  | q :: l, [], E, j, o, _, _, _, hs => by simp at hs
  | q :: l, s0 :: sv, E, j, o, hn, hj, ht, hs => by
    cases j with
    | zero =>
      simp at hj hs; subst hj; subst hs
      rw [List.filterMap_cons_some ht, List.nodup_cons] at hn
      rw [accE2, ht]
      simp only []
      rw [accE2_other (fun x hx e => hn.1 (List.mem_filterMap.2 ⟨x, hx, e⟩)), look_cons]; simp
    | succ j =>
      have hn2 : (l.filterMap (·.dst)).Nodup := hn.sublist ((List.sublist_cons_self q l).filterMap _)
      rw [accE2]
      cases hd : q.dst <;> exact accE2_at hn2 (by simpa using hj) ht (by simpa using hs)
theorem seqA_out {K : List (Nat × SV) → List Res → Prop} (full : List It) {bs : Nat → Value} : ∀ {its : List It} {p : List (List Nat)} {l : List Oper} {E : List (Nat × SV)} {A : List (Nat × Res × Res)} {B : List Res} {j : Nat}, seqA P n xs Lf ops F0 bs K j its p l E A B →
    (∀ k ra rb, (k, ra, rb) ∈ A → ∃ sv r0 r1 q, full[k]? = some (.al sv r0 r1 q) ∧ ra = r0 (bs k) ∧ rb = r1 (bs k)) → (∀ k, its[k]? = full[j + k]?) →
    its.length = l.length ∧ (∀ (k : Nat) o it, l[k]? = some o → its[k]? = some it → match it with | .st _ => o.dst = none | .sx _ => o.dst = none | _ => ∃ d, o.dst = some d) ∧ (∀ (i : Nat) o us sv r0 r1 q d, l[i]? = some o → p[i]? = some us → its[i]? = some (.al sv r0 r1 q) → o.dst = some d → ∀ G T, F0 ≤ G → Under G n (keepE us (accE2 (l.take i) ((svA its bs j).take i) E)) (Lf T) (wpList P ops (Exit.then (PostA G n (Lf T) d sv r0) QF) [o])) ∧ K (accE2 l (svA its bs j) E) (B ++ resA its bs j) ∧
    (∀ (i : Nat) o us s d, l[i]? = some o → p[i]? = some us → its[i]? = some (.v s) → o.dst = some d → ∀ G T, F0 ≤ G → Under G n (keepE us (accE2 (l.take i) ((svA its bs j).take i) E)) (Lf T) (wpList P ops (Exit.then (PostZ G n (Lf T) d s) QF) [o])) ∧
    (∀ (i : Nat) o us k, l[i]? = some o → p[i]? = some us → its[i]? = some (.st k) → ∃ sv r0 r1 q, full[k]? = some (.al sv r0 r1 q) ∧ ∀ G T, F0 ≤ G → Under G n (keepE us (accE2 (l.take i) ((svA its bs j).take i) E)) (r0 (bs k) :: Lf T) (wpList P ops (Exit.then (PostS G (r1 (bs k) :: Lf T)) QF) [o])) ∧
    (∀ (i : Nat) o us k s d, l[i]? = some o → p[i]? = some us → its[i]? = some (.v1 k s) → o.dst = some d → ∀ G T, F0 ≤ G → Under G n (keepE us (accE2 (l.take i) ((svA its bs j).take i) E)) (Lf T) (wpList P ops (Exit.then (PostZ G n (Lf T) d (s (bs k))) QF) [o])) ∧
    ∀ (i : Nat) o us e, l[i]? = some o → p[i]? = some us → its[i]? = some (.sx e) → ∃ ra rb, xs[e]? = some (ra, rb, j + i) ∧ ∀ G T, F0 ≤ G → Under G n (keepE us (accE2 (l.take i) ((svA its bs j).take i) E)) (ra :: Lf T) (wpList P ops (Exit.then (PostS G (rb :: Lf T)) QF) [o])
  | [], [], [], E, A, B, j, h, _, _ => ⟨rfl, fun k o it hk => by simp at hk, fun i o us sv r0 r1 q d hi => by simp at hi, by simpa [accE2, svA, resA, seqA] using h, fun i o us s d hi => by simp at hi, fun i o us k hi => by simp at hi, fun i o us k s d hi => by simp at hi, fun i o us e hi => by simp at hi⟩
  | .v s :: its, us :: p, o :: l, E, A, B, j, h, hA, hf => by
    obtain ⟨d, hd, h1, h2⟩ := h
    obtain ⟨e1, e2, e3, e4, e5, e6, e8, e7⟩ := seqA_out full h2 hA (fun k => by have := hf (k + 1); rw [show j + (k + 1) = j + 1 + k by omega] at this; simpa using this)
    refine ⟨by simp [e1], fun k q it hk hi => ?_, fun i q us' sv r0 r1 qq d' hi hp hs hd' => ?_, by simpa [svA, accE2, hd, resA] using e4, fun i q us' s' d' hi hp hs hd' => ?_, fun i q us' k hi hp hs => ?_, fun i q us' k s' d' hi hp hs hd' => ?_, fun i q us' k hi hp hs => ?_⟩
    · cases k with
      | zero => simp at hk hi; subst hk; subst hi; exact ⟨d, hd⟩
      | succ k => exact e2 k q it (by simpa using hk) (by simpa using hi)
    · cases i with
      | zero => simp at hs
      | succ i => have := e3 i q us' sv r0 r1 qq d' (by simpa using hi) (by simpa using hp) (by simpa using hs) hd'; simpa [svA, accE2, hd] using this
    · cases i with
      | zero =>
        simp at hi hp hs; subst hi; subst hp; subst hs
        rw [hd] at hd'; cases hd'
        simpa [accE2] using h1
      | succ i => have := e5 i q us' s' d' (by simpa using hi) (by simpa using hp) (by simpa using hs) hd'; simpa [svA, accE2, hd] using this
    · cases i with
      | zero => simp at hs
      | succ i => have := e6 i q us' k (by simpa using hi) (by simpa using hp) (by simpa using hs); simpa [svA, accE2, hd] using this
    · cases i with
      | zero => simp at hs
      | succ i => have := e8 i q us' k s' d' (by simpa using hi) (by simpa using hp) (by simpa using hs) hd'; simpa [svA, accE2, hd] using this
    · cases i with
      | zero => simp at hs
      | succ i => have := e7 i q us' k (by simpa using hi) (by simpa using hp) (by simpa using hs); rw [show j + (i + 1) = j + 1 + i by omega]; simpa [svA, accE2, hd] using this
  | .v1 k1 s :: its, us :: p, o :: l, E, A, B, j, h, hA, hf => by
    obtain ⟨d, hd, h1, h2⟩ := h
    obtain ⟨e1, e2, e3, e4, e5, e6, e8, e7⟩ := seqA_out full h2 hA (fun k => by have := hf (k + 1); rw [show j + (k + 1) = j + 1 + k by omega] at this; simpa using this)
    refine ⟨by simp [e1], fun k q it hk hi => ?_, fun i q us' sv r0 r1 qq d' hi hp hs hd' => ?_, by simpa [svA, accE2, hd, resA] using e4, fun i q us' s' d' hi hp hs hd' => ?_, fun i q us' k hi hp hs => ?_, fun i q us' k s' d' hi hp hs hd' => ?_, fun i q us' k hi hp hs => ?_⟩
    · cases k with
      | zero => simp at hk hi; subst hk; subst hi; exact ⟨d, hd⟩
      | succ k => exact e2 k q it (by simpa using hk) (by simpa using hi)
    · cases i with
      | zero => simp at hs
      | succ i => have := e3 i q us' sv r0 r1 qq d' (by simpa using hi) (by simpa using hp) (by simpa using hs) hd'; simpa [svA, accE2, hd] using this
    · cases i with
      | zero => simp at hs
      | succ i => have := e5 i q us' s' d' (by simpa using hi) (by simpa using hp) (by simpa using hs) hd'; simpa [svA, accE2, hd] using this
    · cases i with
      | zero => simp at hs
      | succ i => have := e6 i q us' k (by simpa using hi) (by simpa using hp) (by simpa using hs); simpa [svA, accE2, hd] using this
    · cases i with
      | zero =>
        simp at hi hp hs; subst hi; subst hp; obtain ⟨rfl, rfl⟩ := hs
        rw [hd] at hd'; cases hd'
        simpa [accE2] using h1
      | succ i => have := e8 i q us' k s' d' (by simpa using hi) (by simpa using hp) (by simpa using hs) hd'; simpa [svA, accE2, hd] using this
    · cases i with
      | zero => simp at hs
      | succ i => have := e7 i q us' k (by simpa using hi) (by simpa using hp) (by simpa using hs); rw [show j + (i + 1) = j + 1 + i by omega]; simpa [svA, accE2, hd] using this
  | .al sv0 r0 r1 qq :: its, us :: p, o :: l, E, A, B, j, h, hA, hf => by
    obtain ⟨d, hd, h1, h2⟩ := h
    have hself : full[j]? = some (.al sv0 r0 r1 qq) := by have := hf 0; simpa using this.symm
    obtain ⟨e1, e2, e3, e4, e5, e6, e8, e7⟩ := seqA_out full h2 (fun k ra rb hm => by
      rcases List.mem_cons.1 hm with e | hm
      · cases e; exact ⟨sv0, r0, r1, qq, hself, rfl, rfl⟩
      · exact hA k ra rb hm) (fun k => by have := hf (k + 1); rw [show j + (k + 1) = j + 1 + k by omega] at this; simpa using this)
    refine ⟨by simp [e1], fun k q it hk hi => ?_, fun i q us' sv a b c d' hi hp hs hd' => ?_, by simpa [svA, accE2, hd, resA] using e4, fun i q us' s' d' hi hp hs hd' => ?_, fun i q us' k hi hp hs => ?_, fun i q us' k s' d' hi hp hs hd' => ?_, fun i q us' k hi hp hs => ?_⟩
    · cases k with
      | zero => simp at hk hi; subst hk; subst hi; exact ⟨d, hd⟩
      | succ k => exact e2 k q it (by simpa using hk) (by simpa using hi)
    · cases i with
      | zero =>
        simp at hi hp hs; subst hi; subst hp; obtain ⟨rfl, rfl, rfl, rfl⟩ := hs
        rw [hd] at hd'; cases hd'
        simpa [accE2] using h1
      | succ i => have := e3 i q us' sv a b c d' (by simpa using hi) (by simpa using hp) (by simpa using hs) hd'; simpa [svA, accE2, hd] using this
    · cases i with
      | zero => simp at hs
      | succ i => have := e5 i q us' s' d' (by simpa using hi) (by simpa using hp) (by simpa using hs) hd'; simpa [svA, accE2, hd] using this
    · cases i with
      | zero => simp at hs
      | succ i => have := e6 i q us' k (by simpa using hi) (by simpa using hp) (by simpa using hs); simpa [svA, accE2, hd] using this
    · cases i with
      | zero => simp at hs
      | succ i => have := e8 i q us' k s' d' (by simpa using hi) (by simpa using hp) (by simpa using hs) hd'; simpa [svA, accE2, hd] using this
    · cases i with
      | zero => simp at hs
      | succ i => have := e7 i q us' k (by simpa using hi) (by simpa using hp) (by simpa using hs); rw [show j + (i + 1) = j + 1 + i by omega]; simpa [svA, accE2, hd] using this
  | .st k0 :: its, us :: p, o :: l, E, A, B, j, h, hA, hf => by
    obtain ⟨hd, ⟨ra, rb, hm, h1⟩, h2⟩ := h
    obtain ⟨e1, e2, e3, e4, e5, e6, e8, e7⟩ := seqA_out full h2 hA (fun k => by have := hf (k + 1); rw [show j + (k + 1) = j + 1 + k by omega] at this; simpa using this)
    refine ⟨by simp [e1], fun k q it hk hi => ?_, fun i q us' sv a b c d' hi hp hs hd' => ?_, by simpa [svA, accE2, hd, resA] using e4, fun i q us' s' d' hi hp hs hd' => ?_, fun i q us' k hi hp hs => ?_, fun i q us' k s' d' hi hp hs hd' => ?_, fun i q us' k hi hp hs => ?_⟩
    · cases k with
      | zero => simp at hk hi; subst hk; subst hi; exact hd
      | succ k => exact e2 k q it (by simpa using hk) (by simpa using hi)
    · cases i with
      | zero => simp at hs
      | succ i => have := e3 i q us' sv a b c d' (by simpa using hi) (by simpa using hp) (by simpa using hs) hd'; simpa [svA, accE2, hd] using this
    · cases i with
      | zero => simp at hs
      | succ i => have := e5 i q us' s' d' (by simpa using hi) (by simpa using hp) (by simpa using hs) hd'; simpa [svA, accE2, hd] using this
    · cases i with
      | zero =>
        simp at hi hp hs; subst hi; subst hp; subst hs
        obtain ⟨sv, r0, r1, q, e, rfl, rfl⟩ := hA _ _ _ hm
        exact ⟨sv, r0, r1, q, e, by simpa [accE2] using h1⟩
      | succ i => have := e6 i q us' k (by simpa using hi) (by simpa using hp) (by simpa using hs); simpa [svA, accE2, hd] using this
    · cases i with
      | zero => simp at hs
      | succ i => have := e8 i q us' k s' d' (by simpa using hi) (by simpa using hp) (by simpa using hs) hd'; simpa [svA, accE2, hd] using this
    · cases i with
      | zero => simp at hs
      | succ i => have := e7 i q us' k (by simpa using hi) (by simpa using hp) (by simpa using hs); rw [show j + (i + 1) = j + 1 + i by omega]; simpa [svA, accE2, hd] using this
  | .sx e0 :: its, us :: p, o :: l, E, A, B, j, h, hA, hf => by
    obtain ⟨hd, ⟨ra, rb, hm, h1⟩, h2⟩ := h
    obtain ⟨e1, e2, e3, e4, e5, e6, e8, e7⟩ := seqA_out full h2 hA (fun k => by have := hf (k + 1); rw [show j + (k + 1) = j + 1 + k by omega] at this; simpa using this)
    refine ⟨by simp [e1], fun k q it hk hi => ?_, fun i q us' sv a b c d' hi hp hs hd' => ?_, by simpa [svA, accE2, hd, resA] using e4, fun i q us' s' d' hi hp hs hd' => ?_, fun i q us' k hi hp hs => ?_, fun i q us' k s' d' hi hp hs hd' => ?_, fun i q us' k hi hp hs => ?_⟩
    · cases k with
      | zero => simp at hk hi; subst hk; subst hi; exact hd
      | succ k => exact e2 k q it (by simpa using hk) (by simpa using hi)
    · cases i with
      | zero => simp at hs
      | succ i => have := e3 i q us' sv a b c d' (by simpa using hi) (by simpa using hp) (by simpa using hs) hd'; simpa [svA, accE2, hd] using this
    · cases i with
      | zero => simp at hs
      | succ i => have := e5 i q us' s' d' (by simpa using hi) (by simpa using hp) (by simpa using hs) hd'; simpa [svA, accE2, hd] using this
    · cases i with
      | zero =>
        simp at hs
      | succ i => have := e6 i q us' k (by simpa using hi) (by simpa using hp) (by simpa using hs); simpa [svA, accE2, hd] using this
    · cases i with
      | zero => simp at hs
      | succ i => have := e8 i q us' k s' d' (by simpa using hi) (by simpa using hp) (by simpa using hs) hd'; simpa [svA, accE2, hd] using this
    · cases i with
      | zero =>
        simp at hi hp hs; subst hi; subst hp; subst hs
        exact ⟨ra, rb, hm, by simpa [accE2] using h1⟩
      | succ i => have := e7 i q us' k (by simpa using hi) (by simpa using hp) (by simpa using hs); rw [show j + (i + 1) = j + 1 + i by omega]; simpa [svA, accE2, hd] using this
  | [], _ :: _, _, _, _, _, _, h, _, _ => by simp [seqA] at h
  | [], [], _ :: _, _, _, _, _, h, _, _ => by simp [seqA] at h
  | .v _ :: _, [], _, _, _, _, _, h, _, _ => by simp [seqA] at h
  | .v1 _ _ :: _, [], _, _, _, _, _, h, _, _ => by simp [seqA] at h
  | .v1 _ _ :: _, _ :: _, [], _, _, _, _, h, _, _ => by simp [seqA] at h
  | .al _ _ _ _ :: _, [], _, _, _, _, _, h, _, _ => by simp [seqA] at h
  | .st _ :: _, [], _, _, _, _, _, h, _, _ => by simp [seqA] at h
  | .sx _ :: _, [], _, _, _, _, _, h, _, _ => by simp [seqA] at h
  | .v _ :: _, _ :: _, [], _, _, _, _, h, _, _ => by simp [seqA] at h
  | .al _ _ _ _ :: _, _ :: _, [], _, _, _, _, h, _, _ => by simp [seqA] at h
  | .st _ :: _, _ :: _, [], _, _, _, _, h, _, _ => by simp [seqA] at h
  | .sx _ :: _, _ :: _, [], _, _, _, _, h, _, _ => by simp [seqA] at h

structure InvA (F : Fz) (n : Nat) (xs : Xs) (Lf : List Res → List Res) (L0 : List Res) (l : List Oper) (D g : List Nat) (its : List It) (E : List (Nat × SV)) (listed : Array Bool) (a : Act) (w : World) : Prop where
  size : listed.size = l.length
  closed : ∀ j o, l[j]? = some o → listed.getD j false = true → ∀ e ∈ afters o, listed.getD e false = true
  dl : ∀ j ∈ D, j < l.length → listed.getD j false = true
  ex : ∀ j, j < l.length → listed.getD j false = true → j ∈ D ∨ j ∈ g
  st : ∃ G, ∃ bs : Nat → Value, ∃ ks : List Nat, F ≤ G ∧ St G w (Lf (ks.map (fun k => raC its g listed k (bs k)) ++ (xsC xs g listed ++ L0))) ∧ ks.Nodup ∧ (∀ k, k ∈ ks ↔ k ∈ posA its 0 ∧ ∃ i, g[k]? = some i ∧ listed.getD i false = true) ∧ a.defers = [] ∧ a.tmps.size = n ∧
    (∀ (k i : Nat) (o : Oper) (d : Nat) (s : SV), g[k]? = some i → l[i]? = some o → o.dst = some d → (svA its bs 0)[k]? = some s → listed.getD i false = true → ∃ v, a.tmps[d]? = some v ∧ s.ok G v) ∧
    (∀ (t : Nat) (s : SV), look E t = some s → (∀ (i : Nat) (o : Oper), i ∈ g → l[i]? = some o → listed.getD i false = true → o.dst ≠ some t) → ∃ v, a.tmps[t]? = some v ∧ s.ok G v)

theorem lf_perm (hLf : ∀ r T, (r :: Lf T).Perm (Lf (r :: T))) : ∀ (X : List Res) (T : List Res), (X ++ Lf T).Perm (Lf (X ++ T))
  | [], T => List.Perm.refl _
  | r :: X, T => (List.Perm.cons r (lf_perm hLf X T)).trans (hLf r _)
theorem lf_map (hLf : ∀ r T, (r :: Lf T).Perm (Lf (r :: T))) {X Y : List Res} (h : X.Perm Y) (T : List Res) : (Lf (X ++ T)).Perm (Lf (Y ++ T)) := (lf_perm hLf X T).symm.trans ((h.append_right _).trans (lf_perm hLf Y T))
theorem wpOp_frame0 {i : Nat} {o : Oper} {a : Act} {w : World} {L' : List Res} (hi : ops[i]? = some o) (hd : o.dst = none) {G : Fz}
    (h : wpList P ops (Exit.then (PostS G L') QF) [o] a w) : wpOp P ops Q i (fun a' w' => ∃ H, a' = a ∧ G ≤ H ∧ St H w' L') a w := by
  have fin : ∀ w', PostS G L' a w' → ∃ H, a = a ∧ G ≤ H ∧ St H w' L' := fun w' ⟨H, h1, h2, _⟩ => ⟨H, rfl, h1, h2⟩
  unfold wpOp
  simp only [hi]
  unfold wpList at h
  split
  · rename_i hw
    rw [if_pos hw] at h
    refine .inl ?_
    rcases h with h | ⟨_, hlets⟩
    case inr => exact absurd hlets (fun hl => by simp [LetsOut, QF, Exit.then] at hl)
    unfold Oper.wp at *
    generalize (execOp a.eval o).run P w = r at *
    cases r with
    | ok nx w' =>
      cases nx <;> simp only [Oper.upon] at h ⊢
      case value u => rw [hd] at h ⊢; exact fin _ h
      case skip => rw [hd] at h ⊢; exact fin _ h
      case defer dd =>
        rw [hd] at h
        obtain ⟨H, h1, h2, h3⟩ := h
        simp [Act.put] at h3
      case enter f args =>
        refine Calls.mono h fun e w'' he => ?_
        cases e with
        | returned u => rw [hd] at he ⊢; exact fin _ he
        | panicked c => exact he.elim
        | outgrown => obtain ⟨_, _, x⟩ := he; exact x.elim
      case row row args => exact Rows.mono h fun u w'' he => by rw [hd] at he ⊢; exact fin _ he
    | halt x w' =>
      cases x <;> simp only [Oper.upon] at h ⊢ <;> exact h.elim
  · rename_i hw
    rw [if_neg hw] at h
    rw [hd] at h ⊢
    exact fin _ h

theorem wpOp_frameA {i : Nat} {o : Oper} {a : Act} {w : World} {d : Nat} {sv : Value → SV} {r0 : Value → Res} (hi : ops[i]? = some o) (hd : o.dst = some d) (hsel : isSel o.op = false) {G : Fz}
    (h : wpList P ops (Exit.then (PostA G n L d sv r0) QF) [o] a w) (hlt : d < a.tmps.size) (hdef : a.defers = []) :
    wpOp P ops Q i (fun a' w' => ∃ v x H, a' = a.put (some d) v ∧ G ≤ H ∧ (sv x).ok H v ∧ St H w' (r0 x :: L)) a w := by
  have fin : ∀ v w', PostA G n L d sv r0 (a.put (some d) v) w' → ∃ v' x H, a.put (some d) v = a.put (some d) v' ∧ G ≤ H ∧ (sv x).ok H v' ∧ St H w' (r0 x :: L) := fun v w' ⟨H, x, h1, h2, h3⟩ => by
    obtain ⟨u, hu, ho⟩ := h2.at_ d (sv x) (by simp [look])
    simp only [Act.put] at hu
    rw [Array.getElem?_setIfInBounds_self_of_lt hlt] at hu
    cases hu
    exact ⟨_, x, H, rfl, h1, ho, h3⟩
  unfold wpOp
  simp only [hi]
  unfold wpList at h
  split
  · rename_i hw
    rw [if_pos hw] at h
    refine .inl ?_
    rcases h with h | ⟨_, hlets⟩
    case inr => exact absurd hlets (fun hl => by simp [LetsOut, QF, Exit.then] at hl)
    unfold Oper.wp at *
    generalize (execOp a.eval o).run P w = r at *
    cases r with
    | ok nx w' =>
      cases nx <;> simp only [Oper.upon] at h ⊢
      case value u => rw [hd] at h ⊢; exact fin _ _ h
      case skip => rw [hd] at h ⊢; exact fin _ _ h
      case defer dd =>
        rw [hd] at h
        obtain ⟨H, x, h1, h2, h3⟩ := h
        have := h2.defers
        simp [Act.put] at this
      case enter f args =>
        refine Calls.mono h fun e w'' he => ?_
        cases e with
        | returned u => rw [hd] at he ⊢; exact fin _ _ he
        | panicked c => exact he.elim
        | outgrown => obtain ⟨_, _, x⟩ := he; exact x.elim
      case row row args => exact Rows.mono h fun u w'' he => by rw [hd] at he ⊢; exact fin _ _ he
    | halt x w' =>
      cases x <;> simp only [Oper.upon] at h ⊢ <;> exact h.elim
  · rename_i hw
    rw [if_neg hw] at h
    rw [hd] at h ⊢
    exact fin _ _ h


set_option maxHeartbeats 1600000 in
theorem region_a {l : List Oper} {D g : List Nat} {p : List (List Nat)} {its : List It} {ps : List (Nat × Nat)} {F : Fz} {L0 : List Res} (hLf : ∀ r T, (r :: Lf T).Perm (Lf (r :: T))) (hB : GB l D g p) (hits : its.length = (pick l g).length) (hio : ItsOk its ps xs g.length) (hps : itsB l g ps = true)
    (hds : ∀ (k : Nat) o it, (pick l g)[k]? = some o → its[k]? = some it → match it with | .st _ => o.dst = none | .sx _ => o.dst = none | _ => ∃ d, o.dst = some d)
    (hn : ∀ o ∈ pick l g, ∀ d, o.dst = some d → d < n) (hal : ∀ (bs : Nat → Value) (k : Nat) o us sv r0 r1 q d, (pick l g)[k]? = some o → p[k]? = some us → its[k]? = some (.al sv r0 r1 q) → o.dst = some d → ∀ G T, F ≤ G → Under G n (keepE us (accE2 ((pick l g).take k) ((svA its bs 0).take k) E)) (Lf T) (wpList P l.toArray (Exit.then (PostA G n (Lf T) d sv r0) QF) [o]))
    (hstep : ∀ (bs : Nat → Value) (k : Nat) o us s d, (pick l g)[k]? = some o → p[k]? = some us → its[k]? = some (.v s) → o.dst = some d → ∀ G T, F ≤ G → Under G n (keepE us (accE2 ((pick l g).take k) ((svA its bs 0).take k) E)) (Lf T) (wpList P l.toArray (Exit.then (PostZ G n (Lf T) d s) QF) [o]))
    (hstore : ∀ (bs : Nat → Value) (q : Nat) o us k, (pick l g)[q]? = some o → p[q]? = some us → its[q]? = some (.st k) → ∃ sv r0 r1 qq, its[k]? = some (.al sv r0 r1 qq) ∧ ∀ G T, F ≤ G → Under G n (keepE us (accE2 ((pick l g).take q) ((svA its bs 0).take q) E)) (r0 (bs k) :: Lf T) (wpList P l.toArray (Exit.then (PostS G (r1 (bs k) :: Lf T)) QF) [o]))
    (hstx : ∀ (bs : Nat → Value) (q : Nat) o us e, (pick l g)[q]? = some o → p[q]? = some us → its[q]? = some (.sx e) → ∃ ra rb, xs[e]? = some (ra, rb, 0 + q) ∧ ∀ G T, F ≤ G → Under G n (keepE us (accE2 ((pick l g).take q) ((svA its bs 0).take q) E)) (ra :: Lf T) (wpList P l.toArray (Exit.then (PostS G (rb :: Lf T)) QF) [o]))
    (hstep1 : ∀ (bs : Nat → Value) (k : Nat) o us k1 s d, (pick l g)[k]? = some o → p[k]? = some us → its[k]? = some (.v1 k1 s) → o.dst = some d → ∀ G T, F ≤ G → Under G n (keepE us (accE2 ((pick l g).take k) ((svA its bs 0).take k) E)) (Lf T) (wpList P l.toArray (Exit.then (PostZ G n (Lf T) d (s (bs k1))) QF) [o]))
    (hdep : depB l g its 0 = true)
    (hfin : ∀ (bs : Nat → Value) G a w, F ≤ G → Env G a n (accE2 (pick l g) (svA its bs 0) E) → St G w (resA its bs 0 ++ Lf (xs.map (·.2.1) ++ L0)) → RestP P Q l (g ++ D) a w) :
    ∀ (fuel : Nat) (listed : Array Bool) (a : Act) (w : World), cntF listed ≤ fuel → InvA F n xs Lf L0 l D g its E listed a w → wpAny P .any l.toArray Q fuel listed a w := by
  have hlen := pick_len hB.lt
  have hpsq : ∀ k q, (k, q) ∈ ps → k < g.length ∧ q < g.length ∧ g.getD k 0 ∈ ((reachZ l [])[g.getD q 0]?).getD [] := fun k q hm => by
    have := List.all_eq_true.1 hps (k, q) hm
    simp only [Bool.and_eq_true, Nat.blt_eq] at this
    exact ⟨this.1.1, this.1.2, by have := memN_iff.1 this.2; simpa [List.getD] using this⟩
  have atEnd : ∀ (fuel : Nat) (listed : Array Bool) (a : Act) (w : World), cntF listed ≤ fuel → InvA F n xs Lf L0 l D g its E listed a w → (∀ i ∈ g, listed.getD i false = true) → wpAny P .any l.toArray Q fuel listed a w := by
    intro fuel listed a w hc inv all
    obtain ⟨G, bs, ks, hg, hS, hnd, hks, hd, hsz, hA, hB'⟩ := inv.st
    have hkp : ks.Perm (posA its 0) := by
      refine (List.perm_ext_iff_of_nodup hnd posA_nodup).2 fun k => ⟨fun h => ((hks k).1 h).1, fun h => (hks k).2 ⟨h, ?_⟩⟩
      obtain ⟨q, sv, r0, r1, o, rfl, hq⟩ := posA_mem.1 h
      have hql : q < its.length := (List.getElem?_eq_some_iff.1 hq).1
      have hqg : q < g.length := by omega
      exact ⟨g[q], by simp [hqg], all _ (List.getElem_mem hqg)⟩
    have hres : (ks.map (fun k => raC its g listed k (bs k))).Perm (resA its bs 0) := by
      have := resA_eq (its := its) (pre := []) (bs := bs)
      simp only [List.length_nil, List.nil_append] at this
      rw [this]
      have e : (posA its 0).map (fun k => raC its g listed k (bs k)) = (posA its 0).map (fun k => match its[k]? with | some it => raE it (bs k) | none => .any fun _ => False) := by
        refine List.map_congr_left fun k hk => ?_
        obtain ⟨q, sv, r0, r1, o, e, hq⟩ := posA_mem.1 hk
        have : k = q := by omega
        subst this
        simp only [raC, hq, raE]
        cases o with
        | none => rfl
        | some q' =>
          obtain ⟨_, hm⟩ := hio.hal k sv r0 r1 q' hq
          obtain ⟨_, h2, _⟩ := hpsq k q' hm
          have hget : g.getD q' 0 ∈ g := by simp [List.getD, h2, List.getElem_mem h2]
          simp only [all _ hget, if_true]
      rw [← e]; exact hkp.map _
    have hxe : xsC xs g listed = xs.map (·.2.1) := by
      unfold xsC
      refine List.map_congr_left fun x hx => ?_
      obtain ⟨e, he⟩ := List.mem_iff_getElem?.1 hx
      obtain ⟨ra, rb, q⟩ := x
      obtain ⟨_, hq⟩ := hio.hx e ra rb q he
      have hget : g.getD q 0 ∈ g := by simp [List.getD, hq, List.getElem_mem hq]
      simp only [all _ hget, if_true]
    rw [hxe] at hS
    have hS2 : St G w (resA its bs 0 ++ Lf (xs.map (·.2.1) ++ L0)) := hS.perm ((lf_perm hLf _ _).symm.trans (hres.append_right _))
    refine hfin bs G a w hg ⟨hd, hsz, fun t s e => ?_⟩ hS2 fuel listed hc ⟨inv.size, inv.closed, fun j hj => ⟨fun h => ?_, fun h => ?_⟩⟩
    · by_cases hw : ∃ o ∈ pick l g, o.dst = some t
      · obtain ⟨o, ho, hot⟩ := hw
        obtain ⟨k, hk⟩ := List.mem_iff_getElem?.1 ho
        have hkl : k < (pick l g).length := (List.getElem?_eq_some_iff.1 hk).1
        have hkg : g[k]? = some g[k] := by
          have : k < g.length := by omega
          simp [this]
        have hsl : k < (svA its bs 0).length := by rw [svA_len]; omega
        have hsk : (svA its bs 0)[k]? = some (svA its bs 0)[k] := by simp [hsl]
        rw [accE2_at hB.dsts hk hot hsk] at e
        cases e
        have hl := pick_get hB.lt k _ hkg
        exact hA k _ o t _ hkg (by rw [← hl]; exact hk) hot hsk (all _ (List.mem_of_getElem? hkg))
      · rw [accE2_other (fun o ho e => hw ⟨o, ho, e⟩)] at e
        refine hB' t s e fun i o hi hl _ e' => hw ⟨o, ?_, e'⟩
        obtain ⟨k, hk⟩ := List.mem_iff_getElem?.1 hi
        have := pick_get hB.lt k i hk
        exact List.mem_of_getElem? (this.trans hl)
    · rcases inv.ex j hj h with h | h
      · exact List.mem_append_right _ h
      · exact List.mem_append_left _ h
    · rcases List.mem_append.1 h with h | h
      · exact all j h
      · exact inv.dl j h hj
  intro fuel
  induction fuel with
  | zero =>
    intro listed a w hc inv
    refine atEnd 0 listed a w hc inv fun i hi => ?_
    cases hl : listed.getD i false with
    | true => rfl
    | false =>
      exfalso
      have hlt : i < listed.size := by have := hB.lt i hi; have := inv.size; omega
      have hun : listed.getD i true = false := by simp [hlt] at hl ⊢; exact hl
      have := cntF_set hun; omega
  | succ fuel ih =>
    intro listed a w hc inv
    by_cases hall : ∀ i ∈ g, listed.getD i false = true
    · exact atEnd _ listed a w hc inv hall
    · have hex : ∃ k : Nat, ∃ i, g[k]? = some i ∧ listed.getD i false = false := by
        refine Classical.byContradiction fun hno => hall fun i hi => ?_
        obtain ⟨k, hk⟩ := List.mem_iff_getElem?.1 hi
        cases hl : listed.getD i false with
        | true => rfl
        | false => exact absurd ⟨k, i, hk, hl⟩ hno
      have hready : ∃ i, i ∈ Region.ready .any l.toArray listed := by
        obtain ⟨k, i, hk, hl⟩ := hex
        induction k using Nat.strongRecOn generalizing i with
        | _ k ihk =>
          by_cases hbef : ∃ q, q < k ∧ ∃ j, g[q]? = some j ∧ listed.getD j false = false
          · obtain ⟨q, hq, j, hj, hlj⟩ := hbef
            exact ihk q hq j hj hlj
          · obtain ⟨o, us, ho, _, _, _, haf, _⟩ := hB.op k i hk
            have hil : i < l.length := hB.lt i (List.mem_of_getElem? hk)
            have hlt : i < listed.size := by have := inv.size; omega
            refine ⟨i, mem_ready.2 ⟨by simp [hlt] at hl ⊢; exact hl, o, by simpa using ho, afters_all' fun e he => ?_⟩⟩
            obtain ⟨h1, h2 | h2⟩ := haf e he
            · exact inv.dl e h2 h1
            · obtain ⟨q, hq⟩ := List.mem_iff_getElem?.1 h2
              have hqk : q < k := by have := (List.getElem?_eq_some_iff.1 hq).1; simp at this; omega
              rw [List.getElem?_take_of_lt hqk] at hq
              cases hle : listed.getD e false with
              | true => rfl
              | false => exact absurd ⟨q, hqk, e, hq, hle⟩ hbef
      refine ⟨fun h0 => (by obtain ⟨i, hi⟩ := hready; rw [h0] at hi; cases hi), fun i hi => ?_⟩
      obtain ⟨hun, o, ho, haft⟩ := mem_ready.1 hi
      have ho' : l[i]? = some o := by simpa using ho
      have hil : i < l.length := (List.getElem?_eq_some_iff.1 ho').1
      have hlist := afters_all haft
      have hlt : i < listed.size := by have := inv.size; omega
      have hunf : listed.getD i false = false := by simp [hlt] at hun ⊢; exact hun
      have hiD : i ∉ D := fun h => by rw [inv.dl i h hil] at hunf; cases hunf
      have hig : i ∈ g := by
        rcases hB.others i hil with h | h | h
        · exact absurd h hiD
        · exact h
        · exact absurd (fun j hj => mem_reach' (fun j => listed.getD j false = true) inv.closed ho' hlist j (h j hj)) hall
      obtain ⟨k, hk⟩ := List.mem_iff_getElem?.1 hig
      obtain ⟨o2, us, ho2, hpk, hus, hsel, haf, hwr⟩ := hB.op k i hk
      rw [ho'] at ho2; cases ho2
      have hkl : k < (pick l g).length := (List.getElem?_eq_some_iff.1 hpk).1
      obtain ⟨G, bs, ks, hg, hS, hnd, hks, hdf, hsz, hA, hB'⟩ := inv.st
      have hgk : g.getD k 0 = i := by simp [List.getD, hk]
      have uniq : ∀ q, g[q]? = some i → q = k := fun q hq => by
        have e1 := (List.getElem?_eq_some_iff.1 hq).2
        have e2 := (List.getElem?_eq_some_iff.1 hk).2
        exact (List.getElem_inj hB.nodup).1 (e1.trans e2.symm)
      have uniqD : ∀ q, q < g.length → g.getD q 0 = i → q = k := fun q hq he => uniq q (by simp [List.getD, hq] at he; simp [hq, he])
      have dne : ∀ d q j o' d', o.dst = some d → g[q]? = some j → l[j]? = some o' → o'.dst = some d' → i ≠ j → d ≠ d' := fun d q j o' d' hd hq hj hd' hji e => by
        subst e
        have hpq := pick_get hB.lt q j hq
        have := nodup_idx hB.dsts hpk (hpq.trans hj) hd hd'
        subst this
        rw [hk] at hq; cases hq; exact hji rfl
      have hEnv : ∀ t s, look (keepE us (accE2 ((pick l g).take k) ((svA its bs 0).take k) E)) t = some s → ∃ v, a.tmps[t]? = some v ∧ s.ok G v := by
        intro t s e
        rw [look_keepE] at e
        split at e
        · rename_i htu
          have hwt := hwr t htu
          by_cases hw : ∃ q ∈ (pick l g).take k, q.dst = some t
          · obtain ⟨o', hq, hqt⟩ := hw
            obtain ⟨q, hq'⟩ := List.mem_iff_getElem?.1 hq
            have hqk : q < k := by have := (List.getElem?_eq_some_iff.1 hq').1; simp at this; omega
            have hpq : (pick l g)[q]? = some o' := by rw [List.getElem?_take_of_lt hqk] at hq'; exact hq'
            have hgq : g[q]? = some g[q] := by
              have : q < g.length := by omega
              simp [this]
            have hlq := pick_get hB.lt q _ hgq
            have hlo : l[g[q]]? = some o' := by rw [← hlq]; exact hpq
            have hsql : q < (svA its bs 0).length := by rw [svA_len]; omega
            have hsq : (svA its bs 0)[q]? = some (svA its bs 0)[q] := by simp [hsql]
            have hndt : (((pick l g).take k).filterMap (·.dst)).Nodup := hB.dsts.sublist ((List.take_sublist k _).filterMap _)
            rw [accE2_at hndt hq' hqt (by rw [List.getElem?_take_of_lt hqk]; exact hsq)] at e
            cases e
            refine hA q _ o' t _ hgq hlo hqt hsq ?_
            exact mem_reach' (fun j => listed.getD j false = true) inv.closed ho' hlist _ ((hwt q _ o' hgq hlo hqt).1 hqk)
          · rw [accE2_other (fun x hx e' => hw ⟨x, hx, e'⟩)] at e
            refine hB' t s e fun j o' hj hlj hlisted hqt => ?_
            obtain ⟨q, hq⟩ := List.mem_iff_getElem?.1 hj
            have hpq := pick_get hB.lt q j hq
            have hqk : ¬ q < k := fun h => hw ⟨o', by
              have : ((pick l g).take k)[q]? = some o' := by rw [List.getElem?_take_of_lt h, hpq]; exact hlj
              exact List.mem_of_getElem? this, hqt⟩
            by_cases hqk2 : q = k
            · subst hqk2
              rw [hk] at hq; cases hq
              rw [hunf] at hlisted; cases hlisted
            · have := mem_reach' (fun j => listed.getD j false = true) inv.closed hlj (inv.closed j o' hlj hlisted) i ((hwt q j o' hq hlj hqt).2 (by omega))
              rw [hunf] at this; cases this
        · cases e
      -- how a variable reads is told by its own store alone
      have hrc : ∀ q b, (∀ sv r0 r1 qs, its[q]? = some (.al sv r0 r1 (some qs)) → qs ≠ k) → raC its g (listed.setIfInBounds i true) q b = raC its g listed q b := by
        intro q b hne
        unfold raC
        split
        · rename_i sv r0 r1 qs hq
          obtain ⟨_, hm⟩ := hio.hal q sv r0 r1 qs hq
          obtain ⟨_, h2, _⟩ := hpsq q qs hm
          have : i ≠ g.getD qs 0 := fun e => hne sv r0 r1 qs hq (uniqD qs h2 e.symm)
          rw [getD_set_ne false this]
        · rfl
        · rfl
      have hxc : (∀ e, its[k]? ≠ some (It.sx e)) → xsC xs g (listed.setIfInBounds i true) = xsC xs g listed := fun hne => by
        unfold xsC
        refine List.map_congr_left fun x hx => ?_
        obtain ⟨e, he⟩ := List.mem_iff_getElem?.1 hx
        obtain ⟨ra, rb, q⟩ := x
        obtain ⟨h1, h2⟩ := hio.hx e ra rb q he
        have : i ≠ g.getD q 0 := fun h => by
          have := uniqD q h2 h.symm
          subst this
          exact hne e h1
        simp only []
        rw [getD_set_ne false this]
      -- the step's end, whatever it gave
      have done : ∀ (bs' : Nat → Value) (ks' : List Nat) (dv : Option (Nat × Value)) (H : Fz) (w' : World), o.dst = dv.map (·.1) → (∀ d v, dv = some (d, v) → d < n) → G ≤ H → St H w' (Lf (ks'.map (fun k => raC its g (listed.setIfInBounds i true) k (bs' k)) ++ (xsC xs g (listed.setIfInBounds i true) ++ L0))) → ks'.Nodup →
          (∀ q, q ∈ ks' ↔ q ∈ ks ∨ (q = k ∧ k ∈ posA its 0)) → (∀ q s, q ≠ k → (∃ j, g[q]? = some j ∧ listed.getD j false = true) → (svA its bs' 0)[q]? = some s → (svA its bs 0)[q]? = some s) → (∀ d v s, dv = some (d, v) → (svA its bs' 0)[k]? = some s → s.ok H v) →
          wpAny P .any l.toArray Q fuel (listed.setIfInBounds i true) (match dv with | some (d, v) => a.put (some d) v | none => a) w' := by
        intro bs' ks' dv H w' hodst hdn hgh hS' hnd' hks' hsv hok
        have tm : ∀ (t : Nat) u, a.tmps[t]? = some u → (∀ d v, dv = some (d, v) → d ≠ t) → (match dv with | some (d, v) => a.put (some d) v | none => a).tmps[t]? = some u := by
          intro t u hu hne
          cases dv with
          | none => exact hu
          | some x => obtain ⟨d, v⟩ := x; simp only [Act.put]; rw [Array.getElem?_setIfInBounds_ne (hne d v rfl)]; exact hu
        refine ih _ _ _ (by have := cntF_set hun; omega) ⟨by simp [inv.size], fun j q hj hlj e he => ?_, fun j hj hjl => ?_, fun j hj hlj => ?_, H, bs', ks', Fz.tr hg hgh, hS', hnd', fun q => ?_, ?_, ?_, fun q j o' d' s' hq hj hd' hs' hlj => ?_, fun t s' hl hno => ?_⟩
        · by_cases hji : i = j
          · subst hji
            rw [ho'] at hj; cases hj
            exact getD_set_true (hlist e he)
          · rw [getD_set_ne false hji] at hlj
            exact getD_set_true (inv.closed j q hj hlj e he)
        · exact getD_set_true (inv.dl j hj hjl)
        · by_cases hji : i = j
          · subst hji; exact .inr hig
          · rw [getD_set_ne false hji] at hlj; exact inv.ex j hj hlj
        · rw [hks']
          constructor
          · rintro (h | ⟨rfl, h⟩)
            · obtain ⟨h1, j, h2, h3⟩ := (hks q).1 h
              exact ⟨h1, j, h2, getD_set_true h3⟩
            · exact ⟨h, i, hk, by simp [hlt]⟩
          · rintro ⟨h1, j, h2, h3⟩
            by_cases hji : i = j
            · subst hji
              have := uniq q h2
              subst this
              exact .inr ⟨rfl, h1⟩
            · rw [getD_set_ne false hji] at h3
              exact .inl ((hks q).2 ⟨h1, j, h2, h3⟩)
        · cases dv with
          | none => exact hdf
          | some x => exact hdf
        · cases dv with
          | none => exact hsz
          | some x => simp [Act.put, hsz]
        · by_cases hji : i = j
          · subst hji
            rw [ho'] at hj; cases hj
            have := uniq q hq
            subst this
            rw [hodst] at hd'
            obtain ⟨⟨d, v⟩, hdv, hdd⟩ := Option.map_eq_some_iff.1 hd'
            simp only at hdd
            subst hdd
            refine ⟨v, ?_, hok d v s' hdv hs'⟩
            rw [hdv]
            simp only [Act.put]; rw [Array.getElem?_setIfInBounds_self_of_lt (by rw [hsz]; exact hdn d v hdv)]
          · rw [getD_set_ne false hji] at hlj
            have hqk : q ≠ k := fun e => by subst e; rw [hk] at hq; cases hq; exact hji rfl
            obtain ⟨u, hu, ho3⟩ := hA q j o' d' s' hq hj hd' (hsv q s' hqk ⟨j, hq, hlj⟩ hs') hlj
            refine ⟨u, tm d' u hu fun d v hdv => dne d q j o' d' (by rw [hodst, hdv]; rfl) hq hj hd' hji, SV.ok_mono hgh ho3⟩
        · obtain ⟨u, hu, ho3⟩ := hB' t s' hl (fun j o' hj hlj hlisted => hno j o' hj hlj (getD_set_true hlisted))
          refine ⟨u, tm t u hu fun d v hdv e => ?_, SV.ok_mono hgh ho3⟩
          subst e
          exact hno i o hig ho' (by simp [hlt]) (by rw [hodst, hdv]; rfl)
      have hki : k < its.length := by omega
      have hkn : ∀ it : It, its[k]? = some it → (∀ x, it ≠ It.st x) → ∀ (q : Nat) (sv : Value → SV) (r0 r1 : Value → Res) (qs : Nat), its[q]? = some (It.al sv r0 r1 (some qs)) → qs ≠ k := fun it hit hnst q sv r0 r1 qs hq e => by
        subst e
        have := (hio.hal q sv r0 r1 qs hq).1
        rw [hit] at this; cases this; exact hnst q rfl
      cases hit : its[k]? with
      | none => simp at hit; omega
      | some it =>
        cases it with
        | al sv r0 r1 qo =>
          obtain ⟨d, hd⟩ : ∃ d, o.dst = some d := hds k o _ hpk hit
          have hdn : d < n := hn o (List.mem_of_getElem? hpk) d hd
          have hkpos : k ∈ posA its 0 := posA_mem.2 ⟨k, sv, r0, r1, qo, by omega, hit⟩
          have hknot : k ∉ ks := fun h => by
            obtain ⟨_, j, h2, h3⟩ := (hks k).1 h
            rw [hk] at h2; cases h2
            rw [hunf] at h3; cases h3
          have hrun := hal bs k o us sv r0 r1 qo d hpk hus hit hd G _ hg G a w (Fz.rf G) ⟨hdf, hsz, hEnv⟩ hS
          have hfr := wpOp_frameA (Q := Q) (i := i) (by simpa using ho') hd hsel hrun (by rw [hsz]; exact hdn) hdf
          refine wpOp_mono (fun a' w' h => ?_) hfr
          obtain ⟨u, v, H, rfl, hgh, hok, hS1⟩ := h
          have hns := hkn _ hit (fun x e => by cases e)
          have hmap : ks.map (fun q => raC its g (listed.setIfInBounds i true) q ((fun q => if q = k then v else bs q) q)) = ks.map (fun k => raC its g listed k (bs k)) := List.map_congr_left fun q hq => by
            have : q ≠ k := fun e => by subst e; exact hknot hq
            simp only [this, if_false]
            exact hrc q _ (hns q)
          have hra : raC its g (listed.setIfInBounds i true) k v = r0 v := by
            rw [hrc k _ (hns k)]
            unfold raC
            rw [hit]
            cases qo with
            | none => rfl
            | some qs =>
              obtain ⟨_, hm⟩ := hio.hal k sv r0 r1 qs hit
              obtain ⟨_, h2, h3⟩ := hpsq k qs hm
              simp only []
              rw [if_neg]
              intro hl
              have hgq : g[qs]? = some (g.getD qs 0) := by simp [List.getD, h2]
              obtain ⟨o3, _, ho3, _⟩ := hB.op qs _ hgq
              have := mem_reach' (fun j => listed.getD j false = true) inv.closed ho3 (inv.closed _ o3 ho3 hl) _ h3
              rw [hgk, hunf] at this; cases this
          refine done (fun q => if q = k then v else bs q) (k :: ks) (some (d, u)) H w' hd (fun d' v e => by cases e; exact hdn) hgh ?_ (List.nodup_cons.2 ⟨hknot, hnd⟩) (fun q => ?_) (fun q s hq hql hs => ?_) (fun d' v' s e hs => ?_)
          · rw [List.map_cons, hmap, hxc (fun e h => by rw [hit] at h; cases h)]
            simp only [if_true, hra, List.cons_append]
            exact hS1.perm (hLf _ _)
          · rw [List.mem_cons]; constructor
            · rintro (rfl | h)
              · exact .inr ⟨rfl, hkpos⟩
              · exact .inl h
            · rintro (h | ⟨rfl, _⟩)
              · exact .inr h
              · exact .inl rfl
          · have hqlt : q < its.length := by have := (List.getElem?_eq_some_iff.1 hs).1; rwa [svA_len] at this
            have hiq : its[q]? = some its[q] := by simp [hqlt]
            have e1 := svA_get (bs := fun q => if q = k then v else bs q) (j := 0) hiq
            have e2 := svA_get (bs := bs) (j := 0) hiq
            rw [e1] at hs; rw [e2, ← hs]
            congr 1
            cases hitq : its[q] with
            | v1 k1 s1 =>
              have hk1 : k1 ≠ k := fun e => by
                subst e
                obtain ⟨j1, hj1, hl1⟩ := hql
                obtain ⟨h1, h2⟩ := depB_spec hdep q k1 s1 (by rw [hiq, hitq])
                obtain ⟨o3, _, ho3, _⟩ := hB.op q _ hj1
                have hgq : g.getD (0 + q) 0 = j1 := by simp [List.getD, hj1]
                rw [hgq] at h2
                have := mem_reach' (fun j => listed.getD j false = true) inv.closed ho3 (inv.closed _ o3 ho3 hl1) _ h2
                rw [hgk, hunf] at this; cases this
              simp [hk1]
            | _ => simp [hq]
          · cases e
            have e1 := svA_get (bs := fun q => if q = k then v else bs q) (j := 0) hit
            rw [e1] at hs; cases hs
            simpa using hok
        | v s =>
          obtain ⟨d, hd⟩ : ∃ d, o.dst = some d := hds k o _ hpk hit
          have hdn : d < n := hn o (List.mem_of_getElem? hpk) d hd
          have hsk : (svA its bs 0)[k]? = some s := svA_get (bs := bs) (j := 0) hit
          have hrun := hstep bs k o us s d hpk hus hit hd G _ hg G a w (Fz.rf G) ⟨hdf, hsz, hEnv⟩ hS
          have hfr := wpOp_frame (Q := Q) (i := i) (by simpa using ho') hd hsel hrun (by rw [hsz]; exact hdn) hdf
          refine wpOp_mono (fun a' w' h => ?_) hfr
          obtain ⟨v, H, rfl, hgh, hok, hS'⟩ := h
          have hknp : k ∉ posA its 0 := fun h => by
            obtain ⟨q, _, _, _, _, e, hq⟩ := posA_mem.1 h
            have : q = k := by omega
            subst this
            rw [hit] at hq; cases hq
          have hmap : ks.map (fun q => raC its g (listed.setIfInBounds i true) q (bs q)) = ks.map (fun k => raC its g listed k (bs k)) := List.map_congr_left fun q hq => hrc q _ (hkn _ hit (fun x e => by cases e) q)
          exact done bs ks (some (d, v)) H w' hd (fun d' v' e => by cases e; exact hdn) hgh (by rw [hmap, hxc (fun e h => by rw [hit] at h; cases h)]; exact hS') hnd (fun q => ⟨.inl, fun h => h.elim (fun h => h) fun ⟨_, h⟩ => absurd h hknp⟩) (fun q s _ _ h => h) (fun d' v' s' e hs' => by cases e; rw [hsk] at hs'; cases hs'; exact hok)
        | v1 k1 s =>
          obtain ⟨d, hd⟩ : ∃ d, o.dst = some d := hds k o _ hpk hit
          have hdn : d < n := hn o (List.mem_of_getElem? hpk) d hd
          have hsk : (svA its bs 0)[k]? = some (s (bs k1)) := svA_get (bs := bs) (j := 0) hit
          have hrun := hstep1 bs k o us k1 s d hpk hus hit hd G _ hg G a w (Fz.rf G) ⟨hdf, hsz, hEnv⟩ hS
          have hfr := wpOp_frame (Q := Q) (i := i) (by simpa using ho') hd hsel hrun (by rw [hsz]; exact hdn) hdf
          refine wpOp_mono (fun a' w' h => ?_) hfr
          obtain ⟨v, H, rfl, hgh, hok, hS'⟩ := h
          have hknp : k ∉ posA its 0 := fun h => by
            obtain ⟨q, _, _, _, _, e, hq⟩ := posA_mem.1 h
            have : q = k := by omega
            subst this
            rw [hit] at hq; cases hq
          have hmap : ks.map (fun q => raC its g (listed.setIfInBounds i true) q (bs q)) = ks.map (fun k => raC its g listed k (bs k)) := List.map_congr_left fun q hq => hrc q _ (hkn _ hit (fun x e => by cases e) q)
          exact done bs ks (some (d, v)) H w' hd (fun d' v' e => by cases e; exact hdn) hgh (by rw [hmap, hxc (fun e h => by rw [hit] at h; cases h)]; exact hS') hnd (fun q => ⟨.inl, fun h => h.elim (fun h => h) fun ⟨_, h⟩ => absurd h hknp⟩) (fun q s _ _ h => h) (fun d' v' s' e hs' => by cases e; rw [hsk] at hs'; cases hs'; exact hok)
        | st k0 =>
          have hd : o.dst = none := hds k o _ hpk hit
          obtain ⟨sv, r0, r1, qq, hal0, hrun⟩ := hstore bs k o us k0 hpk hus hit
          obtain ⟨sv', r0', r1', hal1⟩ := hio.hst k k0 hit
          rw [hal0] at hal1; cases hal1
          obtain ⟨_, hm⟩ := hio.hal k0 sv r0 r1 k hal0
          obtain ⟨h1, h2, h3⟩ := hpsq k0 k hm
          have hg0 : g[k0]? = some (g.getD k0 0) := by simp [List.getD, h1]
          have hk0l : listed.getD (g.getD k0 0) false = true := by
            rw [hgk] at h3
            exact mem_reach' (fun j => listed.getD j false = true) inv.closed ho' hlist _ h3
          have hk0 : k0 ∈ ks := (hks k0).2 ⟨posA_mem.2 ⟨k0, sv, r0, r1, some k, by omega, hal0⟩, _, hg0, hk0l⟩
          have hcur : raC its g listed k0 (bs k0) = r0 (bs k0) := by
            unfold raC; rw [hal0]; simp only [hgk, hunf]; simp
          have hnew : raC its g (listed.setIfInBounds i true) k0 (bs k0) = r1 (bs k0) := by
            unfold raC; rw [hal0]; simp only [hgk]; rw [if_pos]; simp [hlt]
          have hperm := List.perm_cons_erase hk0
          have hS1 : St G w (r0 (bs k0) :: Lf ((ks.erase k0).map (fun k => raC its g listed k (bs k)) ++ (xsC xs g listed ++ L0))) := by
            have e := hperm.map (fun k => raC its g listed k (bs k))
            rw [List.map_cons, hcur] at e
            refine hS.perm ((lf_map hLf e _).trans ?_)
            exact (hLf _ _).symm
          have hr := hrun G _ hg G a w (Fz.rf G) ⟨hdf, hsz, hEnv⟩ hS1
          have hfr := wpOp_frame0 (Q := Q) (i := i) (by simpa using ho') hd hr
          refine wpOp_mono (fun a' w' h => ?_) hfr
          obtain ⟨H, rfl, hgh, hS'⟩ := h
          have hknp : k ∉ posA its 0 := fun h => by
            obtain ⟨q, _, _, _, _, e, hq⟩ := posA_mem.1 h
            have : q = k := by omega
            subst this
            rw [hit] at hq; cases hq
          have hmap : (ks.erase k0).map (fun q => raC its g (listed.setIfInBounds i true) q (bs q)) = (ks.erase k0).map (fun k => raC its g listed k (bs k)) := List.map_congr_left fun q hq => hrc q _ fun sv ra rb qs hq2 e => by
            subst e
            obtain ⟨h5, _⟩ := hio.hal q sv ra rb qs hq2
            rw [hit] at h5
            have : k0 = q := by cases h5; rfl
            subst this
            exact (List.Nodup.not_mem_erase hnd) hq
          refine done bs ks none H w' hd (fun d' v' e => by cases e) hgh ?_ hnd (fun q => ⟨.inl, fun h => h.elim (fun h => h) fun ⟨_, h⟩ => absurd h hknp⟩) (fun q s _ _ h => h) (fun d' v' s' e => by cases e)
          have e := hperm.map (fun k => raC its g (listed.setIfInBounds i true) k (bs k))
          rw [List.map_cons, hnew, hmap] at e
          rw [hxc (fun e h => by rw [hit] at h; cases h)]
          exact hS'.perm ((hLf _ _).trans (lf_map hLf e _).symm)
        | sx e0 =>
          have hd : o.dst = none := hds k o _ hpk hit
          obtain ⟨ra, rb, hxe, hrun⟩ := hstx bs k o us e0 hpk hus hit
          rw [Nat.zero_add] at hxe
          obtain ⟨hel, hxe'⟩ := List.getElem?_eq_some_iff.1 hxe
          have hsplit : xs = xs.take e0 ++ (ra, rb, k) :: xs.drop (e0 + 1) := by rw [← hxe']; simp
          have hother : ∀ x ∈ xs.take e0 ++ xs.drop (e0 + 1), (if (listed.setIfInBounds i true).getD (g.getD x.2.2 0) false then x.2.1 else x.1) = if listed.getD (g.getD x.2.2 0) false then x.2.1 else x.1 := fun x hx => by
            have hin : ∃ e, e ≠ e0 ∧ xs[e]? = some x := by
              rcases List.mem_append.1 hx with h | h
              · obtain ⟨e, he⟩ := List.mem_iff_getElem?.1 h
                have hlt : e < e0 := by have := (List.getElem?_eq_some_iff.1 he).1; simp at this; omega
                exact ⟨e, by omega, by rw [List.getElem?_take_of_lt hlt] at he; exact he⟩
              · obtain ⟨e, he⟩ := List.mem_iff_getElem?.1 h
                rw [List.getElem?_drop] at he
                exact ⟨_, by omega, he⟩
            obtain ⟨e, hne, he⟩ := hin
            obtain ⟨r0, r1, q⟩ := x
            obtain ⟨h1, h2⟩ := hio.hx e r0 r1 q he
            have : i ≠ g.getD q 0 := fun h => by
              have := uniqD q h2 h.symm
              subst this
              rw [hit] at h1
              cases h1; exact hne rfl
            simp only []
            rw [getD_set_ne false this]
          have hcur : xsC xs g listed = (xs.take e0).map (fun x => if listed.getD (g.getD x.2.2 0) false then x.2.1 else x.1) ++ ra :: (xs.drop (e0 + 1)).map (fun x => if listed.getD (g.getD x.2.2 0) false then x.2.1 else x.1) := by
            conv => lhs; rw [hsplit]
            simp only [xsC, List.map_append, List.map_cons, hgk, hunf]; simp
          have hnew : xsC xs g (listed.setIfInBounds i true) = (xs.take e0).map (fun x => if listed.getD (g.getD x.2.2 0) false then x.2.1 else x.1) ++ rb :: (xs.drop (e0 + 1)).map (fun x => if listed.getD (g.getD x.2.2 0) false then x.2.1 else x.1) := by
            conv => lhs; rw [hsplit]
            simp only [xsC, List.map_append, List.map_cons, hgk]
            rw [List.map_congr_left (l := xs.take e0) (fun x hx => hother x (List.mem_append_left _ hx)), List.map_congr_left (l := xs.drop (e0 + 1)) (fun x hx => hother x (List.mem_append_right _ hx))]
            simp [hlt]
          generalize hPre : (xs.take e0).map (fun x => if listed.getD (g.getD x.2.2 0) false then x.2.1 else x.1) = Pre at hcur hnew
          generalize hPost : (xs.drop (e0 + 1)).map (fun x => if listed.getD (g.getD x.2.2 0) false then x.2.1 else x.1) = Post at hcur hnew
          have mid : ∀ (X Y : List Res) (r : Res), (X ++ ((Pre ++ r :: Post) ++ Y)).Perm (r :: (X ++ ((Pre ++ Post) ++ Y))) := fun X Y r => by
            have e1 : (Pre ++ r :: Post).Perm (r :: (Pre ++ Post)) := List.perm_middle
            exact ((e1.append_right Y).append_left X).trans List.perm_middle
          have lfp : ∀ {X Y : List Res}, X.Perm Y → (Lf X).Perm (Lf Y) := fun {X Y} h => by
            have := lf_map hLf h []
            simpa using this
          have hS1 : St G w (ra :: Lf (ks.map (fun k => raC its g listed k (bs k)) ++ ((Pre ++ Post) ++ L0))) := by
            rw [hcur] at hS
            exact hS.perm ((lfp (mid _ _ _)).trans (hLf _ _).symm)
          have hr := hrun G _ hg G a w (Fz.rf G) ⟨hdf, hsz, hEnv⟩ hS1
          have hfr := wpOp_frame0 (Q := Q) (i := i) (by simpa using ho') hd hr
          refine wpOp_mono (fun a' w' h => ?_) hfr
          obtain ⟨H, rfl, hgh, hS'⟩ := h
          have hknp : k ∉ posA its 0 := fun h => by
            obtain ⟨q, _, _, _, _, e, hq⟩ := posA_mem.1 h
            have : q = k := by omega
            subst this
            rw [hit] at hq; cases hq
          have hmap : ks.map (fun q => raC its g (listed.setIfInBounds i true) q (bs q)) = ks.map (fun k => raC its g listed k (bs k)) := List.map_congr_left fun q hq => hrc q _ (hkn _ hit (fun x e => by cases e) q)
          refine done bs ks none H w' hd (fun d' v' e => by cases e) hgh ?_ hnd (fun q => ⟨.inl, fun h => h.elim (fun h => h) fun ⟨_, h⟩ => absurd h hknp⟩) (fun q s _ _ h => h) (fun d' v' s' e => by cases e)
          rw [hmap, hnew]
          exact hS'.perm ((hLf _ _).trans (lfp (mid _ _ _)).symm)

/-- A group of the region that adds memory, some of it the call's own. -/
theorem Under.grpA {l : List Oper} {D : List Nat} {L0 : List Res} (g : List Nat) (p : List (List Nat)) (its : List It) (ps : List (Nat × Nat)) (xs : Xs) (Lf : List Res → List Res) (hLf : ∀ r T, (r :: Lf T).Perm (Lf (r :: T))) (hL : Lf (xs.map (·.1) ++ L) = L0) (hB : groupB2 l D g p = true) (hio : ItsOk its ps xs g.length) (hps : itsB l g ps = true) (hn : (pick l g).all (fun o => match o.dst with | some d => Nat.blt d n | none => true) = true)
    (hdep : depB l g its 0 = true)
    (h : ∀ F, F0 ≤ F → ∀ bs, seqA P n xs Lf l.toArray F bs (fun E' B => Under F n E' (B ++ Lf (xs.map (·.2.1) ++ L)) (RestP P Q l (g ++ D))) 0 its p (pick l g) E [] []) : Under F0 n E L0 (RestP P Q l D) := fun F a w h0 hE hS fuel listed hc inv => by
  subst hL
  have key := fun bs => seqA_out its (h F h0 bs) (fun k ra rb hm => by cases hm) (fun k => by simp)
  obtain ⟨e1, e2, _, _, _, _, _, _⟩ := key fun _ => undef
  have hG := groupB2_spec hB
  have hx0 : xsC xs g listed = xs.map (·.1) := by
    unfold xsC
    refine List.map_congr_left fun x hx => ?_
    obtain ⟨e, he⟩ := List.mem_iff_getElem?.1 hx
    obtain ⟨ra, rb, q⟩ := x
    obtain ⟨_, hq⟩ := hio.hx e ra rb q he
    have hget : g.getD q 0 ∈ g := by simp [List.getD, hq, List.getElem_mem hq]
    simp only []
    rw [if_neg]
    intro hl
    exact absurd ((inv.ex _ (hG.lt _ hget)).1 hl) (hG.apart _ hget)
  refine region_a hLf hG e1 hio hps e2 (fun o ho d hd => ?_) (fun bs => (key bs).2.2.1) (fun bs => (key bs).2.2.2.2.1) (fun bs => (key bs).2.2.2.2.2.1) (fun bs => (key bs).2.2.2.2.2.2.2) (fun bs => (key bs).2.2.2.2.2.2.1) hdep (fun bs G a w hg hE' hS' => by have := (key bs).2.2.2.1; simp only [List.nil_append] at this; exact this G a w hg hE' hS') fuel listed a w hc
    ⟨inv.size, inv.closed, fun j hj hjl => (inv.ex j hjl).2 hj, fun j hj hl => .inl ((inv.ex j hj).1 hl), F, fun _ => undef, [], Fz.rf F, by rw [hx0]; simpa using hS, List.nodup_nil, fun k => ⟨fun h => (by cases h), fun ⟨_, i, h2, h3⟩ => ?_⟩, hE.defers, hE.size, fun k i o d s hk hi _ _ hl => ?_, fun t s hl _ => hE.at_ t s hl⟩
  · have := List.all_eq_true.1 hn o ho
    rw [hd] at this; simpa [Nat.blt_eq] using this
  · have hig := List.mem_of_getElem? h2
    exact absurd ((inv.ex i (hG.lt i hig)).1 h3) (hG.apart i hig)
  · have hig := List.mem_of_getElem? hk
    exact absurd ((inv.ex i (hG.lt i hig)).1 hl) (hG.apart i hig)
theorem Aq.v {bs : Nat → Value} {K : List (Nat × SV) → List Res → Prop} {us : List Nat} {p : List (List Nat)} {g : Option (Nat × Bool)} {its : List It} {A : List (Nat × Res × Res)} {B : List Res} {j : Nat}
    (h : ∀ G T, F0 ≤ G → Under G n (keepE us E) (Lf T) (wpList P ops (Exit.then (PostZ G n (Lf T) d s) QF) [⟨some d, op, ty, pos, aft, g⟩])) (k : seqA P n xs Lf ops F0 bs K (j + 1) its p rest ((d, s) :: E) A B) :
    seqA P n xs Lf ops F0 bs K j (.v s :: its) (us :: p) (⟨some d, op, ty, pos, aft, g⟩ :: rest) E A B := ⟨d, rfl, h, k⟩
theorem Aq.v1 {bs : Nat → Value} {K : List (Nat × SV) → List Res → Prop} {us : List Nat} {p : List (List Nat)} {g : Option (Nat × Bool)} {its : List It} {A : List (Nat × Res × Res)} {B : List Res} {j k1 : Nat} {s1 : Value → SV} {b : Value} (hb : bs k1 = b)
    (h : ∀ G T, F0 ≤ G → Under G n (keepE us E) (Lf T) (wpList P ops (Exit.then (PostZ G n (Lf T) d (s1 b)) QF) [⟨some d, op, ty, pos, aft, g⟩])) (k : seqA P n xs Lf ops F0 bs K (j + 1) its p rest ((d, s1 b) :: E) A B) :
    seqA P n xs Lf ops F0 bs K j (.v1 k1 s1 :: its) (us :: p) (⟨some d, op, ty, pos, aft, g⟩ :: rest) E A B := by subst hb; exact ⟨d, rfl, h, k⟩
theorem Aq.ow {bs : Nat → Value} {K : List (Nat × SV) → List Res → Prop} {us : List Nat} {p : List (List Nat)} {g : Option (Nat × Bool)} {its : List It} {A : List (Nat × Res × Res)} {B : List Res} {j : Nat} {sv : Value → SV} {r0 r1 : Value → Res} {q : Option Nat}
    (h : ∀ G T, F0 ≤ G → Under G n (keepE us E) (Lf T) (wpList P ops (Exit.then (PostA G n (Lf T) d sv r0) QF) [⟨some d, op, ty, pos, aft, g⟩]))
    (k : ∀ b, bs j = b → seqA P n xs Lf ops F0 bs K (j + 1) its p rest ((d, sv b) :: E) ((j, r0 b, r1 b) :: A) (B ++ [raE (.al sv r0 r1 q) b])) : seqA P n xs Lf ops F0 bs K j (.al sv r0 r1 q :: its) (us :: p) (⟨some d, op, ty, pos, aft, g⟩ :: rest) E A B := ⟨d, rfl, h, k _ rfl⟩
def vblk : Value → Nat
  | .pointer (some p) => p.block
  | _ => 0
/-- A variable of the call's own. -/
abbrev alB (r0 r1 : Nat → Res) (q : Option Nat) : It := .al (fun v => bptr (vblk v)) (fun v => r0 (vblk v)) (fun v => r1 (vblk v)) q
def raB (r0 r1 : Nat → Res) (q : Option Nat) (b : Nat) : Res := match q with
  | none => r0 b
  | some _ => r1 b
theorem Aq.al {bs : Nat → Value} {K : List (Nat × SV) → List Res → Prop} {us : List Nat} {p : List (List Nat)} {its : List It} {A : List (Nat × Res × Res)} {B : List Res} {j : Nat} {α : Type} {Kd' : Kd α} {T' : TypeId} {z : α} {r1 : Nat → Res} {q : Option Nat} (hz : ZT P T' Kd' z) (hd : Nat.blt d n = true)
    (k : ∀ b, seqA P n xs Lf ops F0 bs K (j + 1) its p rest ((d, .raw (.pointer (some ⟨b, 0, none⟩))) :: E) ((j, .box Kd' b T' z, r1 b) :: A) (B ++ [raB (fun b => .box Kd' b T' z) r1 q b])) :
    seqA P n xs Lf ops F0 bs K j (alB (fun b => .box Kd' b T' z) r1 q :: its) (us :: p) (⟨some d, .alloc T', ty, pos, aft, none⟩ :: rest) E A B :=
  Aq.ow (fun G T _ => Under.al hz hd fun b => fun F a w h0 hE hS => ⟨F, .pointer (some ⟨b, 0, none⟩), h0, hE.sub (sub_cons (by rw [look_cons]; simp [bptr, vblk]) (sub_nil _)), hS⟩) fun v _ => by
    have := k (vblk v)
    cases q <;> exact this
inductive InA (k : Nat) (ra rb : Res) : List (Nat × Res × Res) → Prop where
  | here {A : List (Nat × Res × Res)} : InA k ra rb ((k, ra, rb) :: A)
  | there {x : Nat × Res × Res} {A : List (Nat × Res × Res)} (h : InA k ra rb A) : InA k ra rb (x :: A)
theorem InA.mem {k : Nat} {ra rb : Res} : ∀ {A : List (Nat × Res × Res)}, InA k ra rb A → (k, ra, rb) ∈ A
  | _, .here => List.mem_cons_self
  | _, .there h => List.mem_cons_of_mem _ h.mem
theorem Aq.st {bs : Nat → Value} {K : List (Nat × SV) → List Res → Prop} {us : List Nat} {p : List (List Nat)} {g : Option (Nat × Bool)} {its : List It} {A : List (Nat × Res × Res)} {B : List Res} {j k0 : Nat} {ra rb : Res} (hm : InA k0 ra rb A)
    (h : ∀ G T, F0 ≤ G → Under G n (keepE us E) (ra :: Lf T) (wpList P ops (Exit.then (PostS G (rb :: Lf T)) QF) [⟨none, op, ty, pos, aft, g⟩])) (k : seqA P n xs Lf ops F0 bs K (j + 1) its p rest E A B) :
    seqA P n xs Lf ops F0 bs K j (.st k0 :: its) (us :: p) (⟨none, op, ty, pos, aft, g⟩ :: rest) E A B := ⟨rfl, ⟨ra, rb, hm.mem, h⟩, k⟩
theorem Aq.sx {bs : Nat → Value} {K : List (Nat × SV) → List Res → Prop} {us : List Nat} {p : List (List Nat)} {g : Option (Nat × Bool)} {its : List It} {A : List (Nat × Res × Res)} {B : List Res} {j e : Nat} {ra rb : Res} (hm : xs[e]? = some (ra, rb, j))
    (h : ∀ G T, F0 ≤ G → Under G n (keepE us E) (ra :: Lf T) (wpList P ops (Exit.then (PostS G (rb :: Lf T)) QF) [⟨none, op, ty, pos, aft, g⟩])) (k : seqA P n xs Lf ops F0 bs K (j + 1) its p rest E A B) :
    seqA P n xs Lf ops F0 bs K j (.sx e :: its) (us :: p) (⟨none, op, ty, pos, aft, g⟩ :: rest) E A B := ⟨rfl, ⟨ra, rb, hm, h⟩, k⟩
theorem Aq.nil {bs : Nat → Value} {K : List (Nat × SV) → List Res → Prop} {A : List (Nat × Res × Res)} {B : List Res} {j : Nat} (h : K E B) : seqA P n xs Lf ops F0 bs K j [] [] [] E A B := h
theorem Aq.std {L : List Res} {Q' : Exit → Act → World → Prop} : Under F0 n E L (wpList P ops (Exit.then (PostS F0 L) Q') []) := fun F a w h0 hE hS => ⟨F, h0, hS, hE.defers⟩
theorem lf0 : ∀ r T, (r :: (fun T : List Res => T) T).Perm ((fun T : List Res => T) (r :: T)) := fun _ _ => List.Perm.refl _
theorem lf1 {r1 : Res} : ∀ r T, (r :: (fun T : List Res => r1 :: T) T).Perm ((fun T : List Res => r1 :: T) (r :: T)) := fun _ _ => List.Perm.swap _ _ _
theorem lf2 {r1 r2 : Res} : ∀ r T, (r :: (fun T : List Res => r1 :: r2 :: T) T).Perm ((fun T : List Res => r1 :: r2 :: T) (r :: T)) := fun _ _ => (List.Perm.swap _ _ _).trans (List.Perm.cons _ (List.Perm.swap _ _ _))
theorem lf3 {r1 r2 r3 : Res} : ∀ r T, (r :: (fun T : List Res => r1 :: r2 :: r3 :: T) T).Perm ((fun T : List Res => r1 :: r2 :: r3 :: T) (r :: T)) := fun _ _ => (List.Perm.swap _ _ _).trans (List.Perm.cons _ ((List.Perm.swap _ _ _).trans (List.Perm.cons _ (List.Perm.swap _ _ _))))
theorem lf4 {r1 r2 r3 r4 : Res} : ∀ r T, (r :: (fun T : List Res => r1 :: r2 :: r3 :: r4 :: T) T).Perm ((fun T : List Res => r1 :: r2 :: r3 :: r4 :: T) (r :: T)) := fun _ _ => (List.Perm.swap _ _ _).trans (List.Perm.cons _ ((List.Perm.swap _ _ _).trans (List.Perm.cons _ ((List.Perm.swap _ _ _).trans (List.Perm.cons _ (List.Perm.swap _ _ _))))))
end
end Go.Sim

/- Sim19: regions of any order, in phases. -/
import Derived.Test.YtgllljocmpbooaaSim18
set_option linter.unusedVariables false
set_option linter.unusedSimpArgs false
namespace Go.Sim
open Go

/-- Just these operations have come up. -/
structure PInv (l : List Oper) (D : List Nat) (listed : Array Bool) : Prop where
  size : listed.size = l.length
  closed : ∀ j o, l[j]? = some o → listed.getD j false = true → ∀ e ∈ afters o, listed.getD e false = true
  ex : ∀ j, j < l.length → (listed.getD j false = true ↔ j ∈ D)
/-- What is left of the region may come up in whatever order. -/
def RestP (P : Program) (Q : Exit → Act → World → Prop) (l : List Oper) (D : List Nat) (a : Act) (w : World) : Prop :=
  ∀ fuel listed, cntF listed ≤ fuel → PInv l D listed → wpAny P .any l.toArray Q fuel listed a w

section
variable {P : Program} {ops : Array Oper} {Q : Exit → Act → World → Prop} {rest : List Oper} {F0 : Fz} {n : Nat} {E : List (Nat × SV)} {L : List Res}
variable {d : Nat} {op : Op} {ty : TypeId} {pos : String} {aft : Array Edge} {s : SV}

theorem wpOp_of {i : Nat} {o : Oper} {a : Act} {w : World} {K : Act → World → Prop} (hi : ops[i]? = some o) (h : wpList P ops (Exit.then K QF) [o] a w) : wpOp P ops Q i K a w := by
  unfold wpOp
  simp only [hi]
  unfold wpList at h
  split
  · rename_i hw
    rw [if_pos hw] at h
    refine .inl ?_
    rcases h with h | ⟨_, hlets⟩
    case inr => exact absurd hlets (fun hl => by simp [LetsOut, QF, Exit.then] at hl)
    unfold Oper.wp at *
    generalize (execOp a.eval o).run P w = r at *
    cases r with
    | ok nx w' =>
      cases nx <;> simp only [Oper.upon] at h ⊢
      case value u => exact h
      case skip => exact h
      case defer dd => exact h
      case enter f args =>
        refine Calls.mono h fun e w'' he => ?_
        cases e with
        | returned u => exact he
        | panicked c => exact he.elim
        | outgrown => obtain ⟨_, _, x⟩ := he; exact x.elim
      case row row args => exact Rows.mono h fun u w'' he => he
    | halt x w' =>
      cases x <;> simp only [Oper.upon] at h ⊢ <;> exact h.elim
  · rename_i hw
    rw [if_neg hw] at h
    exact h

theorem PInv.ready_un {l : List Oper} {D : List Nat} {listed : Array Bool} (inv : PInv l D listed) {i : Nat} (hi : i ∈ Region.ready .any l.toArray listed) : i ∉ D ∧ ∃ o, l[i]? = some o ∧ ∀ e ∈ afters o, listed.getD e false = true := by
  obtain ⟨hun, o, ho, haft⟩ := mem_ready.1 hi
  have ho' : l[i]? = some o := by simpa using ho
  have hil : i < l.length := (List.getElem?_eq_some_iff.1 ho').1
  refine ⟨fun hd => ?_, o, ho', afters_all haft⟩
  have := (inv.ex i hil).2 hd
  have hlt : i < listed.size := by have := inv.size; omega
  simp [hlt] at hun this
  rw [hun] at this; cases this
/-- All have come up. -/
def allB (m : Nat) (D : List Nat) : Bool := (List.range m).all fun j => memN j D
theorem Rest.done {l : List Oper} {D : List Nat} {a : Act} {w : World} (hD : allB l.length D = true) (h : Q .normal a w) : RestP P Q l D a w := by
  intro fuel listed hc inv
  have hr : Region.ready .any l.toArray listed = [] := by
    cases hq : Region.ready .any l.toArray listed with
    | nil => rfl
    | cons i r =>
      have hi : i ∈ Region.ready .any l.toArray listed := by rw [hq]; simp
      obtain ⟨h1, o, h2, _⟩ := inv.ready_un hi
      have hil : i < l.length := (List.getElem?_eq_some_iff.1 h2).1
      exact absurd (memN_iff.1 (List.all_eq_true.1 hD i (List.mem_range.2 hil))) h1
  cases fuel with
  | zero => exact ⟨hr, h⟩
  | succ fuel => exact ⟨fun _ => h, by rw [hr]; simp⟩
/-- Number i alone may come up. -/
def oneB (l : List Oper) (D : List Nat) (i : Nat) : Bool :=
  Nat.blt i l.length && !memN i D && (match l[i]? with | some o => (afters o).all (fun e => Nat.blt e l.length && memN e D) | none => false) &&
  (List.range l.length).all fun j => Nat.beq j i || memN j D || (match l[j]? with | some o => (afters o).any (fun e => Nat.blt e l.length && !memN e D) | none => false)
theorem Rest.one {l : List Oper} {D : List Nat} {i : Nat} {o : Oper} {a : Act} {w : World} (hB : oneB l D i = true) (hi : l[i]? = some o) (h : wpOp P l.toArray Q i (RestP P Q l (i :: D)) a w) : RestP P Q l D a w := by
  intro fuel listed hc inv
  simp only [oneB, Bool.and_eq_true, hi] at hB
  obtain ⟨⟨⟨hlt, hnD⟩, haf⟩, hoth⟩ := hB
  have hil : i < l.length := by simpa [Nat.blt_eq] using hlt
  have hiD : i ∉ D := fun hm => by rw [memN_iff.2 hm] at hnD; cases hnD
  have hunl : listed.getD i false = false := by
    cases hq : listed.getD i false with
    | false => rfl
    | true => exact absurd ((inv.ex i hil).1 hq) hiD
  have hsz := inv.size
  have hilt : i < listed.size := by omega
  have hun : listed.getD i true = false := by simp [hilt] at hunl ⊢; exact hunl
  have hafl : ∀ e ∈ afters o, listed.getD e false = true := fun e he => by
    have h1 := List.all_eq_true.1 haf e he
    simp only [Bool.and_eq_true, Nat.blt_eq] at h1
    exact (inv.ex e h1.1).2 (memN_iff.1 h1.2)
  have hri : i ∈ Region.ready .any l.toArray listed := mem_ready.2 ⟨hun, o, by simpa using hi, afters_all' hafl⟩
  have honly : ∀ j ∈ Region.ready .any l.toArray listed, j = i := by
    intro j hj
    obtain ⟨h1, q, h2, h3⟩ := inv.ready_un hj
    have hjl : j < l.length := (List.getElem?_eq_some_iff.1 h2).1
    have h4 := List.all_eq_true.1 hoth j (List.mem_range.2 hjl)
    simp only [Bool.or_eq_true, h2] at h4
    rcases h4 with (h4 | h4) | h4
    · exact Nat.eq_of_beq_eq_true h4
    · exact absurd (memN_iff.1 h4) h1
    · obtain ⟨e, he, h5⟩ := List.any_eq_true.1 h4
      simp only [Bool.and_eq_true, Nat.blt_eq] at h5
      have h6 := (inv.ex e h5.1).1 (h3 e he)
      rw [memN_iff.2 h6] at h5; exact absurd h5.2 (by simp)
  cases fuel with
  | zero =>
    have := cntF_set hun
    omega
  | succ fuel =>
    refine ⟨fun h0 => (by rw [h0] at hri; cases hri), fun j hj => ?_⟩
    have := honly j hj
    subst this
    refine wpOp_mono (fun a' w' hr => hr fuel _ (by have := cntF_set hun; omega) ⟨by simp [hsz], fun k q hk hlk e he => ?_, fun k hk => ?_⟩) h
    · by_cases hkj : j = k
      · subst hkj
        rw [hi] at hk; cases hk
        exact getD_set_true (hafl e he)
      · rw [getD_set_ne false hkj] at hlk
        exact getD_set_true (inv.closed k q hk hlk e he)
    · by_cases hkj : j = k
      · subst hkj; simp [hilt]
      · rw [getD_set_ne false hkj, inv.ex k hk, List.mem_cons]
        exact ⟨.inr, fun h => h.elim (fun e => absurd e.symm hkj) id⟩
end
end Go.Sim

/- Sim0: frozen memory, resources, environments; the machine's loop by a step function. -/
import Derived.Deep.MidRow
import Derived.WalkKit
namespace Go.Sim
open Go

/-! ### Frozen memory -/
structure Fz where
  blk : Nat → Option Obj
  os : Os
  tape : Nat → Question → Nat
  output : Array (Nat × ByteArray)

structure Fz.le (F G : Fz) : Prop where
  blk : ∀ b o, F.blk b = some o → G.blk b = some o
  os : G.os = F.os
  tape : G.tape = F.tape
  output : G.output = F.output

structure Fz.on (F : Fz) (w : World) : Prop where
  blk : ∀ b o, F.blk b = some o → w.heap[b]? = some o
  os : w.os = F.os
  tape : w.tape = F.tape
  output : w.output = F.output

instance : LE Fz := ⟨Fz.le⟩
theorem Fz.rf (F : Fz) : F ≤ F := ⟨fun _ _ h => h, rfl, rfl, rfl⟩
theorem Fz.tr {F G H : Fz} (h : F ≤ G) (k : G ≤ H) : F ≤ H :=
  ⟨fun b o e => k.blk b o (h.blk b o e), k.os.trans h.os, k.tape.trans h.tape, k.output.trans h.output⟩

abbrev Frag := Nat → Option Obj
def Frag.emp : Frag := fun _ => none
def Frag.one (b : Nat) (o : Obj) : Frag := fun k => if k = b then some o else none
theorem Frag.one_at (b : Nat) (o : Obj) : Frag.one b o b = some o := by simp [Frag.one]
theorem Frag.one_ne {b k : Nat} (o : Obj) (h : k ≠ b) : Frag.one b o k = none := by simp [Frag.one, h]
theorem Frag.one_some {b k : Nat} {o q : Obj} (h : Frag.one b o k = some q) : k = b ∧ q = o := by
  unfold Frag.one at h; split at h
  · exact ⟨‹_›, (Option.some.inj h).symm⟩
  · cases h

def Fz.add (F : Fz) (h : Frag) : Fz := { F with blk := fun b => match F.blk b with | some o => some o | none => h b }
theorem Fz.le_add (F : Fz) (h : Frag) : F ≤ F.add h := ⟨fun b o e => by simp [Fz.add, e], rfl, rfl, rfl⟩
theorem Fz.add_emp (F : Fz) : F.add Frag.emp = F := by
  cases F; simp only [Fz.add, Frag.emp, Fz.mk.injEq, and_true]; funext b; split <;> simp_all
theorem Fz.add_some {F : Fz} {h : Frag} {b : Nat} {o : Obj} (e : (F.add h).blk b = some o) : F.blk b = some o ∨ (F.blk b = none ∧ h b = some o) := by
  simp only [Fz.add] at e; split at e
  · rename_i q hq; exact .inl (by rw [hq]; exact e)
  · rename_i hq; exact .inr ⟨hq, e⟩
theorem Fz.add_none {F : Fz} {h : Frag} {b : Nat} : (F.add h).blk b = none ↔ F.blk b = none ∧ h b = none := by
  simp only [Fz.add]; split <;> simp_all

def Apart (F : Fz) (h : Frag) : Prop := ∀ b, h b ≠ none → F.blk b = none
theorem add_comm_of_apart {F : Fz} {h k : Frag} (hk : ∀ b, k b ≠ none → h b = none) : (F.add h).add k = (F.add k).add h := by
  simp only [Fz.add, Fz.mk.injEq, and_true]; funext b
  cases hF : F.blk b <;> simp only []
  cases hh : h b with
  | none => cases hk' : k b <;> simp
  | some o =>
    cases hk' : k b with
    | none => simp
    | some q => have := hk b (by simp [hk']); simp [hh] at this

/-! ### Loops -/
inductive Ctl (S R : Type) where
  | next (s : S)
  | done (r : R)

def Loop.iter {S R : Type} (step : S → Option (Ctl S R)) : Nat → S → Option R
  | 0, _ => none
  | k + 1, s => match step s with
    | none => none
    | some (.done r) => some r
    | some (.next s') => Loop.iter step k s'

theorem Loop.iter_succ {S R : Type} {step : S → Option (Ctl S R)} : ∀ (k : Nat) (s : S) (r : R), Loop.iter step k s = some r → Loop.iter step (k + 1) s = some r
  | 0, _, _, h => by cases h
  | k + 1, s, r, h => by
    rw [Loop.iter] at h ⊢
    split at h
    · cases h
    · exact h
    · exact Loop.iter_succ k _ r h

theorem Loop.iter_add {S R : Type} {step : S → Option (Ctl S R)} {k : Nat} {s : S} {r : R} (h : Loop.iter step k s = some r) : ∀ m, Loop.iter step (k + m) s = some r
  | 0 => h
  | m + 1 => Loop.iter_succ (k + m) s r (Loop.iter_add h m)

theorem Loop.iter_det {S R : Type} {step : S → Option (Ctl S R)} {k m : Nat} {s : S} {r q : R} (h : Loop.iter step k s = some r) (h' : Loop.iter step m s = some q) : r = q := by
  have a := Loop.iter_add h m
  have b := Loop.iter_add h' k
  rw [Nat.add_comm] at b
  exact Option.some.inj (a.symm.trans b)

open Classical in
noncomputable def Loop.run {S R : Type} (step : S → Option (Ctl S R)) (s : S) : Option R :=
  if h : ∃ r k, Loop.iter step k s = some r then some h.choose else none

theorem Loop.run_of_iter {S R : Type} {step : S → Option (Ctl S R)} {k : Nat} {s : S} {r : R} (h : Loop.iter step k s = some r) : Loop.run step s = some r := by
  have hx : ∃ r k, Loop.iter step k s = some r := ⟨r, k, h⟩
  unfold Loop.run; rw [dif_pos hx]
  obtain ⟨m, hm⟩ := hx.choose_spec
  rw [Loop.iter_det hm h]

theorem Loop.iter_of_run {S R : Type} {step : S → Option (Ctl S R)} {s : S} {r : R} (h : Loop.run step s = some r) : ∃ k, Loop.iter step k s = some r := by
  unfold Loop.run at h; split at h
  · rename_i hx
    obtain ⟨m, hm⟩ := hx.choose_spec
    rw [Option.some.inj h] at hm; exact ⟨m, hm⟩
  · cases h

theorem Loop.run_done {S R : Type} {step : S → Option (Ctl S R)} {s : S} {r : R} (h : step s = some (.done r)) : Loop.run step s = some r :=
  Loop.run_of_iter (k := 1) (by simp [Loop.iter, h])

theorem Loop.run_next {S R : Type} {step : S → Option (Ctl S R)} {s s' : S} (h : step s = some (.next s')) : Loop.run step s = Loop.run step s' := by
  cases e : Loop.run step s' with
  | some r =>
    obtain ⟨k, hk⟩ := Loop.iter_of_run e
    exact Loop.run_of_iter (k := k + 1) (by simp [Loop.iter, h, hk])
  | none =>
    cases e' : Loop.run step s with
    | none => rfl
    | some r =>
      obtain ⟨k, hk⟩ := Loop.iter_of_run e'
      cases k with
      | zero => cases hk
      | succ k =>
        simp only [Loop.iter, h] at hk
        rw [Loop.run_of_iter hk] at e; cases e

theorem Loop.run_none {S R : Type} {step : S → Option (Ctl S R)} {s : S} (h : step s = none) : Loop.run step s = none := by
  cases e' : Loop.run step s with
  | none => rfl
  | some r =>
    obtain ⟨k, hk⟩ := Loop.iter_of_run e'
    cases k with
    | zero => cases hk
    | succ k => simp [Loop.iter, h] at hk

/-- THE MACHINE's LOOP follows a step function that comes to an end. -/
theorem wp_loop_run {P : Program} {S R : Type} {step : S → Option (Ctl S R)} {s0 : S} {r : R} (hrun : Loop.run step s0 = some r) (I : S → Act → World → Prop) {c : Code}
    {Q : Exit → Act → World → Prop} {a : Act} {w : World} (h0 : I s0 a w)
    (round : ∀ s o a w, step s = some o → (∀ q, o = .done q → q = r) → I s a w → c.wp P (Exit.then (fun a' w' => ∃ s', o = .next s' ∧ I s' a' w') Q) a w) : (Code.loop c).wp P Q a w := by
  obtain ⟨k, hk⟩ := Loop.iter_of_run hrun
  intro b kk cs
  have key : ∀ k s a w, Loop.iter step k s = some r → I s a w →
      ∃ e a' w', Q e a' w' ∧ Arrives P (lone (b.at a (.code c :: .inLoop c :: kk)) cs w) b kk cs e a' w' := by
    intro k
    induction k with
    | zero => intro s a w h _; cases h
    | succ k ih =>
      intro s a w h hI
      rw [Loop.iter] at h
      have hr : ∃ o, step s = some o ∧ (∀ q, o = .done q → q = r) ∧ (∀ s', o = .next s' → Loop.iter step k s' = some r) := by
        split at h
        · cases h
        · rename_i q hq; exact ⟨_, hq, fun q' e => by cases e; exact Option.some.inj h, fun s' e => by cases e⟩
        · rename_i s' hq; exact ⟨_, hq, fun q' e => (by cases e), fun s'' e => by cases e; exact h⟩
      obtain ⟨o, ho, hd, hn⟩ := hr
      obtain ⟨e, a₁, w₁, hq, harr⟩ := round s o a w ho hd hI b (.inLoop c :: kk) cs
      cases e with
      | normal =>
        obtain ⟨s', he, hI₁⟩ := hq
        obtain ⟨e₂, a₂, w₂, hq₂, harr₂⟩ := ih s' a₁ w₁ (hn s' he) hI₁
        exact ⟨e₂, a₂, w₂, hq₂, .of_steps (Steps.trans harr (.one step_inLoop)) harr₂⟩
      | exit id => exact ⟨_, a₁, w₁, hq, .pass (x := .inLoop c) rfl (fun _ _ => .inl (by simp)) harr⟩
      | goto l => exact ⟨_, a₁, w₁, hq, .pass (x := .inLoop c) rfl (fun _ _ => .inl (by simp)) harr⟩
      | ret => exact ⟨_, a₁, w₁, hq, .pass (x := .inLoop c) rfl (fun _ _ => .inl (by simp)) harr⟩
      | panic ch => exact ⟨_, a₁, w₁, hq, .pass (x := .inLoop c) rfl (fun _ _ => .inl (by simp)) harr⟩
      | outgrown => exact ⟨_, a₁, w₁, hq, .pass (x := .inLoop c) rfl (fun _ _ => .inl (by simp)) harr⟩
  obtain ⟨e, a', w', hq, harr⟩ := key k s0 a w hk h0
  exact ⟨e, a', w', hq, .of_steps (.one step_loop) harr⟩

end Go.Sim

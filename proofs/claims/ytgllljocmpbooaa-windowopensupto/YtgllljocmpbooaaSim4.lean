/- Sim4: boxes, stores, loops, joins, returns. -/
import Derived.Test.YtgllljocmpbooaaSim3
set_option linter.unusedVariables false
set_option linter.unusedSimpArgs false
namespace Go.Sim
open Go

/-! ### Places inside a variable -/
/-- A place at an offset: how it is read and how it is written. -/
structure Pl {β α : Type} (K0 : Kd β) (off : Nat) (K : Kd α) (g : β → Option α) (st : β → α → β) : Prop where
  get : ∀ {F cs x y}, K0.rd F cs x → g x = some y → off + K.n ≤ cs.length ∧ K.rd F ((cs.drop off).take K.n) y
  set : ∀ {F cs x c y z}, K0.rd F cs x → g x = some z → K.rd F c y → K0.rd F (cs.take off ++ c ++ cs.drop (off + K.n)) (st x y)

theorem Pl.id {β : Type} {K0 : Kd β} : Pl K0 0 K0 some (fun _ y => y) where
  get := fun h e => by cases e; have := K0.len h; simp only [Nat.zero_add, List.drop_zero]; rw [← this, List.take_length]; exact ⟨Nat.le_refl _, h⟩
  set := fun h _ hy => by have := K0.len h; simpa [← this] using hy

theorem rdF.set {β : Type} {F : Fz} : ∀ {fs : List (Fld β)} {cs c : List Value} {x x' : β} {i : Nat} {f : Fld β}, rdF F fs cs x → fs[i]? = some f → f.K.rd F c (f.get x') → (∀ j g, fs[j]? = some g → j ≠ i → g.get x' = g.get x) →
    rdF F fs (cs.take (offF fs i) ++ c ++ cs.drop (offF fs i + f.K.n)) x'
  | [], _, _, _, _, _, _, _, h, _, _ => by cases h
  | g :: fs, cs, c, x, x', 0, f, ⟨c0, d, e, h, r⟩, hf, hy, ho => by
    cases hf; subst e; have hl := g.K.len h
    simp only [offF, List.take_zero, List.nil_append, Nat.zero_add]
    rw [← hl, List.drop_left]
    refine ⟨c, d, rfl, hy, ?_⟩
    have : ∀ (fs : List (Fld β)) (d : List Value), (∀ g ∈ fs, g.get x' = g.get x) → rdF F fs d x → rdF F fs d x' := by
      intro fs; induction fs with
      | nil => intro d _ h; exact h
      | cons g fs ih =>
        intro d hg ⟨c1, d1, e, h, r⟩
        exact ⟨c1, d1, e, by rw [hg g (by simp)]; exact h, ih d1 (fun g hg' => hg g (by simp [hg'])) r⟩
    refine this fs d (fun q hq => ?_) r
    obtain ⟨j, hj⟩ := List.getElem?_of_mem hq
    exact ho (j + 1) q (by simpa using hj) (by omega)
  | g :: fs, cs, c, x, x', i + 1, f, ⟨c0, d, e, h, r⟩, hf, hy, ho => by
    subst e; have hl := g.K.len h
    have ih := rdF.set r (i := i) (f := f) (x' := x') (by simpa using hf) hy (fun j q hq hj => ho (j + 1) q (by simpa using hq) (by omega))
    simp only [offF]
    rw [← hl, List.take_length_add_append, Nat.add_assoc, List.drop_length_add_append]
    refine ⟨c0, _, by simp, ?_, ih⟩
    rw [ho 0 g rfl (by omega)]; exact h

/-- Two records that differ in field i alone. -/
def butF {β : Type} (x x' : β) : List (Fld β) → Nat → Prop
  | [], _ => True
  | g :: fs, 0 => (∀ q ∈ fs, q.get x' = q.get x)
  | g :: fs, i + 1 => g.get x' = g.get x ∧ butF x x' fs i
theorem butF.spec {β : Type} {x x' : β} : ∀ {fs : List (Fld β)} {i : Nat}, butF x x' fs i → ∀ j g, fs[j]? = some g → j ≠ i → g.get x' = g.get x
  | [], _, _, j, g, h, _ => by cases h
  | q :: fs, 0, hb, j, g, h, hj => by
    cases j with
    | zero => exact absurd rfl hj
    | succ j => exact hb g (List.mem_of_getElem? (by simpa using h))
  | q :: fs, i + 1, hb, j, g, h, hj => by
    cases j with
    | zero => cases h; exact hb.1
    | succ j => exact butF.spec hb.2 j g (by simpa using h) (by omega)

theorem splice2 {cs c : List Value} {o m u q : Nat} (h : u + q ≤ m) : cs.take o ++ (((cs.drop o).take m).take u ++ c ++ ((cs.drop o).take m).drop (u + q)) ++ cs.drop (o + m) = cs.take (o + u) ++ c ++ cs.drop (o + u + q) := by
  rw [List.take_take, Nat.min_eq_left (by omega), List.drop_take]
  have h1 : cs.take (o + u) = cs.take o ++ (cs.drop o).take u := List.take_add
  have h2 : cs.drop (o + u + q) = ((cs.drop o).drop (u + q)).take (m - (u + q)) ++ cs.drop (o + m) := by
    have e := List.take_append_drop (m - (u + q)) ((cs.drop o).drop (u + q))
    rw [List.drop_drop, List.drop_drop, show o + (u + q) + (m - (u + q)) = o + m by omega, ← Nat.add_assoc] at e
    rw [List.drop_drop, ← Nat.add_assoc]; exact e.symm
  rw [h1, h2]; simp only [List.append_assoc]

/-- A field of a place. -/
theorem Pl.fld {β γ : Type} {K0 : Kd β} {o : Nat} {fs : List (Fld γ)} {g : β → Option γ} {st : β → γ → β} (p : Pl K0 o (kSt fs) g st) {i : Nat} {f : Fld γ} (hf : fs[i]? = some f) (s1 : γ → f.α → γ)
    (h1 : ∀ x y, f.get (s1 x y) = y) (h2 : ∀ x y, butF x (s1 x y) fs i) :
    Pl K0 (o + offF fs i) f.K (fun x => (g x).map f.get) (fun x y => match g x with | some z => st x (s1 z y) | none => x) where
  get := fun {F cs x y} h e => by
    obtain ⟨z, hz, rfl⟩ := Option.map_eq_some_iff.1 e
    obtain ⟨a, b⟩ := p.get h hz
    obtain ⟨a', b'⟩ := rdF.get b hf
    have hn : ((List.drop o cs).take (kSt fs).n).length = (kSt fs).n := by simp only [List.length_take, List.length_drop]; omega
    rw [hn] at a'
    refine ⟨by omega, ?_⟩
    rwa [take_drop_take a'] at b'
  set := fun {F cs x c y z'} h e hy => by
    obtain ⟨z, hz, rfl⟩ := Option.map_eq_some_iff.1 e
    obtain ⟨a, b⟩ := p.get h hz
    obtain ⟨a', b'⟩ := rdF.get b hf
    have hn : ((List.drop o cs).take (kSt fs).n).length = (kSt fs).n := by simp only [List.length_take, List.length_drop]; omega
    rw [hn] at a'
    have hs := rdF.set b hf (x' := s1 z y) (by rw [h1]; exact hy) (butF.spec (h2 z y))
    have := p.set h hz (c := _) (y := s1 z y) hs
    simp only [hz]
    refine cast (congrArg (fun l => K0.rd F l _) ?_) this
    exact splice2 a'

/-- An element of an array. -/
theorem Pl.ix {β α : Type} {K0 : Kd β} {o m : Nat} {K : Kd α} {g : β → Option (List α)} {st : β → List α → β} (p : Pl K0 o (kArr m K) g st) (i : Nat) :
    Pl K0 (o + i * K.n) K (fun x => (g x).bind fun xs => xs[i]?) (fun x y => match g x with | some xs => st x (xs.set i y) | none => x) where
  get := fun h e => by
    obtain ⟨xs, hz, e⟩ := Option.bind_eq_some_iff.1 e
    obtain ⟨a, hl, b⟩ := p.get h hz
    have hi : i < xs.length := (List.getElem?_eq_some_iff.1 e).1
    have h1 : (i + 1) * K.n ≤ m * K.n := Nat.mul_le_mul_right _ (by omega)
    rw [Nat.succ_mul] at h1
    have a' : o + m * K.n ≤ _ := a
    refine ⟨by omega, ?_⟩
    have := b.get e
    rwa [show (kArr m K).n = m * K.n from rfl, take_drop_take (by omega)] at this
  set := fun {F cs x c y z'} h e hy => by
    obtain ⟨xs, hz, e⟩ := Option.bind_eq_some_iff.1 e
    obtain ⟨a, hl, b⟩ := p.get h hz
    have hi : i < xs.length := (List.getElem?_eq_some_iff.1 e).1
    have hs := b.set hi hy
    have := p.set h hz (c := _) (y := xs.set i y) ⟨by simpa using hl, hs⟩
    simp only [hz]
    refine cast (congrArg (fun l => K0.rd F l _) ?_) this
    have h1 : (i + 1) * K.n ≤ m * K.n := Nat.mul_le_mul_right _ (by omega)
    rw [Nat.succ_mul] at h1
    exact splice2 (u := i * K.n) (q := K.n) (m := m * K.n) h1

/-- The same place, its reading and writing spelt otherwise. -/
theorem Pl.as {β α : Type} {K0 : Kd β} {o o' : Nat} {K : Kd α} {g g' : β → Option α} {st st' : β → α → β} (p : Pl K0 o K g st) (ho : o' = o) {x : β} {z : α} (hg : g x = some z) : g x = some z ∧ o' = o := ⟨hg, ho⟩

section
variable {P : Program} {ops : Array Oper} {Q : Exit → Act → World → Prop} {rest : List Oper} {F0 : Fz} {n : Nat} {E : List (Nat × SV)} {L : List Res}
variable {d : Nat} {op : Op} {ty : TypeId} {pos : String} {aft : Array Edge} {s : SV}

theorem run_newObj' (o : Obj) (w : World) : (newObj o).run P w = .ok w.heap.size (w.alloc o) := rfl
theorem chg_alloc (w : World) (o : Obj) : Chg w (w.alloc o) Frag.emp := ⟨rfl, rfl, rfl, fun b hb _ => Go.RowKit.Below.heap_alloc w o b hb⟩
theorem one_new (w : World) (o : Obj) : (∀ b, Frag.one w.heap.size o b ≠ none → w.heap.size ≤ b) ∧ ∀ b q, Frag.one w.heap.size o b = some q → (w.alloc o).heap[b]? = some q :=
  ⟨fun b hb => by
    by_cases h : b = w.heap.size
    · omega
    · exact absurd (Frag.one_ne o h) hb,
   fun b q h => by obtain ⟨rfl, rfl⟩ := Frag.one_some h; exact heap_alloc_new w _⟩

/-- 'box': a variable whose start is known; frozen at once. -/
theorem Under.bxF {α : Type} {K : Kd α} {T : TypeId} {X : Operand} {x : α} (hX : ev E X = some s) (hr : rdOf s K x) (hd : Nat.blt d n = true) (k : Under F0 n ((d, .ptr K x) :: E) L (wpList P ops Q rest)) :
    Under F0 n E L (wpList P ops Q (⟨some d, .box T X, ty, pos, aft, none⟩ :: rest)) :=
  Under.exec rfl fun F a w h0 hE hS => by
    have hv := hr F _ (hE.eval hX)
    obtain ⟨hn1, hn2⟩ := one_new w (.cells (a.eval X).cells T)
    obtain ⟨hle, hS'⟩ := St.growF hS (Frag.one w.heap.size (.cells (a.eval X).cells T)) (chg_alloc w _) hn1 hn2
    have hp : RdAt (F.add (Frag.one w.heap.size (.cells (a.eval X).cells T))) ⟨w.heap.size, 0, none⟩ K x := by
      refine ⟨(a.eval X).cells, T, (0, 0), rfl, ?_, by have := hv.sizeEq; simp only [Nat.zero_add]; omega, ?_⟩
      · have := hS.on; simp only [Fz.add]
        rw [StG.fresh hS _ (Nat.le_refl _)]; exact Frag.one_at _ _
      · have h1 := hv.rd; have h2 := K.len h1
        simp only [List.drop_zero]; rw [← h2, List.take_length]; exact K.mono hle h1
    have hrun : (execOp a.eval (⟨some d, .box T X, ty, pos, aft, none⟩ : Oper)).run P w = .ok (.value (.pointer (some ⟨w.heap.size, 0, none⟩))) (w.alloc (.cells (a.eval X).cells T)) := by
      simp [execOp, Instr.box, newVar, newRow, run_newObj']
    unfold Oper.wp; rw [hrun]
    exact k _ _ _ (Fz.tr h0 hle) ((hE.mono hle).put hd (by simp only [SV.ok]; exact ⟨_, rfl, hp⟩)) hS'
/-- 'box': a variable of the call's own. -/
theorem Under.bx {α : Type} {K : Kd α} {T : TypeId} {X : Operand} {x : α} (hX : ev E X = some s) (hr : rdOf s K x) (hd : Nat.blt d n = true)
    (k : ∀ b, Under F0 n ((d, .raw (.pointer (some ⟨b, 0, none⟩))) :: E) (.box K b T x :: L) (wpList P ops Q rest)) :
    Under F0 n E L (wpList P ops Q (⟨some d, .box T X, ty, pos, aft, none⟩ :: rest)) :=
  Under.exec rfl fun F a w h0 hE hS => by
    have hv := hr F _ (hE.eval hX)
    obtain ⟨hn1, hn2⟩ := one_new w (.cells (a.eval X).cells T)
    have hS' : St F (w.alloc (.cells (a.eval X).cells T)) (.box K w.heap.size T x :: L) := St.grow hS _ ⟨_, hv.rd, by simp⟩ (chg_alloc w _) hn1 hn2
    have hrun : (execOp a.eval (⟨some d, .box T X, ty, pos, aft, none⟩ : Oper)).run P w = .ok (.value (.pointer (some ⟨w.heap.size, 0, none⟩))) (w.alloc (.cells (a.eval X).cells T)) := by
      simp [execOp, Instr.box, newVar, newRow, run_newObj']
    unfold Oper.wp; rw [hrun]
    exact k _ _ _ _ h0 (hE.put hd (by simp only [SV.ok])) hS'
/-- The zero of a type. -/
def ZT {α : Type} (P : Program) (T : TypeId) (K : Kd α) (z : α) : Prop := ∃ v, (P.info? T).bind (·.zero) = some v ∧ ∀ F, K.rd F v.cells.toList z
theorem run_zeroValue' {T : TypeId} {v : Value} (h : (P.info? T).bind (·.zero) = some v) (w : World) : (zeroValue T).run P w = .ok v w := by
  obtain ⟨i, hi, hz⟩ := Option.bind_eq_some_iff.1 h
  simp [zeroValue, typeInfo, hi, hz]
/-- 'alloc': a variable of the call's own, its zero. -/
theorem Under.al {α : Type} {K : Kd α} {T : TypeId} {z : α} (hz : ZT P T K z) (hd : Nat.blt d n = true)
    (k : ∀ b, Under F0 n ((d, .raw (.pointer (some ⟨b, 0, none⟩))) :: E) (.box K b T z :: L) (wpList P ops Q rest)) :
    Under F0 n E L (wpList P ops Q (⟨some d, .alloc T, ty, pos, aft, none⟩ :: rest)) :=
  Under.exec rfl fun F a w h0 hE hS => by
    obtain ⟨v, hv, hrd⟩ := hz
    obtain ⟨hn1, hn2⟩ := one_new w (.cells v.cells T)
    have hS' : St F (w.alloc (.cells v.cells T)) (.box K w.heap.size T z :: L) := St.grow hS _ ⟨_, hrd F, by simp⟩ (chg_alloc w _) hn1 hn2
    have hrun : (execOp a.eval (⟨some d, .alloc T, ty, pos, aft, none⟩ : Oper)).run P w = .ok (.value (.pointer (some ⟨w.heap.size, 0, none⟩))) (w.alloc (.cells v.cells T)) := by
      simp [execOp, Instr.alloc, run_zeroValue' hv, newVar, newRow, run_newObj']
    unfold Oper.wp; rw [hrun]
    exact k _ _ _ _ h0 (hE.put hd (by simp only [SV.ok])) hS'

/-- A variable of the call's own is frozen: it is read only from now on. -/
theorem Under.frz {α : Type} {K : Kd α} {b t : Nat} {T : TypeId} {x : α} {X : Act → World → Prop} (ht : look E t = some (.raw (.pointer (some ⟨b, 0, none⟩)))) (k : Under F0 n ((t, .ptr K x) :: E) L X) :
    Under F0 n E (.box K b T x :: L) X := fun F a w h0 hE hS => by
  obtain ⟨h, ⟨cs, hrd, rfl⟩, hap, hle, hS'⟩ := hS.freeze
  have hbn : F.blk b = none := hap b (by rw [Frag.one_at]; simp)
  have hp : RdAt (F.add (Frag.one b (.cells cs.toArray T (0, 0)))) ⟨b, 0, none⟩ K x := by
    have h2 := K.len hrd
    refine ⟨cs.toArray, T, (0, 0), rfl, ?_, by simp; omega, ?_⟩
    · simp only [Fz.add, hbn]; exact Frag.one_at _ _
    · simp only [List.drop_zero]; rw [← h2, List.take_length]; exact hrd
  refine k _ a w (Fz.tr h0 hle) ⟨hE.defers, hE.size, fun u r e => ?_⟩ hS'
  rw [look_cons] at e; split at e
  · rename_i hk; subst hk; cases e
    obtain ⟨v, h1, h2⟩ := hE.at_ t _ ht
    simp only [SV.ok] at h2; subst h2
    exact ⟨_, h1, by simp only [SV.ok]; exact ⟨_, rfl, hp⟩⟩
  · exact (hE.mono hle).at_ u r e

theorem run_storeAt_cells {T : TypeId} {m : Nat} (hT : (P.info? T).map (·.size) = some m) {w : World} {b off : Nat} {cs : List Value} {e : TypeId} (hb : w.heap[b]? = some (.cells cs.toArray e (0, 0))) {v : Value} (hv : v.cells.size = m)
    (h1 : ∀ u ∈ v.cells.toList, u.oneCell' = true) (hle : off + m ≤ cs.length) :
    ∃ w', (Instr.storeAt T (.pointer (some ⟨b, off, none⟩)) v).run P w = .ok () w' ∧ w'.heap[b]? = some (.cells (cs.take off ++ v.cells.toList ++ cs.drop (off + m)).toArray e (0, 0)) ∧ Chg w w' (Frag.one b (.cells cs.toArray e (0, 0))) := by
  have hl : v.cells.toList.length = m := by simpa using hv
  have hst := run_storeCells_at P b off e v.cells.toList 0 cs.toArray w hb (by simp; omega) h1
  simp only [Nat.add_zero, hl] at hst
  refine ⟨w.setRow b (cs.take off ++ v.cells.toList ++ cs.drop (off + m)).toArray, ?_, setRow_heap w b cs.toArray _ e _ hb, ⟨rfl, rfl, rfl, fun k hk hn => setRow_other w b k _ (fun e => by rw [e, Frag.one_at] at hn; cases hn)⟩⟩
  simp only [Instr.storeAt, Instr.sureAddr, Sem.run_bind, Sem.run_pure, Result.andThen_ok, storeVar, run_sizeOf' hT, hv]
  simpa using hst
end
end Go.Sim

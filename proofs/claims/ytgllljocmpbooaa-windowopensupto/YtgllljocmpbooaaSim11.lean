/- Sim11: slice expressions, maps, calls outside. -/
import Derived.Test.YtgllljocmpbooaaSim10
import Derived.WideKeyRuns
import Derived.Carry
import Derived.Laws.Cover3
import Derived.Laws.Slices
import Derived.Lib.Bytealg
set_option linter.unusedVariables false
set_option linter.unusedSimpArgs false
namespace Go.Sim
open Go

/-- The elements l..h. -/
def sub {α : Type} (xs : List α) (l h : Int) : Option (List α) := bif decide (0 ≤ l) && decide (l ≤ h) && decide (h ≤ (xs.length : Int)) then some ((xs.take h.toNat).drop l.toNat) else none
theorem sub_some {α : Type} {xs ys : List α} {l h : Int} (e : sub xs l h = some ys) : 0 ≤ l ∧ l ≤ h ∧ h ≤ (xs.length : Int) ∧ ys = (xs.take h.toNat).drop l.toNat := by
  unfold sub at e
  cases hc : (decide (0 ≤ l) && decide (l ≤ h) && decide (h ≤ (xs.length : Int))) with
  | false => rw [hc] at e; cases e
  | true =>
    rw [hc] at e; simp only [Bool.and_eq_true, decide_eq_true_eq] at hc
    exact ⟨hc.1.1, hc.1.2, hc.2, (Option.some.inj e).symm⟩

section
variable {P : Program} {ops : Array Oper} {Q : Exit → Act → World → Prop} {rest : List Oper} {F0 : Fz} {n : Nat} {E : List (Nat × SV)} {L : List Res}
variable {d : Nat} {op : Op} {ty : TypeId} {pos : String} {aft : Array Edge} {s : SV}

theorem kSl.cut {α : Type} {K : Kd α} {F : Fz} {v : Value} {xs ys : List α} {l h : Int} (hv : (kSl K).val F v xs) (hs : sub xs l h = some ys) :
    ∃ a cap, v = .slice a xs.length cap ∧ xs.length ≤ cap ∧ (kSl K).val F (.slice (if cap = l.toNat then a else a.map (·.add (l.toNat * K.n))) (h.toNat - l.toNat) (cap - l.toNat)) ys := by
  obtain ⟨h0, h1, h2, rfl⟩ := sub_some hs
  obtain ⟨cs, ⟨a, cap, rfl, hcap, r⟩, rfl⟩ := hv
  refine ⟨a, cap, rfl, hcap, ?_⟩
  have hl : ((xs.take h.toNat).drop l.toNat).length = h.toNat - l.toNat := by simp; omega
  refine ⟨[_], ⟨_, cap - l.toNat, by rw [hl], by rw [hl]; omega, ?_⟩, rfl⟩
  rcases r with r | ⟨p, c, e, fr, rfl, hp, hb, hle, hrd⟩
  · exact .inl (by rw [hl]; omega)
  · by_cases hc : cap = l.toNat
    · exact .inl (by rw [hl]; omega)
    · refine .inr ⟨p.add (l.toNat * K.n), c, e, fr, by simp [hc], ?_, ?_, ?_, ?_⟩
      · obtain ⟨b, o, sp⟩ := p; simp only at hp; subst hp; rw [Addr.add_mid]
      · obtain ⟨b, o, sp⟩ := p; simp only at hp; subst hp; rw [Addr.add_mid]; exact hb
      · obtain ⟨b, o, sp⟩ := p; simp only at hp; subst hp; rw [Addr.add_mid, hl]
        have : l.toNat * K.n + (h.toNat - l.toNat) * K.n ≤ xs.length * K.n := by rw [← Nat.add_mul]; exact Nat.mul_le_mul_right _ (by omega)
        simp only at hle ⊢; omega
      · obtain ⟨b, o, sp⟩ := p; simp only at hp; subst hp; rw [Addr.add_mid, hl]
        have h3 := (hrd.take h.toNat).drop l.toNat
        simp only at h3 ⊢
        rw [List.take_take, Nat.min_eq_left (Nat.mul_le_mul_right _ (by omega)), List.drop_take, List.drop_drop] at h3
        rw [Nat.sub_mul]; exact h3
theorem elem_of {T e : TypeId} (hT : P.underlying T = some (.slice e)) : P.underlying T = some (.slice (P.elem T)) ∧ P.elem T = e := by
  have : P.elem T = e := by simp [Program.elem, hT]
  rw [this]; exact ⟨hT, rfl⟩
/-- xs[l:h] -/
theorem OpV.slLH {α : Type} {K : Kd α} {T e : TypeId} {X A B : Operand} {xs ys : List α} {k k' : IntKind} {l h : Int} (hs : sub xs l h = some ys) (hT : P.underlying T = some (.slice e)) (hz : (P.info? e).map (·.size) = some K.n)
    (hX : ev E X = some s) (hr : rdOf s (kSl K) xs) (hA : ev E A = some (.raw (.int k l))) (hB : ev E B = some (.raw (.int k' h))) : OpV P n E L ⟨some d, .slice T X (some A) (some B) none, ty, pos, aft, none⟩ (.val (kSl K) ys) := OpV.pure fun F a hE => by
  obtain ⟨h0, h1, h2, _⟩ := sub_some hs
  obtain ⟨a0, cap, he, hcap, hv⟩ := kSl.cut (hr F _ (hE.eval hX)) hs
  obtain ⟨e1, e2⟩ := elem_of hT
  refine ⟨_, by simp only [SV.ok]; exact hv, fun w => ?_⟩
  simp [execOp, he, hE.raw hA, hE.raw hB, run_sliceAt_slice (h := e1), run_slice_lh (ht := e1) (h0 := h0) (h1 := h1) (h2 := (by omega : h ≤ cap)), e2, run_sizeOf' hz, sliced]
/-- xs[:h] -/
theorem OpV.slH {α : Type} {K : Kd α} {T e : TypeId} {X B : Operand} {xs ys : List α} {k' : IntKind} {h : Int} (hs : sub xs 0 h = some ys) (hT : P.underlying T = some (.slice e)) (hz : (P.info? e).map (·.size) = some K.n)
    (hX : ev E X = some s) (hr : rdOf s (kSl K) xs) (hB : ev E B = some (.raw (.int k' h))) : OpV P n E L ⟨some d, .slice T X none (some B) none, ty, pos, aft, none⟩ (.val (kSl K) ys) := OpV.pure fun F a hE => by
  obtain ⟨h0, h1, h2, _⟩ := sub_some hs
  obtain ⟨a0, cap, he, hcap, hv⟩ := kSl.cut (hr F _ (hE.eval hX)) hs
  obtain ⟨e1, e2⟩ := elem_of hT
  refine ⟨_, by simp only [SV.ok]; exact hv, fun w => ?_⟩
  simp [execOp, he, hE.raw hB, run_sliceAt_slice (h := e1), run_slice_h (ht := e1) (h0 := h1) (h2 := (by omega : h ≤ cap)), e2, run_sizeOf' hz, sliced]
/-- xs[l:] -/
theorem OpV.slL {α : Type} {K : Kd α} {T e : TypeId} {X A : Operand} {xs ys : List α} {k : IntKind} {l : Int} (hs : sub xs l xs.length = some ys) (hT : P.underlying T = some (.slice e)) (hz : (P.info? e).map (·.size) = some K.n)
    (hX : ev E X = some s) (hr : rdOf s (kSl K) xs) (hA : ev E A = some (.raw (.int k l))) : OpV P n E L ⟨some d, .slice T X (some A) none none, ty, pos, aft, none⟩ (.val (kSl K) ys) := OpV.pure fun F a hE => by
  obtain ⟨h0, h1, h2, _⟩ := sub_some hs
  obtain ⟨a0, cap, he, hcap, hv⟩ := kSl.cut (hr F _ (hE.eval hX)) hs
  obtain ⟨e1, e2⟩ := elem_of hT
  refine ⟨_, by simp only [SV.ok]; exact hv, fun w => ?_⟩
  simp [execOp, he, hE.raw hA, run_sliceAt_slice (h := e1), run_slice_l (ht := e1) (h0 := h0) (h1 := h1), e2, run_sizeOf' hz, sliced]
/-- a[:] of a frozen array. -/
theorem OpV.slA {α : Type} {K : Kd α} {m : Nat} {T e : TypeId} {X : Operand} {xs : List α} (hT : P.underlying T = some (.array m e)) (hz : (P.info? e).map (·.size) = some K.n)
    (hX : ev E X = some (.ptr (kArr m K) xs)) : OpV P n E L ⟨some d, .slice T X none none none, ty, pos, aft, none⟩ (.val (kSl K) xs) := OpV.pure fun F a hE => by
  have := hE.eval hX
  simp only [SV.ok] at this
  obtain ⟨p, he, hp⟩ := this
  obtain ⟨c, e', fr, hs, hb, hle, hm, hrd⟩ := hp.out
  refine ⟨.slice (some p) m m, ?_, fun w => ?_⟩
  · simp only [SV.ok]
    refine ⟨[.slice (some p) m m], ⟨some p, m, by rw [hm], by rw [hm]; exact Nat.le_refl _, .inr ⟨p, c, e', fr, rfl, hs, hb, ?_, ?_⟩⟩, rfl⟩
    · rw [hm]; exact hle
    · rw [hm]; exact hrd
  · have ha : p.add 0 = p := by
      obtain ⟨b, o, sp⟩ := p; simp only at hs; subst hs; rw [Addr.add_mid]; simp
    simp [execOp, he, Instr.sliceAt, run_underlying hT, Instr.sureAddr, Instr.sliceBounds, run_sizeOf' hz, ha]
/-- Is a slice nil? It may be so only if it is empty. -/
theorem Under.eqNil {α : Type} {K : Kd α} {T u : TypeId} {X : Operand} {xs : List α} {T' : TypeId} (hg : P.underlying T = some (.slice T')) (hX : ev E X = some (.val (kSl K) xs)) (hd : Nat.blt d n = true)
    (k : ∀ b : Bool, (b = true → xs = []) → Under F0 n ((d, .raw (.bool b)) :: E) L (wpList P ops Q rest)) : Under F0 n E L (wpList P ops Q (⟨some d, .binOp .eql T X (.const (.slice none 0 0)) u, ty, pos, aft, none⟩ :: rest)) :=
  Under.exec rfl fun F a w h0 hE hS => by
    have hv := hE.eval hX
    simp only [SV.ok] at hv
    obtain ⟨cs, ⟨a0, cap, rfl, hcap, r⟩, hv⟩ := hv
    have hv : a.eval X = .slice a0 xs.length cap := hv
    have hrun : ∃ b : Bool, (b = true → xs = []) ∧ (execOp a.eval (⟨some d, .binOp .eql T X (.const (.slice none 0 0)) u, ty, pos, aft, none⟩ : Oper)).run P w = .ok (.value (.bool b)) w := by
      cases a0 with
      | none =>
        refine ⟨true, fun _ => ?_, ?_⟩
        · rcases r with r | ⟨p, _, _, _, h, _⟩
          · exact List.eq_nil_of_length_eq_zero r
          · cases h
        · have h2 : a.eval (.const (.slice none 0 0)) = .slice none 0 0 := rfl
          rw [execOp]; simp only [hv, h2, eqGuard]; simp [binOp, run_equal_slice_nil w T T' _ _ _ hg]
      | some p =>
        refine ⟨false, fun h => (by cases h), ?_⟩
        have h2 : a.eval (.const (.slice none 0 0)) = .slice none 0 0 := rfl
        rw [execOp]; simp only [hv, h2, eqGuard]; simp [binOp, run_equal_slice_nil w T T' _ _ _ hg]
    obtain ⟨b, hb, hr⟩ := hrun
    unfold Oper.wp; rw [hr]
    exact k b hb _ _ _ h0 (hE.put hd (by simp only [SV.ok])) hS
end
end Go.Sim

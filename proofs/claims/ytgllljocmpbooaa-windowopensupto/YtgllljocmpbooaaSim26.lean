/- Sim26: small rules. -/
import Derived.Test.YtgllljocmpbooaaSim25
import Derived.Laws.StructEq
set_option linter.unusedVariables false
set_option linter.unusedSimpArgs false
namespace Go.Sim
open Go

def itsX (full : List It) (m : Nat) : Xs → Nat → Bool
  | [], _ => true
  | x :: xs, e => (match full[x.2.2]? with | some (.sx e') => Nat.beq e' e | _ => false) && Nat.blt x.2.2 m && itsX full m xs (e + 1)
theorem itsX_spec {full : List It} {m : Nat} : ∀ {xs : Xs} {j : Nat}, itsX full m xs j = true → ∀ (e : Nat) (r0 r1 : Res) (q : Nat), xs[e]? = some (r0, r1, q) → full[q]? = some (It.sx (j + e)) ∧ q < m
  | [], j, _, e, r0, r1, q, h => by simp at h
  | x :: xs, j, hh, e, r0, r1, q, h => by
    simp only [itsX, Bool.and_eq_true, Nat.blt_eq] at hh
    obtain ⟨⟨h1, h2⟩, h3⟩ := hh
    cases e with
    | zero =>
      simp at h; subst h
      refine ⟨?_, h2⟩
      split at h1
      · rename_i e' he; simp only at he; rw [he, Nat.eq_of_beq_eq_true h1]; rfl
      · cases h1
    | succ e =>
      have := itsX_spec h3 e r0 r1 q (by simpa using h)
      have e2 : j + (e + 1) = j + 1 + e := by omega
      rw [e2]; exact this
def itsG (full : List It) (ps : List (Nat × Nat)) : List It → Nat → Bool
  | [], _ => true
  | .sx _ :: r, j => itsG full ps r (j + 1)
  | .v _ :: r, j => itsG full ps r (j + 1)
  | .v1 _ _ :: r, j => itsG full ps r (j + 1)
  | .al _ _ _ none :: r, j => itsG full ps r (j + 1)
  | .al _ _ _ (some q) :: r, j => (match full[q]? with | some (.st k) => Nat.beq k j | _ => false) && ps.any (fun x => Nat.beq x.1 j && Nat.beq x.2 q) && itsG full ps r (j + 1)
  | .st k :: r, j => (match full[k]? with | some (.al _ _ _ (some q)) => Nat.beq q j | _ => false) && itsG full ps r (j + 1)
theorem itsG_spec {full : List It} {ps : List (Nat × Nat)} : ∀ {r : List It} {j : Nat}, itsG full ps r j = true →
    (∀ (i : Nat) (sv : Value → SV) (r0 r1 : Value → Res) (q : Nat), r[i]? = some (It.al sv r0 r1 (some q)) → full[q]? = some (It.st (j + i)) ∧ (j + i, q) ∈ ps) ∧ ∀ (i k : Nat), r[i]? = some (It.st k) → ∃ (sv : Value → SV) (r0 r1 : Value → Res), full[k]? = some (It.al sv r0 r1 (some (j + i)))
  | [], j, _ => ⟨fun i sv r0 r1 q h => by simp at h, fun i k h => by simp at h⟩
  | it :: r, j, h => by
    have key : itsG full ps r (j + 1) = true → (∀ (i : Nat) (sv : Value → SV) (r0 r1 : Value → Res) (q : Nat), r[i]? = some (It.al sv r0 r1 (some q)) → full[q]? = some (It.st (j + (i + 1))) ∧ (j + (i + 1), q) ∈ ps) ∧ ∀ (i k : Nat), r[i]? = some (It.st k) → ∃ (sv : Value → SV) (r0 r1 : Value → Res), full[k]? = some (It.al sv r0 r1 (some (j + (i + 1)))) := fun h => by
      obtain ⟨a, b⟩ := itsG_spec h
      refine ⟨fun i sv r0 r1 q hi => ?_, fun i k hi => ?_⟩
      · have e : j + (i + 1) = j + 1 + i := by omega
        rw [e]; exact a i sv r0 r1 q hi
      · have e : j + (i + 1) = j + 1 + i := by omega
        rw [e]; exact b i k hi
    cases it with
    | sx s =>
      obtain ⟨a, b⟩ := key h
      refine ⟨fun i sv r0 r1 q hi => ?_, fun i k hi => ?_⟩ <;> cases i <;> simp at hi
      · exact a _ _ _ _ _ hi
      · exact b _ _ hi
    | v s =>
      obtain ⟨a, b⟩ := key h
      refine ⟨fun i sv r0 r1 q hi => ?_, fun i k hi => ?_⟩ <;> cases i <;> simp at hi
      · exact a _ _ _ _ _ hi
      · exact b _ _ hi
    | v1 k' s =>
      obtain ⟨a, b⟩ := key h
      refine ⟨fun i sv r0 r1 q hi => ?_, fun i k hi => ?_⟩ <;> cases i <;> simp at hi
      · exact a _ _ _ _ _ hi
      · exact b _ _ hi
    | al sv r0 r1 q =>
      cases q with
      | none =>
        obtain ⟨a, b⟩ := key h
        refine ⟨fun i sv r0 r1 q hi => ?_, fun i k hi => ?_⟩ <;> cases i <;> simp at hi
        · exact a _ _ _ _ _ hi
        · exact b _ _ hi
      | some q =>
        simp only [itsG, Bool.and_eq_true, List.any_eq_true] at h
        obtain ⟨⟨h1, x, hx, h2, h3⟩, h4⟩ := h
        obtain ⟨a, b⟩ := key h4
        refine ⟨fun i sv' r0' r1' q' hi => ?_, fun i k hi => ?_⟩
        · cases i with
          | zero =>
            simp at hi; obtain ⟨_, _, _, rfl⟩ := hi
            have e1 := Nat.eq_of_beq_eq_true h2
            have e2 := Nat.eq_of_beq_eq_true h3
            refine ⟨?_, by obtain ⟨x1, x2⟩ := x; simp only at e1 e2; subst e1; subst e2; exact hx⟩
            split at h1
            · rename_i k hk; rw [hk, Nat.eq_of_beq_eq_true h1]; rfl
            · cases h1
          | succ i => exact a _ _ _ _ _ (by simpa using hi)
        · cases i with
          | zero => simp at hi
          | succ i => exact b _ _ (by simpa using hi)
    | st k0 =>
      simp only [itsG, Bool.and_eq_true] at h
      obtain ⟨h1, h4⟩ := h
      obtain ⟨a, b⟩ := key h4
      refine ⟨fun i sv' r0' r1' q' hi => ?_, fun i k hi => ?_⟩
      · cases i with
        | zero => simp at hi
        | succ i => exact a _ _ _ _ _ (by simpa using hi)
      · cases i with
        | zero =>
          simp at hi; subst hi
          split at h1
          · rename_i sv r0 r1 q hk; exact ⟨sv, r0, r1, by rw [hk, Nat.eq_of_beq_eq_true h1]; rfl⟩
          · cases h1
        | succ i => exact b _ _ (by simpa using hi)
theorem ItsOk.of {its : List It} {ps : List (Nat × Nat)} {xs : Xs} {m : Nat} (h : itsG its ps its 0 = true) (h2 : itsX its m xs 0 = true) : ItsOk its ps xs m := by
  obtain ⟨a, b⟩ := itsG_spec h
  exact ⟨fun e r0 r1 q he => by have := itsX_spec h2 e r0 r1 q he; simpa using this, fun k sv r0 r1 q hk => by have := a k sv r0 r1 q hk; simpa using this, fun q k hk => by have := b q k hk; simpa using this⟩

section
variable {P : Program} {ops : Array Oper} {Q : Exit → Act → World → Prop} {rest : List Oper} {F0 : Fz} {n : Nat} {E : List (Nat × SV)} {L : List Res}
variable {d : Nat} {op : Op} {ty : TypeId} {pos : String} {aft : Array Edge} {s : SV}
theorem OpV.ptrNilF {α : Type} {K : Kd α} {x : α} {b : BinOp} {T u T' : TypeId} {X : Operand} (hg : P.underlying T = some (.pointer T')) (hb : b = .eql ∨ b = .neq) (hX : ev E X = some (.ptr K x)) :
    OpV P n E L ⟨some d, .binOp b T X (.const (.pointer none)) u, ty, pos, aft, none⟩ (.raw (.bool (if b = .eql then false else true))) := OpV.rawv fun F a hE w => by
  have h2 : a.eval (.const (.pointer none)) = .pointer none := rfl
  have hg' : P.underlying T = some (.pointer (P.pointee T)) := by simp [Program.pointee, hg]
  have := hE.eval hX
  simp only [SV.ok] at this
  obtain ⟨p, he, hp⟩ := this
  rw [execOp]; simp only [he, h2, eqGuard]
  rcases hb with rfl | rfl
  · simp [run_eql_pointer_nil w T _ hg']
  · simp [run_neq_pointer_nil w T _ hg']
theorem OpV.eqB {T u : TypeId} {X Y : Operand} {x y : Bool} (hT : P.underlying T = some .bool) (hX : ev E X = some (.raw (.bool x))) (hY : ev E Y = some (.raw (.bool y))) :
    OpV P n E L ⟨some d, .binOp .eql T X Y u, ty, pos, aft, none⟩ (.raw (.bool (x == y))) := OpV.rawv fun F a hE w => by
  have hq := run_equalIn_bool w 9999 T x y hT
  rw [execOp]; simp only [hE.raw hX, hE.raw hY, eqGuard]
  simp [binOp, Op.equal, Op.maxDepth, hq]
theorem OpV.eqBn {T u : TypeId} {X Y : Operand} {x y : Bool} (hT : P.underlying T = some .bool) (hX : ev E X = some (.raw (.bool x))) (hY : ev E Y = some (.raw (.bool y))) :
    OpV P n E L ⟨some d, .binOp .neq T X Y u, ty, pos, aft, none⟩ (.raw (.bool (x != y))) := OpV.rawv fun F a hE w => by
  have hq := run_equalIn_bool w 9999 T x y hT
  rw [execOp]; simp only [hE.raw hX, hE.raw hY, eqGuard]
  simp [binOp, Op.equal, Op.maxDepth, hq, bne]
/-! ### Equality of structs -/
theorem EqK.up {α : Type} [BEq α] {T : TypeId} {K : Kd α} {dep D : Nat} (h : EqK P T K dep) (hle : Nat.ble dep D = true) : EqK P T K D := ⟨fun {d F v u x y w} h1 h2 => by
  have := Nat.le_of_ble_eq_true hle
  have e : d + D = (d + (D - dep)) + dep := by omega
  rw [e]; exact h.eq h1 h2⟩
theorem EqK.str {T : TypeId} (hT : P.underlying T = some .string) : EqK P T kStr 1 := ⟨fun {d F v u x y w} h1 h2 => by
  obtain ⟨s1, e1, rfl⟩ := val_str h1
  obtain ⟨s2, e2, rfl⟩ := val_str h2
  subst e1; subst e2
  have hq : ((s1.data.toList.map fun b => (b.toNat : Int)) == (s2.data.toList.map fun b => (b.toNat : Int))) = (s1.toList == s2.toList) := by
    rw [Bool.eq_iff_iff, ByteArray.toList_eq, ByteArray.toList_eq]; simp only [beq_iff_eq]; exact ⟨fun h => by rw [str_inj h], fun h => by rw [h]⟩
  rw [hq]; exact run_equalIn_string w d T s1 s2 hT⟩
def EqFs (P : Program) (D : Nat) {β : Type} : List Field → List (Fld β) → Nat → (β → β → Bool) → Prop
  | [], [], _, q => ∀ x y, q x y = true
  | f :: ff, k :: fs, o, q => f.name ≠ "_" ∧ f.offset = o ∧ KT P f.type k.K ∧ ∃ (i : BEq k.α), EqK P f.type k.K D ∧ ∃ q', (∀ x y, q x y = (k.get x == k.get y && q' x y)) ∧ EqFs P D ff fs (o + k.K.n) q'
  | _, _, _, _ => False
theorem eqFs_run {β : Type} {D d : Nat} {F : Fz} {w : World} {cs ds : List Value} {x y : β} : ∀ {ff : List Field} {fs : List (Fld β)} {o : Nat} {q : β → β → Bool}, EqFs P D ff fs o q → o + nF fs = cs.length → o + nF fs = ds.length → rdF F fs (cs.drop o) x → rdF F fs (ds.drop o) y →
    (Op.eqFields (d + D) cs.toArray ds.toArray ff).run P w = .ok (q x y) w
  | [], [], o, q, h, _, _, _, _ => by simp [Op.eqFields, h x y]
  | f :: ff, k :: fs, o, q, ⟨h1, h2, h3, i, h4, q', h5, h6⟩, l1, l2, ⟨c1, d1, e1, a1, b1⟩, ⟨c2, d2, e2, a2, b2⟩ => by
    subst h2
    simp only [nF] at l1 l2
    have p1 := run_part h3 cs.toArray f.offset (by simp; omega) w
    have p2 := run_part h3 ds.toArray f.offset (by simp; omega) w
    have t1 : (cs.drop f.offset).take k.K.n = c1 := by rw [e1, ← k.K.len a1, List.take_left]
    have t2 : (ds.drop f.offset).take k.K.n = c2 := by rw [e2, ← k.K.len a2, List.take_left]
    simp only [t1, t2] at p1 p2
    have hq := h4.eq (d := d) (w := w) ⟨c1, a1, rfl⟩ ⟨c2, a2, rfl⟩
    have e3 : cs.drop (f.offset + k.K.n) = d1 := by rw [← List.drop_drop, e1, ← k.K.len a1, List.drop_left]
    have e4 : ds.drop (f.offset + k.K.n) = d2 := by rw [← List.drop_drop, e2, ← k.K.len a2, List.drop_left]
    have ih := eqFs_run (cs := cs) (ds := ds) h6 (by omega) (by omega) (by rw [e3]; exact b1) (by rw [e4]; exact b2) (d := d) (w := w)
    rw [h5]
    simp only [Op.eqFields, if_pos h1, Sem.run_bind, p1, p2, hq, Result.andThen_ok]
    cases hxy : (k.get x == k.get y) with
    | false => simp
    | true => simp only [Bool.not_true, Bool.false_eq_true, if_false, Bool.true_and]; exact ih
  | [], _ :: _, _, _, h, _, _, _, _ => h.elim
  | _ :: _, [], _, _, h, _, _, _, _ => h.elim
theorem EqK.st {β : Type} [BEq β] {T : TypeId} {fs : List (Fld β)} {ff : Array Field} {D : Nat} (hT : P.underlying T = some (.struct ff)) (hp : P.stoodInHeld T = false) (h : EqFs P D ff.toList fs 0 (fun x y => x == y)) : EqK P T (kSt fs) (D + 1) := ⟨fun {d F v u x y w} h1 h2 => by
  obtain ⟨e1, r1⟩ := asAgg_of h1 rfl
  obtain ⟨e2, r2⟩ := asAgg_of h2 rfl
  have hf : P.fieldsOf T = ff := by simp [Program.fieldsOf, hT]
  rw [e1, e2, show d + (D + 1) = (d + D) + 1 by omega, run_equalIn_struct w (d + D) T _ _ (by rw [hf]; exact hT) hp, hf]
  exact eqFs_run h (by rw [Nat.zero_add]; exact ((kSt fs).len r1).symm) (by rw [Nat.zero_add]; exact ((kSt fs).len r2).symm) (by rw [List.drop_zero]; exact r1) (by rw [List.drop_zero]; exact r2)⟩
/-! ### Calls whose operands read otherwise -/
inductive CvL : List SV → List SV → Prop where
  | nil : CvL [] []
  | sm {x : SV} {l l' : List SV} (r : CvL l l') : CvL (x :: l) (x :: l')
  | rd {α : Type} {K : Kd α} {x : α} {s0 : SV} {l l' : List SV} (h : rdOf s0 K x) (r : CvL l l') : CvL (s0 :: l) (.val K x :: l')
theorem CvL.oks {F : Fz} : ∀ {l l' : List SV} {vs : List Value}, CvL l l' → SV.oks F vs l → SV.oks F vs l'
  | _, _, [], .nil, h => h
  | _, _, _ :: _, .nil, h => by simp only [SV.oks] at h
  | _, _, [], .sm r, h => by simp only [SV.oks] at h
  | _, _, _ :: _, .sm r, h => by simp only [SV.oks] at h ⊢; exact ⟨h.1, CvL.oks r h.2⟩
  | _, _, [], .rd q r, h => by simp only [SV.oks] at h
  | _, _, _ :: _, .rd q r, h => by simp only [SV.oks] at h ⊢; exact ⟨by simp only [SV.ok]; exact q _ _ h.1, CvL.oks r h.2⟩
theorem Ok.cv {f : FuncId} {l l' : List SV} {L L' : List Res} (c : CvL l l') (h : Ok P f l' L s L') : Ok P f l L s L' := fun F w vs hv hS => h F w vs (c.oks hv) hS
theorem OkX.cv {f : FuncId} {l l' : List SV} {L : List Res} {C : Type} {s : C → SV} {L' : C → List Res} (c : CvL l l') (h : OkX P f l' L s L') : OkX P f l L s L' := fun F w vs hv hS => h F w vs (c.oks hv) hS
end
end Go.Sim

/- Sim5: stores and loads in a variable of the call's own; loops and joins; regions of any order. -/
import Derived.Test.YtgllljocmpbooaaSim4
set_option linter.unusedVariables false
set_option linter.unusedSimpArgs false
namespace Go.Sim
open Go
section
variable {P : Program} {ops : Array Oper} {Q : Exit → Act → World → Prop} {rest : List Oper} {F0 : Fz} {n : Nat} {E : List (Nat × SV)} {L : List Res}
variable {d : Nat} {op : Op} {ty : TypeId} {pos : String} {aft : Array Edge} {s : SV}

/-- A store into a variable of the call's own. -/
theorem Under.st {α β : Type} {K0 : Kd β} {K : Kd α} {b off : Nat} {T T0 : TypeId} {X V : Operand} {x x' : β} {y z : α} {g : β → Option α} {st : β → α → β} (p : Pl K0 off K g st) (hg : g x = some z) (hx : st x y = x')
    (hT : (P.info? T).map (·.size) = some K.n) (hX : ev E X = some (.raw (.pointer (some ⟨b, off, none⟩)))) (hV : ev E V = some s) (hr : rdOf s K y) (k : Under F0 n E (.box K0 b T0 x' :: L) (wpList P ops Q rest)) :
    Under F0 n E (.box K0 b T0 x :: L) (wpList P ops Q (⟨none, .store T X V, ty, pos, aft, none⟩ :: rest)) :=
  Under.exec rfl fun F a w h0 hE hS => by
    have hv := hr F _ (hE.eval hV)
    obtain ⟨h, ⟨cs, hrd, rfl⟩, hon⟩ := hS.head
    have hb : w.heap[b]? = some (.cells cs.toArray T0 (0, 0)) := hon b _ (Frag.one_at _ _)
    have hle := (p.get hrd hg).1
    obtain ⟨w', hrun, hb', hc⟩ := run_storeAt_cells (P := P) hT hb (v := a.eval V) hv.sizeEq (K.one hv.rd) hle
    have hS' : St F w' (.box K0 b T0 x' :: L) := hS.turn fun h2 ⟨cs2, hrd2, e2⟩ hon2 => by
      subst e2
      have hb2 : w.heap[b]? = some (.cells cs2.toArray T0 (0, 0)) := hon2 b _ (Frag.one_at _ _)
      have : cs2 = cs := by
        rw [hb] at hb2
        have := Option.some.inj hb2
        simp only [Obj.cells.injEq, and_true] at this
        exact (List.toArray_inj this).symm
      subst this
      refine ⟨Frag.one b (.cells (cs2.take off ++ (a.eval V).cells.toList ++ cs2.drop (off + K.n)).toArray T0 (0, 0)), ⟨_, ?_, rfl⟩, hc, fun k hk => .inl ?_, fun k o e => ?_⟩
      · rw [← hx]; exact p.set hrd2 hg hv.rd
      · by_cases hkb : k = b
        · subst hkb; rw [Frag.one_at]; simp
        · exact absurd (Frag.one_ne _ hkb) hk
      · obtain ⟨rfl, rfl⟩ := Frag.one_some e; exact hb'
    unfold Oper.wp
    simp only [execOp, hE.raw hX, Sem.run_bind, hrun, Result.andThen_ok, Sem.run_pure, Oper.upon]
    exact k F _ _ h0 hE hS'

/-- A load out of a variable of the call's own. -/
theorem Under.ldM {α β : Type} {K0 : Kd β} {K : Kd α} {b off : Nat} {T T0 : TypeId} {X : Operand} {x : β} {y : α} {g : β → Option α} {st : β → α → β} (p : Pl K0 off K g st) (hg : g x = some y)
    (hT : KT P T K) (hX : ev E X = some (.raw (.pointer (some ⟨b, off, none⟩)))) (hd : Nat.blt d n = true) (k : Under F0 n ((d, .val K y) :: E) (.box K0 b T0 x :: L) (wpList P ops Q rest)) :
    Under F0 n E (.box K0 b T0 x :: L) (wpList P ops Q (⟨some d, .load T X, ty, pos, aft, none⟩ :: rest)) :=
  Under.exec rfl fun F a w h0 hE hS => by
    obtain ⟨h, ⟨cs, hrd, rfl⟩, hon⟩ := hS.head
    have hb : w.heap[b]? = some (.cells cs.toArray T0 (0, 0)) := hon b _ (Frag.one_at _ _)
    obtain ⟨hle, hy⟩ := p.get hrd hg
    have hrun := run_loadAt_cells hT (w := w) (p := ⟨b, off, none⟩) rfl hb (by simpa using hle)
    unfold Oper.wp
    simp only [execOp, hE.raw hX, Sem.run_bind, hrun, Result.andThen_ok, Sem.run_pure, Oper.upon]
    exact k F _ _ h0 (hE.put hd (by simp only [SV.ok]; exact ⟨_, by simpa using hy, rfl⟩)) hS
theorem Under.rawI {k : IntKind} {x : Int} {t : Nat} {X : Act → World → Prop} (h : look E t = some (.val (kInt k) x)) (kk : Under F0 n ((t, .raw (.int k x)) :: E) L X) : Under F0 n E L X := fun F a w h0 hE hS =>
  kk F a w h0 ⟨hE.defers, hE.size, fun u r e => by
    rw [look_cons] at e; split at e
    · rename_i hk; subst hk; cases e
      obtain ⟨v, h1, h2⟩ := hE.at_ t _ h
      exact ⟨v, h1, by simp only [SV.ok] at *; exact val_int.1 h2⟩
    · exact hE.at_ u r e⟩ hS
theorem Under.rawB {x : Bool} {t : Nat} {X : Act → World → Prop} (h : look E t = some (.val kBool x)) (kk : Under F0 n ((t, .raw (.bool x)) :: E) L X) : Under F0 n E L X := fun F a w h0 hE hS =>
  kk F a w h0 ⟨hE.defers, hE.size, fun u r e => by
    rw [look_cons] at e; split at e
    · rename_i hk; subst hk; cases e
      obtain ⟨v, h1, h2⟩ := hE.at_ t _ h
      exact ⟨v, h1, by simp only [SV.ok] at *; exact val_bool.1 h2⟩
    · exact hE.at_ u r e⟩ hS
/-- A kind whose cells are known from what it reads as. -/
  class Det {α : Type} (K : Kd α) : Prop where
  det : ∀ {F G cs ds x}, K.rd F cs x → K.rd G ds x → cs = ds
instance {k : IntKind} : Det (kInt k) := ⟨fun h h' => by cases h; cases h'; rfl⟩
instance : Det kBool := ⟨fun h h' => by cases h; cases h'; rfl⟩
theorem rdAll.det {α : Type} {K : Kd α} [Det K] : ∀ {xs : List α} {F G : Fz} {cs ds : List Value}, rdAll K F cs xs → rdAll K G ds xs → cs = ds
  | [], _, _, _, _, h, h' => by cases h; cases h'; rfl
  | x :: xs, _, _, _, _, ⟨c, d, e, h, r⟩, ⟨c', d', e', h', r'⟩ => by subst e; subst e'; rw [Det.det h h', rdAll.det r r']
instance {α : Type} {m : Nat} {K : Kd α} [Det K] : Det (kArr m K) := ⟨fun h h' => rdAll.det h.2 h'.2⟩
/-- A load of such a kind out of a variable of the call's own, in a region of any order too. -/
theorem OpV.ldM {α β : Type} {K0 : Kd β} {K : Kd α} [Det K] {b off : Nat} {T T0 : TypeId} {X : Operand} {x : β} {y : α} {g : β → Option α} {st : β → α → β} (p : Pl K0 off K g st) (hg : g x = some y)
    (hT : KT P T K) (hX : ev E X = some (.raw (.pointer (some ⟨b, off, none⟩)))) (hw : ∃ F cs, K.rd F cs y ∧ ∀ G, K.rd G cs y) :
    OpV P n E (.box K0 b T0 x :: L) ⟨some d, .load T X, ty, pos, aft, none⟩ (.val K y) := fun F a hE => by
  obtain ⟨_, cs0, _, hcs⟩ := hw
  refine ⟨pack K.agg cs0, by simp only [SV.ok]; exact ⟨cs0, hcs F, rfl⟩, fun w ⟨G, _, hS⟩ => ?_⟩
  obtain ⟨h, ⟨cs, hrd, rfl⟩, hon⟩ := hS.head
  have hb : w.heap[b]? = some (.cells cs.toArray T0 (0, 0)) := hon b _ (Frag.one_at _ _)
  obtain ⟨hle, hy⟩ := p.get hrd hg
  have hrun := run_loadAt_cells hT (w := w) (p := ⟨b, off, none⟩) rfl hb (by simpa using hle)
  have he := Det.det hy (hcs F)
  unfold Oper.quietAt
  simp only [execOp, hE.raw hX, Sem.run_bind, hrun, Result.andThen_ok, Sem.run_pure, Oper.quietUpon, true_and]
  rw [← he]
/-- The address of a field of a variable of the call's own. -/
theorem OpV.fdM {T : TypeId} {X : Operand} {i b off o m : Nat} (hT : fldB P T i = some (o, m + 1)) (hX : ev E X = some (.raw (.pointer (some ⟨b, off, none⟩)))) :
    OpV P n E L ⟨some d, .fieldAddr T X i, ty, pos, aft, none⟩ (.raw (.pointer (some ⟨b, off + o, none⟩))) := OpV.rawv fun F a hE w => by
  simp [execOp, hE.raw hX, run_fieldAt hT ⟨b, off, none⟩ rfl w]
theorem OpV.ixM {T e : TypeId} {X I : Operand} {b off m sz : Nat} {q : IntKind} {i : Int} (h0 : 0 ≤ i) (h1 : i < m) (hT : P.underlying T = some (.array m e)) (hs : (P.info? e).map (·.size) = some sz)
    (hX : ev E X = some (.raw (.pointer (some ⟨b, off, none⟩)))) (hI : ev E I = some (.raw (.int q i))) : OpV P n E L ⟨some d, .indexAddr T X I, ty, pos, aft, none⟩ (.raw (.pointer (some ⟨b, off + i.toNat * sz, none⟩))) := OpV.rawv fun F a hE w => by
  simp [execOp, hE.raw hX, hE.raw hI, run_indexAt_ar hT hs h0 h1 (p := ⟨b, off, none⟩) rfl w]

/-! ### Struct values -/
/-- The parts of a composite literal, one behind the other, each setting its field. -/
inductive Bld {β : Type} (E : List (Nat × SV)) (fs : List (Fld β)) : List (Nat × Operand) → β → β → Prop where
  | nil (x : β) : Bld E fs [] x x
  | cons {i : Nat} {X : Operand} {ps : List (Nat × Operand)} {x x' y : β} {f : Fld β} {s : SV} (hf : fs[i]? = some f) (hX : ev E X = some s) (hr : rdOf s f.K (f.get x')) (hb : butF x x' fs i) (r : Bld E fs ps x' y) : Bld E fs ((i, X) :: ps) x y

/-- The places of a struct's fields, off the program's table, are those of the kind. -/
def plcB {β : Type} (P : Program) (T : TypeId) (fs : List (Fld β)) : Prop :=
  ∃ ff, P.underlying T = some (.struct ff) ∧ ∀ i f, fs[i]? = some f → ∃ g, ff[i]? = some g ∧ g.offset = offF fs i ∧ (P.info? g.type).map (·.size) = some f.K.n

theorem foldl_set (cs : List Value) : ∀ (vs : List Value) (o : Nat) (m : Nat), o + vs.length ≤ cs.length → True := fun _ _ _ _ => trivial
end
end Go.Sim

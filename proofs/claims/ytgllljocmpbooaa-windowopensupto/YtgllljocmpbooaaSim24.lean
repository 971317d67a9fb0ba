/- Sim24: addresses in what is owned, in regions of any order too; a box that turns raw; strings. -/
import Derived.Test.YtgllljocmpbooaaSim23
set_option linter.unusedVariables false
set_option linter.unusedSimpArgs false
namespace Go.Sim
open Go

section
variable {P : Program} {ops : Array Oper} {Q : Exit → Act → World → Prop} {rest : List Oper} {F0 : Fz} {n : Nat} {E : List (Nat × SV)} {L : List Res}
variable {d : Nat} {op : Op} {ty : TypeId} {pos : String} {aft : Array Edge} {s : SV}

theorem OpV.rawc {o : Oper} {v : Value} (h : ∀ F a, Env F a n E → ∀ w G, F ≤ G → St G w L → (execOp a.eval o).run P w = .ok (.value v) w) : OpV P n E L o (.raw v) := fun F a hE =>
  ⟨v, by simp only [SV.ok], fun w ⟨G, hg, hS⟩ => by unfold Oper.quietAt; rw [h F a hE w G hg hS]; exact ⟨rfl, rfl⟩⟩
/-- The address of an element of an array that lies in what is owned. -/
theorem OpV.ixP {α β : Type} {r : Res} {R : β → Res} {K0 : Kd β} {K : Kd α} {b off m : Nat} {x : β} {xs : List α} {up : List α → β} {z : α} {T e : TypeId} {X I : Operand} {q : IntKind} {i : Int} (hb : Blk1 r R b K0 x) (p : At K0 x off (kArr m K) xs up)
    (hi : idx xs i = some z) (hT : P.underlying T = some (.array m e)) (hs : (P.info? e).map (·.size) = some K.n) (hX : ev E X = some (.raw (.pointer (some ⟨b, off, none⟩)))) (hI : ev E I = some (.raw (.int q i))) :
    OpV P n E (r :: L) ⟨some d, .indexAddr T X I, ty, pos, aft, none⟩ (.raw (.pointer (some ⟨b, off + i.toNat * K.n, none⟩))) := OpV.rawc fun F a hE w G hg hS => by
  obtain ⟨h, hh, hon⟩ := hS.head
  obtain ⟨cs, post, e, rfl, hrd, _⟩ := hb.out hh
  obtain ⟨_, hm, _⟩ := p.get hrd
  obtain ⟨h0, h1, _⟩ := idx_some hi
  simp [execOp, hE.raw hX, hE.raw hI, run_indexAt_ar hT hs h0 (by omega) (p := ⟨b, off, none⟩) rfl w]
/-- The address of an element of an owned slice. -/
theorem OpV.ixO {α : Type} {K : Kd α} {T e e' : TypeId} {X I : Operand} {v : Value} {xs : List α} {x : α} {q : IntKind} {i : Int} (hx : idx xs i = some x) (hT : P.underlying T = some (.slice e)) (hs : (P.info? e).map (·.size) = some K.n)
    (hX : ev E X = some (.raw v)) (hI : ev E I = some (.raw (.int q i))) : OpV P n E (.own K v e' xs :: L) ⟨some d, .indexAddr T X I, ty, pos, aft, none⟩ (.raw (.pointer (some ⟨blkOf v, 0 + i.toNat * K.n, none⟩))) := OpV.rawc fun F a hE w G hg hS => by
  obtain ⟨h0', h1, _⟩ := idx_some hx
  obtain ⟨f, hf, _⟩ := hS
  have hv := hE.raw hX
  rcases hf with ⟨rfl, rfl, _⟩ | ⟨g, cap, cur, rfl, _⟩
  · simp at h1; omega
  · have hr := run_indexAt_sl (P := P) hT hs (p := ⟨g, 0, none⟩) (m := xs.length) (c := cap) (q := q) h0' h1 rfl w
    simp [execOp, hv, hE.raw hI, hr, blkOf]
/-- The length of an owned slice. -/
theorem OpV.lenO {α : Type} {K : Kd α} {v : Value} {e e' t : TypeId} {xs : List α} {X : Operand} (ht : P.underlying t = some (.slice e)) (hX : ev E X = some (.raw v)) :
    OpV P n E (.own K v e' xs :: L) ⟨some d, .call ⟨.builtin .len, #[X], #[t]⟩, ty, pos, aft, none⟩ (.raw (.int .i64 xs.length)) := OpV.rawc fun F a hE w G hg hS => by
  obtain ⟨f, hf, _⟩ := hS
  have hv := hE.raw hX
  rcases hf with ⟨rfl, rfl, _⟩ | ⟨g, cap, cur, rfl, _⟩ <;> simp [execOp, resolve, invoke, builtin, Builtin.len_, run_underlying ht, hv, goInt]
theorem OpV.lenMp {α β : Type} {K : Kd α} {V : Kd β} {b : Nat} {ps : List (α × β)} {X : Operand} {t kt et : TypeId} (ht : P.underlying t = some (.map kt et)) (hX : ev E X = some (.raw (.map (some b)))) :
    OpV P n E (.mp K V b ps :: L) ⟨some d, .call ⟨.builtin .len, #[X], #[t]⟩, ty, pos, aft, none⟩ (.raw (.int .i64 ps.length)) := OpV.rawc fun F a hE w G hg hS => by
  obtain ⟨h, ⟨es, clock, hrd, rfl⟩, hon⟩ := hS.head
  have hb : w.heap[b]? = some (.map es clock) := hon b _ (Frag.one_at _ _)
  have hl := hrd.1.len
  simp only [Array.length_toList] at hl
  simp [execOp, resolve, invoke, builtin, Builtin.len_, run_underlying ht, hE.raw hX, Go.MapKept.run_getObj_map (P := P) hb, goInt, hl]
/-- A nil slice's or a nil pointer's test; whatever is known of a slice's value. -/
theorem OpV.eqNilO {T u : TypeId} {X : Operand} {T' : TypeId} (hg : P.underlying T = some (.slice T')) (hX : ev E X = some (.raw (.slice none 0 0))) :
    OpV P n E L ⟨some d, .binOp .eql T X (.const (.slice none 0 0)) u, ty, pos, aft, none⟩ (.raw (.bool true)) := OpV.rawv fun F a hE w => by
  have h2 : a.eval (.const (.slice none 0 0)) = .slice none 0 0 := rfl
  rw [execOp]; simp only [hE.raw hX, h2, eqGuard]; simp [binOp, run_equal_slice_nil w T T' _ _ _ hg]
theorem OpV.ptrNil {b : BinOp} {T u T' : TypeId} {X : Operand} {p : Option Addr} (hg : P.underlying T = some (.pointer T')) (hb : b = .eql ∨ b = .neq) (hX : ev E X = some (.raw (.pointer p))) :
    OpV P n E L ⟨some d, .binOp b T X (.const (.pointer none)) u, ty, pos, aft, none⟩ (.raw (.bool (if b = .eql then p.isNone else p.isSome))) := OpV.rawv fun F a hE w => by
  have h2 : a.eval (.const (.pointer none)) = .pointer none := rfl
  have hg' : P.underlying T = some (.pointer (P.pointee T)) := by simp [Program.pointee, hg]
  rw [execOp]; simp only [hE.raw hX, h2, eqGuard]
  rcases hb with rfl | rfl
  · simp [run_eql_pointer_nil w T p hg']
  · cases p <;> simp [run_neq_pointer_nil w T _ hg']
theorem OpV.nilChk {X : Operand} {v : Value} (hX : ev E X = some (.raw v)) (hv : ∃ p, v = .pointer (some p)) : OpV P n E L ⟨some d, .nilCheck X, ty, pos, aft, none⟩ (.raw v) := OpV.rawv fun F a hE w => by
  obtain ⟨p, rfl⟩ := hv
  simp [execOp, hE.raw hX]
theorem OpV.nilChkP {α : Type} {K : Kd α} {X : Operand} {x : α} (hX : ev E X = some (.ptr K x)) : OpV P n E L ⟨some d, .nilCheck X, ty, pos, aft, none⟩ (.ptr K x) := OpV.pure fun F a hE => by
  have := hE.eval hX
  have h2 := this
  simp only [SV.ok] at this
  obtain ⟨p, he, hp⟩ := this
  exact ⟨_, h2, fun w => by simp [execOp, he]⟩
/-- A whole variable written over, reading otherwise from then on. -/
theorem Under.stW {α β : Type} {K0 : Kd β} {K : Kd α} {b : Nat} {T T0 : TypeId} {X V : Operand} {x : β} {y : α} (hn : K.n = K0.n) (hT : (P.info? T).map (·.size) = some K.n) (hX : ev E X = some (.raw (.pointer (some ⟨b, 0, none⟩)))) (hV : ev E V = some s) (hr : rdOf s K y)
    (k : Under F0 n E (.box K b T0 y :: L) (wpList P ops Q rest)) : Under F0 n E (.box K0 b T0 x :: L) (wpList P ops Q (⟨none, .store T X V, ty, pos, aft, none⟩ :: rest)) :=
  Under.exec rfl fun F a w h0 hE hS => by
    have hv := hr F _ (hE.eval hV)
    obtain ⟨h, ⟨cs, hrd, rfl⟩, hon⟩ := hS.head
    have hbw : w.heap[b]? = some (.cells cs.toArray T0 (0, 0)) := hon b _ (Frag.one_at _ _)
    have hl := K0.len hrd
    obtain ⟨w', hrun, hb', hc⟩ := run_storeAt_cells (P := P) hT hbw (v := a.eval V) (off := 0) hv.sizeEq (K.one hv.rd) (by omega)
    have e0 : cs.drop (0 + K.n) = [] := List.drop_eq_nil_of_le (by omega)
    rw [e0] at hb'
    simp only [List.take_zero, List.nil_append, List.append_nil] at hb'
    have hS' : St F w' (.box K b T0 y :: L) := hS.turn fun h2 hh2 hon2 => by
      obtain ⟨cs2, _, rfl⟩ := hh2
      have hbw2 := hon2 b _ (Frag.one_at _ _)
      rw [hbw] at hbw2
      have hq := Option.some.inj hbw2
      simp only [Obj.cells.injEq, and_true] at hq
      have := List.toArray_inj hq
      subst this
      refine ⟨_, ⟨_, hv.rd, rfl⟩, hc, fun k hk => .inl ?_, fun k o eo => ?_⟩
      · by_cases hkb : k = b
        · subst hkb; rw [Frag.one_at]; simp
        · exact absurd (Frag.one_ne _ hkb) hk
      · obtain ⟨rfl, rfl⟩ := Frag.one_some eo; exact hb'
    unfold Oper.wp
    simp only [execOp, hE.raw hX, Sem.run_bind, hrun, Result.andThen_ok, Sem.run_pure, Oper.upon]
    exact k F _ _ h0 hE hS'
/-- Fields read otherwise, one of them by what it is. -/
def CvS (F : Fz) {β γ : Type} (x : β) (x' : Value → γ) : List (Fld β) → List (Fld γ) → Prop
  | [], [] => True
  | f :: fs, f' :: fs' => (∀ v cs, f.K.rd F cs (f.get x) → f'.K.rd F cs (f'.get (x' v))) ∧ CvS F x x' fs fs'
  | _, _ => False
def CvE (F : Fz) {β γ : Type} (x : β) (x' : Value → γ) : List (Fld β) → List (Fld γ) → Nat → Prop
  | [], _, _ => False
  | _, [], _ => False
  | f :: fs, f' :: fs', 0 => (∀ cs, f.K.rd F cs (f.get x) → ∃ v : Value, f'.K.rd F cs (f'.get (x' v)) ∧ v.oneCell' = true) ∧ CvS F x x' fs fs'
  | f :: fs, f' :: fs', i + 1 => (∀ v cs, f.K.rd F cs (f.get x) → f'.K.rd F cs (f'.get (x' v))) ∧ CvE F x x' fs fs' i
theorem CvS.rd {F : Fz} {β γ : Type} {x : β} {x' : Value → γ} {v : Value} : ∀ {fs : List (Fld β)} {fs' : List (Fld γ)} {cs : List Value}, CvS F x x' fs fs' → rdF F fs cs x → rdF F fs' cs (x' v)
  | [], [], _, _, h => h
  | f :: fs, f' :: fs', _, ⟨h1, h2⟩, ⟨c, d, e, a, b⟩ => ⟨c, d, e, h1 v c a, CvS.rd h2 b⟩
  | [], _ :: _, _, h, _ => h.elim
  | _ :: _, [], _, h, _ => h.elim
theorem CvE.rd {F : Fz} {β γ : Type} {x : β} {x' : Value → γ} : ∀ {fs : List (Fld β)} {fs' : List (Fld γ)} {i : Nat} {cs : List Value}, CvE F x x' fs fs' i → rdF F fs cs x → ∃ v : Value, rdF F fs' cs (x' v) ∧ v.oneCell' = true
  | [], _, _, _, h, _ => h.elim
  | _ :: _, [], _, _, h, _ => h.elim
  | f :: fs, f' :: fs', 0, _, ⟨h1, h2⟩, ⟨c, d, e, a, b⟩ => by
    obtain ⟨v, h3, h4⟩ := h1 c a
    exact ⟨v, ⟨c, d, e, h3, CvS.rd h2 b⟩, h4⟩
  | f :: fs, f' :: fs', i + 1, _, ⟨h1, h2⟩, ⟨c, d, e, a, b⟩ => by
    obtain ⟨v, h3, h4⟩ := CvE.rd h2 b
    exact ⟨v, ⟨c, d, e, h1 v c a, h3⟩, h4⟩
theorem cv_toraw {α : Type} {K : Kd α} {F : Fz} {xs : List α} : ∀ cs, (kSl K).rd F cs xs → ∃ v : Value, kRaw.rd F cs v ∧ v.oneCell' = true := by
  rintro cs ⟨a, cap, rfl, r⟩
  exact ⟨_, ⟨rfl, rfl⟩, rfl⟩
/-- A field's slice is no longer looked at: it is whatever it is. -/
theorem Under.rawify {β γ : Type} {fs : List (Fld β)} {fs' : List (Fld γ)} {b i : Nat} {T : TypeId} {x : β} (x' : Value → γ) {X : Act → World → Prop} (hc : ∀ F, CvE F x x' fs fs' i)
    (k : ∀ v : Value, v.oneCell' = true → Under F0 n E (.box (kSt fs') b T (x' v) :: L) X) : Under F0 n E (.box (kSt fs) b T x :: L) X := fun F a w h0 hE hS => by
  obtain ⟨f, ⟨cs, hr, rfl⟩, hap, hs'⟩ := hS
  obtain ⟨v, h1, h2⟩ := CvE.rd (hc F) hr
  exact k v h2 F a w h0 hE ⟨_, ⟨cs, h1, rfl⟩, hap, hs'⟩
/-- The order of the resources. -/
theorem Under.fo5 {r0 r1 r2 r3 r4 r5 : Res} {X : Act → World → Prop} (k : Under F0 n E (r5 :: r0 :: r1 :: r2 :: r3 :: r4 :: L) X) : Under F0 n E (r0 :: r1 :: r2 :: r3 :: r4 :: r5 :: L) X := Under.fo1 (Under.perm (List.Perm.cons _ (List.Perm.refl _)) (Under.perm (by
  exact ((List.Perm.swap r0 r1 _).trans (List.Perm.cons _ ((List.Perm.cons _ ((List.Perm.cons _ ((List.Perm.cons _ (List.Perm.swap _ _ _)).trans (List.Perm.swap _ _ _))).trans (List.Perm.swap _ _ _))).trans (List.Perm.swap _ _ _)))).trans (List.Perm.swap _ _ _)) k))

/-! ### Strings -/
theorem rdS {s : ByteArray} {x : List Int} (h : s.data.toList.map (fun b => (b.toNat : Int)) = x) : rdOf (.raw (.string s)) kStr x := fun F v hv => by
  simp only [SV.ok] at hv; subst hv; exact ⟨[.string s], ⟨s, rfl, h.symm⟩, rfl⟩
theorem val_str {F : Fz} {v : Value} {x : List Int} (h : kStr.val F v x) : ∃ s : ByteArray, v = .string s ∧ x = s.data.toList.map (fun b => (b.toNat : Int)) := by
  obtain ⟨cs, ⟨s, rfl, hx⟩, e⟩ := h; exact ⟨s, e, hx⟩
theorem str_inj {a b : ByteArray} (h : a.data.toList.map (fun b => (b.toNat : Int)) = b.data.toList.map (fun b => (b.toNat : Int))) : a = b := by
  have key : ∀ l m : List UInt8, l.map (fun b => (b.toNat : Int)) = m.map (fun b => (b.toNat : Int)) → l = m := by
    intro l; induction l with
    | nil => intro m h; cases m with
      | nil => rfl
      | cons _ _ => cases h
    | cons x l ih => intro m h; cases m with
      | nil => cases h
      | cons y m =>
        simp only [List.map_cons, List.cons.injEq] at h
        rw [ih m h.2, UInt8.toNat_inj.1 (by omega : x.toNat = y.toNat)]
  have := key _ _ h
  cases a; cases b; simp only [ByteArray.mk.injEq] at *; exact Array.toList_inj.1 this
theorem OpV.eqS {b : BinOp} {T u : TypeId} {X Y : Operand} {s1 s2 : SV} {x y : List Int} (hT : P.underlying T = some .string) (hX : ev E X = some s1) (h1 : rdOf s1 kStr x) (hY : ev E Y = some s2) (h2 : rdOf s2 kStr y) (hb : b = .eql ∨ b = .neq) :
    OpV P n E L ⟨some d, .binOp b T X Y u, ty, pos, aft, none⟩ (.raw (.bool (if b = .eql then x == y else x != y))) := OpV.rawv fun F a hE w => by
  obtain ⟨s1', e1, rfl⟩ := val_str (h1 F _ (hE.eval hX))
  obtain ⟨s2', e2, rfl⟩ := val_str (h2 F _ (hE.eval hY))
  have hq : ((s1'.data.toList.map fun b => (b.toNat : Int)) == (s2'.data.toList.map fun b => (b.toNat : Int))) = (s1'.toList == s2'.toList) := by
    rw [Bool.eq_iff_iff, ByteArray.toList_eq, ByteArray.toList_eq]; simp only [beq_iff_eq]; exact ⟨fun h => by rw [str_inj h], fun h => by rw [h]⟩
  rcases hb with rfl | rfl
  · simp only [if_true, hq]
    rw [execOp]; simp only [e1, e2, eqGuard]
    simp [binOp_string_eql]
  · simp only [reduceCtorEq, if_false, bne, hq]
    rw [execOp]; simp only [e1, e2, eqGuard]
    simp [binOp_string_neq]
theorem OpV.lenS {X : Operand} {s1 : SV} {x : List Int} {t : TypeId} (ht : P.underlying t = some .string) (hX : ev E X = some s1) (h1 : rdOf s1 kStr x) : OpV P n E L ⟨some d, .call ⟨.builtin .len, #[X], #[t]⟩, ty, pos, aft, none⟩ (.raw (.int .i64 x.length)) := OpV.rawv fun F a hE w => by
  obtain ⟨s1', e1, rfl⟩ := val_str (h1 F _ (hE.eval hX))
  simp [execOp, resolve, invoke, builtin, Builtin.len_, run_underlying ht, e1, goInt]
end
end Go.Sim

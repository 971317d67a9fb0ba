/- Sim9: equality of arrays and structs; make. -/
import Derived.Test.YtgllljocmpbooaaSim8
import Derived.ChangeKeysEq
import Derived.Laws.StructEq
import Derived.Laws.OwnMore
set_option linter.unusedVariables false
set_option linter.unusedSimpArgs false
namespace Go.Sim
open Go

/-- '==' at a type tells whether two values read alike. -/
structure EqK {α : Type} [BEq α] (P : Program) (T : TypeId) (K : Kd α) (dep : Nat) : Prop where
  eq : ∀ {d F v u x y w}, K.val F v x → K.val F u y → (Op.equalIn (d + dep) T v u).run P w = .ok (x == y) w

theorem EqK.int {P : Program} {T : TypeId} {k k' : IntKind} (h : P.underlying T = some (.int k')) : EqK P T (kInt k) 1 := ⟨fun {d F v u x y w} h1 h2 => by
  rw [val_int] at h1 h2; subst h1; subst h2; exact run_equalIn_int w d T k k' x y h⟩
theorem EqK.bool {P : Program} {T : TypeId} (h : P.underlying T = some .bool) : EqK P T kBool 1 := ⟨fun {d F v u x y w} h1 h2 => by
  rw [val_bool] at h1 h2; subst h1; subst h2; exact run_equalIn_bool w d T x y h⟩

theorem eqItems_run {α : Type} [BEq α] {P : Program} {e : TypeId} {K : Kd α} {dep d : Nat} {F : Fz} (he : EqK P e K dep) (hk : KT P e K) (hc : P.cellsOf e = K.n) {cs ds : List Value} {w : World} :
    ∀ {xs ys : List α} {is : List Nat} {j : Nat}, xs.length = ys.length → is = List.range' j xs.length → rdAll K F (cs.drop (j * K.n)) xs → rdAll K F (ds.drop (j * K.n)) ys →
      (Op.eqItems (d + dep) e (P.cellsOf e) cs.toArray ds.toArray is).run P w = .ok (xs == ys) w
  | [], [], is, j, _, hi, _, _ => by subst hi; simp [Op.eqItems]
  | x :: xs, y :: ys, is, j, hl, hi, hx, hy => by
    subst hi
    simp only [List.length_cons, List.range'_succ]
    obtain ⟨c, c', e1, h1, r1⟩ := hx
    obtain ⟨q, q', e2, h2, r2⟩ := hy
    have lc := K.len h1
    have lq := K.len h2
    have hle1 : j * K.n + K.n ≤ cs.length := by
      rcases Nat.eq_zero_or_pos K.n with h0 | h0
      · rw [h0]; simp
      have := congrArg List.length e1; simp only [List.length_drop, List.length_append] at this; omega
    have hle2 : j * K.n + K.n ≤ ds.length := by
      rcases Nat.eq_zero_or_pos K.n with h0 | h0
      · rw [h0]; simp
      have := congrArg List.length e2; simp only [List.length_drop, List.length_append] at this; omega
    have p1 := run_part hk cs.toArray (j * K.n) (by simpa using hle1) w
    have p2 := run_part hk ds.toArray (j * K.n) (by simpa using hle2) w
    have t1 : (cs.drop (j * K.n)).take K.n = c := by rw [e1, ← lc, List.take_left]
    have t2 : (ds.drop (j * K.n)).take K.n = q := by rw [e2, ← lq, List.take_left]
    simp only [t1, t2] at p1 p2
    have hq := he.eq (d := d) (w := w) ⟨c, h1, rfl⟩ ⟨q, h2, rfl⟩
    have d1 : cs.drop ((j + 1) * K.n) = c' := by rw [Nat.succ_mul, ← List.drop_drop, e1, ← lc, List.drop_left]
    have d2 : ds.drop ((j + 1) * K.n) = q' := by rw [Nat.succ_mul, ← List.drop_drop, e2, ← lq, List.drop_left]
    have ih := eqItems_run he hk hc (d := d) (cs := cs) (ds := ds) (w := w) (xs := xs) (ys := ys) (is := List.range' (j + 1) xs.length) (j := j + 1) (by simpa using hl) rfl (by rw [d1]; exact r1) (by rw [d2]; exact r2)
    rw [hc] at ih ⊢
    simp only [Op.eqItems, Sem.run_bind, p1, p2, hq, Result.andThen_ok]
    show _ = Result.ok ((x == y) && (xs == ys)) w
    cases hxy : (x == y)
    · simp
    · simp only [Bool.not_true, Bool.false_eq_true, if_false, Bool.true_and]; exact ih
  | [], _ :: _, _, _, hl, _, _, _ => by simp at hl
  | _ :: _, [], _, _, hl, _, _, _ => by simp at hl

theorem EqK.arr {α : Type} [BEq α] {P : Program} {T e : TypeId} {K : Kd α} {m dep : Nat} (he : EqK P e K dep) (hk : KT P e K) (hT : P.underlying T = some (.array m e)) : EqK P T (kArr m K) (dep + 1) := ⟨fun {d F v u x y w} h1 h2 => by
  obtain ⟨i, hi, hs⟩ := Option.map_eq_some_iff.1 hk.size
  have hc : P.cellsOf e = K.n := by simp [Program.cellsOf, hi, hs]
  obtain ⟨e1, r1⟩ := asAgg_of h1 rfl
  obtain ⟨e2, r2⟩ := asAgg_of h2 rfl
  rw [e1, e2, show d + (dep + 1) = (d + dep) + 1 by omega, run_equalIn_array w (d + dep) _ _ hT hi]
  exact eqItems_run he hk hc (j := 0) (by rw [r1.1, r2.1]) (by rw [r1.1, List.range_eq_range']) (by simpa using r1.2) (by simpa using r2.2)⟩

section
variable {P : Program} {ops : Array Oper} {Q : Exit → Act → World → Prop} {rest : List Oper} {F0 : Fz} {n : Nat} {E : List (Nat × SV)} {L : List Res}
variable {d : Nat} {op : Op} {ty : TypeId} {pos : String} {aft : Array Edge} {s : SV}

theorem OpV.eqK {α : Type} [BEq α] {K : Kd α} {T u : TypeId} {X Y : Operand} {s1 s2 : SV} {x y : α} {dep : Nat} (he : EqK P T K dep) (hg : P.eqGuardType P.depth T = false) (ha : K.agg = true) (hdep : Nat.ble dep 10000 = true)
    (hX : ev E X = some s1) (h1 : rdOf s1 K x) (hY : ev E Y = some s2) (h2 : rdOf s2 K y) : OpV P n E L ⟨some d, .binOp .eql T X Y u, ty, pos, aft, none⟩ (.raw (.bool (x == y))) := OpV.rawv fun F a hE w => by
  have v1 := h1 F _ (hE.eval hX)
  have v2 := h2 F _ (hE.eval hY)
  have hq := he.eq (d := 10000 - dep) (w := w) v1 v2
  rw [show 10000 - dep + dep = 10000 by have := Nat.le_of_ble_eq_true hdep; omega] at hq
  obtain ⟨e1, _⟩ := asAgg_of v1 ha
  obtain ⟨e2, _⟩ := asAgg_of v2 ha
  rw [e1, e2] at hq
  rw [execOp]
  simp only []
  rw [e1, e2]
  simp only [eqGuard, Sem.run_bind, run_program, Result.andThen_ok, hg, run_eql_struct, hq]
  simp [hg, run_eql_struct, hq]
theorem OpV.neK {α : Type} [BEq α] {K : Kd α} {T u : TypeId} {X Y : Operand} {s1 s2 : SV} {x y : α} {dep : Nat} (he : EqK P T K dep) (hg : P.eqGuardType P.depth T = false) (ha : K.agg = true) (hdep : Nat.ble dep 10000 = true)
    (hX : ev E X = some s1) (h1 : rdOf s1 K x) (hY : ev E Y = some s2) (h2 : rdOf s2 K y) : OpV P n E L ⟨some d, .binOp .neq T X Y u, ty, pos, aft, none⟩ (.raw (.bool (x != y))) := OpV.rawv fun F a hE w => by
  have v1 := h1 F _ (hE.eval hX)
  have v2 := h2 F _ (hE.eval hY)
  have hq := he.eq (d := 10000 - dep) (w := w) v1 v2
  rw [show 10000 - dep + dep = 10000 by have := Nat.le_of_ble_eq_true hdep; omega] at hq
  obtain ⟨e1, _⟩ := asAgg_of v1 ha
  obtain ⟨e2, _⟩ := asAgg_of v2 ha
  rw [e1, e2] at hq
  rw [execOp]
  simp only []
  rw [e1, e2]
  simp only [eqGuard, Sem.run_bind, run_program, Result.andThen_ok, hg, run_neq_struct, hq]
  simp [hg, run_neq_struct, hq, bne]

/-! ### make -/
/-- The lengths that make takes. -/
def mkB (l c : Int) : Bool := decide (0 ≤ l) && decide (l ≤ c) && decide (c ≤ (room : Int))
theorem mkB_spec {l c : Int} (h : mkB l c = true) : 0 ≤ l ∧ l ≤ c ∧ c ≤ (room : Int) := by
  simp only [mkB, Bool.and_eq_true, decide_eq_true_eq] at h; exact ⟨h.1.1, h.1.2, h.2⟩

theorem run_makeSlice' {α : Type} {K : Kd α} {z : α} {bytes : Nat} {T e : TypeId} (hT : P.underlying T = some (.slice e)) (he : AT P e K z bytes) {l c : Int} (h0 : 0 ≤ l) (h1 : l ≤ c) (h2 : c ≤ (room : Int)) {k k' : IntKind} (F : Fz) (w : World) :
    ∃ cells : Array Value, (Instr.makeSlice T (.int k l) (.int k' c)).run P w = .ok (.slice (some ⟨w.heap.size, 0, none⟩) l.toNat c.toNat) (w.alloc (.cells cells e)) ∧ rdAll K F cells.toList (List.replicate c.toNat z) := by
  obtain ⟨ie, zv, i1, i2, i3, i4, i5, i6, i7⟩ := he.out
  have hzs : zv.cells.size = K.n := by have := K.len (i7 F); simpa using this
  have hr : (room : Int) = 17179869184 := rfl
  have e1 : IntKind.i64.wrap l = l := IntWalk.i64_in _ (by omega)
  have e2 : IntKind.i64.wrap c = c := IntWalk.i64_in _ (by omega)
  have hb : (ie.bytes : Int) * c ≤ 2 ^ 48 := by
    have : (ie.bytes : Int) * c ≤ 4096 * 17179869184 := Int.mul_le_mul (by omega) (by omega) (by omega) (by omega)
    omega
  refine ⟨(Array.range (c.toNat * zv.cells.size)).map (zv.cells[· % zv.cells.size]!), ?_, by rw [zeros_eq zv.cells c.toNat (by omega)]; exact rdAll_rep (i7 F) _⟩
  have g1 : ¬ (c < 0) := by omega
  have g2 : ¬ ((ie.bytes : Int) * c > 2 ^ 48) := by omega
  have g3 : ¬ (l < 0) := by omega
  have g4 : ¬ (l > c) := by omega
  have hsz : (sizeOf e).run P w = .ok K.n w := by simp [sizeOf, typeInfo, i1, i3]
  have hbytes : c.toNat * ie.bytes ≤ roomBytes := by
    have h9 : (c.toNat * ie.bytes : Nat) ≤ 17179869184 * 4096 := Nat.mul_le_mul (by omega) (by omega)
    unfold roomBytes; omega
  have hask : (askRoom (c.toNat * ie.bytes)).run P w = .ok () w := by simp [askRoom, Nat.not_lt.2 hbytes]
  simp only [Instr.makeSlice, Sem.run_bind, run_underlying hT, asInt, asIntOf, Sem.run_pure, Result.andThen_ok, typeInfo, run_program, i1, e1, e2]
  rw [if_neg (by simp only [g1, g2, g3, g4]; simp)]
  simp only [Sem.run_bind, hask, hsz, Result.andThen_ok]
  by_cases hc0 : c.toNat * K.n = 0
  · have hc1 : c.toNat = 0 := by
      rcases Nat.mul_eq_zero.1 hc0 with h | h
      · exact h
      · omega
    rw [if_pos hc0]
    have hr0 : ∀ f : Nat → Value, Array.map f (Array.range 0) = #[] := fun f => by simp
    simp [hc1, newRow, run_newObj', hr0]
  · rw [if_neg hc0]
    have hz := run_zeroValue' (P := P) (T := e) (v := zv) (by rw [i1]; exact i2) w
    simp [hz, newRow, run_newObj', hzs]

/-- make([]T, l, c), the call's own. -/
theorem Under.mk {α : Type} {K : Kd α} {z : α} {bytes : Nat} {T e : TypeId} {Ln C : Operand} {k k' : IntKind} {l c : Int} (h : mkB l c = true) (hT : P.underlying T = some (.slice e)) (he : AT P e K z bytes)
    (hL : ev E Ln = some (.raw (.int k l))) (hC : ev E C = some (.raw (.int k' c))) (hd : Nat.blt d n = true)
    (kk : ∀ v, Under F0 n ((d, .raw v) :: E) (.own K v e (List.replicate l.toNat z) :: L) (wpList P ops Q rest)) :
    Under F0 n E L (wpList P ops Q (⟨some d, .makeSlice T Ln C, ty, pos, aft, none⟩ :: rest)) :=
  Under.exec rfl fun F a w h0 hE hS => by
    obtain ⟨l0, l1, l2⟩ := mkB_spec h
    obtain ⟨cells, hrun, hrd⟩ := run_makeSlice' (P := P) hT he l0 l1 l2 (k := k) (k' := k') F w
    obtain ⟨hn1, hn2⟩ := one_new w (.cells cells e)
    have hc : cells.size = c.toNat * K.n := by have := hrd.len; simpa using this
    have hr : (room : Int) = 17179869184 := rfl
    have hS' : St F (w.alloc (.cells cells e)) (.own K (.slice (some ⟨w.heap.size, 0, none⟩) l.toNat c.toNat) e (List.replicate l.toNat z) :: L) :=
      St.grow hS (Frag.one w.heap.size (.cells cells e)) (.inr ⟨w.heap.size, c.toNat, cells, by simp, rfl, by simp; omega, by simp only [maxLen]; omega, hc, by
        have := hrd.take l.toNat
        simpa [List.take_replicate, Nat.min_eq_left (by omega : l.toNat ≤ c.toNat)] using this⟩) (chg_alloc w _) hn1 hn2
    unfold Oper.wp
    simp only [execOp, hE.raw hL, hE.raw hC, Sem.run_bind, hrun, Result.andThen_ok, Sem.run_pure, Oper.upon]
    exact kk _ _ _ _ h0 (hE.put hd (by simp only [SV.ok])) hS'
end
end Go.Sim

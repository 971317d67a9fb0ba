/- Sim3: one rule an operation: arithmetic, frozen memory, calls. -/
import Derived.Test.YtgllljocmpbooaaSim2
set_option linter.unusedVariables false
set_option linter.unusedSimpArgs false
namespace Go.Sim
open Go

/-- What a symbolic value reads as. -/
def rdOf {α : Type} (s : SV) (K : Kd α) (x : α) : Prop := ∀ F v, s.ok F v → K.val F v x
theorem rdV {α : Type} {K : Kd α} {x : α} : rdOf (.val K x) K x := fun F v h => by simpa only [SV.ok] using h
theorem rdI {k : IntKind} {x : Int} : rdOf (.raw (.int k x)) (kInt k) x := fun F v h => by simp only [SV.ok] at h; subst h; exact val_int.2 rfl
theorem rdB {x : Bool} : rdOf (.raw (.bool x)) kBool x := fun F v h => by simp only [SV.ok] at h; subst h; exact val_bool.2 rfl
theorem rdN {α : Type} {K : Kd α} : rdOf (.raw (.slice none 0 0)) (kSl K) [] := fun F v h => by
  simp only [SV.ok] at h; subst h; exact ⟨[.slice none 0 0], ⟨none, 0, rfl, Nat.le_refl _, .inl rfl⟩, rfl⟩
theorem rdPt {α : Type} {K : Kd α} {x : α} : rdOf (.ptr K x) (kPtr K) x := fun F v h => by
  simp only [SV.ok] at h; obtain ⟨p, rfl, h⟩ := h; exact ⟨[.pointer (some p)], ⟨p, rfl, h⟩, rfl⟩

section
variable {P : Program} {ops : Array Oper} {Q : Exit → Act → World → Prop} {rest : List Oper} {F0 : Fz} {n : Nat} {E : List (Nat × SV)} {L : List Res}
variable {d : Nat} {op : Op} {ty : TypeId} {pos : String} {aft : Array Edge} {s : SV}

theorem OpV.pure {o : Oper} (h : ∀ F a, Env F a n E → ∃ v, s.ok F v ∧ ∀ w, (execOp a.eval o).run P w = .ok (.value v) w) : OpV P n E L o s := fun F a hE => by
  obtain ⟨v, hv, hw⟩ := h F a hE
  exact ⟨v, hv, fun w _ => by unfold Oper.quietAt; rw [hw w]; exact ⟨rfl, rfl⟩⟩
theorem OpV.rawv {o : Oper} {v : Value} (h : ∀ F a, Env F a n E → ∀ w, (execOp a.eval o).run P w = .ok (.value v) w) : OpV P n E L o (.raw v) :=
  OpV.pure fun F a hE => ⟨v, by simp only [SV.ok], h F a hE⟩

theorem OpV.move {x : Operand} (h : ev E x = some s) : OpV P n E L ⟨some d, .move x, ty, pos, aft, none⟩ s :=
  OpV.pure fun F a hE => ⟨_, hE.eval h, fun w => by simp [execOp]⟩
theorem OpV.asg {x : Operand} (h : ev E x = some s) : OpV P n E L ⟨some d, .assign x, ty, pos, aft, none⟩ s :=
  OpV.pure fun F a hE => ⟨_, hE.eval h, fun w => by simp [execOp]⟩
theorem OpV.pick {c : Bool} {x y z : Operand} (h : ev E x = some (.raw (.bool c))) (h1 : c = true → ev E y = some s) (h2 : c = false → ev E z = some s) : OpV P n E L ⟨some d, .pick x y z, ty, pos, aft, none⟩ s :=
  OpV.pure fun F a hE => by
    cases c with
    | true => exact ⟨_, hE.eval (h1 rfl), fun w => by simp [execOp, hE.raw h, asBool]⟩
    | false => exact ⟨_, hE.eval (h2 rfl), fun w => by simp [execOp, hE.raw h, asBool]⟩
theorem OpV.pickT {x y z : Operand} (h : ev E x = some (.raw (.bool true))) (h1 : ev E y = some s) : OpV P n E L ⟨some d, .pick x y z, ty, pos, aft, none⟩ s := OpV.pick h (fun _ => h1) (fun h => by cases h)
theorem OpV.pickF {x y z : Operand} (h : ev E x = some (.raw (.bool false))) (h1 : ev E z = some s) : OpV P n E L ⟨some d, .pick x y z, ty, pos, aft, none⟩ s := OpV.pick h (fun h => by cases h) (fun _ => h1)

def andI (k : IntKind) (x y : Int) : Int := k.wrap ((BitVec.ofInt k.bits x &&& BitVec.ofInt k.bits y).toNat)
def orI (k : IntKind) (x y : Int) : Int := k.wrap ((BitVec.ofInt k.bits x ||| BitVec.ofInt k.bits y).toNat)
def xorI (k : IntKind) (x y : Int) : Int := k.wrap ((BitVec.ofInt k.bits x ^^^ BitVec.ofInt k.bits y).toNat)
def bicI (k : IntKind) (x y : Int) : Int := k.wrap ((BitVec.ofInt k.bits x &&& ~~~BitVec.ofInt k.bits y).toNat)
def cplI (k : IntKind) (x : Int) : Int := k.wrap ((BitVec.ofInt k.bits (if k.signed then -1 else k.max) ^^^ BitVec.ofInt k.bits x).toNat)
def shlI (k : IntKind) (x y : Int) : Int := k.wrap (x * 2 ^ min y.toNat k.bits)
def shrI (k : IntKind) (x y : Int) : Int := x.fdiv (2 ^ min y.toNat k.bits)
def binI (op : BinOp) (k : IntKind) (x y : Int) : Option Value :=
  match op with
  | .add => some (.int k (k.wrap (x + y)))
  | .sub => some (.int k (k.wrap (x - y)))
  | .mul => some (.int k (k.wrap (x * y)))
  | .and => some (.int k (andI k x y))
  | .or => some (.int k (orI k x y))
  | .xor => some (.int k (xorI k x y))
  | .andNot => some (.int k (bicI k x y))
  | .eql => some (.bool (x == y))
  | .neq => some (.bool (x != y))
  | .lss => some (.bool (decide (x < y)))
  | .leq => some (.bool (decide (x ≤ y)))
  | .gtr => some (.bool (decide (x > y)))
  | .geq => some (.bool (decide (x ≥ y)))
  | _ => none
theorem OpV.bin {b : BinOp} {k : IntKind} {x y : Int} {X Y : Operand} {t u : TypeId} {v : Value} (hX : ev E X = some (.raw (.int k x))) (hY : ev E Y = some (.raw (.int k y))) (hv : binI b k x y = some v) :
    OpV P n E L ⟨some d, .binOp b t X Y u, ty, pos, aft, none⟩ (.raw v) :=
  OpV.rawv fun F a hE w => by
    have e1 := hE.raw hX
    have e2 := hE.raw hY
    cases b <;> simp only [binI, Option.some.injEq, reduceCtorEq] at hv <;> subst hv <;>
      simp [execOp, e1, e2, eqGuard, binOp, Op.intArith, Op.intBits, Op.intCmp, andI, orI, xorI, bicI]
def binQ (op : BinOp) (k : IntKind) (x y : Int) : Option Value :=
  match op with
  | .quo => some (.int k (k.wrap (x.tdiv y)))
  | .rem => some (.int k (x.tmod y))
  | _ => none
theorem OpV.quo {b : BinOp} {k : IntKind} {x y : Int} {X Y : Operand} {t u : TypeId} {v : Value} (hX : ev E X = some (.raw (.int k x))) (hY : ev E Y = some (.raw (.int k y))) (hy : y ≠ 0) (hv : binQ b k x y = some v) :
    OpV P n E L ⟨some d, .binOp b t X Y u, ty, pos, aft, none⟩ (.raw v) :=
  OpV.rawv fun F a hE w => by
    have e1 := hE.raw hX
    have e2 := hE.raw hY
    cases b <;> simp only [binQ, Option.some.injEq, reduceCtorEq] at hv <;> subst hv <;>
      simp [execOp, e1, e2, eqGuard, binOp, Op.intDiv, hy]
def shI (op : BinOp) (k : IntKind) (x y : Int) : Option Value :=
  match op with
  | .shl => some (.int k (shlI k x y))
  | .shr => some (.int k (shrI k x y))
  | _ => none
theorem OpV.sh {b : BinOp} {k k' : IntKind} {x y : Int} {X Y : Operand} {t u : TypeId} {v : Value} (hX : ev E X = some (.raw (.int k x))) (hY : ev E Y = some (.raw (.int k' y))) (hy : 0 ≤ y) (hv : shI b k x y = some v) :
    OpV P n E L ⟨some d, .binOp b t X Y u, ty, pos, aft, none⟩ (.raw v) :=
  OpV.rawv fun F a hE w => by
    have e1 := hE.raw hX
    have e2 := hE.raw hY
    have hy' : ¬ y < 0 := by omega
    cases b <;> simp only [shI, Option.some.injEq, reduceCtorEq] at hv <;> subst hv <;>
      simp [execOp, e1, e2, eqGuard, binOp, Op.shift, hy', shlI, shrI]
theorem OpV.not {c : Bool} {X : Operand} {t : TypeId} (hX : ev E X = some (.raw (.bool c))) : OpV P n E L ⟨some d, .unOp .not t X, ty, pos, aft, none⟩ (.raw (.bool (!c))) :=
  OpV.rawv fun F a hE w => by simp [execOp, hE.raw hX, Op.unary]
theorem OpV.neg {k : IntKind} {x : Int} {X : Operand} {t : TypeId} (hX : ev E X = some (.raw (.int k x))) : OpV P n E L ⟨some d, .unOp .neg t X, ty, pos, aft, none⟩ (.raw (.int k (k.wrap (0 - x)))) :=
  OpV.rawv fun F a hE w => by simp [execOp, hE.raw hX, Op.unary, Op.intArith]
theorem OpV.cpl {k : IntKind} {x : Int} {X : Operand} {t : TypeId} (hX : ev E X = some (.raw (.int k x))) :
    OpV P n E L ⟨some d, .unOp .xor t X, ty, pos, aft, none⟩ (.raw (.int k (cplI k x))) :=
  OpV.rawv fun F a hE w => by simp [execOp, hE.raw hX, Op.unary, Op.intBits, cplI]
theorem OpV.conv {k k' : IntKind} {x : Int} {X : Operand} {q t : TypeId} (hs : (P.underlying q).isSome = true) (ht : P.underlying t = some (.int k)) (hX : ev E X = some (.raw (.int k' x))) :
    OpV P n E L ⟨some d, .convert q t X, ty, pos, aft, none⟩ (.raw (.int k (k.wrap x))) :=
  OpV.rawv fun F a hE w => by
    obtain ⟨ds, hds⟩ := Option.isSome_iff_exists.1 hs
    simp [execOp, hE.raw hX, convert, run_underlying hds, run_underlying ht, Conv.intToInt]
theorem OpV.len {α : Type} {K : Kd α} {xs : List α} {X : Operand} {t e : TypeId} (ht : P.underlying t = some (.slice e)) (hX : ev E X = some s) (hr : rdOf s (kSl K) xs) :
    OpV P n E L ⟨some d, .call ⟨.builtin .len, #[X], #[t]⟩, ty, pos, aft, none⟩ (.raw (.int .i64 xs.length)) :=
  OpV.rawv fun F a hE w => by
    obtain ⟨a0, cap, he, _⟩ := kSl.at_ (hr F _ (hE.eval hX))
    simp [execOp, resolve, invoke, builtin, Builtin.len_, run_underlying ht, he, goInt]
theorem OpV.extr {X : Operand} {i : Nat} {l : List SV} (hX : ev E X = some (.tup l)) (hi : l[i]? = some s) : OpV P n E L ⟨some d, .extract X i, ty, pos, aft, none⟩ s :=
  OpV.pure fun F a hE => by
    have := hE.eval hX
    simp only [SV.ok] at this
    obtain ⟨vs, he, ho⟩ := this
    have : ∀ (l : List SV) (vs : List Value) (i : Nat), SV.oks F vs l → l[i]? = some s → ∃ v, vs[i]? = some v ∧ s.ok F v := by
      intro l; induction l with
      | nil => intro vs i _ h; cases h
      | cons t l ih =>
        intro vs i h hi
        cases vs with
        | nil => simp only [SV.oks] at h
        | cons v vs =>
          simp only [SV.oks] at h
          cases i with
          | zero => simp at hi; subst hi; exact ⟨v, rfl, h.1⟩
          | succ i => simpa using ih vs i h.2 (by simpa using hi)
    obtain ⟨v, h1, h2⟩ := this l vs i ho hi
    exact ⟨v, h2, fun w => by simp [execOp, he, Instr.extract, h1]⟩

/-! ### Addresses and loads, in frozen memory -/
def aggB (P : Program) (T : TypeId) : Option Bool :=
  match P.underlying T with
  | some (.struct _) | some (.array _ _) => some true
  | some _ => some false
  | none => none
/-- A type of the program that reads by a kind. -/
structure KT {α : Type} (P : Program) (T : TypeId) (K : Kd α) : Prop where
  size : (P.info? T).map (·.size) = some K.n
  agg : aggB P T = some K.agg
theorem isAgg_of {T : TypeId} {b : Bool} (h : aggB P T = some b) (w : World) : (isAgg T).run P w = .ok b w := by
  unfold aggB at h
  cases hu : P.underlying T with
  | none => rw [hu] at h; cases h
  | some ds =>
    unfold isAgg
    rw [Sem.run_bind, run_underlying hu w]
    rw [hu] at h
    cases ds <;> simp_all
theorem und_of {T : TypeId} {b : Bool} (h : aggB P T = some b) : ∃ ds, P.underlying T = some ds := by
  unfold aggB at h
  cases hu : P.underlying T with
  | none => rw [hu] at h; cases h
  | some ds => exact ⟨ds, rfl⟩
theorem run_loadAt_cells {α : Type} {K : Kd α} {T : TypeId} (hT : KT P T K) {w : World} {p : Addr} {c : Array Value} {e : TypeId} {fr : Nat × Nat} (hp : p.spot = none) (hb : w.heap[p.block]? = some (.cells c e fr))
    (hle : p.off + K.n ≤ c.size) : (Instr.loadAt T (.pointer (some p))).run P w = .ok (pack K.agg ((c.toList.drop p.off).take K.n)) w := by
  obtain ⟨b, off, spot⟩ := p
  simp only at hp hb hle; subst hp
  have hlen : ((c.toList.drop off).take K.n).length = K.n := by simp; omega
  cases ha : K.agg with
  | true =>
    obtain ⟨ds, hu⟩ := und_of hT.agg
    have hrow : ds.isRow = true := by
      have := hT.agg; unfold aggB at this; rw [hu, ha] at this; cases ds <;> simp_all [TypeDesc.isRow]
    refine run_loadAt_mid w b off T _ ds (fun j v hv => ?_) hu hrow (by rw [hlen]; exact hT.size)
    have hcell : w.cell? ⟨b, off + j, none⟩ = c[off + j]? := by simp [World.cell?, hb]
    rw [hcell]
    have hj : j < K.n := by
      have h9 := (List.getElem?_eq_some_iff.1 hv).1
      simp only [List.length_take] at h9; omega
    rw [List.getElem?_take_of_lt hj, List.getElem?_drop] at hv
    simpa using hv
  | false =>
    have h1 := K.sole ha
    have hisagg := isAgg_of (P := P) (by rw [hT.agg, ha] : aggB P T = some false) w
    have hlt : off < c.size := by omega
    have hcell : w.cell? ⟨b, off, none⟩ = some c[off] := by simp [World.cell?, hb, hlt]
    have hl : (load ⟨b, off, none⟩).run P w = .ok c[off] w := by simp [load, Sem.run, hcell]
    have htk : ((c.toList.drop off).take K.n) = [c[off]] := by
      rw [h1]; rw [List.drop_eq_getElem_cons (by simpa using hlt)]; simp
    simp only [Instr.loadAt, Instr.sureAddr, Sem.run_bind, Sem.run_pure, Result.andThen_ok, loadVar, hisagg, hl, htk]
    simp [pack, hl]

theorem OpV.ld {α : Type} {K : Kd α} {T : TypeId} {X : Operand} {x : α} (hT : KT P T K) (hX : ev E X = some (.ptr K x)) : OpV P n E L ⟨some d, .load T X, ty, pos, aft, none⟩ (.val K x) := fun F a hE => by
  have := hE.eval hX
  simp only [SV.ok] at this
  obtain ⟨p, he, hp⟩ := this
  obtain ⟨c, e, fr, hs, hb, hle, hr⟩ := hp.out
  refine ⟨_, by simp only [SV.ok]; exact ⟨_, hr, rfl⟩, fun w ⟨G, hg, hS⟩ => ?_⟩
  have := run_loadAt_cells hT hs (hS.on.blk _ _ (hg.blk _ _ hb)) hle
  unfold Oper.quietAt
  simp [execOp, he, this, Oper.quietUpon]
theorem OpV.raw_of {o : Oper} {k : IntKind} {x : Int} (h : OpV P n E L o (.val (kInt k) x)) : OpV P n E L o (.raw (.int k x)) := fun F a hE => by
  obtain ⟨v, hv, hw⟩ := h F a hE
  exact ⟨v, by simp only [SV.ok] at *; exact val_int.1 hv, hw⟩
theorem OpV.bool_of {o : Oper} {x : Bool} (h : OpV P n E L o (.val kBool x)) : OpV P n E L o (.raw (.bool x)) := fun F a hE => by
  obtain ⟨v, hv, hw⟩ := h F a hE
  exact ⟨v, by simp only [SV.ok] at *; exact val_bool.1 hv, hw⟩
theorem OpV.ldI {k : IntKind} {T : TypeId} {X : Operand} {x : Int} (hT : KT P T (kInt k)) (hX : ev E X = some (.ptr (kInt k) x)) : OpV P n E L ⟨some d, .load T X, ty, pos, aft, none⟩ (.raw (.int k x)) := OpV.raw_of (OpV.ld hT hX)
theorem OpV.ldB {T : TypeId} {X : Operand} {x : Bool} (hT : KT P T kBool) (hX : ev E X = some (.ptr kBool x)) : OpV P n E L ⟨some d, .load T X, ty, pos, aft, none⟩ (.raw (.bool x)) := OpV.bool_of (OpV.ld hT hX)

theorem run_sizeOf' {T : TypeId} {m : Nat} (h : (P.info? T).map (·.size) = some m) (w : World) : (sizeOf T).run P w = .ok m w := by
  cases hq : P.info? T with
  | none => rw [hq] at h; cases h
  | some i => rw [hq] at h; have : i.size = m := by simpa using h
              simp [sizeOf, typeInfo, hq, this]
/-- The offset and the size of a field, off the program's table. -/
def fldB (P : Program) (T : TypeId) (i : Nat) : Option (Nat × Nat) :=
  match P.underlying T with
  | some (.struct fs) => (fs[i]?).bind fun f => ((P.info? f.type).map (·.size)).map fun s => (f.offset, s)
  | _ => none
theorem run_fieldAt {T : TypeId} {i o m : Nat} (h : fldB P T i = some (o, m + 1)) (p : Addr) (hp : p.spot = none) (w : World) :
    (Instr.fieldAt T (.pointer (some p)) i).run P w = .ok (.pointer (some ⟨p.block, p.off + o, none⟩)) w := by
  unfold fldB at h
  split at h
  · rename_i fs hu
    obtain ⟨f, hf, h⟩ := Option.bind_eq_some_iff.1 h
    obtain ⟨s', hs, h⟩ := Option.map_eq_some_iff.1 h
    simp only [Prod.mk.injEq] at h
    obtain ⟨rfl, rfl⟩ := h
    have hsz := run_sizeOf' hs
    have hadd : p.add f.offset = ⟨p.block, p.off + f.offset, none⟩ := by
      obtain ⟨b, off, sp⟩ := p; simp only at hp; subst hp; exact Addr.add_mid b off _
    simp [Instr.fieldAt, run_underlying hu, hf, Instr.sureAddr, fieldPlace, hsz, hadd]
  · cases h
/-- The address of a frozen struct's field. -/
theorem OpV.fd {β : Type} {fs : List (Fld β)} {T : TypeId} {X : Operand} {i m : Nat} {x : β} {f : Fld β} (hT : fldB P T i = some (offF fs i, m + 1)) (hf : fs[i]? = some f) (hX : ev E X = some (.ptr (kSt fs) x)) :
    OpV P n E L ⟨some d, .fieldAddr T X i, ty, pos, aft, none⟩ (.ptr f.K (f.get x)) := OpV.pure fun F a hE => by
  have := hE.eval hX
  simp only [SV.ok] at this
  obtain ⟨p, he, hp⟩ := this
  obtain ⟨_, _, _, hs, _⟩ := hp.out
  exact ⟨.pointer (some ⟨p.block, p.off + offF fs i, none⟩), by simp only [SV.ok]; exact ⟨_, rfl, hp.fld hf⟩, fun w => by simp [execOp, he, run_fieldAt hT p hs w]⟩

/-- Where an index is in range. -/
def idx {α : Type} (xs : List α) (i : Int) : Option α := if 0 ≤ i then xs[i.toNat]? else none
theorem idx_some {α : Type} {xs : List α} {i : Int} {x : α} (h : idx xs i = some x) : 0 ≤ i ∧ i < xs.length ∧ xs[i.toNat]? = some x := by
  unfold idx at h; split at h
  · rename_i h0
    have := (List.getElem?_eq_some_iff.1 h).1
    exact ⟨h0, by omega, h⟩
  · cases h
theorem run_indexAt_sl {T e : TypeId} {m' : Nat} (hT : P.underlying T = some (.slice e)) (hs : (P.info? e).map (·.size) = some m') {p : Addr} {m c : Nat} {q : IntKind} {i : Int} (h0 : 0 ≤ i) (h1 : i < m) (hp : p.spot = none) (w : World) :
    (Instr.indexAt T (.slice (some p) m c) (.int q i)).run P w = .ok (.pointer (some ⟨p.block, p.off + i.toNat * m', none⟩)) w := by
  have hadd : p.add (i.toNat * m') = ⟨p.block, p.off + i.toNat * m', none⟩ := by
    obtain ⟨b, off, sp⟩ := p; simp only at hp; subst hp; exact Addr.add_mid b off _
  simp [Instr.indexAt, asIntOf, run_underlying hT, run_sizeOf' hs, h0, h1, hadd]
theorem OpV.ixS {α : Type} {K : Kd α} {T e : TypeId} {X I : Operand} {xs : List α} {x : α} {q : IntKind} {i : Int} (hx : idx xs i = some x) (hT : P.underlying T = some (.slice e)) (hs : (P.info? e).map (·.size) = some K.n)
    (hX : ev E X = some s) (hr : rdOf s (kSl K) xs) (hI : ev E I = some (.raw (.int q i))) : OpV P n E L ⟨some d, .indexAddr T X I, ty, pos, aft, none⟩ (.ptr K x) := OpV.pure fun F a hE => by
  obtain ⟨a0, cap, he, hat⟩ := kSl.at_ (hr F _ (hE.eval hX))
  obtain ⟨h0, h1, hx⟩ := idx_some hx
  obtain ⟨p, rfl, hp, hrd⟩ := hat _ _ hx
  exact ⟨.pointer (some ⟨p.block, p.off + i.toNat * K.n, none⟩), by simp only [SV.ok]; exact ⟨_, rfl, hrd⟩, fun w => by simp [execOp, he, hE.raw hI, run_indexAt_sl hT hs h0 h1 hp w]⟩
theorem run_indexAt_ar {T e : TypeId} {m' m : Nat} (hT : P.underlying T = some (.array m e)) (hs : (P.info? e).map (·.size) = some m') {p : Addr} {q : IntKind} {i : Int} (h0 : 0 ≤ i) (h1 : i < m) (hp : p.spot = none) (w : World) :
    (Instr.indexAt T (.pointer (some p)) (.int q i)).run P w = .ok (.pointer (some ⟨p.block, p.off + i.toNat * m', none⟩)) w := by
  have hadd : p.add (i.toNat * m') = ⟨p.block, p.off + i.toNat * m', none⟩ := by
    obtain ⟨b, off, sp⟩ := p; simp only at hp; subst hp; exact Addr.add_mid b off _
  simp [Instr.indexAt, asIntOf, run_underlying hT, run_sizeOf' hs, h0, h1, hadd, Instr.sureAddr]
theorem OpV.ixA {α : Type} {K : Kd α} {m : Nat} {T e : TypeId} {X I : Operand} {xs : List α} {x : α} {q : IntKind} {i : Int} (hx : idx xs i = some x) (hT : P.underlying T = some (.array m e)) (hs : (P.info? e).map (·.size) = some K.n)
    (hX : ev E X = some (.ptr (kArr m K) xs)) (hI : ev E I = some (.raw (.int q i))) : OpV P n E L ⟨some d, .indexAddr T X I, ty, pos, aft, none⟩ (.ptr K x) := OpV.pure fun F a hE => by
  have := hE.eval hX
  simp only [SV.ok] at this
  obtain ⟨p, he, hu⟩ := this
  obtain ⟨h0, h1, hx⟩ := idx_some hx
  obtain ⟨_, _, _, hp, _, _, hr⟩ := hu.out
  have hm : xs.length = m := hr.1
  exact ⟨.pointer (some ⟨p.block, p.off + i.toNat * K.n, none⟩), by simp only [SV.ok]; exact ⟨_, rfl, hu.arr hx⟩, fun w => by simp [execOp, he, hE.raw hI, run_indexAt_ar hT hs h0 (by omega) hp w]⟩

/-! ### Calls -/
def evs (E : List (Nat × SV)) : List Operand → Option (List SV)
  | [] => some []
  | x :: xs => match ev E x, evs E xs with
    | some s, some l => some (s :: l)
    | _, _ => none
theorem Env.evals {F : Fz} {a : Act} (hE : Env F a n E) : ∀ {xs : List Operand} {l : List SV}, evs E xs = some l → SV.oks F (xs.map a.eval) l
  | [], l, h => by cases h; simp only [List.map_nil, SV.oks]
  | x :: xs, l, h => by
    simp only [evs] at h
    split at h
    · rename_i s l' h1 h2
      cases h
      simp only [List.map_cons, SV.oks]
      exact ⟨hE.eval h1, Env.evals hE h2⟩
    · cases h
/-- A call whose contract is known. -/
theorem Under.call {f : FuncId} {X : Operand} {xs : List Operand} {tys : Array TypeId} {l : List SV} {L' : List Res} (hc : ∀ args w, (callFunc f args).run P w = .ok (.enter f args) w) (hX : ev E X = some (.raw (.func (.func f) #[] #[]))) (hx : evs E xs = some l) (ho : Ok P f l L s L')
    (hd : Nat.blt d n = true) (k : Under F0 n ((d, s) :: E) L' (wpList P ops Q rest)) : Under F0 n E L (wpList P ops Q (⟨some d, .call ⟨.value X, xs.toArray, tys⟩, ty, pos, aft, none⟩ :: rest)) :=
  Under.exec rfl fun F a w h0 hE hS => by
    have hv := Env.evals hE hx
    have h1 := ho F w _ hv hS
    unfold Oper.wp
    simp only [execOp, resolve, hE.raw hX, Deferred.ofValue, invoke, List.map_toArray, Sem.run_bind, Sem.run_pure, Result.andThen_ok, Array.empty_append, Array.append_empty]
    rw [hc]
    exact h1.mono fun e w' ⟨G, v, he, hg, hS', hok⟩ => by
      subst he
      exact k G _ _ (Fz.tr h0 hg) ((hE.mono hg).put hd hok) hS'
/-- A call that comes back with a plain value, in a region of any order. -/
theorem OpV.call {f : FuncId} {X : Operand} {xs : List Operand} {tys : Array TypeId} {l : List SV} {v : Value} (hc : ∀ args w, (callFunc f args).run P w = .ok (.enter f args) w) (hX : ev E X = some (.raw (.func (.func f) #[] #[]))) (hx : evs E xs = some l) (ho : ∀ L, Ok P f l L (.raw v) L) :
    OpV P n E L ⟨some d, .call ⟨.value X, xs.toArray, tys⟩, ty, pos, aft, none⟩ (.raw v) := fun F a hE => by
  refine ⟨v, by simp only [SV.ok], fun w ⟨G0, hg0, hS⟩ => ?_⟩
  have hv := Env.evals (hE.mono hg0) hx
  have h1 := ho L G0 w _ hv hS
  unfold Oper.quietAt
  simp only [execOp, resolve, hE.raw hX, Deferred.ofValue, invoke, List.map_toArray, Sem.run_bind, Sem.run_pure, Result.andThen_ok, Array.empty_append, Array.append_empty]
  rw [hc]
  refine ⟨rfl, h1.mono fun e w' ⟨G, u, he, hg, hS', hok⟩ => ?_⟩
  simp only [SV.ok] at hok
  subst hok
  exact ⟨he, G, Fz.tr hg0 hg, hS'⟩
end
end Go.Sim

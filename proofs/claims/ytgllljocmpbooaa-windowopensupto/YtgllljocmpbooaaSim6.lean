/- Sim6: composite literals. -/
import Derived.Test.YtgllljocmpbooaaSim5
import Derived.Great.BuildSlice
set_option linter.unusedVariables false
set_option linter.unusedSimpArgs false
namespace Go.Sim
open Go
section
variable {P : Program} {ops : Array Oper} {Q : Exit → Act → World → Prop} {rest : List Oper} {F0 : Fz} {n : Nat} {E : List (Nat × SV)} {L : List Res}
variable {d : Nat} {op : Op} {ty : TypeId} {pos : String} {aft : Array Edge} {s : SV}

theorem fold_set : ∀ (vs : List Value) (j o : Nat) (cells : Array Value), o + j + vs.length ≤ cells.size →
    (vs.zipIdx j).foldl (fun cs p => cs.setIfInBounds (o + p.2) p.1) cells = (cells.toList.take (o + j) ++ vs ++ cells.toList.drop (o + j + vs.length)).toArray
  | [], j, o, cells, h => by simp
  | v :: vs, j, o, cells, h => by
    simp only [List.zipIdx_cons, List.foldl_cons]
    simp only [List.length_cons] at h
    rw [fold_set vs (j + 1) o _ (by simp; omega)]
    congr 1
    have hlt : o + j < cells.size := by omega
    simp only [Array.toList_setIfInBounds, List.length_cons]
    have e1 : (cells.toList.set (o + j) v).take (o + (j + 1)) = cells.toList.take (o + j) ++ [v] := by
      rw [List.set_eq_take_append_cons_drop, if_pos (by simpa using hlt)]
      rw [show o + (j + 1) = (cells.toList.take (o + j)).length + 1 by simp; omega, List.take_length_add_append]; simp
    have e2 : (cells.toList.set (o + j) v).drop (o + (j + 1) + vs.length) = cells.toList.drop (o + j + (vs.length + 1)) := by
      rw [List.drop_set_of_lt (by omega)]; congr 1; omega
    rw [e1, e2]; simp

theorem fill_one {place : Nat → Option (Nat × Nat)} {i o m : Nat} {cells : Array Value} {v : Value} {rest : List (Nat × Value)} (hp : place i = some (o, m)) (hv : v.cells.size = m) (hle : o + m ≤ cells.size) :
    Instr.fill place cells ((i, v) :: rest) = Instr.fill place (cells.toList.take o ++ v.cells.toList ++ cells.toList.drop (o + m)).toArray rest := by
  unfold Instr.fill
  simp only [hp]
  rw [if_neg (by simp [hv]; omega)]
  have h := fold_set v.cells.toList 0 o cells (by simp; omega)
  simp only [Nat.add_zero, Array.length_toList, hv] at h
  rw [← h]
  have : (v.cells.zipIdx.foldl (fun cs (x : Value × Nat) => match x with | (c, j) => cs.setIfInBounds (o + j) c) cells) = (v.cells.toList.zipIdx 0).foldl (fun cs p => cs.setIfInBounds (o + p.2) p.1) cells := by
    rw [← Array.foldl_toList, Array.toList_zipIdx]
  rw [this]; cases rest <;> rfl

theorem fill_bld {β : Type} {fs : List (Fld β)} {place : Nat → Option (Nat × Nat)} (hp : ∀ i f, fs[i]? = some f → place i = some (offF fs i, f.K.n)) {F : Fz} {a : Act} (hE : Env F a n E) :
    ∀ {ps : List (Nat × Operand)} {x y : β} {cells : Array Value}, Bld E fs ps x y → rdF F fs cells.toList x → ∃ r, Instr.fill place cells (ps.map fun p => (p.1, a.eval p.2)) = some r ∧ rdF F fs r.toList y := by
  intro ps x y cells hb
  induction hb generalizing cells with
  | nil x => intro h; exact ⟨cells, by simp [Instr.fill], h⟩
  | @cons i X ps x x' y f s hf hX hr hb r ih =>
    intro h
    have hv := hr F _ (hE.eval hX)
    have hle := (rdF.get h hf).1
    rw [List.map_cons, fill_one (hp i f hf) hv.sizeEq (by simpa using hle)]
    exact ih (by simpa using rdF.set h hf hv.rd (butF.spec hb))

/-- The places of a struct's fields, off the program's table, are those of the kind; its zero reads as z. -/
structure BT {β : Type} (P : Program) (T : TypeId) (fs : List (Fld β)) (z : β) : Prop where
  out : ∃ it zv ff pl, P.info? T = some it ∧ it.zero = some zv ∧ P.underlying T = some (.struct ff) ∧ ff.toList.mapM (fun f => (P.info? f.type).map fun i => (f.offset, i.size)) = some pl ∧
    (∀ i f, fs[i]? = some f → pl[i]? = some (offF fs i, f.K.n)) ∧ ∀ F, rdF F fs zv.cells.toList z
theorem OpV.bst {β : Type} {fs : List (Fld β)} {T : TypeId} {ps : List (Nat × Operand)} {z y : β} (hT : BT P T fs z) (hb : Bld E fs ps z y) : OpV P n E L ⟨some d, .build T ps.toArray, ty, pos, aft, none⟩ (.val (kSt fs) y) := OpV.pure fun F a hE => by
  obtain ⟨it, zv, ff, pl, h1, h2, h3, h4, h5, h6⟩ := hT.out
  obtain ⟨r, hr, hrd⟩ := fill_bld (place := fun i => pl.toArray[i]?) (fun i f hf => by simpa using h5 i f hf) hE hb (h6 F)
  refine ⟨.agg r, by simp only [SV.ok]; exact ⟨r.toList, hrd, by simp [pack, kSt]⟩, fun w => ?_⟩
  have hbt : P.built T (ps.map fun p => (p.1, a.eval p.2)) = some r := by
    unfold Program.built; simp only [h1, h3, h2, h4]; exact hr
  have := run_build (P := P) w T (ps.map fun p => (p.1, a.eval p.2)).toArray r (by simpa using hbt)
  simp only [execOp, List.map_toArray, this, Sem.run_bind, Result.andThen_ok, Sem.run_pure]

/-- Elements of a composite literal. -/
inductive BldA {α : Type} (E : List (Nat × SV)) (K : Kd α) : List (Nat × Operand) → List α → List α → Prop where
  | nil (xs : List α) : BldA E K [] xs xs
  | cons {i : Nat} {X : Operand} {ps : List (Nat × Operand)} {xs ys : List α} {y : α} {s : SV} (hi : Nat.blt i xs.length = true) (hX : ev E X = some s) (hr : rdOf s K y) (r : BldA E K ps (xs.set i y) ys) : BldA E K ((i, X) :: ps) xs ys
theorem fill_bldA {α : Type} {K : Kd α} {F : Fz} {a : Act} (hE : Env F a n E) :
    ∀ {ps : List (Nat × Operand)} {xs ys : List α} {cells : Array Value}, BldA E K ps xs ys → rdAll K F cells.toList xs → ∃ r, Instr.fill (fun i => some (i * K.n, K.n)) cells (ps.map fun p => (p.1, a.eval p.2)) = some r ∧ rdAll K F r.toList ys := by
  intro ps xs ys cells hb
  induction hb generalizing cells with
  | nil x => intro h; exact ⟨cells, by simp [Instr.fill], h⟩
  | @cons i X ps xs ys y s hi hX hr r ih =>
    intro h
    have hi' : i < xs.length := by simpa [Nat.blt_eq] using hi
    have hv := hr F _ (hE.eval hX)
    have hl := h.len
    have h1 : (i + 1) * K.n ≤ xs.length * K.n := Nat.mul_le_mul_right _ (by omega)
    rw [Nat.succ_mul] at h1
    have hle : i * K.n + K.n ≤ cells.size := by simp only [Array.length_toList] at hl; omega
    rw [List.map_cons, fill_one rfl hv.sizeEq hle]
    exact ih (by simpa using h.set hi' hv.rd)
theorem BldA.len {α : Type} {K : Kd α} {ps : List (Nat × Operand)} {xs ys : List α} (h : BldA E K ps xs ys) : ys.length = xs.length := by
  induction h with
  | nil => rfl
  | cons hi hX hr r ih => simpa using ih

/-- An array's literal. -/
structure BTA {α : Type} (P : Program) (T : TypeId) (m : Nat) (K : Kd α) (z : List α) : Prop where
  out : ∃ it zv e ie, P.info? T = some it ∧ it.zero = some zv ∧ P.underlying T = some (.array m e) ∧ P.info? e = some ie ∧ ie.size = K.n ∧ z.length = m ∧ ∀ F, rdAll K F zv.cells.toList z
theorem OpV.bar {α : Type} {K : Kd α} {m : Nat} {T : TypeId} {ps : List (Nat × Operand)} {z ys : List α} (hT : BTA P T m K z) (hb : BldA E K ps z ys) : OpV P n E L ⟨some d, .build T ps.toArray, ty, pos, aft, none⟩ (.val (kArr m K) ys) := OpV.pure fun F a hE => by
  obtain ⟨it, zv, e, ie, h1, h2, h3, h4, h5, h6, h7⟩ := hT.out
  obtain ⟨r, hr, hrd⟩ := fill_bldA hE hb (h7 F)
  refine ⟨.agg r, by simp only [SV.ok]; exact ⟨r.toList, ⟨by rw [hb.len, h6], hrd⟩, by simp [pack, kArr]⟩, fun w => ?_⟩
  have hbt : P.built T (ps.map fun p => (p.1, a.eval p.2)) = some r := by
    unfold Program.built; simp only [h1, h3, h2, h4, h5]; exact hr
  have := run_build (P := P) w T (ps.map fun p => (p.1, a.eval p.2)).toArray r (by simpa using hbt)
  simp only [execOp, List.map_toArray, this, Sem.run_bind, Result.andThen_ok, Sem.run_pure]

/-- Many zeros. -/
theorem rdAll_rep {α : Type} {K : Kd α} {F : Fz} {cs : List Value} {z : α} (hz : K.rd F cs z) : ∀ m, rdAll K F ((List.replicate m cs).flatten) (List.replicate m z)
  | 0 => rfl
  | m + 1 => by rw [List.replicate_succ, List.flatten_cons, List.replicate_succ]; exact ⟨cs, _, rfl, hz, rdAll_rep hz m⟩
theorem getElem_rep (cs : List Value) (hc : 0 < cs.length) : ∀ (m i : Nat), i < m * cs.length → ((List.replicate m cs).flatten)[i]? = cs[i % cs.length]?
  | 0, i, h => by omega
  | m + 1, i, h => by
    rw [List.replicate_succ, List.flatten_cons, List.getElem?_append]
    rw [Nat.succ_mul] at h
    split
    · rename_i h1; rw [Nat.mod_eq_of_lt h1]
    · rename_i h1
      rw [getElem_rep cs hc m (i - cs.length) (by omega)]
      rw [← Nat.mod_eq_sub_mod (by omega)]
theorem zeros_eq (z : Array Value) (m : Nat) (hz : 0 < z.size) : ((Array.range (m * z.size)).map (z[· % z.size]!)).toList = (List.replicate m z.toList).flatten := by
  apply List.ext_getElem?
  intro i
  by_cases hi : i < m * z.size
  · rw [getElem_rep z.toList (by simpa using hz) m i (by simpa using hi)]
    have hm : i % z.size < z.size := Nat.mod_lt _ hz
    simp [hi, hm]
  · rw [List.getElem?_eq_none (by simp; omega), List.getElem?_eq_none]
    have : ((List.replicate m z.toList).flatten).length = m * z.size := by simp
    omega
structure ET {α : Type} (P : Program) (e : TypeId) (K : Kd α) (z : α) : Prop where
  out : ∃ ie zv, P.info? e = some ie ∧ ie.zero = some zv ∧ ie.size = K.n ∧ 0 < K.n ∧ ∀ F, K.rd F zv.cells.toList z

theorem run_bs {α : Type} {K : Kd α} {T e : TypeId} {z : α} {m : Nat} {ps : List (Nat × Operand)} {ys : List α} (hT : P.underlying T = some (.slice e)) (he : ET P e K z) (hb : BldA E K ps (List.replicate m z) ys) (hm : Nat.ble (m * K.n) 16777216 = true)
    {F : Fz} {a : Act} (hE : Env F a n E) (w : World) : ∃ cells : Array Value, (execOp a.eval (⟨some d, .buildSlice T m ps.toArray, ty, pos, aft, none⟩ : Oper)).run P w = .ok (.value (.slice (some ⟨w.heap.size, 0, none⟩) m m)) (w.alloc (.cells cells e)) ∧ rdAll K F cells.toList ys := by
  obtain ⟨ie, zv, h1, h2, h3, h4, h5⟩ := he.out
  have hzs : zv.cells.size = K.n := by have := K.len (h5 F); simpa using this
  have hz0 : (sizeOf e).run P w = .ok K.n w := by simp [sizeOf, typeInfo, h1, h3]
  have hbig : ¬ m * K.n > 2 ^ 24 := by have := Nat.le_of_ble_eq_true hm; omega
  by_cases hm0 : m = 0
  · subst hm0
    obtain ⟨r, hr, hrd⟩ := fill_bldA (cells := #[]) hE hb rfl
    refine ⟨r, ?_, hrd⟩
    have hc : (Array.map (fun x => (default : Value)) (Array.range 0)) = #[] := by simp
    simp [execOp, Instr.buildSlice, run_underlying hT, hz0, newRow, hc, hr]
  · have hpos : ¬ m * K.n = 0 := by
      have : 0 < m * K.n := Nat.mul_pos (by omega) h4
      omega
    have hz := zeros_eq zv.cells m (by omega)
    obtain ⟨r, hr, hrd⟩ := fill_bldA (cells := (Array.range (m * K.n)).map (zv.cells[· % zv.cells.size]!)) hE hb (by rw [← hzs, hz]; exact rdAll_rep (h5 F) m)
    refine ⟨r, ?_, hrd⟩
    have := run_buildSlice (P := P) w T e m (ps.map fun p => (p.1, a.eval p.2)).toArray r ie zv hT h1 h2 (by rw [h3]; exact hbig) (by rw [h3]; exact hpos) (by rw [h3]; simpa using hr)
    simp only [execOp, List.map_toArray, this, Sem.run_bind, Result.andThen_ok, Sem.run_pure]

/-- A slice's literal, read only from now on. -/
theorem Under.bsF {α : Type} {K : Kd α} {T e : TypeId} {z : α} {m : Nat} {ps : List (Nat × Operand)} {ys : List α} (hT : P.underlying T = some (.slice e)) (he : ET P e K z) (hb : BldA E K ps (List.replicate m z) ys) (hm : Nat.ble (m * K.n) 16777216 = true)
    (hd : Nat.blt d n = true) (k : Under F0 n ((d, .val (kSl K) ys) :: E) L (wpList P ops Q rest)) : Under F0 n E L (wpList P ops Q (⟨some d, .buildSlice T m ps.toArray, ty, pos, aft, none⟩ :: rest)) :=
  Under.exec rfl fun F a w h0 hE hS => by
    obtain ⟨cells, hrun, hrd⟩ := run_bs (d := d) (ty := ty) (pos := pos) (aft := aft) hT he hb hm hE w
    have hl : ys.length = m := by simpa using hb.len
    obtain ⟨hn1, hn2⟩ := one_new w (.cells cells e)
    obtain ⟨hle, hS'⟩ := St.growF hS (Frag.one w.heap.size (.cells cells e)) (chg_alloc w _) hn1 hn2
    have hc : cells.size = m * K.n := by have := hrd.len; rw [hl] at this; simpa using this
    unfold Oper.wp; rw [hrun]
    refine k _ _ _ (Fz.tr h0 hle) ((hE.mono hle).put hd ?_) hS'
    simp only [SV.ok]
    refine ⟨[.slice (some ⟨w.heap.size, 0, none⟩) m m], ⟨some ⟨w.heap.size, 0, none⟩, m, by rw [hl], by rw [hl]; exact Nat.le_refl _, .inr ⟨⟨w.heap.size, 0, none⟩, cells, e, (0, 0), rfl, rfl, ?_, by rw [hl]; simp only; omega, ?_⟩⟩, rfl⟩
    · simp only [Fz.add]; rw [StG.fresh hS _ (Nat.le_refl _)]; exact Frag.one_at _ _
    · rw [List.drop_zero, List.take_of_length_le (by rw [hl]; simp; omega)]; exact hrd.mono hle
/-- A slice's literal, owned. -/
theorem Under.bsO {α : Type} {K : Kd α} {T e : TypeId} {z : α} {m : Nat} {ps : List (Nat × Operand)} {ys : List α} (hT : P.underlying T = some (.slice e)) (he : ET P e K z) (hb : BldA E K ps (List.replicate m z) ys) (hm : Nat.ble (m * K.n) 16777216 = true)
    (hd : Nat.blt d n = true) (k : ∀ v, Under F0 n ((d, .raw v) :: E) (.own K v e ys :: L) (wpList P ops Q rest)) : Under F0 n E L (wpList P ops Q (⟨some d, .buildSlice T m ps.toArray, ty, pos, aft, none⟩ :: rest)) :=
  Under.exec rfl fun F a w h0 hE hS => by
    obtain ⟨cells, hrun, hrd⟩ := run_bs (d := d) (ty := ty) (pos := pos) (aft := aft) hT he hb hm hE w
    have hl : ys.length = m := by simpa using hb.len
    obtain ⟨hn1, hn2⟩ := one_new w (.cells cells e)
    have hc : cells.size = m * K.n := by have := hrd.len; rw [hl] at this; simpa using this
    obtain ⟨_, _, _, _, _, hk0, _⟩ := he.out
    have hm' : m ≤ maxLen := by
      have h9 := Nat.le_of_ble_eq_true hm
      have : m * 1 ≤ m * K.n := Nat.mul_le_mul_left _ hk0
      simp only [maxLen]; omega
    have hS' : St F (w.alloc (.cells cells e)) (.own K (.slice (some ⟨w.heap.size, 0, none⟩) m m) e ys :: L) :=
      St.grow hS (Frag.one w.heap.size (.cells cells e)) (.inr ⟨w.heap.size, m, cells, by rw [hl], rfl, by omega, hm', hc, by rw [hl, List.take_of_length_le (by simp; omega)]; exact hrd⟩) (chg_alloc w _) hn1 hn2
    unfold Oper.wp; rw [hrun]
    exact k _ _ _ _ h0 (hE.put hd (by simp only [SV.ok])) hS'
end
end Go.Sim

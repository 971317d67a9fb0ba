/- Sim8: what the printed texts use besides. -/
import Derived.Test.YtgllljocmpbooaaSim7
import Derived.KernelRfl
set_option linter.unusedVariables false
set_option linter.unusedSimpArgs false
namespace Go.Sim
open Go

theorem cells_cast {α : Type} {K : Kd α} {F : Fz} {cs ds : List Value} {x : α} (h : ds = cs) (k : K.rd F cs x) : K.rd F ds x := h ▸ k
theorem cells_castF {β : Type} {fs : List (Fld β)} {F : Fz} {cs ds : List Value} {x : β} (h : ds = cs) (k : (kSt fs).rd F cs x) : rdF F fs ds x := h ▸ k
theorem cells_castA {α : Type} {K : Kd α} {F : Fz} {cs ds : List Value} {x : List α} (h : ds = cs) (k : rdAll K F cs x) : rdAll K F ds x := h ▸ k
theorem and_dec {p q : Prop} [Decidable p] [Decidable q] (h : (decide p && decide q) = true) : p ∧ q := by simpa using h

section
variable {P : Program} {ops : Array Oper} {Q : Exit → Act → World → Prop} {rest : List Oper} {F0 : Fz} {n : Nat} {E : List (Nat × SV)} {L : List Res}
variable {d : Nat} {op : Op} {ty : TypeId} {pos : String} {aft : Array Edge} {s : SV}

/-- A symbolic value is taken for what it reads as. -/
theorem Under.toV {α : Type} {K : Kd α} {x : α} {t : Nat} {s' : SV} {X : Act → World → Prop} (h : look E t = some s') (hr : rdOf s' K x) (k : Under F0 n ((t, .val K x) :: E) L X) : Under F0 n E L X := fun F a w h0 hE hS =>
  k F a w h0 ⟨hE.defers, hE.size, fun u r e => by
    rw [look_cons] at e; split at e
    · rename_i hk; subst hk; cases e
      obtain ⟨v, h1, h2⟩ := hE.at_ t _ h
      exact ⟨v, h1, by simp only [SV.ok]; exact hr F v h2⟩
    · exact hE.at_ u r e⟩ hS

/-! ### Values of arrays and structs -/
theorem asAgg_of {α : Type} {K : Kd α} {F : Fz} {v : Value} {x : α} (h : K.val F v x) (ha : K.agg = true) : v = .agg v.cells.toList.toArray ∧ K.rd F v.cells.toList x := by
  have := h.eq_pack; rw [ha] at this; exact ⟨by simpa [pack] using this, h.rd⟩
theorem run_part {T : TypeId} {α : Type} {K : Kd α} (hT : KT P T K) (cs : Array Value) (o : Nat) (hle : o + K.n ≤ cs.size) (w : World) : (part T cs o).run P w = .ok (pack K.agg ((cs.toList.drop o).take K.n)) w := by
  cases ha : K.agg with
  | true =>
    have h1 := isAgg_of (P := P) (by rw [hT.agg, ha] : aggB P T = some true) w
    have h2 := run_sizeOf' hT.size w
    simp only [part, Sem.run_bind, h1, Result.andThen_ok, if_true, h2, Sem.run_pure, pack]
    congr 2
    apply Array.ext'
    simp [List.extract, List.take_drop]
  | false =>
    have h1 := isAgg_of (P := P) (by rw [hT.agg, ha] : aggB P T = some false) w
    have hn := K.sole ha
    have hlt : o < cs.size := by omega
    have htk : ((cs.toList.drop o).take K.n) = [cs[o]] := by
      rw [hn, List.drop_eq_getElem_cons (by simpa using hlt)]; simp
    simp only [part, Sem.run_bind, h1, Result.andThen_ok]
    simp [hlt, htk, pack]
theorem OpV.ixV {α : Type} {K : Kd α} {m : Nat} {T e : TypeId} {X I : Operand} {xs : List α} {x : α} {q : IntKind} {i : Int} (hx : idx xs i = some x) (hT : P.underlying T = some (.array m e)) (he : KT P e K)
    (hX : ev E X = some (.val (kArr m K) xs)) (hI : ev E I = some (.raw (.int q i))) : OpV P n E L ⟨some d, .index T X I, ty, pos, aft, none⟩ (.val K x) := OpV.pure fun F a hE => by
  have := hE.eval hX
  simp only [SV.ok] at this
  obtain ⟨hv, hrd⟩ := asAgg_of this rfl
  obtain ⟨h0, h1, hx⟩ := idx_some hx
  have hm : xs.length = m := hrd.1
  have hlen := hrd.2.len
  have h2 : (i.toNat + 1) * K.n ≤ xs.length * K.n := Nat.mul_le_mul_right _ (by omega)
  rw [Nat.succ_mul] at h2
  refine ⟨_, by simp only [SV.ok]; exact ⟨_, hrd.2.get hx, rfl⟩, fun w => ?_⟩
  have hp := run_part he (a.eval X).cells.toList.toArray (i.toNat * K.n) (by simp only [List.size_toArray, hlen]; exact h2) w
  rw [execOp]
  simp only [hE.raw hI]
  rw [hv]
  have hlt : i < (m : Int) := by omega
  simp [Instr.index, asIntOf, run_underlying hT, h0, hlt, run_sizeOf' he.size] at hp ⊢
  simp [Value.cells] at hp ⊢
  rw [hp]
  rfl
theorem OpV.ixVI {k : IntKind} {m : Nat} {T e : TypeId} {X I : Operand} {xs : List Int} {x : Int} {q : IntKind} {i : Int} (hx : idx xs i = some x) (hT : P.underlying T = some (.array m e)) (he : KT P e (kInt k))
    (hX : ev E X = some (.val (kArr m (kInt k)) xs)) (hI : ev E I = some (.raw (.int q i))) : OpV P n E L ⟨some d, .index T X I, ty, pos, aft, none⟩ (.raw (.int k x)) := OpV.raw_of (OpV.ixV hx hT he hX hI)
theorem OpV.fdV {β : Type} {fs : List (Fld β)} {T : TypeId} {X : Operand} {i m : Nat} {x : β} {f : Fld β} {tf : TypeId} (hT : fldB P T i = some (offF fs i, m + 1)) (hf : fs[i]? = some f) (hX : ev E X = some (.val (kSt fs) x))
    (hk : ∃ ff g, P.underlying T = some (.struct ff) ∧ ff[i]? = some g ∧ KT P g.type f.K) :
    OpV P n E L ⟨some d, .field T X i, ty, pos, aft, none⟩ (.val f.K (f.get x)) := OpV.pure fun F a hE => by
  obtain ⟨ff, g, hu, hg, hkt⟩ := hk
  have := hE.eval hX
  simp only [SV.ok] at this
  obtain ⟨hv, hrd⟩ := asAgg_of this rfl
  obtain ⟨h1, h2⟩ := rdF.get hrd hf
  refine ⟨_, by simp only [SV.ok]; exact ⟨_, h2, rfl⟩, fun w => ?_⟩
  have ho : g.offset = offF fs i := by
    unfold fldB at hT; rw [hu] at hT
    simp only [hg, Option.bind_some] at hT
    obtain ⟨s', _, h⟩ := Option.map_eq_some_iff.1 hT
    exact (Prod.mk.injEq .. ▸ h).1
  have hp := run_part hkt (a.eval X).cells.toList.toArray (offF fs i) (by simpa using h1) w
  rw [execOp]
  simp only []
  rw [hv]
  simp [Instr.field, run_underlying hu, hg, asAgg, ho] at hp ⊢
  simp [Value.cells] at hp ⊢
  rw [hp]
  rfl

/-! ### max, min -/
theorem OpV.max2 {k : IntKind} {x y : Int} {X Y : Operand} {t u : TypeId} (hX : ev E X = some (.raw (.int k x))) (hY : ev E Y = some (.raw (.int k y))) :
    OpV P n E L ⟨some d, .call ⟨.builtin .max, #[X, Y], #[t, u]⟩, ty, pos, aft, none⟩ (.raw (.int k (max x y))) :=
  OpV.rawv fun F a hE w => by
    have e : (if y > x then y else x) = max x y := by split <;> omega
    simp [execOp, resolve, invoke, builtin, hE.raw hX, hE.raw hY, Builtin.max_, Builtin.max2] at e ⊢
    exact e
theorem OpV.min2 {k : IntKind} {x y : Int} {X Y : Operand} {t u : TypeId} (hX : ev E X = some (.raw (.int k x))) (hY : ev E Y = some (.raw (.int k y))) :
    OpV P n E L ⟨some d, .call ⟨.builtin .min, #[X, Y], #[t, u]⟩, ty, pos, aft, none⟩ (.raw (.int k (min x y))) :=
  OpV.rawv fun F a hE w => by
    have e : (if y < x then y else x) = min x y := by split <;> omega
    simp [execOp, resolve, invoke, builtin, hE.raw hX, hE.raw hY, Builtin.min_, Builtin.min2] at e ⊢
    exact e

/-! ### Returns out of variables -/
theorem run_cell {α : Type} {K : Kd α} {T : TypeId} (hT : KT P T K) {F : Fz} {w : World} (hon : F.on w) {p : Addr} {x : α} (hp : RdAt F p K x) : ∃ v, (loadVar T p).run P w = .ok v w ∧ K.val F v x := by
  obtain ⟨c, e, fr, hs, hb, hle, hr⟩ := hp.out
  have := run_loadAt_cells hT hs (hon.blk _ _ hb) hle
  exact ⟨_, by simpa [Instr.loadAt, Instr.sureAddr] using this, ⟨_, hr, rfl⟩⟩
theorem Under.ret_c {α : Type} {K : Kd α} {fn : Func} {t T : Nat} {x : α} {L' : List Res} (hr : fn.results = #[.cell t T]) (hT : KT P T K) (h : look E t = some (.ptr K x)) (he : SV.val K x = s) (hL : L = L') :
    Under F0 n E L (bodyPost P fn (fun e w' => ∃ G v, e = .returned v ∧ F0 ≤ G ∧ St G w' L' ∧ s.ok G v) .ret) := fun F a w h0 hE hS => by
  subst he; subst hL
  obtain ⟨v, hv, ho⟩ := hE.at_ t _ h
  simp only [SV.ok] at ho
  obtain ⟨p, rfl, hp⟩ := ho
  obtain ⟨u, hu, hk⟩ := run_cell hT hS.on hp
  refine ⟨hE.defers, u, ?_, F, u, rfl, h0, hS, by simp only [SV.ok]; exact hk⟩
  simp [results, hr, Array.getD_eq_getD_getElem?, hv, asAddr, hu]
theorem Under.ret_ct {α : Type} {K : Kd α} {fn : Func} {t u T : Nat} {x : α} {s2 : SV} {L' : List Res} (hr : fn.results = #[.cell t T, .tmp u]) (hT : KT P T K) (h : look E t = some (.ptr K x)) (h2 : look E u = some s2) (he : SV.tup [SV.val K x, s2] = s) (hL : L = L') :
    Under F0 n E L (bodyPost P fn (fun e w' => ∃ G v, e = .returned v ∧ F0 ≤ G ∧ St G w' L' ∧ s.ok G v) .ret) := fun F a w h0 hE hS => by
  subst he; subst hL
  obtain ⟨v, hv, ho⟩ := hE.at_ t _ h
  obtain ⟨v2, hv2, ho2⟩ := hE.at_ u _ h2
  simp only [SV.ok] at ho
  obtain ⟨p, rfl, hp⟩ := ho
  obtain ⟨q, hq, hk⟩ := run_cell hT hS.on hp
  refine ⟨hE.defers, .tuple #[q, v2], ?_, F, _, rfl, h0, hS, ?_⟩
  · simp [results, hr, Array.getD_eq_getD_getElem?, hv, hv2, asAddr, hq]
  · simp only [SV.ok]; exact ⟨[q, v2], rfl, by simp only [SV.oks]; exact ⟨hk, ho2, trivial⟩⟩
end
end Go.Sim

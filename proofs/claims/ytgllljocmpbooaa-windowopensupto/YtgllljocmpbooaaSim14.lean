/- Sim14: keys; maps read. -/
import Derived.Test.YtgllljocmpbooaaSim13
set_option linter.unusedVariables false
set_option linter.unusedSimpArgs false
namespace Go.Sim
open Go

theorem rdAll_ints {k : IntKind} {F : Fz} : ∀ {xs : List Int} {cs : List Value}, rdAll (kInt k) F cs xs ↔ cs = xs.map (.int k ·)
  | [], cs => Iff.rfl
  | x :: xs, cs => by
    simp only [rdAll, List.map_cons]
    constructor
    · rintro ⟨c, d, rfl, h, r⟩
      have hc : c = [.int k x] := h
      rw [hc, rdAll_ints.1 r]; rfl
    · rintro rfl
      exact ⟨[.int k x], xs.map (.int k ·), rfl, rfl, rdAll_ints.2 rfl⟩
theorem val_ints {k : IntKind} {m : Nat} {F : Fz} {v : Value} {xs : List Int} : (kArr m (kInt k)).val F v xs ↔ xs.length = m ∧ v = .agg (xs.map (.int k ·)).toArray :=
  ⟨fun ⟨cs, ⟨h1, h2⟩, e⟩ => ⟨h1, by rw [e, rdAll_ints.1 h2]; rfl⟩, fun ⟨h1, e⟩ => ⟨xs.map (.int k ·), ⟨h1, rdAll_ints.2 rfl⟩, e⟩⟩

theorem run_forIn_unit {P : Program} {w : World} {f : Nat → Sem Unit} : ∀ {l : List Nat}, (∀ i ∈ l, (f i).run P w = .ok () w) → (forIn l PUnit.unit (fun i _ => do f i; pure (ForInStep.yield PUnit.unit)) : Sem PUnit).run P w = .ok PUnit.unit w
  | [], _ => by simp
  | i :: l, h => by
    simp only [List.forIn_cons, Sem.run_bind, h i (by simp), Result.andThen_ok, Sem.run_pure]
    exact run_forIn_unit fun j hj => h j (by simp [hj])

theorem same_ints (k : IntKind) : ∀ x : List Int, (((x.map (Value.int k ·)).toArray.toList.zip (x.map (Value.int k ·)).toArray.toList).all fun (p : Value × Value) => match p with | (x, y) => Instr.sameBits 9999 x y) = true
  | [] => rfl
  | a :: x => by
    have ih := same_ints k x
    simp only [List.toList_toArray] at ih
    simp [Instr.sameBits, ih]
theorem KeyK.ints {P : Program} {kt e : TypeId} {k : IntKind} {m : Nat} (hT : P.underlying kt = some (.array m e)) (he : P.underlying e = some (.int k)) (hk : KT P e (kInt k)) : KeyK P kt (kArr m (kInt k)) where
  chk := fun {b F v x w} hv => by
    obtain ⟨hl, rfl⟩ := val_ints.1 hv
    rw [show 10000 = 9999 + 1 from rfl, Instr.checkKey]
    simp only [Sem.run_bind, run_underlying hT, Result.andThen_ok]
    have hz := run_sizeOf' hk.size w
    have key : ∀ i ∈ List.range' 0 m, ∃ c, (part e (List.map (fun x => Value.int k x) x).toArray (i * (kInt k).n)).run P w = .ok c w ∧ (Instr.checkKey b 9999 e c).run P w = .ok () w := by
      intro i hi
      have him : i < m := by simpa using hi
      have hp := run_part hk (List.map (fun x => Value.int k x) x).toArray (i * 1) (by simp [kInt]; omega) w
      have h1 : ((List.map (fun x => Value.int k x) x).toArray.toList.drop (i * 1)).take (kInt k).n = [.int k x[i]] := by
        simp only [Nat.mul_one, kInt]
        rw [List.drop_eq_getElem_cons (by simp; omega)]; simp
      rw [h1] at hp
      refine ⟨_, hp, ?_⟩
      rw [show 9999 = 9998 + 1 from rfl, Instr.checkKey]
      simp [run_underlying he]
    simp only [Std.Legacy.Range.forIn_eq_forIn_range', Std.Legacy.Range.size, Nat.sub_zero, Nat.add_one_sub_one, Nat.div_one]
    generalize List.range' 0 m = is at key
    induction is with
    | nil => simp
    | cons j is ih =>
      obtain ⟨c, p1, p2⟩ := key j (by simp)
      simp only [List.forIn_cons, Sem.run_bind, hz, Result.andThen_ok, p1, p2, Sem.run_pure]
      exact ih (fun y hy => key y (by simp [hy]))
  eq := fun {F v u x y w} hv hu => (EqK.arr (EqK.int he) hk hT).eq (d := 9998) hv hu
  find := fun {v es r w} h => by
    rw [run_findKey_eq w (by rw [hT])]; exact h
  same := fun {F v u x y} hxy hv hu => by
    obtain ⟨_, rfl⟩ := val_ints.1 hv
    obtain ⟨_, rfl⟩ := val_ints.1 hu
    have : x = y := by simpa using hxy
    subst this
    show Instr.sameBits (9999 + 1) _ _ = true
    simp only [Instr.sameBits, beq_self_eq_true, Bool.true_and]
    exact same_ints k x
section
variable {P : Program} {ops : Array Oper} {Q : Exit → Act → World → Prop} {rest : List Oper} {F0 : Fz} {n : Nat} {E : List (Nat × SV)} {L : List Res}
variable {d : Nat} {op : Op} {ty : TypeId} {pos : String} {aft : Array Edge} {s : SV}
/-- The call's own map is frozen. -/
theorem Under.frzM {α β : Type} {K : Kd α} {V : Kd β} {b : Nat} {ps : List (α × β)} {t : Nat} {X : Act → World → Prop} (ht : look E t = some (.raw (.map (some b)))) (k : Under F0 n ((t, .val (kMap K V) ps) :: E) L X) : Under F0 n E (.mp K V b ps :: L) X := fun F a w h0 hE hS => by
  obtain ⟨h, hh, hap, hle, hS'⟩ := hS.freeze
  refine k _ a w (Fz.tr h0 hle) ⟨hE.defers, hE.size, fun u r hl => ?_⟩ hS'
  rw [look_cons] at hl; split at hl
  · rename_i hk; subst hk; cases hl
    obtain ⟨v', h1, h2⟩ := hE.at_ t _ ht
    simp only [SV.ok] at h2; subst h2
    refine ⟨_, h1, ?_⟩
    simp only [SV.ok]
    obtain ⟨es, clock, hr, rfl⟩ := hh
    have hg : F.blk b = none := hap b (by rw [Frag.one_at]; simp)
    exact ⟨[.map (some b)], .inr ⟨b, es, clock, rfl, by simp only [Fz.add, hg]; exact Frag.one_at _ _, hr⟩, rfl⟩
  · exact (hE.mono hle).at_ u r hl
theorem OpV.lenM {α β : Type} {K : Kd α} {V : Kd β} {ps : List (α × β)} {X : Operand} {t kt et : TypeId} (ht : P.underlying t = some (.map kt et)) (hX : ev E X = some (.val (kMap K V) ps)) :
    OpV P n E L ⟨some d, .call ⟨.builtin .len, #[X], #[t]⟩, ty, pos, aft, none⟩ (.raw (.int .i64 ps.length)) := fun F a hE => by
  refine ⟨.int .i64 ps.length, by simp only [SV.ok], fun w ⟨G, hg, hS⟩ => ?_⟩
  have hv := hE.eval hX
  simp only [SV.ok] at hv
  obtain ⟨cs, h, hv3⟩ := hv.mono hg
  have hr : (execOp a.eval (⟨some d, .call ⟨.builtin .len, #[X], #[t]⟩, ty, pos, aft, none⟩ : Oper)).run P w = .ok (.value (.int .i64 ps.length)) w := by
    rcases h with ⟨rfl, rfl⟩ | ⟨b, es, clock, rfl, hb, hrd⟩
    · have hv2 : a.eval X = .map none := hv3
      simp [execOp, resolve, invoke, builtin, Builtin.len_, run_underlying ht, hv2, goInt]
    · have hv2 : a.eval X = .map (some b) := hv3
      have hbw := hS.on.blk _ _ hb
      have hl := hrd.1.len
      simp [execOp, resolve, invoke, builtin, Builtin.len_, run_underlying ht, hv2, goInt, Go.MapKept.run_getObj_map (P := P) hbw]
      simp at hl; omega
  unfold Oper.quietAt; rw [hr]; exact ⟨rfl, rfl⟩
end
end Go.Sim

/- Sim12: bytes.Compare's entry; maps. -/
import Derived.Test.YtgllljocmpbooaaSim11
import Derived.Lib.BytesEntry
import Derived.Laws.Externs
set_option linter.unusedVariables false
set_option linter.unusedSimpArgs false
namespace Go.Sim
open Go
section
variable {P : Program} {ops : Array Oper} {Q : Exit → Act → World → Prop} {rest : List Oper} {F0 : Fz} {n : Nat} {E : List (Nat × SV)} {L : List Res}
variable {d : Nat} {op : Op} {ty : TypeId} {pos : String} {aft : Array Edge} {s : SV}

abbrev toB (xs : List Int) : List UInt8 := Lib.bytesOf xs
def cmpB (xs ys : List Int) : Int := Lib.compareBytes (toB xs) (toB ys)

theorem rdAll_at {k : IntKind} {F : Fz} : ∀ {xs : List Int} {cs : List Value} {j : Nat} {x : Int}, rdAll (kInt k) F cs xs → xs[j]? = some x → cs[j]? = some (.int k x)
  | [], cs, j, x, _, h => by simp at h
  | y :: xs, cs, j, x, ⟨c, d, e, h, r⟩, hx => by
    have hc : c = [.int k y] := h
    subst hc; subst e
    cases j with
    | zero => simp at hx; subst hx; rfl
    | succ j => simpa using rdAll_at r (by simpa using hx)
theorem run_bytesOf {F : Fz} {w : World} {v : Value} {xs : List Int} (hv : (kSl (kInt .u8)).val F v xs) (hw : ∀ b o, F.blk b = some o → w.heap[b]? = some o) : ∃ B : ByteArray, (Extern.Bytes.bytesOf v).run P w = .ok B w ∧ B.data.toList = toB xs := by
  obtain ⟨cs, ⟨a, cap, rfl, hcap, r⟩, rfl⟩ := hv
  cases a with
  | none =>
    have : xs = [] := by
      rcases r with r | ⟨p, _, _, _, h, _⟩
      · exact List.eq_nil_of_length_eq_zero r
      · cases h
    subst this
    exact ⟨.empty, by simp [pack, kSl, Extern.Bytes.bytesOf], rfl⟩
  | some p =>
    have hcell : ∀ j x, xs[j]? = some x → w.cell? (p.add j) = some (.int .u8 x) := by
      intro j x hx
      rcases r with r | ⟨q, c, e, fr, hq, hp, hb, hle, hrd⟩
      · have := List.eq_nil_of_length_eq_zero r; subst this; simp at hx
      · cases hq
        obtain ⟨b, o, sp⟩ := p; simp only at hp hb hle; subst hp
        rw [Addr.add_mid, cell_of_row w b (o + j) c e fr (hw _ _ hb)]
        have h1 := rdAll_at hrd hx
        have hj : j < xs.length * (kInt .u8).n := by have := (List.getElem?_eq_some_iff.1 hx).1; simp [kInt]; omega
        rw [List.getElem?_take_of_lt hj, List.getElem?_drop] at h1
        simpa using h1
    have := Lib.run_loadBytesX (P := P) w xs p .empty hcell
    exact ⟨_, by simpa [pack, kSl, Extern.Bytes.bytesOf] using this, by simp [toB]⟩
/-- internal/bytealg.Compare: no body. -/
theorem OpV.cmp {f : FuncId} {fn : Func} {X A B : Operand} {tys : Array TypeId} {xs ys : List Int} {s1 s2 : SV} (hf : P.funcs[f]? = some fn) (hname : (fn.name == "runtime.NumGoroutine") = false) (hb : fn.body.isNone = true) (hn : Extern.findNext fn = none) (he : Extern.find fn = some Extern.BytealgCompare.compare)
    (hX : ev E X = some (.raw (.func (.func f) #[] #[]))) (hA : ev E A = some s1) (h1 : rdOf s1 (kSl (kInt .u8)) xs) (hB : ev E B = some s2) (h2 : rdOf s2 (kSl (kInt .u8)) ys) :
    OpV P n E L ⟨some d, .call ⟨.value X, #[A, B], tys⟩, ty, pos, aft, none⟩ (.raw (.int .i64 (cmpB xs ys))) := fun F a hE => by
  refine ⟨.int .i64 (cmpB xs ys), by simp only [SV.ok], fun w ⟨G, hg, hS⟩ => ?_⟩
  have v1 := (h1 F _ (hE.eval hA)).mono hg
  have v2 := (h2 F _ (hE.eval hB)).mono hg
  have hon := hS.on.blk
  obtain ⟨B1, r1, e1⟩ := run_bytesOf (P := P) v1 hon
  obtain ⟨B2, r2, e2⟩ := run_bytesOf (P := P) v2 hon
  have hr : (callFunc f #[a.eval A, a.eval B]).run P w = .ok (.value (.int .i64 (cmpB xs ys))) w := by
    rw [run_callFunc_extern hf hname hb hn he]
    have hc : (Extern.BytealgCompare.compare #[a.eval A, a.eval B]).run P w = .ok (.int .i64 (cmpB xs ys)) w := by
      change Sem.run P (do Pure.pure (goInt (Extern.BytealgCompare.cmp (← Extern.Bytes.bytesOf (a.eval A)) (← Extern.Bytes.bytesOf (a.eval B))))) w = _
      simp only [Sem.run_bind, r1, r2, Result.andThen_ok, Sem.run_pure, goInt, Lib.cmp_eq, e1, e2]
      rfl
    rw [hc]; rfl
  unfold Oper.quietAt
  simp only [execOp, resolve, hE.raw hX, Deferred.ofValue, invoke, List.map_toArray, Sem.run_bind, Sem.run_pure, Result.andThen_ok, Array.empty_append, Array.append_empty, List.map_cons, List.map_nil]
  rw [hr]
  exact ⟨rfl, rfl⟩
theorem oks_append {F : Fz} : ∀ {l : List SV} {vs : List Value} {m : List SV} {us : List Value}, SV.oks F vs l → SV.oks F us m → SV.oks F (vs ++ us) (l ++ m)
  | [], [], _, _, _, h => h
  | s :: l, v :: vs, _, _, h, k => by simp only [SV.oks, List.cons_append] at *; exact ⟨h.1, oks_append h.2 k⟩
  | [], _ :: _, _, _, h, _ => by simp only [SV.oks] at h
  | _ :: _, [], _, _, h, _ => by simp only [SV.oks] at h
/-- A closure: it holds places that are only read. -/
theorem OpV.mkf {f : FuncId} {xs : List Operand} {l : List SV} (hx : evs E xs = some l) : OpV P n E L ⟨some d, .makeFunc (.func f) #[] xs.toArray, ty, pos, aft, none⟩ (.fn f l) := OpV.pure fun F a hE => by
  have h := Env.evals hE hx
  refine ⟨.func (.func f) #[] (xs.map a.eval).toArray, by simp only [SV.ok]; exact ⟨_, rfl, h⟩, fun w => ?_⟩
  simp [execOp, Instr.makeFunc]
/-- The call of a closure. -/
theorem Under.callC {f : FuncId} {X : Operand} {xs : List Operand} {tys : Array TypeId} {l c : List SV} {L' : List Res} (hc : ∀ args w, (callFunc f args).run P w = .ok (.enter f args) w) (hX : ev E X = some (.fn f c)) (hx : evs E xs = some l) (ho : Ok P f (l ++ c) L s L')
    (hd : Nat.blt d n = true) (k : Under F0 n ((d, s) :: E) L' (wpList P ops Q rest)) : Under F0 n E L (wpList P ops Q (⟨some d, .call ⟨.value X, xs.toArray, tys⟩, ty, pos, aft, none⟩ :: rest)) :=
  Under.exec rfl fun F a w h0 hE hS => by
    have hv := Env.evals hE hx
    have hf := hE.eval hX
    simp only [SV.ok] at hf
    obtain ⟨us, hu, hus⟩ := hf
    have h1 := ho F w _ (oks_append hv hus) hS
    unfold Oper.wp
    simp only [execOp, resolve, hu, Deferred.ofValue, invoke, List.map_toArray, Sem.run_bind, Sem.run_pure, Result.andThen_ok, Array.empty_append, List.append_toArray]
    rw [hc]
    exact h1.mono fun e w' ⟨G, v, he, hg, hS', hok⟩ => by
      subst he
      exact k G _ _ (Fz.tr h0 hg) ((hE.mono hg).put hd hok) hS'
end
end Go.Sim

/- Sim29: delete; a map's iterator; loops over a map in whatever order. -/
import Derived.Test.YtgllljocmpbooaaSim28
import Derived.Laws.IdiomRangeMap
set_option linter.unusedVariables false
set_option linter.unusedSimpArgs false
namespace Go.Sim
open Go

def mdel {α β : Type} [BEq α] (x : α) : List (α × β) → List (α × β)
  | [] => []
  | p :: ps => bif x == p.1 then ps else p :: mdel x ps
theorem mdel_none {α β : Type} [BEq α] {x : α} : ∀ {ps : List (α × β)} {i : Nat}, mpos x ps i = none → mdel x ps = ps
  | [], _, _ => rfl
  | p :: ps, i, h => by
    cases hxy : (x == p.1) with
    | true => simp [mpos, hxy] at h
    | false => simp only [mpos, hxy, cond_false] at h; simp [mdel, hxy, mdel_none h]
theorem rdM_del {α β : Type} [BEq α] {K : Kd α} {V : Kd β} {F : Fz} {x : α} :
    ∀ {es : List MapEntry} {ps : List (α × β)} {i j : Nat}, rdM K V F es ps → mpos x ps i = some (i + j) → rdM K V F (es.eraseIdx j) (mdel x ps)
  | e :: es, p :: ps, i, j, ⟨a, b, c⟩, h => by
    cases hxy : (x == p.1) with
    | true =>
      simp only [mpos, hxy, cond_true, Option.some.injEq] at h
      have : j = 0 := by omega
      subst this
      simpa [mdel, hxy] using c
    | false =>
      simp only [mpos, hxy, cond_false] at h
      have := mpos_ge h
      cases j with
      | zero => omega
      | succ j =>
        simp only [mdel, hxy, cond_false, List.eraseIdx_cons_succ]
        exact ⟨a, b, rdM_del (i := i + 1) c (by rw [h]; congr 1; omega)⟩
  | [], [], i, j, _, h => by cases h
  | [], _ :: _, _, _, h, _ => h.elim
  | _ :: _, [], _, _, h, _ => h.elim
theorem stamp_del {es es' : Array MapEntry} {clock : Nat} (h : Stamp es clock) (hs : List.Sublist es'.toList es.toList) : Stamp es' clock :=
  ⟨fun e he => h.1 e (hs.subset he), h.2.sublist (hs.map _)⟩

theorem rdM_filter {α β : Type} {K : Kd α} {V : Kd β} {F : Fz} (f : MapEntry → Bool) : ∀ {es : List MapEntry} {ps : List (α × β)}, rdM K V F es ps → ∃ qs, rdM K V F (es.filter f) qs
  | [], [], _ => ⟨[], trivial⟩
  | e :: es, p :: ps, ⟨a, b, c⟩ => by
    obtain ⟨qs, hq⟩ := rdM_filter f c
    cases hf : f e with
    | true => exact ⟨p :: qs, by simpa [List.filter_cons, hf] using ⟨a, b, hq⟩⟩
    | false => exact ⟨qs, by simpa [List.filter_cons, hf] using hq⟩
  | [], _ :: _, h => h.elim
  | _ :: _, [], h => h.elim
/-- One entry is taken out. -/
theorem rdM_pick {α β : Type} {K : Kd α} {V : Kd β} {F : Fz} {e : MapEntry} : ∀ {es : List MapEntry} {ps : List (α × β)}, rdM K V F es ps → (es.map (·.born)).Nodup → e ∈ es →
    ∃ p qs, ps.Perm (p :: qs) ∧ K.val F e.key p.1 ∧ V.val F e.val p.2 ∧ rdM K V F (es.filter fun x => x.born != e.born) qs
  | [], _, _, _, he => by cases he
  | x :: es, [], h, _, _ => h.elim
  | x :: es, p :: ps, ⟨a, b, c⟩, hn, he => by
    have hn' := List.nodup_cons.1 hn
    by_cases hx : x = e
    · subst hx
      have hall : es.filter (fun y => y.born != x.born) = es := List.filter_eq_self.2 fun y hy => by
        have : y.born ≠ x.born := fun h => hn'.1 (List.mem_map.2 ⟨y, hy, h⟩)
        simpa using this
      exact ⟨p, ps, List.Perm.refl _, a, b, by rw [List.filter_cons]; simp [hall]; exact c⟩
    · have hm : e ∈ es := by rcases List.mem_cons.1 he with h | h; exact absurd h.symm hx; exact h
      have hb : x.born ≠ e.born := fun h => hn'.1 (List.mem_map.2 ⟨e, hm, h.symm⟩)
      obtain ⟨q, qs, h1, h2, h3, h4⟩ := rdM_pick c hn'.2 hm
      refine ⟨q, p :: qs, (List.Perm.cons p h1).trans (List.Perm.swap _ _ _), h2, h3, ?_⟩
      rw [List.filter_cons, if_pos (by simpa using hb)]
      exact ⟨a, b, h4⟩

theorem run_next_at {P : Program} {w : World} {ty : TypeId} {r bm since c0 : Nat} {seen : Array Nat} {es : Array MapEntry} {clock : Nat} (hr : w.heap[r]? = some (.mapIter (some bm) since seen c0)) (hb : w.heap[bm]? = some (.map es clock)) (hold : ∀ x ∈ es.toList, x.born < since) (hsc : since ≤ c0) :
    (leftOf es seen = #[] ∧ (Instr.next (.pointer (some ⟨r, 0, none⟩)) false ty).run P w = .ok (.tuple #[.bool false]) w) ∨
    ∃ e ∈ (leftOf es seen).toList, ∃ w1 : World, (w1 = w ∨ w1 = w.drew) ∧ (Instr.next (.pointer (some ⟨r, 0, none⟩)) false ty).run P w = .ok (.tuple #[.bool true, e.key, e.val]) { w1 with heap := w1.heap.setIfInBounds r (.mapIter (some bm) since (seen.push e.born) clock) } := by
  simp only [Instr.next, getObj, Sem.run_bind, Sem.run, hr, hb, Result.andThen, next_test_false seen es since c0 hold hsc, Bool.false_eq_true, if_false]
  unfold leftOf
  have hmem : ∀ x ∈ (Array.filter (fun e => !seen.contains e.born) es).toList, x.born < since := fun x hx => hold x (by simp at hx ⊢; exact hx.1)
  generalize Array.filter (fun e => !seen.contains e.born) es = L at hmem ⊢
  have e1 : L.filter (fun x => decide (x.born < since)) = L := Array.filter_eq_self.2 (fun x hx => by simpa using hmem x (by simpa using hx))
  have e2 : L.filter (fun x => decide (x.born ≥ since)) = #[] := by
    rw [Array.filter_eq_empty_iff]
    intro x hx
    have := hmem x (by simpa using hx)
    simp
    omega
  simp only [e1, e2, Array.append_empty]
  by_cases h0 : L.size = 0
  · left
    have : L = #[] := Array.eq_empty_of_size_eq_zero h0
    subst this
    refine ⟨rfl, ?_⟩
    simp [choose, Sem.run, Question.forced]
  · right
    have hne : L.isEmpty = false := by simp [Array.isEmpty, h0]
    simp only [hne, Bool.false_eq_true, if_false, Array.empty_append, Array.size_map]
    have hch : ∃ (j : Nat) (w1 : World), j < L.size ∧ (w1 = w ∨ w1 = w.drew) ∧ (choose (Question.mapNext L.size)).run P w = .ok j w1 := by
      by_cases hf : L.size ≤ 1
      · exact ⟨0, w, by omega, .inl rfl, by simp [choose, Sem.run, Question.forced, hf]⟩
      · exact ⟨_, w.drew, Nat.mod_lt _ (by omega), .inr rfl, by
          simp only [choose, Sem.run, Question.forced, decide_eq_true_eq, hf, if_false, Question.cut]
          rfl⟩
    obtain ⟨j, w1, hj, hal, hrun⟩ := hch
    refine ⟨L[j], by simp, w1, hal, ?_⟩
    have hr1 : w1.heap[r]? = some (.mapIter (some bm) since seen c0) := by rcases hal with rfl | rfl <;> exact hr
    have hset : ∀ o' : Obj, (setObj r o').run P w1 = .ok () { w1 with heap := w1.heap.setIfInBounds r o' } := fun o' => by
      simp only [setObj, Sem.run, hr1]
    simp only [hrun, Array.getElem?_map, Array.getElem?_eq_getElem hj, Option.map_some, Sem.run_bind, hset, Result.andThen]
    rfl

/-- Every order comes to one and the same end. -/
noncomputable def allOrd {γ S R : Type} (ps : List γ) (f : γ → S → Option S) (k : S → Option R) (s0 : S) : Option R :=
  open Classical in if h : ∃ r, ∀ qs : List γ, qs.Perm ps → (qs.foldlM (fun s q => f q s) s0).bind k = some r then some h.choose else none
theorem allOrd_spec {γ S R : Type} {ps : List γ} {f : γ → S → Option S} {k : S → Option R} {s0 : S} {r : R} (h : allOrd ps f k s0 = some r) (qs : List γ) (hq : qs.Perm ps) : (qs.foldlM (fun s q => f q s) s0).bind k = some r := by
  unfold allOrd at h
  split at h
  · rename_i hx; cases h; exact hx.choose_spec qs hq
  · cases h
theorem allOrd_of {γ S R : Type} {ps : List γ} {f : γ → S → Option S} {k : S → Option R} {s0 : S} {r : R} (h : ∀ qs : List γ, qs.Perm ps → (qs.foldlM (fun s q => f q s) s0).bind k = some r) : allOrd ps f k s0 = some r := by
  unfold allOrd
  have hx : ∃ r, ∀ qs : List γ, qs.Perm ps → (qs.foldlM (fun s q => f q s) s0).bind k = some r := ⟨r, h⟩
  rw [dif_pos hx]
  have a := hx.choose_spec ps (List.Perm.refl _)
  rw [h ps (List.Perm.refl _)] at a
  exact a.symm

/-- The machine's loop, by a measure. -/
theorem wp_loop_meas {P : Program} (I : Nat → Act → World → Prop) {c : Code} {Q : Exit → Act → World → Prop}
    (round : ∀ k a w, I k a w → c.wp P (Exit.then (fun a' w' => ∃ k', k' < k ∧ I k' a' w') Q) a w) {k : Nat} {a : Act} {w : World} (h0 : I k a w) : (Code.loop c).wp P Q a w := by
  intro b kk cs
  have key : ∀ k a w, I k a w → ∃ e a' w', Q e a' w' ∧ Arrives P (lone (b.at a (.code c :: .inLoop c :: kk)) cs w) b kk cs e a' w' := by
    intro k
    induction k using Nat.strongRecOn with
    | _ k ih =>
      intro a w hI
      obtain ⟨e, a₁, w₁, hq, harr⟩ := round k a w hI b (.inLoop c :: kk) cs
      cases e with
      | normal =>
        obtain ⟨k', hlt, hI₁⟩ := hq
        obtain ⟨e₂, a₂, w₂, hq₂, harr₂⟩ := ih k' hlt a₁ w₁ hI₁
        exact ⟨e₂, a₂, w₂, hq₂, .of_steps (Steps.trans harr (.one step_inLoop)) harr₂⟩
      | exit id => exact ⟨_, a₁, w₁, hq, .pass (x := .inLoop c) rfl (fun _ _ => .inl (by simp)) harr⟩
      | goto l => exact ⟨_, a₁, w₁, hq, .pass (x := .inLoop c) rfl (fun _ _ => .inl (by simp)) harr⟩
      | ret => exact ⟨_, a₁, w₁, hq, .pass (x := .inLoop c) rfl (fun _ _ => .inl (by simp)) harr⟩
      | panic ch => exact ⟨_, a₁, w₁, hq, .pass (x := .inLoop c) rfl (fun _ _ => .inl (by simp)) harr⟩
      | outgrown => exact ⟨_, a₁, w₁, hq, .pass (x := .inLoop c) rfl (fun _ _ => .inl (by simp)) harr⟩
  obtain ⟨e, a', w', hq, harr⟩ := key k a w h0
  exact ⟨e, a', w', hq, .of_steps (.one step_loop) harr⟩

section
variable {P : Program} {ops : Array Oper} {Q : Exit → Act → World → Prop} {rest : List Oper} {F0 : Fz} {n : Nat} {E : List (Nat × SV)} {L : List Res}
variable {d : Nat} {op : Op} {ty : TypeId} {pos : String} {aft : Array Edge} {s : SV}

/-- The end of a round. -/
def EndM {α β S C : Type} (F0 : Fz) (n : Nat) (K : Kd α) (V : Kd β) (it : Nat) (f : α × β → S → Option S) (Es : S → C → List (Nat × SV)) (Ls : S → C → List Res) (x : S) (left : List (α × β)) : Act → World → Prop :=
  fun a w => ∃ x' y' F p left' cur', left.Perm (p :: left') ∧ f p x = some x' ∧ F0 ≤ F ∧ Env F a n (Es x' y') ∧ St F w (.itr K V it left' cur' :: Ls x' y')
/-- A loop over a map, in whatever order. -/
theorem Under.loopM {α β S R C : Type} {K : Kd α} {V : Kd β} {it : Nat} {f : α × β → S → Option S} {k : S → Option R} {ps : List (α × β)} {x0 : S} {r : R} {c : Code} (c0 : C) (Es : S → C → List (Nat × SV)) (Ls : S → C → List Res) (hrun : allOrd ps f k x0 = some r)
    (hE : ∀ t v, look (Es x0 c0) t = some v → look E t = some v) (hL : L = .itr K V it ps none :: Ls x0 c0)
    (round : ∀ x y left cur, (left = [] → k x = some r) → (∀ p left', left.Perm (p :: left') → ∃ x', f p x = some x') → Under F0 n (Es x y) (.itr K V it left cur :: Ls x y) (c.wp P (Exit.then (EndM F0 n K V it f Es Ls x left) Q))) :
    Under F0 n E L ((Code.loop c).wp P Q) := fun F a w h0 hE' hS => by
  refine wp_loop_meas (fun m a w => ∃ x y left cur F, left.length = m ∧ (∀ qs : List (α × β), qs.Perm left → (qs.foldlM (fun s q => f q s) x).bind k = some r) ∧ F0 ≤ F ∧ Env F a n (Es x y) ∧ St F w (.itr K V it left cur :: Ls x y)) ?_ (k := ps.length) ⟨x0, c0, ps, none, F, rfl, allOrd_spec hrun, h0, hE'.sub hE, hL ▸ hS⟩
  rintro m a w ⟨x, y, left, cur, F, hm, hall, h0, hE, hS⟩
  refine wp_mono (round x y left cur (fun hl => ?_) (fun p left' hp => ?_) F a w h0 hE hS) (fun e a w q => ?_)
  · subst hl
    have := hall [] (List.Perm.refl _)
    simpa using this
  · have := hall (p :: left') hp.symm
    rw [List.foldlM_cons] at this
    cases hf : f p x with
    | none => rw [hf] at this; simp at this
    | some x' => exact ⟨x', rfl⟩
  · cases e with
    | normal =>
      obtain ⟨x', y', F, p, left', cur', hp, hf, h1, h2, h3⟩ := q
      refine ⟨left'.length, ?_, x', y', left', cur', F, rfl, fun qs hq => ?_, h1, h2, h3⟩
      · have := hp.length_eq; simp at this; omega
      · have := hall (p :: qs) ((List.Perm.cons p hq).trans hp.symm)
        rw [List.foldlM_cons, hf] at this
        simpa using this
    | _ => exact q
theorem Under.nextM {α β S C : Type} {K : Kd α} {V : Kd β} {it : Nat} {f : α × β → S → Option S} {Es : S → C → List (Nat × SV)} {Ls : S → C → List Res} {x x1 : S} {left left' : List (α × β)} {p : α × β} {cur' : Option (α × β)} (x' : S) (y' : C) (hp : left.Perm (p :: left')) (hf : f p x = some x1) (ho : (some x' : Option S) = some x1)
    (hE : ∀ t v, look (Es x' y') t = some v → look E t = some v) (hL : L = .itr K V it left' cur' :: Ls x' y') :
    Under F0 n E L (EndM F0 n K V it f Es Ls x left) := fun F a w h0 hE' hS =>
  ⟨x', y', F, p, left', cur', hp, by rw [hf]; exact ho.symm, h0, hE'.sub hE, hL ▸ hS⟩

/-- delete(m, k) of the call's own map. -/
theorem Under.mdel {α β : Type} [BEq α] {K : Kd α} {V : Kd β} {T t2 kt et : TypeId} {b : Nat} {ps : List (α × β)} {M X : Operand} {x : α} {s1 : SV} (hk : KeyK P kt K) (hT : P.underlying T = some (.map kt et))
    (hM : ev E M = some (.raw (.map (some b)))) (hX : ev E X = some s1) (h1 : rdOf s1 K x) (k : Under F0 n E (.mp K V b (mdel x ps) :: L) (wpList P ops Q rest)) :
    Under F0 n E (.mp K V b ps :: L) (wpList P ops Q (⟨none, .call ⟨.builtin .delete, #[M, X], #[T, t2]⟩, ty, pos, aft, none⟩ :: rest)) := Under.exec rfl fun F a w h0 hE hS => by
  obtain ⟨h, ⟨es, clock, ⟨hrd, hst⟩, rfl⟩, hon⟩ := hS.head
  have hb : w.heap[b]? = some (.map es clock) := hon b _ (Frag.one_at _ _)
  have v1 := h1 F _ (hE.eval hX)
  have hrun : ∃ es', (Builtin.delete_ #[T, t2] ty #[.map (some b), a.eval X]).run P w = .ok (.tuple #[]) { w with heap := w.heap.setIfInBounds b (.map es' clock) } ∧ rdM K V F es'.toList (Go.Sim.mdel x ps) ∧ Stamp es' clock := by
    have hc := fun bb => hk.chk (b := bb) (w := w) v1
    rcases run_findAsking hk v1 (w := w) (i := 0) hrd with ⟨a1, a2, a3⟩ | ⟨j, e, a1, a2, a3, a4, q, a5, a6⟩
    · refine ⟨es, ?_, by rw [mdel_none a1]; exact hrd, hst⟩
      simp [Builtin.delete_, run_underlying hT, Go.MapKept.run_getObj_map (P := P) hb, hc, hk.find a3, Go.MapKept.run_setObj_map (P := P) _ hb]
    · simp only [Nat.zero_add] at a3 a1
      refine ⟨es.eraseIdxIfInBounds j, ?_, ?_, stamp_del hst ?_⟩
      · simp [Builtin.delete_, run_underlying hT, Go.MapKept.run_getObj_map (P := P) hb, hc, hk.find a3, Go.MapKept.run_setObj_map (P := P) _ hb]
      · rw [Array.toList_eraseIdxIfInBounds]; exact rdM_del (i := 0) hrd (by rw [a1, Nat.zero_add])
      · rw [Array.toList_eraseIdxIfInBounds]; exact List.eraseIdx_sublist _ _
  obtain ⟨es', hr, hrd', hst'⟩ := hrun
  have hS' : St F { w with heap := w.heap.setIfInBounds b (.map es' clock) } (.mp K V b (Go.Sim.mdel x ps) :: L) := by
    refine hS.turn fun h hh hon => ?_
    obtain ⟨es0, clock0, _, rfl⟩ := hh
    have hlt := lt_of_heap hb
    refine ⟨Frag.one b (.map es' clock), ⟨es', clock, ⟨hrd', hst'⟩, rfl⟩, ⟨rfl, rfl, rfl, fun q _ hq => ?_⟩, fun q hq => .inl ?_, fun q o ho => ?_⟩
    · have hne : b ≠ q := fun e => by subst e; rw [Frag.one_at] at hq; cases hq
      exact Array.getElem?_setIfInBounds_ne hne
    · by_cases hqb : q = b
      · subst hqb; rw [Frag.one_at]; simp
      · exact absurd (Frag.one_ne _ hqb) hq
    · obtain ⟨rfl, rfl⟩ := Frag.one_some ho
      exact Array.getElem?_setIfInBounds_self_of_lt hlt
  unfold Oper.wp
  simp [execOp, resolve, invoke, builtin, hE.raw hM, hr, Oper.upon]
  exact k F _ _ h0 hE hS'
/-- range over a map that is frozen. -/
theorem Under.rng {α β : Type} {K : Kd α} {V : Kd β} {T kt et : TypeId} {ps : List (α × β)} {X : Operand} (hT : P.underlying T = some (.map kt et)) (hX : ev E X = some (.val (kMap K V) ps)) (hd : Nat.blt d n = true)
    (k : ∀ b, Under F0 n ((d, .raw (.pointer (some ⟨b, 0, none⟩))) :: E) (.itr K V b ps none :: L) (wpList P ops Q rest)) :
    Under F0 n E L (wpList P ops Q (⟨some d, .range T X, ty, pos, aft, none⟩ :: rest)) := Under.exec rfl fun F a w h0 hE hS => by
  have hv := hE.eval hX
  simp only [SV.ok] at hv
  obtain ⟨cs, h, hv3⟩ := hv
  have fin : ∀ o : Obj, itH K V F w.heap.size ps none (Frag.one w.heap.size o) → (Instr.range T (a.eval X)).run P w = .ok (.pointer (some ⟨w.heap.size, 0, none⟩)) (w.alloc o) → Oper.wp P ⟨some d, .range T X, ty, pos, aft, none⟩ a w (wpList P ops Q rest) Q := fun o ho hr => by
    obtain ⟨hn1, hn2⟩ := one_new w o
    have hS' : St F (w.alloc o) (.itr K V w.heap.size ps none :: L) := St.grow hS (Frag.one w.heap.size o) ho (chg_alloc w _) hn1 hn2
    unfold Oper.wp
    simp only [execOp, hr, Sem.run_bind, Result.andThen_ok, Sem.run_pure, Oper.upon]
    exact k _ F _ _ h0 (hE.put hd (by simp only [SV.ok])) hS'
  rcases h with ⟨rfl, rfl⟩ | ⟨b, es, clock, rfl, hb, hrd, hst⟩
  · refine fin (.mapIter none 0 #[] 0) (.inl ⟨rfl, rfl, rfl⟩) ?_
    have hv2 : a.eval X = .map none := hv3
    rw [hv2]; exact run_range_nilMap w T kt et hT
  · have hv2 : a.eval X = .map (some b) := hv3
    refine fin (.mapIter (some b) clock #[] clock) (.inr ⟨b, es, clock, #[], hb, hst, ?_, rfl, fun p hp => by cases hp⟩) ?_
    · have : es.toList.filter (fun e => !(#[] : Array Nat).contains e.born) = es.toList := List.filter_eq_self.2 fun e _ => by simp
      rw [this]; exact hrd
    · rw [hv2]; exact run_range_map w T kt et b es clock hT (hS.on.blk _ _ hb)
/-- The iterator's step. -/
theorem Under.nxt {α β : Type} {K : Kd α} {V : Kd β} {b : Nat} {left : List (α × β)} {cur : Option (α × β)} {X : Operand} (hX : ev E X = some (.raw (.pointer (some ⟨b, 0, none⟩)))) (hd : Nat.blt d n = true)
    (kend : left = [] → Under F0 n ((d, .tup [.raw (.bool false)]) :: E) (.itr K V b left cur :: L) (wpList P ops Q rest))
    (kpick : ∀ p left', left.Perm (p :: left') → Under F0 n ((d, .tup [.raw (.bool true), .val K p.1, .val V p.2]) :: E) (.itr K V b left' (some p) :: L) (wpList P ops Q rest)) :
    Under F0 n E (.itr K V b left cur :: L) (wpList P ops Q (⟨some d, .next X false, ty, pos, aft, none⟩ :: rest)) := Under.exec rfl fun F a w h0 hE hS => by
  obtain ⟨h, hh, hon⟩ := hS.head
  have hh0 := hh
  rcases hh with ⟨rfl, rfl, rfl⟩ | ⟨m, es, clock, seen, hb, hst, hrd, rfl, hc⟩
  · have hb : w.heap[b]? = some (.mapIter none 0 #[] 0) := hon b _ (Frag.one_at _ _)
    have hr : (Instr.next (.pointer (some ⟨b, 0, none⟩)) false ty).run P w = .ok (.tuple #[.bool false]) w := by
      simp only [Instr.next, getObj, Sem.run_bind, Sem.run, hb, Result.andThen]; rfl
    unfold Oper.wp
    simp only [execOp, hE.raw hX, hr, Sem.run_bind, Result.andThen_ok, Sem.run_pure, Oper.upon]
    exact kend rfl F _ _ h0 (hE.put hd (by simp only [SV.ok, SV.oks]; exact ⟨[_], rfl, rfl, trivial⟩)) hS
  · have hbi : w.heap[b]? = some (.mapIter (some m) clock seen clock) := hon b _ (Frag.one_at _ _)
    have hbm := hS.on.blk _ _ hb
    rcases run_next_at (P := P) (ty := ty) hbi hbm hst.1 (Nat.le_refl _) with ⟨h1, hr⟩ | ⟨e, he, w1, hw1, hr⟩
    · have hl0 : es.toList.filter (fun e => !seen.contains e.born) = [] := by
        have := congrArg Array.toList h1
        simpa [leftOf] using this
      have hleft : left = [] := by
        rw [hl0] at hrd
        cases left with
        | nil => rfl
        | cons p l => exact hrd.elim
      unfold Oper.wp
      simp only [execOp, hE.raw hX, hr, Sem.run_bind, Result.andThen_ok, Sem.run_pure, Oper.upon]
      exact kend hleft F _ _ h0 (hE.put hd (by simp only [SV.ok, SV.oks]; exact ⟨[_], rfl, rfl, trivial⟩)) hS
    · have hel := mem_left he
      have hlf : e ∈ es.toList.filter (fun e => !seen.contains e.born) := List.mem_filter.2 ⟨hel.1, by rw [hel.2]; rfl⟩
      have hnd : ((es.toList.filter (fun e => !seen.contains e.born)).map (·.born)).Nodup := hst.2.sublist ((List.filter_sublist).map _)
      obtain ⟨p, qs, hp, hk1, hv1, hrd'⟩ := rdM_pick hrd hnd hlf
      have hrd2 : rdM K V F (es.toList.filter fun x => !(seen.push e.born).contains x.born) qs := by
        have : es.toList.filter (fun x => !(seen.push e.born).contains x.born) = (es.toList.filter (fun e => !seen.contains e.born)).filter fun x => x.born != e.born := by
          rw [List.filter_filter]
          refine List.filter_congr fun x _ => ?_
          rw [contains_push]
          cases seen.contains x.born <;> cases hxx : (x.born == e.born) <;> simp_all
        rw [this]; exact hrd'
      have hS1 : St F w1 (.itr K V b left cur :: L) := by rcases hw1 with rfl | rfl; exact hS; exact StG.drew hS
      have hbi1 : w1.heap[b]? = some (.mapIter (some m) clock seen clock) := by rcases hw1 with rfl | rfl <;> exact hbi
      have hS' : St F { w1 with heap := w1.heap.setIfInBounds b (.mapIter (some m) clock (seen.push e.born) clock) } (.itr K V b qs (some p) :: L) := by
        refine hS1.turn fun h hh hon => ?_
        have hlt := lt_of_heap hbi1
        have hbh : ∀ q, h q ≠ none ↔ q = b := by
          have : ∃ o, h = Frag.one b o := by rcases hh with ⟨_, _, rfl⟩ | ⟨_, _, _, _, _, _, _, rfl, _⟩ <;> exact ⟨_, rfl⟩
          obtain ⟨o, rfl⟩ := this
          intro q
          by_cases hqb : q = b
          · subst hqb; rw [Frag.one_at]; simp
          · rw [Frag.one_ne _ hqb]; simp [hqb]
        refine ⟨Frag.one b (.mapIter (some m) clock (seen.push e.born) clock), .inr ⟨m, es, clock, seen.push e.born, hb, hst, hrd2, rfl, fun p' hp' => ?_⟩, ⟨rfl, rfl, rfl, fun q _ hq => ?_⟩, fun q hq => .inl ?_, fun q o ho => ?_⟩
        · cases hp'; exact ⟨e, seen, rfl, hel.1, hk1, hv1⟩
        · have hne : b ≠ q := fun e => by subst e; exact absurd hq ((hbh b).2 rfl)
          exact Array.getElem?_setIfInBounds_ne hne
        · by_cases hqb : q = b
          · exact (hbh q).2 hqb
          · exact absurd (Frag.one_ne _ hqb) hq
        · obtain ⟨rfl, rfl⟩ := Frag.one_some ho
          exact Array.getElem?_setIfInBounds_self_of_lt hlt
      unfold Oper.wp
      simp only [execOp, hE.raw hX, hr, Sem.run_bind, Result.andThen_ok, Sem.run_pure, Oper.upon]
      exact kpick p qs hp F _ _ h0 (hE.put hd (by simp only [SV.ok, SV.oks]; exact ⟨[_, _, _], rfl, rfl, hk1, hv1, trivial⟩)) hS'
/-- The step's entry, read again. -/
theorem Under.ent {α β : Type} {K : Kd α} {V : Kd β} {b : Nat} {left : List (α × β)} {p : α × β} {X : Operand} (hX : ev E X = some (.raw (.pointer (some ⟨b, 0, none⟩)))) (hd : Nat.blt d n = true)
    (k : Under F0 n ((d, .tup [.val K p.1, .val V p.2]) :: E) (.itr K V b left (some p) :: L) (wpList P ops Q rest)) :
    Under F0 n E (.itr K V b left (some p) :: L) (wpList P ops Q (⟨some d, .entry X, ty, pos, aft, none⟩ :: rest)) := Under.exec rfl fun F a w h0 hE hS => by
  obtain ⟨h, hh, hon⟩ := hS.head
  rcases hh with ⟨_, hx, _⟩ | ⟨m, es, clock, seen, hb, hst, hrd, rfl, hc⟩
  · cases hx
  · obtain ⟨e, seen', rfl, he, hk1, hv1⟩ := hc p rfl
    have hbi : w.heap[b]? = some (.mapIter (some m) clock (seen'.push e.born) clock) := hon b _ (Frag.one_at _ _)
    have hbm := hS.on.blk _ _ hb
    have hf : es.find? (·.born == e.born) = some e := by rw [← Array.find?_toList]; exact find_born e es.toList hst.2 he
    have hr : (Instr.entry (.pointer (some ⟨b, 0, none⟩))).run P w = .ok (.tuple #[e.key, e.val]) w := by
      simp only [Instr.entry, getObj, Sem.run_bind, Sem.run, hbi, hbm, Result.andThen, Array.back?_push, bne_self_eq_false, Bool.false_eq_true, if_false, hf]
      rfl
    unfold Oper.wp
    simp only [execOp, hE.raw hX, hr, Sem.run_bind, Result.andThen_ok, Sem.run_pure, Oper.upon]
    exact k F _ _ h0 (hE.put hd (by simp only [SV.ok, SV.oks]; exact ⟨[_, _], rfl, hk1, hv1, trivial⟩)) hS
end
end Go.Sim

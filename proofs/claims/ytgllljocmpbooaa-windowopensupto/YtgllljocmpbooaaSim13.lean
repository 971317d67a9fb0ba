/- Sim13: maps. -/
import Derived.Test.YtgllljocmpbooaaSim12
import Derived.MapKept
set_option linter.unusedVariables false
set_option linter.unusedSimpArgs false
namespace Go.Sim
open Go Go.MapKept

/-- A map's pairs: found, laid. -/
def mfind {α β : Type} [BEq α] (x : α) : List (α × β) → Option β
  | [] => none
  | p :: ps => bif x == p.1 then some p.2 else mfind x ps
def mset {α β : Type} [BEq α] (x : α) (v : β) : List (α × β) → List (α × β)
  | [] => [(x, v)]
  | p :: ps => bif x == p.1 then (x, v) :: ps else p :: mset x v ps
def mpos {α β : Type} [BEq α] (x : α) : List (α × β) → Nat → Option Nat
  | [], _ => none
  | p :: ps, i => bif x == p.1 then some i else mpos x ps (i + 1)

/-- A key's type. -/
structure KeyK {α : Type} [BEq α] (P : Program) (kt : TypeId) (K : Kd α) : Prop where
  chk : ∀ {b : Bool} {F : Fz} {v : Value} {x : α} {w : World}, K.val F v x → (Instr.checkKey b 10000 kt v).run P w = .ok () w
  eq : ∀ {F : Fz} {v u : Value} {x y : α} {w : World}, K.val F v x → K.val F u y → (Op.equal kt v u).run P w = .ok (x == y) w
  find : ∀ {v : Value} {es : List MapEntry} {r : Option (Nat × Value)} {w : World}, (Instr.findAsking kt v es).run P w = .ok r w → (Instr.findKey kt v es).run P w = .ok r w
  same : ∀ {F : Fz} {v u : Value} {x y : α}, (x == y) = true → K.val F v x → K.val F u y → Instr.sameBits 10000 u v = true

section
variable {P : Program}
theorem run_findAsking {α β : Type} [BEq α] {kt : TypeId} {K : Kd α} {V : Kd β} (hk : KeyK P kt K) {F : Fz} {v : Value} {x : α} {w : World} (hv : K.val F v x) :
    ∀ {es : List MapEntry} {ps : List (α × β)} {i : Nat}, rdM K V F es ps → (mpos x ps i = none ∧ mfind x ps = none ∧ (Instr.findAsking kt v es i).run P w = .ok none w) ∨
      ∃ j e, mpos x ps i = some (i + j) ∧ es[j]? = some e ∧ (Instr.findAsking kt v es i).run P w = .ok (some (i + j, e.val)) w ∧ (∃ y, mfind x ps = some y ∧ V.val F e.val y) ∧ (∃ q, (x == q) = true ∧ K.val F e.key q)
  | [], [], i, _ => .inl ⟨rfl, rfl, by simp [Instr.findAsking]⟩
  | e :: es, p :: ps, i, ⟨h1, h2, h3⟩ => by
    have hq := hk.eq (w := w) hv h1
    cases hxy : (x == p.1) with
    | true =>
      rw [hxy] at hq
      exact .inr ⟨0, e, by simp [mpos, hxy], rfl, by simp [Instr.findAsking, hq], ⟨p.2, by simp [mfind, hxy], h2⟩, p.1, hxy, h1⟩
    | false =>
      rw [hxy] at hq
      rcases run_findAsking hk hv (i := i + 1) h3 (w := w) with ⟨a1, a2, a3⟩ | ⟨j, e', a1, a2, a3, a4, a5⟩
      · exact .inl ⟨by simp [mpos, hxy, a1], by simp [mfind, hxy, a2], by simp [Instr.findAsking, hq, a3]⟩
      · refine .inr ⟨j + 1, e', ?_, by simpa using a2, ?_, ?_, a5⟩
        · simp only [mpos, hxy, cond_false, a1]; congr 1; omega
        · rw [show i + (j + 1) = i + 1 + j by omega]; simp only [Instr.findAsking, Sem.run_bind, hq, Result.andThen_ok, Bool.false_eq_true, if_false, a3]
        · simpa [mfind, hxy] using a4
  | [], _ :: _, _, h => h.elim
  | _ :: _, [], _, h => h.elim
theorem stamp_push {es : Array MapEntry} {clock : Nat} {k v : Value} (h : Stamp es clock) : Stamp (es.push { key := k, val := v, born := clock }) (clock + 1) := by
  refine ⟨fun e he => ?_, ?_⟩
  · simp only [Array.toList_push, List.mem_append, List.mem_singleton] at he
    rcases he with he | rfl
    · have := h.1 e he; omega
    · simp
  · simp only [Array.toList_push, List.map_append, List.map_cons, List.map_nil]
    refine List.nodup_append.2 ⟨h.2, by simp, fun a ha b hb e => ?_⟩
    obtain ⟨e', he, rfl⟩ := List.mem_map.1 ha
    have := h.1 e' he
    simp at hb; omega
theorem stamp_modify {es : Array MapEntry} {clock j : Nat} {f : MapEntry → MapEntry} (h : Stamp es clock) (hf : ∀ e, (f e).born = e.born) : Stamp (es.modify j f) clock := by
  have key : ∀ (l : List MapEntry) (j : Nat), (l.modify j f).map (·.born) = l.map (·.born) := fun l => by
    induction l with
    | nil => intro j; cases j <;> rfl
    | cons x l ih => intro j; cases j <;> simp [List.modify_succ_cons, hf, ih]
  have h2 : (es.modify j f).toList.map (·.born) = es.toList.map (·.born) := by rw [Array.toList_modify]; exact key _ _
  refine ⟨fun e he => ?_, by rw [h2]; exact h.2⟩
  have : e.born ∈ es.toList.map (·.born) := by rw [← h2]; exact List.mem_map.2 ⟨e, he, rfl⟩
  obtain ⟨e', he', hb⟩ := List.mem_map.1 this
  rw [← hb]; exact h.1 e' he'
theorem rdM_push {α β : Type} {K : Kd α} {V : Kd β} {F : Fz} {e : MapEntry} {p : α × β} (h1 : K.val F e.key p.1) (h2 : V.val F e.val p.2) : ∀ {es : List MapEntry} {ps : List (α × β)}, rdM K V F es ps → rdM K V F (es ++ [e]) (ps ++ [p])
  | [], [], _ => ⟨h1, h2, trivial⟩
  | e' :: es, p' :: ps, ⟨a, b, c⟩ => ⟨a, b, rdM_push h1 h2 c⟩
  | [], _ :: _, h => h.elim
  | _ :: _, [], h => h.elim
theorem mset_none {α β : Type} [BEq α] {x : α} {v : β} : ∀ {ps : List (α × β)} {i : Nat}, mpos x ps i = none → mset x v ps = ps ++ [(x, v)]
  | [], _, _ => rfl
  | p :: ps, i, h => by
    cases hxy : (x == p.1) with
    | true => simp [mpos, hxy] at h
    | false => simp only [mpos, hxy, cond_false] at h; simp [mset, hxy, mset_none h]
theorem mpos_ge {α β : Type} [BEq α] {x : α} : ∀ {ps : List (α × β)} {i k : Nat}, mpos x ps i = some k → i ≤ k
  | [], i, k, h => by cases h
  | p :: ps, i, k, h => by
    cases hxy : (x == p.1) with
    | true => simp [mpos, hxy] at h; omega
    | false => simp only [mpos, hxy, cond_false] at h; have := mpos_ge h; omega
theorem rdM_set {α β : Type} [BEq α] {K : Kd α} {V : Kd β} {F : Fz} {key val : Value} {x : α} {v : β} (h1 : K.val F key x) (h2 : V.val F val v) :
    ∀ {es : List MapEntry} {ps : List (α × β)} {i j : Nat}, rdM K V F es ps → mpos x ps i = some (i + j) → rdM K V F (es.modify j fun e => { e with key := key, val := val }) (mset x v ps)
  | e :: es, p :: ps, i, j, ⟨a, b, c⟩, h => by
    cases hxy : (x == p.1) with
    | true =>
      simp only [mpos, hxy, cond_true, Option.some.injEq] at h
      have : j = 0 := by omega
      subst this
      simp only [mset, hxy, cond_true, List.modify_zero_cons]
      exact ⟨h1, h2, c⟩
    | false =>
      simp only [mpos, hxy, cond_false] at h
      have := mpos_ge h
      cases j with
      | zero => omega
      | succ j =>
        simp only [mset, hxy, cond_false, List.modify_succ_cons]
        exact ⟨a, b, rdM_set h1 h2 (i := i + 1) c (by rw [h]; congr 1; omega)⟩
  | [], [], i, j, _, h => by cases h
  | [], _ :: _, _, _, h, _ => h.elim
  | _ :: _, [], _, _, h, _ => h.elim
end
section
variable {P : Program} {ops : Array Oper} {Q : Exit → Act → World → Prop} {rest : List Oper} {F0 : Fz} {n : Nat} {E : List (Nat × SV)} {L : List Res}
variable {d : Nat} {op : Op} {ty : TypeId} {pos : String} {aft : Array Edge} {s : SV}

/-- map[K]V{} -/
theorem Under.mkm {α β : Type} (K : Kd α) (V : Kd β) {T : TypeId} (hd : Nat.blt d n = true) (k : ∀ b, Under F0 n ((d, .raw (.map (some b))) :: E) (.mp K V b [] :: L) (wpList P ops Q rest)) :
    Under F0 n E L (wpList P ops Q (⟨some d, .makeMap T none, ty, pos, aft, none⟩ :: rest)) := Under.exec rfl fun F a w h0 hE hS => by
  obtain ⟨hn1, hn2⟩ := one_new w (.map #[] 0)
  have hS' : St F (w.alloc (.map #[] 0)) (.mp K V w.heap.size [] :: L) := St.grow hS (Frag.one w.heap.size (.map #[] 0)) ⟨#[], 0, ⟨trivial, fun e h => by simp at h, by simp⟩, rfl⟩ (chg_alloc w _) hn1 hn2
  unfold Oper.wp
  have hr : (Instr.makeMap T none).run P w = .ok (.map (some w.heap.size)) (w.alloc (.map #[] 0)) := rfl
  simp only [execOp, hr, Sem.run_bind, Result.andThen_ok, Sem.run_pure, Oper.upon, Option.map_none]
  exact k _ F _ _ h0 (hE.put hd (by simp only [SV.ok])) hS'
/-- m[k] = v of the call's own map. -/
theorem Under.mup {α β : Type} [BEq α] {K : Kd α} {V : Kd β} {T kt et : TypeId} {b : Nat} {ps : List (α × β)} {M X Y : Operand} {x : α} {y : β} {s1 s2 : SV} (hk : KeyK P kt K) (hT : P.underlying T = some (.map kt et))
    (hM : ev E M = some (.raw (.map (some b)))) (hX : ev E X = some s1) (h1 : rdOf s1 K x) (hY : ev E Y = some s2) (h2 : rdOf s2 V y) (k : Under F0 n E (.mp K V b (mset x y ps) :: L) (wpList P ops Q rest)) :
    Under F0 n E (.mp K V b ps :: L) (wpList P ops Q (⟨none, .mapUpdate T M X Y, ty, pos, aft, none⟩ :: rest)) := Under.exec rfl fun F a w h0 hE hS => by
  obtain ⟨h, ⟨es, clock, ⟨hrd, hst⟩, rfl⟩, hon⟩ := hS.head
  have hb : w.heap[b]? = some (.map es clock) := hon b _ (Frag.one_at _ _)
  have v1 := h1 F _ (hE.eval hX)
  have v2 := h2 F _ (hE.eval hY)
  have hrun : ∃ es' clock', (Instr.mapUpdate T (.map (some b)) (a.eval X) (a.eval Y)).run P w = .ok () { w with heap := w.heap.setIfInBounds b (.map es' clock') } ∧ rdM K V F es'.toList (mset x y ps) ∧ Stamp es' clock' := by
    have hc := hk.chk (b := false) (w := w) v1
    rcases run_findAsking hk v1 (w := w) (i := 0) hrd with ⟨a1, a2, a3⟩ | ⟨j, e, a1, a2, a3, a4, q, a5, a6⟩
    · refine ⟨es.push { key := a.eval X, val := a.eval Y, born := clock }, clock + 1, ?_, ?_, stamp_push hst⟩
      · simp only [Instr.mapUpdate, Sem.run_bind, run_underlying hT, Result.andThen_ok, Go.MapKept.run_getObj_map (P := P) hb, hc, hk.find a3, Go.MapKept.run_setObj_map (P := P) _ hb]
      · rw [mset_none a1, Array.toList_push]; exact rdM_push v1 v2 hrd
    · have hj : es[j]? = some e := by simpa using a2
      have hsame : Instr.sameBits 10000 e.key (a.eval X) = true := hk.same a5 v1 a6
      simp only [Nat.zero_add] at a3 a1
      refine ⟨es.modify j fun e => { e with key := a.eval X, val := a.eval Y }, clock, ?_, ?_, stamp_modify hst fun _ => rfl⟩
      · simp only [Instr.mapUpdate, Sem.run_bind, run_underlying hT, Result.andThen_ok, Go.MapKept.run_getObj_map (P := P) hb, hc, hk.find a3, Instr.keyThatStays, hj, Option.map_some, Option.getD_some, hsame, if_true, Sem.run_pure, Go.MapKept.run_setObj_map (P := P) _ hb]
      · rw [Array.toList_modify]; exact rdM_set v1 v2 (i := 0) hrd (by rw [a1, Nat.zero_add])
  obtain ⟨es', clock', hr, hrd'⟩ := hrun
  have hS' : St F { w with heap := w.heap.setIfInBounds b (.map es' clock') } (.mp K V b (mset x y ps) :: L) := by
    refine hS.turn fun h hh hon => ?_
    obtain ⟨es0, clock0, _, rfl⟩ := hh
    have hlt := lt_of_heap hb
    refine ⟨Frag.one b (.map es' clock'), ⟨es', clock', hrd', rfl⟩, ⟨rfl, rfl, rfl, fun q _ hq => ?_⟩, fun q hq => .inl ?_, fun q o ho => ?_⟩
    · have hne : b ≠ q := fun e => by subst e; rw [Frag.one_at] at hq; cases hq
      exact Array.getElem?_setIfInBounds_ne hne
    · by_cases hqb : q = b
      · subst hqb; rw [Frag.one_at]; simp
      · exact absurd (Frag.one_ne _ hqb) hq
    · obtain ⟨rfl, rfl⟩ := Frag.one_some ho
      exact Array.getElem?_setIfInBounds_self_of_lt hlt
  unfold Oper.wp
  simp only [execOp, hE.raw hM, Sem.run_bind, hr, Result.andThen_ok, Sem.run_pure, Oper.upon]
  exact k F _ _ h0 hE hS'
end
end Go.Sim

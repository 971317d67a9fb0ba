/- Sim2: what a temporary holds (SV), what is owned (Res), the state, and goals under a state. -/
import Derived.Test.YtgllljocmpbooaaSim1
import Derived.Deep.Quiet
set_option linter.unusedVariables false
set_option linter.unusedSimpArgs false
namespace Go.Sim
open Go

theorem lt_of_heap {w : World} {b : Nat} {o : Obj} (h : w.heap[b]? = some o) : b < w.heap.size := (Array.getElem?_eq_some_iff.1 h).1

/-! ### What a temporary holds -/
inductive SV : Type 1 where
  | raw (v : Value)
  | val {α : Type} (K : Kd α) (x : α)
  | ptr {α : Type} (K : Kd α) (x : α)
  | tup (l : List SV)
  | fn (f : FuncId) (l : List SV)

  mutual
def SV.ok (F : Fz) (v : Value) : SV → Prop
  | .raw u => v = u
  | .val K x => K.val F v x
  | .ptr K x => ∃ p, v = .pointer (some p) ∧ RdAt F p K x
  | .tup l => ∃ vs, v = .tuple vs.toArray ∧ SV.oks F vs l
  | .fn f l => ∃ vs : List Value, v = .func (.func f) #[] vs.toArray ∧ SV.oks F vs l
def SV.oks (F : Fz) : List Value → List SV → Prop
  | [], [] => True
  | v :: vs, s :: l => SV.ok F v s ∧ SV.oks F vs l
  | _, _ => False
end
  mutual
theorem SV.ok_mono {F G : Fz} (hg : F ≤ G) : ∀ {s : SV} {v : Value}, SV.ok F v s → SV.ok G v s
  | .raw u, v, h => by simp only [SV.ok] at *; exact h
  | .val K x, v, h => by simp only [SV.ok] at *; exact h.mono hg
  | .ptr K x, v, h => by simp only [SV.ok] at *; exact h.imp fun p ⟨a, b⟩ => ⟨a, b.mono hg⟩
  | .tup l, v, h => by simp only [SV.ok] at *; exact h.imp fun vs ⟨a, b⟩ => ⟨a, SV.oks_mono hg b⟩
  | .fn f l, v, h => by simp only [SV.ok] at *; exact h.imp fun vs ⟨a, b⟩ => ⟨a, SV.oks_mono hg b⟩
theorem SV.oks_mono {F G : Fz} (hg : F ≤ G) : ∀ {l : List SV} {vs : List Value}, SV.oks F vs l → SV.oks G vs l
  | [], [], _ => by simp only [SV.oks]
  | s :: l, v :: vs, h => by simp only [SV.oks] at *; exact ⟨SV.ok_mono hg h.1, SV.oks_mono hg h.2⟩
  | [], _ :: _, h => by simp only [SV.oks] at h
  | _ :: _, [], h => by simp only [SV.oks] at h
end

/-! ### What is owned -/
inductive Res : Type 1 where
  | box {α : Type} (K : Kd α) (b : Nat) (T : TypeId) (x : α)
  | own {α : Type} (K : Kd α) (v : Value) (e : TypeId) (xs : List α)
  | mp {α β : Type} (K : Kd α) (V : Kd β) (b : Nat) (ps : List (α × β))
  | itr {α β : Type} (K : Kd α) (V : Kd β) (b : Nat) (left : List (α × β)) (cur : Option (α × β))
  | any (r : Frag → Prop)
/-- A map's iterator: what is left, and what came last. -/
def itH {α β : Type} (K : Kd α) (V : Kd β) (F : Fz) (r : Nat) (left : List (α × β)) (cur : Option (α × β)) (h : Frag) : Prop :=
  (left = [] ∧ cur = none ∧ h = Frag.one r (.mapIter none 0 #[] 0)) ∨
  ∃ b es clock seen, F.blk b = some (.map es clock) ∧ Stamp es clock ∧ rdM K V F (es.toList.filter fun e => !seen.contains e.born) left ∧ h = Frag.one r (.mapIter (some b) clock seen clock) ∧
    ∀ p, cur = some p → ∃ (e : MapEntry) (seen' : Array Nat), seen = seen'.push e.born ∧ e ∈ es.toList ∧ K.val F e.key p.1 ∧ V.val F e.val p.2
def Res.holds (F : Fz) (h : Frag) : Res → Prop
  | .box K b T x => ∃ cs, K.rd F cs x ∧ h = Frag.one b (.cells cs.toArray T (0, 0))
  | .own K v e xs => (v = .slice none 0 0 ∧ xs = [] ∧ h = Frag.emp) ∨
      ∃ g cap cur, v = .slice (some ⟨g, 0, none⟩) xs.length cap ∧ h = Frag.one g (.cells cur e (0, 0)) ∧ xs.length ≤ cap ∧ cap ≤ maxLen ∧ cur.size = cap * K.n ∧ rdAll K F (cur.toList.take (xs.length * K.n)) xs
  | .mp K V b ps => ∃ es clock, (rdM K V F es.toList ps ∧ Stamp es clock) ∧ h = Frag.one b (.map es clock)
  | .itr K V b left cur => itH K V F b left cur h
  | .any r => r h
theorem Res.mono {F G : Fz} (hg : F ≤ G) {h : Frag} : ∀ {r : Res}, r.holds F h → r.holds G h
  | .box K b T x, ⟨cs, a, e⟩ => ⟨cs, K.mono hg a, e⟩
  | .own K v e xs, .inl a => .inl a
  | .own K v e xs, .inr ⟨g, cap, cur, a1, a2, a3, a4, a5, a6⟩ => .inr ⟨g, cap, cur, a1, a2, a3, a4, a5, a6.mono hg⟩
  | .mp K V b ps, ⟨es, clock, a, e⟩ => ⟨es, clock, ⟨a.1.mono hg, a.2⟩, e⟩
  | .itr K V b left cur, .inl a => .inl a
  | .itr K V b left cur, .inr ⟨m, es, clock, seen, a, s, rd, e, c⟩ => .inr ⟨m, es, clock, seen, hg.blk _ _ a, s, rd.mono hg, e, fun p hp => let ⟨x, y, a, b, k, v⟩ := c p hp; ⟨x, y, a, b, k.mono hg, v.mono hg⟩⟩
  | .any r, a => a

/-- The world holds the frozen memory F and, apart from it and from one another, each resource (read under G). -/
def StG (G : Fz) : Fz → World → List Res → Prop
  | F, w, [] => F.on w
  | F, w, r :: L => ∃ h : Frag, r.holds G h ∧ Apart F h ∧ StG G (F.add h) w L
def St (F : Fz) (w : World) (L : List Res) : Prop := StG F F w L

theorem StG.on {G F : Fz} {w : World} {L : List Res} (h : StG G F w L) : F.on w := by
  induction L generalizing F with
  | nil => exact h
  | cons r L ih =>
    obtain ⟨f, _, _, h'⟩ := h
    have := ih h'
    exact ⟨fun b o e => this.blk b o ((F.le_add f).blk b o e), this.os, this.tape, this.output⟩
theorem St.on {F : Fz} {w : World} {L : List Res} (h : St F w L) : F.on w := StG.on h
theorem StG.mono {G G' F : Fz} {w : World} {L : List Res} (hg : G ≤ G') (h : StG G F w L) : StG G' F w L := by
  induction L generalizing F with
  | nil => exact h
  | cons r L ih => obtain ⟨f, a, b, c⟩ := h; exact ⟨f, Res.mono hg a, b, ih c⟩
theorem StG.down {G F F' : Fz} {w : World} {L : List Res} (h : StG G F' w L) (hf : F ≤ F') : StG G F w L := by
  induction L generalizing F F' with
  | nil => exact ⟨fun b o e => h.blk b o (hf.blk b o e), h.os.trans hf.os, h.tape.trans hf.tape, h.output.trans hf.output⟩
  | cons r L ih =>
    obtain ⟨f, hr, ha, h'⟩ := h
    have hap : Apart F f := fun b hb => by
      cases e : F.blk b with
      | none => rfl
      | some o => have := ha b hb; rw [hf.blk b o e] at this; cases this
    refine ⟨f, hr, hap, ih h' ⟨fun b o e => ?_, hf.os, hf.tape, hf.output⟩⟩
    rcases Fz.add_some e with e | ⟨e1, e⟩
    · exact (F'.le_add f).blk b o (hf.blk b o e)
    · have := ha b (by simp [e]); simp [Fz.add, this, e]
theorem StG.drew {G F : Fz} {w : World} {L : List Res} (h : StG G F w L) : StG G F { w with drawn := w.drawn + 1 } L := by
  induction L generalizing F with
  | nil => exact ⟨h.blk, h.os, h.tape, h.output⟩
  | cons r L ih => obtain ⟨f, a, b, h'⟩ := h; exact ⟨f, a, b, ih h'⟩

structure Chg (w w' : World) (h : Frag) : Prop where
  os : w'.os = w.os
  tape : w'.tape = w.tape
  output : w'.output = w.output
  blk : ∀ b, b < w.heap.size → h b = none → w'.heap[b]? = w.heap[b]?

/-- What is owned by h turns into what is owned by h'. -/
theorem StG.change {G F : Fz} {w w' : World} {L : List Res} {h h' : Frag} (hs : StG G (F.add h) w L) (ha : Apart F h) (hc : Chg w w' h)
    (ha' : ∀ b, h' b ≠ none → h b ≠ none ∨ w.heap.size ≤ b) (hon : ∀ b o, h' b = some o → w'.heap[b]? = some o) : StG G (F.add h') w' L := by
  induction L generalizing F with
  | nil =>
    have hs' : (F.add h).on w := hs
    refine ⟨fun b o e => ?_, hc.os.trans hs'.os, hc.tape.trans hs'.tape, hc.output.trans hs'.output⟩
    rcases Fz.add_some e with e | ⟨_, e⟩
    · have hb := hs'.blk b o ((F.le_add h).blk b o e)
      have hn : h b = none := by
        cases hh : h b with
        | none => rfl
        | some q => have := ha b (by simp [hh]); rw [e] at this; cases this
      exact (hc.blk b (lt_of_heap hb) hn).trans hb
    · exact hon b o e
  | cons r L ih =>
    obtain ⟨k, hr, hk, hs'⟩ := hs
    have hon' := hs'.on
    have dis : ∀ b, k b ≠ none → F.blk b = none ∧ h b = none := fun b hb => Fz.add_none.1 (hk b hb)
    have lt : ∀ b, k b ≠ none → b < w.heap.size := fun b hb => by
      cases hkb : k b with
      | none => exact absurd hkb hb
      | some o =>
        have : ((F.add h).add k).blk b = some o := by
          have := (dis b hb); simp [Fz.add, this.1, this.2, hkb]
        exact lt_of_heap (hon'.blk b o this)
    have dis' : ∀ b, k b ≠ none → h' b = none := fun b hb => by
      cases hh : h' b with
      | none => rfl
      | some q =>
        rcases ha' b (by simp [hh]) with x | x
        · exact absurd (dis b hb).2 x
        · exact absurd (lt b hb) (by omega)
    refine ⟨k, hr, fun b hb => Fz.add_none.2 ⟨(dis b hb).1, dis' b hb⟩, ?_⟩
    rw [add_comm_of_apart dis']
    rw [add_comm_of_apart (fun b hb => (dis b hb).2)] at hs'
    refine ih hs' (fun b hb => ?_)
    cases hkb : k b with
    | none => exact Fz.add_none.2 ⟨ha b hb, hkb⟩
    | some q => exact absurd (dis b (by simp [hkb])).2 hb

theorem StG.fresh {G F : Fz} {w : World} {L : List Res} (h : StG G F w L) (b : Nat) (hb : w.heap.size ≤ b) : F.blk b = none := by
  cases e : F.blk b with
  | none => rfl
  | some o => have := lt_of_heap (h.on.blk b o e); omega

theorem StG.grow {G F : Fz} {w w' : World} {L : List Res} (hs : StG G F w L) (h' : Frag) (hc : Chg w w' Frag.emp)
    (hn : ∀ b, h' b ≠ none → w.heap.size ≤ b) (hon : ∀ b o, h' b = some o → w'.heap[b]? = some o) : Apart F h' ∧ StG G (F.add h') w' L := by
  refine ⟨fun b hb => hs.fresh b (hn b hb), ?_⟩
  have hs' : StG G (F.add Frag.emp) w L := by rw [Fz.add_emp]; exact hs
  exact hs'.change (fun b hb => absurd rfl hb) hc (fun b hb => .inr (hn b hb)) hon
theorem St.chg {F : Fz} {w w' : World} {L : List Res} (hs : St F w L) (hc : Chg w w' Frag.emp) : St F w' L := by
  have := (StG.grow hs Frag.emp hc (fun b hb => absurd rfl hb) (fun b o e => by cases e)).2
  rwa [Fz.add_emp] at this
/-- New memory, owned. -/
theorem St.grow {F : Fz} {w w' : World} {L : List Res} (hs : St F w L) (h' : Frag) {r : Res} (hr : r.holds F h') (hc : Chg w w' Frag.emp)
    (hn : ∀ b, h' b ≠ none → w.heap.size ≤ b) (hon : ∀ b o, h' b = some o → w'.heap[b]? = some o) : St F w' (r :: L) :=
  let ⟨a, b⟩ := StG.grow hs h' hc hn hon; ⟨h', hr, a, b⟩
/-- New memory, frozen. -/
theorem St.growF {F : Fz} {w w' : World} {L : List Res} (hs : St F w L) (h' : Frag) (hc : Chg w w' Frag.emp)
    (hn : ∀ b, h' b ≠ none → w.heap.size ≤ b) (hon : ∀ b o, h' b = some o → w'.heap[b]? = some o) : F ≤ F.add h' ∧ St (F.add h') w' L :=
  let ⟨a, b⟩ := StG.grow hs h' hc hn hon; ⟨F.le_add h', b.mono (F.le_add h')⟩

/-- The first resource turns into another. -/
theorem St.turn {F : Fz} {w w' : World} {L : List Res} {r r' : Res} (hs : St F w (r :: L))
    (step : ∀ h, r.holds F h → (∀ b o, h b = some o → w.heap[b]? = some o) → ∃ h', r'.holds F h' ∧ Chg w w' h ∧ (∀ b, h' b ≠ none → h b ≠ none ∨ w.heap.size ≤ b) ∧ (∀ b o, h' b = some o → w'.heap[b]? = some o)) :
    St F w' (r' :: L) := by
  obtain ⟨h, hr, ha, hs'⟩ := hs
  have hon : ∀ b o, h b = some o → w.heap[b]? = some o := fun b o e => hs'.on.blk b o (by
    have := ha b (by simp [e]); simp [Fz.add, this, e])
  obtain ⟨h', hr', hc, hd, ho⟩ := step h hr hon
  refine ⟨h', hr', fun b hb => ?_, hs'.change ha hc hd ho⟩
  rcases hd b hb with x | x
  · exact ha b x
  · cases e : F.blk b with
    | none => rfl
    | some o => have := lt_of_heap (hs'.on.blk b o ((F.le_add h).blk b o e)); omega

theorem St.head {F : Fz} {w : World} {L : List Res} {r : Res} (hs : St F w (r :: L)) : ∃ h, r.holds F h ∧ (∀ b o, h b = some o → w.heap[b]? = some o) := by
  obtain ⟨h, hr, ha, hs'⟩ := hs
  exact ⟨h, hr, fun b o e => hs'.on.blk b o (by have := ha b (by simp [e]); simp [Fz.add, this, e])⟩

theorem StG.swap {G F : Fz} {w : World} {L : List Res} {r q : Res} (hs : StG G F w (r :: q :: L)) : StG G F w (q :: r :: L) := by
  obtain ⟨h, hr, ha, k, hq, hk, hs'⟩ := hs
  have dis : ∀ b, k b ≠ none → F.blk b = none ∧ h b = none := fun b hb => Fz.add_none.1 (hk b hb)
  refine ⟨k, hq, fun b hb => (dis b hb).1, h, hr, fun b hb => Fz.add_none.2 ⟨ha b hb, ?_⟩, ?_⟩
  · cases e : k b with
    | none => rfl
    | some o => exact absurd (dis b (by simp [e])).2 hb
  · rw [add_comm_of_apart (fun b hb => ?_)]
    · exact hs'
    · cases e : k b with
      | none => rfl
      | some o => exact absurd (dis b (by simp [e])).2 hb
theorem StG.perm {G : Fz} {w : World} {L L' : List Res} (p : L.Perm L') : ∀ F, StG G F w L → StG G F w L' := by
  induction p with
  | nil => exact fun _ h => h
  | cons x _ ih => exact fun _ ⟨f, a, b, c⟩ => ⟨f, a, b, ih _ c⟩
  | swap x y l => exact fun _ h => h.swap
  | trans _ _ ih1 ih2 => exact fun F h => ih2 F (ih1 F h)
theorem St.perm {F : Fz} {w : World} {L L' : List Res} (hs : St F w L) (p : L.Perm L') : St F w L' := StG.perm p F hs
theorem St.drop {F : Fz} {w : World} {L : List Res} {r : Res} (hs : St F w (r :: L)) : St F w L := by
  obtain ⟨h, hr, ha, hs'⟩ := hs
  have : StG F (F.add Frag.emp) w L := hs'.change ha ⟨rfl, rfl, rfl, fun _ _ _ => rfl⟩ (fun b hb => absurd rfl hb) (fun b o e => by cases e)
  rwa [Fz.add_emp] at this
/-- The first resource is frozen. -/
theorem St.freeze {F : Fz} {w : World} {L : List Res} {r : Res} (hs : St F w (r :: L)) : ∃ h, r.holds (F.add h) h ∧ Apart F h ∧ F ≤ F.add h ∧ St (F.add h) w L := by
  obtain ⟨h, hr, ha, hs'⟩ := hs; exact ⟨h, Res.mono (F.le_add h) hr, ha, F.le_add h, StG.mono (F.le_add h) hs'⟩
/-- Resources that don't look at what is frozen later. -/
def Res.fix (F : Fz) (r : Res) : Res := .any fun h => r.holds F h
theorem StG.fix (G G' : Fz) {w : World} : ∀ {L : List Res} {F : Fz}, StG G F w L ↔ StG G' F w (L.map (Res.fix G))
  | [], F => Iff.rfl
  | r :: L, F => by
    simp only [List.map_cons, StG]
    exact ⟨fun ⟨h, a, b, c⟩ => ⟨h, a, b, (StG.fix G G').1 c⟩, fun ⟨h, a, b, c⟩ => ⟨h, a, b, (StG.fix G G').2 c⟩⟩

/-! ### Environments -/
def look : List (Nat × SV) → Nat → Option SV
  | [], _ => none
  | (k, v) :: E, t => cond (Nat.beq k t) (some v) (look E t)
theorem look_cons (k : Nat) (v : SV) (E : List (Nat × SV)) (t : Nat) : look ((k, v) :: E) t = if k = t then some v else look E t := by
  simp only [look]; by_cases h : k = t
  · simp [h]
  · have : Nat.beq k t = false := by
      cases hb : Nat.beq k t with
      | false => rfl
      | true => exact absurd (Nat.eq_of_beq_eq_true hb) h
    simp [this, h]

structure Env (F : Fz) (a : Act) (n : Nat) (E : List (Nat × SV)) : Prop where
  defers : a.defers = []
  size : a.tmps.size = n
  at_ : ∀ t s, look E t = some s → ∃ v, a.tmps[t]? = some v ∧ s.ok F v
theorem Env.mono {F G : Fz} {a : Act} {n : Nat} {E : List (Nat × SV)} (h : Env F a n E) (hg : F ≤ G) : Env G a n E :=
  ⟨h.defers, h.size, fun t s e => let ⟨v, a, b⟩ := h.at_ t s e; ⟨v, a, SV.ok_mono hg b⟩⟩

def ev (E : List (Nat × SV)) : Operand → Option SV
  | .tmp t => look E t
  | .const v => some (.raw v)
  | .global g => some (.raw (.pointer (some ⟨g, 0, none⟩)))
  | .func f => some (.raw (.func (.func f) #[] #[]))
theorem Env.eval {F : Fz} {a : Act} {n : Nat} {E : List (Nat × SV)} (h : Env F a n E) {x : Operand} {s : SV} (e : ev E x = some s) : s.ok F (a.eval x) := by
  cases x with
  | tmp t => obtain ⟨v, h1, h2⟩ := h.at_ t s e; simpa [Act.eval, Array.getD_eq_getD_getElem?, h1] using h2
  | const u => cases e; simp only [SV.ok]; rfl
  | global g => cases e; simp only [SV.ok]; rfl
  | func f => cases e; simp only [SV.ok]; rfl
theorem Env.raw {F : Fz} {a : Act} {n : Nat} {E : List (Nat × SV)} (h : Env F a n E) {x : Operand} {v : Value} (e : ev E x = some (.raw v)) : a.eval x = v := by
  have := h.eval e; simpa only [SV.ok] using this
theorem Env.put {F : Fz} {a : Act} {n : Nat} {E : List (Nat × SV)} (h : Env F a n E) {d : Nat} (hd : Nat.blt d n = true) {v : Value} {s : SV} (hv : s.ok F v) : Env F (a.put (some d) v) n ((d, s) :: E) := by
  have hd' : d < n := by simpa [Nat.blt_eq] using hd
  refine ⟨h.defers, by simp [Act.put, h.size], fun t u e => ?_⟩
  rw [look_cons] at e
  simp only [Act.put]
  by_cases hk : d = t
  · subst hk
    simp only [if_true] at e
    cases e
    exact ⟨v, by rw [Array.getElem?_setIfInBounds_self_of_lt (by rw [h.size]; exact hd')], hv⟩
  · rw [if_neg hk] at e
    rw [Array.getElem?_setIfInBounds_ne hk]; exact h.at_ t u e
theorem Env.sub {F : Fz} {a : Act} {n : Nat} {E E' : List (Nat × SV)} (h : Env F a n E) (hs : ∀ t v, look E' t = some v → look E t = some v) : Env F a n E' :=
  ⟨h.defers, h.size, fun t v e => h.at_ t v (hs t v e)⟩
theorem sub_nil (E : List (Nat × SV)) : ∀ t v, look [] t = some v → look E t = some v := fun _ _ h => by cases h
theorem sub_cons {E E' : List (Nat × SV)} {k : Nat} {u : SV} (h : look E k = some u) (r : ∀ t v, look E' t = some v → look E t = some v) :
    ∀ t v, look ((k, u) :: E') t = some v → look E t = some v := fun t v e => by
  rw [look_cons] at e
  split at e
  · rename_i hk; subst hk; rw [h]; exact e
  · exact r t v e
def argE : Nat → List SV → List (Nat × SV)
  | _, [] => []
  | i, s :: l => (i, s) :: argE (i + 1) l
theorem look_argE {F : Fz} : ∀ {l : List SV} {vs : List Value} {i t : Nat} {s : SV}, SV.oks F vs l → look (argE i l) t = some s → i ≤ t ∧ ∃ v, vs[t - i]? = some v ∧ s.ok F v
  | [], _, _, _, _, _, h => by cases h
  | s0 :: l, [], _, _, _, h, _ => by simp only [SV.oks] at h
  | s0 :: l, v :: vs, i, t, s, h, e => by
    simp only [SV.oks] at h
    rw [argE, look_cons] at e
    split at e
    · rename_i hk; subst hk; cases e; exact ⟨Nat.le_refl _, v, by simp, h.1⟩
    · rename_i hk
      obtain ⟨h1, u, h2, h3⟩ := look_argE h.2 e
      refine ⟨by omega, u, ?_, h3⟩
      rw [show t - i = (t - (i + 1)) + 1 by omega]; simpa using h2
theorem oks_length {F : Fz} : ∀ {l : List SV} {vs : List Value}, SV.oks F vs l → vs.length = l.length
  | [], [], _ => rfl
  | s :: l, v :: vs, h => by simp only [SV.oks] at h; simp [oks_length h.2]
  | [], _ :: _, h => by simp only [SV.oks] at h
  | _ :: _, [], h => by simp only [SV.oks] at h
theorem Env.start {F : Fz} {vs : List Value} {l : List SV} (h : SV.oks F vs l) (m : Nat) : Env F { tmps := vs.toArray ++ Array.replicate m undef, defers := [] } (l.length + m) (argE 0 l) := by
  have hl := oks_length h
  refine ⟨rfl, by simp [hl], fun t s e => ?_⟩
  obtain ⟨_, v, h2, h3⟩ := look_argE h e
  refine ⟨v, ?_, h3⟩
  have hlt : t < vs.length := by simpa using (List.getElem?_eq_some_iff.1 h2).1
  rw [Array.getElem?_append_left (by simpa using hlt)]
  simpa using h2

/-! ### Goals under a state -/
def Under (F0 : Fz) (n : Nat) (E : List (Nat × SV)) (L : List Res) (X : Act → World → Prop) : Prop :=
  ∀ F a w, F0 ≤ F → Env F a n E → St F w L → X a w

/-- An operation yields a value of this kind, one and the same in whatever world, and leaves what is held. -/
def Cl (F : Fz) (L : List Res) (w : World) : Prop := ∃ G, F ≤ G ∧ St G w L
def OpV (P : Program) (n : Nat) (E : List (Nat × SV)) (L : List Res) (o : Oper) (s : SV) : Prop :=
  ∀ F a, Env F a n E → ∃ v, s.ok F v ∧ ∀ w, Cl F L w → o.quietAt P a (Cl F L) w v

/-- A call with these arguments comes back with this, these resources having turned into those. -/
def Ok (P : Program) (f : FuncId) (args : List SV) (L : List Res) (s : SV) (L' : List Res) : Prop :=
  ∀ F w vs, SV.oks F vs args → St F w L → Calls P f vs.toArray w fun e w' => ∃ G v, e = .returned v ∧ F ≤ G ∧ St G w' L' ∧ s.ok G v

theorem Oper.wp_mono2 {P : Program} {o : Oper} {a : Act} {w : World} {K K' : Act → World → Prop} {Q Q' : Exit → Act → World → Prop} (h : ∀ a w, K a w → K' a w) (hq : ∀ e a w, Q e a w → Q' e a w)
    (hh : o.wp P a w K Q) : o.wp P a w K' Q' := by
  unfold Oper.wp at *
  generalize (execOp a.eval o).run P w = r at *
  cases r with
  | ok n w' =>
    cases n <;> simp only [Oper.upon] at hh ⊢
    case value v => exact h _ _ hh
    case skip => exact h _ _ hh
    case defer d => exact h _ _ hh
    case row r args => exact Rows.mono hh (fun _ _ he => h _ _ he)
    case enter f args =>
      refine Calls.mono hh (fun e w'' he => ?_)
      cases e with
      | returned v => exact h _ _ he
      | panicked c => exact hq _ _ _ he
      | outgrown => obtain ⟨a', w', x⟩ := he; exact ⟨a', w', hq _ _ _ x⟩
    all_goals exact hh
  | halt x w' => cases x <;> simp only [Oper.upon] at hh ⊢ <;> first | exact hq _ _ _ hh | exact hh

section
variable {P : Program} {ops : Array Oper} {Q : Exit → Act → World → Prop} {rest : List Oper} {F0 : Fz} {n : Nat} {E : List (Nat × SV)} {L : List Res}
variable {d : Nat} {op : Op} {ty : TypeId} {pos : String} {aft : Array Edge} {s : SV}

theorem Under.exec {o : Oper} (hg : o.guard = none) (h : ∀ F a w, F0 ≤ F → Env F a n E → St F w L → o.wp P a w (wpList P ops Q rest) Q) : Under F0 n E L (wpList P ops Q (o :: rest)) :=
  fun F a w h0 hE hS => wpList_plain hg fun K hK => Oper.wp_mono2 hK (fun _ _ _ q => q) (h F a w h0 hE hS)

/-- One operation that yields a value. -/
theorem Under.ov (h : OpV P n E L ⟨some d, op, ty, pos, aft, none⟩ s) (hd : Nat.blt d n = true) (k : Under F0 n ((d, s) :: E) L (wpList P ops Q rest)) :
    Under F0 n E L (wpList P ops Q (⟨some d, op, ty, pos, aft, none⟩ :: rest)) :=
  Under.exec rfl fun F a w h0 hE hS => by
    obtain ⟨v, hv, this⟩ := h F a hE
    have this := this w ⟨F, Fz.rf F, hS⟩
    unfold Oper.quietAt at this
    unfold Oper.wp
    generalize (execOp a.eval (⟨some d, op, ty, pos, aft, none⟩ : Oper)).run P w = r at this
    cases r with
    | halt x w' => exact this.elim
    | ok nx w' =>
      cases nx <;> simp only [Oper.quietUpon] at this <;> simp only [Oper.upon]
      case value u => obtain ⟨rfl, rfl⟩ := this; exact k _ _ _ h0 (hE.put hd hv) hS
      case skip => obtain ⟨rfl, rfl⟩ := this; exact k _ _ _ h0 (hE.put hd hv) hS
      case enter f args =>
        obtain ⟨rfl, hc⟩ := this
        exact hc.mono fun e w'' ⟨he, G, hg, hw⟩ => by subst he; exact k _ _ _ (Fz.tr h0 hg) ((hE.mono hg).put hd (SV.ok_mono hg hv)) hw

/-! ### Guards -/
theorem Under.go {o : Option Nat} {g : Nat} {j : Nat} {b : Bool} (hj : ((ops[j]?).bind (·.dst)) = some g) (hb : look E g = some (.raw (.bool b))) (k : Under F0 n E L (wpList P ops Q (⟨o, op, ty, pos, aft, none⟩ :: rest))) :
    Under F0 n E L (wpList P ops Q (⟨o, op, ty, pos, aft, some (j, b)⟩ :: rest)) := fun F a w h0 hE hS => by
  have hk := k F a w h0 hE hS
  obtain ⟨v, hv, he⟩ := hE.at_ g _ hb
  simp only [SV.ok] at he; subst he
  have hy : yielded ops a.tmps j = some b := by simp [yielded, hj, hv]
  unfold wpList at hk ⊢
  simp only [Region.wanted, if_true, hy, beq_self_eq_true] at hk ⊢
  exact hk
theorem Under.skip {u g : Nat} {j : Nat} {b : Bool} (hj : ((ops[j]?).bind (·.dst)) = some g) (hb : look E g = some (.raw (.bool (!b)))) (hu : Nat.blt u n = true) (k : Under F0 n ((u, .raw undef) :: E) L (wpList P ops Q rest)) :
    Under F0 n E L (wpList P ops Q (⟨some u, op, ty, pos, aft, some (j, b)⟩ :: rest)) := fun F a w h0 hE hS => by
  obtain ⟨v, hv, he⟩ := hE.at_ g _ hb
  simp only [SV.ok] at he; subst he
  have hy : yielded ops a.tmps j = some (!b) := by simp [yielded, hj, hv]
  unfold wpList
  rw [if_neg (by simp [Region.wanted, hy])]
  exact k _ _ _ h0 (hE.put hu (by simp only [SV.ok])) hS
theorem Under.skip0 {g : Nat} {j : Nat} {b : Bool} (hj : ((ops[j]?).bind (·.dst)) = some g) (hb : look E g = some (.raw (.bool (!b)))) (k : Under F0 n E L (wpList P ops Q rest)) :
    Under F0 n E L (wpList P ops Q (⟨none, op, ty, pos, aft, some (j, b)⟩ :: rest)) := fun F a w h0 hE hS => by
  obtain ⟨v, hv, he⟩ := hE.at_ g _ hb
  simp only [SV.ok] at he; subst he
  have hy : yielded ops a.tmps j = some (!b) := by simp [yielded, hj, hv]
  unfold wpList
  rw [if_neg (by simp [Region.wanted, hy])]
  exact k _ _ _ h0 hE hS

/-! ### Code -/
theorem Under.seq {x y : Code} (k : Under F0 n E L (x.wp P (Exit.then (y.wp P Q) Q))) : Under F0 n E L ((Code.seq x y).wp P Q) := fun F a w h0 hE hS => wp_seq (k F a w h0 hE hS)
theorem Under.region {id : Nat} {l : List Oper} (k : Under F0 n E L (wpList P l.toArray Q l)) : Under F0 n E L ((Code.region id l.toArray false).wp P Q) := fun F a w h0 hE hS => wp_region_lit (k F a w h0 hE hS)
theorem Under.nil (k : Under F0 n E L (Q .normal)) : Under F0 n E L (wpList P ops Q []) := k
theorem Under.code_skip (k : Under F0 n E L (Q .normal)) : Under F0 n E L (Code.skip.wp P Q) := fun F a w h0 hE hS => wp_skip (k F a w h0 hE hS)
theorem Under.exit {id : Nat} (k : Under F0 n E L (Q (.exit id))) : Under F0 n E L ((Code.exit id).wp P Q) := fun F a w h0 hE hS => wp_exit (k F a w h0 hE hS)
theorem Under.retc (k : Under F0 n E L (Q .ret)) : Under F0 n E L (Code.ret.wp P Q) := fun F a w h0 hE hS => wp_ret (k F a w h0 hE hS)
theorem Under.block {id : Nat} {c : Code} (k : Under F0 n E L (c.wp P (Exit.inBlock id Q))) : Under F0 n E L ((Code.block id c).wp P Q) := fun F a w h0 hE hS => wp_block (k F a w h0 hE hS)
theorem Under.conde {X : Operand} {x y : Code} {c : Bool} (hX : ev E X = some (.raw (.bool c))) (kt : c = true → Under F0 n E L (x.wp P Q)) (kf : c = false → Under F0 n E L (y.wp P Q)) :
    Under F0 n E L ((Code.cond X x y).wp P Q) := fun F a w h0 hE hS =>
  wp_cond_split (hE.raw hX) (fun h => kt h F a w h0 hE hS) (fun h => kf h F a w h0 hE hS)
theorem Under.ite {X : Operand} {x y : Code} {c : Bool} {α : Type} {A B : Option α} {r : α} (hF : (bif c then A else B) = some r) (hX : ev E X = some (.raw (.bool c)))
    (kt : A = some r → Under F0 n E L (x.wp P Q)) (kf : B = some r → Under F0 n E L (y.wp P Q)) : Under F0 n E L ((Code.cond X x y).wp P Q) :=
  Under.conde hX (fun h => kt (by rw [h] at hF; exact hF)) (fun h => kf (by rw [h] at hF; exact hF))

/-! ### Weaker states -/
theorem Under.env {X : Act → World → Prop} {E' : List (Nat × SV)} (hs : ∀ t v, look E' t = some v → look E t = some v) (k : Under F0 n E' L X) : Under F0 n E L X := fun F a w h0 hE hS => k F a w h0 (hE.sub hs) hS
theorem Under.split {X : Act → World → Prop} {t : Nat} {c : Bool} (h : look E t = some (.raw (.bool c))) (kt : c = true → Under F0 n ((t, .raw (.bool true)) :: E) L X) (kf : c = false → Under F0 n ((t, .raw (.bool false)) :: E) L X) : Under F0 n E L X := by
  cases c with
  | true => exact Under.env (sub_cons h (fun _ _ e => e)) (kt rfl)
  | false => exact Under.env (sub_cons h (fun _ _ e => e)) (kf rfl)
theorem Under.perm {X : Act → World → Prop} {L' : List Res} (p : L.Perm L') (k : Under F0 n E L' X) : Under F0 n E L X := fun F a w h0 hE hS => k F a w h0 hE (hS.perm p)
theorem Under.dropr {X : Act → World → Prop} {r : Res} (k : Under F0 n E L X) : Under F0 n E (r :: L) X := fun F a w h0 hE hS => k F a w h0 hE hS.drop

/-! ### The whole call -/
theorem Ok.intro {f : FuncId} {fn : Func} {c : Code} {args : List SV} {L' : List Res} (m : Nat) (E0 : List (Nat × SV)) (hf : P.funcs[f]? = some fn) (hb : fn.body = some c) (hn : fn.ntmps = m) (hl : Nat.ble args.length m = true) (hE : argE 0 args = E0)
    (k : ∀ F0, Under F0 m E0 L (c.wp P (bodyPost P fn fun e w' => ∃ G v, e = .returned v ∧ F0 ≤ G ∧ St G w' L' ∧ s.ok G v))) : Ok P f args L s L' := fun F w vs hv hS => by
  refine calls_of_wp hf hb ?_
  have hl' := oks_length hv
  have hle := Nat.le_of_ble_eq_true hl
  have he : fn.ntmps - vs.toArray.size = m - args.length := by simp [hn, hl']
  rw [he]
  have h2 : args.length + (m - args.length) = m := by omega
  have hst := Env.start hv (m - args.length)
  rw [h2, hE] at hst
  exact k F F _ w (Fz.rf F) hst hS
theorem Under.ret1 {fn : Func} {t : Nat} (hr : fn.results = #[.tmp t]) (h : look E t = some s) : Under F0 n E L (bodyPost P fn (fun e w' => ∃ G v, e = .returned v ∧ F0 ≤ G ∧ St G w' L ∧ s.ok G v) .ret) := fun F a w h0 hE hS => by
  obtain ⟨v, hv, ho⟩ := hE.at_ t s h
  refine ⟨hE.defers, v, ?_, F, v, rfl, h0, hS, ho⟩
  rw [results_tmp hr]; simp [Array.getD_eq_getD_getElem?, hv]
end
end Go.Sim

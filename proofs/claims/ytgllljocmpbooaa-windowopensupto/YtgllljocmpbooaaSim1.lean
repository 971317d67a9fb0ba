/- Sim1: how Go's values read (kinds), and what lies at an address. -/
import Derived.Test.YtgllljocmpbooaaSim0
set_option linter.unusedVariables false
namespace Go.Sim
open Go

/-- How the cells of a Go type read as a Lean value. -/
structure Kd (α : Type) where
  n : Nat
  agg : Bool
  rd : Fz → List Value → α → Prop
  len : ∀ {F cs x}, rd F cs x → cs.length = n
  mono : ∀ {F G cs x}, F ≤ G → rd F cs x → rd G cs x
  one : ∀ {F cs x}, rd F cs x → ∀ v ∈ cs, v.oneCell' = true
  sole : agg = false → n = 1

def pack (agg : Bool) (cs : List Value) : Value := if agg then .agg cs.toArray else cs.headD undef

def Kd.val {α : Type} (K : Kd α) (F : Fz) (v : Value) (x : α) : Prop := ∃ cs, K.rd F cs x ∧ v = pack K.agg cs
theorem Kd.val.mono {α : Type} {K : Kd α} {F G : Fz} {v : Value} {x : α} (h : K.val F v x) (hg : F ≤ G) : K.val G v x :=
  let ⟨cs, a, b⟩ := h; ⟨cs, K.mono hg a, b⟩

theorem cells_pack {α : Type} {K : Kd α} {F : Fz} {cs : List Value} {x : α} (h : K.rd F cs x) : (pack K.agg cs).cells = cs.toArray := by
  unfold pack
  cases ha : K.agg with
  | true => simp [Value.cells]
  | false =>
    have hl := K.len h; rw [K.sole ha] at hl
    match cs, hl with
    | [c], _ =>
      have := K.one h c (by simp)
      simp only [List.headD_cons, Bool.false_eq_true, if_false]
      cases c <;> first | rfl | simp [Value.oneCell'] at this
theorem Kd.val.rd {α : Type} {K : Kd α} {F : Fz} {v : Value} {x : α} (h : K.val F v x) : K.rd F v.cells.toList x := by
  obtain ⟨cs, a, rfl⟩ := h; rw [cells_pack a]; simpa using a
theorem Kd.val.eq_pack {α : Type} {K : Kd α} {F : Fz} {v : Value} {x : α} (h : K.val F v x) : v = pack K.agg v.cells.toList := by
  obtain ⟨cs, a, rfl⟩ := h; rw [cells_pack a]
theorem Kd.val.sizeEq {α : Type} {K : Kd α} {F : Fz} {v : Value} {x : α} (h : K.val F v x) : v.cells.size = K.n := by
  have := K.len h.rd; simpa using this

/-! ### Kinds of one cell -/
def kInt (k : IntKind) : Kd Int where
  n := 1
  agg := false
  rd := fun _ cs x => cs = [.int k x]
  len := fun h => by subst h; rfl
  mono := fun _ h => h
  one := fun h v hv => by subst h; simp at hv; subst hv; rfl
  sole := fun _ => rfl
def kBool : Kd Bool where
  n := 1
  agg := false
  rd := fun _ cs x => cs = [.bool x]
  len := fun h => by subst h; rfl
  mono := fun _ h => h
  one := fun h v hv => by subst h; simp at hv; subst hv; rfl
  sole := fun _ => rfl
/-- A string as its bytes. -/
def kStr : Kd (List Int) where
  n := 1
  agg := false
  rd := fun _ cs x => ∃ s : ByteArray, cs = [.string s] ∧ x = s.data.toList.map (fun b => (b.toNat : Int))
  len := fun ⟨_, h, _⟩ => by subst h; rfl
  mono := fun _ h => h
  one := fun ⟨_, h, _⟩ v hv => by subst h; simp at hv; subst hv; rfl
  sole := fun _ => rfl

theorem val_int {k : IntKind} {F : Fz} {v : Value} {x : Int} : (kInt k).val F v x ↔ v = .int k x :=
  ⟨fun ⟨cs, h, e⟩ => by cases h; exact e, fun h => ⟨[.int k x], rfl, h⟩⟩
theorem val_bool {F : Fz} {v : Value} {x : Bool} : kBool.val F v x ↔ v = .bool x :=
  ⟨fun ⟨cs, h, e⟩ => by cases h; exact e, fun h => ⟨[.bool x], rfl, h⟩⟩

/-! ### Many in a row -/
def rdAll {α : Type} (K : Kd α) (F : Fz) : List Value → List α → Prop
  | cs, [] => cs = []
  | cs, x :: xs => ∃ c d, cs = c ++ d ∧ K.rd F c x ∧ rdAll K F d xs

section
variable {α : Type} {K : Kd α} {F G : Fz}
theorem rdAll.len : ∀ {xs : List α} {cs : List Value}, rdAll K F cs xs → cs.length = xs.length * K.n
  | [], cs, h => by cases h; simp
  | x :: xs, cs, ⟨c, d, e, h, r⟩ => by subst e; rw [List.length_append, K.len h, rdAll.len r, List.length_cons, Nat.succ_mul]; omega
theorem rdAll.mono (hg : F ≤ G) : ∀ {xs : List α} {cs : List Value}, rdAll K F cs xs → rdAll K G cs xs
  | [], cs, h => h
  | x :: xs, cs, ⟨c, d, e, h, r⟩ => ⟨c, d, e, K.mono hg h, rdAll.mono hg r⟩
theorem rdAll.one : ∀ {xs : List α} {cs : List Value}, rdAll K F cs xs → ∀ v ∈ cs, v.oneCell' = true
  | [], cs, h, v, hv => by cases h; cases hv
  | x :: xs, cs, ⟨c, d, e, h, r⟩, v, hv => by
    subst e; rcases List.mem_append.1 hv with hv | hv
    · exact K.one h v hv
    · exact rdAll.one r v hv
theorem rdAll.append : ∀ {xs : List α} {cs ds : List Value} {ys : List α}, rdAll K F cs xs → rdAll K F ds ys → rdAll K F (cs ++ ds) (xs ++ ys)
  | [], cs, ds, ys, h, k => by cases h; simpa using k
  | x :: xs, cs, ds, ys, ⟨c, d, e, h, r⟩, k => ⟨c, d ++ ds, by subst e; simp, h, rdAll.append r k⟩
theorem rdAll.split : ∀ {xs : List α} {cs : List Value} {ys : List α}, rdAll K F cs (xs ++ ys) → rdAll K F (cs.take (xs.length * K.n)) xs ∧ rdAll K F (cs.drop (xs.length * K.n)) ys
  | [], cs, ys, h => by simp; exact ⟨rfl, h⟩
  | x :: xs, cs, ys, ⟨c, d, e, h, r⟩ => by
    subst e
    have hl := K.len h
    obtain ⟨r1, r2⟩ := rdAll.split r
    have e1 : (x :: xs).length * K.n = c.length + xs.length * K.n := by rw [List.length_cons, Nat.succ_mul, hl]; omega
    rw [e1, List.take_length_add_append, List.drop_length_add_append]
    exact ⟨⟨c, _, rfl, h, r1⟩, r2⟩
theorem rdAll.single {x : α} {cs : List Value} (h : K.rd F cs x) : rdAll K F cs [x] := ⟨cs, [], by simp, h, rfl⟩
theorem rdAll.of_single {x : α} {cs : List Value} (h : rdAll K F cs [x]) : K.rd F cs x := by
  obtain ⟨c, d, e, h, r⟩ := h; cases r; simpa [e] using h
theorem rdAll.get {xs : List α} {cs : List Value} (h : rdAll K F cs xs) {i : Nat} {x : α} (hx : xs[i]? = some x) : K.rd F ((cs.drop (i * K.n)).take K.n) x := by
  obtain ⟨hi, rfl⟩ := List.getElem?_eq_some_iff.1 hx
  have e : xs = xs.take i ++ (xs[i] :: xs.drop (i + 1)) := by simp
  rw [e] at h
  have hl : (xs.take i).length = i := by simp; omega
  have h2 := h.split.2
  rw [hl] at h2
  obtain ⟨c, d, e', h', _⟩ := h2
  have hlc := K.len h'
  rw [e']
  rw [← hlc, List.take_left]; exact h'
theorem rdAll.set {xs : List α} {cs : List Value} (h : rdAll K F cs xs) {i : Nat} (hi : i < xs.length) {y : α} {c : List Value} (hy : K.rd F c y) :
    rdAll K F (cs.take (i * K.n) ++ c ++ cs.drop (i * K.n + K.n)) (xs.set i y) := by
  have e : xs = xs.take i ++ ([xs[i]] ++ xs.drop (i + 1)) := by simp
  have e2 : xs.set i y = xs.take i ++ ([y] ++ xs.drop (i + 1)) := by
    rw [List.set_eq_take_append_cons_drop, if_pos hi]; rfl
  rw [e2]
  rw [e] at h
  have hl : (xs.take i).length = i := by simp; omega
  obtain ⟨h1, h2⟩ := h.split
  rw [hl] at h1 h2
  have h3 := h2.split.2
  simp only [List.length_cons, List.length_nil, Nat.zero_add, Nat.one_mul, List.drop_drop] at h3
  rw [List.append_assoc]
  exact h1.append ((rdAll.single hy).append h3)
theorem rdAll.take {xs : List α} {cs : List Value} (h : rdAll K F cs xs) (m : Nat) : rdAll K F (cs.take (m * K.n)) (xs.take m) := by
  by_cases hm : m ≤ xs.length
  · have e : xs = xs.take m ++ xs.drop m := by simp
    rw [e] at h
    have h1 := h.split.1
    rwa [List.length_take, Nat.min_eq_left hm] at h1
  · have h1 : xs.take m = xs := List.take_of_length_le (by omega)
    have h2 : cs.take (m * K.n) = cs := List.take_of_length_le (by rw [h.len]; exact Nat.mul_le_mul_right _ (by omega))
    rw [h1, h2]; exact h
theorem rdAll.drop {xs : List α} {cs : List Value} (h : rdAll K F cs xs) (m : Nat) : rdAll K F (cs.drop (m * K.n)) (xs.drop m) := by
  by_cases hm : m ≤ xs.length
  · have e : xs = xs.take m ++ xs.drop m := by simp
    rw [e] at h
    have h1 := h.split.2
    rwa [List.length_take, Nat.min_eq_left hm] at h1
  · have h1 : xs.drop m = [] := List.drop_of_length_le (by omega)
    have h2 : cs.drop (m * K.n) = [] := List.drop_of_length_le (by rw [h.len]; exact Nat.mul_le_mul_right _ (by omega))
    rw [h1, h2]; rfl
end

/-- An array of m elements. -/
def kArr {α : Type} (m : Nat) (K : Kd α) : Kd (List α) where
  n := m * K.n
  agg := true
  rd := fun F cs xs => xs.length = m ∧ rdAll K F cs xs
  len := fun ⟨e, h⟩ => by rw [h.len, e]
  mono := fun hg ⟨e, h⟩ => ⟨e, h.mono hg⟩
  one := fun ⟨_, h⟩ => h.one
  sole := fun h => by cases h

/-- What lies at an address of the frozen memory. -/
structure RdAt {α : Type} (F : Fz) (p : Addr) (K : Kd α) (x : α) : Prop where
  out : ∃ c e fr, p.spot = none ∧ F.blk p.block = some (.cells c e fr) ∧ p.off + K.n ≤ c.size ∧ K.rd F ((c.toList.drop p.off).take K.n) x
theorem RdAt.mono {α : Type} {F G : Fz} {p : Addr} {K : Kd α} {x : α} (h : RdAt F p K x) (hg : F ≤ G) : RdAt G p K x := by
  obtain ⟨c, e, fr, a, b, d, f⟩ := h.out; exact ⟨c, e, fr, a, hg.blk _ _ b, d, K.mono hg f⟩

/-- A slice. -/
def kSl {α : Type} (K : Kd α) : Kd (List α) where
  n := 1
  agg := false
  rd := fun F cs xs => ∃ a cap, cs = [.slice a xs.length cap] ∧ xs.length ≤ cap ∧ (xs.length = 0 ∨ ∃ p c e fr, a = some p ∧ p.spot = none ∧ F.blk p.block = some (.cells c e fr) ∧ p.off + xs.length * K.n ≤ c.size ∧
    rdAll K F ((c.toList.drop p.off).take (xs.length * K.n)) xs)
  len := fun ⟨_, _, h, _⟩ => by subst h; rfl
  mono := fun hg ⟨a, cap, h, hc, r⟩ => ⟨a, cap, h, hc, r.imp id fun ⟨p, c, e, fr, a1, a2, a3, a4, a5⟩ => ⟨p, c, e, fr, a1, a2, hg.blk _ _ a3, a4, a5.mono hg⟩⟩
  one := fun ⟨_, _, h, _⟩ v hv => by subst h; simp at hv; subst hv; rfl
  sole := fun _ => rfl

/-- The entries of a map, in their order. -/
def rdM {α β : Type} (K : Kd α) (V : Kd β) (F : Fz) : List MapEntry → List (α × β) → Prop
  | [], [] => True
  | e :: es, p :: ps => K.val F e.key p.1 ∧ V.val F e.val p.2 ∧ rdM K V F es ps
  | _, _ => False
theorem rdM.mono {α β : Type} {K : Kd α} {V : Kd β} {F G : Fz} (hg : F ≤ G) : ∀ {es : List MapEntry} {ps : List (α × β)}, rdM K V F es ps → rdM K V G es ps
  | [], [], h => h
  | e :: es, p :: ps, ⟨a, b, c⟩ => ⟨a.mono hg, b.mono hg, rdM.mono hg c⟩
  | [], _ :: _, h => h.elim
  | _ :: _, [], h => h.elim
theorem rdM.len {α β : Type} {K : Kd α} {V : Kd β} {F : Fz} : ∀ {es : List MapEntry} {ps : List (α × β)}, rdM K V F es ps → es.length = ps.length
  | [], [], h => rfl
  | e :: es, p :: ps, ⟨a, b, c⟩ => by simp [rdM.len c]
  | [], _ :: _, h => h.elim
  | _ :: _, [], h => h.elim
/-- Each entry has a stamp of its own, below the clock. -/
def Stamp (es : Array MapEntry) (clock : Nat) : Prop := (∀ e ∈ es.toList, e.born < clock) ∧ (es.toList.map (·.born)).Nodup
/-- A map, as the list of its pairs. -/
def kMap {α β : Type} (K : Kd α) (V : Kd β) : Kd (List (α × β)) where
  n := 1
  agg := false
  rd := fun F cs ps => (cs = [.map none] ∧ ps = []) ∨ ∃ b es clock, cs = [.map (some b)] ∧ F.blk b = some (.map es clock) ∧ rdM K V F es.toList ps ∧ Stamp es clock
  len := fun h => by rcases h with ⟨h, _⟩ | ⟨_, _, _, h, _⟩ <;> subst h <;> rfl
  mono := fun hg h => h.imp id fun ⟨b, es, clock, h, a, r⟩ => ⟨b, es, clock, h, hg.blk _ _ a, r.1.mono hg, r.2⟩
  one := fun h v hv => by rcases h with ⟨h, _⟩ | ⟨_, _, _, h, _⟩ <;> subst h <;> simp at hv <;> subst hv <;> rfl
  sole := fun _ => rfl

/-- A pointer to something frozen. -/
def kPtr {α : Type} (K : Kd α) : Kd α where
  n := 1
  agg := false
  rd := fun F cs x => ∃ p, cs = [.pointer (some p)] ∧ RdAt F p K x
  len := fun ⟨_, h, _⟩ => by subst h; rfl
  mono := fun hg ⟨p, h, r⟩ => ⟨p, h, r.mono hg⟩
  one := fun ⟨_, h, _⟩ v hv => by subst h; simp at hv; subst hv; rfl
  sole := fun _ => rfl

/-! ### Structs -/
structure Fld (β : Type) where
  {α : Type}
  K : Kd α
  get : β → α

def nF {β : Type} : List (Fld β) → Nat
  | [] => 0
  | f :: fs => f.K.n + nF fs
def offF {β : Type} : List (Fld β) → Nat → Nat
  | [], _ => 0
  | _, 0 => 0
  | f :: fs, i + 1 => f.K.n + offF fs i
def rdF {β : Type} (F : Fz) : List (Fld β) → List Value → β → Prop
  | [], cs, _ => cs = []
  | f :: fs, cs, x => ∃ c d, cs = c ++ d ∧ f.K.rd F c (f.get x) ∧ rdF F fs d x

def kSt {β : Type} (fs : List (Fld β)) : Kd β where
  n := nF fs
  agg := true
  rd := fun F cs x => rdF F fs cs x
  len := by
    intro F cs x h
    induction fs generalizing cs with
    | nil => cases h; rfl
    | cons f fs ih => obtain ⟨c, d, e, h, r⟩ := h; subst e; rw [List.length_append, f.K.len h, ih r]; rfl
  mono := by
    intro F G cs x hg h
    induction fs generalizing cs with
    | nil => exact h
    | cons f fs ih => obtain ⟨c, d, e, h, r⟩ := h; exact ⟨c, d, e, f.K.mono hg h, ih r⟩
  one := by
    intro F cs x h
    induction fs generalizing cs with
    | nil => cases h; simp
    | cons f fs ih =>
      obtain ⟨c, d, e, h, r⟩ := h; subst e
      intro v hv; rcases List.mem_append.1 hv with hv | hv
      · exact f.K.one h v hv
      · exact ih r v hv
  sole := fun h => by cases h

theorem rdF.get {β : Type} {F : Fz} : ∀ {fs : List (Fld β)} {cs : List Value} {x : β} {i : Nat} {f : Fld β}, rdF F fs cs x → fs[i]? = some f →
    offF fs i + f.K.n ≤ cs.length ∧ f.K.rd F ((cs.drop (offF fs i)).take f.K.n) (f.get x)
  | [], _, _, _, _, _, h => by cases h
  | g :: fs, cs, x, 0, f, ⟨c, d, e, h, r⟩, hf => by
    cases hf; subst e; have := g.K.len h
    simp only [offF, List.drop_zero, List.length_append]
    rw [← this, List.take_left]; exact ⟨by omega, h⟩
  | g :: fs, cs, x, i + 1, f, ⟨c, d, e, h, r⟩, hf => by
    subst e; have hl := g.K.len h
    have ih := rdF.get r (i := i) (f := f) (by simpa using hf)
    simp only [offF, List.length_append]
    rw [← hl, List.drop_length_add_append]
    exact ⟨by omega, ih.2⟩

theorem take_drop_take {l : List Value} {a b n m : Nat} (h : a + m ≤ n) : (((l.drop b).take n).drop a).take m = (l.drop (b + a)).take m := by
  rw [List.drop_take, List.drop_drop, List.take_take, Nat.min_eq_left (by omega)]

theorem RdAt.fld {β : Type} {F : Fz} {p : Addr} {fs : List (Fld β)} {x : β} (h : RdAt F p (kSt fs) x) {i : Nat} {f : Fld β} (hf : fs[i]? = some f) :
    RdAt F ⟨p.block, p.off + offF fs i, none⟩ f.K (f.get x) := by
  obtain ⟨c, e, fr, a, b, d, r⟩ := h.out
  obtain ⟨h1, h2⟩ := rdF.get r hf
  have hn : (kSt fs).n = ((c.toList.drop p.off).take (kSt fs).n).length := by simp; omega
  refine ⟨c, e, fr, rfl, b, ?_, ?_⟩
  · have := d; rw [hn] at this; simp only at *; omega
  · rw [← hn] at h1
    rw [take_drop_take h1] at h2; exact h2

theorem kSl.at_ {α : Type} {K : Kd α} {F : Fz} {v : Value} {xs : List α} (h : (kSl K).val F v xs) : ∃ a cap, v = .slice a xs.length cap ∧
    ∀ i x, xs[i]? = some x → ∃ p, a = some p ∧ p.spot = none ∧ RdAt F ⟨p.block, p.off + i * K.n, none⟩ K x := by
  obtain ⟨cs, ⟨a, cap, rfl, hc, r⟩, rfl⟩ := h
  refine ⟨a, cap, rfl, fun i x hx => ?_⟩
  obtain ⟨hi, _⟩ := List.getElem?_eq_some_iff.1 hx
  rcases r with r | ⟨p, c, e, fr, rfl, hp, hb, hle, ha⟩
  · omega
  · refine ⟨p, rfl, hp, ⟨c, e, fr, rfl, hb, ?_, ?_⟩⟩
    · have : (i + 1) * K.n ≤ xs.length * K.n := Nat.mul_le_mul_right _ hi
      rw [Nat.succ_mul] at this; simp only; omega
    · have := ha.get hx
      rwa [take_drop_take (by have : (i + 1) * K.n ≤ xs.length * K.n := Nat.mul_le_mul_right _ hi
                              rw [Nat.succ_mul] at this; omega)] at this

theorem RdAt.arr {α : Type} {K : Kd α} {m : Nat} {F : Fz} {p : Addr} {xs : List α} (h : RdAt F p (kArr m K) xs) {i : Nat} {x : α} (hx : xs[i]? = some x) :
    RdAt F ⟨p.block, p.off + i * K.n, none⟩ K x := by
  obtain ⟨c, e, fr, a, b, d, r⟩ := h.out
  obtain ⟨hi, _⟩ := List.getElem?_eq_some_iff.1 hx
  have hm : xs.length = m := r.1
  have h1 : (i + 1) * K.n ≤ m * K.n := Nat.mul_le_mul_right _ (by omega)
  rw [Nat.succ_mul] at h1
  have d' : p.off + m * K.n ≤ c.size := d
  refine ⟨c, e, fr, rfl, b, ?_, ?_⟩
  · simp only; omega
  · have := r.2.get hx
    rwa [show (kArr m K).n = m * K.n from rfl, take_drop_take (by omega)] at this

end Go.Sim

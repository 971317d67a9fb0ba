/- Sim16: a law that answers true and leaves its input be. -/
import Derived.Test.YtgllljocmpbooaaSim15
set_option linter.unusedVariables false
set_option linter.unusedSimpArgs false
namespace Go.Sim
open Go Go.ChangeShapes Go.WideShapes Go.RowKit

def gInt (k : IntKind) (x : Int) : Prop := k.min ≤ x ∧ x ≤ k.max
def gAny {α : Type} (_ : α) : Prop := True
def gStr (x : List Int) : Prop := ∀ b ∈ x, 0 ≤ b ∧ b ≤ 255
def gSl {α : Type} (G : α → Prop) (xs : List α) : Prop := (∀ x ∈ xs, G x) ∧ xs.length ≤ maxLen
def gArr {α : Type} (m : Nat) (G : α → Prop) (xs : List α) : Prop := (∀ x ∈ xs, G x) ∧ xs.length = m
def bOne {α : Type} (_ : α) : Nat := 1
def bStr (x : List Int) : Nat := x.length + 1
def bSl {α : Type} (bk : α → Nat) (xs : List α) : Nat := (xs.map bk).sum + 1
def bArr {α : Type} (bk : α → Nat) (xs : List α) : Nat := (xs.map bk).sum
theorem rw_int {P : Program} {T : TypeId} {k : IntKind} (hu : P.underlying T = some (.int k)) : RdW P T (kInt k) (gInt k) bOne := RdW.int hu
theorem rw_bool {P : Program} {T : TypeId} (hu : P.underlying T = some .bool) : RdW P T kBool gAny bOne := RdW.bool hu
theorem rw_str {P : Program} {T : TypeId} (hu : P.underlying T = some .string) : RdW P T kStr gStr bStr := RdW.str hu
theorem rw_sl {α : Type} {P : Program} {T e : TypeId} {K : Kd α} {G : α → Prop} {bk : α → Nat} (hu : P.underlying T = some (.slice e)) (hc : P.cellsOf e = K.n) (hn : 0 < K.n) (he : RdW P e K G bk) : RdW P T (kSl K) (gSl G) (bSl bk) := RdW.sl hu hc hn he
theorem rw_arr {α : Type} {P : Program} {T e : TypeId} {m : Nat} {K : Kd α} {G : α → Prop} {bk : α → Nat} (hu : P.underlying T = some (.array m e)) (hT : P.cellsOf T = m * K.n) (hc : P.cellsOf e = K.n) (he : RdW P e K G bk) : RdW P T (kArr m K) (gArr m G) (bArr bk) := RdW.arr hu hT hc he

theorem rdF_step {β : Type} {F : Fz} {f : Fld β} {fs : List (Fld β)} {x : β} {cs : List Value} {off n m : Nat} (hm : m = n) (r : f.K.rd F ((cs.drop off).take m) (f.get x)) (h : rdF F fs (cs.drop (off + n)) x) : rdF F (f :: fs) (cs.drop off) x :=
  ⟨(cs.drop off).take m, cs.drop (off + n), by subst hm; rw [← List.drop_drop, List.take_append_drop], r, h⟩
theorem rdF_end {β : Type} {F : Fz} {x : β} {cs : List Value} {n m : Nat} (hl : cs.length = m) (h : Nat.ble m n = true) : rdF F [] (cs.drop n) x := List.drop_eq_nil_of_le (by have := Nat.le_of_ble_eq_true h; omega)
theorem rdF_start {β : Type} {F : Fz} {fs : List (Fld β)} {x : β} {cs : List Value} (h : rdF F fs (cs.drop 0) x) : rdF F fs cs x := h

theorem Kd.val_of {α : Type} {P : Program} {T : TypeId} {K : Kd α} (hT : aggB P T = some K.agg) {W : World} {b : Nat} {v : Value} (hok : Value.okWide P W .any b T v) {x : α} (h : K.rd (FzOf W) v.cells.toList x) : K.val (FzOf W) v x := by
  refine ⟨_, h, ?_⟩
  unfold aggB at hT
  unfold Value.okWide at hok
  unfold pack
  cases hu : P.underlying T with
  | none => rw [hu] at hT; cases hT
  | some ds =>
    rw [hu] at hT hok
    cases ha : K.agg with
    | true =>
      rw [ha] at hT
      cases ds <;> simp at hT hok
      all_goals
        obtain ⟨cs, rfl, _⟩ := hok
        simp [Value.cells]
    | false =>
      rw [ha] at hT
      have hl := K.len h
      rw [K.sole ha] at hl
      have hag : ∀ xs, v ≠ .agg xs := by
        rintro xs rfl
        cases ds <;> simp [Cell.okWide, hu, Cell.ok] at hok hT
      have hcv : v.cells.toList = [v] := by
        cases v <;> first | rfl | exact absurd rfl (hag _)
      rw [hcv]; rfl
section
variable {H : Type} {enc : TypeId × Value → H} {P : Program}
theorem kept_of {F : Fz} {W W' : World} (hF : F = FzOf W) {G : Fz} (hg : F ≤ G) (hS : St G W' []) : W'.os = W.os ∧ W'.output = W.output ∧ ∀ (b : Nat) (o : Obj), W.heap[b]? = some o → W'.heap[b]? = some o := by
  subst hF
  exact ⟨hS.on.os.trans hg.os, hS.on.output.trans hg.output, fun b o h => hS.on.blk b o (hg.blk b o h)⟩

theorem door_true {f : FuncId} {fn : Func} {s : ChangeSpec} {apart fresh handsOn again : Bool} {W : World} {args : Array Value} {ds : List (DataW H)} {before : List MemPlace} {tb : TypeId}
    (hW : DataW.Whole enc P fn.params.toList s.vars apart W args.toList ds [] before) (hv : s.vars = []) (hs : s.fn H (ds ++ []) = { results := [.lit (.bool true)], args := ds })
    (hr : fn.resultTypes = #[tb]) (hb : P.underlying tb = some .bool) (K : Kids P (· < P.types.size)) (full : ∀ t e, t < P.types.size → P.underlying t = some (.slice e) → 0 < P.cellsOf e) (hts : ∀ t ∈ fn.params.toList, t < P.types.size)
    (hc : Calls P f args W (fun e W' => ∃ G v, e = .returned v ∧ FzOf W ≤ G ∧ St G W' [] ∧ (SV.raw (.bool true)).ok G v)) :
    Calls P f args W fun e W' => ∃ v, e = .returned v ∧ s.post enc P fn apart fresh handsOn again W args v W' := by
  refine hc.mono fun e W' ⟨G, v, he, hg, hS, hok⟩ => ?_
  simp only [SV.ok] at hok
  subst hok
  obtain ⟨ho, hout, hold⟩ := kept_of rfl hg hS
  have hW0 := hW
  have hlt := hW.lt
  obtain ⟨p, q, hA, hV, hpq, hz, hn⟩ := hW
  rw [hv] at hV
  have hq : q = [] := hV
  subst hq
  rw [List.append_nil] at hpq
  subst hpq
  have hblk : ∀ b, b < W.heap.size → W'.heap[b]? = W.heap[b]? := fun b hb => by
    have h1 : W.heap[b]? = some W.heap[b] := by simp [hb]
    rw [h1]; exact hold b _ h1
  have hsame : ∀ x ∈ before, W.sameAt W' x := fun x hx => by
    have h1 := hblk x.block (hlt x hx)
    cases x with
    | cell b off => simp only [World.sameAt, World.cell?]; simp only [MemPlace.block] at h1; rw [h1]
    | map b => exact h1
  have hA' : DataW.TrodAll enc P W' 0 (fun _ => true) true fn.params.toList args.toList ds before := by
    clear hW0 hs hc hlt hz hn
    generalize fn.params.toList = ts at hA
    generalize args.toList = vs at hA
    induction ts generalizing vs ds before with
    | nil =>
      cases vs with
      | nil => cases ds with
        | nil => exact hA
        | cons _ _ => exact hA.elim
      | cons _ _ => exact hA.elim
    | cons t ts ih =>
      cases vs with
      | nil => exact hA.elim
      | cons v vs =>
        cases ds with
        | nil => exact hA.elim
        | cons d ds =>
          obtain ⟨p1, p2, ⟨n, h1⟩, h2, rfl⟩ := hA
          exact ⟨p1, p2, ⟨n, DataW.trod_carry n _ _ _ h1 fun x hx => hsame x (List.mem_append_left _ hx)⟩, ih (fun x hx => hsame x (List.mem_append_right _ hx)) vs h2, rfl⟩
  have hres : ∀ (b : Nat) (sp : Nat → Bool) (hd : Bool), DataW.TrodAll enc P W' b sp hd fn.resultTypes.toList (Value.resultList fn.resultTypes.size (.bool true)) [.lit (.bool true)] [] := fun b sp hd => by
    rw [hr]; exact ⟨[], [], shut_bool hb true, rfl, rfl⟩
  refine ⟨_, he, ds, [], before, [], before, [], hW0, ?_, ?_, ?_, ⟨ho, hout, fun i hi => ?_⟩, fun _ => ⟨ok_one hr rfl (okWide_bool_mk hb true), ?_⟩⟩
  · rw [hs]; exact hres _ _ _
  · rw [hs]; exact DataW.TrodAll.respare K full hts hA' fun x hx => by simpa using hlt x hx
  · rw [hs, hv]; exact rfl
  · rw [hblk i hi]
    split
    · rename_i h1 h2; rw [h1] at h2; cases h2; exact ⟨rfl, rfl, rfl, fun _ _ => rfl⟩
    · rename_i h1 h2; rw [h1] at h2; cases h2; exact .inr ⟨rfl, rfl⟩
    · rfl
  · refine ⟨_, [], before, ⟨before, [], trodAll_append hA' (hres _ _ _), by rw [hv]; exact rfl, by simp, fun b off hx => ?_, fun ha => ?_⟩, fun x hx _ => hx⟩
    · have h1 := hblk b (hlt _ hx)
      have := hz b off (by simpa using hx)
      simp only [World.frozen?] at this ⊢
      rw [h1]; exact this
    · have := hn ha; simpa using this
end
end Go.Sim

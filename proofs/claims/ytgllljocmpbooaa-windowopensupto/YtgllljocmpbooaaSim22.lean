/- Sim22: what append and copy take from; copy; slices of what is owned. -/
import Derived.Test.YtgllljocmpbooaaSim21
import Derived.Lib.AppendStr
set_option linter.unusedVariables false
set_option linter.unusedSimpArgs false
namespace Go.Sim
open Go

/-- What append and copy take from: m elements, these cells. -/
structure SrcV (P : Program) (w : World) (size : Nat) (v : Value) (m : Nat) (news : List Value) : Prop where
  len : ∀ w', (Builtin.lenOf v).run P w' = .ok m w'
  nl : news.length = m * size
  cells : ∀ w', w'.heap = w.heap → ∀ k, k ≤ m → (Builtin.firstCells size k v).run P w' = .ok (news.take (k * size)).toArray w'

section
variable {P : Program} {ops : Array Oper} {Q : Exit → Act → World → Prop} {rest : List Oper} {F0 : Fz} {n : Nat} {E : List (Nat × SV)} {L : List Res}
variable {d : Nat} {op : Op} {ty : TypeId} {pos : String} {aft : Array Edge} {s : SV}

theorem cell?_heap {w w' : World} (h : w'.heap = w.heap) (a : Addr) : w'.cell? a = w.cell? a := by
  simp only [World.cell?, h]
theorem SrcV.slice {α : Type} {K : Kd α} {F : Fz} {w : World} {v : Value} {ys : List α} (hon : F.on w) (hv : (kSl K).val F v ys) :
    ∃ news, SrcV P w K.n v ys.length news ∧ rdAll K F news ys ∧ (∀ u ∈ news, u.oneCell' = true) := by
  obtain ⟨cs, ⟨ad, cap2, rfl, _, hcase⟩, hval⟩ := hv
  have hval : v = .slice ad ys.length cap2 := hval
  subst hval
  rcases hcase with h0 | ⟨p, c, e', fr, rfl, hp, hb, hle, hrd⟩
  · have : ys = [] := List.eq_nil_of_length_eq_zero h0
    subst this
    refine ⟨[], ⟨fun w' => rfl, by simp, fun w' _ k hk => ?_⟩, rfl, by simp⟩
    have hk0 : k = 0 := by simpa using hk
    subst hk0
    cases ad with
    | none => simp [Builtin.firstCells]
    | some p => simp [Builtin.firstCells, loadCells, loadCellsFrom]
  · refine ⟨_, ⟨fun w' => rfl, hrd.len, fun w' hw k hk => ?_⟩, hrd, hrd.one⟩
    refine run_firstCells_some w' K.n k p _ cap2 _ ?_ fun j u hu => ?_
    · rw [List.length_take, hrd.len]; exact Nat.min_eq_left (Nat.mul_le_mul_right _ hk)
    · rw [cell?_heap hw]
      have hj : j < k * K.n := by have := (List.getElem?_eq_some_iff.1 hu).1; simp at this; omega
      have hkl : k * K.n ≤ ys.length * K.n := Nat.mul_le_mul_right _ hk
      rw [List.getElem?_take_of_lt hj, List.getElem?_take_of_lt (by omega), List.getElem?_drop] at hu
      have hbw := hon.blk _ _ hb
      obtain ⟨pb, po, ps⟩ := p
      simp only at hp hb hle hbw hu; subst hp
      rw [Addr.add_mid, cell_of_row w pb (po + j) c e' fr hbw]
      simpa using hu
theorem SrcV.str {F : Fz} {w : World} {v : Value} {ys : List Int} (hv : kStr.val F v ys) :
    ∃ news, SrcV P w (kInt .u8).n v ys.length news ∧ rdAll (kInt .u8) F news ys ∧ (∀ u ∈ news, u.oneCell' = true) := by
  obtain ⟨cs, ⟨s, rfl, rfl⟩, hval⟩ := hv
  have hval : v = .string s := hval
  subst hval
  have hsz : (s.data.toList.map (fun b : UInt8 => (b.toNat : Int))).length = s.size := by simp
  refine ⟨Lib.strCells s, ⟨fun w' => by rw [hsz]; rfl, by rw [hsz, Lib.strCells_length]; exact (Nat.mul_one _).symm, fun w' _ k hk => ?_⟩, ?_, Lib.strCells_oneCell s⟩
  · rw [show k * (kInt .u8).n = k from Nat.mul_one k]
    simp only [Builtin.firstCells, Lib.strCells, Sem.run_pure]
    congr 1
    apply Array.ext'
    simp [List.map_take]
  · have : ∀ l : List UInt8, rdAll (kInt .u8) F (l.map fun b => Value.int .u8 b.toNat) (l.map fun b => (b.toNat : Int)) := by
      intro l; induction l with
      | nil => rfl
      | cons b l ih => exact ⟨[.int .u8 b.toNat], _, rfl, rfl, ih⟩
    exact this _
theorem SrcV.own {α : Type} {K : Kd α} {F : Fz} {w : World} {v : Value} {e : TypeId} {ys : List α} {h : Frag} (hh : (Res.own K v e ys).holds F h) (hon : ∀ b o, h b = some o → w.heap[b]? = some o) :
    ∃ news, SrcV P w K.n v ys.length news ∧ rdAll K F news ys ∧ (∀ u ∈ news, u.oneCell' = true) := by
  rcases hh with ⟨rfl, rfl, _⟩ | ⟨g, cap, cur, rfl, rfl, h3, h4, h5, h6⟩
  · exact ⟨[], ⟨fun w' => rfl, by simp, fun w' _ k hk => by simp [Builtin.firstCells]⟩, rfl, by simp⟩
  · refine ⟨_, ⟨fun w' => rfl, h6.len, fun w' hw k hk => ?_⟩, h6, h6.one⟩
    refine run_firstCells_some w' K.n k ⟨g, 0, none⟩ _ cap _ ?_ fun j u hu => ?_
    · rw [List.length_take, h6.len]; exact Nat.min_eq_left (Nat.mul_le_mul_right _ hk)
    · rw [cell?_heap hw]
      have hj : j < k * K.n := by have := (List.getElem?_eq_some_iff.1 hu).1; simp at this; omega
      have hkl : k * K.n ≤ ys.length * K.n := Nat.mul_le_mul_right _ hk
      rw [List.getElem?_take_of_lt hj, List.getElem?_take_of_lt (by omega)] at hu
      rw [Addr.add_mid, Nat.zero_add, cell_of_row w g j cur e (0, 0) (hon g _ (Frag.one_at _ _))]
      simpa using hu

/-! ### copy -/
/-- The elements lo..hi written over. -/
def over {α : Type} (xs : List α) (lo hi : Nat) (ys : List α) : List α := xs.take lo ++ ys.take (hi - lo) ++ xs.drop (lo + min ys.length (hi - lo))
theorem over_len {α : Type} {xs ys : List α} {lo hi : Nat} (h : lo ≤ hi) (h2 : hi ≤ xs.length) : (over xs lo hi ys).length = xs.length := by
  simp only [over, List.length_append, List.length_take, List.length_drop]; omega
theorem run_copyG {t u elem : TypeId} {sz : Nat} (hu : P.underlying t = some (.slice elem)) (hs : (P.info? elem).map (·.size) = some sz) {w : World} {ad : Option Addr} {dLen dCap : Nat} {v : Value} {m : Nat} {news : List Value} (hv : SrcV P w sz v m news) :
    (Builtin.copy_ #[t, u] ty #[.slice ad dLen dCap, v]).run P w = (match ad with | some a => (do storeCells a (news.take (min m dLen * sz)); pure (goInt ((min m dLen : Nat) : Int)) : Sem Value) | none => pure (goInt ((min m dLen : Nat) : Int))).run P w := by
  have h1 := hv.len w
  have h2 := hv.cells w rfl (min m dLen) (Nat.min_le_left _ _)
  have hz : (sizeOf elem).run P w = .ok sz w := run_sizeOf' hs w
  have e : Nat.min m dLen = min m dLen := rfl
  simp only [Builtin.copy_, List.size_toArray, List.length_cons, List.length_nil, Nat.zero_add, Nat.reduceLT, Nat.reduceAdd, getElem?_pos, List.getElem_toArray, List.getElem_cons_zero, List.getElem_cons_succ, Sem.run_bind, run_underlying hu, h1, hz, Result.andThen_ok, e, h2]
  cases ad <;> rfl
theorem copy_core {α β : Type} {r : Res} {R : β → Res} {K0 : Kd β} {K : Kd α} {b off m : Nat} {x : β} {xs ys : List α} {up : List α → β} (hb : Blk1 r R b K0 x) (p : At K0 x off (kArr m K) xs up) {lo hi dCap : Nat} (h1 : lo ≤ hi) (h2 : hi ≤ m)
    {ad : Addr} (had : lo < hi → ad = ⟨b, off + lo * K.n, none⟩) {t u elem : TypeId} (hu : P.underlying t = some (.slice elem)) (hs : (P.info? elem).map (·.size) = some K.n) {F : Fz} {w : World} (hS : St F w (r :: L))
    {v : Value} {news : List Value} (hv : SrcV P w K.n v ys.length news) (hrd : rdAll K F news ys) (h1c : ∀ u ∈ news, u.oneCell' = true) :
    ∃ w', (Builtin.copy_ #[t, u] ty #[.slice (some ad) (hi - lo) dCap, v]).run P w = .ok (goInt ((min ys.length (hi - lo) : Nat) : Int)) w' ∧ St F w' (R (up (over xs lo hi ys)) :: L) := by
  rw [run_copyG hu hs hv]
  obtain ⟨h, hh, hon⟩ := hS.head
  obtain ⟨cs, post, e, rfl, hrd0, hput⟩ := hb.out hh
  have hbw : w.heap[b]? = some (.cells (cs ++ post).toArray e (0, 0)) := hon b _ (Frag.one_at _ _)
  obtain ⟨hle, hxm, hxs⟩ := p.get hrd0
  have hle : off + m * K.n ≤ cs.length := hle
  have hxl := hxs.len
  have hmin : min ys.length (hi - lo) * K.n ≤ (hi - lo) * K.n := Nat.mul_le_mul_right _ (Nat.min_le_right _ _)
  have hhm : lo * K.n + (hi - lo) * K.n ≤ m * K.n := by rw [← Nat.add_mul]; exact Nat.mul_le_mul_right _ (by omega)
  have hnl := hv.nl
  have hnt : (news.take (min ys.length (hi - lo) * K.n)).length = min ys.length (hi - lo) * K.n := by
    rw [List.length_take, hnl]; exact Nat.min_eq_left (Nat.mul_le_mul_right _ (Nat.min_le_left _ _))
  -- the new content
  have hnew : rdAll K F (((cs.drop off).take (m * K.n)).take (lo * K.n) ++ news.take (min ys.length (hi - lo) * K.n) ++ ((cs.drop off).take (m * K.n)).drop (lo * K.n + min ys.length (hi - lo) * K.n)) (over xs lo hi ys) := by
    have a1 := hxs.take lo
    have a2 := hrd.take (min ys.length (hi - lo))
    have a3 := hxs.drop (lo + min ys.length (hi - lo))
    rw [Nat.add_mul] at a3
    have e1 : ys.take (min ys.length (hi - lo)) = ys.take (hi - lo) := by
      rcases Nat.le_total ys.length (hi - lo) with h | h
      · rw [Nat.min_eq_left h, List.take_length, List.take_of_length_le h]
      · rw [Nat.min_eq_right h]
    rw [e1] at a2
    exact (a1.append a2).append a3
  have hset := p.set hrd0 (c := ((cs.drop off).take (m * K.n)).take (lo * K.n) ++ news.take (min ys.length (hi - lo) * K.n) ++ ((cs.drop off).take (m * K.n)).drop (lo * K.n + min ys.length (hi - lo) * K.n)) (z := over xs lo hi ys) ⟨by rw [over_len h1 (by omega)]; exact hxm, hnew⟩
  have hsp := splice2 (cs := cs) (c := news.take (min ys.length (hi - lo) * K.n)) (o := off) (m := m * K.n) (u := lo * K.n) (q := min ys.length (hi - lo) * K.n) (by omega)
  rw [show (kArr m K).n = m * K.n from rfl, hsp] at hset
  by_cases h0 : lo < hi
  · rw [had h0]
    have hst := run_storeCells_at P b (off + lo * K.n) e (news.take (min ys.length (hi - lo) * K.n)) 0 (cs ++ post).toArray w hbw (by rw [hnt]; simp; omega) (fun u hu => h1c u (List.mem_of_mem_take hu))
    simp only [Nat.add_zero, hnt] at hst
    rw [splice_app (by omega)] at hst
    refine ⟨_, by simp only [Sem.run_bind, hst, Result.andThen_ok, Sem.run_pure]; rfl, ?_⟩
    exact St.setP hb hS hbw (K0.len hrd0) hset (setRow_heap w b _ _ e _ hbw) ⟨rfl, rfl, rfl, fun k hk hn => setRow_other w b k _ (fun e => by rw [e, Frag.one_at] at hn; cases hn)⟩
  · have e0 : hi - lo = 0 := by omega
    refine ⟨w, by simp [e0, storeCells], ?_⟩
    simp only [e0, Nat.min_zero, Nat.zero_mul, List.take_zero, List.append_nil, Nat.add_zero, List.take_append_drop] at hset
    exact St.setP hb hS hbw (K0.len hrd0) hset hbw ⟨rfl, rfl, rfl, fun _ _ _ => rfl⟩
/-- A source: a slice that is frozen, or a string. -/
structure Src {α : Type} (P : Program) (s : SV) (K : Kd α) (ys : List α) : Prop where
  out : ∀ {F w v}, F.on w → s.ok F v → ∃ news, SrcV P w K.n v ys.length news ∧ rdAll K F news ys ∧ (∀ u ∈ news, u.oneCell' = true)
theorem Src.sl {α : Type} {K : Kd α} {ys : List α} (h : rdOf s (kSl K) ys) : Src P s K ys := ⟨fun hon hv => SrcV.slice hon (h _ _ hv)⟩
theorem Src.str {ys : List Int} (h : rdOf s kStr ys) : Src P s (kInt .u8) ys := ⟨fun hon hv => SrcV.str (h _ _ hv)⟩
/-- copy into a part of an array that is owned. -/
theorem Under.cpB {α β : Type} {r : Res} {R : β → Res} {K0 : Kd β} {K : Kd α} {b off m : Nat} {x x' : β} {xs ys : List α} {up : List α → β} (hb : Blk1 r R b K0 x) (p : At K0 x off (kArr m K) xs up) {lo hi dCap : Nat} (h1 : lo ≤ hi) (h2 : hi ≤ m)
    {ad : Addr} (had : lo < hi → ad = ⟨b, off + lo * K.n, none⟩) {t u elem : TypeId} (hu : P.underlying t = some (.slice elem)) (hs : (P.info? elem).map (·.size) = some K.n) {D S : Operand}
    (hD : ev E D = some (.raw (.slice (some ad) (hi - lo) dCap))) (hSv : ev E S = some s) (hsrc : Src P s K ys) (hx : up (over xs lo hi ys) = x') (hd : Nat.blt d n = true)
    (k : Under F0 n ((d, .raw (.int .i64 ((min ys.length (hi - lo) : Nat) : Int))) :: E) (R x' :: L) (wpList P ops Q rest)) :
    Under F0 n E (r :: L) (wpList P ops Q (⟨some d, .call ⟨.builtin .copy, #[D, S], #[t, u]⟩, ty, pos, aft, none⟩ :: rest)) :=
  Under.exec rfl fun F a w h0 hE hS => by
    obtain ⟨news, e1, e2, e3⟩ := hsrc.out hS.on (hE.eval hSv)
    obtain ⟨w', hrun, hS'⟩ := copy_core (P := P) (ty := ty) hb p h1 h2 (dCap := dCap) had hu hs hS e1 e2 e3 (u := u)
    unfold Oper.wp
    simp only [execOp, resolve, invoke, builtin, Sem.run_bind, Sem.run_pure, Result.andThen_ok, List.map_toArray, List.map_cons, List.map_nil, hE.raw hD, hrun, Oper.upon]
    rw [hx] at hS'
    exact k F _ _ h0 (hE.put hd (by simp only [SV.ok, goInt])) hS'
/-- Owned slices: the elements lo..hi of one. -/
def subV (v : Value) (lo hi n : Nat) : Value := match v with
  | .slice a _ c => .slice (if c = lo then a else a.map (·.add (lo * n))) (hi - lo) (c - lo)
  | _ => undef
theorem blk_own {α : Type} {K : Kd α} {g cap : Nat} {e : TypeId} {xs : List α} (hc : xs.length ≤ cap) : Blk1 (.own K (.slice (some ⟨g, 0, none⟩) xs.length cap) e xs) (fun xs' => .own K (.slice (some ⟨g, 0, none⟩) xs.length cap) e xs') g (kArr xs.length K) xs := ⟨fun {F h} hh => by
  rcases hh with ⟨h9, _⟩ | ⟨g', cap', cur, h9, rfl, h3, h4, h5, h6⟩
  · cases h9
  · simp only [Value.slice.injEq, Option.some.injEq, Addr.mk.injEq, and_true, true_and] at h9
    obtain ⟨rfl, rfl⟩ := h9
    refine ⟨cur.toList.take (xs.length * K.n), cur.toList.drop (xs.length * K.n), e, by rw [List.take_append_drop], ⟨rfl, h6⟩, fun cs' x' h => ?_⟩
    have hl := h.2.len
    have hx : x'.length = xs.length := h.1
    have hle : xs.length * K.n ≤ cur.size := by rw [h5]; exact Nat.mul_le_mul_right _ h3
    refine .inr ⟨g, cap, _, by rw [hx], rfl, by rw [hx]; exact h3, h4, ?_, ?_⟩
    · simp only [List.size_toArray, List.length_append, List.length_drop, Array.length_toList, hl, hx]; omega
    · have e1 : x'.length * K.n = cs'.length := hl.symm
      rw [e1, List.take_left]; exact h.2⟩
/-- copy into a part of an owned slice. -/
theorem Under.cpO {α : Type} {K : Kd α} {v : Value} {e : TypeId} {xs ys : List α} {lo hi : Nat} (h1 : lo ≤ hi) (h2 : hi ≤ xs.length) {t u elem : TypeId} (hu : P.underlying t = some (.slice elem)) (hs : (P.info? elem).map (·.size) = some K.n) {D S : Operand}
    (hD : ev E D = some (.raw (subV v lo hi K.n))) (hSv : ev E S = some s) (hsrc : Src P s K ys) (hd : Nat.blt d n = true)
    (k : Under F0 n ((d, .raw (.int .i64 ((min ys.length (hi - lo) : Nat) : Int))) :: E) (.own K v e (over xs lo hi ys) :: L) (wpList P ops Q rest)) :
    Under F0 n E (.own K v e xs :: L) (wpList P ops Q (⟨some d, .call ⟨.builtin .copy, #[D, S], #[t, u]⟩, ty, pos, aft, none⟩ :: rest)) :=
  Under.exec rfl fun F a w h0 hE hS => by
    obtain ⟨news, e1, e2, e3⟩ := hsrc.out hS.on (hE.eval hSv)
    have hS2 := hS
    obtain ⟨f, hf, _⟩ := hS2
    have hv := hE.raw hD
    unfold Oper.wp
    rcases hf with ⟨rfl, rfl, _⟩ | ⟨g, cap, cur, rfl, _, h3, _⟩
    · simp at h2; subst h2
      have : lo = 0 := by omega
      subst this
      have hrun := run_copyG (ty := ty) (u := u) hu hs e1 (ad := none) (dLen := 0) (dCap := 0)
      have hz : (Builtin.copy_ #[t, u] ty #[.slice none 0 0, a.eval S]).run P w = .ok (goInt 0) w := by rw [hrun]; simp
      simp only [subV] at hv
      simp only [execOp, resolve, invoke, builtin, Sem.run_bind, Sem.run_pure, Result.andThen_ok, List.map_toArray, List.map_cons, List.map_nil, hv]
      simp only [if_true, Nat.sub_self]
      rw [hz]
      simp only [Result.andThen_ok, Oper.upon]
      exact k F _ _ h0 (hE.put hd (by simp [SV.ok, goInt])) (by simpa [over] using hS)
    · simp only [subV, Option.map_some, Addr.add_mid, Nat.zero_add] at hv
      have had : lo < hi → (if cap = lo then (⟨g, 0, none⟩ : Addr) else ⟨g, lo * K.n, none⟩) = ⟨g, 0 + lo * K.n, none⟩ := fun h => by
        have : cap ≠ lo := by omega
        simp [this]
      obtain ⟨w', hrun, hS'⟩ := copy_core (P := P) (ty := ty) (blk_own (K := K) (e := e) (g := g) h3) At.id h1 h2 (dCap := cap - lo) had hu hs hS e1 e2 e3 (u := u)
      have e9 : (if cap = lo then (some (⟨g, 0, none⟩ : Addr)) else some ⟨g, lo * K.n, none⟩) = some (if cap = lo then (⟨g, 0, none⟩ : Addr) else ⟨g, lo * K.n, none⟩) := by split <;> rfl
      simp only [execOp, resolve, invoke, builtin, Sem.run_bind, Sem.run_pure, Result.andThen_ok, List.map_toArray, List.map_cons, List.map_nil, hv, e9, hrun, Oper.upon]
      exact k F _ _ h0 (hE.put hd (by simp only [SV.ok, goInt])) hS'
theorem own_sub {α : Type} {K : Kd α} {v : Value} {e : TypeId} {xs : List α} {F : Fz} {h : Frag} (hh : (Res.own K v e xs).holds F h) : v = subV v 0 xs.length K.n := by
  rcases hh with ⟨rfl, rfl, _⟩ | ⟨g, cap, cur, rfl, _, h3, _⟩
  · simp [subV]
  · simp [subV, Addr.add_mid]
/-- copy into an owned slice. -/
theorem Under.cpW {α : Type} {K : Kd α} {v : Value} {e : TypeId} {xs ys : List α} {t u elem : TypeId} (hu : P.underlying t = some (.slice elem)) (hs : (P.info? elem).map (·.size) = some K.n) {D S : Operand}
    (hD : ev E D = some (.raw v)) (hSv : ev E S = some s) (hsrc : Src P s K ys) (hd : Nat.blt d n = true)
    (k : Under F0 n ((d, .raw (.int .i64 ((min ys.length (xs.length - 0) : Nat) : Int))) :: E) (.own K v e (over xs 0 xs.length ys) :: L) (wpList P ops Q rest)) :
    Under F0 n E (.own K v e xs :: L) (wpList P ops Q (⟨some d, .call ⟨.builtin .copy, #[D, S], #[t, u]⟩, ty, pos, aft, none⟩ :: rest)) := fun F a w h0 hE hS => by
  have hS2 := hS
  obtain ⟨f, hf, _⟩ := hS2
  exact Under.cpO (Nat.zero_le _) (Nat.le_refl _) hu hs (hD.trans (by rw [← own_sub hf])) hSv hsrc hd k F a w h0 hE hS
/-- Bounds of a slice expression. -/
def evO (E : List (Nat × SV)) : Option Operand → Int → Option Int
  | none, d => some d
  | some X, _ => match ev E X with
    | some (.raw (.int _ i)) => some i
    | _ => none
theorem bound_of {F : Fz} {a : Act} (hE : Env F a n E) {o : Option Operand} {dd l : Int} (h : evO E o dd = some l) : (o = none ∧ l = dd) ∨ ∃ k, o.map a.eval = some (.int k l) := by
  cases o with
  | none => exact .inl ⟨rfl, (Option.some.inj h).symm⟩
  | some X =>
    simp only [evO] at h
    split at h
    · rename_i k i he
      cases h
      exact .inr ⟨k, by simp [hE.raw he]⟩
    · cases h
theorem run_bound {k : IntKind} {i : Int} {y : Nat} {code : BoundsCode} (h0 : 0 ≤ i) (h1 : i ≤ y) (w : World) : (Instr.sliceBound (.int k i) y code).run P w = .ok i.toNat w := by
  simp [Instr.sliceBound, asIntOf, h0, h1]
theorem run_bounds {F : Fz} {a : Act} (hE : Env F a n E) {A B : Option Operand} {l h : Int} {isS : Bool} {len cap : Nat} (hA : evO E A 0 = some l) (hB : evO E B len = some h) (h0 : 0 ≤ l) (h1 : l ≤ h) (h2 : h ≤ cap) (w : World) :
    (Instr.sliceBounds isS len cap (A.map a.eval) (B.map a.eval) none).run P w = .ok (l.toNat, h.toNat, cap) w := by
  rcases bound_of hE hB with ⟨rfl, rfl⟩ | ⟨k, hk⟩ <;> rcases bound_of hE hA with ⟨rfl, rfl⟩ | ⟨q, hq⟩
  · simp [Instr.sliceBounds]
  · have h9 : l ≤ (len : Int) := h1
    simp [Instr.sliceBounds, hq, run_bound h0 h9]
  · simp [Instr.sliceBounds, hk, run_bound (by omega : 0 ≤ h) h2]
  · have h9 : l ≤ ((h.toNat : Nat) : Int) := by omega
    simp [Instr.sliceBounds, hk, hq, run_bound (by omega : 0 ≤ h) h2, run_bound h0 h9]
/-- A part of an owned slice. -/
theorem Under.slO {α : Type} {K : Kd α} {v : Value} {T e e' : TypeId} {X : Operand} {A B : Option Operand} {xs : List α} {l h : Int} (hT : P.underlying T = some (.slice e)) (hz : (P.info? e).map (·.size) = some K.n)
    (hX : ev E X = some (.raw v)) (hA : evO E A 0 = some l) (hB : evO E B xs.length = some h) (h0 : 0 ≤ l) (h1 : l ≤ h) (h2 : h ≤ (xs.length : Int)) (hd : Nat.blt d n = true)
    (k : Under F0 n ((d, .raw (subV v l.toNat h.toNat K.n)) :: E) (.own K v e' xs :: L) (wpList P ops Q rest)) : Under F0 n E (.own K v e' xs :: L) (wpList P ops Q (⟨some d, .slice T X A B none, ty, pos, aft, none⟩ :: rest)) :=
  Under.exec rfl fun F a w h0' hE hS => by
    have hS2 := hS
    obtain ⟨f, hf, _⟩ := hS2
    have hv := hE.raw hX
    have key : ∃ ad cap, v = .slice ad xs.length cap ∧ xs.length ≤ cap := by
      rcases hf with ⟨rfl, rfl, _⟩ | ⟨g, cap, cur, rfl, _, h3, _⟩
      · exact ⟨none, 0, rfl, Nat.le_refl _⟩
      · exact ⟨_, cap, rfl, h3⟩
    obtain ⟨ad, cap, rfl, h3⟩ := key
    have hb := run_bounds (P := P) hE (isS := true) hA hB h0 h1 (by omega : h ≤ (cap : Int)) w
    have hr : (Instr.sliceAt T (a.eval X) (A.map a.eval) (B.map a.eval) none).run P w = .ok (subV (.slice ad xs.length cap) l.toNat h.toNat K.n) w := by
      simp [Instr.sliceAt, Instr.slice, run_underlying hT, hv, hb, run_sizeOf' hz, subV]
    unfold Oper.wp
    simp only [execOp, Option.map_none, Sem.run_bind, hr, Result.andThen_ok, Sem.run_pure, Oper.upon]
    exact k F _ _ h0' (hE.put hd (by simp only [SV.ok])) hS
/-- A part of an array that lies at a known address. -/
theorem OpV.slP {m sz b off : Nat} {T e : TypeId} {X : Operand} {A B : Option Operand} {l h : Int} (hT : P.underlying T = some (.array m e)) (hz : (P.info? e).map (·.size) = some sz)
    (hX : ev E X = some (.raw (.pointer (some ⟨b, off, none⟩)))) (hA : evO E A 0 = some l) (hB : evO E B m = some h) (h0 : 0 ≤ l) (h1 : l ≤ h) (h2 : h ≤ (m : Int)) :
    OpV P n E L ⟨some d, .slice T X A B none, ty, pos, aft, none⟩ (.raw (.slice (some (if m = l.toNat then ⟨b, off, none⟩ else ⟨b, off + l.toNat * sz, none⟩)) (h.toNat - l.toNat) (m - l.toNat))) := OpV.rawv fun F a hE w => by
  have hb := run_bounds (P := P) hE (isS := false) hA hB h0 h1 h2 w
  simp [execOp, Instr.sliceAt, run_underlying hT, hE.raw hX, Instr.sureAddr, hb, run_sizeOf' hz, Addr.add_mid]
theorem had_of {b off m lo n : Nat} {hi : Nat} (h2 : hi ≤ m) : lo < hi → (if m = lo then (⟨b, off, none⟩ : Addr) else ⟨b, off + lo * n, none⟩) = ⟨b, off + lo * n, none⟩ := fun h => by
  have : m ≠ lo := by omega
  simp [this]
/-- The array that a slice begins with. -/
theorem OpV.s2a {α : Type} {K : Kd α} {m : Nat} {T e : TypeId} {X : Operand} {xs : List α} (hm : m ≤ xs.length) (hp : Nat.blt 0 m = true) (hT : P.underlying T = some (.array m e)) (hX : ev E X = some s) (hr : rdOf s (kSl K) xs) :
    OpV P n E L ⟨some d, .sliceToArrayPointer T X, ty, pos, aft, none⟩ (.ptr (kArr m K) (xs.take m)) := OpV.pure fun F a hE => by
  obtain ⟨cs, ⟨ad, cap, rfl, _, hcase⟩, hval⟩ := hr F _ (hE.eval hX)
  have hval : a.eval X = .slice ad xs.length cap := hval
  have hp' : 0 < m := by simpa [Nat.blt_eq] using hp
  rcases hcase with h0 | ⟨p, c, e', fr, rfl, hps, hb, hle, hrd⟩
  · omega
  · have hlt : ¬ xs.length < m := by omega
    have hmn : m * K.n ≤ xs.length * K.n := Nat.mul_le_mul_right _ hm
    have hrd2 := hrd.take m
    rw [List.take_take, Nat.min_eq_left hmn] at hrd2
    exact ⟨.pointer (some p), by simp only [SV.ok]; exact ⟨p, rfl, ⟨⟨c, e', fr, hps, hb, Nat.le_trans (Nat.add_le_add_left hmn _) hle, by simp; omega, hrd2⟩⟩⟩, fun w => by simp [execOp, Instr.arrayAt, run_underlying hT, hval, hlt]⟩
end
end Go.Sim

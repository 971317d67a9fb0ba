/- Sim7: loops, joins, regions of any order, appends. -/
import Derived.Test.YtgllljocmpbooaaSim6
set_option linter.unusedVariables false
set_option linter.unusedSimpArgs false
namespace Go.Sim
open Go
section
variable {P : Program} {ops : Array Oper} {Q : Exit → Act → World → Prop} {rest : List Oper} {F0 : Fz} {n : Nat} {E : List (Nat × SV)} {L : List Res}
variable {d : Nat} {op : Op} {ty : TypeId} {pos : String} {aft : Array Edge} {s : SV}

/-- What stands behind is proved once, for whatever comes to it. -/
theorem Under.after {x : Code} {K : Act → World → Prop} (A : (Act → World → Prop) → Prop) (hk : A K) (h : ∀ K', A K' → Under F0 n E L (x.wp P (Exit.then K' Q))) : Under F0 n E L (x.wp P (Exit.then K Q)) := h K hk
/-- The same, for what is left of a region's operations. -/
theorem Under.afterL {X : Act → World → Prop} {K : Act → World → Prop} (A : (Act → World → Prop) → Prop) (hk : A K) (h : A K → Under F0 n E L X) : Under F0 n E L X := h hk

/-- A loop, by its step function. -/
theorem Under.loop {S R C : Type} {step : S → Option (Ctl S R)} {x0 : S} {r : R} {c : Code} (c0 : C) (Es : S → C → List (Nat × SV)) (Ls : S → C → List Res) (hrun : Loop.run step x0 = some r)
    (hE : ∀ t v, look (Es x0 c0) t = some v → look E t = some v) (hL : L = Ls x0 c0)
    (round : ∀ x y o, step x = some o → (∀ q, o = .done q → q = r) → Under F0 n (Es x y) (Ls x y) (c.wp P (Exit.then (fun a w => ∃ x' y' F, o = .next x' ∧ F0 ≤ F ∧ Env F a n (Es x' y') ∧ St F w (Ls x' y')) Q))) :
    Under F0 n E L ((Code.loop c).wp P Q) := fun F a w h0 hE' hS => by
  refine wp_loop_run hrun (fun x a w => ∃ y F, F0 ≤ F ∧ Env F a n (Es x y) ∧ St F w (Ls x y)) ⟨c0, F, h0, hE'.sub hE, hL ▸ hS⟩ ?_
  intro x o a w ho hd ⟨y, F, h0, hE, hS⟩
  refine wp_mono (round x y o ho hd F a w h0 hE hS) (fun e a w q => ?_)
  cases e with
  | normal => obtain ⟨x', y', F, he, hh⟩ := q; exact ⟨x', he, y', F, hh⟩
  | _ => exact q
/-- The end of a round. -/
theorem Under.next {S R C : Type} {o : Ctl S R} {Es : S → C → List (Nat × SV)} {Ls : S → C → List Res} (x' : S) (y' : C) (ho : (some (Ctl.next x') : Option (Ctl S R)) = some o) (hE : ∀ t v, look (Es x' y') t = some v → look E t = some v) (hL : L = Ls x' y') :
    Under F0 n E L (fun a w => ∃ x' y' F, o = .next x' ∧ F0 ≤ F ∧ Env F a n (Es x' y') ∧ St F w (Ls x' y')) := fun F a w h0 hE' hS =>
  ⟨x', y', F, (Option.some.inj ho).symm, h0, hE'.sub hE, hL ▸ hS⟩
theorem done_eq {S R : Type} {o : Ctl S R} {q r : R} (ho : (some (Ctl.done q) : Option (Ctl S R)) = some o) (hd : ∀ q, o = .done q → q = r) : q = r := hd q (Option.some.inj ho).symm

theorem Under.tN {K : Act → World → Prop} (k : Under F0 n E L K) : Under F0 n E L (Exit.then K Q .normal) := k
theorem Under.tE {K : Act → World → Prop} {id : Nat} (k : Under F0 n E L (Q (.exit id))) : Under F0 n E L (Exit.then K Q (.exit id)) := k
theorem Under.tR {K : Act → World → Prop} (k : Under F0 n E L (Q .ret)) : Under F0 n E L (Exit.then K Q .ret) := k
theorem Under.bN {id : Nat} (k : Under F0 n E L (Q .normal)) : Under F0 n E L (Exit.inBlock id Q .normal) := k
theorem Under.bR {id : Nat} (k : Under F0 n E L (Q .ret)) : Under F0 n E L (Exit.inBlock id Q .ret) := k
theorem Under.bH {id : Nat} (k : Under F0 n E L (Q .normal)) : Under F0 n E L (Exit.inBlock id Q (.exit id)) := fun F a w h0 hE hS => by
  show (if id = id then Q .normal a w else Q (.exit id) a w)
  rw [if_pos rfl]; exact k F a w h0 hE hS
theorem Under.bM {id id' : Nat} (h : Nat.beq id' id = false) (k : Under F0 n E L (Q (.exit id'))) : Under F0 n E L (Exit.inBlock id Q (.exit id')) := fun F a w h0 hE hS => by
  show (if id' = id then Q .normal a w else Q (.exit id') a w)
  rw [if_neg (fun e => by subst e; simp at h)]; exact k F a w h0 hE hS
theorem Under.fo1 {r0 r1 : Res} {X : Act → World → Prop} (k : Under F0 n E (r1 :: r0 :: L) X) : Under F0 n E (r0 :: r1 :: L) X := Under.perm (List.Perm.swap _ _ _) k
theorem Under.fo2 {r0 r1 r2 : Res} {X : Act → World → Prop} (k : Under F0 n E (r2 :: r0 :: r1 :: L) X) : Under F0 n E (r0 :: r1 :: r2 :: L) X := Under.perm ((List.Perm.cons _ (List.Perm.swap _ _ _)).trans (List.Perm.swap _ _ _)) k
theorem Under.fo3 {r0 r1 r2 r3 : Res} {X : Act → World → Prop} (k : Under F0 n E (r3 :: r0 :: r1 :: r2 :: L) X) : Under F0 n E (r0 :: r1 :: r2 :: r3 :: L) X :=
  Under.perm ((List.Perm.cons _ ((List.Perm.cons _ (List.Perm.swap _ _ _)).trans (List.Perm.swap _ _ _))).trans (List.Perm.swap _ _ _)) k
theorem Under.fo4 {r0 r1 r2 r3 r4 : Res} {X : Act → World → Prop} (k : Under F0 n E (r4 :: r0 :: r1 :: r2 :: r3 :: L) X) : Under F0 n E (r0 :: r1 :: r2 :: r3 :: r4 :: L) X :=
  Under.perm ((List.Perm.cons _ ((List.Perm.cons _ ((List.Perm.cons _ (List.Perm.swap _ _ _)).trans (List.Perm.swap _ _ _))).trans (List.Perm.swap _ _ _))).trans (List.Perm.swap _ _ _)) k
theorem bsome {α β : Type} {x : Option α} {f : α → Option β} {r : β} (h : x.bind f = some r) : ∃ a, x = some a ∧ f a = some r := Option.bind_eq_some_iff.1 h
theorem gsome {c : Bool} {α : Type} {x : Option α} {r : α} (h : (bif c then x else none) = some r) : c = true ∧ x = some r := by
  cases c with
  | true => exact ⟨rfl, h⟩
  | false => cases h
theorem ctrue {c : Bool} {α : Type} {A B : Option α} {r : α} (hc : c = true) (h : (bif c then A else B) = some r) : A = some r := by subst hc; exact h
theorem cfalse {c : Bool} {α : Type} {A B : Option α} {r : α} (hc : c = false) (h : (bif c then A else B) = some r) : B = some r := by subst hc; exact h

/-- The two ways of a test. -/
theorem Under.byc {t : Nat} {c : Bool} {X : Act → World → Prop} (h : look E t = some (.raw (.bool c))) (kt : c = true → Under F0 n E L X) (kf : c = false → Under F0 n E L X) : Under F0 n E L X := by
  cases hc : c with
  | true => exact kt hc
  | false => exact kf hc
theorem Under.goc {o : Option Nat} {g : Nat} {j : Nat} {b c : Bool} (hc : c = b) (hj : ((ops[j]?).bind (·.dst)) = some g) (hb : look E g = some (.raw (.bool c))) (k : Under F0 n E L (wpList P ops Q (⟨o, op, ty, pos, aft, none⟩ :: rest))) :
    Under F0 n E L (wpList P ops Q (⟨o, op, ty, pos, aft, some (j, b)⟩ :: rest)) := by subst hc; exact Under.go hj hb k
theorem Under.skc {u g : Nat} {j : Nat} {b c : Bool} (hc : c = !b) (hj : ((ops[j]?).bind (·.dst)) = some g) (hb : look E g = some (.raw (.bool c))) (hu : Nat.blt u n = true) (k : Under F0 n ((u, .raw undef) :: E) L (wpList P ops Q rest)) :
    Under F0 n E L (wpList P ops Q (⟨some u, op, ty, pos, aft, some (j, b)⟩ :: rest)) := by subst hc; exact Under.skip hj hb hu k
theorem Under.skc0 {g : Nat} {j : Nat} {b c : Bool} (hc : c = !b) (hj : ((ops[j]?).bind (·.dst)) = some g) (hb : look E g = some (.raw (.bool c))) (k : Under F0 n E L (wpList P ops Q rest)) :
    Under F0 n E L (wpList P ops Q (⟨none, op, ty, pos, aft, some (j, b)⟩ :: rest)) := by subst hc; exact Under.skip0 hj hb k
/-- The keys of the first m entries stand nowhere behind, but where Z has them. -/
def noneB (J Z E : List (Nat × SV)) : Bool := J.all fun q => (look Z q.1).isSome || (look E q.1).isNone
theorem look_append (J E : List (Nat × SV)) (t : Nat) : look (J ++ E) t = match look J t with | some s => some s | none => look E t := by
  induction J with
  | nil => rfl
  | cons q J ih => obtain ⟨k, v⟩ := q; simp only [List.cons_append, look_cons]; split <;> simp_all
theorem noneB_spec {J Z E : List (Nat × SV)} (h : noneB J Z E = true) {t : Nat} {s : SV} (hz : look Z t = none) (hs : look E t = some s) : look J t = none := by
  induction J with
  | nil => rfl
  | cons q J ih =>
    obtain ⟨k, v⟩ := q
    simp only [noneB, List.all_cons, Bool.and_eq_true, Bool.or_eq_true] at h
    rw [look_cons]; split
    · rename_i hk; subst hk; rw [hs, hz] at h; simp at h
    · exact ih h.2
/-- What a region leaves for what stands behind it. -/
inductive SubZ (E1 : List (Nat × SV)) : List (Nat × SV) → Prop where
  | nil : SubZ E1 []
  | cons {t : Nat} {s s' : SV} {Z : List (Nat × SV)} (h : look E1 t = some s') (e : s' = s) (r : SubZ E1 Z) : SubZ E1 ((t, s) :: Z)
theorem SubZ.spec {E1 Z : List (Nat × SV)} (h : SubZ E1 Z) : ∀ t s, look Z t = some s → look E1 t = some s := by
  induction h with
  | nil => intro t s h; cases h
  | cons h e r ih => intro t s hl; rw [look_cons] at hl; split at hl
                     · rename_i hk; subst hk; cases hl; subst e; exact h
                     · exact ih t s hl
theorem fin_sub (m : Nat) {E1 Z : List (Nat × SV)} (hj : noneB (E1.take m) Z (E1.drop m) = true) (hz : SubZ E1 Z) : ∀ t v, look (Z ++ E1.drop m) t = some v → look E1 t = some v := by
  intro t v h
  rw [look_append] at h
  split at h
  · rename_i s hs; cases h; exact hz.spec t _ hs
  · rename_i hz0
    have := noneB_spec hj hz0 h
    rw [← List.take_append_drop m E1, look_append, this]; exact h
theorem Under.fin (m : Nat) {E1 Z : List (Nat × SV)} {X : Act → World → Prop} (hz : SubZ E1 Z) (hj : noneB (E1.take m) Z (E1.drop m) = true) (k : Under F0 n (Z ++ E1.drop m) L X) : Under F0 n E1 L X := Under.env (fin_sub m hj hz) k
/-- A region whose ways meet again at its end. -/
theorem Under.rj {id : Nat} {l : List Oper} (Z : List (Nat × SV)) (k : Under F0 n (Z ++ E) L (Q .normal)) (h : Under F0 n (Z ++ E) L (Q .normal) → Under F0 n E L (wpList P l.toArray Q l)) : Under F0 n E L ((Code.region id l.toArray false).wp P Q) := Under.region (h k)
/-- The top entry spelt otherwise. -/
theorem Under.top {t : Nat} {s s' : SV} {X : Act → World → Prop} (e : s' = s) (k : Under F0 n ((t, s) :: E) L X) : Under F0 n ((t, s') :: E) L X := e ▸ k
theorem or_tb {c e : Bool} (hc : c = true) : (c || e) = true := by subst hc; rfl
theorem and_fb {c e : Bool} (hc : c = false) : (c && e) = false := by subst hc; rfl
theorem Under.sku {u g : Nat} {j : Nat} {b : Bool} (hj : ((ops[j]?).bind (·.dst)) = some g) (hb : look E g = some (.raw undef)) (hu : Nat.blt u n = true) (k : Under F0 n ((u, .raw undef) :: E) L (wpList P ops Q rest)) :
    Under F0 n E L (wpList P ops Q (⟨some u, op, ty, pos, aft, some (j, b)⟩ :: rest)) := fun F a w h0 hE hS => by
  obtain ⟨v, hv, he⟩ := hE.at_ g _ hb
  simp only [SV.ok] at he; subst he
  have hy : yielded ops a.tmps j = none := by simp [yielded, hj, hv, undef]
  unfold wpList
  rw [if_neg (by simp [Region.wanted, hy])]
  exact k _ _ _ h0 (hE.put hu (by simp only [SV.ok])) hS
theorem or_t {c e : Bool} (hc : c = true) : SV.raw (.bool true) = .raw (.bool (c || e)) := by subst hc; rfl
theorem or_f {c e : Bool} (hc : c = false) : SV.raw (.bool e) = .raw (.bool (c || e)) := by subst hc; rfl
theorem and_t {c e : Bool} (hc : c = true) : SV.raw (.bool e) = .raw (.bool (c && e)) := by subst hc; rfl
theorem and_f {c e : Bool} (hc : c = false) : SV.raw (.bool false) = .raw (.bool (c && e)) := by subst hc; rfl

/-- A fact on the state is handed on. -/
theorem Under.weak {X : Act → World → Prop} {E' : List (Nat × SV)} (k : Under F0 n E' L X) (hs : ∀ t v, look E' t = some v → look E t = some v) : Under F0 n E L X := Under.env hs k
theorem Under.eqs {X : Act → World → Prop} {L' : List Res} (k : Under F0 n E L' X) (h : L = L') : Under F0 n E L X := h ▸ k

/-- The return of one temporary, its value spelt otherwise. -/
theorem Under.retE {fn : Func} {t : Nat} {s' : SV} {L' : List Res} (hr : fn.results = #[.tmp t]) (h : look E t = some s') (he : s' = s) (hL : L = L') : Under F0 n E L (bodyPost P fn (fun e w' => ∃ G v, e = .returned v ∧ F0 ≤ G ∧ St G w' L' ∧ s.ok G v) .ret) := by
  subst he; subst hL; exact Under.ret1 hr h
theorem Under.ret2 {fn : Func} {t u : Nat} {s1 s2 : SV} {L' : List Res} (hr : fn.results = #[.tmp t, .tmp u]) (h1 : look E t = some s1) (h2 : look E u = some s2) (he : SV.tup [s1, s2] = s) (hL : L = L') : Under F0 n E L (bodyPost P fn (fun e w' => ∃ G v, e = .returned v ∧ F0 ≤ G ∧ St G w' L' ∧ s.ok G v) .ret) := fun F a w h0 hE hS => by
  subst he; subst hL
  obtain ⟨v1, hv1, ho1⟩ := hE.at_ t s1 h1
  obtain ⟨v2, hv2, ho2⟩ := hE.at_ u s2 h2
  refine ⟨hE.defers, .tuple #[v1, v2], ?_, F, _, rfl, h0, hS, ?_⟩
  · rw [results_tmp2 hr]; simp [Array.getD_eq_getD_getElem?, hv1, hv2]
  · simp only [SV.ok]; exact ⟨[v1, v2], rfl, by simp only [SV.oks]; exact ⟨ho1, ho2, trivial⟩⟩

/-! ### A region of any order whose operations all are quiet -/
def UnderQ (F : Fz) (n : Nat) (E : List (Nat × SV)) (X : Act → Prop) : Prop := ∀ a, Env F a n E → X a
theorem Under.draw {id : Nat} {l : List Oper} (hm : P.follows .mixedOrders = true) (hB : Region.lexB .any l.toArray = true)
    (k : ∀ F, F0 ≤ F → UnderQ F n E (wpQuiet P l.toArray (Cl F L) (fun a => ∀ w, Cl F L w → Q .normal a w) l)) : Under F0 n E L ((Code.region id l.toArray true).wp P Q) := fun F a w h0 hE hS =>
  wp_region_quiet (C := Cl F L) hm hB ⟨F, Fz.rf F, StG.drew hS⟩ (by simpa using k F h0 a hE)
variable {F : Fz} {Qa : Act → Prop}
theorem UnderQ.ov (h : OpV P n E L ⟨some d, op, ty, pos, aft, none⟩ s) (hd : Nat.blt d n = true) (k : UnderQ F n ((d, s) :: E) (wpQuiet P ops (Cl F L) Qa rest)) :
    UnderQ F n E (wpQuiet P ops (Cl F L) Qa (⟨some d, op, ty, pos, aft, none⟩ :: rest)) := fun a hE => by
  obtain ⟨v, hv, hw⟩ := h F a hE
  unfold wpQuiet
  rw [if_pos (by simp [Region.wanted])]
  exact ⟨v, hw, k _ (hE.put hd hv)⟩
theorem UnderQ.go {o : Option Nat} {g : Nat} {j : Nat} {b : Bool} {C : World → Prop} (hj : ((ops[j]?).bind (·.dst)) = some g) (hb : look E g = some (.raw (.bool b))) (k : UnderQ F n E (wpQuiet P ops C Qa (⟨o, op, ty, pos, aft, none⟩ :: rest))) :
    UnderQ F n E (wpQuiet P ops C Qa (⟨o, op, ty, pos, aft, some (j, b)⟩ :: rest)) := fun a hE => by
  have hk := k a hE
  obtain ⟨v, hv, he⟩ := hE.at_ g _ hb
  simp only [SV.ok] at he; subst he
  have hy : yielded ops a.tmps j = some b := by simp [yielded, hj, hv]
  unfold wpQuiet at hk ⊢
  simp only [Region.wanted, if_true, hy, beq_self_eq_true] at hk ⊢
  exact hk
theorem UnderQ.skip {u g : Nat} {j : Nat} {b : Bool} {C : World → Prop} (hj : ((ops[j]?).bind (·.dst)) = some g) (hb : look E g = some (.raw (.bool (!b)))) (hu : Nat.blt u n = true) (k : UnderQ F n ((u, .raw undef) :: E) (wpQuiet P ops C Qa rest)) :
    UnderQ F n E (wpQuiet P ops C Qa (⟨some u, op, ty, pos, aft, some (j, b)⟩ :: rest)) := fun a hE => by
  obtain ⟨v, hv, he⟩ := hE.at_ g _ hb
  simp only [SV.ok] at he; subst he
  have hy : yielded ops a.tmps j = some (!b) := by simp [yielded, hj, hv]
  unfold wpQuiet
  rw [if_neg (by simp [Region.wanted, hy])]
  exact k _ (hE.put hu (by simp only [SV.ok]))
theorem UnderQ.nil {C : World → Prop} (h0 : F0 ≤ F) (k : Under F0 n E L (Q .normal)) : UnderQ F n E (wpQuiet P ops C (fun a => ∀ w, Cl F L w → Q .normal a w) []) := fun a hE w ⟨G, hg, hS⟩ => k G a w (Fz.tr h0 hg) (hE.mono hg) hS
theorem UnderQ.top {t : Nat} {s s' : SV} {X : Act → Prop} (e : s' = s) (k : UnderQ F n ((t, s) :: E) X) : UnderQ F n ((t, s') :: E) X := e ▸ k
theorem UnderQ.byc {t : Nat} {c : Bool} {X : Act → Prop} (h : look E t = some (.raw (.bool c))) (kt : c = true → UnderQ F n E X) (kf : c = false → UnderQ F n E X) : UnderQ F n E X := by
  cases hc : c with
  | true => exact kt hc
  | false => exact kf hc
theorem UnderQ.goc {o : Option Nat} {g : Nat} {j : Nat} {b c : Bool} {C : World → Prop} (hc : c = b) (hj : ((ops[j]?).bind (·.dst)) = some g) (hb : look E g = some (.raw (.bool c))) (k : UnderQ F n E (wpQuiet P ops C Qa (⟨o, op, ty, pos, aft, none⟩ :: rest))) :
    UnderQ F n E (wpQuiet P ops C Qa (⟨o, op, ty, pos, aft, some (j, b)⟩ :: rest)) := by subst hc; exact UnderQ.go hj hb k
theorem UnderQ.skc {u g : Nat} {j : Nat} {b c : Bool} {C : World → Prop} (hc : c = !b) (hj : ((ops[j]?).bind (·.dst)) = some g) (hb : look E g = some (.raw (.bool c))) (hu : Nat.blt u n = true) (k : UnderQ F n ((u, .raw undef) :: E) (wpQuiet P ops C Qa rest)) :
    UnderQ F n E (wpQuiet P ops C Qa (⟨some u, op, ty, pos, aft, some (j, b)⟩ :: rest)) := by subst hc; exact UnderQ.skip hj hb hu k
theorem UnderQ.sku {u g : Nat} {j : Nat} {b : Bool} {C : World → Prop} (hj : ((ops[j]?).bind (·.dst)) = some g) (hb : look E g = some (.raw undef)) (hu : Nat.blt u n = true) (k : UnderQ F n ((u, .raw undef) :: E) (wpQuiet P ops C Qa rest)) :
    UnderQ F n E (wpQuiet P ops C Qa (⟨some u, op, ty, pos, aft, some (j, b)⟩ :: rest)) := fun a hE => by
  obtain ⟨v, hv, he⟩ := hE.at_ g _ hb
  simp only [SV.ok] at he; subst he
  have hy : yielded ops a.tmps j = none := by simp [yielded, hj, hv, undef]
  unfold wpQuiet
  rw [if_neg (by simp [Region.wanted, hy])]
  exact k _ (hE.put hu (by simp only [SV.ok]))
theorem UnderQ.fin (m : Nat) {E1 Z : List (Nat × SV)} {C : World → Prop} (h0 : F0 ≤ F) (hz : SubZ E1 Z) (hj : noneB (E1.take m) Z (E1.drop m) = true) (k : Under F0 n (Z ++ E1.drop m) L (Q .normal)) : UnderQ F n E1 (wpQuiet P ops C (fun a => ∀ w, Cl F L w → Q .normal a w) []) :=
  UnderQ.nil h0 (Under.fin m hz hj k)
theorem Under.drawj {id : Nat} {l : List Oper} (Z : List (Nat × SV)) (hm : P.follows .mixedOrders = true) (hB : Region.lexB .any l.toArray = true) (kk : Under F0 n (Z ++ E) L (Q .normal))
    (k : Under F0 n (Z ++ E) L (Q .normal) → ∀ F, F0 ≤ F → UnderQ F n E (wpQuiet P l.toArray (Cl F L) (fun a => ∀ w, Cl F L w → Q .normal a w) l)) : Under F0 n E L ((Code.region id l.toArray true).wp P Q) := Under.draw hm hB (k kk)
theorem UnderQ.split {X : Act → Prop} {t : Nat} {c : Bool} (h : look E t = some (.raw (.bool c))) (kt : c = true → UnderQ F n ((t, .raw (.bool true)) :: E) X) (kf : c = false → UnderQ F n ((t, .raw (.bool false)) :: E) X) : UnderQ F n E X := by
  cases c with
  | true => exact fun a hE => kt rfl a (hE.sub (sub_cons h (fun _ _ e => e)))
  | false => exact fun a hE => kf rfl a (hE.sub (sub_cons h (fun _ _ e => e)))

/-! ### Appends to a slice of the call's own -/
/-- A nil slice is owned by everybody. -/
theorem Under.ownNil {α : Type} {K : Kd α} {e : TypeId} {X : Act → World → Prop} (k : Under F0 n E (.own K (.slice none 0 0) e [] :: L) X) : Under F0 n E L X := fun F a w h0 hE hS => by
  refine k F a w h0 hE ⟨Frag.emp, .inl ⟨rfl, rfl, rfl⟩, fun b hb => absurd rfl hb, ?_⟩
  rw [Fz.add_emp]; exact hS
/-- A slice of the call's own is frozen. -/
theorem Under.frzO {α : Type} {K : Kd α} {v : Value} {e : TypeId} {xs : List α} {t : Nat} {X : Act → World → Prop} (ht : look E t = some (.raw v)) (k : Under F0 n ((t, .val (kSl K) xs) :: E) L X) : Under F0 n E (.own K v e xs :: L) X := fun F a w h0 hE hS => by
  obtain ⟨h, hh, hap, hle, hS'⟩ := hS.freeze
  refine k _ a w (Fz.tr h0 hle) ⟨hE.defers, hE.size, fun u r hl => ?_⟩ hS'
  rw [look_cons] at hl; split at hl
  · rename_i hk; subst hk; cases hl
    obtain ⟨v', h1, h2⟩ := hE.at_ t _ ht
    simp only [SV.ok] at h2; subst h2
    refine ⟨_, h1, ?_⟩
    simp only [SV.ok]
    rcases hh with ⟨rfl, rfl, _⟩ | ⟨g, cap, cur, rfl, rfl, h3, h4, h5, h6⟩
    · exact ⟨[.slice none 0 0], ⟨none, 0, rfl, Nat.le_refl _, .inl rfl⟩, rfl⟩
    · refine ⟨[.slice (some ⟨g, 0, none⟩) xs.length cap], ⟨_, cap, rfl, h3, .inr ⟨⟨g, 0, none⟩, cur, e, (0, 0), rfl, rfl, ?_, ?_, by simpa using h6⟩⟩, rfl⟩
      · have hg : F.blk g = none := hap g (by rw [Frag.one_at]; simp)
        simp only [Fz.add, hg]; exact Frag.one_at _ _
      · have : xs.length * K.n ≤ cap * K.n := Nat.mul_le_mul_right _ h3
        simp only; omega
  · exact (hE.mono hle).at_ u r hl

/-- An element type of the program: its kind, its zero, its bytes. -/
structure AT {α : Type} (P : Program) (e : TypeId) (K : Kd α) (z : α) (bytes : Nat) : Prop where
  out : ∃ ie zv, P.info? e = some ie ∧ ie.zero = some zv ∧ ie.size = K.n ∧ ie.bytes = bytes ∧ 0 < K.n ∧ bytes ≤ 4096 ∧ ∀ F, K.rd F zv.cells.toList z

/-- The bound on what grows: far below what any memory bears, far above what the statements reach. -/
def room : Nat := 17179869184
def app {α : Type} (xs ys : List α) : Option (List α) := if xs.length + ys.length ≤ room then some (xs ++ ys) else none
theorem app_some {α : Type} {xs ys zs : List α} (h : app xs ys = some zs) : xs.length + ys.length ≤ room ∧ zs = xs ++ ys := by
  unfold app at h; split at h
  · exact ⟨‹_›, (Option.some.inj h).symm⟩
  · cases h

/-- What append does to a row that is owned. -/
theorem own_append {α : Type} {K : Kd α} {z : α} {bytes : Nat} {t e : TypeId} {v : Value} {xs ys : List α} {F : Fz} {h : Frag} {w : World} (hroom : xs.length + ys.length ≤ room) (hT : P.underlying t = some (.slice e)) (he : AT P e K z bytes)
    (hh : (Res.own K v e xs).holds F h) (hon : ∀ b o, h b = some o → w.heap[b]? = some o) {ad : Option Addr} {cap2 : Nat} {news : List Value} (hnl : news.length = ys.length * K.n) (hnr : rdAll K F news ys) (hn1 : ∀ u ∈ news, u.oneCell' = true)
    (hnone : ad = none → ys.length = 0) (hnc : ∀ p, ad = some p → ∀ j u, news[j]? = some u → w.cell? (p.add j) = some u) :
    ∃ v' w' h', (Builtin.append_ #[t, t] ty #[v, .slice ad ys.length cap2]).run P w = .ok v' w' ∧ (Res.own K v' e (xs ++ ys)).holds F h' ∧ Chg w w' h ∧ (∀ b, h' b ≠ none → h b ≠ none ∨ w.heap.size ≤ b) ∧ (∀ b o, h' b = some o → w'.heap[b]? = some o) := by
  obtain ⟨ie, zv, h1, h2, h3, h4, h5, h6, h7⟩ := he.out
  have hzs : zv.cells.size = K.n := by have := K.len (h7 F); simpa using this
  have hbytes : (xs.length + ys.length) * ie.bytes ≤ 140737488355328 := by
    have : (xs.length + ys.length) * ie.bytes ≤ room * 4096 := Nat.mul_le_mul hroom (by omega)
    unfold room at this; omega
  have hmax : xs.length + ys.length ≤ maxLen := by unfold room at hroom; simp only [maxLen]; omega
  have hsmall : xs.length + ys.length ≤ 9223372036854775807 := by simp only [maxLen] at hmax; omega
  have hlen : (xs ++ ys).length = xs.length + ys.length := by simp
  -- nothing is appended
  by_cases hy : ys.length = 0
  · have : ys = [] := List.eq_nil_of_length_eq_zero hy
    subst this
    have hn : news = [] := List.eq_nil_of_length_eq_zero (by simpa using hnl)
    subst hn
    refine ⟨v, w, h, ?_, by simpa using hh, ⟨rfl, rfl, rfl, fun _ _ _ => rfl⟩, fun b hb => .inl hb, hon⟩
    rcases hh with ⟨rfl, rfl, _⟩ | ⟨g, cap, cur, rfl, _, h8, _⟩
    · cases ad <;> simp [Builtin.append_, run_underlying hT, sizeOf, typeInfo, h1, Builtin.lenOf, Builtin.firstCells, loadCells, loadCellsFrom]
    · cases ad <;> simp [Builtin.append_, run_underlying hT, sizeOf, typeInfo, h1, Builtin.lenOf, Builtin.firstCells, loadCells, loadCellsFrom, h8, storeCells]
  · obtain ⟨p, rfl⟩ : ∃ p, ad = some p := by
      cases ad with
      | none => exact absurd (hnone rfl) hy
      | some p => exact ⟨p, rfl⟩
    have hnews := hnc p rfl
    -- a new row
    have fresh : ∀ (old : Nat) (olds : List Value), rdAll K F olds xs → old < xs.length + ys.length →
        (Res.own K (.slice (some ⟨w.heap.size, 0, none⟩) (xs.length + ys.length) (grownCap w (xs.length + ys.length) old e)) e (xs ++ ys)).holds F
          (Frag.one w.heap.size (.cells (olds.toArray ++ news.toArray ++ Builtin.zeroCells zv.cells (grownCap w (xs.length + ys.length) old e - (xs.length + ys.length))) e (0, 0))) := by
      intro old olds ho hlt
      have hge := grownCap_ge w (xs.length + ys.length) old e
      have hcm : grownCap w (xs.length + ys.length) old e ≤ maxLen := grownCap_le_maxLen w (xs.length + ys.length) old e hmax
      have hol := ho.len
      refine .inr ⟨w.heap.size, _, _, by rw [hlen], rfl, by rw [hlen]; exact hge, hcm, ?_, ?_⟩
      · simp only [Array.size_append, List.size_toArray, size_zeroCells, hzs, hol, hnl, ← Nat.add_mul]
        congr 1; omega
      · rw [hlen]
        simp only [Array.toList_append]
        have e1 : (olds ++ news).length = (xs.length + ys.length) * K.n := by rw [List.length_append, hol, hnl, Nat.add_mul]
        rw [← e1, List.take_left]; exact ho.append hnr
    have alloc : ∀ (cells : Array Value), Chg w (w.drew.alloc (.cells cells e)) h ∧ (∀ b, Frag.one w.heap.size (.cells cells e (0, 0)) b ≠ none → h b ≠ none ∨ w.heap.size ≤ b) ∧
        (∀ b o, Frag.one w.heap.size (.cells cells e (0, 0)) b = some o → (w.drew.alloc (.cells cells e)).heap[b]? = some o) := by
      intro cells
      obtain ⟨a1, a2⟩ := one_new w (.cells cells e)
      exact ⟨⟨rfl, rfl, rfl, fun b hb _ => Go.RowKit.Below.heap_alloc w _ b hb⟩, fun b hb => .inr (a1 b hb), a2⟩
    rcases hh with ⟨rfl, rfl, rfl⟩ | ⟨g, cap, cur, rfl, rfl, a3, a4, a5, a6⟩
    · have hr := run_append_nil (P := P) w t ty e ie zv hT h1 h2 p ys.length cap2 news (by rw [h3]; exact hnl) hnews (by omega) (by simp only [List.length_nil] at hmax; omega) (by have hb := hbytes; simp only [List.length_nil, Nat.zero_add] at hb; omega)
      have hf := fresh 0 [] rfl (by simp; omega)
      simp only [List.length_nil, Nat.zero_add, Array.empty_append, List.nil_append] at hf ⊢
      exact ⟨_, _, _, hr, hf, alloc _⟩
    · have hg := hon g _ (Frag.one_at _ _)
      by_cases hr : xs.length + ys.length ≤ cap
      · have hfit : xs.length * ie.size + news.length ≤ cur.size := by rw [hnl, h3, a5, ← Nat.add_mul]; exact Nat.mul_le_mul_right _ hr
        have hrun := run_append_room (P := P) w t ty e ie hT h1 g xs.length cap cur hg p ys.length cap2 news (by rw [h3]; exact hnl) hnews hn1 hr hfit
        refine ⟨_, _, Frag.one g (.cells (cur.toList.take (xs.length * ie.size) ++ news ++ cur.toList.drop (xs.length * ie.size + news.length)).toArray e (0, 0)), hrun, .inr ⟨g, cap, _, by rw [hlen], rfl, by rw [hlen]; exact hr, a4, ?_, ?_⟩,
          ⟨rfl, rfl, rfl, fun k _ hn => setRow_other w g k _ (fun e => by rw [e, Frag.one_at] at hn; cases hn)⟩, fun b hb => .inl ?_, fun b o e' => ?_⟩
        · simp only [List.size_toArray, List.length_append, List.length_take, List.length_drop, Array.length_toList]
          omega
        · rw [hlen]
          have e1 : (cur.toList.take (xs.length * ie.size) ++ news).length = (xs.length + ys.length) * K.n := by
            rw [List.length_append, List.length_take, hnl, h3, Nat.add_mul]
            have : xs.length * K.n ≤ cur.toList.length := by simp only [Array.length_toList, a5]; exact Nat.mul_le_mul_right _ a3
            omega
          rw [← e1, List.take_left, h3]; exact a6.append hnr
        · by_cases hbg : b = g
          · subst hbg; rw [Frag.one_at]; simp
          · exact absurd (Frag.one_ne _ hbg) hb
        · obtain ⟨rfl, rfl⟩ := Frag.one_some e'; exact setRow_heap w b cur _ e _ hg
      · have holds : ∀ j u, (cur.toList.take (xs.length * K.n))[j]? = some u → w.cell? ((⟨g, 0, none⟩ : Addr).add j) = some u := fun j u hu => by
          have hj : j < xs.length * K.n := by have := (List.getElem?_eq_some_iff.1 hu).1; rw [a6.len] at this; exact this
          rw [Addr.add_mid, Nat.zero_add, cell_of_row w g j cur e (0, 0) hg]
          rw [List.getElem?_take_of_lt hj] at hu; simpa using hu
        have hrun := run_append_grow (P := P) w t ty e ie zv hT h1 h2 ⟨g, 0, none⟩ xs.length cap (cur.toList.take (xs.length * K.n)) (by rw [h3]; exact a6.len) holds p ys.length cap2 news (by rw [h3]; exact hnl) hnews (by omega) (by omega) (growslice_fits (by omega) hbytes)
        have hf := fresh cap _ a6 (by omega)
        exact ⟨_, _, _, hrun, hf, alloc _⟩

/-- append to a slice of the call's own. -/
theorem Under.app {α : Type} {K : Kd α} {z : α} {bytes : Nat} {t e : TypeId} {S V : Operand} {v : Value} {xs ys zs : List α} (hz : app xs ys = some zs) (hT : P.underlying t = some (.slice e)) (he : AT P e K z bytes)
    (hS : ev E S = some (.raw v)) (hV : ev E V = some s) (hr : rdOf s (kSl K) ys) (hd : Nat.blt d n = true)
    (k : ∀ v', Under F0 n ((d, .raw v') :: E) (.own K v' e zs :: L) (wpList P ops Q rest)) :
    Under F0 n E (.own K v e xs :: L) (wpList P ops Q (⟨some d, .call ⟨.builtin .append, #[S, V], #[t, t]⟩, ty, pos, aft, none⟩ :: rest)) :=
  Under.exec rfl fun F a w h0 hE hSt => by
    obtain ⟨hroom, rfl⟩ := app_some hz
    have hsl := hr F _ (hE.eval hV)
    obtain ⟨cs, ⟨ad, cap2, rfl, _, hcase⟩, hval⟩ := hsl
    have hval : a.eval V = .slice ad ys.length cap2 := hval
    obtain ⟨news, hnl, hnr, hn1, hnone, hnc⟩ : ∃ news : List Value, news.length = ys.length * K.n ∧ rdAll K F news ys ∧ (∀ u ∈ news, u.oneCell' = true) ∧ (ad = none → ys.length = 0) ∧ (∀ p, ad = some p → ∀ j u, news[j]? = some u → w.cell? (p.add j) = some u) := by
      rcases hcase with h0 | ⟨p, c, e', fr, rfl, hp, hb, hle, hrd⟩
      · have : ys = [] := List.eq_nil_of_length_eq_zero h0
        subst this
        exact ⟨[], by simp, rfl, by simp, fun _ => rfl, fun p _ j u hu => by simp at hu⟩
      · refine ⟨_, hrd.len, hrd, hrd.one, fun h => (by cases h), fun q hq j u hu => ?_⟩
        cases hq
        have hj : j < ys.length * K.n := by have := (List.getElem?_eq_some_iff.1 hu).1; rw [hrd.len] at this; exact this
        have hbw := hSt.on.blk _ _ hb
        obtain ⟨pb, po, ps⟩ := p
        simp only at hp hb hle hbw; subst hp
        rw [Addr.add_mid, cell_of_row w pb (po + j) c e' fr hbw]
        rw [List.getElem?_take_of_lt hj, List.getElem?_drop] at hu
        simpa using hu
    obtain ⟨f0, hh, hap, hs'⟩ := hSt
    have hon : ∀ b o, f0 b = some o → w.heap[b]? = some o := fun b o e => hs'.on.blk b o (by
      have := hap b (by simp [e]); simp [Fz.add, this, e])
    obtain ⟨v', w', h', r1, r2, r3, r4, r5⟩ := own_append (P := P) (ty := ty) hroom hT he hh hon hnl hnr hn1 hnone hnc (cap2 := cap2)
    have hS' : St F w' (.own K v' e (xs ++ ys) :: L) := by
      refine ⟨h', r2, fun b hb => ?_, hs'.change hap r3 r4 r5⟩
      rcases r4 b hb with x | x
      · exact hap b x
      · cases e : F.blk b with
        | none => rfl
        | some o => have := lt_of_heap (hs'.on.blk b o ((F.le_add f0).blk b o e)); omega
    unfold Oper.wp
    simp only [execOp, resolve, invoke, builtin, Sem.run_bind, Sem.run_pure, Result.andThen_ok, List.map_toArray, List.map_cons, List.map_nil, hE.raw hS, hval, r1, Oper.upon]
    exact k v' F _ _ h0 (hE.put hd (by simp only [SV.ok])) hS'
end
end Go.Sim

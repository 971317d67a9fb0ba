/- Sim23: append from whatever source; calls that hand ownership on; returns; runs. -/
import Derived.Test.YtgllljocmpbooaaSim22
set_option linter.unusedVariables false
set_option linter.unusedSimpArgs false
namespace Go.Sim
open Go

section
variable {P : Program} {ops : Array Oper} {Q : Exit → Act → World → Prop} {rest : List Oper} {F0 : Fz} {n : Nat} {E : List (Nat × SV)} {L : List Res}
variable {d : Nat} {op : Op} {ty : TypeId} {pos : String} {aft : Array Edge} {s : SV}

/-- Whether append's second operand is of such a type. -/
def srcT (P : Program) (u : TypeId) : Bool := match P.underlying u with
  | some (.slice _) | some .string => true
  | _ => false
theorem srcT_of {u : TypeId} (h : srcT P u = true) : (∃ e, P.underlying u = some (.slice e)) ∨ P.underlying u = some .string := by
  unfold srcT at h
  split at h
  · rename_i e he; exact .inl ⟨_, he⟩
  · rename_i he; exact .inr he
  · cases h
theorem appG_none {t u e : TypeId} {i : TypeInfo} {z : Value} (ht : P.underlying t = some (.slice e)) (hu : srcT P u = true) (hi : P.info? e = some i) (hz : i.zero = some z) {w : World} {v : Value} {m : Nat} {news : List Value} (hv : SrcV P w i.size v m news)
    (h0 : 0 < m) (h63 : (m : Int) ≤ 9223372036854775807) (h48 : m * i.bytes ≤ 281474976710656) :
    (Builtin.append_ #[t, u] ty #[.slice none 0 0, v]).run P w = .ok (.slice (some ⟨w.heap.size, 0, none⟩) m (grownCap w m 0 e)) (w.drew.alloc (.cells (news.toArray ++ Builtin.zeroCells z.cells (grownCap w m 0 e - m)) e)) := by
  have hn : m ≠ 0 := by omega
  have h63' : ¬ (9223372036854775807 < (m : Int)) := by omega
  have h48' : ¬ (281474976710656 < Builtin.nextslicecap m 0 * i.bytes) := by rw [nextslicecap_zero h0]; omega
  have hf := hv.cells w.drew rfl m (Nat.le_refl _)
  rw [← hv.nl, List.take_length] at hf
  have hlen := hv.len w
  rcases srcT_of hu with ⟨e', hu⟩ | hu <;> simp [Builtin.append_, run_underlying ht, run_underlying hu, sizeOf, typeInfo, zeroValue, hi, hz, hlen, hn, h63', h48', Question.forced, run_firstCells_none, hf, newRow, grownCap]
theorem appG_room {t u e : TypeId} {i : TypeInfo} (ht : P.underlying t = some (.slice e)) (hu : srcT P u = true) (hi : P.info? e = some i) {g sLen sCap : Nat} {cur : Array Value} {w : World} (hg : w.heap[g]? = some (.cells cur e (0, 0))) {v : Value} {m : Nat} {news : List Value} (hv : SrcV P w i.size v m news)
    (h1 : ∀ u ∈ news, u.oneCell' = true) (hr : sLen + m ≤ sCap) (hfit : sLen * i.size + news.length ≤ cur.size) :
    (Builtin.append_ #[t, u] ty #[.slice (some ⟨g, 0, none⟩) sLen sCap, v]).run P w = .ok (.slice (some ⟨g, 0, none⟩) (sLen + m) sCap) (w.setRow g (cur.toList.take (sLen * i.size) ++ news ++ cur.toList.drop (sLen * i.size + news.length)).toArray) := by
  have hf := hv.cells w rfl m (Nat.le_refl _)
  rw [← hv.nl, List.take_length] at hf
  have hlen := hv.len w
  have hst := run_storeCells_at P g (sLen * i.size) e news 0 cur w hg (by simpa using hfit) h1
  simp only [Nat.add_zero] at hst
  have hadd : (⟨g, 0, none⟩ : Addr).add (sLen * i.size) = ⟨g, sLen * i.size, none⟩ := by rw [Addr.add_mid, Nat.zero_add]
  rcases srcT_of hu with ⟨e', hu⟩ | hu <;> simp [Builtin.append_, run_underlying ht, run_underlying hu, sizeOf, typeInfo, hi, hlen, hr, hf, hadd, hst]
theorem appG_grow {t u e : TypeId} {i : TypeInfo} {z : Value} (ht : P.underlying t = some (.slice e)) (hu : srcT P u = true) (hi : P.info? e = some i) (hz : i.zero = some z) {w : World} {b : Addr} {sLen sCap : Nat} {olds : List Value} (hlo : olds.length = sLen * i.size)
    (holds : ∀ j v, olds[j]? = some v → w.cell? (b.add j) = some v) {v : Value} {m : Nat} {news : List Value} (hv : SrcV P w i.size v m news)
    (hg : sCap < sLen + m) (h63 : ((sLen + m : Nat) : Int) ≤ 9223372036854775807) (hfit : Builtin.nextslicecap (sLen + m) sCap * i.bytes ≤ 281474976710656) :
    (Builtin.append_ #[t, u] ty #[.slice (some b) sLen sCap, v]).run P w = .ok (.slice (some ⟨w.heap.size, 0, none⟩) (sLen + m) (grownCap w (sLen + m) sCap e))
      (w.drew.alloc (.cells (olds.toArray ++ news.toArray ++ Builtin.zeroCells z.cells (grownCap w (sLen + m) sCap e - (sLen + m))) e)) := by
  have hn : ¬ (sLen + m ≤ sCap) := by omega
  have h63' : ¬ (9223372036854775807 < ((sLen : Int) + (m : Int))) := by omega
  have h48' : ¬ (281474976710656 < Builtin.nextslicecap (sLen + m) sCap * i.bytes) := by omega
  have hf := hv.cells w.drew rfl m (Nat.le_refl _)
  rw [← hv.nl, List.take_length] at hf
  have hlen := hv.len w
  have hfo := run_firstCells_some (P := P) w.drew i.size sLen b sLen sCap olds hlo (by simpa using holds)
  rcases srcT_of hu with ⟨e', hu⟩ | hu <;>
    (simp [Builtin.append_, run_underlying ht, run_underlying hu, sizeOf, typeInfo, zeroValue, hi, hz, hlen, hn, h63', h48', Question.forced, hf, hfo, newRow, grownCap]
     congr 2
     apply Array.ext'
     simp [List.append_assoc])
/-- What append does to a row that is owned. -/
theorem own_appendG {α : Type} {K : Kd α} {z : α} {bytes : Nat} {t u e : TypeId} {v : Value} {xs ys : List α} {F : Fz} {h : Frag} {w : World} (hroom : xs.length + ys.length ≤ room) (hT : P.underlying t = some (.slice e)) (hu : srcT P u = true) (he : AT P e K z bytes)
    (hh : (Res.own K v e xs).holds F h) (hon : ∀ b o, h b = some o → w.heap[b]? = some o) {src : Value} {news : List Value} (hv : SrcV P w K.n src ys.length news) (hnr : rdAll K F news ys) (hn1 : ∀ u ∈ news, u.oneCell' = true) :
    ∃ v' w' h', (Builtin.append_ #[t, u] ty #[v, src]).run P w = .ok v' w' ∧ (Res.own K v' e (xs ++ ys)).holds F h' ∧ Chg w w' h ∧ (∀ b, h' b ≠ none → h b ≠ none ∨ w.heap.size ≤ b) ∧ (∀ b o, h' b = some o → w'.heap[b]? = some o) := by
  obtain ⟨ie, zv, h1, h2, h3, h4, h5, h6, h7⟩ := he.out
  have hzs : zv.cells.size = K.n := by have := K.len (h7 F); simpa using this
  have hbytes : (xs.length + ys.length) * ie.bytes ≤ 140737488355328 := by
    have : (xs.length + ys.length) * ie.bytes ≤ room * 4096 := Nat.mul_le_mul hroom (by omega)
    unfold room at this; omega
  have hmax : xs.length + ys.length ≤ maxLen := by unfold room at hroom; simp only [maxLen]; omega
  have hsmall : xs.length + ys.length ≤ 9223372036854775807 := by simp only [maxLen] at hmax; omega
  have hlen : (xs ++ ys).length = xs.length + ys.length := by simp
  have hnl : news.length = ys.length * K.n := hv.nl
  rw [← h3] at hv
  by_cases hy : ys.length = 0
  · have : ys = [] := List.eq_nil_of_length_eq_zero hy
    subst this
    have hl0 := hv.len w
    have hc0 := hv.cells w rfl 0 (Nat.le_refl _)
    simp only [Nat.zero_mul, List.take_zero] at hc0
    simp only [List.length_nil] at hl0
    refine ⟨v, w, h, ?_, by simpa using hh, ⟨rfl, rfl, rfl, fun _ _ _ => rfl⟩, fun b hb => .inl hb, hon⟩
    rcases hh with ⟨rfl, rfl, _⟩ | ⟨g, cap, cur, rfl, _, h8, _⟩
    · rcases srcT_of hu with ⟨e', hud⟩ | hud <;> simp [Builtin.append_, run_underlying hT, run_underlying hud, sizeOf, typeInfo, h1, hl0, hc0]
    · rcases srcT_of hu with ⟨e', hud⟩ | hud <;> simp [Builtin.append_, run_underlying hT, run_underlying hud, sizeOf, typeInfo, h1, hl0, hc0, h8, storeCells]
  · have fresh : ∀ (old : Nat) (olds : List Value), rdAll K F olds xs → old < xs.length + ys.length →
        (Res.own K (.slice (some ⟨w.heap.size, 0, none⟩) (xs.length + ys.length) (grownCap w (xs.length + ys.length) old e)) e (xs ++ ys)).holds F
          (Frag.one w.heap.size (.cells (olds.toArray ++ news.toArray ++ Builtin.zeroCells zv.cells (grownCap w (xs.length + ys.length) old e - (xs.length + ys.length))) e (0, 0))) := by
      intro old olds ho hlt
      have hge := grownCap_ge w (xs.length + ys.length) old e
      have hcm : grownCap w (xs.length + ys.length) old e ≤ maxLen := grownCap_le_maxLen w (xs.length + ys.length) old e hmax
      have hol := ho.len
      refine .inr ⟨w.heap.size, _, _, by rw [hlen], rfl, by rw [hlen]; exact hge, hcm, ?_, ?_⟩
      · simp only [Array.size_append, List.size_toArray, size_zeroCells, hzs, hol, hnl, ← Nat.add_mul]
        congr 1; omega
      · rw [hlen]
        simp only [Array.toList_append]
        have e1 : (olds ++ news).length = (xs.length + ys.length) * K.n := by rw [List.length_append, hol, hnl, Nat.add_mul]
        rw [← e1, List.take_left]; exact ho.append hnr
    have alloc : ∀ (cells : Array Value), Chg w (w.drew.alloc (.cells cells e)) h ∧ (∀ b, Frag.one w.heap.size (.cells cells e (0, 0)) b ≠ none → h b ≠ none ∨ w.heap.size ≤ b) ∧
        (∀ b o, Frag.one w.heap.size (.cells cells e (0, 0)) b = some o → (w.drew.alloc (.cells cells e)).heap[b]? = some o) := by
      intro cells
      obtain ⟨a1, a2⟩ := one_new w (.cells cells e)
      exact ⟨⟨rfl, rfl, rfl, fun b hb _ => Go.RowKit.Below.heap_alloc w _ b hb⟩, fun b hb => .inr (a1 b hb), a2⟩
    rcases hh with ⟨rfl, rfl, rfl⟩ | ⟨g, cap, cur, rfl, rfl, a3, a4, a5, a6⟩
    · have hr := appG_none (ty := ty) hT hu h1 h2 hv (by omega) (by simp only [List.length_nil] at hmax; omega) (by have hb := hbytes; simp only [List.length_nil, Nat.zero_add] at hb; omega)
      have hf := fresh 0 [] rfl (by simp; omega)
      simp only [List.length_nil, Nat.zero_add, Array.empty_append, List.nil_append] at hf ⊢
      exact ⟨_, _, _, hr, hf, alloc _⟩
    · have hg := hon g _ (Frag.one_at _ _)
      by_cases hr : xs.length + ys.length ≤ cap
      · have hfit : xs.length * ie.size + news.length ≤ cur.size := by rw [hnl, h3, a5, ← Nat.add_mul]; exact Nat.mul_le_mul_right _ hr
        have hrun := appG_room (ty := ty) hT hu h1 hg hv hn1 hr hfit
        refine ⟨_, _, Frag.one g (.cells (cur.toList.take (xs.length * ie.size) ++ news ++ cur.toList.drop (xs.length * ie.size + news.length)).toArray e (0, 0)), hrun, .inr ⟨g, cap, _, by rw [hlen], rfl, by rw [hlen]; exact hr, a4, ?_, ?_⟩,
          ⟨rfl, rfl, rfl, fun k _ hn => setRow_other w g k _ (fun e => by rw [e, Frag.one_at] at hn; cases hn)⟩, fun b hb => .inl ?_, fun b o e' => ?_⟩
        · simp only [List.size_toArray, List.length_append, List.length_take, List.length_drop, Array.length_toList]
          omega
        · rw [hlen]
          have e1 : (cur.toList.take (xs.length * ie.size) ++ news).length = (xs.length + ys.length) * K.n := by
            rw [List.length_append, List.length_take, hnl, h3, Nat.add_mul]
            have : xs.length * K.n ≤ cur.toList.length := by simp only [Array.length_toList, a5]; exact Nat.mul_le_mul_right _ a3
            omega
          rw [← e1, List.take_left, h3]; exact a6.append hnr
        · by_cases hbg : b = g
          · subst hbg; rw [Frag.one_at]; simp
          · exact absurd (Frag.one_ne _ hbg) hb
        · obtain ⟨rfl, rfl⟩ := Frag.one_some e'; exact setRow_heap w b cur _ e _ hg
      · have holds : ∀ j u, (cur.toList.take (xs.length * K.n))[j]? = some u → w.cell? ((⟨g, 0, none⟩ : Addr).add j) = some u := fun j u hu => by
          have hj : j < xs.length * K.n := by have := (List.getElem?_eq_some_iff.1 hu).1; rw [a6.len] at this; exact this
          rw [Addr.add_mid, Nat.zero_add, cell_of_row w g j cur e (0, 0) hg]
          rw [List.getElem?_take_of_lt hj] at hu; simpa using hu
        have hrun := appG_grow (ty := ty) hT hu h1 h2 (b := ⟨g, 0, none⟩) (sLen := xs.length) (sCap := cap) (olds := cur.toList.take (xs.length * K.n)) (by rw [h3]; exact a6.len) holds hv (by omega) (by omega) (growslice_fits (by omega) hbytes)
        have hf := fresh cap _ a6 (by omega)
        exact ⟨_, _, _, hrun, hf, alloc _⟩
theorem St.app_own {α : Type} {K : Kd α} {z : α} {bytes : Nat} {t u e : TypeId} {v : Value} {xs ys : List α} {F : Fz} {w : World} (hroom : xs.length + ys.length ≤ room) (hT : P.underlying t = some (.slice e)) (hu : srcT P u = true) (he : AT P e K z bytes)
    (hSt : St F w (.own K v e xs :: L)) {src : Value} {news : List Value} (hv : SrcV P w K.n src ys.length news) (hnr : rdAll K F news ys) (hn1 : ∀ u ∈ news, u.oneCell' = true) :
    ∃ v' w', (Builtin.append_ #[t, u] ty #[v, src]).run P w = .ok v' w' ∧ St F w' (.own K v' e (xs ++ ys) :: L) := by
  obtain ⟨f0, hh, hap, hs'⟩ := hSt
  have hon : ∀ b o, f0 b = some o → w.heap[b]? = some o := fun b o e => hs'.on.blk b o (by
    have := hap b (by simp [e]); simp [Fz.add, this, e])
  obtain ⟨v', w', h', r1, r2, r3, r4, r5⟩ := own_appendG (P := P) (ty := ty) hroom hT hu he hh hon hv hnr hn1
  refine ⟨v', w', r1, h', r2, fun b hb => ?_, hs'.change hap r3 r4 r5⟩
  rcases r4 b hb with x | x
  · exact hap b x
  · cases e : F.blk b with
    | none => rfl
    | some o => have := lt_of_heap (hs'.on.blk b o ((F.le_add f0).blk b o e)); omega
/-- append of what is frozen, a string too, to a slice of the call's own. -/
theorem Under.appG {α : Type} {K : Kd α} {z : α} {bytes : Nat} {t u e : TypeId} {S V : Operand} {v : Value} {xs ys zs : List α} (hz : Go.Sim.app xs ys = some zs) (hT : P.underlying t = some (.slice e)) (hu : srcT P u = true) (he : AT P e K z bytes)
    (hS : ev E S = some (.raw v)) (hV : ev E V = some s) (hr : Src P s K ys) (hd : Nat.blt d n = true) (k : ∀ v', Under F0 n ((d, .raw v') :: E) (.own K v' e zs :: L) (wpList P ops Q rest)) :
    Under F0 n E (.own K v e xs :: L) (wpList P ops Q (⟨some d, .call ⟨.builtin .append, #[S, V], #[t, u]⟩, ty, pos, aft, none⟩ :: rest)) :=
  Under.exec rfl fun F a w h0 hE hSt => by
    obtain ⟨hroom, rfl⟩ := app_some hz
    obtain ⟨news, e1, e2, e3⟩ := hr.out hSt.on (hE.eval hV)
    obtain ⟨v', w', r1, hS'⟩ := St.app_own (P := P) (ty := ty) hroom hT hu he hSt e1 e2 e3
    unfold Oper.wp
    simp only [execOp, resolve, invoke, builtin, Sem.run_bind, Sem.run_pure, Result.andThen_ok, List.map_toArray, List.map_cons, List.map_nil, hE.raw hS, r1, Oper.upon]
    exact k v' F _ _ h0 (hE.put hd (by simp only [SV.ok])) hS'
/-- append of another slice of the call's own, which stays. -/
theorem Under.appO {α : Type} {K : Kd α} {z : α} {bytes : Nat} {t u e e2 : TypeId} {S V : Operand} {v v2 : Value} {xs ys zs : List α} (hz : Go.Sim.app xs ys = some zs) (hT : P.underlying t = some (.slice e)) (hu : srcT P u = true) (he : AT P e K z bytes)
    (hS : ev E S = some (.raw v)) (hV : ev E V = some (.raw v2)) (hd : Nat.blt d n = true) (k : ∀ v', Under F0 n ((d, .raw v') :: E) (.own K v' e zs :: .own K v2 e2 ys :: L) (wpList P ops Q rest)) :
    Under F0 n E (.own K v e xs :: .own K v2 e2 ys :: L) (wpList P ops Q (⟨some d, .call ⟨.builtin .append, #[S, V], #[t, u]⟩, ty, pos, aft, none⟩ :: rest)) :=
  Under.exec rfl fun F a w h0 hE hSt => by
    obtain ⟨hroom, rfl⟩ := app_some hz
    have hSw : St F w (.own K v2 e2 ys :: .own K v e xs :: L) := hSt.perm (List.Perm.swap _ _ _)
    obtain ⟨f2, hf2, hon2⟩ := hSw.head
    obtain ⟨news, e1, e2', e3⟩ := SrcV.own (P := P) hf2 hon2
    obtain ⟨v', w', r1, hS'⟩ := St.app_own (P := P) (ty := ty) hroom hT hu he hSt e1 e2' e3
    unfold Oper.wp
    simp only [execOp, resolve, invoke, builtin, Sem.run_bind, Sem.run_pure, Result.andThen_ok, List.map_toArray, List.map_cons, List.map_nil, hE.raw hS, hE.raw hV, r1, Oper.upon]
    exact k v' F _ _ h0 (hE.put hd (by simp only [SV.ok])) hS'

/-! ### Contracts that hand ownership on -/
/-- A call comes back with a value and resources that speak of something new (blocks, slices' values). -/
def OkX (P : Program) (f : FuncId) (args : List SV) (L : List Res) {C : Type} (s : C → SV) (L' : C → List Res) : Prop :=
  ∀ F w vs, SV.oks F vs args → St F w L → Calls P f vs.toArray w fun e w' => ∃ y G v, e = .returned v ∧ F ≤ G ∧ St G w' (L' y) ∧ (s y).ok G v
theorem Ok.x {f : FuncId} {args : List SV} {L L' : List Res} (h : Ok P f args L s L') : OkX P f args L (fun _ : Unit => s) (fun _ => L') := fun F w vs h1 h2 => (h F w vs h1 h2).mono fun e w' ⟨G, v, h⟩ => ⟨(), G, v, h⟩
theorem Under.callX {f : FuncId} {X : Operand} {xs : List Operand} {tys : Array TypeId} {l : List SV} {C : Type} {s : C → SV} {L' : C → List Res} (hc : ∀ args w, (callFunc f args).run P w = .ok (.enter f args) w) (hX : ev E X = some (.raw (.func (.func f) #[] #[]))) (hx : evs E xs = some l) (ho : OkX P f l L s L')
    (hd : Nat.blt d n = true) (k : ∀ y, Under F0 n ((d, s y) :: E) (L' y) (wpList P ops Q rest)) : Under F0 n E L (wpList P ops Q (⟨some d, .call ⟨.value X, xs.toArray, tys⟩, ty, pos, aft, none⟩ :: rest)) :=
  Under.exec rfl fun F a w h0 hE hS => by
    have hv := Env.evals hE hx
    have h1 := ho F w _ hv hS
    unfold Oper.wp
    simp only [execOp, resolve, hE.raw hX, Deferred.ofValue, invoke, List.map_toArray, Sem.run_bind, Sem.run_pure, Result.andThen_ok, Array.empty_append, Array.append_empty]
    rw [hc]
    exact h1.mono fun e w' ⟨y, G, v, he, hg, hS', hok⟩ => by
      subst he
      exact k y G _ _ (Fz.tr h0 hg) ((hE.mono hg).put hd hok) hS'
theorem OkX.intro {f : FuncId} {fn : Func} {c : Code} {args : List SV} {C : Type} {s : C → SV} {L' : C → List Res} (m : Nat) (E0 : List (Nat × SV)) (hf : P.funcs[f]? = some fn) (hb : fn.body = some c) (hn : fn.ntmps = m) (hl : Nat.ble args.length m = true) (hE : argE 0 args = E0)
    (k : ∀ F0, Under F0 m E0 L (c.wp P (bodyPost P fn fun e w' => ∃ y G v, e = .returned v ∧ F0 ≤ G ∧ St G w' (L' y) ∧ (s y).ok G v))) : OkX P f args L s L' := fun F w vs hv hS => by
  refine calls_of_wp hf hb ?_
  have hl' := oks_length hv
  have hle := Nat.le_of_ble_eq_true hl
  have he : fn.ntmps - vs.toArray.size = m - args.length := by simp [hn, hl']
  rw [he]
  have h2 : args.length + (m - args.length) = m := by omega
  have hst := Env.start hv (m - args.length)
  rw [h2, hE] at hst
  exact k F F _ w (Fz.rf F) hst hS
/-! ### Returns of any number of results -/
inductive RetV (P : Program) (E : List (Nat × SV)) : List ResultVar → List SV → Prop where
  | nil : RetV P E [] []
  | tm {u : Nat} {s : SV} {l : List ResultVar} {ss : List SV} (h : look E u = some s) (r : RetV P E l ss) : RetV P E (.tmp u :: l) (s :: ss)
  | ce {α : Type} {K : Kd α} {u T : Nat} {x : α} {l : List ResultVar} {ss : List SV} (h : look E u = some (.ptr K x)) (hT : KT P T K) (r : RetV P E l ss) : RetV P E (.cell u T :: l) (.val K x :: ss)
def packR : List SV → SV
  | [s] => s
  | l => .tup l
def resF (a : Act) : ResultVar → Sem Value
  | .tmp t => pure (a.tmps.getD t undef)
  | .cell b t => do loadVar t (← asAddr (a.tmps.getD b undef))
theorem RetV.run {F : Fz} {a : Act} {w : World} (hE : Env F a n E) (hS : F.on w) : ∀ {l : List ResultVar} {ss : List SV}, RetV P E l ss → ∃ vs : List Value, (l.mapM (resF a)).run P w = .ok vs w ∧ SV.oks F vs ss
  | _, _, .nil => ⟨[], by simp, by simp only [SV.oks]⟩
  | _, _, .tm h r => by
    obtain ⟨v, h1, h2⟩ := hE.at_ _ _ h
    obtain ⟨vs, h3, h4⟩ := RetV.run hE hS r
    refine ⟨v :: vs, ?_, by simp only [SV.oks]; exact ⟨h2, h4⟩⟩
    have e : ∀ u, a.tmps[u]? = some v → (resF a (.tmp u)).run P w = .ok v w := fun u hu => by simp [resF, Array.getD_eq_getD_getElem?, hu]
    simp only [List.mapM_cons, Sem.run_bind, Sem.run_pure, e _ h1, Result.andThen_ok, h3]
  | _, _, .ce h hT r => by
    obtain ⟨v, h1, h2⟩ := hE.at_ _ _ h
    obtain ⟨vs, h3, h4⟩ := RetV.run hE hS r
    simp only [SV.ok] at h2
    obtain ⟨p, rfl, hp⟩ := h2
    obtain ⟨u, hu, hk⟩ := run_cell hT hS hp
    refine ⟨u :: vs, ?_, by simp only [SV.oks, SV.ok]; exact ⟨hk, h4⟩⟩
    have e : ∀ u' T, a.tmps[u']? = some (.pointer (some p)) → (loadVar T p).run P w = .ok u w → (resF a (.cell u' T)).run P w = .ok u w := fun u' T hu' hl => by simp [resF, Array.getD_eq_getD_getElem?, hu', asAddr, hl]
    simp only [List.mapM_cons, Sem.run_bind, Sem.run_pure, e _ _ h1 hu, Result.andThen_ok, h3]
theorem RetV.results {F : Fz} {a : Act} {w : World} {fn : Func} {l : List ResultVar} {ss : List SV} (hr : fn.results = l.toArray) (hE : Env F a n E) (hS : F.on w) (h : RetV P E l ss) : ∃ v, (Go.results fn a.tmps).run P w = .ok v w ∧ (packR ss).ok F v := by
  obtain ⟨vs, h1, h2⟩ := RetV.run hE hS h
  have hl := oks_length h2
  have he : Go.results fn a.tmps = (do let vs ← fn.results.mapM (resF a); pure (if h : vs.size = 1 then vs[0] else .tuple vs)) := by
    unfold Go.results
    congr 1
  have h3 : (fn.results.mapM (resF a)).run P w = .ok vs.toArray w := by
    rw [hr, List.mapM_toArray, Sem.run_map, h1]; rfl
  refine ⟨if h : vs.toArray.size = 1 then vs.toArray[0] else .tuple vs.toArray, by rw [he]; simp only [Sem.run_bind, h3, Result.andThen_ok, Sem.run_pure], ?_⟩
  match vs, ss, h2 with
  | [], [], _ => simp only [packR, SV.ok]; exact ⟨[], by simp, by simp only [SV.oks]⟩
  | [v], [s], h2 => simp only [packR]; simp only [SV.oks] at h2; simpa using h2.1
  | v :: u :: vs, s :: t :: ss, h2 => simp only [packR, SV.ok]; exact ⟨v :: u :: vs, by simp, h2⟩
  | [], _ :: _, h2 => simp only [SV.oks] at h2
  | _ :: _, [], h2 => simp only [SV.oks] at h2
  | [_], _ :: _ :: _, h2 => simp only [SV.oks] at h2; exact absurd h2.2 (by simp [SV.oks])
  | _ :: _ :: _, [_], h2 => simp only [SV.oks] at h2; exact absurd h2.2 (by simp [SV.oks])
theorem Under.rets {fn : Func} {l : List ResultVar} {ss : List SV} {L' : List Res} (hr : fn.results = l.toArray) (h : RetV P E l ss) (he : packR ss = s) (hL : L = L') : Under F0 n E L (bodyPost P fn (fun e w' => ∃ G v, e = .returned v ∧ F0 ≤ G ∧ St G w' L' ∧ s.ok G v) .ret) := fun F a w h0 hE hS => by
  subst he; subst hL
  obtain ⟨v, h1, h2⟩ := h.results hr hE hS.on
  exact ⟨hE.defers, v, h1, F, v, rfl, h0, hS, h2⟩
theorem Under.retsX {fn : Func} {l : List ResultVar} {ss : List SV} {C : Type} {s : C → SV} {L' : C → List Res} (y : C) (hr : fn.results = l.toArray) (h : RetV P E l ss) (he : packR ss = s y) (hL : L = L' y) :
    Under F0 n E L (bodyPost P fn (fun e w' => ∃ y G v, e = .returned v ∧ F0 ≤ G ∧ St G w' (L' y) ∧ (s y).ok G v) .ret) := fun F a w h0 hE hS => by
  obtain ⟨v, h1, h2⟩ := h.results hr hE hS.on
  exact ⟨hE.defers, v, h1, y, F, v, rfl, h0, hL ▸ hS, he ▸ h2⟩
/-! ### Tests that are known; runs -/
theorem Under.condT {X : Operand} {x y : Code} (hX : ev E X = some (.raw (.bool true))) (k : Under F0 n E L (x.wp P Q)) : Under F0 n E L ((Code.cond X x y).wp P Q) := Under.conde hX (fun _ => k) (fun h => by cases h)
theorem Under.condF {X : Operand} {x y : Code} (hX : ev E X = some (.raw (.bool false))) (k : Under F0 n E L (y.wp P Q)) : Under F0 n E L ((Code.cond X x y).wp P Q) := Under.conde hX (fun h => by cases h) (fun _ => k)
/-- The pick behind a run: what stands behind it is proved once. -/
theorem Under.runj {l : List Oper} (m d : Nat) (e : Bool) (k : Under F0 n ((d, .raw (.bool e)) :: E) L (wpList P ops Q (l.drop m))) (h : Under F0 n ((d, .raw (.bool e)) :: E) L (wpList P ops Q (l.drop m)) → Under F0 n E L (wpList P ops Q l)) : Under F0 n E L (wpList P ops Q l) := h k
theorem UnderQ.runj {F : Fz} {C : World → Prop} {Qa : Act → Prop} {l : List Oper} (m d : Nat) (e : Bool) (k : UnderQ F n ((d, .raw (.bool e)) :: E) (wpQuiet P ops C Qa (l.drop m))) (h : UnderQ F n ((d, .raw (.bool e)) :: E) (wpQuiet P ops C Qa (l.drop m)) → UnderQ F n E (wpQuiet P ops C Qa l)) : UnderQ F n E (wpQuiet P ops C Qa l) := h k
/-- The pick's value stays, what came up in the run goes. -/
theorem run_sub {m d : Nat} {s : SV} {J E : List (Nat × SV)} (hj : noneB J [(d, s)] E = true) : ∀ t v, look ((d, s) :: E) t = some v → look ((d, s) :: J ++ E) t = some v := by
  intro t v h
  rw [look_cons] at h
  rw [List.cons_append, look_cons]
  split at h
  · rename_i hk; rw [if_pos hk]; exact h
  · rename_i hk
    rw [if_neg hk, look_append]
    have : look [(d, s)] t = none := by rw [look_cons, if_neg hk]; rfl
    rw [noneB_spec hj this h]; exact h
theorem Under.rfin (m : Nat) {d : Nat} {s s' : SV} {E1 : List (Nat × SV)} {X : Act → World → Prop} (he : s' = s) (hj : noneB (E1.take m) [(d, s)] (E1.drop m) = true) (k : Under F0 n ((d, s) :: E1.drop m) L X) : Under F0 n ((d, s') :: E1) L X := by
  subst he
  refine Under.env (fun t v h => ?_) k
  have := run_sub (m := m) hj t v h
  rwa [List.cons_append, List.take_append_drop] at this
theorem UnderQ.rfin (m : Nat) {F : Fz} {d : Nat} {s s' : SV} {E1 : List (Nat × SV)} {X : Act → Prop} (he : s' = s) (hj : noneB (E1.take m) [(d, s)] (E1.drop m) = true) (k : UnderQ F n ((d, s) :: E1.drop m) X) : UnderQ F n ((d, s') :: E1) X := by
  subst he
  intro a hE
  refine k a (hE.sub fun t v h => ?_)
  have := run_sub (m := m) hj t v h
  rwa [List.cons_append, List.take_append_drop] at this
end
end Go.Sim

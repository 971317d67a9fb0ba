/- Sim21: places in what is owned, its content being known; loads, stores, copy. -/
import Derived.Test.YtgllljocmpbooaaSim20
set_option linter.unusedVariables false
set_option linter.unusedSimpArgs false
namespace Go.Sim
open Go

/-- A place in something of known content: what is there, and what the whole becomes when that is written over. -/
structure At {β α : Type} (K0 : Kd β) (x : β) (off : Nat) (K : Kd α) (y : α) (up : α → β) : Prop where
  get : ∀ {F cs}, K0.rd F cs x → off + K.n ≤ cs.length ∧ K.rd F ((cs.drop off).take K.n) y
  set : ∀ {F cs c z}, K0.rd F cs x → K.rd F c z → K0.rd F (cs.take off ++ c ++ cs.drop (off + K.n)) (up z)
theorem At.id {β : Type} {K0 : Kd β} {x : β} : At K0 x 0 K0 x (fun z => z) where
  get := fun h => by have := K0.len h; simp only [Nat.zero_add, List.drop_zero]; rw [← this, List.take_length]; exact ⟨Nat.le_refl _, h⟩
  set := fun h hy => by have := K0.len h; simpa [← this] using hy
/-- How a field is written. -/
structure UpF {γ : Type} (fs : List (Fld γ)) (i : Nat) (f : Fld γ) (s1 : γ → f.α → γ) : Prop where
  hf : fs[i]? = some f
  h1 : ∀ x y, f.get (s1 x y) = y
  h2 : ∀ x y, butF x (s1 x y) fs i
theorem At.fld {β γ : Type} {K0 : Kd β} {x : β} {o : Nat} {fs : List (Fld γ)} {s : γ} {up : γ → β} (p : At K0 x o (kSt fs) s up) {i : Nat} {f : Fld γ} {s1 : γ → f.α → γ} (u : UpF fs i f s1) :
    At K0 x (o + offF fs i) f.K (f.get s) (fun y => up (s1 s y)) where
  get := fun {F cs} h => by
    obtain ⟨a, b⟩ := p.get h
    obtain ⟨a', b'⟩ := rdF.get b u.hf
    have hn : ((List.drop o cs).take (kSt fs).n).length = (kSt fs).n := by simp only [List.length_take, List.length_drop]; omega
    rw [hn] at a'
    refine ⟨by omega, ?_⟩
    rwa [take_drop_take a'] at b'
  set := fun {F cs c z} h hy => by
    obtain ⟨a, b⟩ := p.get h
    obtain ⟨a', b'⟩ := rdF.get b u.hf
    have hn : ((List.drop o cs).take (kSt fs).n).length = (kSt fs).n := by simp only [List.length_take, List.length_drop]; omega
    rw [hn] at a'
    have hs := rdF.set b u.hf (x' := s1 s z) (by rw [u.h1]; exact hy) (butF.spec (u.h2 s z))
    have := p.set h hs
    refine cast (congrArg (fun l => K0.rd F l _) ?_) this
    exact splice2 a'
theorem At.ix {β α : Type} {K0 : Kd β} {x : β} {o m : Nat} {K : Kd α} {xs : List α} {up : List α → β} (p : At K0 x o (kArr m K) xs up) {i : Int} {z : α} (hi : idx xs i = some z) :
    At K0 x (o + i.toNat * K.n) K z (fun y => up (xs.set i.toNat y)) where
  get := fun h => by
    obtain ⟨h0, h1, e⟩ := idx_some hi
    obtain ⟨a, hl, b⟩ := p.get h
    have h1 : (i.toNat + 1) * K.n ≤ m * K.n := Nat.mul_le_mul_right _ (by omega)
    rw [Nat.succ_mul] at h1
    have a' : o + m * K.n ≤ _ := a
    refine ⟨by omega, ?_⟩
    have := b.get e
    rwa [show (kArr m K).n = m * K.n from rfl, take_drop_take (by omega)] at this
  set := fun {F cs c y} h hy => by
    obtain ⟨h0, h1, e⟩ := idx_some hi
    obtain ⟨a, hl, b⟩ := p.get h
    have hs := b.set (i := i.toNat) (by omega) hy
    have := p.set h (c := _) (z := xs.set i.toNat y) ⟨by simpa using hl, hs⟩
    refine cast (congrArg (fun l => K0.rd F l _) ?_) this
    have h1 : (i.toNat + 1) * K.n ≤ m * K.n := Nat.mul_le_mul_right _ (by omega)
    rw [Nat.succ_mul] at h1
    exact splice2 (u := i.toNat * K.n) (q := K.n) (m := m * K.n) h1

/-- Where a slice lies. -/
def blkOf (v : Value) : Nat := match v with
  | .slice (some p) _ _ => p.block
  | _ => 0
/-- One block that is owned, of known content; its own new content. -/
structure Blk1 {β : Type} (r : Res) (R : β → Res) (b : Nat) (K0 : Kd β) (x : β) : Prop where
  out : ∀ {F h}, r.holds F h → ∃ cs post e, h = Frag.one b (.cells (cs ++ post).toArray e (0, 0)) ∧ K0.rd F cs x ∧ ∀ cs' x', K0.rd F cs' x' → (R x').holds F (Frag.one b (.cells (cs' ++ post).toArray e (0, 0)))
theorem Blk1.box {β : Type} {K0 : Kd β} {b : Nat} {T : TypeId} {x : β} : Blk1 (.box K0 b T x) (fun x => .box K0 b T x) b K0 x := ⟨fun ⟨cs, hr, e⟩ => ⟨cs, [], T, by simpa using e, hr, fun cs' x' h => ⟨cs', h, by simp⟩⟩⟩
theorem Blk1.own {α : Type} {K : Kd α} {v : Value} {e : TypeId} {xs : List α} {i : Int} {z : α} (hi : idx xs i = some z) : Blk1 (.own K v e xs) (fun xs => .own K v e xs) (blkOf v) (kArr xs.length K) xs := ⟨fun {F h} hh => by
  obtain ⟨h0, h1, _⟩ := idx_some hi
  rcases hh with ⟨rfl, rfl, _⟩ | ⟨g, cap, cur, rfl, rfl, h3, h4, h5, h6⟩
  · simp at h1; omega
  · refine ⟨cur.toList.take (xs.length * K.n), cur.toList.drop (xs.length * K.n), e, by rw [List.take_append_drop]; rfl, ⟨rfl, h6⟩, fun cs' x' h => ?_⟩
    have hl := h.2.len
    have hx : x'.length = xs.length := h.1
    have hle : xs.length * K.n ≤ cur.size := by rw [h5]; exact Nat.mul_le_mul_right _ h3
    refine .inr ⟨g, cap, _, by rw [hx], rfl, by rw [hx]; exact h3, h4, ?_, ?_⟩
    · simp only [List.size_toArray, List.length_append, List.length_drop, Array.length_toList, hl, hx]; omega
    · have e1 : x'.length * K.n = cs'.length := hl.symm
      rw [e1, List.take_left]; exact h.2⟩

section
variable {P : Program} {ops : Array Oper} {Q : Exit → Act → World → Prop} {rest : List Oper} {F0 : Fz} {n : Nat} {E : List (Nat × SV)} {L : List Res}
variable {d : Nat} {op : Op} {ty : TypeId} {pos : String} {aft : Array Edge} {s : SV}

/-- A load out of what is owned. -/
theorem Under.ldP {α β : Type} {r : Res} {R : β → Res} {K0 : Kd β} {K : Kd α} {b off : Nat} {T : TypeId} {X : Operand} {x : β} {y : α} {up : α → β} (hb : Blk1 r R b K0 x) (p : At K0 x off K y up)
    (hT : KT P T K) (hX : ev E X = some (.raw (.pointer (some ⟨b, off, none⟩)))) (hd : Nat.blt d n = true) (k : Under F0 n ((d, .val K y) :: E) (r :: L) (wpList P ops Q rest)) :
    Under F0 n E (r :: L) (wpList P ops Q (⟨some d, .load T X, ty, pos, aft, none⟩ :: rest)) :=
  Under.exec rfl fun F a w h0 hE hS => by
    obtain ⟨h, hh, hon⟩ := hS.head
    obtain ⟨cs, post, e, rfl, hrd, _⟩ := hb.out hh
    have hbw : w.heap[b]? = some (.cells (cs ++ post).toArray e (0, 0)) := hon b _ (Frag.one_at _ _)
    obtain ⟨hle, hy⟩ := p.get hrd
    have hrun := run_loadAt_cells hT (w := w) (p := ⟨b, off, none⟩) rfl hbw (by simp; omega)
    have he : ((cs ++ post).drop off).take K.n = (cs.drop off).take K.n := by
      rw [List.drop_append_of_le_length (by omega), List.take_append_of_le_length (by simp; omega)]
    unfold Oper.wp
    simp only [execOp, hE.raw hX, Sem.run_bind, hrun, Result.andThen_ok, Sem.run_pure, Oper.upon]
    exact k F _ _ h0 (hE.put hd (by simp only [SV.ok]; exact ⟨_, by simpa [he] using hy, rfl⟩)) hS
theorem splice_app {cs post c : List Value} {off m : Nat} (h : off + m ≤ cs.length) : (cs ++ post).take off ++ c ++ (cs ++ post).drop (off + m) = (cs.take off ++ c ++ cs.drop (off + m)) ++ post := by
  rw [List.take_append_of_le_length (by omega), List.drop_append_of_le_length h]; simp
/-- What is written over in what is owned. -/
theorem St.setP {β : Type} {F : Fz} {w w' : World} {r : Res} {R : β → Res} {K0 : Kd β} {b : Nat} {x x' : β} {cs cs' post : List Value} {e : TypeId} (hb : Blk1 r R b K0 x) (hS : St F w (r :: L)) (h0 : w.heap[b]? = some (.cells (cs ++ post).toArray e (0, 0)))
    (hl : cs.length = K0.n) (hrd : K0.rd F cs' x') (h1 : w'.heap[b]? = some (.cells (cs' ++ post).toArray e (0, 0))) (hc : Chg w w' (Frag.one b (.cells (cs ++ post).toArray e (0, 0)))) : St F w' (R x' :: L) := hS.turn fun h2 hh2 hon2 => by
  obtain ⟨cs2, post2, e2, rfl, hrd2, hput⟩ := hb.out hh2
  have hbw2 := hon2 b _ (Frag.one_at _ _)
  rw [h0] at hbw2
  have hq := Option.some.inj hbw2
  simp only [Obj.cells.injEq, and_true] at hq
  have hl2 := K0.len hrd2
  obtain ⟨hq1, hq2⟩ := hq
  have happ := List.append_inj (List.toArray_inj hq1) (by omega)
  obtain ⟨rfl, rfl⟩ := happ
  subst hq2
  refine ⟨_, hput cs' x' hrd, hc, fun k hk => .inl ?_, fun k o eo => ?_⟩
  · by_cases hkb : k = b
    · subst hkb; rw [Frag.one_at]; simp
    · exact absurd (Frag.one_ne _ hkb) hk
  · obtain ⟨rfl, rfl⟩ := Frag.one_some eo; exact h1
/-- A store into what is owned. -/
theorem Under.stP {α β : Type} {r : Res} {R : β → Res} {K0 : Kd β} {K : Kd α} {b off : Nat} {T : TypeId} {X V : Operand} {x x' : β} {y z : α} {up : α → β} (hb : Blk1 r R b K0 x) (p : At K0 x off K z up)
    (hT : (P.info? T).map (·.size) = some K.n) (hX : ev E X = some (.raw (.pointer (some ⟨b, off, none⟩)))) (hV : ev E V = some s) (hr : rdOf s K y) (hx : up y = x') (k : Under F0 n E (R x' :: L) (wpList P ops Q rest)) :
    Under F0 n E (r :: L) (wpList P ops Q (⟨none, .store T X V, ty, pos, aft, none⟩ :: rest)) :=
  Under.exec rfl fun F a w h0 hE hS => by
    have hv := hr F _ (hE.eval hV)
    obtain ⟨h, hh, hon⟩ := hS.head
    obtain ⟨cs, post, e, rfl, hrd, _⟩ := hb.out hh
    have hbw : w.heap[b]? = some (.cells (cs ++ post).toArray e (0, 0)) := hon b _ (Frag.one_at _ _)
    have hle := (p.get hrd).1
    obtain ⟨w', hrun, hb', hc⟩ := run_storeAt_cells (P := P) hT hbw (v := a.eval V) (off := off) hv.sizeEq (K.one hv.rd) (by simp; omega)
    rw [splice_app hle] at hb'
    have hS' : St F w' (R x' :: L) := St.setP hb hS hbw (K0.len hrd) (by rw [← hx]; exact p.set hrd hv.rd) hb' hc
    unfold Oper.wp
    simp only [execOp, hE.raw hX, Sem.run_bind, hrun, Result.andThen_ok, Sem.run_pure, Oper.upon]
    exact k F _ _ h0 hE hS'
/-- The address of an element of an owned slice. -/
theorem Under.ixO {α : Type} {K : Kd α} {T e e' : TypeId} {X I : Operand} {v : Value} {xs : List α} {x : α} {q : IntKind} {i : Int} (hx : idx xs i = some x) (hT : P.underlying T = some (.slice e)) (hs : (P.info? e).map (·.size) = some K.n)
    (hX : ev E X = some (.raw v)) (hI : ev E I = some (.raw (.int q i))) (hd : Nat.blt d n = true) (k : Under F0 n ((d, .raw (.pointer (some ⟨blkOf v, 0 + i.toNat * K.n, none⟩))) :: E) (.own K v e' xs :: L) (wpList P ops Q rest)) :
    Under F0 n E (.own K v e' xs :: L) (wpList P ops Q (⟨some d, .indexAddr T X I, ty, pos, aft, none⟩ :: rest)) :=
  Under.exec rfl fun F a w h0 hE hS => by
    obtain ⟨h0', h1, _⟩ := idx_some hx
    have hS2 := hS
    obtain ⟨f, hf, _⟩ := hS2
    have hv := hE.raw hX
    rcases hf with ⟨rfl, rfl, _⟩ | ⟨g, cap, cur, rfl, _⟩
    · simp at h1; omega
    · have hr := run_indexAt_sl (P := P) hT hs (p := ⟨g, 0, none⟩) (m := xs.length) (c := cap) (q := q) h0' h1 rfl w
      unfold Oper.wp
      simp only [execOp, hv, hE.raw hI, Sem.run_bind, hr, Result.andThen_ok, Sem.run_pure, Oper.upon]
      exact k F _ _ h0 (hE.put hd (by simp only [SV.ok, blkOf])) hS
end
end Go.Sim

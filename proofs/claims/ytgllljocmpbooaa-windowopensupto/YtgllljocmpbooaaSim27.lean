/- Sim27: bytes and strings. -/
import Derived.Test.YtgllljocmpbooaaSim26
import Derived.Lib.ConvBytes
import Derived.Laws.BytesString
set_option linter.unusedVariables false
set_option linter.unusedSimpArgs false
namespace Go.Sim
open Go
section
variable {P : Program} {ops : Array Oper} {Q : Exit → Act → World → Prop} {rest : List Oper} {F0 : Fz} {n : Nat} {E : List (Nat × SV)} {L : List Res}
variable {d : Nat} {op : Op} {ty : TypeId} {pos : String} {aft : Array Edge} {s : SV}

theorem OpV.fdVI {β : Type} {fs : List (Fld β)} {T : TypeId} {X : Operand} {i m : Nat} {x : β} {k : IntKind} {get : β → Int} {tf : TypeId} (hT : fldB P T i = some (offF fs i, m + 1)) (hk : KT P tf (kInt k)) (hf : fs[i]? = some ⟨kInt k, get⟩) (hX : ev E X = some (.val (kSt fs) x))
    (ht : ∃ ff g, P.underlying T = some (.struct ff) ∧ ff[i]? = some g ∧ g.type = tf) : OpV P n E L ⟨some d, .field T X i, ty, pos, aft, none⟩ (.raw (.int k (get x))) := by
  obtain ⟨ff, g, h1, h2, rfl⟩ := ht
  exact OpV.raw_of (OpV.fdV (f := ⟨kInt k, get⟩) (tf := 0) hT hf hX ⟨ff, g, h1, h2, hk⟩)
theorem OpV.fdVB {β : Type} {fs : List (Fld β)} {T : TypeId} {X : Operand} {i m : Nat} {x : β} {get : β → Bool} {tf : TypeId} (hT : fldB P T i = some (offF fs i, m + 1)) (hk : KT P tf kBool) (hf : fs[i]? = some ⟨kBool, get⟩) (hX : ev E X = some (.val (kSt fs) x))
    (ht : ∃ ff g, P.underlying T = some (.struct ff) ∧ ff[i]? = some g ∧ g.type = tf) : OpV P n E L ⟨some d, .field T X i, ty, pos, aft, none⟩ (.raw (.bool (get x))) := by
  obtain ⟨ff, g, h1, h2, rfl⟩ := ht
  exact OpV.bool_of (OpV.fdV (f := ⟨kBool, get⟩) (tf := 0) hT hf hX ⟨ff, g, h1, h2, hk⟩)
theorem OpV.fdVV {β : Type} {fs : List (Fld β)} {T : TypeId} {X : Operand} {i m : Nat} {x : β} {f : Fld β} {tf : TypeId} (hT : fldB P T i = some (offF fs i, m + 1)) (hk : KT P tf f.K) (hf : fs[i]? = some f) (hX : ev E X = some (.val (kSt fs) x))
    (ht : ∃ ff g, P.underlying T = some (.struct ff) ∧ ff[i]? = some g ∧ g.type = tf) : OpV P n E L ⟨some d, .field T X i, ty, pos, aft, none⟩ (.val f.K (f.get x)) := by
  obtain ⟨ff, g, h1, h2, rfl⟩ := ht
  exact OpV.fdV (tf := 0) hT hf hX ⟨ff, g, h1, h2, hk⟩
/-- The bytes of what a slice holds. -/
def strB (xs : List Int) : List Int := xs.map fun n => ((UInt8.ofNat n.toNat).toNat : Int)
theorem fold_push : ∀ (xs : List Int) (s : ByteArray), ((xs.foldl (fun r n => r.push (UInt8.ofNat n.toNat)) s).data.toList.map fun b => (b.toNat : Int)) = (s.data.toList.map fun b => (b.toNat : Int)) ++ strB xs
  | [], s => by simp [strB]
  | x :: xs, s => by
    simp only [List.foldl_cons]
    rw [fold_push xs]
    simp [strB, ByteArray.push]
theorem run_b2s {F : Fz} {w : World} {v : Value} {xs : List Int} (hv : (kSl (kInt .u8)).val F v xs) (hw : ∀ b o, F.blk b = some o → w.heap[b]? = some o) :
    (Conv.bytesToString v).run P w = .ok (.string (xs.foldl (fun r n => r.push (UInt8.ofNat n.toNat)) ByteArray.empty)) w := by
  obtain ⟨cs, ⟨a, cap, rfl, hcap, r⟩, rfl⟩ := hv
  cases a with
  | none =>
    have : xs = [] := by
      rcases r with r | ⟨p, _, _, _, h, _⟩
      · exact List.eq_nil_of_length_eq_zero r
      · cases h
    subst this
    simp [pack, kSl, Conv.bytesToString]
  | some p =>
    refine run_bytesToString w p xs.length cap xs ?_
    have := run_loadCells_list (P := P) w p (xs.map (Value.int .u8)) fun j v hj => ?_
    · simpa using this
    · rw [List.getElem?_map] at hj
      obtain ⟨x, hx, rfl⟩ := Option.map_eq_some_iff.1 hj
      rcases r with r | ⟨q, c, e, fr, hq, hp, hb, hle, hrd⟩
      · have := List.eq_nil_of_length_eq_zero r; subst this; simp at hx
      · cases hq
        obtain ⟨b, o, sp⟩ := p; simp only at hp hb hle; subst hp
        rw [Addr.add_mid, cell_of_row w b (o + j) c e fr (hw _ _ hb)]
        have h1 := rdAll_at hrd hx
        have hjl : j < xs.length * (kInt .u8).n := by have := (List.getElem?_eq_some_iff.1 hx).1; simp [kInt]; omega
        rw [List.getElem?_take_of_lt hjl, List.getElem?_drop] at h1
        simpa using h1
/-- string(b) -/
theorem OpV.b2s {T U e : TypeId} {X : Operand} {xs : List Int} (hT : P.underlying T = some (.slice e)) (he : P.underlying e = some (.int .u8)) (hU : P.underlying U = some .string) (hX : ev E X = some s) (hr : rdOf s (kSl (kInt .u8)) xs) :
    OpV P n E L ⟨some d, .convert T U X, ty, pos, aft, none⟩ (.val kStr (strB xs)) := fun F a hE => by
  have hv := hr F _ (hE.eval hX)
  refine ⟨.string (xs.foldl (fun r n => r.push (UInt8.ofNat n.toNat)) ByteArray.empty), by simp only [SV.ok]; exact ⟨[_], ⟨_, rfl, by rw [fold_push]; rfl⟩, rfl⟩, fun w ⟨G, hg, hS⟩ => ?_⟩
  have hrun := run_b2s (P := P) (hv.mono hg) hS.on.blk
  obtain ⟨cs, ⟨ad, cap, rfl, _⟩, hval⟩ := hv
  have hval : a.eval X = .slice ad xs.length cap := hval
  unfold Oper.quietAt
  rw [hval] at hrun
  have hc : (convert T U (.slice ad xs.length cap)).run P w = .ok (.string (xs.foldl (fun r n => r.push (UInt8.ofNat n.toNat)) ByteArray.empty)) w := by
    rw [run_convert_bytes_string w T U e ad _ cap hT he hU, hrun]
  simp [execOp, hval, hc, Oper.quietUpon]
/-- string(s), s a string of another name. -/
theorem OpV.s2s {T U : TypeId} {X : Operand} {xs : List Int} (hT : (P.underlying T).isSome = true) (hU : P.underlying U = some .string) (hX : ev E X = some s) (hr : rdOf s kStr xs) :
    OpV P n E L ⟨some d, .convert T U X, ty, pos, aft, none⟩ (.val kStr xs) := OpV.pure fun F a hE => by
  have hv := hr F _ (hE.eval hX)
  obtain ⟨s1, e1, rfl⟩ := val_str hv
  obtain ⟨ds, hds⟩ := Option.isSome_iff_exists.1 hT
  exact ⟨_, by simp only [SV.ok]; exact hv, fun w => by rw [e1]; simp [execOp, e1, convert, run_underlying hds, run_underlying hU]⟩
theorem run_mark {w : World} {g : Nat} {c : Array Value} {e : TypeId} (hb : w.heap[g]? = some (.cells c e (0, 0))) (o : Nat) : ∃ w', (markStringish ⟨g, o, none⟩).run P w = .ok () w' ∧ w'.heap[g]? = some (.cells c e (c.size, c.size + 1)) ∧ Chg w w' (Frag.one g (.cells c e (0, 0))) := by
  have hlt := lt_of_heap hb
  have hsh : w.shape? g = some (e, c.size) := by simp [World.shape?, hb]
  refine ⟨w.freeze ⟨g, c.size, none⟩ 1, by simp [markStringish, hsh], ?_, ⟨rfl, rfl, rfl, fun k hk hn => ?_⟩⟩
  · simp [World.freeze, Array.getElem?_modify, hb]
  · have hne : g ≠ k := fun h => by subst h; rw [Frag.one_at] at hn; cases hn
    simp [World.freeze, Array.getElem?_modify, hne]
/-- []byte("..") of a constant: the row gets its mark, and is only read from then on. -/
theorem Under.cvS {α : Type} {K : Kd α} {v : Value} {T e e' : TypeId} {X : Operand} {xs : List α} (hT : P.underlying T = some (.slice e)) (he : P.underlying e = some (.int .u8)) (h0 : 0 < xs.length) (hX : ev E X = some (.raw v)) (hd : Nat.blt d n = true)
    (k : Under F0 n ((d, .val (kSl K) xs) :: E) L (wpList P ops Q rest)) : Under F0 n E (.own K v e' xs :: L) (wpList P ops Q (⟨some d, .convert T T X, ty, pos, aft, none⟩ :: rest)) :=
  Under.exec rfl fun F a w hF0 hE hS => by
    have hv := hE.raw hX
    obtain ⟨h, hh, hon⟩ := hS.head
    rcases hh with ⟨rfl, rfl, _⟩ | ⟨g, cap, cur, rfl, rfl, h3, h4, h5, h6⟩
    · simp at h0
    · have hb := hon g _ (Frag.one_at _ _)
      obtain ⟨w', hrun, hb', hc⟩ := run_mark (P := P) hb 0
      let o' : Obj := .cells cur e' (cur.size, cur.size + 1)
      have hap : F.blk g = none := by
        obtain ⟨h2, hh2, hap2, hs2⟩ := hS
        have h2g : h2 g ≠ none := by
          rcases hh2 with ⟨q, _⟩ | ⟨g', cap', cur', q, rfl, _⟩
          · cases q
          · simp only [Value.slice.injEq, Option.some.injEq, Addr.mk.injEq, and_true, true_and] at q
            obtain ⟨rfl, _⟩ := q
            rw [Frag.one_at]; simp
        exact hap2 g h2g
      have hS1 : St F w' (.any (fun q => q = Frag.one g o') :: L) := hS.turn fun h2 hh2 hon2 => by
        rcases hh2 with ⟨q, _⟩ | ⟨g', cap', cur', q, rfl, _⟩
        · cases q
        · simp only [Value.slice.injEq, Option.some.injEq, Addr.mk.injEq, and_true, true_and] at q
          obtain ⟨rfl, rfl⟩ := q
          have hb2 := hon2 g _ (Frag.one_at _ _)
          rw [hb] at hb2
          have hq := Option.some.inj hb2
          simp only [Obj.cells.injEq, and_true, true_and] at hq
          subst hq
          refine ⟨Frag.one g o', rfl, hc, fun k hk => .inl ?_, fun k o eo => ?_⟩
          · by_cases hkb : k = g
            · subst hkb; rw [Frag.one_at]; simp
            · exact absurd (Frag.one_ne _ hkb) hk
          · obtain ⟨rfl, rfl⟩ := Frag.one_some eo; exact hb'
      obtain ⟨f, hf, hap1, hle, hS2⟩ := hS1.freeze
      have hf : f = Frag.one g o' := hf
      subst hf
      have hconv : (convert T T (.slice (some ⟨g, 0, none⟩) xs.length cap)).run P w = .ok (.slice (some ⟨g, 0, none⟩) xs.length cap) w' := by
        simp [convert, run_underlying hT, run_underlying he, hrun]
      unfold Oper.wp
      simp only [execOp, hv, Sem.run_bind, hconv, Result.andThen_ok, Sem.run_pure, Oper.upon]
      refine k _ _ _ (Fz.tr hF0 hle) ((hE.mono hle).put hd ?_) hS2
      simp only [SV.ok]
      refine ⟨[.slice (some ⟨g, 0, none⟩) xs.length cap], ⟨_, cap, rfl, h3, .inr ⟨⟨g, 0, none⟩, cur, e', (cur.size, cur.size + 1), rfl, rfl, ?_, ?_, by simpa using h6.mono hle⟩⟩, rfl⟩
      · simp only [Fz.add, hap]; exact Frag.one_at _ _
      · have : xs.length * K.n ≤ cap * K.n := Nat.mul_le_mul_right _ h3
        simp only; omega
end
end Go.Sim

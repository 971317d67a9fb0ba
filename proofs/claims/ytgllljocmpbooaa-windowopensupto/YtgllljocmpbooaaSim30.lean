/- Sim30: an own slice of structs, each with a slice that is own memory too. -/
import Derived.Test.YtgllljocmpbooaaSim29
import Derived.Test.YtgllljocmpbooaaSim27
set_option linter.unusedVariables false
set_option linter.unusedSimpArgs false
namespace Go.Sim
open Go

/-! ### Bundles -/
def frU (h1 h2 : Frag) : Frag := fun b => match h1 b with | some o => some o | none => h2 b
theorem add_frU (F : Fz) (h1 h2 : Frag) : (F.add h1).add h2 = F.add (frU h1 h2) := by
  simp only [Fz.add, frU, Fz.mk.injEq, and_true]; funext b
  cases F.blk b with
  | some o => simp
  | none => cases h1 b <;> simp
theorem frU_ne {h1 h2 : Frag} {b : Nat} : frU h1 h2 b ≠ none ↔ h1 b ≠ none ∨ h2 b ≠ none := by
  unfold frU; cases h1 b <;> simp
def bunH (F : Fz) : List Res → Frag → Prop
  | [], h => h = Frag.emp
  | r :: rs, h => ∃ h1 h2, r.holds F h1 ∧ bunH F rs h2 ∧ (∀ b, h2 b ≠ none → h1 b = none) ∧ h = frU h1 h2
theorem StG.bun_in {G : Fz} {w : World} {L : List Res} : ∀ {rs : List Res} {F : Fz}, StG G F w (rs ++ L) → ∃ h, bunH G rs h ∧ Apart F h ∧ StG G (F.add h) w L
  | [], F, hs => ⟨Frag.emp, rfl, fun b hb => absurd rfl hb, by rw [Fz.add_emp]; exact hs⟩
  | r :: rs, F, ⟨h1, a, b, c⟩ => by
    obtain ⟨h2, x, y, z⟩ := StG.bun_in (rs := rs) c
    refine ⟨frU h1 h2, ⟨h1, h2, a, x, fun q hq => (Fz.add_none.1 (y q hq)).2, rfl⟩, fun q hq => ?_, by rw [← add_frU]; exact z⟩
    rcases frU_ne.1 hq with h | h
    · exact b q h
    · exact (Fz.add_none.1 (y q h)).1
theorem StG.bun_out {G : Fz} {w : World} {L : List Res} : ∀ {rs : List Res} {F : Fz} {h : Frag}, bunH G rs h → Apart F h → StG G (F.add h) w L → StG G F w (rs ++ L)
  | [], F, h, e, _, hs => by cases e; rw [Fz.add_emp] at hs; exact hs
  | r :: rs, F, h, ⟨h1, h2, a, x, y, e⟩, ha, hs => by
    subst e
    rw [← add_frU] at hs
    refine ⟨h1, a, fun q hq => ha q (frU_ne.2 (.inl hq)), StG.bun_out (rs := rs) x (fun q hq => Fz.add_none.2 ⟨ha q (frU_ne.2 (.inr hq)), y q hq⟩) hs⟩

def Free {α : Type} (K : Kd α) : Prop := ∀ F G cs x, K.rd F cs x → K.rd G cs x
theorem rdAll_free {α : Type} {K : Kd α} (hK : Free K) {F G : Fz} : ∀ {xs : List α} {cs : List Value}, rdAll K F cs xs → rdAll K G cs xs
  | [], _, h => h
  | x :: xs, cs, ⟨c, d, e, h, r⟩ => ⟨c, d, e, hK _ _ _ _ h, rdAll_free hK r⟩
theorem own_free {α : Type} {K : Kd α} (hK : Free K) {F G : Fz} {v : Value} {e : TypeId} {xs : List α} {h : Frag} (hh : (Res.own K v e xs).holds F h) : (Res.own K v e xs).holds G h := by
  rcases hh with hh | ⟨g, cap, cur, a1, a2, a3, a4, a5, a6⟩
  · exact .inl hh
  · exact .inr ⟨g, cap, cur, a1, a2, a3, a4, a5, rdAll_free hK a6⟩
theorem Free.int {k : IntKind} : Free (kInt k) := fun _ _ _ _ h => h
theorem Free.raw : Free kRaw := fun _ _ _ _ h => h
theorem Free.arr {α : Type} {K : Kd α} {m : Nat} (h : Free K) : Free (kArr m K) := fun _ _ _ _ ⟨a, b⟩ => ⟨a, rdAll_free h b⟩
theorem Free.st2 {β : Type} {f g : Fld β} (hf : Free f.K) (hg : Free g.K) : Free (kSt [f, g]) := fun F G cs x ⟨c, d, e, h, c2, d2, e2, h2, r⟩ => ⟨c, d, e, hf _ _ _ _ h, c2, d2, e2, hg _ _ _ _ h2, r⟩

/-! ### Many owned slices -/
section
variable {β γ τ : Type} (KR : Kd γ) (KT : Kd τ) (mk : β → Value → γ) (tg : β → List τ) (TE TT : TypeId)
def owns (xs : List β) (qs : List Value) : List Res := List.zipWith (fun x q => Res.own KT q TT (tg x)) xs qs
def manyH (v : Value) (xs : List β) : Frag → Prop := fun h => ∃ (F : Fz) (qs : List Value), qs.length = xs.length ∧ bunH F (.own KR v TE (List.zipWith mk xs qs) :: owns KT tg TT xs qs) h
abbrev manyR (v : Value) (xs : List β) : Res := .any (manyH KR KT mk tg TE TT v xs)
end
section
variable {P : Program} {ops : Array Oper} {Q : Exit → Act → World → Prop} {rest : List Oper} {F0 : Fz} {n : Nat} {E : List (Nat × SV)} {L : List Res}
variable {d : Nat} {op : Op} {ty : TypeId} {pos : String} {aft : Array Edge} {s : SV}
variable {β γ τ : Type} {KR : Kd γ} {KT : Kd τ} {mk : β → Value → γ} {tg : β → List τ} {TE TT : TypeId} {v : Value} {xs : List β}
theorem owns_free (hT : Free KT) {F G : Fz} : ∀ {xs : List β} {qs : List Value} {h : Frag}, bunH F (owns KT tg TT xs qs) h → bunH G (owns KT tg TT xs qs) h
  | [], qs, h, hh => (show h = Frag.emp from hh)
  | _ :: _, [], h, hh => (show h = Frag.emp from hh)
  | x :: xs, q :: qs, h, ⟨h1, h2, a, b, c, e⟩ => ⟨h1, h2, own_free hT a, owns_free hT (xs := xs) (qs := qs) b, c, e⟩
theorem St.manyOpen (hR : Free KR) (hT : Free KT) {F : Fz} {w : World} (hs : St F w (manyR KR KT mk tg TE TT v xs :: L)) :
    ∃ qs, qs.length = xs.length ∧ St F w (.own KR v TE (List.zipWith mk xs qs) :: (owns KT tg TT xs qs ++ L)) := by
  obtain ⟨h, ⟨F', qs, hl, h1, h2, a, b, c, e⟩, hap, hs'⟩ := hs
  exact ⟨qs, hl, StG.bun_out (rs := .own KR v TE (List.zipWith mk xs qs) :: owns KT tg TT xs qs) ⟨h1, h2, own_free hR a, owns_free hT b, c, e⟩ hap hs'⟩
theorem St.manyClose {F : Fz} {w : World} {qs : List Value} (hl : qs.length = xs.length) (hs : St F w (.own KR v TE (List.zipWith mk xs qs) :: (owns KT tg TT xs qs ++ L))) : St F w (manyR KR KT mk tg TE TT v xs :: L) := by
  obtain ⟨h, hb, hap, hs'⟩ := StG.bun_in (rs := .own KR v TE (List.zipWith mk xs qs) :: owns KT tg TT xs qs) hs
  exact ⟨h, ⟨F, qs, hl, hb⟩, hap, hs'⟩
theorem Under.manyNil {X : Act → World → Prop} (k : Under F0 n E (manyR KR KT mk tg TE TT (.slice none 0 0) ([] : List β) :: L) X) : Under F0 n E L X := fun F a w h0 hE hS => by
  refine k F a w h0 hE (St.manyClose (qs := []) rfl ?_)
  refine ⟨Frag.emp, .inl ⟨rfl, rfl, rfl⟩, fun b hb => absurd rfl hb, ?_⟩
  rw [Fz.add_emp]; exact hS
theorem zip_push.{u} {ε : Type u} (f : β → Value → ε) : ∀ {xs : List β} {qs : List Value} {x : β} {q : Value}, qs.length = xs.length → List.zipWith f (xs ++ [x]) (qs ++ [q]) = List.zipWith f xs qs ++ [f x q]
  | [], [], _, _, _ => rfl
  | x :: xs, q :: qs, y, p, h => by
    simp only [List.cons_append, List.zipWith_cons_cons]
    rw [zip_push f (by simpa using h)]
  | [], _ :: _, _, _, h => by simp at h
  | _ :: _, [], _, _, h => by simp at h
/-- append(xs, x): x's slice goes in with it. -/
theorem Under.manyPush {z : γ} {bytes : Nat} {t u : TypeId} {S V : Operand} {x : β} {q : Value} {zs : List β} (hR : Free KR) (hT' : Free KT) (hz : Go.Sim.app xs [x] = some zs) (hT : P.underlying t = some (.slice TE)) (hu : srcT P u = true) (he : AT P TE KR z bytes)
    (hS : ev E S = some (.raw v)) (hV : ev E V = some s) (hr : Src P s KR [mk x q]) (hd : Nat.blt d n = true) (k : ∀ v', Under F0 n ((d, .raw v') :: E) (manyR KR KT mk tg TE TT v' zs :: L) (wpList P ops Q rest)) :
    Under F0 n E (manyR KR KT mk tg TE TT v xs :: .own KT q TT (tg x) :: L) (wpList P ops Q (⟨some d, .call ⟨.builtin .append, #[S, V], #[t, u]⟩, ty, pos, aft, none⟩ :: rest)) := fun F a w h0 hE hSt => by
  obtain ⟨qs, hl, hS2⟩ := hSt.manyOpen hR hT'
  obtain ⟨hroom, rfl⟩ := app_some hz
  have hz2 : Go.Sim.app (List.zipWith mk xs qs) [mk x q] = some (List.zipWith mk xs qs ++ [mk x q]) := by
    have hlen : (List.zipWith mk xs qs).length = xs.length := by simp [hl]
    have := hz
    simp only [Go.Sim.app]
    rw [if_pos]
    rw [hlen]; simpa using hroom
  refine Under.appG (L := owns KT tg TT xs qs ++ .own KT q TT (tg x) :: L) hz2 hT hu he hS hV hr hd (fun v' F a w h0 hE hS3 => ?_) F a w h0 hE hS2
  refine k v' F a w h0 hE (St.manyClose (qs := qs ++ [q]) (by simp [hl]) ?_)
  rw [zip_push mk hl]
  have e : owns KT tg TT (xs ++ [x]) (qs ++ [q]) = owns KT tg TT xs qs ++ [.own KT q TT (tg x)] := zip_push _ hl
  rw [e]
  simpa using hS3
theorem rdAll_zip {KB : Kd β} {F : Fz} (hcv : ∀ x q, (kSl KT).val F q (tg x) → ∀ cs, KR.rd F cs (mk x q) → KB.rd F cs x) : ∀ {xs : List β} {qs : List Value} {cs : List Value}, qs.length = xs.length → (∀ p ∈ List.zip xs qs, (kSl KT).val F p.2 (tg p.1)) → rdAll KR F cs (List.zipWith mk xs qs) → rdAll KB F cs xs
  | [], [], _, _, _, h => h
  | x :: xs, q :: qs, cs, hl, hv, ⟨c, d, e, h, r⟩ => ⟨c, d, e, hcv x q (hv (x, q) (by simp)) c h, rdAll_zip hcv (by simpa using hl) (fun p hp => hv p (by simp [hp])) r⟩
  | [], _ :: _, _, h, _, _ => by simp at h
  | _ :: _, [], _, h, _, _ => by simp at h
theorem own_val {α : Type} {K : Kd α} {v : Value} {e : TypeId} {xs : List α} {F : Fz} {h : Frag} (hh : (Res.own K v e xs).holds (F.add h) h) (hap : Apart F h) : (kSl K).val (F.add h) v xs := by
  rcases hh with ⟨rfl, rfl, _⟩ | ⟨g, cap, cur, rfl, rfl, h3, h4, h5, h6⟩
  · exact ⟨[.slice none 0 0], ⟨none, 0, rfl, Nat.le_refl _, .inl rfl⟩, rfl⟩
  · refine ⟨[.slice (some ⟨g, 0, none⟩) xs.length cap], ⟨_, cap, rfl, h3, .inr ⟨⟨g, 0, none⟩, cur, e, (0, 0), rfl, rfl, ?_, ?_, by simpa using h6⟩⟩, rfl⟩
    · have hg : F.blk g = none := hap g (by rw [Frag.one_at]; simp)
      simp only [Fz.add, hg]; exact Frag.one_at _ _
    · have : xs.length * K.n ≤ cap * K.n := Nat.mul_le_mul_right _ h3
      simp only; omega
theorem St.frzAll : ∀ {xs : List β} {qs : List Value} {F : Fz} {w : World}, St F w (owns KT tg TT xs qs ++ L) → ∃ G, F ≤ G ∧ St G w L ∧ ∀ p ∈ List.zip xs qs, (kSl KT).val G p.2 (tg p.1)
  | [], qs, F, w, h => ⟨F, Fz.rf F, by simpa [owns] using h, fun p hp => by simp at hp⟩
  | _ :: _, [], F, w, h => ⟨F, Fz.rf F, by simpa [owns] using h, fun p hp => by simp at hp⟩
  | x :: xs, q :: qs, F, w, h => by
    obtain ⟨f, hh, hap, hle, hS⟩ := St.freeze (r := .own KT q TT (tg x)) (L := owns KT tg TT xs qs ++ L) h
    obtain ⟨G, h1, h2, h3⟩ := St.frzAll (xs := xs) (qs := qs) hS
    refine ⟨G, Fz.tr hle h1, h2, fun p hp => ?_⟩
    rcases List.mem_cons.1 (by simpa using hp) with rfl | hp
    · exact (own_val hh hap).mono h1
    · exact h3 p hp
/-- All is frozen but the slice of structs itself. -/
theorem Under.manyPlain {KB : Kd β} {X : Act → World → Prop} (hR : Free KR) (hT : Free KT) (hn : KB.n = KR.n) (hcv : ∀ F x q, (kSl KT).val F q (tg x) → ∀ cs, KR.rd F cs (mk x q) → KB.rd F cs x) (k : Under F0 n E (.own KB v TE xs :: L) X) : Under F0 n E (manyR KR KT mk tg TE TT v xs :: L) X := fun F a w h0 hE hS => by
  obtain ⟨qs, hl, hS2⟩ := hS.manyOpen hR hT
  have hS3 : St F w (owns KT tg TT xs qs ++ (.own KR v TE (List.zipWith mk xs qs) :: L)) := hS2.perm List.perm_middle.symm
  obtain ⟨G, hg, hS4, hv⟩ := St.frzAll hS3
  refine k G a w (Fz.tr h0 hg) (hE.mono hg) (hS4.map fun f hf => ?_)
  have hlen : (List.zipWith mk xs qs).length = xs.length := by simp [hl]
  rcases hf with ⟨h1, h2, h3⟩ | ⟨g, cap, cur, a1, a2, a3, a4, a5, a6⟩
  · refine .inl ⟨h1, ?_, h3⟩
    have := congrArg List.length h2
    rw [hlen] at this
    exact List.eq_nil_of_length_eq_zero this
  · rw [hlen] at a1 a3 a6
    exact .inr ⟨g, cap, cur, a1, a2, a3, a4, by rw [hn]; exact a5, by rw [hn]; exact rdAll_zip (hcv G) hl hv a6⟩
/-- One of them is taken out; the way back. -/
theorem Under.manyTake {X : Act → World → Prop} {i : Int} {x : β} (hR : Free KR) (hT : Free KT) (hi : idx xs i = some x)
    (k : ∀ (q : Value) (ys : List γ) (Rs : List Res), ys.length = xs.length → idx ys i = some (mk x q) →
      (∀ x', mk x' q = mk x q → ∀ F w L', St F w (.own KR v TE ys :: .own KT q TT (tg x') :: (Rs ++ L')) → St F w (manyR KR KT mk tg TE TT v (xs.set i.toNat x') :: L')) →
      Under F0 n E (.own KR v TE ys :: .own KT q TT (tg x) :: (Rs ++ L)) X) : Under F0 n E (manyR KR KT mk tg TE TT v xs :: L) X := fun F a w h0 hE hS => by
  obtain ⟨qs, hl, hS2⟩ := hS.manyOpen hR hT
  obtain ⟨h1, h2, h3⟩ := idx_some hi
  have hlt : i.toNat < xs.length := (List.getElem?_eq_some_iff.1 h3).1
  have hltq : i.toNat < qs.length := by omega
  have hx : xs[i.toNat] = x := (List.getElem?_eq_some_iff.1 h3).2
  have spl : ∀ x', owns KT tg TT (xs.set i.toNat x') qs = owns KT tg TT (xs.take i.toNat) (qs.take i.toNat) ++ .own KT qs[i.toNat] TT (tg x') :: owns KT tg TT (xs.drop (i.toNat + 1)) (qs.drop (i.toNat + 1)) := fun x' => by
    unfold owns
    rw [List.set_eq_take_append_cons_drop, if_pos hlt]
    conv => lhs; rw [show qs = qs.take i.toNat ++ qs[i.toNat] :: qs.drop (i.toNat + 1) by simp]
    rw [List.zipWith_append (by simp; omega)]
    rfl
  have self : xs.set i.toNat x = xs := by rw [← hx]; simp
  have spl0 := spl x
  rw [self] at spl0
  rw [spl0] at hS2
  refine k qs[i.toNat] (List.zipWith mk xs qs) (owns KT tg TT (xs.take i.toNat) (qs.take i.toNat) ++ owns KT tg TT (xs.drop (i.toNat + 1)) (qs.drop (i.toNat + 1))) (by simp [hl]) ?_ (fun x' he F w L' h => ?_) F a w h0 hE (hS2.perm ?_)
  · unfold idx
    rw [if_pos h1, List.getElem?_zipWith, h3]
    simp [hltq]
  · refine St.manyClose (qs := qs) (by simp [hl]) ?_
    have hz : List.zipWith mk (xs.set i.toNat x') qs = List.zipWith mk xs qs := by
      refine List.ext_getElem? fun j => ?_
      rw [List.getElem?_zipWith, List.getElem?_zipWith, List.getElem?_set]
      by_cases hj : i.toNat = j
      · subst hj
        rw [if_pos rfl, if_pos hlt, h3]
        simp only [List.getElem?_eq_getElem hltq, he]
      · rw [if_neg hj]
    rw [hz, spl x']
    refine h.perm (List.Perm.cons _ ?_)
    simp only [List.append_assoc, List.cons_append]
    exact List.perm_middle.symm
  · refine List.Perm.cons _ ?_
    simp only [List.append_assoc, List.cons_append]
    exact List.perm_middle
end
end Go.Sim

/- Sim18: boxes with fields that hold slices of the call's own. -/
import Derived.Test.YtgllljocmpbooaaSim14
set_option linter.unusedVariables false
set_option linter.unusedSimpArgs false
namespace Go.Sim
open Go

/-- One cell, as it is. -/
def kRaw : Kd Value where
  n := 1
  agg := false
  rd := fun _ cs v => cs = [v] ∧ v.oneCell' = true
  len := fun h => by rw [h.1]; rfl
  mono := fun _ h => h
  one := fun h v hv => by rw [h.1] at hv; simp at hv; subst hv; exact h.2
  sole := fun _ => rfl
theorem val_raw {F : Fz} {v u : Value} (h : kRaw.val F v u) : v = u := by
  obtain ⟨cs, ⟨rfl, _⟩, e⟩ := h; exact e
theorem rdRaw {v : Value} (h : v.oneCell' = true) : rdOf (.raw v) kRaw v := fun F u hu => by
  simp only [SV.ok] at hu; subst hu; exact ⟨[u], ⟨rfl, h⟩, rfl⟩
theorem rdRawN : rdOf (.raw (.slice none 0 0)) kRaw (.slice none 0 0) := rdRaw rfl
/-- Fields read otherwise. -/
def CvF (F : Fz) {β γ : Type} : List (Fld γ) → List (Fld β) → γ → β → Prop
  | [], [], _, _ => True
  | f' :: fs', f :: fs, x', x => (∀ cs, f'.K.rd F cs (f'.get x') → f.K.rd F cs (f.get x)) ∧ CvF F fs' fs x' x
  | _, _, _, _ => False
theorem rdF_cv {F : Fz} {β γ : Type} : ∀ {fs' : List (Fld γ)} {fs : List (Fld β)} {x' : γ} {x : β} {cs : List Value}, CvF F fs' fs x' x → rdF F fs' cs x' → rdF F fs cs x
  | [], [], _, _, _, _, h => h
  | f' :: fs', f :: fs, _, _, _, ⟨h1, h2⟩, ⟨c, d, e, a, b⟩ => ⟨c, d, e, h1 c a, rdF_cv h2 b⟩
  | [], _ :: _, _, _, _, h, _ => h.elim
  | _ :: _, [], _, _, _, h, _ => h.elim
theorem cv_raw {α : Type} {K : Kd α} {F : Fz} {v : Value} {xs : List α} (h : (kSl K).val F v xs) : ∀ cs, kRaw.rd F cs v → (kSl K).rd F cs xs := by
  rintro cs ⟨rfl, _⟩
  obtain ⟨cs, ⟨a, cap, rfl, r⟩, rfl⟩ := h
  exact ⟨a, cap, rfl, r⟩
theorem cv_nil {α : Type} {K : Kd α} {F : Fz} : ∀ cs, kRaw.rd F cs (.slice none 0 0) → (kSl K).rd F cs ([] : List α) := by
  rintro cs ⟨rfl, _⟩
  exact ⟨none, 0, rfl, Nat.le_refl _, .inl rfl⟩

theorem St.map {F : Fz} {w : World} {L : List Res} {r r' : Res} (h : ∀ f, r.holds F f → r'.holds F f) (hs : St F w (r :: L)) : St F w (r' :: L) := by
  obtain ⟨f, a, b, c⟩ := hs; exact ⟨f, h f a, b, c⟩
section
variable {P : Program} {ops : Array Oper} {Q : Exit → Act → World → Prop} {rest : List Oper} {F0 : Fz} {n : Nat} {E : List (Nat × SV)} {L : List Res}
variable {d : Nat} {op : Op} {ty : TypeId} {pos : String} {aft : Array Edge} {s : SV}
theorem Under.rawR {v : Value} {t : Nat} {X : Act → World → Prop} (h : look E t = some (.val kRaw v)) (kk : Under F0 n ((t, .raw v) :: E) L X) : Under F0 n E L X := fun F a w h0 hE hS =>
  kk F a w h0 ⟨hE.defers, hE.size, fun u r e => by
    rw [look_cons] at e; split at e
    · rename_i hk; subst hk; cases e
      obtain ⟨u, h1, h2⟩ := hE.at_ t _ h
      simp only [SV.ok] at h2 ⊢
      exact ⟨u, h1, val_raw h2⟩
    · exact hE.at_ u r e⟩ hS
/-- An owned slice's value is one cell. -/
theorem Under.ownCell {α : Type} {K : Kd α} {v : Value} {e : TypeId} {xs : List α} {X : Act → World → Prop} (k : v.oneCell' = true → Under F0 n E (.own K v e xs :: L) X) : Under F0 n E (.own K v e xs :: L) X := fun F a w h0 hE hS => by
  have hS2 := hS
  obtain ⟨f, hf, _⟩ := hS2
  refine k ?_ F a w h0 hE hS
  rcases hf with ⟨rfl, _⟩ | ⟨g, cap, cur, rfl, _⟩ <;> rfl
/-- The owned slice that a field holds is frozen: the box reads plainly. -/
theorem Under.frzBO {α β γ : Type} {K : Kd α} {v : Value} {e : TypeId} {xs : List α} {fs' : List (Fld γ)} {fs : List (Fld β)} {b : Nat} {T : TypeId} {x' : γ} (x : β) {X : Act → World → Prop}
    (hc : ∀ F, (kSl K).val F v xs → CvF F fs' fs x' x) (k : Under F0 n E (.box (kSt fs) b T x :: L) X) : Under F0 n E (.own K v e xs :: .box (kSt fs') b T x' :: L) X := fun F a w h0 hE hS => by
  obtain ⟨h, hh, hap, hle, hS'⟩ := hS.freeze
  have hval : (kSl K).val (F.add h) v xs := by
    rcases hh with ⟨rfl, rfl, _⟩ | ⟨g, cap, cur, rfl, rfl, h3, h4, h5, h6⟩
    · exact ⟨[.slice none 0 0], ⟨none, 0, rfl, Nat.le_refl _, .inl rfl⟩, rfl⟩
    · refine ⟨[.slice (some ⟨g, 0, none⟩) xs.length cap], ⟨_, cap, rfl, h3, .inr ⟨⟨g, 0, none⟩, cur, e, (0, 0), rfl, rfl, ?_, ?_, by simpa using h6⟩⟩, rfl⟩
      · have hg : F.blk g = none := hap g (by rw [Frag.one_at]; simp)
        simp only [Fz.add, hg]; exact Frag.one_at _ _
      · have : xs.length * K.n ≤ cap * K.n := Nat.mul_le_mul_right _ h3
        simp only; omega
  refine k _ a w (Fz.tr h0 hle) (hE.mono hle) (hS'.map fun f hf => ?_)
  obtain ⟨cs, hr, rfl⟩ := hf
  exact ⟨cs, rdF_cv (hc _ hval) hr, rfl⟩
/-- A box reads otherwise. -/
theorem Under.cvB {β γ : Type} {fs' : List (Fld γ)} {fs : List (Fld β)} {b : Nat} {T : TypeId} {x' : γ} (x : β) {X : Act → World → Prop}
    (hc : ∀ F, CvF F fs' fs x' x) (k : Under F0 n E (.box (kSt fs) b T x :: L) X) : Under F0 n E (.box (kSt fs') b T x' :: L) X := fun F a w h0 hE hS =>
  k F a w h0 hE (hS.map (r := .box (kSt fs') b T x') (r' := .box (kSt fs) b T x) fun f hf => by obtain ⟨cs, hr, e⟩ := hf; exact ⟨cs, rdF_cv (hc _) hr, e⟩)
/-- The length of an owned slice. -/
theorem Under.lenO {α : Type} {K : Kd α} {v : Value} {e e' t : TypeId} {xs : List α} {X : Operand} (ht : P.underlying t = some (.slice e)) (hX : ev E X = some (.raw v)) (hd : Nat.blt d n = true)
    (k : Under F0 n ((d, .raw (.int .i64 xs.length)) :: E) (.own K v e' xs :: L) (wpList P ops Q rest)) : Under F0 n E (.own K v e' xs :: L) (wpList P ops Q (⟨some d, .call ⟨.builtin .len, #[X], #[t]⟩, ty, pos, aft, none⟩ :: rest)) :=
  Under.exec rfl fun F a w h0 hE hS => by
    have hS2 := hS
    obtain ⟨f, hf, _⟩ := hS2
    have hv := hE.raw hX
    have hr : (execOp a.eval (⟨some d, .call ⟨.builtin .len, #[X], #[t]⟩, ty, pos, aft, none⟩ : Oper)).run P w = .ok (.value (.int .i64 xs.length)) w := by
      rcases hf with ⟨rfl, rfl, _⟩ | ⟨g, cap, cur, rfl, _⟩ <;> simp [execOp, resolve, invoke, builtin, Builtin.len_, run_underlying ht, hv, goInt]
    unfold Oper.wp; rw [hr]
    exact k F _ _ h0 (hE.put hd (by simp only [SV.ok])) hS
end
end Go.Sim

/- LawRc: RoundChecks. -/
import Derived.Test.YtgllljocmpbooaaLawCheck
set_option linter.unusedVariables false
set_option linter.unusedSimpArgs false
namespace Go.Proofs.Ytgllljocmpbooaa
open Go Go.Sim

theorem sum_one {α : Type} (xs : List α) : (xs.map (bOne (α := α))).sum = xs.length := by
  induction xs with
  | nil => rfl
  | cons x xs ih => simp [bOne] at ih ⊢; omega
theorem goodW_of {w : Api_Window} (hg : g_Api_Window w) (hb : b_Api_Window w ≤ 1048576) : GoodW w := by
  obtain ⟨h1, ⟨h2, h3⟩, _⟩ := hg
  have hsum : (tagsOf w).length + w.Epochs.length ≤ (w.Epochs.map b_Api_Epoch).sum := by
    have : ∀ es : List Api_Epoch, (∀ e ∈ es, g_Api_Epoch e) → (es.flatMap (·.Tags)).length + es.length ≤ (es.map b_Api_Epoch).sum := by
      intro es hes
      induction es with
      | nil => simp
      | cons e es ih =>
        have i1 := ih fun x hx => hes x (by simp [hx])
        obtain ⟨_, ⟨g2, _⟩, _⟩ := hes e (by simp)
        have h16 : e.Tags.length ≤ (e.Tags.map (bArr bOne)).sum := by
          have : ∀ ts : List (List Int), (∀ t ∈ ts, gArr 16 (gInt .u8) t) → ts.length ≤ (ts.map (bArr bOne)).sum := by
            intro ts hts
            induction ts with
            | nil => simp
            | cons t ts ih2 =>
              have i2 := ih2 fun x hx => hts x (by simp [hx])
              have i3 := (hts t (by simp)).2
              have : bArr bOne t = t.length := sum_one t
              simp only [List.map_cons, List.sum_cons, List.length_cons, this]; omega
          exact this _ g2
        have hbe : b_Api_Epoch e = bOne e.Number + (bSl (bArr bOne) e.Tags + 0) := rfl
        have hb2 : bSl (bArr bOne) e.Tags = (e.Tags.map (bArr bOne)).sum + 1 := rfl
        simp only [List.flatMap_cons, List.length_append, List.map_cons, List.sum_cons, List.length_cons, hbe, hb2]
        omega
    exact this _ h2
  have hbw : b_Api_Window w = bOne w.Newest + (((w.Epochs.map b_Api_Epoch).sum + 1) + 0) := rfl
  refine ⟨h1, fun e he => (h2 e he).1, fun t ht => ?_, by unfold lenOf; omega, by omega⟩
  obtain ⟨e, he, het⟩ := List.mem_flatMap.1 ht
  obtain ⟨_, ⟨g2, _⟩, _⟩ := h2 e he
  exact ⟨(g2 t het).2, fun b hb => (g2 t het).1 b hb⟩
theorem within_same (a b c : Int) : f_round_within a b c = f_churnref21_within a b c := by simp [f_round_within, f_churnref21_within]
theorem right_same (c : Api_Config) : f_round_right c = f_churnref21_Right c := by simp only [f_round_right, f_churnref21_Right, within_same]
theorem right_some (c : Api_Config) : ∃ b, f_round_right c = some b := by
  have hw : ∀ x y z, ∃ b, f_round_within x y z = some b := fun x y z => ⟨_, rfl⟩
  unfold f_round_right
  have step : ∀ (q : Bool) (x y z : Int) (k : Bool → Option Bool), (∀ b, ∃ r, k b = some r) → ∃ r, ((bif q then (f_round_within x y z).bind fun y => some y else some false : Option Bool)).bind k = some r := by
    intro q x y z k hk
    obtain ⟨b, hb⟩ := hw x y z
    cases q with
    | true => simpa [hb] using hk b
    | false => simpa using hk false
  refine step _ _ _ _ _ fun _ => ?_
  refine step _ _ _ _ _ fun _ => ?_
  refine step _ _ _ _ _ fun _ => ?_
  refine step _ _ _ _ _ fun _ => ?_
  refine step _ _ _ _ _ fun _ => ?_
  refine step _ _ _ _ _ fun _ => ?_
  refine step _ _ _ _ _ fun _ => ?_
  refine step _ _ _ _ _ fun _ => ?_
  refine step _ _ _ _ _ fun _ => ?_
  refine step _ _ _ _ _ fun _ => ?_
  exact ⟨_, rfl⟩
theorem good0 : GoodW ⟨0, []⟩ := ⟨⟨by decide, by decide⟩, by simp, by simp [tagsOf], by simp [lenOf, tagsOf], by simp⟩
theorem law : DRoundChecks.Law := by
  intro c s hc hs hb
  obtain ⟨hn, hw, _⟩ := hs
  have hbs : b_Api_State s = bOne s.Next + (b_Api_Window s.Window + 0) := rfl
  have good := goodW_of hw (by omega)
  have e1 : f_round_Check ⟨[], 0, 0, 0, 0, 0, 0, 0, 0, 0, 0⟩ ⟨0, ⟨0, []⟩⟩ = some 210 := by
    have : f_round_right ⟨[], 0, 0, 0, 0, 0, 0, 0, 0, 0, 0⟩ = some false := by simp [f_round_right, f_round_within]
    simp [f_round_Check, this]
  have e2 : f_churnlaw21_plain = some ⟨List.replicate 32 0, 2, 1, 0, 0, 1, 0, 1, 1, 0, 1⟩ := by
    have : mkB 32 32 = true := by decide
    simp [f_churnlaw21_plain, this]
  have e3 : f_round_Check ⟨List.replicate 32 0, 2, 1, 0, 0, 1, 0, 1, 1, 0, 1⟩ ⟨0, ⟨0, []⟩⟩ = some 0 := by
    have h1 : f_round_right ⟨List.replicate 32 0, 2, 1, 0, 0, 1, 0, 1, 1, 0, 1⟩ = some true := by simp [f_round_right, f_round_within]
    have h2 := window_Check good0 (s := 1) (r := 0)
    have h3 : (c1 1 0 && c2 ⟨0, []⟩ 0 && c3 ⟨0, []⟩ && allIn (okW ⟨0, []⟩ 1) (⟨0, []⟩ : Api_Window).Epochs.length 0) = true := by decide
    rw [h3] at h2
    unfold f_round_Check
    rw [h1]
    simp only [Option.bind_some]
    rw [h2]
    decide
  have e4 : f_churnref21_Check c s = f_round_Check c s := by
    unfold f_churnref21_Check f_round_Check
    rw [right_same]
    simp only [checks_same good]
  unfold f_churnlaw21_RoundChecks
  rw [e1, e2, e4]
  simp only [Option.bind_some, e3]
  obtain ⟨b, hb⟩ := right_some c
  have hsome : ∃ q, f_round_Check c s = some q := by
    unfold f_round_Check
    rw [hb, window_Check good]
    simp only [Option.bind_some]
    generalize (c1 c.Span c.Room && c2 s.Window c.Room && c3 s.Window && allIn (okW s.Window c.Span) s.Window.Epochs.length 0) = z
    cases (!b || decide (s.Next < 0) || decide (s.Next > 4611686018427387904)) <;> cases z <;> exact ⟨_, rfl⟩
  obtain ⟨q, hq⟩ := hsome
  simp [hq]
theorem roundChecksUpto : Rows.RoundChecksUptoSaid := DRoundChecks.said law
end Go.Proofs.Ytgllljocmpbooaa

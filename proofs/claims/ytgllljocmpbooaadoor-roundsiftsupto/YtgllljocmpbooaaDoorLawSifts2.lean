/- LawSifts2: RoundSifts is true of every input (of bulk up to 1048576): the tied card. -/
import Derived.Test.YtgllljocmpbooaaDoorLawSift
import Derived.Test.YtgllljocmpbooaaDoorRoundSiftsS
set_option linter.unusedVariables false
set_option linter.unusedSimpArgs false
set_option maxRecDepth 20000
namespace Go.Proofs.YtgllljocmpbooaaDoor
open Go Go.Sim
theorem bsl_len {α : Type} {b : α → Nat} (h : ∀ x, 1 ≤ b x) : ∀ xs : List α, xs.length ≤ (xs.map b).sum
  | [] => by simp
  | x :: xs => by have := bsl_len h xs; have := h x; simp only [List.map_cons, List.sum_cons, List.length_cons]; omega
theorem mem_sum {α : Type} {b : α → Nat} {x : α} : ∀ {xs : List α}, x ∈ xs → b x ≤ (xs.map b).sum
  | [], h => by cases h
  | y :: ys, h => by
    simp only [List.map_cons, List.sum_cons]
    rcases List.mem_cons.1 h with rfl | h
    · omega
    · have := mem_sum (b := b) h; omega
theorem bArr_one (t : List Int) : bArr (bOne (α := Int)) t = t.length := by
  induction t with
  | nil => rfl
  | cons x t ih => simp [bArr, bOne] at ih ⊢; omega
theorem smallW_of {w : Api_Window} (hg : g_Api_Window w) (hb : b_Api_Window w ≤ 1048576) : SmallW w := by
  obtain ⟨_, ⟨h2, _⟩, _⟩ := hg
  have hbw : b_Api_Window w = bOne w.Newest + (((w.Epochs.map b_Api_Epoch).sum + 1) + 0) := rfl
  have hbe : ∀ e, b_Api_Epoch e = bOne e.Number + (((e.Tags.map (bArr bOne)).sum + 1) + 0) := fun _ => rfl
  refine ⟨?_, fun e he => ?_⟩
  · have := bsl_len (b := b_Api_Epoch) (fun x => by rw [hbe]; omega) w.Epochs
    omega
  · have h1 := mem_sum (b := b_Api_Epoch) he
    rw [hbe] at h1
    have h2 : e.Tags.length ≤ (e.Tags.map (bArr bOne)).sum := by
      obtain ⟨_, ⟨g2, _⟩, _⟩ := h2 e he
      have : ∀ ts : List (List Int), (∀ t ∈ ts, gArr 16 (gInt .u8) t) → ts.length ≤ (ts.map (bArr bOne)).sum := by
        intro ts hts
        induction ts with
        | nil => simp
        | cons t ts ih2 =>
          have i2 := ih2 fun x hx => hts x (by simp [hx])
          have i3 := (hts t (by simp)).2
          simp only [List.map_cons, List.sum_cons, List.length_cons, bArr_one]; omega
      exact this _ g2
    omega
theorem report_self (r : Api_Report) : (r != r) = false := by
  show (!(r.In == r.In && (r.Malformed == r.Malformed && (r.Replays == r.Replays && (r.Noise == r.Noise && (r.Out == r.Out && (true))))))) = false
  simp
/-- The look at the start. -/
theorem plain_eq : f_churnlaw21_plain = some ⟨List.replicate 32 0, 2, 1, 0, 0, 1, 0, 1, 1, 0, 1⟩ := by
  unfold f_churnlaw21_plain
  have : mkB 32 32 = true := by decide
  rw [this]; rfl
theorem awake_eq : siftS ⟨List.replicate 32 0, 2, 1, 0, 0, 1, 0, 1, 1, 0, 1⟩ ⟨0, []⟩ ⟨⟨0, 0, 0⟩, [[]]⟩ = ([], ⟨1, 1, 0, 0, 0⟩, 0) := by
  unfold siftS
  have hr : f_round_right ⟨List.replicate 32 0, 2, 1, 0, 0, 1, 0, 1, 1, 0, 1⟩ = some true := rfl
  rw [hr]
  simp only [Option.getD_some, Bool.not_true, cond_false]
  have hk : (keyS (List.replicate 32 0) 0) = (derS (List.replicate 32 0) (epL 0) HP 32, 0) := by
    unfold keyS
    have : badK (List.replicate 32 0) 0 = false := by decide
    rw [this]; rfl
  rw [hk]
  have hl := derS_len (List.replicate 32 0) (epL 0) HP 32
  simp only
  generalize derS (List.replicate 32 0) (epL 0) HP 32 = key at *
  have hp : peelS key 2 [] = (zeroP, 50) := by
    unfold peelS
    have e1 : (key.length != 32 || sizeS 2 == 0) = false := by rw [hl]; rfl
    rw [e1]; rfl
  have h1 : stS (fun i => peelS key 2 (([[]] : List (List Int)).getD i [])) ⟨0, []⟩ 1 1 = ([], ⟨1, 1, 0, 0, 0⟩) := by
    show stepS _ _ ([], ⟨((1 : Nat) : Int), 0, 0, 0, 0⟩) 0 = _
    unfold stepS
    have ho : okS (fun i => peelS key 2 (([[]] : List (List Int)).getD i [])) 0 = false := by
      unfold okS
      show ((peelS key 2 []).2 == 0) = false
      rw [hp]; rfl
    rw [ho]; rfl
  show (bif ((0 : Int) != 0) then _ else ((stS (fun i => peelS key 2 (([[]] : List (List Int)).getD i [])) ⟨0, []⟩ 1 1).1, (stS (fun i => peelS key 2 (([[]] : List (List Int)).getD i [])) ⟨0, []⟩ 1 1).2, (0 : Int))) = _
  rw [h1]; rfl
theorem lawSifts : DRoundSifts.Law := by
  intro o hg hb
  obtain ⟨g1, g2, g3, _⟩ := hg
  have hbo : b_Churnlaw21_Batch o = b_Api_Config o.C + (b_Api_Window o.W + (b_Api_Batch o.B + 0)) := rfl
  have hw := smallW_of g2 (by omega)
  have hcells : ∀ x ∈ o.B.Cells, byteL x := fun x hx b hbx => (g3.2.1.1 x hx).1 b hbx
  unfold f_churnlaw21_RoundSifts
  rw [plain_eq]
  simp only [bindS]
  rw [round_Sift ⟨by simp, by simp⟩ (fun x hx b hb => by simp at hx; subst hx; cases hb) (by simp), awake_eq]
  simp only [bindS]
  show (bif decide ((o.B.Cells.length : Int) > 2000) then some true else _) = some true
  cases hc : decide ((o.B.Cells.length : Int) > 2000) with
  | true => rfl
  | false =>
    have hc := of_decide_eq_false hc
    simp only [cond_false]
    rw [round_Sift hw hcells (by omega), ref_Sift hw hcells (by omega)]
    simp only [bindS, bne_self_eq_false, report_self, Bool.or_self, cond_false]
    have hlen : (siftS o.C o.W o.B).1.length ≤ 2000 := by
      unfold siftS
      cases !((f_round_right o.C).getD false) with
      | true => simp
      | false =>
        cases ((keyS o.C.Master o.B.Header.Epoch).2 != 0) with
        | true => simp
        | false => exact Nat.le_trans (st_len _ _ _ _) (by omega)
    generalize (siftS o.C o.W o.B).1 = l at *
    rw [run_scan (p := fun _ => false) (good := .inl ()) (bad := .inr false) false 0 l.length (by omega) (by simp) ?_ (bif_ff (decide_eq_false (by omega))) (by rfl)]
    · rfl
    · intro i _ hi
      have h1 : decide ((i : Int) < (l.length : Int)) = true := decide_eq_true (by omega)
      rw [h1, cond_true, idx_atG zeroP rfl hi]
      simp only [bindS, bne_self_eq_false, cond_false]
      rw [wrap64 (by omega)]; rfl
theorem roundSiftsUpto : Rows.RoundSiftsUptoCardSaid := DRoundSifts.card lawSifts
#print axioms roundSiftsUpto
end Go.Proofs.YtgllljocmpbooaaDoor

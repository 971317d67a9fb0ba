/- PRINTED BY gen2.py (of this repo): the row of RoundSifts. -/
import Derived.Test.YtgllljocmpbooaaDoorRs4
import Derived.ProofKit
import Derived.Deep.DeepHandedRow
import Derived.LaidMore
import Derived.Lib.LaidTab
set_option linter.unusedVariables false
set_option linter.unusedSimpArgs false
set_option maxRecDepth 20000
namespace Go.Proofs.YtgllljocmpbooaaDoor
open Go Go.Sim Go.ChangeShapes Go.WideShapes Go.ChangeAt Go.RowKit
namespace DRoundSifts
def Law : Prop := ∀ (x0 : Churnlaw21_Batch), g_Churnlaw21_Batch x0 → b_Churnlaw21_Batch x0 ≤ 1048576 → f_churnlaw21_RoundSifts x0 = some true
theorem gTab : Tryd.prog.globalNamed "churn/hash.roots" = some 0 := by kernel_rfl
theorem gTabType : (Tryd.prog.globals[0]?).map (·.type) = some 136 := by kernel_rfl
theorem cellsT : Tryd.prog.cellsOf 136 = 64 := by kernel_rfl
theorem cellsE : Tryd.prog.cellsOf 97 = 1 := by kernel_rfl
/-- What the row's list gives. -/
theorem table {W : World} (h : laidMetH Tryd.prog Rows.roundSiftsUptoRow.laid W) : Lib.TabIs Tryd.prog W "churn/hash.roots" .u32 glob0 :=
  Lib.tabIs_of_head (rest := []) gTab gTabType Tryd.underlying136 Tryd.underlying97 cellsE cellsT h
theorem globW {W : World} (h : laidMetH Tryd.prog Rows.roundSiftsUptoRow.laid W) : GlobW W := ⟨fun g k xs e => by
  have ht := table h
  unfold Lib.TabIs World.var? at ht
  rw [gTab] at ht
  simp only [Option.bind_some] at ht
  cases hb : Nat.beq 0 g with
  | false =>
    have e2 : findG g globT = none := by
      show cond (Nat.beq 0 g) _ _ = _
      rw [hb]; rfl
    rw [e2] at e; cases e
  | true =>
    obtain rfl : 0 = g := Nat.eq_of_beq_eq_true hb
    have e2 : findG 0 globT = some (.u32, glob0) := rfl
    rw [e2] at e
    cases e
    split at ht
    · rename_i cs t fr hh
      cases ht
      exact ⟨_, _, hh⟩
    · cases ht⟩
theorem own : ownKnob Tryd.prog.godebug = none := by kernel_rfl
theorem kids : Kids Tryd.prog (· < Tryd.prog.types.size) := kids_rows (by kernel_rfl) (by kernel_rfl)
theorem full : ∀ t e, t < Tryd.prog.types.size → Tryd.prog.underlying t = some (.slice e) → 0 < Tryd.prog.cellsOf e := slices_full_of Tryd.prog (by kernel_rfl)
theorem blk (H : Type) : Blk (Rows.uptoBulk (H := H)) Rows.uptoBulkAll := ⟨by simp [Rows.uptoBulkAll], fun _ _ => by simp [Rows.uptoBulkAll], fun _ _ => by simp only [Rows.uptoBulk]; omega, fun _ => by simp [Rows.uptoBulk], fun l => by cases l <;> simp [Rows.uptoBulk], fun _ => by simp [Rows.uptoBulk], by simp [Rows.uptoBulk]⟩
theorem contract (law : Law) (H : Type) (enc : TypeId × Value → H) (W : World) (base : Nat) (args : Array Value) (ds gs : List (DataW H)) (before : List MemPlace)
    (hval : ∀ (j : Nat) t v, Tryd.f3.params[j]? = some t → args[j]? = some v → Value.okWide Tryd.prog W .any base t v)
    (hW : DataW.Whole enc Tryd.prog Tryd.f3.params.toList Rows.roundSiftsSpec.vars false W args.toList ds gs before) (hk : Rows.uptoSmall H (ds ++ gs) = true) (hL : laidMetH Tryd.prog Rows.roundSiftsUptoRow.laid W) :
    Calls Tryd.prog 3 args W fun e W' => ∃ v, e = .returned v ∧ Rows.roundSiftsSpec.post enc Tryd.prog Tryd.f3 false true false false W args v W' := by
  have hW0 := hW
  haveI : GlobW W := globW hL
  obtain ⟨p, q, hA, hV, hpq, hz, hn⟩ := hW
  obtain ⟨rfl, rfl⟩ := trodVars_none hV
  rw [show Tryd.f3.params.toList = [34] from by rw [Tryd.params3]] at hA
  rw [Tryd.params3] at hval
  obtain ⟨v0, vs0, d0, ds0, p0, q0, ha0, hd0, _, t0, r0⟩ := trodAll_cons hA
  obtain ⟨hvn, hdn, _⟩ := trodAll_nil r0
  subst hvn
  subst hdn
  subst hd0
  obtain rfl : args = #[v0] := by cases args; simp_all
  obtain ⟨n0, t0⟩ := t0
  obtain ⟨x0, c0, g0, b0⟩ := rw34 (blk H) t0
  have k0 := Kd.val_of (K := kChurnlaw21_Batch) kt34.agg (hval 0 34 v0 rfl rfl) c0
  dsimp only at b0
  have hb := of_decide_eq_true hk
  simp only [Rows.uptoBulkAll, List.append_nil] at hb
  have hlaw := law x0 g0 (by omega)
  refine door_true hW0 rfl rfl (tb := 4) rfl Tryd.underlying4 kids full (by rw [Tryd.params3]; decide) ?_
  exact f_churnlaw21_RoundSifts_ok hlaw [] (FzOf W) W [v0] (by simp only [SV.oks, SV.ok]; exact ⟨k0, trivial⟩) (St.start W)
/-- A world for the witness. -/
noncomputable def laidWorld (os : Os) : World :=
  { World.holding Tryd.prog os ⟨#[], #[], []⟩ with heap := (World.holding Tryd.prog os ⟨#[], #[], []⟩).heap.modify 0 fun
      | .cells _ t frozen => .cells (glob0.map (Value.int .u32 ·)).toArray t frozen
      | o => o }
theorem laid_met (os : Os) : laidMet Tryd.prog Rows.roundSiftsUptoRow.laid ((laidWorld os).forCall (fun _ _ => 0) ⟨#[], #[(Value.agg #[.slice none 0 0, .int .i64 0, .int .i64 0, .int .i64 0, .int .i64 0, .int .i64 0, .int .i64 0, .int .i64 0, .int .i64 0, .int .i64 0, .int .i64 0, .int .i64 0, .slice none 0 0, .int .i64 0, .int .i64 0, .int .i64 0, .slice none 0 0] : Value)], []⟩).memory :=
  laidMet_of_run' 8 (by kernel_rfl) (by kernel_rfl)
theorem reads (os : Os) {H : Type} (enc : TypeId × Value → H) : ∃ places, DataW.whole enc Tryd.prog ((laidWorld os).forCall (fun _ _ => 0) ⟨#[], #[(Value.agg #[.slice none 0 0, .int .i64 0, .int .i64 0, .int .i64 0, .int .i64 0, .int .i64 0, .int .i64 0, .int .i64 0, .int .i64 0, .int .i64 0, .int .i64 0, .int .i64 0, .slice none 0 0, .int .i64 0, .int .i64 0, .int .i64 0, .slice none 0 0] : Value)], []⟩).memory Tryd.f3.params.toList Rows.roundSiftsSpec.vars false (#[(Value.agg #[.slice none 0 0, .int .i64 0, .int .i64 0, .int .i64 0, .int .i64 0, .int .i64 0, .int .i64 0, .int .i64 0, .int .i64 0, .int .i64 0, .int .i64 0, .int .i64 0, .slice none 0 0, .int .i64 0, .int .i64 0, .int .i64 0, .slice none 0 0] : Value)]).toList 8 = some ([.agg [.agg [.nil, .lit (.int .i64 0), .lit (.int .i64 0), .lit (.int .i64 0), .lit (.int .i64 0), .lit (.int .i64 0), .lit (.int .i64 0), .lit (.int .i64 0), .lit (.int .i64 0), .lit (.int .i64 0), .lit (.int .i64 0)], .agg [.lit (.int .i64 0), .nil], .agg [.agg [.lit (.int .i64 0), .lit (.int .i64 0), .lit (.int .i64 0)], .nil]]], [], places) :=
  ⟨[], by kernel_rfl⟩
set_option maxRecDepth 100000 in
theorem lifted (law : Law) (os : Os) (started : os.Started) (H : Type) (enc : TypeId × Value → H) (F : Stop.Interp) :
    ReturnsInHanded {} Tryd.checked os 3 .any ((Rows.OpenSpec.upto Rows.roundSiftsSpec).preRow enc Tryd.prog Tryd.f3 Rows.roundSiftsUptoRow.domain false Rows.roundSiftsUptoRow.laid) (((Rows.OpenSpec.upto Rows.roundSiftsSpec).at F).post enc Tryd.prog Tryd.f3 false true false false) := by
  obtain ⟨places, hx⟩ := reads os enc
  refine returnsInHanded_of_row (C := Tryd.checked) (s := Rows.OpenSpec.upto Rows.roundSiftsSpec) own started (by kernel_rfl) Tryd.func3
    (witness_row_at (enc := enc) (C := Tryd.checked) false (laidWorld os) #[(Value.agg #[.slice none 0 0, .int .i64 0, .int .i64 0, .int .i64 0, .int .i64 0, .int .i64 0, .int .i64 0, .int .i64 0, .int .i64 0, .int .i64 0, .int .i64 0, .int .i64 0, .slice none 0 0, .int .i64 0, .int .i64 0, .int .i64 0, .slice none 0 0] : Value)] rfl (by kernel_rfl) (by kernel_rfl) (by kernel_rfl)
      (OpenSpec.preRow_of_cond 8 hx (by kernel_rfl) (fun k hk => by cases hk; kernel_rfl) (by kernel_rfl) (laid_met os))) ?_
  intro W base args ds gs before hval hW _ hk _ hL _ _
  exact contract law H enc W base args ds gs before hval hW (hk _ rfl) hL
end DRoundSifts
end Go.Proofs.YtgllljocmpbooaaDoor

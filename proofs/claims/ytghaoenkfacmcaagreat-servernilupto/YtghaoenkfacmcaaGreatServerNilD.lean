/- PRINTED BY gen2.py (of this repo): the row of ServerNil. -/
import Derived.Test.YtghaoenkfacmcaaGreatGn0
set_option linter.unusedVariables false
set_option linter.unusedSimpArgs false
set_option maxRecDepth 20000
namespace Go.Proofs.YtghaoenkfacmcaaGreat
open Go Go.Sim Go.ChangeShapes Go.WideShapes Go.ChangeAt Go.RowKit
namespace DServerNil
def Law : Prop := ∀ (x0 : List Churnlaw24_Step), (gSl g_Churnlaw24_Step) x0 → (bSl b_Churnlaw24_Step) x0 ≤ 1048576 → f_churnlaw24_ServerNil x0 = some true
theorem own : ownKnob Tryz.prog.godebug = none := by kernel_rfl
theorem kids : Kids Tryz.prog (· < Tryz.prog.types.size) := kids_rows (by kernel_rfl) (by kernel_rfl)
theorem full : ∀ t e, t < Tryz.prog.types.size → Tryz.prog.underlying t = some (.slice e) → 0 < Tryz.prog.cellsOf e := slices_full_of Tryz.prog (by kernel_rfl)
theorem blk (H : Type) : Blk (Rows.uptoBulk (H := H)) Rows.uptoBulkAll := ⟨by simp [Rows.uptoBulkAll], fun _ _ => by simp [Rows.uptoBulkAll], fun _ _ => by simp only [Rows.uptoBulk]; omega, fun _ => by simp [Rows.uptoBulk], fun l => by cases l <;> simp [Rows.uptoBulk], fun _ => by simp [Rows.uptoBulk], by simp [Rows.uptoBulk]⟩
theorem contract (law : Law) (H : Type) (enc : TypeId × Value → H) (W : World) (base : Nat) (args : Array Value) (ds gs : List (DataW H)) (before : List MemPlace)
    (hval : ∀ (j : Nat) t v, Tryz.f3.params[j]? = some t → args[j]? = some v → Value.okWide Tryz.prog W .any base t v)
    (hW : DataW.Whole enc Tryz.prog Tryz.f3.params.toList Rows.serverNilSpec.vars false W args.toList ds gs before) (hk : Rows.uptoSmall H (ds ++ gs) = true) :
    Calls Tryz.prog 3 args W fun e W' => ∃ v, e = .returned v ∧ Rows.serverNilSpec.post enc Tryz.prog Tryz.f3 false true false false W args v W' := by
  have hW0 := hW
  obtain ⟨p, q, hA, hV, hpq, hz, hn⟩ := hW
  obtain ⟨rfl, rfl⟩ := trodVars_none hV
  rw [show Tryz.f3.params.toList = [22] from by rw [Tryz.params3]] at hA
  rw [Tryz.params3] at hval
  obtain ⟨v0, vs0, d0, ds0, p0, q0, ha0, hd0, _, t0, r0⟩ := trodAll_cons hA
  obtain ⟨hvn, hdn, _⟩ := trodAll_nil r0
  subst hvn
  subst hdn
  subst hd0
  obtain rfl : args = #[v0] := by cases args; simp_all
  obtain ⟨n0, t0⟩ := t0
  obtain ⟨x0, c0, g0, b0⟩ := rw22 (blk H) t0
  have k0 := Kd.val_of (K := kSl kChurnlaw24_Step) kt22.agg (hval 0 22 v0 rfl rfl) c0
  dsimp only at b0
  have hb := of_decide_eq_true hk
  simp only [Rows.uptoBulkAll, List.append_nil] at hb
  have hlaw := law x0 g0 (by omega)
  refine door_true hW0 rfl rfl (tb := 4) rfl Tryz.underlying4 kids full (by rw [Tryz.params3]; decide) ?_
  exact f_churnlaw24_ServerNil_ok hlaw [] (FzOf W) W [v0] (by simp only [SV.oks, SV.ok]; exact ⟨k0, trivial⟩) (St.start W)
set_option maxRecDepth 100000 in
theorem lifted (law : Law) (os : Os) (started : os.Started) (H : Type) (enc : TypeId × Value → H) (F : Stop.Interp) :
    ReturnsInHanded {} Tryz.checked os 3 .any ((Rows.OpenSpec.upto Rows.serverNilSpec).pre6 enc Tryz.prog Tryz.f3 Rows.serverNilUptoRow.domain false) (((Rows.OpenSpec.upto Rows.serverNilSpec).at F).post enc Tryz.prog Tryz.f3 false true false false) := by
  refine returnsInHanded_of_cond (C := Tryz.checked) (s := Rows.OpenSpec.upto Rows.serverNilSpec) (k := Rows.uptoSmall) rfl own started (by kernel_rfl) Tryz.func3
    (OpenSpec.witness (enc := enc) (C := Tryz.checked) (s := Rows.OpenSpec.upto Rows.serverNilSpec) (k := Rows.uptoSmall) rfl false ⟨#[], #[(.slice none 0 0 : Value)], []⟩ 8 (by kernel_rfl) (by kernel_rfl) (by kernel_rfl)
      (x := ([.nil], [], [])) (by kernel_rfl) rfl (by kernel_rfl)) ?_
  intro W base args ds gs before hval hW _ hk _
  exact contract law H enc W base args ds gs before hval hW hk
end DServerNil
end Go.Proofs.YtghaoenkfacmcaaGreat

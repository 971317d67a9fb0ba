/- PRINTED BY gen2.py (of this repo): the row of WindowNames. -/
import Derived.Test.YtgllljocmpbooaaWn3
set_option linter.unusedVariables false
set_option linter.unusedSimpArgs false
set_option maxRecDepth 20000
namespace Go.Proofs.Ytgllljocmpbooaa
open Go Go.Sim Go.ChangeShapes Go.WideShapes Go.ChangeAt Go.RowKit
namespace DWindowNames
def Law : Prop := f_churnlaw16_WindowNames = some true
theorem own : ownKnob Try.prog.godebug = none := by kernel_rfl
theorem kids : Kids Try.prog (· < Try.prog.types.size) := kids_rows (by kernel_rfl) (by kernel_rfl)
theorem full : ∀ t e, t < Try.prog.types.size → Try.prog.underlying t = some (.slice e) → 0 < Try.prog.cellsOf e := slices_full_of Try.prog (by kernel_rfl)
theorem blk (H : Type) : Blk (Rows.uptoBulk (H := H)) Rows.uptoBulkAll := ⟨by simp [Rows.uptoBulkAll], fun _ _ => by simp [Rows.uptoBulkAll], fun _ _ => by simp only [Rows.uptoBulk]; omega, fun _ => by simp [Rows.uptoBulk], fun l => by cases l <;> simp [Rows.uptoBulk], fun _ => by simp [Rows.uptoBulk], by simp [Rows.uptoBulk]⟩
theorem contract (law : Law) (H : Type) (enc : TypeId × Value → H) (W : World) (base : Nat) (args : Array Value) (ds gs : List (DataW H)) (before : List MemPlace)
    (hval : ∀ (j : Nat) t v, Try.f4.params[j]? = some t → args[j]? = some v → Value.okWide Try.prog W .any base t v)
    (hW : DataW.Whole enc Try.prog Try.f4.params.toList Rows.windowNamesSpec.vars false W args.toList ds gs before) (hk : Rows.uptoSmall H (ds ++ gs) = true) :
    Calls Try.prog 4 args W fun e W' => ∃ v, e = .returned v ∧ Rows.windowNamesSpec.post enc Try.prog Try.f4 false true false false W args v W' := by
  have hW0 := hW
  obtain ⟨p, q, hA, hV, hpq, hz, hn⟩ := hW
  obtain ⟨rfl, rfl⟩ := trodVars_none hV
  rw [show Try.f4.params.toList = [] from by rw [Try.params4]] at hA
  rw [Try.params4] at hval
  obtain ⟨hvn, hdn, _⟩ := trodAll_nil hA
  subst hdn
  obtain rfl : args = #[] := by cases args; simp_all
  have hlaw := law
  refine door_true hW0 rfl rfl (tb := 4) rfl Try.underlying4 kids full (by rw [Try.params4]; decide) ?_
  exact f_churnlaw16_WindowNames_ok hlaw [] (FzOf W) W [] (by simp only [SV.oks, SV.ok]) (St.start W)
set_option maxRecDepth 100000 in
theorem lifted (law : Law) (os : Os) (started : os.Started) (H : Type) (enc : TypeId × Value → H) (F : Stop.Interp) :
    ReturnsInHanded {} Try.checked os 4 .any ((Rows.OpenSpec.upto Rows.windowNamesSpec).pre6 enc Try.prog Try.f4 Rows.windowNamesUptoRow.domain false) (((Rows.OpenSpec.upto Rows.windowNamesSpec).at F).post enc Try.prog Try.f4 false true false false) := by
  refine returnsInHanded_of_cond (C := Try.checked) (s := Rows.OpenSpec.upto Rows.windowNamesSpec) (k := Rows.uptoSmall) rfl own started (by kernel_rfl) Try.func4
    (OpenSpec.witness (enc := enc) (C := Try.checked) (s := Rows.OpenSpec.upto Rows.windowNamesSpec) (k := Rows.uptoSmall) rfl false ⟨#[], #[], []⟩ 8 (by kernel_rfl) (by kernel_rfl) (by kernel_rfl)
      (x := ([], [], [])) (by kernel_rfl) rfl (by kernel_rfl)) ?_
  intro W base args ds gs before hval hW _ hk _
  exact contract law H enc W base args ds gs before hval hW hk
end DWindowNames
end Go.Proofs.Ytgllljocmpbooaa

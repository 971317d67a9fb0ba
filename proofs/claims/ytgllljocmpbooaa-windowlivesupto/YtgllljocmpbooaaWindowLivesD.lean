/- PRINTED BY gen2.py (of this repo): the row of WindowLives. -/
import Derived.Test.YtgllljocmpbooaaWn3
set_option linter.unusedVariables false
set_option linter.unusedSimpArgs false
set_option maxRecDepth 20000
namespace Go.Proofs.Ytgllljocmpbooaa
open Go Go.Sim Go.ChangeShapes Go.WideShapes Go.ChangeAt Go.RowKit
namespace DWindowLives
def Law : Prop := ∀ (x0 : Int) (x1 : Int) (x2 : List Churnlaw16_Step), (gInt .i64) x0 → (gInt .i64) x1 → (gSl g_Churnlaw16_Step) x2 → bOne x0 + bOne x1 + (bSl b_Churnlaw16_Step) x2 ≤ 1048576 → f_churnlaw16_WindowLives x0 x1 x2 = some true
instance globW (W : World) : GlobW W := GlobOn.none rfl _
theorem own : ownKnob Try.prog.godebug = none := by kernel_rfl
theorem kids : Kids Try.prog (· < Try.prog.types.size) := kids_rows (by kernel_rfl) (by kernel_rfl)
theorem full : ∀ t e, t < Try.prog.types.size → Try.prog.underlying t = some (.slice e) → 0 < Try.prog.cellsOf e := slices_full_of Try.prog (by kernel_rfl)
theorem blk (H : Type) : Blk (Rows.uptoBulk (H := H)) Rows.uptoBulkAll := ⟨by simp [Rows.uptoBulkAll], fun _ _ => by simp [Rows.uptoBulkAll], fun _ _ => by simp only [Rows.uptoBulk]; omega, fun _ => by simp [Rows.uptoBulk], fun l => by cases l <;> simp [Rows.uptoBulk], fun _ => by simp [Rows.uptoBulk], by simp [Rows.uptoBulk]⟩
theorem contract (law : Law) (H : Type) (enc : TypeId × Value → H) (W : World) (base : Nat) (args : Array Value) (ds gs : List (DataW H)) (before : List MemPlace)
    (hval : ∀ (j : Nat) t v, Try.f8.params[j]? = some t → args[j]? = some v → Value.okWide Try.prog W .any base t v)
    (hW : DataW.Whole enc Try.prog Try.f8.params.toList Rows.windowLivesSpec.vars false W args.toList ds gs before) (hk : Rows.uptoSmall H (ds ++ gs) = true) :
    Calls Try.prog 8 args W fun e W' => ∃ v, e = .returned v ∧ Rows.windowLivesSpec.post enc Try.prog Try.f8 false true false false W args v W' := by
  have hW0 := hW
  obtain ⟨p, q, hA, hV, hpq, hz, hn⟩ := hW
  obtain ⟨rfl, rfl⟩ := trodVars_none hV
  rw [show Try.f8.params.toList = [3, 3, 56] from by rw [Try.params8]] at hA
  rw [Try.params8] at hval
  obtain ⟨v0, vs0, d0, ds0, p0, q0, ha0, hd0, _, t0, r0⟩ := trodAll_cons hA
  obtain ⟨v1, vs1, d1, ds1, p1, q1, ha1, hd1, _, t1, r1⟩ := trodAll_cons r0
  obtain ⟨v2, vs2, d2, ds2, p2, q2, ha2, hd2, _, t2, r2⟩ := trodAll_cons r1
  obtain ⟨hvn, hdn, _⟩ := trodAll_nil r2
  subst hvn
  subst hdn
  subst ha2
  subst hd2
  subst ha1
  subst hd1
  subst hd0
  obtain rfl : args = #[v0, v1, v2] := by cases args; simp_all
  obtain ⟨n0, t0⟩ := t0
  obtain ⟨x0, c0, g0, b0⟩ := rw3 (blk H) t0
  have k0 := Kd.val_of (K := kInt .i64) kt3.agg (hval 0 3 v0 rfl rfl) c0
  obtain ⟨n1, t1⟩ := t1
  obtain ⟨x1, c1, g1, b1⟩ := rw3 (blk H) t1
  have k1 := Kd.val_of (K := kInt .i64) kt3.agg (hval 1 3 v1 rfl rfl) c1
  obtain ⟨n2, t2⟩ := t2
  obtain ⟨x2, c2, g2, b2⟩ := rw56 (blk H) t2
  have k2 := Kd.val_of (K := kSl kChurnlaw16_Step) kt56.agg (hval 2 56 v2 rfl rfl) c2
  dsimp only at b0 b1 b2
  have hb := of_decide_eq_true hk
  simp only [Rows.uptoBulkAll, List.append_nil] at hb
  have hlaw := law x0 x1 x2 g0 g1 g2 (by omega)
  refine door_true hW0 rfl rfl (tb := 4) rfl Try.underlying4 kids full (by rw [Try.params8]; decide) ?_
  exact f_churnlaw16_WindowLives_ok hlaw [] (FzOf W) W [v0, v1, v2] (by simp only [SV.oks, SV.ok]; exact ⟨val_int.1 k0, val_int.1 k1, k2, trivial⟩) (St.start W)
set_option maxRecDepth 100000 in
theorem lifted (law : Law) (os : Os) (started : os.Started) (H : Type) (enc : TypeId × Value → H) (F : Stop.Interp) :
    ReturnsInHanded {} Try.checked os 8 .any ((Rows.OpenSpec.upto Rows.windowLivesSpec).pre6 enc Try.prog Try.f8 Rows.windowLivesUptoRow.domain false) (((Rows.OpenSpec.upto Rows.windowLivesSpec).at F).post enc Try.prog Try.f8 false true false false) := by
  refine returnsInHanded_of_cond (C := Try.checked) (s := Rows.OpenSpec.upto Rows.windowLivesSpec) (k := Rows.uptoSmall) rfl own started (by kernel_rfl) Try.func8
    (OpenSpec.witness (enc := enc) (C := Try.checked) (s := Rows.OpenSpec.upto Rows.windowLivesSpec) (k := Rows.uptoSmall) rfl false ⟨#[], #[(.int .i64 0 : Value), (.int .i64 0 : Value), (.slice none 0 0 : Value)], []⟩ 8 (by kernel_rfl) (by kernel_rfl) (by kernel_rfl)
      (x := ([.lit (.int .i64 0), .lit (.int .i64 0), .nil], [], [])) (by kernel_rfl) rfl (by kernel_rfl)) ?_
  intro W base args ds gs before hval hW _ hk _
  exact contract law H enc W base args ds gs before hval hW hk
end DWindowLives
end Go.Proofs.Ytgllljocmpbooaa

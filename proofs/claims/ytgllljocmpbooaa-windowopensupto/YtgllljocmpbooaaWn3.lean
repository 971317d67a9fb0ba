/- PRINTED BY gen2.py (of this repo): functions of the program in Lean, and that the machine follows them. -/
import Derived.Test.YtgllljocmpbooaaWn2
set_option linter.unusedVariables false
set_option linter.unusedSimpArgs false
set_option maxRecDepth 20000
namespace Go.Proofs.Ytgllljocmpbooaa
open Go Go.Sim Go.ChangeShapes Go.WideShapes Go.ChangeAt Go.RowKit
/-- churn/churnlaw16.WindowHolds -/
noncomputable def f_churnlaw16_WindowHolds (a0 : Churnlaw16_Job) : Option Bool :=
  (f_churnlaw16_alive).bind fun y1 =>
  bif !y1 then
    some false
  else
    (f_churnref16_Check a0.W a0.Span a0.Room).bind fun y4 =>
    bif (y4 != 0) || (decide ((a0.Tags.length : Int) > 2000)) then
      some true
    else
      (f_window_Open a0.W a0.Epoch a0.Span).bind fun y10 =>
      ((bif y10.2 == 0 then
        (f_churnref16_Check y10.1 a0.Span a0.Room).bind fun y3056 =>
        bif (y3056 != 0) || (y10.1.Newest != (max a0.W.Newest a0.Epoch)) then
          some (.inl false)
        else
          (((Loop.run (S := (Int × Int)) (R := (Int ⊕ Bool)) (fun (x4108, x4109) =>
              bif decide (x4109 < (a0.W.Epochs.length : Int)) then
                (((idx a0.W.Epochs x4109).bind fun x4371 =>
                (Loop.run (S := (Int × Int)) (R := (Int ⊕ Bool)) (fun (x4408, x4409) =>
                    bif decide (x4409 < (x4371.Tags.length : Int)) then
                      (((idx x4371.Tags x4409).bind fun x4440 =>
                      (f_window_Has y10.1 x4440).bind fun y4442 =>
                      bif y4442 != (decide (x4371.Number > (IntKind.wrap .i64 (y10.1.Newest - a0.Span)))) then
                        some (.inl false)
                      else
                        bif decide (x4371.Number > (IntKind.wrap .i64 (y10.1.Newest - a0.Span))) then
                          some (.inr (IntKind.wrap .i64 (x4408 + 1)))
                        else
                          some (.inr x4408)
                        : Option (Bool ⊕ Int))).bind fun r4437 => match r4437 with
                        | .inl z =>
                          some (.done (.inr z))
                        | .inr x4436 =>
                          some (.next (x4436, IntKind.wrap .i64 (x4409 + 1)))
                    else
                      some (.done (.inl x4408))) (x4108, 0)).bind fun r4429 => match r4429 with
                  | .inl x4426 =>
                    some (.inr x4426)
                  | .inr z =>
                    some (.inl z)
                  : Option (Bool ⊕ Int))).bind fun r4368 => match r4368 with
                  | .inl z =>
                    some (.done (.inr z))
                  | .inr x4367 =>
                    some (.next (x4367, IntKind.wrap .i64 (x4109 + 1)))
              else
                some (.done (.inl x4108))) (0, 0)).bind fun r4283 => match r4283 with
            | .inl x4280 =>
              some (.inr x4280)
            | .inr z =>
              some (.inl z)
            : Option (Bool ⊕ Int))).bind fun r3758 => match r3758 with
            | .inl z =>
              some (.inl z)
            | .inr x3757 =>
              (f_window_Len y10.1).bind fun y3761 =>
              bif y3761 != x3757 then
                some (.inl false)
              else
                some (.inr y10.1)
      else
        some (.inr a0.W)
        : Option (Bool ⊕ Api_Window))).bind fun r1417 => match r1417 with
        | .inl z =>
          some z
        | .inr x1416 =>
          (f_window_Add x1416 a0.Epoch a0.Tags a0.Room).bind fun y1420 =>
          bif y1420.2 != 0 then
            some ((((y1420.1.Epochs.length : Int) == 0) && (y1420.1.Newest == 0)) && ((y1420.2 == 160) || (y10.2 != 0)))
          else
            ((bif y10.2 == 0 then
              (f_churnref16_Check y1420.1 a0.Span a0.Room).bind fun y1436 =>
              some (y1436 != 0)
            else
              some false
              : Option Bool)).bind fun x1435 =>
            bif x1435 || (y1420.1.Newest != x1416.Newest) then
              some false
            else
              (((Loop.run (S := (Int × Int)) (R := (Int ⊕ Bool)) (fun (x2663, x2664) =>
                  bif decide (x2664 < (y1420.1.Epochs.length : Int)) then
                    (((Loop.run (S := (Int × Int)) (R := (Int ⊕ Bool)) (fun (x2993, x2994) =>
                        (idx y1420.1.Epochs x2664).bind fun x3020 =>
                        bif decide (x2994 < (x3020.Tags.length : Int)) then
                          (idx y1420.1.Epochs x2664).bind fun x3022 =>
                          (idx x3022.Tags x2994).bind fun x3024 =>
                          (f_churnref16_Has x1416 x3024).bind fun y3027 =>
                          ((bif !y3027 then
                            (idx y1420.1.Epochs x2664).bind fun x3032 =>
                            ((bif x3032.Number != a0.Epoch then
                              some true
                            else
                              (f_churnlaw16_in a0.Tags x3024).bind fun y3037 =>
                              some (!y3037)
                              : Option Bool)).bind fun x3036 =>
                            some x3036
                          else
                            some false
                            : Option Bool)).bind fun x3031 =>
                          bif x3031 then
                            some (.done (.inr false))
                          else
                            some (.next (IntKind.wrap .i64 (x2993 + 1), IntKind.wrap .i64 (x2994 + 1)))
                        else
                          some (.done (.inl x2993))) (x2663, 0)).bind fun r3017 => match r3017 with
                      | .inl x3014 =>
                        some (.inr x3014)
                      | .inr z =>
                        some (.inl z)
                      : Option (Bool ⊕ Int))).bind fun r2950 => match r2950 with
                      | .inl z =>
                        some (.done (.inr z))
                      | .inr x2949 =>
                        some (.next (x2949, IntKind.wrap .i64 (x2664 + 1)))
                  else
                    some (.done (.inl x2663))) (0, 0)).bind fun r2856 => match r2856 with
                | .inl x2853 =>
                  some (.inr x2853)
                | .inr z =>
                  some (.inl z)
                : Option (Bool ⊕ Int))).bind fun r2209 => match r2209 with
                | .inl z =>
                  some z
                | .inr x2208 =>
                  (((Loop.run (S := Int) (R := (Unit ⊕ Bool)) (fun x2262 =>
                      bif decide (x2262 < (a0.Tags.length : Int)) then
                        (idx a0.Tags x2262).bind fun x2272 =>
                        (f_window_Has y1420.1 x2272).bind fun y2274 =>
                        bif !y2274 then
                          some (.done (.inr false))
                        else
                          some (.next (IntKind.wrap .i64 (x2262 + 1)))
                      else
                        some (.done (.inl ()))) 0).bind fun r2269 => match r2269 with
                    | .inl _ =>
                      some (.inr ())
                    | .inr z =>
                      some (.inl z)
                    : Option (Bool ⊕ Unit))).bind fun r2239 => match r2239 with
                    | .inl z =>
                      some z
                    | .inr _ =>
                      (f_window_Len y1420.1).bind fun y2242 =>
                      ((bif x2208 == y2242 then
                        (f_window_Len x1416).bind fun y2247 =>
                        some (decide (x2208 ≥ y2247))
                      else
                        some false
                        : Option Bool)).bind fun x2246 =>
                      some (x2246 && (decide (x2208 ≤ a0.Room)))
theorem f_churnlaw16_WindowHolds_ok {a0 : Churnlaw16_Job} {r0 : Bool} (hF : f_churnlaw16_WindowHolds a0 = some r0) (L : List Res) : Ok Try.prog 9 [SV.val kChurnlaw16_Job a0] (L) (SV.raw (.bool r0)) (L) := by
  unfold f_churnlaw16_WindowHolds at hF
  refine Ok.intro 240 [(0, .val kChurnlaw16_Job a0)] Try.func9 rfl rfl rfl rfl (fun F0 => ?_)
  refine Under.seq ?_
  refine Under.region ?_
  refine Under.bxF (K := kChurnlaw16_Job) rfl rdV rfl ?_
  refine Under.ov (OpV.asg rfl) rfl ?_
  refine Under.nil ?_
  refine Under.tN ?_
  refine Under.seq ?_
  refine Under.seq ?_
  refine Under.region ?_
  obtain ⟨y1, h2, hF⟩ := bsome hF
  refine Under.call Try.call15 rfl rfl (f_churnlaw16_alive_ok h2 _) rfl ?_
  refine Under.ov (OpV.not rfl) rfl ?_
  refine Under.nil ?_
  refine Under.tN ?_
  refine Under.ite hF rfl (fun hF => ?_) (fun hF => ?_)
  · refine Under.seq ?_
    refine Under.region ?_
    refine Under.ov (OpV.asg rfl) rfl ?_
    refine Under.nil ?_
    refine Under.tN ?_
    refine Under.retc ?_
    refine Under.tR ?_
    have e3 := Option.some.inj hF
    subst e3
    exact Under.rets Try.results9 (.tm rfl .nil) rfl rfl
  · refine Under.code_skip ?_
    refine Under.tN ?_
    refine Under.seq ?_
    refine Under.seq ?_
    refine Under.region ?_
    refine Under.ov (OpV.fd fb52_0 rfl rfl) rfl ?_
    refine Under.ov (OpV.ld kt27 rfl) rfl ?_
    refine Under.ov (OpV.fd fb52_1 rfl rfl) rfl ?_
    refine Under.ov (OpV.ldI kt3 rfl) rfl ?_
    refine Under.ov (OpV.fd fb52_2 rfl rfl) rfl ?_
    refine Under.ov (OpV.ldI kt3 rfl) rfl ?_
    obtain ⟨y4, h5, hF⟩ := bsome hF
    refine Under.call Try.call17 rfl rfl (f_churnref16_Check_ok h5 _) rfl ?_
    refine Under.ov (OpV.bin rfl rfl rfl) rfl ?_
    refine Under.ov (OpV.move rfl) rfl ?_
    refine runj_5 32 ((y4 != 0) || (decide ((a0.Tags.length : Int) > 2000))) ?_ (fun k => ?_)
    · refine Under.nil ?_
      refine Under.tN ?_
      refine Under.ite hF rfl (fun hF => ?_) (fun hF => ?_)
      · refine Under.seq ?_
        refine Under.region ?_
        refine Under.ov (OpV.asg rfl) rfl ?_
        refine Under.nil ?_
        refine Under.tN ?_
        refine Under.retc ?_
        refine Under.tR ?_
        have e9 := Option.some.inj hF
        subst e9
        exact Under.rets Try.results9 (.tm rfl .nil) rfl rfl
      · refine Under.code_skip ?_
        refine Under.tN ?_
        refine Under.seq ?_
        refine Under.region ?_
        refine Under.ov (OpV.fd fb52_0 rfl rfl) rfl ?_
        refine Under.ov (OpV.ld kt27 rfl) rfl ?_
        refine Under.ov (OpV.fd fb52_3 rfl rfl) rfl ?_
        refine Under.ov (OpV.ldI kt2 rfl) rfl ?_
        refine Under.ov (OpV.fd fb52_1 rfl rfl) rfl ?_
        refine Under.ov (OpV.ldI kt3 rfl) rfl ?_
        obtain ⟨y10, h11, hF⟩ := bsome hF
        refine Under.call Try.call23 rfl rfl (f_window_Open_ok h11 _) rfl ?_
        refine Under.ov (OpV.move rfl) rfl ?_
        refine Under.ov (OpV.extr rfl rfl) rfl ?_
        refine Under.ov (OpV.extr rfl rfl) rfl ?_
        refine Under.al ZT27 rfl fun b12 => ?_
        refine Under.stP (x' := y10.1) .box .id sz27_kApi_Window rfl rfl rdV rfl ?_
        refine Under.ov (OpV.asg rfl) rfl ?_
        refine Under.nil ?_
        refine Under.tN ?_
        obtain ⟨r1417, h1418, hF⟩ := bsome hF
        refine Under.seq ?_
        refine Under.after (fun X => ∀ (x1416 : Api_Window), r1417 = (.inr x1416) → Under F0 240 [(1, .ptr kChurnlaw16_Job a0), (3, .ptr kApi_Window x1416), (4, .raw (.int .i64 y10.2))] (L) X) ?_ ?_
        · intro x1416 h4467
          replace h4467 := h4467.symm
          subst h4467
          refine Under.seq ?_
          refine Under.region ?_
          refine Under.ov (OpV.ld kt27 rfl) rfl ?_
          refine Under.ov (OpV.fd fb52_3 rfl rfl) rfl ?_
          refine Under.ov (OpV.ldI kt2 rfl) rfl ?_
          refine Under.ov (OpV.fd fb52_4 rfl rfl) rfl ?_
          refine Under.ov (OpV.ld kt36 rfl) rfl ?_
          refine Under.ov (OpV.fd fb52_2 rfl rfl) rfl ?_
          refine Under.ov (OpV.ldI kt3 rfl) rfl ?_
          obtain ⟨y1420, h1421, hF⟩ := bsome hF
          refine Under.call Try.call26 rfl rfl (f_window_Add_ok h1421 _) rfl ?_
          refine Under.ov (OpV.move rfl) rfl ?_
          refine Under.ov (OpV.extr rfl rfl) rfl ?_
          refine Under.ov (OpV.extr rfl rfl) rfl ?_
          refine Under.al ZT27 rfl fun b1422 => ?_
          refine Under.stP (x' := y1420.1) .box .id sz27_kApi_Window rfl rfl rdV rfl ?_
          refine Under.ov (OpV.asg rfl) rfl ?_
          refine Under.nil ?_
          refine Under.frz (t := 10) rfl ?_
          refine Under.tN ?_
          refine Under.seq ?_
          refine Under.seq ?_
          refine Under.region ?_
          refine Under.ov (OpV.move rfl) rfl ?_
          refine Under.ov (OpV.bin rfl rfl rfl) rfl ?_
          refine Under.nil ?_
          refine Under.tN ?_
          refine Under.ite hF rfl (fun hF => ?_) (fun hF => ?_)
          · refine Under.seq ?_
            refine Under.region ?_
            refine Under.ov (OpV.fd fb27_1 rfl rfl) rfl ?_
            refine Under.ov (OpV.ld kt25 rfl) rfl ?_
            refine Under.ov (OpV.len Try.underlying25 rfl rdV) rfl ?_
            refine Under.ov (OpV.bin rfl rfl rfl) rfl ?_
            refine Under.ov (OpV.move rfl) rfl ?_
            refine runj_4 131 (((y1420.1.Epochs.length : Int) == 0) && (y1420.1.Newest == 0)) ?_ (fun k => ?_)
            · refine Under.ov (OpV.move rfl) rfl ?_
              refine runj_7 139 ((((y1420.1.Epochs.length : Int) == 0) && (y1420.1.Newest == 0)) && ((y1420.2 == 160) || (y10.2 != 0))) ?_ (fun k => ?_)
              · refine Under.ov (OpV.asg rfl) rfl ?_
                refine Under.nil ?_
                refine Under.tN ?_
                refine Under.retc ?_
                refine Under.tR ?_
                have e1432 := Option.some.inj hF
                subst e1432
                exact Under.rets Try.results9 (.tm rfl .nil) rfl rfl
              · refine Under.byc (t := 132) rfl (fun c1426 => ?_) (fun c1426 => ?_)
                · refine Under.goc c1426 rfl rfl ?_
                  refine Under.ov (OpV.move rfl) rfl ?_
                  refine Under.goc c1426 rfl rfl ?_
                  refine Under.ov (OpV.bin rfl rfl rfl) rfl ?_
                  refine Under.goc c1426 rfl rfl ?_
                  refine Under.ov (OpV.move rfl) rfl ?_
                  refine runj_3 138 ((y1420.2 == 160) || (y10.2 != 0)) ?_ (fun k => ?_)
                  · refine Under.ov (OpV.pick rfl (fun e => rfl) (fun e => absurd (e.symm.trans c1426) (by decide))) rfl ?_
                    exact Under.rfin 4 (and_t c1426) rfl k
                  · refine Under.byc (t := 135) rfl (fun c1429 => ?_) (fun c1429 => ?_)
                    · refine Under.skc c1429 rfl rfl rfl ?_
                      refine Under.skc c1429 rfl rfl rfl ?_
                      refine Under.goc c1426 rfl rfl ?_
                      refine Under.ov (OpV.pick rfl (fun e => rfl) (fun e => absurd (e.symm.trans c1429) (by decide))) rfl ?_
                      exact Under.rfin 2 (or_t (e := y10.2 != 0) c1429) rfl k
                    · refine Under.goc c1429 rfl rfl ?_
                      refine Under.ov (OpV.move rfl) rfl ?_
                      refine Under.goc c1429 rfl rfl ?_
                      refine Under.ov (OpV.bin rfl rfl rfl) rfl ?_
                      refine Under.goc c1426 rfl rfl ?_
                      refine Under.ov (OpV.pick rfl (fun e => absurd (e.symm.trans c1429) (by decide)) (fun e => rfl)) rfl ?_
                      exact Under.rfin 2 (or_f c1429) rfl k
                · refine Under.skc c1426 rfl rfl rfl ?_
                  refine Under.skc c1426 rfl rfl rfl ?_
                  refine Under.skc c1426 rfl rfl rfl ?_
                  refine Under.sku rfl rfl rfl ?_
                  refine Under.sku rfl rfl rfl ?_
                  refine Under.skc c1426 rfl rfl rfl ?_
                  refine Under.ov (OpV.pick rfl (fun e => absurd (e.symm.trans c1426) (by decide)) (fun e => rfl)) rfl ?_
                  exact Under.rfin 6 (and_f (e := (y1420.2 == 160) || (y10.2 != 0)) c1426) rfl k
            · refine Under.byc (t := 127) rfl (fun c1423 => ?_) (fun c1423 => ?_)
              · refine Under.goc c1423 rfl rfl ?_
                refine Under.ov (OpV.fd fb27_0 rfl rfl) rfl ?_
                refine Under.goc c1423 rfl rfl ?_
                refine Under.ov (OpV.ldI kt2 rfl) rfl ?_
                refine Under.goc c1423 rfl rfl ?_
                refine Under.ov (OpV.bin rfl rfl rfl) rfl ?_
                refine Under.ov (OpV.pick rfl (fun e => rfl) (fun e => absurd (e.symm.trans c1423) (by decide))) rfl ?_
                exact Under.rfin 3 (and_t c1423) rfl k
              · refine Under.skc c1423 rfl rfl rfl ?_
                refine Under.skc c1423 rfl rfl rfl ?_
                refine Under.skc c1423 rfl rfl rfl ?_
                refine Under.ov (OpV.pick rfl (fun e => absurd (e.symm.trans c1423) (by decide)) (fun e => rfl)) rfl ?_
                exact Under.rfin 3 (and_f (e := y1420.1.Newest == 0) c1423) rfl k
          · refine Under.code_skip ?_
            refine Under.tN ?_
            refine Under.seq ?_
            refine Under.seq ?_
            refine Under.region ?_
            refine Under.ov (OpV.move rfl) rfl ?_
            refine Under.ov (OpV.bin rfl rfl rfl) rfl ?_
            refine Under.ov (OpV.move rfl) rfl ?_
            obtain ⟨x1435, h1434, hF⟩ := bsome hF
            refine runj_8 150 x1435 ?_ (fun k => ?_)
            · refine Under.ov (OpV.move rfl) rfl ?_
              refine runj_6 157 (x1435 || (y1420.1.Newest != x1416.Newest)) ?_ (fun k => ?_)
              · refine Under.nil ?_
                refine Under.tN ?_
                refine Under.ite hF rfl (fun hF => ?_) (fun hF => ?_)
                · refine Under.seq ?_
                  refine Under.region ?_
                  refine Under.ov (OpV.asg rfl) rfl ?_
                  refine Under.nil ?_
                  refine Under.tN ?_
                  refine Under.retc ?_
                  refine Under.tR ?_
                  have e1441 := Option.some.inj hF
                  subst e1441
                  exact Under.rets Try.results9 (.tm rfl .nil) rfl rfl
                · refine Under.code_skip ?_
                  refine Under.tN ?_
                  refine Under.seq ?_
                  refine Under.region ?_
                  refine Under.ov (OpV.asg rfl) rfl ?_
                  refine Under.nil ?_
                  refine Under.tN ?_
                  obtain ⟨r2209, h2210, hF⟩ := bsome hF
                  refine Under.seq ?_
                  refine Under.after (fun X => ∀ (x2208 : Int), r2209 = (.inr x2208) → Under F0 240 [(1, .ptr kChurnlaw16_Job a0), (3, .ptr kApi_Window x1416), (10, .ptr kApi_Window y1420.1), (12, .raw (.int .i64 x2208))] (L) X) ?_ ?_
                  · intro x2208 h3055
                    replace h3055 := h3055.symm
                    subst h3055
                    obtain ⟨r2239, h2240, hF⟩ := bsome hF
                    refine Under.seq ?_
                    refine Under.after (fun X => ∀ (_ : Unit), r2239 = (.inr ()) → Under F0 240 [(1, .ptr kChurnlaw16_Job a0), (3, .ptr kApi_Window x1416), (10, .ptr kApi_Window y1420.1), (12, .raw (.int .i64 x2208))] (L) X) ?_ ?_
                    · intro _ h2284
                      replace h2284 := h2284.symm
                      subst h2284
                      refine Under.seq ?_
                      refine Under.region ?_
                      refine Under.ov (OpV.move rfl) rfl ?_
                      refine Under.ov (OpV.ld kt27 rfl) rfl ?_
                      obtain ⟨y2242, h2243, hF⟩ := bsome hF
                      refine Under.call Try.call18 rfl rfl (f_window_Len_ok h2243 _) rfl ?_
                      refine Under.ov (OpV.bin rfl rfl rfl) rfl ?_
                      refine Under.ov (OpV.move rfl) rfl ?_
                      obtain ⟨x2246, h2245, hF⟩ := bsome hF
                      refine runj_5 233 x2246 ?_ (fun k => ?_)
                      · refine Under.ov (OpV.move rfl) rfl ?_
                        refine runj_5 239 (x2246 && (decide (x2208 ≤ a0.Room))) ?_ (fun k => ?_)
                        · refine Under.ov (OpV.asg rfl) rfl ?_
                          refine Under.nil ?_
                          refine Under.tN ?_
                          refine Under.retc ?_
                          have e2252 := Option.some.inj hF
                          subst e2252
                          exact Under.rets Try.results9 (.tm rfl .nil) rfl rfl
                        · refine Under.byc (t := 234) rfl (fun c2249 => ?_) (fun c2249 => ?_)
                          · refine Under.goc c2249 rfl rfl ?_
                            refine Under.ov (OpV.move rfl) rfl ?_
                            refine Under.goc c2249 rfl rfl ?_
                            refine Under.ov (OpV.fd fb52_2 rfl rfl) rfl ?_
                            refine Under.goc c2249 rfl rfl ?_
                            refine Under.ov (OpV.ldI kt3 rfl) rfl ?_
                            refine Under.goc c2249 rfl rfl ?_
                            refine Under.ov (OpV.bin rfl rfl rfl) rfl ?_
                            refine Under.ov (OpV.pick rfl (fun e => rfl) (fun e => absurd (e.symm.trans c2249) (by decide))) rfl ?_
                            exact Under.rfin 4 (and_t c2249) rfl k
                          · refine Under.skc c2249 rfl rfl rfl ?_
                            refine Under.skc c2249 rfl rfl rfl ?_
                            refine Under.skc c2249 rfl rfl rfl ?_
                            refine Under.skc c2249 rfl rfl rfl ?_
                            refine Under.ov (OpV.pick rfl (fun e => absurd (e.symm.trans c2249) (by decide)) (fun e => rfl)) rfl ?_
                            exact Under.rfin 4 (and_f (e := decide (x2208 ≤ a0.Room)) c2249) rfl k
                      · refine Under.byc (t := 228) rfl (fun c2244 => ?_) (fun c2244 => ?_)
                        · replace h2245 := ctrue c2244 h2245
                          refine Under.goc c2244 rfl rfl ?_
                          refine Under.ov (OpV.move rfl) rfl ?_
                          refine Under.goc c2244 rfl rfl ?_
                          refine Under.ov (OpV.ld kt27 rfl) rfl ?_
                          obtain ⟨y2247, h2248, h2245⟩ := bsome h2245
                          refine Under.goc c2244 rfl rfl ?_
                          refine Under.call Try.call18 rfl rfl (f_window_Len_ok h2248 _) rfl ?_
                          refine Under.goc c2244 rfl rfl ?_
                          refine Under.ov (OpV.bin rfl rfl rfl) rfl ?_
                          refine Under.ov (OpV.pick rfl (fun e => rfl) (fun e => absurd (e.symm.trans c2244) (by decide))) rfl ?_
                          exact Under.rfin 4 (congrArg (fun b => SV.raw (.bool b)) (Option.some.inj h2245)) rfl k
                        · replace h2245 := cfalse c2244 h2245
                          refine Under.skc c2244 rfl rfl rfl ?_
                          refine Under.skc c2244 rfl rfl rfl ?_
                          refine Under.skc c2244 rfl rfl rfl ?_
                          refine Under.skc c2244 rfl rfl rfl ?_
                          refine Under.ov (OpV.pick rfl (fun e => absurd (e.symm.trans c2244) (by decide)) (fun e => rfl)) rfl ?_
                          exact Under.rfin 4 (congrArg (fun b => SV.raw (.bool b)) (Option.some.inj h2245)) rfl k
                    · intro K k2241
                      refine Under.seq ?_
                      refine Under.region ?_
                      refine Under.ov (OpV.asg rfl) rfl ?_
                      refine Under.nil ?_
                      refine Under.tN ?_
                      refine Under.block ?_
                      obtain ⟨r2269, h2270, h2240⟩ := bsome h2240
                      refine Under.loop (S := Int) (C := Unit) () (fun (x2281 : Int) (q2282 : Unit) => [(1, .ptr kChurnlaw16_Job a0), (3, .ptr kApi_Window x1416), (10, .ptr kApi_Window y1420.1), (12, .raw (.int .i64 x2208)), (16, .raw (.int .i64 x2281))]) (fun (x2281 : Int) (q2282 : Unit) => L) h2270 (sub_cons rfl (sub_cons rfl (sub_cons rfl (sub_cons rfl (sub_cons rfl (sub_nil _)))))) rfl (fun x2281 q2282 o2271 h2267 d2268 => ?_)
                      refine Under.seq ?_
                      refine Under.seq ?_
                      refine Under.region ?_
                      refine Under.ov (OpV.move rfl) rfl ?_
                      refine Under.ov (OpV.fd fb52_4 rfl rfl) rfl ?_
                      refine Under.ov (OpV.ld kt36 rfl) rfl ?_
                      refine Under.ov (OpV.len Try.underlying36 rfl rdV) rfl ?_
                      refine Under.ov (OpV.bin rfl rfl rfl) rfl ?_
                      refine Under.nil ?_
                      refine Under.tN ?_
                      refine Under.ite h2267 rfl (fun h2267 => ?_) (fun h2267 => ?_)
                      · refine Under.code_skip ?_
                        refine Under.tN ?_
                        refine Under.seq ?_
                        refine Under.block ?_
                        refine Under.seq ?_
                        refine Under.draw rfl (by kernel_rfl) fun F hF0 => ?_
                        refine UnderQ.ov (OpV.ld kt27 rfl) rfl ?_
                        refine UnderQ.ov (OpV.fd fb52_4 rfl rfl) rfl ?_
                        refine UnderQ.ov (OpV.ld kt36 rfl) rfl ?_
                        refine UnderQ.ov (OpV.move rfl) rfl ?_
                        obtain ⟨x2272, h2273, h2267⟩ := bsome h2267
                        refine UnderQ.ov (OpV.ixS h2273 Try.underlying36 sz43 rfl rdV rfl) rfl ?_
                        refine UnderQ.ov (OpV.ld kt43 rfl) rfl ?_
                        obtain ⟨y2274, h2275, h2267⟩ := bsome h2267
                        refine UnderQ.ov (OpV.call Try.call20 rfl rfl (fun L => (f_window_Has_ok h2275 L))) rfl ?_
                        refine UnderQ.ov (OpV.not rfl) rfl ?_
                        refine UnderQ.nil hF0 ?_
                        refine Under.tN ?_
                        refine Under.ite h2267 rfl (fun h2267 => ?_) (fun h2267 => ?_)
                        · refine Under.seq ?_
                          refine Under.region ?_
                          refine Under.ov (OpV.asg rfl) rfl ?_
                          refine Under.nil ?_
                          refine Under.tN ?_
                          refine Under.retc ?_
                          refine Under.bR ?_
                          refine Under.tR ?_
                          have e2276 := done_eq h2267 d2268
                          subst e2276
                          refine Under.tR ?_
                          refine Under.bR ?_
                          refine Under.tR ?_
                          have e2277 := Option.some.inj h2240
                          subst e2277
                          have e2278 := Option.some.inj hF
                          subst e2278
                          exact Under.rets Try.results9 (.tm rfl .nil) rfl rfl
                        · refine Under.code_skip ?_
                          refine Under.bN ?_
                          refine Under.tN ?_
                          refine Under.region ?_
                          refine Under.ov (OpV.move rfl) rfl ?_
                          refine Under.ov (OpV.bin rfl rfl rfl) rfl ?_
                          refine Under.ov (OpV.asg rfl) rfl ?_
                          refine Under.nil ?_
                          exact Under.next _ () h2267 (sub_cons rfl (sub_cons rfl (sub_cons rfl (sub_cons rfl (sub_cons rfl (sub_nil _)))))) rfl
                      · refine Under.exit ?_
                        refine Under.tE ?_
                        have e2279 := done_eq h2267 d2268
                        subst e2279
                        refine Under.tE ?_
                        refine Under.bH ?_
                        refine Under.tN ?_
                        exact Under.weak (k2241 () (Option.some.inj h2240).symm) (sub_cons rfl (sub_cons rfl (sub_cons rfl (sub_cons rfl (sub_nil _)))))
                  · intro K k2211
                    refine Under.seq ?_
                    refine Under.region ?_
                    refine Under.ov (OpV.asg rfl) rfl ?_
                    refine Under.nil ?_
                    refine Under.tN ?_
                    refine Under.block ?_
                    obtain ⟨r2856, h2857, h2210⟩ := bsome h2210
                    refine Under.loop (S := (Int × Int)) (C := Unit) () (fun (x3052 : (Int × Int)) (q3053 : Unit) => [(1, .ptr kChurnlaw16_Job a0), (3, .ptr kApi_Window x1416), (10, .ptr kApi_Window y1420.1), (12, .raw (.int .i64 x3052.1)), (13, .raw (.int .i64 x3052.2))]) (fun (x3052 : (Int × Int)) (q3053 : Unit) => L) h2857 (sub_cons rfl (sub_cons rfl (sub_cons rfl (sub_cons rfl (sub_cons rfl (sub_nil _)))))) rfl (fun x3052 q3053 o2858 h2854 d2855 => ?_)
                    obtain ⟨x2663, x2664⟩ := x3052
                    dsimp only at h2854 ⊢
                    refine Under.seq ?_
                    refine Under.seq ?_
                    refine Under.region ?_
                    refine Under.ov (OpV.move rfl) rfl ?_
                    refine Under.ov (OpV.fd fb27_1 rfl rfl) rfl ?_
                    refine Under.ov (OpV.ld kt25 rfl) rfl ?_
                    refine Under.ov (OpV.len Try.underlying25 rfl rdV) rfl ?_
                    refine Under.ov (OpV.bin rfl rfl rfl) rfl ?_
                    refine Under.nil ?_
                    refine Under.tN ?_
                    refine Under.ite h2854 rfl (fun h2854 => ?_) (fun h2854 => ?_)
                    · refine Under.code_skip ?_
                      refine Under.tN ?_
                      obtain ⟨r2950, h2951, h2854⟩ := bsome h2854
                      refine Under.seq ?_
                      refine Under.after (fun X => ∀ (x2949 : Int), r2950 = (.inr x2949) → Under F0 240 [(1, .ptr kChurnlaw16_Job a0), (3, .ptr kApi_Window x1416), (10, .ptr kApi_Window y1420.1), (12, .raw (.int .i64 x2949)), (13, .raw (.int .i64 x2664))] (L) X) ?_ ?_
                      · intro x2949 h3049
                        replace h3049 := h3049.symm
                        subst h3049
                        refine Under.region ?_
                        refine Under.ov (OpV.move rfl) rfl ?_
                        refine Under.ov (OpV.bin rfl rfl rfl) rfl ?_
                        refine Under.ov (OpV.asg rfl) rfl ?_
                        refine Under.nil ?_
                        exact Under.next _ () h2854 (sub_cons rfl (sub_cons rfl (sub_cons rfl (sub_cons rfl (sub_cons rfl (sub_nil _)))))) rfl
                      · intro K k2952
                        refine Under.block ?_
                        refine Under.seq ?_
                        refine Under.region ?_
                        refine Under.ov (OpV.asg rfl) rfl ?_
                        refine Under.nil ?_
                        refine Under.tN ?_
                        refine Under.block ?_
                        obtain ⟨r3017, h3018, h2951⟩ := bsome h2951
                        refine Under.loop (S := (Int × Int)) (C := Unit) () (fun (x3046 : (Int × Int)) (q3047 : Unit) => [(1, .ptr kChurnlaw16_Job a0), (3, .ptr kApi_Window x1416), (10, .ptr kApi_Window y1420.1), (12, .raw (.int .i64 x3046.1)), (13, .raw (.int .i64 x2664)), (14, .raw (.int .i64 x3046.2))]) (fun (x3046 : (Int × Int)) (q3047 : Unit) => L) h3018 (sub_cons rfl (sub_cons rfl (sub_cons rfl (sub_cons rfl (sub_cons rfl (sub_cons rfl (sub_nil _))))))) rfl (fun x3046 q3047 o3019 h3015 d3016 => ?_)
                        obtain ⟨x2993, x2994⟩ := x3046
                        dsimp only at h3015 ⊢
                        refine Under.seq ?_
                        refine Under.seq ?_
                        refine Under.region ?_
                        refine Under.ov (OpV.move rfl) rfl ?_
                        refine Under.ov (OpV.fd fb27_1 rfl rfl) rfl ?_
                        refine Under.ov (OpV.ld kt25 rfl) rfl ?_
                        refine Under.ov (OpV.move rfl) rfl ?_
                        obtain ⟨x3020, h3021, h3015⟩ := bsome h3015
                        refine Under.ov (OpV.ixS h3021 Try.underlying25 sz61 rfl rdV rfl) rfl ?_
                        refine Under.ov (OpV.fd fb61_1 rfl rfl) rfl ?_
                        refine Under.ov (OpV.ld kt36 rfl) rfl ?_
                        refine Under.ov (OpV.len Try.underlying36 rfl rdV) rfl ?_
                        refine Under.ov (OpV.bin rfl rfl rfl) rfl ?_
                        refine Under.nil ?_
                        refine Under.tN ?_
                        refine Under.ite h3015 rfl (fun h3015 => ?_) (fun h3015 => ?_)
                        · refine Under.code_skip ?_
                          refine Under.tN ?_
                          refine Under.seq ?_
                          refine Under.block ?_
                          refine Under.seq ?_
                          refine Under.region ?_
                          refine Under.ov (OpV.fd fb27_1 rfl rfl) rfl ?_
                          refine Under.ov (OpV.ld kt25 rfl) rfl ?_
                          refine Under.ov (OpV.move rfl) rfl ?_
                          obtain ⟨x3022, h3023, h3015⟩ := bsome h3015
                          refine Under.ov (OpV.ixS h3023 Try.underlying25 sz61 rfl rdV rfl) rfl ?_
                          refine Under.ov (OpV.fd fb61_1 rfl rfl) rfl ?_
                          refine Under.ov (OpV.ld kt36 rfl) rfl ?_
                          refine Under.ov (OpV.move rfl) rfl ?_
                          obtain ⟨x3024, h3025, h3015⟩ := bsome h3015
                          refine Under.ov (OpV.ixS h3025 Try.underlying36 sz43 rfl rdV rfl) rfl ?_
                          refine Under.ov (OpV.ld kt43 rfl) rfl ?_
                          refine Under.al ZT43 rfl fun b3026 => ?_
                          refine Under.stP (x' := x3024) .box .id sz43_kArr_16_kInt_u8_ rfl rfl rdV rfl ?_
                          refine Under.nil ?_
                          refine Under.frz (t := 15) rfl ?_
                          refine Under.tN ?_
                          refine Under.seq ?_
                          refine Under.region ?_
                          refine Under.ov (OpV.move rfl) rfl ?_
                          refine Under.ov (OpV.bin rfl rfl rfl) rfl ?_
                          refine Under.ov (OpV.asg rfl) rfl ?_
                          refine Under.nil ?_
                          refine Under.tN ?_
                          refine Under.seq ?_
                          refine Under.draw rfl (by kernel_rfl) fun F hF0 => ?_
                          refine UnderQ.ov (OpV.ld kt27 rfl) rfl ?_
                          refine UnderQ.ov (OpV.ld kt43 rfl) rfl ?_
                          obtain ⟨y3027, h3028, h3015⟩ := bsome h3015
                          refine UnderQ.ov (OpV.call Try.call21 rfl rfl (fun L => (f_churnref16_Has_ok h3028 L))) rfl ?_
                          refine UnderQ.ov (OpV.not rfl) rfl ?_
                          refine UnderQ.ov (OpV.move rfl) rfl ?_
                          obtain ⟨x3031, h3030, h3015⟩ := bsome h3015
                          refine runj_17q 208 x3031 ?_ (fun k => ?_)
                          · refine UnderQ.nil hF0 ?_
                            refine Under.tN ?_
                            refine Under.ite h3015 rfl (fun h3015 => ?_) (fun h3015 => ?_)
                            · refine Under.seq ?_
                              refine Under.region ?_
                              refine Under.ov (OpV.asg rfl) rfl ?_
                              refine Under.nil ?_
                              refine Under.tN ?_
                              refine Under.retc ?_
                              refine Under.bR ?_
                              refine Under.tR ?_
                              have e3039 := done_eq h3015 d3016
                              subst e3039
                              refine Under.tR ?_
                              refine Under.bR ?_
                              refine Under.bR ?_
                              refine Under.tR ?_
                              have e3040 := Option.some.inj h2951
                              subst e3040
                              have e3041 := done_eq h2854 d2855
                              subst e3041
                              refine Under.tR ?_
                              refine Under.bR ?_
                              refine Under.tR ?_
                              have e3042 := Option.some.inj h2210
                              subst e3042
                              have e3043 := Option.some.inj hF
                              subst e3043
                              exact Under.rets Try.results9 (.tm rfl .nil) rfl rfl
                            · refine Under.code_skip ?_
                              refine Under.bN ?_
                              refine Under.tN ?_
                              refine Under.region ?_
                              refine Under.ov (OpV.move rfl) rfl ?_
                              refine Under.ov (OpV.bin rfl rfl rfl) rfl ?_
                              refine Under.ov (OpV.asg rfl) rfl ?_
                              refine Under.nil ?_
                              exact Under.next _ () h3015 (sub_cons rfl (sub_cons rfl (sub_cons rfl (sub_cons rfl (sub_cons rfl (sub_cons rfl (sub_nil _))))))) rfl
                          · refine UnderQ.byc (t := 191) rfl (fun c3029 => ?_) (fun c3029 => ?_)
                            · replace h3030 := ctrue c3029 h3030
                              refine UnderQ.goc c3029 rfl rfl ?_
                              refine UnderQ.ov (OpV.fd fb27_1 rfl rfl) rfl ?_
                              refine UnderQ.goc c3029 rfl rfl ?_
                              refine UnderQ.ov (OpV.ld kt25 rfl) rfl ?_
                              refine UnderQ.goc c3029 rfl rfl ?_
                              refine UnderQ.ov (OpV.move rfl) rfl ?_
                              obtain ⟨x3032, h3033, h3030⟩ := bsome h3030
                              refine UnderQ.goc c3029 rfl rfl ?_
                              refine UnderQ.ov (OpV.ixS h3033 Try.underlying25 sz61 rfl rdV rfl) rfl ?_
                              refine UnderQ.goc c3029 rfl rfl ?_
                              refine UnderQ.ov (OpV.fd fb61_0 rfl rfl) rfl ?_
                              refine UnderQ.goc c3029 rfl rfl ?_
                              refine UnderQ.ov (OpV.ldI kt2 rfl) rfl ?_
                              refine UnderQ.goc c3029 rfl rfl ?_
                              refine UnderQ.ov (OpV.fd fb52_3 rfl rfl) rfl ?_
                              refine UnderQ.goc c3029 rfl rfl ?_
                              refine UnderQ.ov (OpV.ldI kt2 rfl) rfl ?_
                              refine UnderQ.goc c3029 rfl rfl ?_
                              refine UnderQ.ov (OpV.bin rfl rfl rfl) rfl ?_
                              refine UnderQ.goc c3029 rfl rfl ?_
                              refine UnderQ.ov (OpV.move rfl) rfl ?_
                              obtain ⟨x3036, h3035, h3030⟩ := bsome h3030
                              refine runj_6q 207 x3036 ?_ (fun k => ?_)
                              · refine UnderQ.ov (OpV.pick rfl (fun e => rfl) (fun e => absurd (e.symm.trans c3029) (by decide))) rfl ?_
                                exact UnderQ.rfin 11 (congrArg (fun b => SV.raw (.bool b)) (Option.some.inj h3030)) rfl k
                              · refine UnderQ.byc (t := 201) rfl (fun c3034 => ?_) (fun c3034 => ?_)
                                · replace h3035 := ctrue c3034 h3035
                                  refine UnderQ.skc c3034 rfl rfl rfl ?_
                                  refine UnderQ.skc c3034 rfl rfl rfl ?_
                                  refine UnderQ.skc c3034 rfl rfl rfl ?_
                                  refine UnderQ.skc c3034 rfl rfl rfl ?_
                                  refine UnderQ.skc c3034 rfl rfl rfl ?_
                                  refine UnderQ.goc c3029 rfl rfl ?_
                                  refine UnderQ.ov (OpV.pick rfl (fun e => rfl) (fun e => absurd (e.symm.trans c3034) (by decide))) rfl ?_
                                  exact UnderQ.rfin 5 (congrArg (fun b => SV.raw (.bool b)) (Option.some.inj h3035)) rfl k
                                · replace h3035 := cfalse c3034 h3035
                                  refine UnderQ.goc c3034 rfl rfl ?_
                                  refine UnderQ.ov (OpV.fd fb52_4 rfl rfl) rfl ?_
                                  refine UnderQ.goc c3034 rfl rfl ?_
                                  refine UnderQ.ov (OpV.ld kt36 rfl) rfl ?_
                                  refine UnderQ.goc c3034 rfl rfl ?_
                                  refine UnderQ.ov (OpV.ld kt43 rfl) rfl ?_
                                  obtain ⟨y3037, h3038, h3035⟩ := bsome h3035
                                  refine UnderQ.goc c3034 rfl rfl ?_
                                  refine UnderQ.ov (OpV.call Try.call27 rfl rfl (fun L => (f_churnlaw16_in_ok h3038 L))) rfl ?_
                                  refine UnderQ.goc c3034 rfl rfl ?_
                                  refine UnderQ.ov (OpV.not rfl) rfl ?_
                                  refine UnderQ.goc c3029 rfl rfl ?_
                                  refine UnderQ.ov (OpV.pick rfl (fun e => absurd (e.symm.trans c3034) (by decide)) (fun e => rfl)) rfl ?_
                                  exact UnderQ.rfin 5 (congrArg (fun b => SV.raw (.bool b)) (Option.some.inj h3035)) rfl k
                            · replace h3030 := cfalse c3029 h3030
                              refine UnderQ.skc c3029 rfl rfl rfl ?_
                              refine UnderQ.skc c3029 rfl rfl rfl ?_
                              refine UnderQ.skc c3029 rfl rfl rfl ?_
                              refine UnderQ.skc c3029 rfl rfl rfl ?_
                              refine UnderQ.skc c3029 rfl rfl rfl ?_
                              refine UnderQ.skc c3029 rfl rfl rfl ?_
                              refine UnderQ.skc c3029 rfl rfl rfl ?_
                              refine UnderQ.skc c3029 rfl rfl rfl ?_
                              refine UnderQ.skc c3029 rfl rfl rfl ?_
                              refine UnderQ.skc c3029 rfl rfl rfl ?_
                              refine UnderQ.sku rfl rfl rfl ?_
                              refine UnderQ.sku rfl rfl rfl ?_
                              refine UnderQ.sku rfl rfl rfl ?_
                              refine UnderQ.sku rfl rfl rfl ?_
                              refine UnderQ.sku rfl rfl rfl ?_
                              refine UnderQ.skc c3029 rfl rfl rfl ?_
                              refine UnderQ.ov (OpV.pick rfl (fun e => absurd (e.symm.trans c3029) (by decide)) (fun e => rfl)) rfl ?_
                              exact UnderQ.rfin 16 (congrArg (fun b => SV.raw (.bool b)) (Option.some.inj h3030)) rfl k
                        · refine Under.exit ?_
                          refine Under.tE ?_
                          have e3044 := done_eq h3015 d3016
                          subst e3044
                          refine Under.tE ?_
                          refine Under.bH ?_
                          refine Under.bN ?_
                          refine Under.tN ?_
                          exact Under.weak (k2952 _ (Option.some.inj h2951).symm) (sub_cons rfl (sub_cons rfl (sub_cons rfl (sub_cons rfl (sub_cons rfl (sub_nil _))))))
                    · refine Under.exit ?_
                      refine Under.tE ?_
                      have e3050 := done_eq h2854 d2855
                      subst e3050
                      refine Under.tE ?_
                      refine Under.bH ?_
                      refine Under.tN ?_
                      exact Under.weak (k2211 _ (Option.some.inj h2210).symm) (sub_cons rfl (sub_cons rfl (sub_cons rfl (sub_cons rfl (sub_nil _)))))
              · refine Under.byc (t := 151) rfl (fun c1438 => ?_) (fun c1438 => ?_)
                · refine Under.skc c1438 rfl rfl rfl ?_
                  refine Under.skc c1438 rfl rfl rfl ?_
                  refine Under.skc c1438 rfl rfl rfl ?_
                  refine Under.skc c1438 rfl rfl rfl ?_
                  refine Under.skc c1438 rfl rfl rfl ?_
                  refine Under.ov (OpV.pick rfl (fun e => rfl) (fun e => absurd (e.symm.trans c1438) (by decide))) rfl ?_
                  exact Under.rfin 5 (or_t (e := y1420.1.Newest != x1416.Newest) c1438) rfl k
                · refine Under.goc c1438 rfl rfl ?_
                  refine Under.ov (OpV.fd fb27_0 rfl rfl) rfl ?_
                  refine Under.goc c1438 rfl rfl ?_
                  refine Under.ov (OpV.ldI kt2 rfl) rfl ?_
                  refine Under.goc c1438 rfl rfl ?_
                  refine Under.ov (OpV.fd fb27_0 rfl rfl) rfl ?_
                  refine Under.goc c1438 rfl rfl ?_
                  refine Under.ov (OpV.ldI kt2 rfl) rfl ?_
                  refine Under.goc c1438 rfl rfl ?_
                  refine Under.ov (OpV.bin rfl rfl rfl) rfl ?_
                  refine Under.ov (OpV.pick rfl (fun e => absurd (e.symm.trans c1438) (by decide)) (fun e => rfl)) rfl ?_
                  exact Under.rfin 5 (or_f c1438) rfl k
            · refine Under.byc (t := 142) rfl (fun c1433 => ?_) (fun c1433 => ?_)
              · replace h1434 := ctrue c1433 h1434
                refine Under.goc c1433 rfl rfl ?_
                refine Under.ov (OpV.ld kt27 rfl) rfl ?_
                refine Under.goc c1433 rfl rfl ?_
                refine Under.ov (OpV.fd fb52_1 rfl rfl) rfl ?_
                refine Under.goc c1433 rfl rfl ?_
                refine Under.ov (OpV.ldI kt3 rfl) rfl ?_
                refine Under.goc c1433 rfl rfl ?_
                refine Under.ov (OpV.fd fb52_2 rfl rfl) rfl ?_
                refine Under.goc c1433 rfl rfl ?_
                refine Under.ov (OpV.ldI kt3 rfl) rfl ?_
                obtain ⟨y1436, h1437, h1434⟩ := bsome h1434
                refine Under.goc c1433 rfl rfl ?_
                refine Under.call Try.call17 rfl rfl (f_churnref16_Check_ok h1437 _) rfl ?_
                refine Under.goc c1433 rfl rfl ?_
                refine Under.ov (OpV.bin rfl rfl rfl) rfl ?_
                refine Under.ov (OpV.pick rfl (fun e => rfl) (fun e => absurd (e.symm.trans c1433) (by decide))) rfl ?_
                exact Under.rfin 7 (congrArg (fun b => SV.raw (.bool b)) (Option.some.inj h1434)) rfl k
              · replace h1434 := cfalse c1433 h1434
                refine Under.skc c1433 rfl rfl rfl ?_
                refine Under.skc c1433 rfl rfl rfl ?_
                refine Under.skc c1433 rfl rfl rfl ?_
                refine Under.skc c1433 rfl rfl rfl ?_
                refine Under.skc c1433 rfl rfl rfl ?_
                refine Under.skc c1433 rfl rfl rfl ?_
                refine Under.skc c1433 rfl rfl rfl ?_
                refine Under.ov (OpV.pick rfl (fun e => absurd (e.symm.trans c1433) (by decide)) (fun e => rfl)) rfl ?_
                exact Under.rfin 7 (congrArg (fun b => SV.raw (.bool b)) (Option.some.inj h1434)) rfl k
        · intro K k1419
          refine Under.seq ?_
          refine Under.region ?_
          refine Under.ov (OpV.move rfl) rfl ?_
          refine Under.ov (OpV.bin rfl rfl rfl) rfl ?_
          refine Under.nil ?_
          refine Under.tN ?_
          refine Under.ite h1418 rfl (fun h1418 => ?_) (fun h1418 => ?_)
          · refine Under.frz (t := 3) rfl ?_
            refine Under.seq ?_
            refine Under.seq ?_
            refine Under.region ?_
            refine Under.ov (OpV.ld kt27 rfl) rfl ?_
            refine Under.ov (OpV.fd fb52_1 rfl rfl) rfl ?_
            refine Under.ov (OpV.ldI kt3 rfl) rfl ?_
            refine Under.ov (OpV.fd fb52_2 rfl rfl) rfl ?_
            refine Under.ov (OpV.ldI kt3 rfl) rfl ?_
            obtain ⟨y3056, h3057, h1418⟩ := bsome h1418
            refine Under.call Try.call17 rfl rfl (f_churnref16_Check_ok h3057 _) rfl ?_
            refine Under.ov (OpV.bin rfl rfl rfl) rfl ?_
            refine Under.ov (OpV.move rfl) rfl ?_
            refine runj_10 62 ((y3056 != 0) || (y10.1.Newest != (max a0.W.Newest a0.Epoch))) ?_ (fun k => ?_)
            · refine Under.nil ?_
              refine Under.tN ?_
              refine Under.ite h1418 rfl (fun h1418 => ?_) (fun h1418 => ?_)
              · refine Under.seq ?_
                refine Under.region ?_
                refine Under.ov (OpV.asg rfl) rfl ?_
                refine Under.nil ?_
                refine Under.tN ?_
                refine Under.retc ?_
                refine Under.tR ?_
                refine Under.tR ?_
                have e3061 := Option.some.inj h1418
                subst e3061
                have e3062 := Option.some.inj hF
                subst e3062
                exact Under.rets Try.results9 (.tm rfl .nil) rfl rfl
              · refine Under.code_skip ?_
                refine Under.tN ?_
                refine Under.seq ?_
                refine Under.region ?_
                refine Under.ov (OpV.asg rfl) rfl ?_
                refine Under.nil ?_
                refine Under.tN ?_
                obtain ⟨r3758, h3759, h1418⟩ := bsome h1418
                refine Under.seq ?_
                refine Under.after (fun X => ∀ (x3757 : Int), r3758 = (.inr x3757) → Under F0 240 [(1, .ptr kChurnlaw16_Job a0), (3, .ptr kApi_Window y10.1), (4, .raw (.int .i64 y10.2)), (5, .raw (.int .i64 x3757))] (L) X) ?_ ?_
                · intro x3757 h4465
                  replace h4465 := h4465.symm
                  subst h4465
                  refine Under.seq ?_
                  refine Under.region ?_
                  refine Under.ov (OpV.ld kt27 rfl) rfl ?_
                  obtain ⟨y3761, h3762, h1418⟩ := bsome h1418
                  refine Under.call Try.call18 rfl rfl (f_window_Len_ok h3762 _) rfl ?_
                  refine Under.ov (OpV.move rfl) rfl ?_
                  refine Under.ov (OpV.bin rfl rfl rfl) rfl ?_
                  refine Under.nil ?_
                  refine Under.tN ?_
                  refine Under.ite h1418 rfl (fun h1418 => ?_) (fun h1418 => ?_)
                  · refine Under.seq ?_
                    refine Under.region ?_
                    refine Under.ov (OpV.asg rfl) rfl ?_
                    refine Under.nil ?_
                    refine Under.tN ?_
                    refine Under.retc ?_
                    refine Under.tR ?_
                    have e3763 := Option.some.inj h1418
                    subst e3763
                    have e3764 := Option.some.inj hF
                    subst e3764
                    exact Under.rets Try.results9 (.tm rfl .nil) rfl rfl
                  · refine Under.code_skip ?_
                    refine Under.tN ?_
                    exact Under.weak (k1419 _ (Option.some.inj h1418).symm) (sub_cons rfl (sub_cons rfl (sub_cons rfl (sub_nil _))))
                · intro K k3760
                  refine Under.seq ?_
                  refine Under.region ?_
                  refine Under.ov (OpV.asg rfl) rfl ?_
                  refine Under.nil ?_
                  refine Under.tN ?_
                  refine Under.block ?_
                  obtain ⟨r4283, h4284, h3759⟩ := bsome h3759
                  refine Under.loop (S := (Int × Int)) (C := Unit) () (fun (x4462 : (Int × Int)) (q4463 : Unit) => [(1, .ptr kChurnlaw16_Job a0), (3, .ptr kApi_Window y10.1), (4, .raw (.int .i64 y10.2)), (5, .raw (.int .i64 x4462.1)), (6, .raw (.int .i64 x4462.2))]) (fun (x4462 : (Int × Int)) (q4463 : Unit) => L) h4284 (sub_cons rfl (sub_cons rfl (sub_cons rfl (sub_cons rfl (sub_cons rfl (sub_nil _)))))) rfl (fun x4462 q4463 o4285 h4281 d4282 => ?_)
                  obtain ⟨x4108, x4109⟩ := x4462
                  dsimp only at h4281 ⊢
                  refine Under.seq ?_
                  refine Under.seq ?_
                  refine Under.region ?_
                  refine Under.ov (OpV.move rfl) rfl ?_
                  refine Under.ov (OpV.fd fb52_0 rfl rfl) rfl ?_
                  refine Under.ov (OpV.fd fb27_1 rfl rfl) rfl ?_
                  refine Under.ov (OpV.ld kt25 rfl) rfl ?_
                  refine Under.ov (OpV.len Try.underlying25 rfl rdV) rfl ?_
                  refine Under.ov (OpV.bin rfl rfl rfl) rfl ?_
                  refine Under.nil ?_
                  refine Under.tN ?_
                  refine Under.ite h4281 rfl (fun h4281 => ?_) (fun h4281 => ?_)
                  · refine Under.code_skip ?_
                    refine Under.tN ?_
                    obtain ⟨r4368, h4369, h4281⟩ := bsome h4281
                    refine Under.seq ?_
                    refine Under.after (fun X => ∀ (x4367 : Int), r4368 = (.inr x4367) → Under F0 240 [(1, .ptr kChurnlaw16_Job a0), (3, .ptr kApi_Window y10.1), (4, .raw (.int .i64 y10.2)), (5, .raw (.int .i64 x4367)), (6, .raw (.int .i64 x4109))] (L) X) ?_ ?_
                    · intro x4367 h4459
                      replace h4459 := h4459.symm
                      subst h4459
                      refine Under.region ?_
                      refine Under.ov (OpV.move rfl) rfl ?_
                      refine Under.ov (OpV.bin rfl rfl rfl) rfl ?_
                      refine Under.ov (OpV.asg rfl) rfl ?_
                      refine Under.nil ?_
                      exact Under.next _ () h4281 (sub_cons rfl (sub_cons rfl (sub_cons rfl (sub_cons rfl (sub_cons rfl (sub_nil _)))))) rfl
                    · intro K k4370
                      refine Under.block ?_
                      refine Under.seq ?_
                      refine Under.region ?_
                      refine Under.ov (OpV.fd fb52_0 rfl rfl) rfl ?_
                      refine Under.ov (OpV.fd fb27_1 rfl rfl) rfl ?_
                      refine Under.ov (OpV.ld kt25 rfl) rfl ?_
                      refine Under.ov (OpV.move rfl) rfl ?_
                      obtain ⟨x4371, h4372, h4369⟩ := bsome h4369
                      refine Under.ov (OpV.ixS h4372 Try.underlying25 sz61 rfl rdV rfl) rfl ?_
                      refine Under.ov (OpV.ld kt61 rfl) rfl ?_
                      refine Under.al ZT61 rfl fun b4373 => ?_
                      refine Under.stP (x' := x4371) .box .id sz61_kApi_Epoch rfl rfl rdV rfl ?_
                      refine Under.nil ?_
                      refine Under.frz (t := 7) rfl ?_
                      refine Under.tN ?_
                      refine Under.seq ?_
                      refine Under.region ?_
                      refine Under.ov (OpV.fd fb61_0 rfl rfl) rfl ?_
                      refine Under.ov (OpV.ldI kt2 rfl) rfl ?_
                      refine Under.ov (OpV.fd fb27_0 rfl rfl) rfl ?_
                      refine Under.ov (OpV.ldI kt2 rfl) rfl ?_
                      refine Under.ov (OpV.fd fb52_1 rfl rfl) rfl ?_
                      refine Under.ov (OpV.ldI kt3 rfl) rfl ?_
                      refine Under.ov (OpV.bin rfl rfl rfl) rfl ?_
                      refine Under.ov (OpV.bin rfl rfl rfl) rfl ?_
                      refine Under.ov (OpV.asg rfl) rfl ?_
                      refine Under.nil ?_
                      refine Under.tN ?_
                      refine Under.seq ?_
                      refine Under.region ?_
                      refine Under.ov (OpV.asg rfl) rfl ?_
                      refine Under.nil ?_
                      refine Under.tN ?_
                      refine Under.block ?_
                      obtain ⟨r4429, h4430, h4369⟩ := bsome h4369
                      refine Under.loop (S := (Int × Int)) (C := Unit) () (fun (x4456 : (Int × Int)) (q4457 : Unit) => [(1, .ptr kChurnlaw16_Job a0), (3, .ptr kApi_Window y10.1), (4, .raw (.int .i64 y10.2)), (5, .raw (.int .i64 x4456.1)), (6, .raw (.int .i64 x4109)), (7, .ptr kApi_Epoch x4371), (8, .raw (.bool (decide (x4371.Number > (IntKind.wrap .i64 (y10.1.Newest - a0.Span)))))), (9, .raw (.int .i64 x4456.2))]) (fun (x4456 : (Int × Int)) (q4457 : Unit) => L) h4430 (sub_cons rfl (sub_cons rfl (sub_cons rfl (sub_cons rfl (sub_cons rfl (sub_cons rfl (sub_cons rfl (sub_cons rfl (sub_nil _))))))))) rfl (fun x4456 q4457 o4431 h4427 d4428 => ?_)
                      obtain ⟨x4408, x4409⟩ := x4456
                      dsimp only at h4427 ⊢
                      refine Under.seq ?_
                      refine Under.seq ?_
                      refine Under.region ?_
                      refine Under.ov (OpV.move rfl) rfl ?_
                      refine Under.ov (OpV.fd fb61_1 rfl rfl) rfl ?_
                      refine Under.ov (OpV.ld kt36 rfl) rfl ?_
                      refine Under.ov (OpV.len Try.underlying36 rfl rdV) rfl ?_
                      refine Under.ov (OpV.bin rfl rfl rfl) rfl ?_
                      refine Under.nil ?_
                      refine Under.tN ?_
                      refine Under.ite h4427 rfl (fun h4427 => ?_) (fun h4427 => ?_)
                      · refine Under.code_skip ?_
                        refine Under.tN ?_
                        obtain ⟨r4437, h4438, h4427⟩ := bsome h4427
                        refine Under.seq ?_
                        refine Under.after (fun X => ∀ (x4436 : Int), r4437 = (.inr x4436) → Under F0 240 [(1, .ptr kChurnlaw16_Job a0), (3, .ptr kApi_Window y10.1), (4, .raw (.int .i64 y10.2)), (5, .raw (.int .i64 x4436)), (6, .raw (.int .i64 x4109)), (7, .ptr kApi_Epoch x4371), (8, .raw (.bool (decide (x4371.Number > (IntKind.wrap .i64 (y10.1.Newest - a0.Span)))))), (9, .raw (.int .i64 x4409))] (L) X) ?_ ?_
                        · intro x4436 h4453
                          replace h4453 := h4453.symm
                          subst h4453
                          refine Under.region ?_
                          refine Under.ov (OpV.move rfl) rfl ?_
                          refine Under.ov (OpV.bin rfl rfl rfl) rfl ?_
                          refine Under.ov (OpV.asg rfl) rfl ?_
                          refine Under.nil ?_
                          exact Under.next _ () h4427 (sub_cons rfl (sub_cons rfl (sub_cons rfl (sub_cons rfl (sub_cons rfl (sub_cons rfl (sub_cons rfl (sub_cons rfl (sub_nil _))))))))) rfl
                        · intro K k4439
                          refine Under.block ?_
                          refine Under.seq ?_
                          refine Under.seq ?_
                          refine Under.draw rfl (by kernel_rfl) fun F hF0 => ?_
                          refine UnderQ.ov (OpV.ld kt27 rfl) rfl ?_
                          refine UnderQ.ov (OpV.fd fb61_1 rfl rfl) rfl ?_
                          refine UnderQ.ov (OpV.ld kt36 rfl) rfl ?_
                          refine UnderQ.ov (OpV.move rfl) rfl ?_
                          obtain ⟨x4440, h4441, h4438⟩ := bsome h4438
                          refine UnderQ.ov (OpV.ixS h4441 Try.underlying36 sz43 rfl rdV rfl) rfl ?_
                          refine UnderQ.ov (OpV.ld kt43 rfl) rfl ?_
                          obtain ⟨y4442, h4443, h4438⟩ := bsome h4438
                          refine UnderQ.ov (OpV.call Try.call20 rfl rfl (fun L => (f_window_Has_ok h4443 L))) rfl ?_
                          refine UnderQ.ov (OpV.move rfl) rfl ?_
                          refine UnderQ.ov (OpV.eqBn Try.underlying4 rfl rfl) rfl ?_
                          refine UnderQ.nil hF0 ?_
                          refine Under.tN ?_
                          refine Under.ite h4438 rfl (fun h4438 => ?_) (fun h4438 => ?_)
                          · refine Under.seq ?_
                            refine Under.region ?_
                            refine Under.ov (OpV.asg rfl) rfl ?_
                            refine Under.nil ?_
                            refine Under.tN ?_
                            refine Under.retc ?_
                            refine Under.tR ?_
                            refine Under.bR ?_
                            refine Under.tR ?_
                            have e4444 := Option.some.inj h4438
                            subst e4444
                            have e4445 := done_eq h4427 d4428
                            subst e4445
                            refine Under.tR ?_
                            refine Under.bR ?_
                            refine Under.bR ?_
                            refine Under.tR ?_
                            have e4446 := Option.some.inj h4369
                            subst e4446
                            have e4447 := done_eq h4281 d4282
                            subst e4447
                            refine Under.tR ?_
                            refine Under.bR ?_
                            refine Under.tR ?_
                            have e4448 := Option.some.inj h3759
                            subst e4448
                            refine Under.tR ?_
                            have e4449 := Option.some.inj h1418
                            subst e4449
                            have e4450 := Option.some.inj hF
                            subst e4450
                            exact Under.rets Try.results9 (.tm rfl .nil) rfl rfl
                          · refine Under.code_skip ?_
                            refine Under.tN ?_
                            refine Under.seq ?_
                            refine Under.region ?_
                            refine Under.ov (OpV.move rfl) rfl ?_
                            refine Under.nil ?_
                            refine Under.tN ?_
                            refine Under.ite h4438 rfl (fun h4438 => ?_) (fun h4438 => ?_)
                            · refine Under.region ?_
                              refine Under.ov (OpV.move rfl) rfl ?_
                              refine Under.ov (OpV.bin rfl rfl rfl) rfl ?_
                              refine Under.ov (OpV.asg rfl) rfl ?_
                              refine Under.nil ?_
                              refine Under.bN ?_
                              refine Under.tN ?_
                              exact Under.weak (k4439 _ (Option.some.inj h4438).symm) (sub_cons rfl (sub_cons rfl (sub_cons rfl (sub_cons rfl (sub_cons rfl (sub_cons rfl (sub_cons rfl (sub_cons rfl (sub_nil _)))))))))
                            · refine Under.code_skip ?_
                              refine Under.bN ?_
                              refine Under.tN ?_
                              exact Under.weak (k4439 _ (Option.some.inj h4438).symm) (sub_cons rfl (sub_cons rfl (sub_cons rfl (sub_cons rfl (sub_cons rfl (sub_cons rfl (sub_cons rfl (sub_cons rfl (sub_nil _)))))))))
                      · refine Under.exit ?_
                        refine Under.tE ?_
                        have e4454 := done_eq h4427 d4428
                        subst e4454
                        refine Under.tE ?_
                        refine Under.bH ?_
                        refine Under.bN ?_
                        refine Under.tN ?_
                        exact Under.weak (k4370 _ (Option.some.inj h4369).symm) (sub_cons rfl (sub_cons rfl (sub_cons rfl (sub_cons rfl (sub_cons rfl (sub_nil _))))))
                  · refine Under.exit ?_
                    refine Under.tE ?_
                    have e4460 := done_eq h4281 d4282
                    subst e4460
                    refine Under.tE ?_
                    refine Under.bH ?_
                    refine Under.tN ?_
                    exact Under.weak (k3760 _ (Option.some.inj h3759).symm) (sub_cons rfl (sub_cons rfl (sub_cons rfl (sub_cons rfl (sub_nil _)))))
            · refine Under.byc (t := 52) rfl (fun c3058 => ?_) (fun c3058 => ?_)
              · refine Under.skc c3058 rfl rfl rfl ?_
                refine Under.skc c3058 rfl rfl rfl ?_
                refine Under.skc c3058 rfl rfl rfl ?_
                refine Under.skc c3058 rfl rfl rfl ?_
                refine Under.skc c3058 rfl rfl rfl ?_
                refine Under.skc c3058 rfl rfl rfl ?_
                refine Under.skc c3058 rfl rfl rfl ?_
                refine Under.skc c3058 rfl rfl rfl ?_
                refine Under.skc c3058 rfl rfl rfl ?_
                refine Under.ov (OpV.pick rfl (fun e => rfl) (fun e => absurd (e.symm.trans c3058) (by decide))) rfl ?_
                exact Under.rfin 9 (or_t (e := y10.1.Newest != (max a0.W.Newest a0.Epoch)) c3058) rfl k
              · refine Under.goc c3058 rfl rfl ?_
                refine Under.ov (OpV.fd fb27_0 rfl rfl) rfl ?_
                refine Under.goc c3058 rfl rfl ?_
                refine Under.ov (OpV.ldI kt2 rfl) rfl ?_
                refine Under.goc c3058 rfl rfl ?_
                refine Under.ov (OpV.fd fb52_0 rfl rfl) rfl ?_
                refine Under.goc c3058 rfl rfl ?_
                refine Under.ov (OpV.fd fb27_0 rfl rfl) rfl ?_
                refine Under.goc c3058 rfl rfl ?_
                refine Under.ov (OpV.ldI kt2 rfl) rfl ?_
                refine Under.goc c3058 rfl rfl ?_
                refine Under.ov (OpV.fd fb52_3 rfl rfl) rfl ?_
                refine Under.goc c3058 rfl rfl ?_
                refine Under.ov (OpV.ldI kt2 rfl) rfl ?_
                refine Under.goc c3058 rfl rfl ?_
                refine Under.ov (OpV.max2 rfl rfl) rfl ?_
                refine Under.goc c3058 rfl rfl ?_
                refine Under.ov (OpV.bin rfl rfl rfl) rfl ?_
                refine Under.ov (OpV.pick rfl (fun e => absurd (e.symm.trans c3058) (by decide)) (fun e => rfl)) rfl ?_
                exact Under.rfin 9 (or_f c3058) rfl k
          · refine Under.region ?_
            refine Under.ov (OpV.fd fb52_0 rfl rfl) rfl ?_
            refine Under.ov (OpV.ld kt27 rfl) rfl ?_
            refine Under.stP (x' := a0.W) .box .id sz27_kApi_Window rfl rfl rdV rfl ?_
            refine Under.nil ?_
            refine Under.frz (t := 3) rfl ?_
            refine Under.tN ?_
            exact Under.weak (k1419 _ (Option.some.inj h1418).symm) (sub_cons rfl (sub_cons rfl (sub_cons rfl (sub_nil _))))
    · refine Under.byc (t := 27) rfl (fun c6 => ?_) (fun c6 => ?_)
      · refine Under.skc c6 rfl rfl rfl ?_
        refine Under.skc c6 rfl rfl rfl ?_
        refine Under.skc c6 rfl rfl rfl ?_
        refine Under.skc c6 rfl rfl rfl ?_
        refine Under.ov (OpV.pick rfl (fun e => rfl) (fun e => absurd (e.symm.trans c6) (by decide))) rfl ?_
        exact Under.rfin 4 (or_t (e := decide ((a0.Tags.length : Int) > 2000)) c6) rfl k
      · refine Under.goc c6 rfl rfl ?_
        refine Under.ov (OpV.fd fb52_4 rfl rfl) rfl ?_
        refine Under.goc c6 rfl rfl ?_
        refine Under.ov (OpV.ld kt36 rfl) rfl ?_
        refine Under.goc c6 rfl rfl ?_
        refine Under.ov (OpV.len Try.underlying36 rfl rdV) rfl ?_
        refine Under.goc c6 rfl rfl ?_
        refine Under.ov (OpV.bin rfl rfl rfl) rfl ?_
        refine Under.ov (OpV.pick rfl (fun e => absurd (e.symm.trans c6) (by decide)) (fun e => rfl)) rfl ?_
        exact Under.rfin 4 (or_f c6) rfl k
end Go.Proofs.Ytgllljocmpbooaa

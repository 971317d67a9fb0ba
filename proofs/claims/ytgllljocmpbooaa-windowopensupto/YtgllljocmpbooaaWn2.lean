/- PRINTED BY gen2.py (of this repo): functions of the program in Lean, and that the machine follows them. -/
import Derived.Test.YtgllljocmpbooaaWn1
set_option linter.unusedVariables false
set_option linter.unusedSimpArgs false
set_option maxRecDepth 20000
namespace Go.Proofs.Ytgllljocmpbooaa
open Go Go.Sim Go.ChangeShapes Go.WideShapes Go.ChangeAt Go.RowKit
/-- churn/churnref16.sorted -/
noncomputable def f_churnref16_sorted : Nat → (List (List Int)) → Option (List (List Int))
  | 0, _ => none
  | fuel + 1, a0 =>
    bif decide ((a0.length : Int) < 2) then
      bif mkB 0 1 then
      (app (List.replicate (Int.toNat 0) (List.replicate 16 0)) a0).bind fun z4 =>
      some z4
      else none
    else
      (sub a0 0 (IntKind.wrap .i64 (Int.tdiv (a0.length : Int) 2))).bind fun x8 =>
      (f_churnref16_sorted fuel x8).bind fun y10 =>
      (sub a0 (IntKind.wrap .i64 (Int.tdiv (a0.length : Int) 2)) (a0.length : Int)).bind fun x12 =>
      (f_churnref16_sorted fuel x12).bind fun y14 =>
      bif mkB 0 (a0.length : Int) then
      (((Loop.run (S := ((List (List Int)) × Int × Int)) (R := (List (List Int))) (fun (x322, x323, x324) =>
          bif (decide (x323 < (y10.length : Int))) || (decide (x324 < (y14.length : Int))) then
            ((bif x324 == (y14.length : Int) then
              some true
            else
              ((bif decide (x323 < (y10.length : Int)) then
                (idx y14 x324).bind fun x386 =>
                (idx y10 x323).bind fun x388 =>
                (f_churnref16_less x386 x388).bind fun y390 =>
                some (!y390)
              else
                some false
                : Option Bool)).bind fun x385 =>
              some x385
              : Option Bool)).bind fun x382 =>
            bif x382 then
              ((((bif decide (x324 < (y14.length : Int)) then
                (idx y10 x323).bind fun x411 =>
                (idx y14 x324).bind fun x413 =>
                some (x411 == x413)
              else
                some false
                : Option Bool)).bind fun x410 =>
              bif x410 then
                some (IntKind.wrap .i64 (x324 + 1))
              else
                some x324
                : Option Int)).bind fun x399 =>
              (idx y10 x323).bind fun x403 =>
              (app x322 [x403]).bind fun z405 =>
              some (.next (z405, IntKind.wrap .i64 (x323 + 1), x399))
            else
              (idx y14 x324).bind fun x418 =>
              (app x322 [x418]).bind fun z420 =>
              some (.next (z420, x323, IntKind.wrap .i64 (x324 + 1)))
          else
            some (.done x322)) (List.replicate (Int.toNat 0) (List.replicate 16 0), 0, 0)).bind fun x371 =>
      some x371
        : Option (List (List Int)))).bind fun x220 =>
      some x220
      else none
theorem f_churnref16_sorted_ok {fuel : Nat} : ∀ {a0 : List (List Int)} {r0 : (List (List Int))} (hF : f_churnref16_sorted fuel a0 = some r0) (L : List Res), Ok Try.prog 40 [SV.val (kSl (kArr 16 (kInt .u8))) a0] (L) (SV.val (kSl (kArr 16 (kInt .u8))) r0) (L) := by
  induction fuel with
  | zero => intro a0 r0 hF; cases hF
  | succ fuel ih =>
    intro a0 r0 hF L
    rw [f_churnref16_sorted] at hF
    refine Ok.intro 99 [(0, .val (kSl (kArr 16 (kInt .u8))) a0)] Try.func40 rfl rfl rfl rfl (fun F0 => ?_)
    refine Under.seq ?_
    refine Under.region ?_
    refine Under.ov (OpV.asg rfl) rfl ?_
    refine Under.nil ?_
    refine Under.tN ?_
    refine Under.seq ?_
    refine Under.seq ?_
    refine Under.region ?_
    refine Under.ov (OpV.move rfl) rfl ?_
    refine Under.ov (OpV.len Try.underlying36 rfl rdV) rfl ?_
    refine Under.ov (OpV.bin rfl rfl rfl) rfl ?_
    refine Under.nil ?_
    refine Under.tN ?_
    refine Under.ite hF rfl (fun hF => ?_) (fun hF => ?_)
    · refine Under.seq ?_
      refine Under.region ?_
      obtain ⟨h2, hF⟩ := gsome hF
      refine Under.mk h2 Try.underlying36 AT43 rfl rfl rfl fun v1 => ?_
      refine Under.ov (OpV.asg rfl) rfl ?_
      refine Under.nil ?_
      refine Under.tN ?_
      refine Under.seq ?_
      refine Under.region ?_
      refine Under.ov (OpV.move rfl) rfl ?_
      refine Under.ov (OpV.move rfl) rfl ?_
      obtain ⟨z4, h5, hF⟩ := bsome hF
      refine Under.app h5 Try.underlying36 AT43 rfl rfl rdV rfl fun v6 => ?_
      refine Under.ov (OpV.asg rfl) rfl ?_
      refine Under.nil ?_
      refine Under.frzO (t := 2) rfl ?_
      refine Under.tN ?_
      refine Under.retc ?_
      refine Under.tR ?_
      have e7 := Option.some.inj hF
      subst e7
      exact Under.rets Try.results40 (.tm rfl .nil) rfl rfl
    · refine Under.code_skip ?_
      refine Under.tN ?_
      refine Under.seq ?_
      refine Under.region ?_
      refine Under.ov (OpV.move rfl) rfl ?_
      refine Under.ov (OpV.move rfl) rfl ?_
      refine Under.ov (OpV.len Try.underlying36 rfl rdV) rfl ?_
      refine Under.ov (OpV.quo rfl rfl (by decide) rfl) rfl ?_
      obtain ⟨x8, h9, hF⟩ := bsome hF
      refine Under.ov (OpV.slH h9 Try.underlying36 sz43 rfl rdV rfl) rfl ?_
      obtain ⟨y10, h11, hF⟩ := bsome hF
      refine Under.call Try.call40 rfl rfl (ih h11 _) rfl ?_
      refine Under.ov (OpV.asg rfl) rfl ?_
      refine Under.nil ?_
      refine Under.tN ?_
      refine Under.seq ?_
      refine Under.region ?_
      refine Under.ov (OpV.move rfl) rfl ?_
      refine Under.ov (OpV.move rfl) rfl ?_
      refine Under.ov (OpV.len Try.underlying36 rfl rdV) rfl ?_
      refine Under.ov (OpV.quo rfl rfl (by decide) rfl) rfl ?_
      obtain ⟨x12, h13, hF⟩ := bsome hF
      refine Under.ov (OpV.slL h13 Try.underlying36 sz43 rfl rdV rfl) rfl ?_
      obtain ⟨y14, h15, hF⟩ := bsome hF
      refine Under.call Try.call40 rfl rfl (ih h15 _) rfl ?_
      refine Under.ov (OpV.asg rfl) rfl ?_
      refine Under.nil ?_
      refine Under.tN ?_
      refine Under.seq ?_
      refine Under.region ?_
      refine Under.ov (OpV.move rfl) rfl ?_
      refine Under.ov (OpV.len Try.underlying36 rfl rdV) rfl ?_
      obtain ⟨h17, hF⟩ := gsome hF
      refine Under.mk h17 Try.underlying36 AT43 rfl rfl rfl fun v16 => ?_
      refine Under.ov (OpV.asg rfl) rfl ?_
      refine Under.nil ?_
      refine Under.tN ?_
      refine Under.seq ?_
      refine Under.region ?_
      refine Under.ov (OpV.asg rfl) rfl ?_
      refine Under.ov (OpV.asg rfl) rfl ?_
      refine Under.nil ?_
      refine Under.tN ?_
      obtain ⟨r221, h222, hF⟩ := bsome hF
      refine Under.seq ?_
      refine Under.after (fun X => ∀ (x220 : List (List Int)), r221 = x220 → Under F0 99 [(6, .val (kSl (kArr 16 (kInt .u8))) x220)] (L) X) ?_ ?_
      · intro x220 h428
        replace h428 := h428.symm
        subst h428
        refine Under.seq ?_
        refine Under.region ?_
        refine Under.ov (OpV.move rfl) rfl ?_
        refine Under.ov (OpV.asg rfl) rfl ?_
        refine Under.nil ?_
        refine Under.tN ?_
        refine Under.retc ?_
        have e224 := Option.some.inj hF
        subst e224
        exact Under.rets Try.results40 (.tm rfl .nil) rfl rfl
      · intro K k223
        refine Under.block ?_
        obtain ⟨r374, h375, h222⟩ := bsome h222
        refine Under.loop (S := ((List (List Int)) × Int × Int)) (C := Value) v16 (fun (x425 : ((List (List Int)) × Int × Int)) (q426 : Value) => [(4, .val (kSl (kArr 16 (kInt .u8))) y10), (5, .val (kSl (kArr 16 (kInt .u8))) y14), (6, .raw q426), (7, .raw (.int .i64 x425.2.1)), (8, .raw (.int .i64 x425.2.2))]) (fun (x425 : ((List (List Int)) × Int × Int)) (q426 : Value) => (.own (kArr 16 (kInt .u8)) q426 43 x425.1) :: L) h375 (sub_cons rfl (sub_cons rfl (sub_cons rfl (sub_cons rfl (sub_cons rfl (sub_nil _)))))) rfl (fun x425 q426 o376 h372 d373 => ?_)
        obtain ⟨x322, x323, x324⟩ := x425
        dsimp only at h372 ⊢
        refine Under.seq ?_
        refine Under.seq ?_
        refine Under.region ?_
        refine Under.ov (OpV.move rfl) rfl ?_
        refine Under.ov (OpV.move rfl) rfl ?_
        refine Under.ov (OpV.len Try.underlying36 rfl rdV) rfl ?_
        refine Under.ov (OpV.bin rfl rfl rfl) rfl ?_
        refine Under.ov (OpV.move rfl) rfl ?_
        refine runj_5 40 ((decide (x323 < (y10.length : Int))) || (decide (x324 < (y14.length : Int)))) ?_ (fun k => ?_)
        · refine Under.nil ?_
          refine Under.tN ?_
          refine Under.ite h372 rfl (fun h372 => ?_) (fun h372 => ?_)
          · refine Under.code_skip ?_
            refine Under.tN ?_
            refine Under.block ?_
            refine Under.seq ?_
            refine Under.draw rfl (by kernel_rfl) fun F hF0 => ?_
            refine UnderQ.ov (OpV.move rfl) rfl ?_
            refine UnderQ.ov (OpV.move rfl) rfl ?_
            refine UnderQ.ov (OpV.len Try.underlying36 rfl rdV) rfl ?_
            refine UnderQ.ov (OpV.bin rfl rfl rfl) rfl ?_
            refine UnderQ.ov (OpV.move rfl) rfl ?_
            obtain ⟨x382, h381, h372⟩ := bsome h372
            refine runj_17q 62 x382 ?_ (fun k => ?_)
            · refine UnderQ.nil hF0 ?_
              refine Under.tN ?_
              refine Under.ite h372 rfl (fun h372 => ?_) (fun h372 => ?_)
              · obtain ⟨r400, h401, h372⟩ := bsome h372
                refine Under.seq ?_
                refine Under.after (fun X => ∀ (x399 : Int), r400 = x399 → Under F0 99 [(4, .val (kSl (kArr 16 (kInt .u8))) y10), (5, .val (kSl (kArr 16 (kInt .u8))) y14), (6, .raw q426), (7, .raw (.int .i64 x323)), (8, .raw (.int .i64 x399))] ((.own (kArr 16 (kInt .u8)) q426 43 x322) :: L) X) ?_ ?_
                · intro x399 h417
                  replace h417 := h417.symm
                  subst h417
                  refine Under.seq ?_
                  refine Under.region ?_
                  refine Under.ov (OpV.move rfl) rfl ?_
                  refine Under.ov (OpV.move rfl) rfl ?_
                  refine Under.ov (OpV.move rfl) rfl ?_
                  obtain ⟨x403, h404, h372⟩ := bsome h372
                  refine Under.ov (OpV.ixS h404 Try.underlying36 sz43 rfl rdV rfl) rfl ?_
                  refine Under.ov (OpV.ld kt43 rfl) rfl ?_
                  refine Under.bsF (ys := [x403]) Try.underlying36 ET43 (BldA.cons rfl rfl rdV (BldA.nil _)) rfl rfl ?_
                  obtain ⟨z405, h406, h372⟩ := bsome h372
                  refine Under.app h406 Try.underlying36 AT43 rfl rfl rdV rfl fun v407 => ?_
                  refine Under.ov (OpV.asg rfl) rfl ?_
                  refine Under.nil ?_
                  refine Under.tN ?_
                  refine Under.region ?_
                  refine Under.ov (OpV.move rfl) rfl ?_
                  refine Under.ov (OpV.bin rfl rfl rfl) rfl ?_
                  refine Under.ov (OpV.asg rfl) rfl ?_
                  refine Under.nil ?_
                  refine Under.bN ?_
                  exact Under.next _ v407 h372 (sub_cons rfl (sub_cons rfl (sub_cons rfl (sub_cons rfl (sub_cons rfl (sub_nil _)))))) rfl
                · intro K k402
                  refine Under.seq ?_
                  refine Under.draw rfl (by kernel_rfl) fun F hF0 => ?_
                  refine UnderQ.ov (OpV.move rfl) rfl ?_
                  refine UnderQ.ov (OpV.move rfl) rfl ?_
                  refine UnderQ.ov (OpV.len Try.underlying36 rfl rdV) rfl ?_
                  refine UnderQ.ov (OpV.bin rfl rfl rfl) rfl ?_
                  refine UnderQ.ov (OpV.move rfl) rfl ?_
                  obtain ⟨x410, h409, h401⟩ := bsome h401
                  refine runj_10q 77 x410 ?_ (fun k => ?_)
                  · refine UnderQ.nil hF0 ?_
                    refine Under.tN ?_
                    refine Under.ite h401 rfl (fun h401 => ?_) (fun h401 => ?_)
                    · refine Under.region ?_
                      refine Under.ov (OpV.move rfl) rfl ?_
                      refine Under.ov (OpV.bin rfl rfl rfl) rfl ?_
                      refine Under.ov (OpV.asg rfl) rfl ?_
                      refine Under.nil ?_
                      refine Under.tN ?_
                      exact Under.weak (k402 _ (Option.some.inj h401).symm) (sub_cons rfl (sub_cons rfl (sub_cons rfl (sub_cons rfl (sub_cons rfl (sub_nil _))))))
                    · refine Under.code_skip ?_
                      refine Under.tN ?_
                      exact Under.weak (k402 _ (Option.some.inj h401).symm) (sub_cons rfl (sub_cons rfl (sub_cons rfl (sub_cons rfl (sub_cons rfl (sub_nil _))))))
                  · refine UnderQ.byc (t := 67) rfl (fun c408 => ?_) (fun c408 => ?_)
                    · replace h409 := ctrue c408 h409
                      refine UnderQ.goc c408 rfl rfl ?_
                      refine UnderQ.ov (OpV.move rfl) rfl ?_
                      refine UnderQ.goc c408 rfl rfl ?_
                      refine UnderQ.ov (OpV.move rfl) rfl ?_
                      obtain ⟨x411, h412, h409⟩ := bsome h409
                      refine UnderQ.goc c408 rfl rfl ?_
                      refine UnderQ.ov (OpV.ixS h412 Try.underlying36 sz43 rfl rdV rfl) rfl ?_
                      refine UnderQ.goc c408 rfl rfl ?_
                      refine UnderQ.ov (OpV.ld kt43 rfl) rfl ?_
                      refine UnderQ.goc c408 rfl rfl ?_
                      refine UnderQ.ov (OpV.move rfl) rfl ?_
                      refine UnderQ.goc c408 rfl rfl ?_
                      refine UnderQ.ov (OpV.move rfl) rfl ?_
                      obtain ⟨x413, h414, h409⟩ := bsome h409
                      refine UnderQ.goc c408 rfl rfl ?_
                      refine UnderQ.ov (OpV.ixS h414 Try.underlying36 sz43 rfl rdV rfl) rfl ?_
                      refine UnderQ.goc c408 rfl rfl ?_
                      refine UnderQ.ov (OpV.ld kt43 rfl) rfl ?_
                      refine UnderQ.goc c408 rfl rfl ?_
                      refine UnderQ.ov (OpV.eqK eqk43 eqg43 rfl rfl rfl rdV rfl rdV) rfl ?_
                      refine UnderQ.ov (OpV.pick rfl (fun e => rfl) (fun e => absurd (e.symm.trans c408) (by decide))) rfl ?_
                      exact UnderQ.rfin 9 (congrArg (fun b => SV.raw (.bool b)) (Option.some.inj h409)) rfl k
                    · replace h409 := cfalse c408 h409
                      refine UnderQ.skc c408 rfl rfl rfl ?_
                      refine UnderQ.skc c408 rfl rfl rfl ?_
                      refine UnderQ.skc c408 rfl rfl rfl ?_
                      refine UnderQ.skc c408 rfl rfl rfl ?_
                      refine UnderQ.skc c408 rfl rfl rfl ?_
                      refine UnderQ.skc c408 rfl rfl rfl ?_
                      refine UnderQ.skc c408 rfl rfl rfl ?_
                      refine UnderQ.skc c408 rfl rfl rfl ?_
                      refine UnderQ.skc c408 rfl rfl rfl ?_
                      refine UnderQ.ov (OpV.pick rfl (fun e => absurd (e.symm.trans c408) (by decide)) (fun e => rfl)) rfl ?_
                      exact UnderQ.rfin 9 (congrArg (fun b => SV.raw (.bool b)) (Option.some.inj h409)) rfl k
              · refine Under.seq ?_
                refine Under.region ?_
                refine Under.ov (OpV.move rfl) rfl ?_
                refine Under.ov (OpV.move rfl) rfl ?_
                refine Under.ov (OpV.move rfl) rfl ?_
                obtain ⟨x418, h419, h372⟩ := bsome h372
                refine Under.ov (OpV.ixS h419 Try.underlying36 sz43 rfl rdV rfl) rfl ?_
                refine Under.ov (OpV.ld kt43 rfl) rfl ?_
                refine Under.bsF (ys := [x418]) Try.underlying36 ET43 (BldA.cons rfl rfl rdV (BldA.nil _)) rfl rfl ?_
                obtain ⟨z420, h421, h372⟩ := bsome h372
                refine Under.app h421 Try.underlying36 AT43 rfl rfl rdV rfl fun v422 => ?_
                refine Under.ov (OpV.asg rfl) rfl ?_
                refine Under.nil ?_
                refine Under.tN ?_
                refine Under.region ?_
                refine Under.ov (OpV.move rfl) rfl ?_
                refine Under.ov (OpV.bin rfl rfl rfl) rfl ?_
                refine Under.ov (OpV.asg rfl) rfl ?_
                refine Under.nil ?_
                refine Under.bN ?_
                exact Under.next _ v422 h372 (sub_cons rfl (sub_cons rfl (sub_cons rfl (sub_cons rfl (sub_cons rfl (sub_nil _)))))) rfl
            · refine UnderQ.byc (t := 45) rfl (fun c380 => ?_) (fun c380 => ?_)
              · replace h381 := ctrue c380 h381
                refine UnderQ.skc c380 rfl rfl rfl ?_
                refine UnderQ.skc c380 rfl rfl rfl ?_
                refine UnderQ.skc c380 rfl rfl rfl ?_
                refine UnderQ.skc c380 rfl rfl rfl ?_
                refine UnderQ.skc c380 rfl rfl rfl ?_
                refine UnderQ.sku rfl rfl rfl ?_
                refine UnderQ.sku rfl rfl rfl ?_
                refine UnderQ.sku rfl rfl rfl ?_
                refine UnderQ.sku rfl rfl rfl ?_
                refine UnderQ.sku rfl rfl rfl ?_
                refine UnderQ.sku rfl rfl rfl ?_
                refine UnderQ.sku rfl rfl rfl ?_
                refine UnderQ.sku rfl rfl rfl ?_
                refine UnderQ.sku rfl rfl rfl ?_
                refine UnderQ.sku rfl rfl rfl ?_
                refine UnderQ.skc c380 rfl rfl rfl ?_
                refine UnderQ.ov (OpV.pick rfl (fun e => rfl) (fun e => absurd (e.symm.trans c380) (by decide))) rfl ?_
                exact UnderQ.rfin 16 (congrArg (fun b => SV.raw (.bool b)) (Option.some.inj h381)) rfl k
              · replace h381 := cfalse c380 h381
                refine UnderQ.goc c380 rfl rfl ?_
                refine UnderQ.ov (OpV.move rfl) rfl ?_
                refine UnderQ.goc c380 rfl rfl ?_
                refine UnderQ.ov (OpV.move rfl) rfl ?_
                refine UnderQ.goc c380 rfl rfl ?_
                refine UnderQ.ov (OpV.len Try.underlying36 rfl rdV) rfl ?_
                refine UnderQ.goc c380 rfl rfl ?_
                refine UnderQ.ov (OpV.bin rfl rfl rfl) rfl ?_
                refine UnderQ.goc c380 rfl rfl ?_
                refine UnderQ.ov (OpV.move rfl) rfl ?_
                obtain ⟨x385, h384, h381⟩ := bsome h381
                refine runj_11q 61 x385 ?_ (fun k => ?_)
                · refine UnderQ.ov (OpV.pick rfl (fun e => absurd (e.symm.trans c380) (by decide)) (fun e => rfl)) rfl ?_
                  exact UnderQ.rfin 6 (congrArg (fun b => SV.raw (.bool b)) (Option.some.inj h381)) rfl k
                · refine UnderQ.byc (t := 50) rfl (fun c383 => ?_) (fun c383 => ?_)
                  · replace h384 := ctrue c383 h384
                    refine UnderQ.goc c383 rfl rfl ?_
                    refine UnderQ.ov (OpV.move rfl) rfl ?_
                    refine UnderQ.goc c383 rfl rfl ?_
                    refine UnderQ.ov (OpV.move rfl) rfl ?_
                    obtain ⟨x386, h387, h384⟩ := bsome h384
                    refine UnderQ.goc c383 rfl rfl ?_
                    refine UnderQ.ov (OpV.ixS h387 Try.underlying36 sz43 rfl rdV rfl) rfl ?_
                    refine UnderQ.goc c383 rfl rfl ?_
                    refine UnderQ.ov (OpV.ld kt43 rfl) rfl ?_
                    refine UnderQ.goc c383 rfl rfl ?_
                    refine UnderQ.ov (OpV.move rfl) rfl ?_
                    refine UnderQ.goc c383 rfl rfl ?_
                    refine UnderQ.ov (OpV.move rfl) rfl ?_
                    obtain ⟨x388, h389, h384⟩ := bsome h384
                    refine UnderQ.goc c383 rfl rfl ?_
                    refine UnderQ.ov (OpV.ixS h389 Try.underlying36 sz43 rfl rdV rfl) rfl ?_
                    refine UnderQ.goc c383 rfl rfl ?_
                    refine UnderQ.ov (OpV.ld kt43 rfl) rfl ?_
                    obtain ⟨y390, h391, h384⟩ := bsome h384
                    refine UnderQ.goc c383 rfl rfl ?_
                    refine UnderQ.ov (OpV.call Try.call39 rfl rfl (fun L => (f_churnref16_less_ok h391 L))) rfl ?_
                    refine UnderQ.goc c383 rfl rfl ?_
                    refine UnderQ.ov (OpV.not rfl) rfl ?_
                    refine UnderQ.goc c380 rfl rfl ?_
                    refine UnderQ.ov (OpV.pick rfl (fun e => rfl) (fun e => absurd (e.symm.trans c383) (by decide))) rfl ?_
                    exact UnderQ.rfin 10 (congrArg (fun b => SV.raw (.bool b)) (Option.some.inj h384)) rfl k
                  · replace h384 := cfalse c383 h384
                    refine UnderQ.skc c383 rfl rfl rfl ?_
                    refine UnderQ.skc c383 rfl rfl rfl ?_
                    refine UnderQ.skc c383 rfl rfl rfl ?_
                    refine UnderQ.skc c383 rfl rfl rfl ?_
                    refine UnderQ.skc c383 rfl rfl rfl ?_
                    refine UnderQ.skc c383 rfl rfl rfl ?_
                    refine UnderQ.skc c383 rfl rfl rfl ?_
                    refine UnderQ.skc c383 rfl rfl rfl ?_
                    refine UnderQ.skc c383 rfl rfl rfl ?_
                    refine UnderQ.skc c383 rfl rfl rfl ?_
                    refine UnderQ.goc c380 rfl rfl ?_
                    refine UnderQ.ov (OpV.pick rfl (fun e => absurd (e.symm.trans c383) (by decide)) (fun e => rfl)) rfl ?_
                    exact UnderQ.rfin 10 (congrArg (fun b => SV.raw (.bool b)) (Option.some.inj h384)) rfl k
          · refine Under.frzO (t := 6) rfl ?_
            refine Under.exit ?_
            refine Under.tE ?_
            have e423 := done_eq h372 d373
            subst e423
            refine Under.tE ?_
            refine Under.bH ?_
            refine Under.tN ?_
            exact Under.weak (k223 _ (Option.some.inj h222).symm) (sub_cons rfl (sub_nil _))
        · refine Under.byc (t := 35) rfl (fun c377 => ?_) (fun c377 => ?_)
          · refine Under.skc c377 rfl rfl rfl ?_
            refine Under.skc c377 rfl rfl rfl ?_
            refine Under.skc c377 rfl rfl rfl ?_
            refine Under.skc c377 rfl rfl rfl ?_
            refine Under.ov (OpV.pick rfl (fun e => rfl) (fun e => absurd (e.symm.trans c377) (by decide))) rfl ?_
            exact Under.rfin 4 (or_t (e := decide (x324 < (y14.length : Int))) c377) rfl k
          · refine Under.goc c377 rfl rfl ?_
            refine Under.ov (OpV.move rfl) rfl ?_
            refine Under.goc c377 rfl rfl ?_
            refine Under.ov (OpV.move rfl) rfl ?_
            refine Under.goc c377 rfl rfl ?_
            refine Under.ov (OpV.len Try.underlying36 rfl rdV) rfl ?_
            refine Under.goc c377 rfl rfl ?_
            refine Under.ov (OpV.bin rfl rfl rfl) rfl ?_
            refine Under.ov (OpV.pick rfl (fun e => absurd (e.symm.trans c377) (by decide)) (fun e => rfl)) rfl ?_
            exact Under.rfin 4 (or_f c377) rfl k
/-- churn/churnref16.Check -/
noncomputable def f_churnref16_Check (a0 : Api_Window) (a1 : Int) (a2 : Int) : Option Int :=
  ((bif (((((decide (a1 < 1)) || (decide (a1 > 8))) || (decide (a2 < 0))) || (decide (a2 > 4096))) || (decide (a0.Newest < 0))) || (decide (a0.Newest > 4611686018427387904)) then
    some true
  else
    (f_churnref16_Len a0).bind fun y19 =>
    some (decide (y19 > a2))
    : Option Bool)).bind fun x18 =>
  bif x18 then
    some 2
  else
    (((Loop.run (S := Int) (R := (Unit ⊕ Int)) (fun x725 =>
        bif decide (x725 < (a0.Epochs.length : Int)) then
          (((idx a0.Epochs x725).bind fun x899 =>
          bif (((decide (x899.Number < 0)) || (decide (x899.Number > a0.Newest))) || (decide (x899.Number ≤ (IntKind.wrap .i64 (a0.Newest - a1))))) || ((x899.Tags.length : Int) == 0) then
            some (.inl 2)
          else
            ((bif decide (x725 > 0) then
              (idx a0.Epochs (IntKind.wrap .i64 (x725 - 1))).bind fun x918 =>
              some (decide (x918.Number ≥ x899.Number))
            else
              some false
              : Option Bool)).bind fun x917 =>
            bif x917 then
              some (.inl 2)
            else
              (Loop.run (S := Int) (R := (Unit ⊕ Int)) (fun x937 =>
                  bif decide (x937 < (x899.Tags.length : Int)) then
                    (idx x899.Tags (IntKind.wrap .i64 (x937 - 1))).bind fun x949 =>
                    (idx x899.Tags x937).bind fun x951 =>
                    (f_churnref16_less x949 x951).bind fun y953 =>
                    bif !y953 then
                      some (.done (.inr 2))
                    else
                      some (.next (IntKind.wrap .i64 (x937 + 1)))
                  else
                    some (.done (.inl ()))) 1).bind fun r946 => match r946 with
                | .inl _ =>
                  some (.inr ())
                | .inr z =>
                  some (.inl z)
            : Option (Int ⊕ Unit))).bind fun r896 => match r896 with
            | .inl z =>
              some (.done (.inr z))
            | .inr _ =>
              some (.next (IntKind.wrap .i64 (x725 + 1)))
        else
          some (.done (.inl ()))) 0).bind fun r841 => match r841 with
      | .inl _ =>
        some (.inr ())
      | .inr z =>
        some (.inl z)
      : Option (Int ⊕ Unit))).bind fun r487 => match r487 with
      | .inl z =>
        some z
      | .inr _ =>
        (f_churnref16_all a0).bind fun y490 =>
        (f_churnref16_sorted 64 y490).bind fun y492 =>
        (f_churnref16_Len a0).bind fun y494 =>
        bif (y492.length : Int) != y494 then
          some 2
        else
          some 0
theorem f_churnref16_Check_ok {a0 : Api_Window} {a1 : Int} {a2 : Int} {r0 : Int} (hF : f_churnref16_Check a0 a1 a2 = some r0) (L : List Res) : Ok Try.prog 17 [SV.val kApi_Window a0, SV.raw (.int .i64 a1), SV.raw (.int .i64 a2)] (L) (SV.raw (.int .i64 r0)) (L) := by
  unfold f_churnref16_Check at hF
  refine Ok.intro 118 [(0, .val kApi_Window a0), (1, .raw (.int .i64 a1)), (2, .raw (.int .i64 a2))] Try.func17 rfl rfl rfl rfl (fun F0 => ?_)
  refine Under.seq ?_
  refine Under.region ?_
  refine Under.bxF (K := kApi_Window) rfl rdV rfl ?_
  refine Under.ov (OpV.asg rfl) rfl ?_
  refine Under.nil ?_
  refine Under.tN ?_
  refine Under.seq ?_
  refine Under.seq ?_
  refine Under.region ?_
  refine Under.ov (OpV.move rfl) rfl ?_
  refine Under.ov (OpV.bin rfl rfl rfl) rfl ?_
  refine Under.ov (OpV.move rfl) rfl ?_
  refine runj_3 15 ((decide (a1 < 1)) || (decide (a1 > 8))) ?_ (fun k => ?_)
  · refine Under.ov (OpV.move rfl) rfl ?_
    refine runj_3 19 (((decide (a1 < 1)) || (decide (a1 > 8))) || (decide (a2 < 0))) ?_ (fun k => ?_)
    · refine Under.ov (OpV.move rfl) rfl ?_
      refine runj_3 23 ((((decide (a1 < 1)) || (decide (a1 > 8))) || (decide (a2 < 0))) || (decide (a2 > 4096))) ?_ (fun k => ?_)
      · refine Under.ov (OpV.move rfl) rfl ?_
        refine runj_4 28 (((((decide (a1 < 1)) || (decide (a1 > 8))) || (decide (a2 < 0))) || (decide (a2 > 4096))) || (decide (a0.Newest < 0))) ?_ (fun k => ?_)
        · refine Under.ov (OpV.move rfl) rfl ?_
          refine runj_4 33 ((((((decide (a1 < 1)) || (decide (a1 > 8))) || (decide (a2 < 0))) || (decide (a2 > 4096))) || (decide (a0.Newest < 0))) || (decide (a0.Newest > 4611686018427387904))) ?_ (fun k => ?_)
          · refine Under.ov (OpV.move rfl) rfl ?_
            obtain ⟨x18, h17, hF⟩ := bsome hF
            refine runj_5 39 x18 ?_ (fun k => ?_)
            · refine Under.nil ?_
              refine Under.tN ?_
              refine Under.ite hF rfl (fun hF => ?_) (fun hF => ?_)
              · refine Under.seq ?_
                refine Under.region ?_
                refine Under.ov (OpV.asg rfl) rfl ?_
                refine Under.nil ?_
                refine Under.tN ?_
                refine Under.retc ?_
                refine Under.tR ?_
                have e21 := Option.some.inj hF
                subst e21
                exact Under.rets Try.results17 (.tm rfl .nil) rfl rfl
              · refine Under.code_skip ?_
                refine Under.tN ?_
                obtain ⟨r487, h488, hF⟩ := bsome hF
                refine Under.seq ?_
                refine Under.after (fun X => ∀ (_ : Unit), r487 = (.inr ()) → Under F0 118 [(3, .ptr kApi_Window a0)] (L) X) ?_ ?_
                · intro _ h971
                  replace h971 := h971.symm
                  subst h971
                  refine Under.seq ?_
                  refine Under.seq ?_
                  refine Under.phases rfl ?_
                  obtain ⟨y490, h491, hF⟩ := bsome hF
                  obtain ⟨y492, h493, hF⟩ := bsome hF
                  obtain ⟨y494, h495, hF⟩ := bsome hF
                  refine Under.grpA (L := L) [0, 1, 2, 3, 4, 5] [[3], [111], [112], [113], [3], [115]] [.v (.val kApi_Window a0), .v (.val (kSl (kArr 16 (kInt .u8))) y490), .v (.val (kSl (kArr 16 (kInt .u8))) y492), .v (.raw (.int .i64 (y492.length : Int))), .v (.val kApi_Window a0), .v (.raw (.int .i64 y494))] [] [] (fun T : List Res => T) lf0 rfl (by kernel_rfl) (ItsOk.of rfl rfl) (by kernel_rfl) rfl rfl (fun F hF0 bs => ?_)
                  refine Aq.v (fun G T hG => ?_) ?_
                  · refine Under.ov (OpV.ld kt27 rfl) rfl ?_
                    exact Zq.done rfl
                  refine Aq.v (fun G T hG => ?_) ?_
                  · refine Under.call Try.call41 rfl rfl (f_churnref16_all_ok h491 _) rfl ?_
                    exact Zq.done rfl
                  refine Aq.v (fun G T hG => ?_) ?_
                  · refine Under.call Try.call40 rfl rfl (f_churnref16_sorted_ok h493 _) rfl ?_
                    exact Zq.done rfl
                  refine Aq.v (fun G T hG => ?_) ?_
                  · refine Under.ov (OpV.len Try.underlying36 rfl rdV) rfl ?_
                    exact Zq.done rfl
                  refine Aq.v (fun G T hG => ?_) ?_
                  · refine Under.ov (OpV.ld kt27 rfl) rfl ?_
                    exact Zq.done rfl
                  refine Aq.v (fun G T hG => ?_) ?_
                  · refine Under.call Try.call19 rfl rfl (f_churnref16_Len_ok h495 _) rfl ?_
                    exact Zq.done rfl
                  refine Aq.nil ?_
                  refine Under.le hF0 ?_
                  refine Under.p1 6 rfl rfl ?_
                  refine Under.ov (OpV.bin rfl rfl rfl) rfl ?_
                  refine Under.pn ?_
                  refine Under.pdone rfl ?_
                  refine Under.tN ?_
                  refine Under.ite hF rfl (fun hF => ?_) (fun hF => ?_)
                  · refine Under.seq ?_
                    refine Under.region ?_
                    refine Under.ov (OpV.asg rfl) rfl ?_
                    refine Under.nil ?_
                    refine Under.tN ?_
                    refine Under.retc ?_
                    refine Under.tR ?_
                    have e496 := Option.some.inj hF
                    subst e496
                    exact Under.rets Try.results17 (.tm rfl .nil) rfl rfl
                  · refine Under.code_skip ?_
                    refine Under.tN ?_
                    refine Under.seq ?_
                    refine Under.region ?_
                    refine Under.ov (OpV.asg rfl) rfl ?_
                    refine Under.nil ?_
                    refine Under.tN ?_
                    refine Under.retc ?_
                    have e497 := Option.some.inj hF
                    subst e497
                    exact Under.rets Try.results17 (.tm rfl .nil) rfl rfl
                · intro K k489
                  refine Under.seq ?_
                  refine Under.region ?_
                  refine Under.ov (OpV.asg rfl) rfl ?_
                  refine Under.nil ?_
                  refine Under.tN ?_
                  refine Under.block ?_
                  obtain ⟨r841, h842, h488⟩ := bsome h488
                  refine Under.loop (S := Int) (C := Unit) () (fun (x968 : Int) (q969 : Unit) => [(1, .raw (.int .i64 a1)), (3, .ptr kApi_Window a0), (7, .raw (.int .i64 x968))]) (fun (x968 : Int) (q969 : Unit) => L) h842 (sub_cons rfl (sub_cons rfl (sub_cons rfl (sub_nil _)))) rfl (fun x968 q969 o843 h839 d840 => ?_)
                  refine Under.seq ?_
                  refine Under.seq ?_
                  refine Under.region ?_
                  refine Under.ov (OpV.move rfl) rfl ?_
                  refine Under.ov (OpV.fd fb27_1 rfl rfl) rfl ?_
                  refine Under.ov (OpV.ld kt25 rfl) rfl ?_
                  refine Under.ov (OpV.len Try.underlying25 rfl rdV) rfl ?_
                  refine Under.ov (OpV.bin rfl rfl rfl) rfl ?_
                  refine Under.nil ?_
                  refine Under.tN ?_
                  refine Under.ite h839 rfl (fun h839 => ?_) (fun h839 => ?_)
                  · refine Under.code_skip ?_
                    refine Under.tN ?_
                    obtain ⟨r896, h897, h839⟩ := bsome h839
                    refine Under.seq ?_
                    refine Under.after (fun X => ∀ (_ : Unit), r896 = (.inr ()) → Under F0 118 [(1, .raw (.int .i64 a1)), (3, .ptr kApi_Window a0), (7, .raw (.int .i64 x968))] (L) X) ?_ ?_
                    · intro _ h965
                      replace h965 := h965.symm
                      subst h965
                      refine Under.region ?_
                      refine Under.ov (OpV.move rfl) rfl ?_
                      refine Under.ov (OpV.bin rfl rfl rfl) rfl ?_
                      refine Under.ov (OpV.asg rfl) rfl ?_
                      refine Under.nil ?_
                      exact Under.next _ () h839 (sub_cons rfl (sub_cons rfl (sub_cons rfl (sub_nil _)))) rfl
                    · intro K k898
                      refine Under.block ?_
                      refine Under.seq ?_
                      refine Under.region ?_
                      refine Under.ov (OpV.fd fb27_1 rfl rfl) rfl ?_
                      refine Under.ov (OpV.ld kt25 rfl) rfl ?_
                      refine Under.ov (OpV.move rfl) rfl ?_
                      obtain ⟨x899, h900, h897⟩ := bsome h897
                      refine Under.ov (OpV.ixS h900 Try.underlying25 sz61 rfl rdV rfl) rfl ?_
                      refine Under.ov (OpV.ld kt61 rfl) rfl ?_
                      refine Under.al ZT61 rfl fun b901 => ?_
                      refine Under.stP (x' := x899) .box .id sz61_kApi_Epoch rfl rfl rdV rfl ?_
                      refine Under.nil ?_
                      refine Under.frz (t := 8) rfl ?_
                      refine Under.tN ?_
                      refine Under.seq ?_
                      refine Under.seq ?_
                      refine Under.region ?_
                      refine Under.ov (OpV.fd fb61_0 rfl rfl) rfl ?_
                      refine Under.ov (OpV.ldI kt2 rfl) rfl ?_
                      refine Under.ov (OpV.bin rfl rfl rfl) rfl ?_
                      refine Under.ov (OpV.move rfl) rfl ?_
                      refine runj_6 61 ((decide (x899.Number < 0)) || (decide (x899.Number > a0.Newest))) ?_ (fun k => ?_)
                      · refine Under.ov (OpV.move rfl) rfl ?_
                        refine runj_8 70 (((decide (x899.Number < 0)) || (decide (x899.Number > a0.Newest))) || (decide (x899.Number ≤ (IntKind.wrap .i64 (a0.Newest - a1))))) ?_ (fun k => ?_)
                        · refine Under.ov (OpV.move rfl) rfl ?_
                          refine runj_5 76 ((((decide (x899.Number < 0)) || (decide (x899.Number > a0.Newest))) || (decide (x899.Number ≤ (IntKind.wrap .i64 (a0.Newest - a1))))) || ((x899.Tags.length : Int) == 0)) ?_ (fun k => ?_)
                          · refine Under.nil ?_
                            refine Under.tN ?_
                            refine Under.ite h897 rfl (fun h897 => ?_) (fun h897 => ?_)
                            · refine Under.seq ?_
                              refine Under.region ?_
                              refine Under.ov (OpV.asg rfl) rfl ?_
                              refine Under.nil ?_
                              refine Under.tN ?_
                              refine Under.retc ?_
                              refine Under.tR ?_
                              refine Under.bR ?_
                              refine Under.tR ?_
                              have e911 := Option.some.inj h897
                              subst e911
                              have e912 := done_eq h839 d840
                              subst e912
                              refine Under.tR ?_
                              refine Under.bR ?_
                              refine Under.tR ?_
                              have e913 := Option.some.inj h488
                              subst e913
                              have e914 := Option.some.inj hF
                              subst e914
                              exact Under.rets Try.results17 (.tm rfl .nil) rfl rfl
                            · refine Under.code_skip ?_
                              refine Under.tN ?_
                              refine Under.seq ?_
                              refine Under.seq ?_
                              refine Under.draw rfl (by kernel_rfl) fun F hF0 => ?_
                              refine UnderQ.ov (OpV.move rfl) rfl ?_
                              refine UnderQ.ov (OpV.bin rfl rfl rfl) rfl ?_
                              refine UnderQ.ov (OpV.move rfl) rfl ?_
                              obtain ⟨x917, h916, h897⟩ := bsome h897
                              refine runj_11q 90 x917 ?_ (fun k => ?_)
                              · refine UnderQ.nil hF0 ?_
                                refine Under.tN ?_
                                refine Under.ite h897 rfl (fun h897 => ?_) (fun h897 => ?_)
                                · refine Under.seq ?_
                                  refine Under.region ?_
                                  refine Under.ov (OpV.asg rfl) rfl ?_
                                  refine Under.nil ?_
                                  refine Under.tN ?_
                                  refine Under.retc ?_
                                  refine Under.tR ?_
                                  refine Under.bR ?_
                                  refine Under.tR ?_
                                  have e920 := Option.some.inj h897
                                  subst e920
                                  have e921 := done_eq h839 d840
                                  subst e921
                                  refine Under.tR ?_
                                  refine Under.bR ?_
                                  refine Under.tR ?_
                                  have e922 := Option.some.inj h488
                                  subst e922
                                  have e923 := Option.some.inj hF
                                  subst e923
                                  exact Under.rets Try.results17 (.tm rfl .nil) rfl rfl
                                · refine Under.code_skip ?_
                                  refine Under.tN ?_
                                  refine Under.seq ?_
                                  refine Under.region ?_
                                  refine Under.ov (OpV.asg rfl) rfl ?_
                                  refine Under.nil ?_
                                  refine Under.tN ?_
                                  refine Under.block ?_
                                  obtain ⟨r946, h947, h897⟩ := bsome h897
                                  refine Under.loop (S := Int) (C := Unit) () (fun (x962 : Int) (q963 : Unit) => [(1, .raw (.int .i64 a1)), (3, .ptr kApi_Window a0), (7, .raw (.int .i64 x968)), (8, .ptr kApi_Epoch x899), (9, .raw (.int .i64 x962))]) (fun (x962 : Int) (q963 : Unit) => L) h947 (sub_cons rfl (sub_cons rfl (sub_cons rfl (sub_cons rfl (sub_cons rfl (sub_nil _)))))) rfl (fun x962 q963 o948 h944 d945 => ?_)
                                  refine Under.seq ?_
                                  refine Under.seq ?_
                                  refine Under.region ?_
                                  refine Under.ov (OpV.move rfl) rfl ?_
                                  refine Under.ov (OpV.fd fb61_1 rfl rfl) rfl ?_
                                  refine Under.ov (OpV.ld kt36 rfl) rfl ?_
                                  refine Under.ov (OpV.len Try.underlying36 rfl rdV) rfl ?_
                                  refine Under.ov (OpV.bin rfl rfl rfl) rfl ?_
                                  refine Under.nil ?_
                                  refine Under.tN ?_
                                  refine Under.ite h944 rfl (fun h944 => ?_) (fun h944 => ?_)
                                  · refine Under.code_skip ?_
                                    refine Under.tN ?_
                                    refine Under.seq ?_
                                    refine Under.block ?_
                                    refine Under.seq ?_
                                    refine Under.draw rfl (by kernel_rfl) fun F hF0 => ?_
                                    refine UnderQ.ov (OpV.fd fb61_1 rfl rfl) rfl ?_
                                    refine UnderQ.ov (OpV.ld kt36 rfl) rfl ?_
                                    refine UnderQ.ov (OpV.move rfl) rfl ?_
                                    refine UnderQ.ov (OpV.bin rfl rfl rfl) rfl ?_
                                    obtain ⟨x949, h950, h944⟩ := bsome h944
                                    refine UnderQ.ov (OpV.ixS h950 Try.underlying36 sz43 rfl rdV rfl) rfl ?_
                                    refine UnderQ.ov (OpV.ld kt43 rfl) rfl ?_
                                    refine UnderQ.ov (OpV.fd fb61_1 rfl rfl) rfl ?_
                                    refine UnderQ.ov (OpV.ld kt36 rfl) rfl ?_
                                    refine UnderQ.ov (OpV.move rfl) rfl ?_
                                    obtain ⟨x951, h952, h944⟩ := bsome h944
                                    refine UnderQ.ov (OpV.ixS h952 Try.underlying36 sz43 rfl rdV rfl) rfl ?_
                                    refine UnderQ.ov (OpV.ld kt43 rfl) rfl ?_
                                    obtain ⟨y953, h954, h944⟩ := bsome h944
                                    refine UnderQ.ov (OpV.call Try.call39 rfl rfl (fun L => (f_churnref16_less_ok h954 L))) rfl ?_
                                    refine UnderQ.ov (OpV.not rfl) rfl ?_
                                    refine UnderQ.nil hF0 ?_
                                    refine Under.tN ?_
                                    refine Under.ite h944 rfl (fun h944 => ?_) (fun h944 => ?_)
                                    · refine Under.seq ?_
                                      refine Under.region ?_
                                      refine Under.ov (OpV.asg rfl) rfl ?_
                                      refine Under.nil ?_
                                      refine Under.tN ?_
                                      refine Under.retc ?_
                                      refine Under.bR ?_
                                      refine Under.tR ?_
                                      have e955 := done_eq h944 d945
                                      subst e955
                                      refine Under.tR ?_
                                      refine Under.bR ?_
                                      refine Under.bR ?_
                                      refine Under.tR ?_
                                      have e956 := Option.some.inj h897
                                      subst e956
                                      have e957 := done_eq h839 d840
                                      subst e957
                                      refine Under.tR ?_
                                      refine Under.bR ?_
                                      refine Under.tR ?_
                                      have e958 := Option.some.inj h488
                                      subst e958
                                      have e959 := Option.some.inj hF
                                      subst e959
                                      exact Under.rets Try.results17 (.tm rfl .nil) rfl rfl
                                    · refine Under.code_skip ?_
                                      refine Under.bN ?_
                                      refine Under.tN ?_
                                      refine Under.region ?_
                                      refine Under.ov (OpV.move rfl) rfl ?_
                                      refine Under.ov (OpV.bin rfl rfl rfl) rfl ?_
                                      refine Under.ov (OpV.asg rfl) rfl ?_
                                      refine Under.nil ?_
                                      exact Under.next _ () h944 (sub_cons rfl (sub_cons rfl (sub_cons rfl (sub_cons rfl (sub_cons rfl (sub_nil _)))))) rfl
                                  · refine Under.exit ?_
                                    refine Under.tE ?_
                                    have e960 := done_eq h944 d945
                                    subst e960
                                    refine Under.tE ?_
                                    refine Under.bH ?_
                                    refine Under.bN ?_
                                    refine Under.tN ?_
                                    exact Under.weak (k898 () (Option.some.inj h897).symm) (sub_cons rfl (sub_cons rfl (sub_cons rfl (sub_nil _))))
                              · refine UnderQ.byc (t := 79) rfl (fun c915 => ?_) (fun c915 => ?_)
                                · replace h916 := ctrue c915 h916
                                  refine UnderQ.goc c915 rfl rfl ?_
                                  refine UnderQ.ov (OpV.fd fb27_1 rfl rfl) rfl ?_
                                  refine UnderQ.goc c915 rfl rfl ?_
                                  refine UnderQ.ov (OpV.ld kt25 rfl) rfl ?_
                                  refine UnderQ.goc c915 rfl rfl ?_
                                  refine UnderQ.ov (OpV.move rfl) rfl ?_
                                  refine UnderQ.goc c915 rfl rfl ?_
                                  refine UnderQ.ov (OpV.bin rfl rfl rfl) rfl ?_
                                  obtain ⟨x918, h919, h916⟩ := bsome h916
                                  refine UnderQ.goc c915 rfl rfl ?_
                                  refine UnderQ.ov (OpV.ixS h919 Try.underlying25 sz61 rfl rdV rfl) rfl ?_
                                  refine UnderQ.goc c915 rfl rfl ?_
                                  refine UnderQ.ov (OpV.fd fb61_0 rfl rfl) rfl ?_
                                  refine UnderQ.goc c915 rfl rfl ?_
                                  refine UnderQ.ov (OpV.ldI kt2 rfl) rfl ?_
                                  refine UnderQ.goc c915 rfl rfl ?_
                                  refine UnderQ.ov (OpV.fd fb61_0 rfl rfl) rfl ?_
                                  refine UnderQ.goc c915 rfl rfl ?_
                                  refine UnderQ.ov (OpV.ldI kt2 rfl) rfl ?_
                                  refine UnderQ.goc c915 rfl rfl ?_
                                  refine UnderQ.ov (OpV.bin rfl rfl rfl) rfl ?_
                                  refine UnderQ.ov (OpV.pick rfl (fun e => rfl) (fun e => absurd (e.symm.trans c915) (by decide))) rfl ?_
                                  exact UnderQ.rfin 10 (congrArg (fun b => SV.raw (.bool b)) (Option.some.inj h916)) rfl k
                                · replace h916 := cfalse c915 h916
                                  refine UnderQ.skc c915 rfl rfl rfl ?_
                                  refine UnderQ.skc c915 rfl rfl rfl ?_
                                  refine UnderQ.skc c915 rfl rfl rfl ?_
                                  refine UnderQ.skc c915 rfl rfl rfl ?_
                                  refine UnderQ.skc c915 rfl rfl rfl ?_
                                  refine UnderQ.skc c915 rfl rfl rfl ?_
                                  refine UnderQ.skc c915 rfl rfl rfl ?_
                                  refine UnderQ.skc c915 rfl rfl rfl ?_
                                  refine UnderQ.skc c915 rfl rfl rfl ?_
                                  refine UnderQ.skc c915 rfl rfl rfl ?_
                                  refine UnderQ.ov (OpV.pick rfl (fun e => absurd (e.symm.trans c915) (by decide)) (fun e => rfl)) rfl ?_
                                  exact UnderQ.rfin 10 (congrArg (fun b => SV.raw (.bool b)) (Option.some.inj h916)) rfl k
                          · refine Under.byc (t := 71) rfl (fun c908 => ?_) (fun c908 => ?_)
                            · refine Under.skc c908 rfl rfl rfl ?_
                              refine Under.skc c908 rfl rfl rfl ?_
                              refine Under.skc c908 rfl rfl rfl ?_
                              refine Under.skc c908 rfl rfl rfl ?_
                              refine Under.ov (OpV.pick rfl (fun e => rfl) (fun e => absurd (e.symm.trans c908) (by decide))) rfl ?_
                              exact Under.rfin 4 (or_t (e := (x899.Tags.length : Int) == 0) c908) rfl k
                            · refine Under.goc c908 rfl rfl ?_
                              refine Under.ov (OpV.fd fb61_1 rfl rfl) rfl ?_
                              refine Under.goc c908 rfl rfl ?_
                              refine Under.ov (OpV.ld kt36 rfl) rfl ?_
                              refine Under.goc c908 rfl rfl ?_
                              refine Under.ov (OpV.len Try.underlying36 rfl rdV) rfl ?_
                              refine Under.goc c908 rfl rfl ?_
                              refine Under.ov (OpV.bin rfl rfl rfl) rfl ?_
                              refine Under.ov (OpV.pick rfl (fun e => absurd (e.symm.trans c908) (by decide)) (fun e => rfl)) rfl ?_
                              exact Under.rfin 4 (or_f c908) rfl k
                        · refine Under.byc (t := 62) rfl (fun c905 => ?_) (fun c905 => ?_)
                          · refine Under.skc c905 rfl rfl rfl ?_
                            refine Under.skc c905 rfl rfl rfl ?_
                            refine Under.skc c905 rfl rfl rfl ?_
                            refine Under.skc c905 rfl rfl rfl ?_
                            refine Under.skc c905 rfl rfl rfl ?_
                            refine Under.skc c905 rfl rfl rfl ?_
                            refine Under.skc c905 rfl rfl rfl ?_
                            refine Under.ov (OpV.pick rfl (fun e => rfl) (fun e => absurd (e.symm.trans c905) (by decide))) rfl ?_
                            exact Under.rfin 7 (or_t (e := decide (x899.Number ≤ (IntKind.wrap .i64 (a0.Newest - a1)))) c905) rfl k
                          · refine Under.goc c905 rfl rfl ?_
                            refine Under.ov (OpV.fd fb61_0 rfl rfl) rfl ?_
                            refine Under.goc c905 rfl rfl ?_
                            refine Under.ov (OpV.ldI kt2 rfl) rfl ?_
                            refine Under.goc c905 rfl rfl ?_
                            refine Under.ov (OpV.fd fb27_0 rfl rfl) rfl ?_
                            refine Under.goc c905 rfl rfl ?_
                            refine Under.ov (OpV.ldI kt2 rfl) rfl ?_
                            refine Under.goc c905 rfl rfl ?_
                            refine Under.ov (OpV.move rfl) rfl ?_
                            refine Under.goc c905 rfl rfl ?_
                            refine Under.ov (OpV.bin rfl rfl rfl) rfl ?_
                            refine Under.goc c905 rfl rfl ?_
                            refine Under.ov (OpV.bin rfl rfl rfl) rfl ?_
                            refine Under.ov (OpV.pick rfl (fun e => absurd (e.symm.trans c905) (by decide)) (fun e => rfl)) rfl ?_
                            exact Under.rfin 7 (or_f c905) rfl k
                      · refine Under.byc (t := 55) rfl (fun c902 => ?_) (fun c902 => ?_)
                        · refine Under.skc c902 rfl rfl rfl ?_
                          refine Under.skc c902 rfl rfl rfl ?_
                          refine Under.skc c902 rfl rfl rfl ?_
                          refine Under.skc c902 rfl rfl rfl ?_
                          refine Under.skc c902 rfl rfl rfl ?_
                          refine Under.ov (OpV.pick rfl (fun e => rfl) (fun e => absurd (e.symm.trans c902) (by decide))) rfl ?_
                          exact Under.rfin 5 (or_t (e := decide (x899.Number > a0.Newest)) c902) rfl k
                        · refine Under.goc c902 rfl rfl ?_
                          refine Under.ov (OpV.fd fb61_0 rfl rfl) rfl ?_
                          refine Under.goc c902 rfl rfl ?_
                          refine Under.ov (OpV.ldI kt2 rfl) rfl ?_
                          refine Under.goc c902 rfl rfl ?_
                          refine Under.ov (OpV.fd fb27_0 rfl rfl) rfl ?_
                          refine Under.goc c902 rfl rfl ?_
                          refine Under.ov (OpV.ldI kt2 rfl) rfl ?_
                          refine Under.goc c902 rfl rfl ?_
                          refine Under.ov (OpV.bin rfl rfl rfl) rfl ?_
                          refine Under.ov (OpV.pick rfl (fun e => absurd (e.symm.trans c902) (by decide)) (fun e => rfl)) rfl ?_
                          exact Under.rfin 5 (or_f c902) rfl k
                  · refine Under.exit ?_
                    refine Under.tE ?_
                    have e966 := done_eq h839 d840
                    subst e966
                    refine Under.tE ?_
                    refine Under.bH ?_
                    refine Under.tN ?_
                    exact Under.weak (k489 () (Option.some.inj h488).symm) (sub_cons rfl (sub_nil _))
            · refine Under.byc (t := 34) rfl (fun c16 => ?_) (fun c16 => ?_)
              · replace h17 := ctrue c16 h17
                refine Under.skc c16 rfl rfl rfl ?_
                refine Under.skc c16 rfl rfl rfl ?_
                refine Under.skc c16 rfl rfl rfl ?_
                refine Under.skc c16 rfl rfl rfl ?_
                refine Under.ov (OpV.pick rfl (fun e => rfl) (fun e => absurd (e.symm.trans c16) (by decide))) rfl ?_
                exact Under.rfin 4 (congrArg (fun b => SV.raw (.bool b)) (Option.some.inj h17)) rfl k
              · replace h17 := cfalse c16 h17
                refine Under.goc c16 rfl rfl ?_
                refine Under.ov (OpV.ld kt27 rfl) rfl ?_
                obtain ⟨y19, h20, h17⟩ := bsome h17
                refine Under.goc c16 rfl rfl ?_
                refine Under.call Try.call19 rfl rfl (f_churnref16_Len_ok h20 _) rfl ?_
                refine Under.goc c16 rfl rfl ?_
                refine Under.ov (OpV.move rfl) rfl ?_
                refine Under.goc c16 rfl rfl ?_
                refine Under.ov (OpV.bin rfl rfl rfl) rfl ?_
                refine Under.ov (OpV.pick rfl (fun e => absurd (e.symm.trans c16) (by decide)) (fun e => rfl)) rfl ?_
                exact Under.rfin 4 (congrArg (fun b => SV.raw (.bool b)) (Option.some.inj h17)) rfl k
          · refine Under.byc (t := 29) rfl (fun c13 => ?_) (fun c13 => ?_)
            · refine Under.skc c13 rfl rfl rfl ?_
              refine Under.skc c13 rfl rfl rfl ?_
              refine Under.skc c13 rfl rfl rfl ?_
              refine Under.ov (OpV.pick rfl (fun e => rfl) (fun e => absurd (e.symm.trans c13) (by decide))) rfl ?_
              exact Under.rfin 3 (or_t (e := decide (a0.Newest > 4611686018427387904)) c13) rfl k
            · refine Under.goc c13 rfl rfl ?_
              refine Under.ov (OpV.fd fb27_0 rfl rfl) rfl ?_
              refine Under.goc c13 rfl rfl ?_
              refine Under.ov (OpV.ldI kt2 rfl) rfl ?_
              refine Under.goc c13 rfl rfl ?_
              refine Under.ov (OpV.bin rfl rfl rfl) rfl ?_
              refine Under.ov (OpV.pick rfl (fun e => absurd (e.symm.trans c13) (by decide)) (fun e => rfl)) rfl ?_
              exact Under.rfin 3 (or_f c13) rfl k
        · refine Under.byc (t := 24) rfl (fun c10 => ?_) (fun c10 => ?_)
          · refine Under.skc c10 rfl rfl rfl ?_
            refine Under.skc c10 rfl rfl rfl ?_
            refine Under.skc c10 rfl rfl rfl ?_
            refine Under.ov (OpV.pick rfl (fun e => rfl) (fun e => absurd (e.symm.trans c10) (by decide))) rfl ?_
            exact Under.rfin 3 (or_t (e := decide (a0.Newest < 0)) c10) rfl k
          · refine Under.goc c10 rfl rfl ?_
            refine Under.ov (OpV.fd fb27_0 rfl rfl) rfl ?_
            refine Under.goc c10 rfl rfl ?_
            refine Under.ov (OpV.ldI kt2 rfl) rfl ?_
            refine Under.goc c10 rfl rfl ?_
            refine Under.ov (OpV.bin rfl rfl rfl) rfl ?_
            refine Under.ov (OpV.pick rfl (fun e => absurd (e.symm.trans c10) (by decide)) (fun e => rfl)) rfl ?_
            exact Under.rfin 3 (or_f c10) rfl k
      · refine Under.byc (t := 20) rfl (fun c7 => ?_) (fun c7 => ?_)
        · refine Under.skc c7 rfl rfl rfl ?_
          refine Under.skc c7 rfl rfl rfl ?_
          refine Under.ov (OpV.pick rfl (fun e => rfl) (fun e => absurd (e.symm.trans c7) (by decide))) rfl ?_
          exact Under.rfin 2 (or_t (e := decide (a2 > 4096)) c7) rfl k
        · refine Under.goc c7 rfl rfl ?_
          refine Under.ov (OpV.move rfl) rfl ?_
          refine Under.goc c7 rfl rfl ?_
          refine Under.ov (OpV.bin rfl rfl rfl) rfl ?_
          refine Under.ov (OpV.pick rfl (fun e => absurd (e.symm.trans c7) (by decide)) (fun e => rfl)) rfl ?_
          exact Under.rfin 2 (or_f c7) rfl k
    · refine Under.byc (t := 16) rfl (fun c4 => ?_) (fun c4 => ?_)
      · refine Under.skc c4 rfl rfl rfl ?_
        refine Under.skc c4 rfl rfl rfl ?_
        refine Under.ov (OpV.pick rfl (fun e => rfl) (fun e => absurd (e.symm.trans c4) (by decide))) rfl ?_
        exact Under.rfin 2 (or_t (e := decide (a2 < 0)) c4) rfl k
      · refine Under.goc c4 rfl rfl ?_
        refine Under.ov (OpV.move rfl) rfl ?_
        refine Under.goc c4 rfl rfl ?_
        refine Under.ov (OpV.bin rfl rfl rfl) rfl ?_
        refine Under.ov (OpV.pick rfl (fun e => absurd (e.symm.trans c4) (by decide)) (fun e => rfl)) rfl ?_
        exact Under.rfin 2 (or_f c4) rfl k
  · refine Under.byc (t := 12) rfl (fun c1 => ?_) (fun c1 => ?_)
    · refine Under.skc c1 rfl rfl rfl ?_
      refine Under.skc c1 rfl rfl rfl ?_
      refine Under.ov (OpV.pick rfl (fun e => rfl) (fun e => absurd (e.symm.trans c1) (by decide))) rfl ?_
      exact Under.rfin 2 (or_t (e := decide (a1 > 8)) c1) rfl k
    · refine Under.goc c1 rfl rfl ?_
      refine Under.ov (OpV.move rfl) rfl ?_
      refine Under.goc c1 rfl rfl ?_
      refine Under.ov (OpV.bin rfl rfl rfl) rfl ?_
      refine Under.ov (OpV.pick rfl (fun e => absurd (e.symm.trans c1) (by decide)) (fun e => rfl)) rfl ?_
      exact Under.rfin 2 (or_f c1) rfl k
/-- churn/churnref16.Has -/
noncomputable def f_churnref16_Has (a0 : Api_Window) (a1 : List Int) : Option Bool :=
  (((Loop.run (S := Int) (R := (Unit ⊕ Bool)) (fun x479 =>
      bif decide (x479 < (a0.Epochs.length : Int)) then
        (((Loop.run (S := Int) (R := (Unit ⊕ Bool)) (fun x613 =>
            (idx a0.Epochs x479).bind fun x625 =>
            bif decide (x613 < (x625.Tags.length : Int)) then
              (idx a0.Epochs x479).bind fun x627 =>
              (idx x627.Tags x613).bind fun x629 =>
              bif x629 == a1 then
                some (.done (.inr true))
              else
                some (.next (IntKind.wrap .i64 (x613 + 1)))
            else
              some (.done (.inl ()))) 0).bind fun r622 => match r622 with
          | .inl _ =>
            some (.inr ())
          | .inr z =>
            some (.inl z)
          : Option (Bool ⊕ Unit))).bind fun r597 => match r597 with
          | .inl z =>
            some (.done (.inr z))
          | .inr _ =>
            some (.next (IntKind.wrap .i64 (x479 + 1)))
      else
        some (.done (.inl ()))) 0).bind fun r559 => match r559 with
    | .inl _ =>
      some (.inr ())
    | .inr z =>
      some (.inl z)
    : Option (Bool ⊕ Unit))).bind fun r320 => match r320 with
    | .inl z =>
      some z
    | .inr _ =>
      some false
theorem f_churnref16_Has_ok {a0 : Api_Window} {a1 : List Int} {r0 : Bool} (hF : f_churnref16_Has a0 a1 = some r0) (L : List Res) : Ok Try.prog 21 [SV.val kApi_Window a0, SV.val (kArr 16 (kInt .u8)) a1] (L) (SV.raw (.bool r0)) (L) := by
  unfold f_churnref16_Has at hF
  refine Ok.intro 36 [(0, .val kApi_Window a0), (1, .val (kArr 16 (kInt .u8)) a1)] Try.func21 rfl rfl rfl rfl (fun F0 => ?_)
  refine Under.seq ?_
  refine Under.region ?_
  refine Under.bxF (K := kApi_Window) rfl rdV rfl ?_
  refine Under.bxF (K := kArr 16 (kInt .u8)) rfl rdV rfl ?_
  refine Under.ov (OpV.asg rfl) rfl ?_
  refine Under.nil ?_
  refine Under.tN ?_
  obtain ⟨r320, h321, hF⟩ := bsome hF
  refine Under.seq ?_
  refine Under.after (fun X => ∀ (_ : Unit), r320 = (.inr ()) → Under F0 36 [] (L) X) ?_ ?_
  · intro _ h647
    replace h647 := h647.symm
    subst h647
    refine Under.seq ?_
    refine Under.region ?_
    refine Under.ov (OpV.asg rfl) rfl ?_
    refine Under.nil ?_
    refine Under.tN ?_
    refine Under.retc ?_
    have e323 := Option.some.inj hF
    subst e323
    exact Under.rets Try.results21 (.tm rfl .nil) rfl rfl
  · intro K k322
    refine Under.seq ?_
    refine Under.region ?_
    refine Under.ov (OpV.asg rfl) rfl ?_
    refine Under.nil ?_
    refine Under.tN ?_
    refine Under.block ?_
    obtain ⟨r559, h560, h321⟩ := bsome h321
    refine Under.loop (S := Int) (C := Unit) () (fun (x644 : Int) (q645 : Unit) => [(2, .ptr kApi_Window a0), (3, .ptr (kArr 16 (kInt .u8)) a1), (5, .raw (.int .i64 x644))]) (fun (x644 : Int) (q645 : Unit) => L) h560 (sub_cons rfl (sub_cons rfl (sub_cons rfl (sub_nil _)))) rfl (fun x644 q645 o561 h557 d558 => ?_)
    refine Under.seq ?_
    refine Under.seq ?_
    refine Under.region ?_
    refine Under.ov (OpV.move rfl) rfl ?_
    refine Under.ov (OpV.fd fb27_1 rfl rfl) rfl ?_
    refine Under.ov (OpV.ld kt25 rfl) rfl ?_
    refine Under.ov (OpV.len Try.underlying25 rfl rdV) rfl ?_
    refine Under.ov (OpV.bin rfl rfl rfl) rfl ?_
    refine Under.nil ?_
    refine Under.tN ?_
    refine Under.ite h557 rfl (fun h557 => ?_) (fun h557 => ?_)
    · refine Under.code_skip ?_
      refine Under.tN ?_
      obtain ⟨r597, h598, h557⟩ := bsome h557
      refine Under.seq ?_
      refine Under.after (fun X => ∀ (_ : Unit), r597 = (.inr ()) → Under F0 36 [(2, .ptr kApi_Window a0), (3, .ptr (kArr 16 (kInt .u8)) a1), (5, .raw (.int .i64 x644))] (L) X) ?_ ?_
      · intro _ h641
        replace h641 := h641.symm
        subst h641
        refine Under.region ?_
        refine Under.ov (OpV.move rfl) rfl ?_
        refine Under.ov (OpV.bin rfl rfl rfl) rfl ?_
        refine Under.ov (OpV.asg rfl) rfl ?_
        refine Under.nil ?_
        exact Under.next _ () h557 (sub_cons rfl (sub_cons rfl (sub_cons rfl (sub_nil _)))) rfl
      · intro K k599
        refine Under.block ?_
        refine Under.seq ?_
        refine Under.region ?_
        refine Under.ov (OpV.asg rfl) rfl ?_
        refine Under.nil ?_
        refine Under.tN ?_
        refine Under.block ?_
        obtain ⟨r622, h623, h598⟩ := bsome h598
        refine Under.loop (S := Int) (C := Unit) () (fun (x638 : Int) (q639 : Unit) => [(2, .ptr kApi_Window a0), (3, .ptr (kArr 16 (kInt .u8)) a1), (5, .raw (.int .i64 x644)), (6, .raw (.int .i64 x638))]) (fun (x638 : Int) (q639 : Unit) => L) h623 (sub_cons rfl (sub_cons rfl (sub_cons rfl (sub_cons rfl (sub_nil _))))) rfl (fun x638 q639 o624 h620 d621 => ?_)
        refine Under.seq ?_
        refine Under.seq ?_
        refine Under.region ?_
        refine Under.ov (OpV.move rfl) rfl ?_
        refine Under.ov (OpV.fd fb27_1 rfl rfl) rfl ?_
        refine Under.ov (OpV.ld kt25 rfl) rfl ?_
        refine Under.ov (OpV.move rfl) rfl ?_
        obtain ⟨x625, h626, h620⟩ := bsome h620
        refine Under.ov (OpV.ixS h626 Try.underlying25 sz61 rfl rdV rfl) rfl ?_
        refine Under.ov (OpV.fd fb61_1 rfl rfl) rfl ?_
        refine Under.ov (OpV.ld kt36 rfl) rfl ?_
        refine Under.ov (OpV.len Try.underlying36 rfl rdV) rfl ?_
        refine Under.ov (OpV.bin rfl rfl rfl) rfl ?_
        refine Under.nil ?_
        refine Under.tN ?_
        refine Under.ite h620 rfl (fun h620 => ?_) (fun h620 => ?_)
        · refine Under.code_skip ?_
          refine Under.tN ?_
          refine Under.seq ?_
          refine Under.block ?_
          refine Under.seq ?_
          refine Under.draw rfl (by kernel_rfl) fun F hF0 => ?_
          refine UnderQ.ov (OpV.fd fb27_1 rfl rfl) rfl ?_
          refine UnderQ.ov (OpV.ld kt25 rfl) rfl ?_
          refine UnderQ.ov (OpV.move rfl) rfl ?_
          obtain ⟨x627, h628, h620⟩ := bsome h620
          refine UnderQ.ov (OpV.ixS h628 Try.underlying25 sz61 rfl rdV rfl) rfl ?_
          refine UnderQ.ov (OpV.fd fb61_1 rfl rfl) rfl ?_
          refine UnderQ.ov (OpV.ld kt36 rfl) rfl ?_
          refine UnderQ.ov (OpV.move rfl) rfl ?_
          obtain ⟨x629, h630, h620⟩ := bsome h620
          refine UnderQ.ov (OpV.ixS h630 Try.underlying36 sz43 rfl rdV rfl) rfl ?_
          refine UnderQ.ov (OpV.ld kt43 rfl) rfl ?_
          refine UnderQ.ov (OpV.ld kt43 rfl) rfl ?_
          refine UnderQ.ov (OpV.eqK eqk43 eqg43 rfl rfl rfl rdV rfl rdV) rfl ?_
          refine UnderQ.nil hF0 ?_
          refine Under.tN ?_
          refine Under.ite h620 rfl (fun h620 => ?_) (fun h620 => ?_)
          · refine Under.seq ?_
            refine Under.region ?_
            refine Under.ov (OpV.asg rfl) rfl ?_
            refine Under.nil ?_
            refine Under.tN ?_
            refine Under.retc ?_
            refine Under.bR ?_
            refine Under.tR ?_
            have e631 := done_eq h620 d621
            subst e631
            refine Under.tR ?_
            refine Under.bR ?_
            refine Under.bR ?_
            refine Under.tR ?_
            have e632 := Option.some.inj h598
            subst e632
            have e633 := done_eq h557 d558
            subst e633
            refine Under.tR ?_
            refine Under.bR ?_
            refine Under.tR ?_
            have e634 := Option.some.inj h321
            subst e634
            have e635 := Option.some.inj hF
            subst e635
            exact Under.rets Try.results21 (.tm rfl .nil) rfl rfl
          · refine Under.code_skip ?_
            refine Under.bN ?_
            refine Under.tN ?_
            refine Under.region ?_
            refine Under.ov (OpV.move rfl) rfl ?_
            refine Under.ov (OpV.bin rfl rfl rfl) rfl ?_
            refine Under.ov (OpV.asg rfl) rfl ?_
            refine Under.nil ?_
            exact Under.next _ () h620 (sub_cons rfl (sub_cons rfl (sub_cons rfl (sub_cons rfl (sub_nil _))))) rfl
        · refine Under.exit ?_
          refine Under.tE ?_
          have e636 := done_eq h620 d621
          subst e636
          refine Under.tE ?_
          refine Under.bH ?_
          refine Under.bN ?_
          refine Under.tN ?_
          exact Under.weak (k599 () (Option.some.inj h598).symm) (sub_cons rfl (sub_cons rfl (sub_cons rfl (sub_nil _))))
    · refine Under.exit ?_
      refine Under.tE ?_
      have e642 := done_eq h557 d558
      subst e642
      refine Under.tE ?_
      refine Under.bH ?_
      refine Under.tN ?_
      exact Under.weak (k322 () (Option.some.inj h321).symm) (sub_nil _)
/-- churn/churnlaw16.WindowChecks -/
noncomputable def f_churnlaw16_WindowChecks (a0 : Churnlaw16_Look) : Option Bool :=
  (f_churnlaw16_alive).bind fun y1 =>
  bif !y1 then
    some false
  else
    (f_window_Check a0.W a0.Span a0.Room).bind fun y5 =>
    (f_churnref16_Check a0.W a0.Span a0.Room).bind fun y7 =>
    ((bif y5 != y7 then
      some true
    else
      (f_window_Len a0.W).bind fun y12 =>
      (f_churnref16_Len a0.W).bind fun y14 =>
      some (y12 != y14)
      : Option Bool)).bind fun x11 =>
    bif x11 then
      some false
    else
      (((Loop.run (S := Int) (R := (Unit ⊕ Bool)) (fun x81 =>
          bif decide (x81 < (a0.Tags.length : Int)) then
            (idx a0.Tags x81).bind fun x95 =>
            (f_window_Has a0.W x95).bind fun y97 =>
            (idx a0.Tags x81).bind fun x99 =>
            (f_churnref16_Has a0.W x99).bind fun y101 =>
            bif y97 != y101 then
              some (.done (.inr false))
            else
              some (.next (IntKind.wrap .i64 (x81 + 1)))
          else
            some (.done (.inl ()))) 0).bind fun r92 => match r92 with
        | .inl _ =>
          some (.inr ())
        | .inr z =>
          some (.inl z)
        : Option (Bool ⊕ Unit))).bind fun r60 => match r60 with
        | .inl z =>
          some z
        | .inr _ =>
          some true
theorem f_churnlaw16_WindowChecks_ok {a0 : Churnlaw16_Look} {r0 : Bool} (hF : f_churnlaw16_WindowChecks a0 = some r0) (L : List Res) : Ok Try.prog 5 [SV.val kChurnlaw16_Look a0] (L) (SV.raw (.bool r0)) (L) := by
  unfold f_churnlaw16_WindowChecks at hF
  refine Ok.intro 53 [(0, .val kChurnlaw16_Look a0)] Try.func5 rfl rfl rfl rfl (fun F0 => ?_)
  refine Under.seq ?_
  refine Under.region ?_
  refine Under.bxF (K := kChurnlaw16_Look) rfl rdV rfl ?_
  refine Under.ov (OpV.asg rfl) rfl ?_
  refine Under.nil ?_
  refine Under.tN ?_
  refine Under.seq ?_
  refine Under.seq ?_
  refine Under.region ?_
  obtain ⟨y1, h2, hF⟩ := bsome hF
  refine Under.call Try.call15 rfl rfl (f_churnlaw16_alive_ok h2 _) rfl ?_
  refine Under.ov (OpV.not rfl) rfl ?_
  refine Under.nil ?_
  refine Under.tN ?_
  refine Under.ite hF rfl (fun hF => ?_) (fun hF => ?_)
  · refine Under.seq ?_
    refine Under.region ?_
    refine Under.ov (OpV.asg rfl) rfl ?_
    refine Under.nil ?_
    refine Under.tN ?_
    refine Under.retc ?_
    refine Under.tR ?_
    have e3 := Option.some.inj hF
    subst e3
    exact Under.rets Try.results5 (.tm rfl .nil) rfl rfl
  · refine Under.code_skip ?_
    refine Under.tN ?_
    refine Under.seq ?_
    refine Under.phases rfl ?_
    refine Under.grpA (L := L) [0, 1, 2, 3, 4, 5, 6, 7, 8, 9, 10, 11] [[1], [10], [1], [12], [1], [14], [1], [16], [], [3, 11], [13], [15]] [.v (.ptr kApi_Window a0.W), .v (.val kApi_Window a0.W), .v (.ptr (kInt .i64) a0.Span), .v (.raw (.int .i64 a0.Span)), .v (.ptr (kInt .i64) a0.Room), .v (.raw (.int .i64 a0.Room)), .v (.ptr (kSl (kArr 16 (kInt .u8))) a0.Tags), .v (.val (kSl (kArr 16 (kInt .u8))) a0.Tags), alB (fun b => .box kApi_Window b 27 (⟨0, []⟩ : Api_Window)) (fun b => .box kApi_Window b 27 a0.W) (some 9), .st 8, .v (.raw (.int .i64 a0.Span)), .v (.raw (.int .i64 a0.Room))] [(8, 9)] [] (fun T : List Res => T) lf0 rfl (by kernel_rfl) (ItsOk.of rfl rfl) (by kernel_rfl) rfl rfl (fun F hF0 bs => ?_)
    refine Aq.v (fun G T hG => ?_) ?_
    · refine Under.ov (OpV.fd fb38_0 rfl rfl) rfl ?_
      exact Zq.done rfl
    refine Aq.v (fun G T hG => ?_) ?_
    · refine Under.ov (OpV.ld kt27 rfl) rfl ?_
      exact Zq.done rfl
    refine Aq.v (fun G T hG => ?_) ?_
    · refine Under.ov (OpV.fd fb38_1 rfl rfl) rfl ?_
      exact Zq.done rfl
    refine Aq.v (fun G T hG => ?_) ?_
    · refine Under.ov (OpV.ldI kt3 rfl) rfl ?_
      exact Zq.done rfl
    refine Aq.v (fun G T hG => ?_) ?_
    · refine Under.ov (OpV.fd fb38_2 rfl rfl) rfl ?_
      exact Zq.done rfl
    refine Aq.v (fun G T hG => ?_) ?_
    · refine Under.ov (OpV.ldI kt3 rfl) rfl ?_
      exact Zq.done rfl
    refine Aq.v (fun G T hG => ?_) ?_
    · refine Under.ov (OpV.fd fb38_3 rfl rfl) rfl ?_
      exact Zq.done rfl
    refine Aq.v (fun G T hG => ?_) ?_
    · refine Under.ov (OpV.ld kt36 rfl) rfl ?_
      exact Zq.done rfl
    refine Aq.al ZT27 rfl fun b4 => ?_
    refine Aq.st (.here) (fun G T hG => ?_) ?_
    · refine Under.stP (x' := a0.W) .box .id sz27_kApi_Window rfl rfl rdV rfl ?_
      exact Aq.std
    refine Aq.v (fun G T hG => ?_) ?_
    · refine Under.ov (OpV.asg rfl) rfl ?_
      exact Zq.done rfl
    refine Aq.v (fun G T hG => ?_) ?_
    · refine Under.ov (OpV.asg rfl) rfl ?_
      exact Zq.done rfl
    refine Aq.nil ?_
    refine Under.le hF0 ?_
    refine Under.p1 12 rfl rfl ?_
    refine Under.ov (OpV.asg rfl) rfl ?_
    refine Under.pn ?_
    refine Under.pdone rfl ?_
    refine Under.frz (t := 3) rfl ?_
    refine Under.tN ?_
    refine Under.seq ?_
    refine Under.seq ?_
    refine Under.draw rfl (by kernel_rfl) fun F hF0 => ?_
    refine UnderQ.ov (OpV.ld kt27 rfl) rfl ?_
    refine UnderQ.ov (OpV.move rfl) rfl ?_
    refine UnderQ.ov (OpV.move rfl) rfl ?_
    obtain ⟨y5, h6, hF⟩ := bsome hF
    refine UnderQ.ov (OpV.call Try.call16 rfl rfl (fun L => (f_window_Check_ok h6 L))) rfl ?_
    refine UnderQ.ov (OpV.ld kt27 rfl) rfl ?_
    refine UnderQ.ov (OpV.move rfl) rfl ?_
    refine UnderQ.ov (OpV.move rfl) rfl ?_
    obtain ⟨y7, h8, hF⟩ := bsome hF
    refine UnderQ.ov (OpV.call Try.call17 rfl rfl (fun L => (f_churnref16_Check_ok h8 L))) rfl ?_
    refine UnderQ.ov (OpV.bin rfl rfl rfl) rfl ?_
    refine UnderQ.ov (OpV.move rfl) rfl ?_
    obtain ⟨x11, h10, hF⟩ := bsome hF
    refine runj_6q 33 x11 ?_ (fun k => ?_)
    · refine UnderQ.nil hF0 ?_
      refine Under.tN ?_
      refine Under.ite hF rfl (fun hF => ?_) (fun hF => ?_)
      · refine Under.seq ?_
        refine Under.region ?_
        refine Under.ov (OpV.asg rfl) rfl ?_
        refine Under.nil ?_
        refine Under.tN ?_
        refine Under.retc ?_
        refine Under.tR ?_
        have e16 := Option.some.inj hF
        subst e16
        exact Under.rets Try.results5 (.tm rfl .nil) rfl rfl
      · refine Under.code_skip ?_
        refine Under.tN ?_
        obtain ⟨r60, h61, hF⟩ := bsome hF
        refine Under.seq ?_
        refine Under.after (fun X => ∀ (_ : Unit), r60 = (.inr ()) → Under F0 53 [] (L) X) ?_ ?_
        · intro _ h111
          replace h111 := h111.symm
          subst h111
          refine Under.seq ?_
          refine Under.region ?_
          refine Under.ov (OpV.asg rfl) rfl ?_
          refine Under.nil ?_
          refine Under.tN ?_
          refine Under.retc ?_
          have e63 := Option.some.inj hF
          subst e63
          exact Under.rets Try.results5 (.tm rfl .nil) rfl rfl
        · intro K k62
          refine Under.seq ?_
          refine Under.region ?_
          refine Under.ov (OpV.asg rfl) rfl ?_
          refine Under.nil ?_
          refine Under.tN ?_
          refine Under.block ?_
          obtain ⟨r92, h93, h61⟩ := bsome h61
          refine Under.loop (S := Int) (C := Unit) () (fun (x108 : Int) (q109 : Unit) => [(3, .ptr kApi_Window a0.W), (6, .val (kSl (kArr 16 (kInt .u8))) a0.Tags), (7, .raw (.int .i64 x108))]) (fun (x108 : Int) (q109 : Unit) => L) h93 (sub_cons rfl (sub_cons rfl (sub_cons rfl (sub_nil _)))) rfl (fun x108 q109 o94 h90 d91 => ?_)
          refine Under.seq ?_
          refine Under.seq ?_
          refine Under.region ?_
          refine Under.ov (OpV.move rfl) rfl ?_
          refine Under.ov (OpV.move rfl) rfl ?_
          refine Under.ov (OpV.len Try.underlying36 rfl rdV) rfl ?_
          refine Under.ov (OpV.bin rfl rfl rfl) rfl ?_
          refine Under.nil ?_
          refine Under.tN ?_
          refine Under.ite h90 rfl (fun h90 => ?_) (fun h90 => ?_)
          · refine Under.code_skip ?_
            refine Under.tN ?_
            refine Under.seq ?_
            refine Under.block ?_
            refine Under.seq ?_
            refine Under.draw rfl (by kernel_rfl) fun F hF0 => ?_
            refine UnderQ.ov (OpV.ld kt27 rfl) rfl ?_
            refine UnderQ.ov (OpV.move rfl) rfl ?_
            refine UnderQ.ov (OpV.move rfl) rfl ?_
            obtain ⟨x95, h96, h90⟩ := bsome h90
            refine UnderQ.ov (OpV.ixS h96 Try.underlying36 sz43 rfl rdV rfl) rfl ?_
            refine UnderQ.ov (OpV.ld kt43 rfl) rfl ?_
            obtain ⟨y97, h98, h90⟩ := bsome h90
            refine UnderQ.ov (OpV.call Try.call20 rfl rfl (fun L => (f_window_Has_ok h98 L))) rfl ?_
            refine UnderQ.ov (OpV.ld kt27 rfl) rfl ?_
            refine UnderQ.ov (OpV.move rfl) rfl ?_
            refine UnderQ.ov (OpV.move rfl) rfl ?_
            obtain ⟨x99, h100, h90⟩ := bsome h90
            refine UnderQ.ov (OpV.ixS h100 Try.underlying36 sz43 rfl rdV rfl) rfl ?_
            refine UnderQ.ov (OpV.ld kt43 rfl) rfl ?_
            obtain ⟨y101, h102, h90⟩ := bsome h90
            refine UnderQ.ov (OpV.call Try.call21 rfl rfl (fun L => (f_churnref16_Has_ok h102 L))) rfl ?_
            refine UnderQ.ov (OpV.eqBn Try.underlying4 rfl rfl) rfl ?_
            refine UnderQ.nil hF0 ?_
            refine Under.tN ?_
            refine Under.ite h90 rfl (fun h90 => ?_) (fun h90 => ?_)
            · refine Under.seq ?_
              refine Under.region ?_
              refine Under.ov (OpV.asg rfl) rfl ?_
              refine Under.nil ?_
              refine Under.tN ?_
              refine Under.retc ?_
              refine Under.bR ?_
              refine Under.tR ?_
              have e103 := done_eq h90 d91
              subst e103
              refine Under.tR ?_
              refine Under.bR ?_
              refine Under.tR ?_
              have e104 := Option.some.inj h61
              subst e104
              have e105 := Option.some.inj hF
              subst e105
              exact Under.rets Try.results5 (.tm rfl .nil) rfl rfl
            · refine Under.code_skip ?_
              refine Under.bN ?_
              refine Under.tN ?_
              refine Under.region ?_
              refine Under.ov (OpV.move rfl) rfl ?_
              refine Under.ov (OpV.bin rfl rfl rfl) rfl ?_
              refine Under.ov (OpV.asg rfl) rfl ?_
              refine Under.nil ?_
              exact Under.next _ () h90 (sub_cons rfl (sub_cons rfl (sub_cons rfl (sub_nil _)))) rfl
          · refine Under.exit ?_
            refine Under.tE ?_
            have e106 := done_eq h90 d91
            subst e106
            refine Under.tE ?_
            refine Under.bH ?_
            refine Under.tN ?_
            exact Under.weak (k62 () (Option.some.inj h61).symm) (sub_nil _)
    · refine UnderQ.byc (t := 27) rfl (fun c9 => ?_) (fun c9 => ?_)
      · replace h10 := ctrue c9 h10
        refine UnderQ.skc c9 rfl rfl rfl ?_
        refine UnderQ.skc c9 rfl rfl rfl ?_
        refine UnderQ.skc c9 rfl rfl rfl ?_
        refine UnderQ.skc c9 rfl rfl rfl ?_
        refine UnderQ.skc c9 rfl rfl rfl ?_
        refine UnderQ.ov (OpV.pick rfl (fun e => rfl) (fun e => absurd (e.symm.trans c9) (by decide))) rfl ?_
        exact UnderQ.rfin 5 (congrArg (fun b => SV.raw (.bool b)) (Option.some.inj h10)) rfl k
      · replace h10 := cfalse c9 h10
        refine UnderQ.goc c9 rfl rfl ?_
        refine UnderQ.ov (OpV.ld kt27 rfl) rfl ?_
        obtain ⟨y12, h13, h10⟩ := bsome h10
        refine UnderQ.goc c9 rfl rfl ?_
        refine UnderQ.ov (OpV.call Try.call18 rfl rfl (fun L => (f_window_Len_ok h13 L))) rfl ?_
        refine UnderQ.goc c9 rfl rfl ?_
        refine UnderQ.ov (OpV.ld kt27 rfl) rfl ?_
        obtain ⟨y14, h15, h10⟩ := bsome h10
        refine UnderQ.goc c9 rfl rfl ?_
        refine UnderQ.ov (OpV.call Try.call19 rfl rfl (fun L => (f_churnref16_Len_ok h15 L))) rfl ?_
        refine UnderQ.goc c9 rfl rfl ?_
        refine UnderQ.ov (OpV.bin rfl rfl rfl) rfl ?_
        refine UnderQ.ov (OpV.pick rfl (fun e => absurd (e.symm.trans c9) (by decide)) (fun e => rfl)) rfl ?_
        exact UnderQ.rfin 5 (congrArg (fun b => SV.raw (.bool b)) (Option.some.inj h10)) rfl k
/-- churn/churnref16.Open -/
noncomputable def f_churnref16_Open (a0 : Api_Window) (a1 : Int) (a2 : Int) : Option (Api_Window × Int) :=
  bif (((decide (a2 < 1)) || (decide (a2 > 8))) || (decide (a1 < 0))) || (decide (a1 > 4611686018427387904)) then
    some ((⟨0, []⟩ : Api_Window), 2)
  else
    bif (decide (a0.Newest ≥ (IntKind.wrap .i64 (a1 + a2)))) || (decide (a0.Newest < (IntKind.wrap .i64 (a1 - 1024)))) then
      some ((⟨0, []⟩ : Api_Window), 161)
    else
      (((Loop.run (S := (Int × (List Api_Epoch))) (R := Api_Window) (fun (x208, x210) =>
          bif decide (x208 < (a0.Epochs.length : Int)) then
            (((idx a0.Epochs x208).bind fun x260 =>
            bif decide (x260.Number > (IntKind.wrap .i64 ((max a0.Newest a1) - a2))) then
              (app [] x260.Tags).bind fun z263 =>
              (app x210 [(⟨x260.Number, z263⟩ : Api_Epoch)]).bind fun z266 =>
              some z266
            else
              some x210
              : Option (List Api_Epoch))).bind fun x256 =>
            some (.next (IntKind.wrap .i64 (x208 + 1), x256))
          else
            some (.done (⟨max a0.Newest a1, x210⟩ : Api_Window))) (0, [])).bind fun x239 =>
      some x239
        : Option Api_Window)).bind fun x144 =>
      some (x144, 0)
theorem f_churnref16_Open_ok {a0 : Api_Window} {a1 : Int} {a2 : Int} {r0 : (Api_Window × Int)} (hF : f_churnref16_Open a0 a1 a2 = some r0) (L : List Res) : Ok Try.prog 22 [SV.val kApi_Window a0, SV.raw (.int .i64 a1), SV.raw (.int .i64 a2)] (L) (SV.tup [SV.val kApi_Window r0.1, SV.raw (.int .i64 r0.2)]) (L) := by
  unfold f_churnref16_Open at hF
  refine Ok.intro 79 [(0, .val kApi_Window a0), (1, .raw (.int .i64 a1)), (2, .raw (.int .i64 a2))] Try.func22 rfl rfl rfl rfl (fun F0 => ?_)
  refine Under.seq ?_
  refine Under.region ?_
  refine Under.bxF (K := kApi_Window) rfl rdV rfl ?_
  refine Under.al ZT27 rfl fun b1 => ?_
  refine Under.ov (OpV.asg rfl) rfl ?_
  refine Under.nil ?_
  refine Under.tN ?_
  refine Under.seq ?_
  refine Under.seq ?_
  refine Under.region ?_
  refine Under.ov (OpV.move rfl) rfl ?_
  refine Under.ov (OpV.bin rfl rfl rfl) rfl ?_
  refine Under.ov (OpV.move rfl) rfl ?_
  refine runj_3 17 ((decide (a2 < 1)) || (decide (a2 > 8))) ?_ (fun k => ?_)
  · refine Under.ov (OpV.move rfl) rfl ?_
    refine runj_3 21 (((decide (a2 < 1)) || (decide (a2 > 8))) || (decide (a1 < 0))) ?_ (fun k => ?_)
    · refine Under.ov (OpV.move rfl) rfl ?_
      refine runj_3 25 ((((decide (a2 < 1)) || (decide (a2 > 8))) || (decide (a1 < 0))) || (decide (a1 > 4611686018427387904))) ?_ (fun k => ?_)
      · refine Under.nil ?_
        refine Under.tN ?_
        refine Under.ite hF rfl (fun hF => ?_) (fun hF => ?_)
        · refine Under.seq ?_
          refine Under.region ?_
          refine Under.ov (OpV.bst BT27 (Bld.nil _)) rfl ?_
          refine Under.stP (x' := (⟨0, []⟩ : Api_Window)) .box .id sz27_kApi_Window rfl rfl rdV rfl ?_
          refine Under.ov (OpV.asg rfl) rfl ?_
          refine Under.nil ?_
          refine Under.frz (t := 6) rfl ?_
          refine Under.tN ?_
          refine Under.retc ?_
          refine Under.tR ?_
          have e11 := Option.some.inj hF
          subst e11
          exact Under.rets Try.results22 (.ce rfl kt27 (.tm rfl .nil)) rfl rfl
        · refine Under.code_skip ?_
          refine Under.tN ?_
          refine Under.seq ?_
          refine Under.seq ?_
          refine Under.region ?_
          refine Under.ov (OpV.fd fb27_0 rfl rfl) rfl ?_
          refine Under.ov (OpV.ldI kt2 rfl) rfl ?_
          refine Under.ov (OpV.move rfl) rfl ?_
          refine Under.ov (OpV.move rfl) rfl ?_
          refine Under.ov (OpV.bin rfl rfl rfl) rfl ?_
          refine Under.ov (OpV.bin rfl rfl rfl) rfl ?_
          refine Under.ov (OpV.move rfl) rfl ?_
          refine runj_6 39 ((decide (a0.Newest ≥ (IntKind.wrap .i64 (a1 + a2)))) || (decide (a0.Newest < (IntKind.wrap .i64 (a1 - 1024))))) ?_ (fun k => ?_)
          · refine Under.nil ?_
            refine Under.tN ?_
            refine Under.ite hF rfl (fun hF => ?_) (fun hF => ?_)
            · refine Under.seq ?_
              refine Under.region ?_
              refine Under.ov (OpV.bst BT27 (Bld.nil _)) rfl ?_
              refine Under.stP (x' := (⟨0, []⟩ : Api_Window)) .box .id sz27_kApi_Window rfl rfl rdV rfl ?_
              refine Under.ov (OpV.asg rfl) rfl ?_
              refine Under.nil ?_
              refine Under.frz (t := 6) rfl ?_
              refine Under.tN ?_
              refine Under.retc ?_
              refine Under.tR ?_
              have e15 := Option.some.inj hF
              subst e15
              exact Under.rets Try.results22 (.ce rfl kt27 (.tm rfl .nil)) rfl rfl
            · refine Under.code_skip ?_
              refine Under.tN ?_
              refine Under.seq ?_
              refine Under.region ?_
              refine Under.ov (OpV.fd fb27_0 rfl rfl) rfl ?_
              refine Under.ov (OpV.ldI kt2 rfl) rfl ?_
              refine Under.ov (OpV.move rfl) rfl ?_
              refine Under.ov (OpV.max2 rfl rfl) rfl ?_
              refine Under.ov (OpV.bst BT27_Api_Window_r1 (Bld.cons (x' := (⟨max a0.Newest a1, .slice none 0 0⟩ : Api_Window_r1)) rfl rfl rdI (by intro q hq; simp only [List.mem_cons, List.not_mem_nil, or_false] at hq; rcases hq with rfl <;> rfl) (Bld.nil _))) rfl ?_
              refine Under.al ZT27_Api_Window_r1 rfl fun b16 => ?_
              refine Under.stP (x' := (⟨max a0.Newest a1, .slice none 0 0⟩ : Api_Window_r1)) .box .id sz27_kApi_Window_r1 rfl rfl rdV rfl ?_
              refine Under.nil ?_
              refine Under.tN ?_
              obtain ⟨r145, h146, hF⟩ := bsome hF
              refine Under.seq ?_
              refine Under.after (fun X => ∀ (x144 : Api_Window), r145 = x144 → Under F0 79 [(6, .raw (.pointer (some ⟨b1, 0, none⟩))), (8, .ptr kApi_Window x144)] ((.box kApi_Window b1 27 (⟨0, []⟩ : Api_Window)) :: L) X) ?_ ?_
              · intro x144 h278
                replace h278 := h278.symm
                subst h278
                refine Under.seq ?_
                refine Under.region ?_
                refine Under.ov (OpV.ld kt27 rfl) rfl ?_
                refine Under.stP (x' := x144) .box .id sz27_kApi_Window rfl rfl rdV rfl ?_
                refine Under.ov (OpV.asg rfl) rfl ?_
                refine Under.nil ?_
                refine Under.frz (t := 6) rfl ?_
                refine Under.tN ?_
                refine Under.retc ?_
                have e148 := Option.some.inj hF
                subst e148
                exact Under.rets Try.results22 (.ce rfl kt27 (.tm rfl .nil)) rfl rfl
              · intro K k147
                refine Under.seq ?_
                refine Under.region ?_
                refine Under.ov (OpV.asg rfl) rfl ?_
                refine Under.nil ?_
                refine Under.tN ?_
                refine Under.block ?_
                obtain ⟨r242, h243, h146⟩ := bsome h146
                refine Under.ownNil (K := kApi_Epoch) (e := 61) ?_
                refine Under.fo1 ?_
                refine Under.fo1 ?_
                refine Under.fo2 ?_
                refine Under.loop (S := (Int × (List Api_Epoch))) (C := Value) (.slice none 0 0) (fun (x275 : (Int × (List Api_Epoch))) (q276 : Value) => [(2, .raw (.int .i64 a2)), (3, .ptr kApi_Window a0), (6, .raw (.pointer (some ⟨b1, 0, none⟩))), (8, .raw (.pointer (some ⟨b16, 0, none⟩))), (9, .raw (.int .i64 x275.1))]) (fun (x275 : (Int × (List Api_Epoch))) (q276 : Value) => (.box kApi_Window b1 27 (⟨0, []⟩ : Api_Window)) :: (.own kApi_Epoch q276 61 x275.2) :: (.box kApi_Window_r1 b16 27 (⟨max a0.Newest a1, q276⟩ : Api_Window_r1)) :: L) h243 (sub_cons rfl (sub_cons rfl (sub_cons rfl (sub_cons rfl (sub_cons rfl (sub_nil _)))))) rfl (fun x275 q276 o244 h240 d241 => ?_)
                obtain ⟨x208, x210⟩ := x275
                dsimp only at h240 ⊢
                refine Under.seq ?_
                refine Under.seq ?_
                refine Under.region ?_
                refine Under.ov (OpV.move rfl) rfl ?_
                refine Under.ov (OpV.fd fb27_1 rfl rfl) rfl ?_
                refine Under.ov (OpV.ld kt25 rfl) rfl ?_
                refine Under.ov (OpV.len Try.underlying25 rfl rdV) rfl ?_
                refine Under.ov (OpV.bin rfl rfl rfl) rfl ?_
                refine Under.nil ?_
                refine Under.tN ?_
                refine Under.ite h240 rfl (fun h240 => ?_) (fun h240 => ?_)
                · refine Under.code_skip ?_
                  refine Under.tN ?_
                  obtain ⟨r257, h258, h240⟩ := bsome h240
                  refine Under.seq ?_
                  refine Under.after (fun X => ∀ (x256 : List Api_Epoch) (v255 : Value), r257 = x256 → Under F0 79 [(2, .raw (.int .i64 a2)), (3, .ptr kApi_Window a0), (6, .raw (.pointer (some ⟨b1, 0, none⟩))), (8, .raw (.pointer (some ⟨b16, 0, none⟩))), (9, .raw (.int .i64 x208))] ((.box kApi_Window b1 27 (⟨0, []⟩ : Api_Window)) :: (.own kApi_Epoch v255 61 x256) :: (.box kApi_Window_r1 b16 27 (⟨max a0.Newest a1, v255⟩ : Api_Window_r1)) :: L) X) ?_ ?_
                  · intro x256 v255 h272
                    replace h272 := h272.symm
                    subst h272
                    refine Under.region ?_
                    refine Under.ov (OpV.move rfl) rfl ?_
                    refine Under.ov (OpV.bin rfl rfl rfl) rfl ?_
                    refine Under.ov (OpV.asg rfl) rfl ?_
                    refine Under.nil ?_
                    refine Under.fo2 ?_
                    refine Under.fo2 ?_
                    refine Under.fo2 ?_
                    exact Under.next _ v255 h240 (sub_cons rfl (sub_cons rfl (sub_cons rfl (sub_cons rfl (sub_cons rfl (sub_nil _)))))) rfl
                  · intro K k259
                    refine Under.block ?_
                    refine Under.seq ?_
                    refine Under.region ?_
                    refine Under.ov (OpV.fd fb27_1 rfl rfl) rfl ?_
                    refine Under.ov (OpV.ld kt25 rfl) rfl ?_
                    refine Under.ov (OpV.move rfl) rfl ?_
                    obtain ⟨x260, h261, h258⟩ := bsome h258
                    refine Under.ov (OpV.ixS h261 Try.underlying25 sz61 rfl rdV rfl) rfl ?_
                    refine Under.ov (OpV.ld kt61 rfl) rfl ?_
                    refine Under.al ZT61 rfl fun b262 => ?_
                    refine Under.stP (x' := x260) .box .id sz61_kApi_Epoch rfl rfl rdV rfl ?_
                    refine Under.nil ?_
                    refine Under.frz (t := 10) rfl ?_
                    refine Under.tN ?_
                    refine Under.seq ?_
                    refine Under.region ?_
                    refine Under.ov (OpV.fd fb61_0 rfl rfl) rfl ?_
                    refine Under.ov (OpV.ldI kt2 rfl) rfl ?_
                    refine Under.ov (OpV.fdM fm27_0 rfl) rfl ?_
                    refine Under.fo2 ?_
                    refine Under.ldP .box (.fld .id uf_Api_Window_r1_0) kt2_kInt_i64 rfl rfl ?_
                    refine Under.rawI (t := 61) rfl ?_
                    refine Under.ov (OpV.move rfl) rfl ?_
                    refine Under.ov (OpV.bin rfl rfl rfl) rfl ?_
                    refine Under.ov (OpV.bin rfl rfl rfl) rfl ?_
                    refine Under.nil ?_
                    refine Under.tN ?_
                    refine Under.ite h258 rfl (fun h258 => ?_) (fun h258 => ?_)
                    · refine Under.seq ?_
                      refine Under.region ?_
                      refine Under.ov (OpV.asg rfl) rfl ?_
                      refine Under.nil ?_
                      refine Under.tN ?_
                      refine Under.seq ?_
                      refine Under.region ?_
                      refine Under.ov (OpV.move rfl) rfl ?_
                      refine Under.ov (OpV.fd fb61_1 rfl rfl) rfl ?_
                      refine Under.ov (OpV.ld kt36 rfl) rfl ?_
                      obtain ⟨z263, h264, h258⟩ := bsome h258
                      refine Under.ownNil (K := kArr 16 (kInt .u8)) (e := 43) ?_
                      refine Under.app h264 Try.underlying36 AT43 rfl rfl rdV rfl fun v265 => ?_
                      refine Under.ov (OpV.asg rfl) rfl ?_
                      refine Under.nil ?_
                      refine Under.frzO (t := 11) rfl ?_
                      refine Under.tN ?_
                      refine Under.region ?_
                      refine Under.ov (OpV.fdM fm27_1 rfl) rfl ?_
                      refine Under.ldP .box (.fld .id uf_Api_Window_r1_1) kt25_kRaw rfl rfl ?_
                      refine Under.rawR (t := 70) rfl ?_
                      refine Under.ov (OpV.fd fb61_0 rfl rfl) rfl ?_
                      refine Under.ov (OpV.ldI kt2 rfl) rfl ?_
                      refine Under.ov (OpV.move rfl) rfl ?_
                      refine Under.ov (OpV.bst BT61 (Bld.cons (x' := (⟨x260.Number, []⟩ : Api_Epoch)) rfl rfl rdI (by intro q hq; simp only [List.mem_cons, List.not_mem_nil, or_false] at hq; rcases hq with rfl <;> rfl) (Bld.cons (x' := (⟨x260.Number, z263⟩ : Api_Epoch)) rfl rfl rdV ⟨rfl, (fun q hq => by simp at hq)⟩ (Bld.nil _)))) rfl ?_
                      refine Under.bsF (ys := [(⟨x260.Number, z263⟩ : Api_Epoch)]) Try.underlying25 ET61 (BldA.cons rfl rfl rdV (BldA.nil _)) rfl rfl ?_
                      obtain ⟨z266, h267, h258⟩ := bsome h258
                      refine Under.fo2 ?_
                      refine Under.app h267 Try.underlying25 AT61 rfl rfl rdV rfl fun v268 => ?_
                      refine Under.ov (OpV.fdM fm27_1 rfl) rfl ?_
                      refine Under.ownCell fun h269 => ?_
                      refine Under.fo1 ?_
                      refine Under.stP (x' := (⟨max a0.Newest a1, v268⟩ : Api_Window_r1)) .box (.fld .id uf_Api_Window_r1_1) sz25_kRaw rfl rfl (rdRaw h269) rfl ?_
                      refine Under.nil ?_
                      refine Under.bN ?_
                      refine Under.tN ?_
                      refine Under.fo1 ?_
                      refine Under.fo2 ?_
                      exact Under.weak (k259 _ _ (Option.some.inj h258).symm) (sub_cons rfl (sub_cons rfl (sub_cons rfl (sub_cons rfl (sub_cons rfl (sub_nil _))))))
                    · refine Under.code_skip ?_
                      refine Under.bN ?_
                      refine Under.tN ?_
                      refine Under.fo2 ?_
                      refine Under.fo2 ?_
                      exact Under.weak (k259 _ _ (Option.some.inj h258).symm) (sub_cons rfl (sub_cons rfl (sub_cons rfl (sub_cons rfl (sub_cons rfl (sub_nil _))))))
                · refine Under.fo2 ?_
                  refine Under.fo2 ?_
                  refine Under.frzBO (fs := kApi_WindowF) (⟨max a0.Newest a1, x210⟩ : Api_Window) (fun F hv => ⟨fun _ h => h, cv_raw hv, trivial⟩) ?_
                  refine Under.frz (t := 8) rfl ?_
                  refine Under.exit ?_
                  refine Under.tE ?_
                  have e273 := done_eq h240 d241
                  subst e273
                  refine Under.tE ?_
                  refine Under.bH ?_
                  refine Under.tN ?_
                  exact Under.weak (k147 _ (Option.some.inj h146).symm) (sub_cons rfl (sub_cons rfl (sub_nil _)))
          · refine Under.byc (t := 33) rfl (fun c12 => ?_) (fun c12 => ?_)
            · refine Under.skc c12 rfl rfl rfl ?_
              refine Under.skc c12 rfl rfl rfl ?_
              refine Under.skc c12 rfl rfl rfl ?_
              refine Under.skc c12 rfl rfl rfl ?_
              refine Under.skc c12 rfl rfl rfl ?_
              refine Under.ov (OpV.pick rfl (fun e => rfl) (fun e => absurd (e.symm.trans c12) (by decide))) rfl ?_
              exact Under.rfin 5 (or_t (e := decide (a0.Newest < (IntKind.wrap .i64 (a1 - 1024)))) c12) rfl k
            · refine Under.goc c12 rfl rfl ?_
              refine Under.ov (OpV.fd fb27_0 rfl rfl) rfl ?_
              refine Under.goc c12 rfl rfl ?_
              refine Under.ov (OpV.ldI kt2 rfl) rfl ?_
              refine Under.goc c12 rfl rfl ?_
              refine Under.ov (OpV.move rfl) rfl ?_
              refine Under.goc c12 rfl rfl ?_
              refine Under.ov (OpV.bin rfl rfl rfl) rfl ?_
              refine Under.goc c12 rfl rfl ?_
              refine Under.ov (OpV.bin rfl rfl rfl) rfl ?_
              refine Under.ov (OpV.pick rfl (fun e => absurd (e.symm.trans c12) (by decide)) (fun e => rfl)) rfl ?_
              exact Under.rfin 5 (or_f c12) rfl k
      · refine Under.byc (t := 22) rfl (fun c8 => ?_) (fun c8 => ?_)
        · refine Under.skc c8 rfl rfl rfl ?_
          refine Under.skc c8 rfl rfl rfl ?_
          refine Under.ov (OpV.pick rfl (fun e => rfl) (fun e => absurd (e.symm.trans c8) (by decide))) rfl ?_
          exact Under.rfin 2 (or_t (e := decide (a1 > 4611686018427387904)) c8) rfl k
        · refine Under.goc c8 rfl rfl ?_
          refine Under.ov (OpV.move rfl) rfl ?_
          refine Under.goc c8 rfl rfl ?_
          refine Under.ov (OpV.bin rfl rfl rfl) rfl ?_
          refine Under.ov (OpV.pick rfl (fun e => absurd (e.symm.trans c8) (by decide)) (fun e => rfl)) rfl ?_
          exact Under.rfin 2 (or_f c8) rfl k
    · refine Under.byc (t := 18) rfl (fun c5 => ?_) (fun c5 => ?_)
      · refine Under.skc c5 rfl rfl rfl ?_
        refine Under.skc c5 rfl rfl rfl ?_
        refine Under.ov (OpV.pick rfl (fun e => rfl) (fun e => absurd (e.symm.trans c5) (by decide))) rfl ?_
        exact Under.rfin 2 (or_t (e := decide (a1 < 0)) c5) rfl k
      · refine Under.goc c5 rfl rfl ?_
        refine Under.ov (OpV.move rfl) rfl ?_
        refine Under.goc c5 rfl rfl ?_
        refine Under.ov (OpV.bin rfl rfl rfl) rfl ?_
        refine Under.ov (OpV.pick rfl (fun e => absurd (e.symm.trans c5) (by decide)) (fun e => rfl)) rfl ?_
        exact Under.rfin 2 (or_f c5) rfl k
  · refine Under.byc (t := 14) rfl (fun c2 => ?_) (fun c2 => ?_)
    · refine Under.skc c2 rfl rfl rfl ?_
      refine Under.skc c2 rfl rfl rfl ?_
      refine Under.ov (OpV.pick rfl (fun e => rfl) (fun e => absurd (e.symm.trans c2) (by decide))) rfl ?_
      exact Under.rfin 2 (or_t (e := decide (a2 > 8)) c2) rfl k
    · refine Under.goc c2 rfl rfl ?_
      refine Under.ov (OpV.move rfl) rfl ?_
      refine Under.goc c2 rfl rfl ?_
      refine Under.ov (OpV.bin rfl rfl rfl) rfl ?_
      refine Under.ov (OpV.pick rfl (fun e => absurd (e.symm.trans c2) (by decide)) (fun e => rfl)) rfl ?_
      exact Under.rfin 2 (or_f c2) rfl k
/-- churn/churnlaw16.same -/
noncomputable def f_churnlaw16_same (a0 : Api_Window) (a1 : Api_Window) : Option Bool :=
  bif (a0.Newest != a1.Newest) || ((a0.Epochs.length : Int) != (a1.Epochs.length : Int)) then
    some false
  else
    (((Loop.run (S := Int) (R := (Unit ⊕ Bool)) (fun x502 =>
        bif decide (x502 < (a0.Epochs.length : Int)) then
          (((idx a0.Epochs x502).bind fun x627 =>
          (idx a1.Epochs x502).bind fun x629 =>
          bif (x627.Number != x629.Number) || ((x627.Tags.length : Int) != (x629.Tags.length : Int)) then
            some (.inl false)
          else
            (Loop.run (S := Int) (R := (Unit ⊕ Bool)) (fun x649 =>
                bif decide (x649 < (x627.Tags.length : Int)) then
                  (idx x627.Tags x649).bind fun x659 =>
                  (idx x629.Tags x649).bind fun x661 =>
                  bif x659 != x661 then
                    some (.done (.inr false))
                  else
                    some (.next (IntKind.wrap .i64 (x649 + 1)))
                else
                  some (.done (.inl ()))) 0).bind fun r656 => match r656 with
              | .inl _ =>
                some (.inr ())
              | .inr z =>
                some (.inl z)
            : Option (Bool ⊕ Unit))).bind fun r624 => match r624 with
            | .inl z =>
              some (.done (.inr z))
            | .inr _ =>
              some (.next (IntKind.wrap .i64 (x502 + 1)))
        else
          some (.done (.inl ()))) 0).bind fun r585 => match r585 with
      | .inl _ =>
        some (.inr ())
      | .inr z =>
        some (.inl z)
      : Option (Bool ⊕ Unit))).bind fun r337 => match r337 with
      | .inl z =>
        some z
      | .inr _ =>
        some true
theorem f_churnlaw16_same_ok {a0 : Api_Window} {a1 : Api_Window} {r0 : Bool} (hF : f_churnlaw16_same a0 a1 = some r0) (L : List Res) : Ok Try.prog 24 [SV.val kApi_Window a0, SV.val kApi_Window a1] (L) (SV.raw (.bool r0)) (L) := by
  unfold f_churnlaw16_same at hF
  refine Ok.intro 72 [(0, .val kApi_Window a0), (1, .val kApi_Window a1)] Try.func24 rfl rfl rfl rfl (fun F0 => ?_)
  refine Under.seq ?_
  refine Under.region ?_
  refine Under.bxF (K := kApi_Window) rfl rdV rfl ?_
  refine Under.bxF (K := kApi_Window) rfl rdV rfl ?_
  refine Under.ov (OpV.asg rfl) rfl ?_
  refine Under.nil ?_
  refine Under.tN ?_
  refine Under.seq ?_
  refine Under.seq ?_
  refine Under.region ?_
  refine Under.ov (OpV.fd fb27_0 rfl rfl) rfl ?_
  refine Under.ov (OpV.ldI kt2 rfl) rfl ?_
  refine Under.ov (OpV.fd fb27_0 rfl rfl) rfl ?_
  refine Under.ov (OpV.ldI kt2 rfl) rfl ?_
  refine Under.ov (OpV.bin rfl rfl rfl) rfl ?_
  refine Under.ov (OpV.move rfl) rfl ?_
  refine runj_8 22 ((a0.Newest != a1.Newest) || ((a0.Epochs.length : Int) != (a1.Epochs.length : Int))) ?_ (fun k => ?_)
  · refine Under.nil ?_
    refine Under.tN ?_
    refine Under.ite hF rfl (fun hF => ?_) (fun hF => ?_)
    · refine Under.seq ?_
      refine Under.region ?_
      refine Under.ov (OpV.asg rfl) rfl ?_
      refine Under.nil ?_
      refine Under.tN ?_
      refine Under.retc ?_
      refine Under.tR ?_
      have e4 := Option.some.inj hF
      subst e4
      exact Under.rets Try.results24 (.tm rfl .nil) rfl rfl
    · refine Under.code_skip ?_
      refine Under.tN ?_
      obtain ⟨r337, h338, hF⟩ := bsome hF
      refine Under.seq ?_
      refine Under.after (fun X => ∀ (_ : Unit), r337 = (.inr ()) → Under F0 72 [] (L) X) ?_ ?_
      · intro _ h679
        replace h679 := h679.symm
        subst h679
        refine Under.seq ?_
        refine Under.region ?_
        refine Under.ov (OpV.asg rfl) rfl ?_
        refine Under.nil ?_
        refine Under.tN ?_
        refine Under.retc ?_
        have e340 := Option.some.inj hF
        subst e340
        exact Under.rets Try.results24 (.tm rfl .nil) rfl rfl
      · intro K k339
        refine Under.seq ?_
        refine Under.region ?_
        refine Under.ov (OpV.asg rfl) rfl ?_
        refine Under.nil ?_
        refine Under.tN ?_
        refine Under.block ?_
        obtain ⟨r585, h586, h338⟩ := bsome h338
        refine Under.loop (S := Int) (C := Unit) () (fun (x676 : Int) (q677 : Unit) => [(2, .ptr kApi_Window a0), (3, .ptr kApi_Window a1), (5, .raw (.int .i64 x676))]) (fun (x676 : Int) (q677 : Unit) => L) h586 (sub_cons rfl (sub_cons rfl (sub_cons rfl (sub_nil _)))) rfl (fun x676 q677 o587 h583 d584 => ?_)
        refine Under.seq ?_
        refine Under.seq ?_
        refine Under.region ?_
        refine Under.ov (OpV.move rfl) rfl ?_
        refine Under.ov (OpV.fd fb27_1 rfl rfl) rfl ?_
        refine Under.ov (OpV.ld kt25 rfl) rfl ?_
        refine Under.ov (OpV.len Try.underlying25 rfl rdV) rfl ?_
        refine Under.ov (OpV.bin rfl rfl rfl) rfl ?_
        refine Under.nil ?_
        refine Under.tN ?_
        refine Under.ite h583 rfl (fun h583 => ?_) (fun h583 => ?_)
        · refine Under.code_skip ?_
          refine Under.tN ?_
          obtain ⟨r624, h625, h583⟩ := bsome h583
          refine Under.seq ?_
          refine Under.after (fun X => ∀ (_ : Unit), r624 = (.inr ()) → Under F0 72 [(2, .ptr kApi_Window a0), (3, .ptr kApi_Window a1), (5, .raw (.int .i64 x676))] (L) X) ?_ ?_
          · intro _ h673
            replace h673 := h673.symm
            subst h673
            refine Under.region ?_
            refine Under.ov (OpV.move rfl) rfl ?_
            refine Under.ov (OpV.bin rfl rfl rfl) rfl ?_
            refine Under.ov (OpV.asg rfl) rfl ?_
            refine Under.nil ?_
            exact Under.next _ () h583 (sub_cons rfl (sub_cons rfl (sub_cons rfl (sub_nil _)))) rfl
          · intro K k626
            refine Under.block ?_
            refine Under.seq ?_
            refine Under.phases rfl ?_
            obtain ⟨x627, h628, h625⟩ := bsome h625
            obtain ⟨x629, h630, h625⟩ := bsome h625
            refine Under.grpA (L := L) [0, 1, 2, 3, 4, 5, 6, 7, 8, 9, 10, 11, 12] [[2], [30], [5], [31, 32], [33], [3], [35], [5], [36, 37], [38], [], [], [6, 34]] [.v (.ptr (kSl kApi_Epoch) a0.Epochs), .v (.val (kSl kApi_Epoch) a0.Epochs), .v (.raw (.int .i64 x676)), .v (.ptr kApi_Epoch x627), .v (.val kApi_Epoch x627), .v (.ptr (kSl kApi_Epoch) a1.Epochs), .v (.val (kSl kApi_Epoch) a1.Epochs), .v (.raw (.int .i64 x676)), .v (.ptr kApi_Epoch x629), .v (.val kApi_Epoch x629), alB (fun b => .box kApi_Epoch b 61 (⟨0, []⟩ : Api_Epoch)) (fun b => .box kApi_Epoch b 61 x627) (some 12), alB (fun b => .box kApi_Epoch b 61 (⟨0, []⟩ : Api_Epoch)) (fun b => .box kApi_Epoch b 61 (⟨0, []⟩ : Api_Epoch)) none, .st 10] [(10, 12)] [] (fun T : List Res => T) lf0 rfl (by kernel_rfl) (ItsOk.of rfl rfl) (by kernel_rfl) rfl rfl (fun F hF0 bs => ?_)
            refine Aq.v (fun G T hG => ?_) ?_
            · refine Under.ov (OpV.fd fb27_1 rfl rfl) rfl ?_
              exact Zq.done rfl
            refine Aq.v (fun G T hG => ?_) ?_
            · refine Under.ov (OpV.ld kt25 rfl) rfl ?_
              exact Zq.done rfl
            refine Aq.v (fun G T hG => ?_) ?_
            · refine Under.ov (OpV.move rfl) rfl ?_
              exact Zq.done rfl
            refine Aq.v (fun G T hG => ?_) ?_
            · refine Under.ov (OpV.ixS h628 Try.underlying25 sz61 rfl rdV rfl) rfl ?_
              exact Zq.done rfl
            refine Aq.v (fun G T hG => ?_) ?_
            · refine Under.ov (OpV.ld kt61 rfl) rfl ?_
              exact Zq.done rfl
            refine Aq.v (fun G T hG => ?_) ?_
            · refine Under.ov (OpV.fd fb27_1 rfl rfl) rfl ?_
              exact Zq.done rfl
            refine Aq.v (fun G T hG => ?_) ?_
            · refine Under.ov (OpV.ld kt25 rfl) rfl ?_
              exact Zq.done rfl
            refine Aq.v (fun G T hG => ?_) ?_
            · refine Under.ov (OpV.move rfl) rfl ?_
              exact Zq.done rfl
            refine Aq.v (fun G T hG => ?_) ?_
            · refine Under.ov (OpV.ixS h630 Try.underlying25 sz61 rfl rdV rfl) rfl ?_
              exact Zq.done rfl
            refine Aq.v (fun G T hG => ?_) ?_
            · refine Under.ov (OpV.ld kt61 rfl) rfl ?_
              exact Zq.done rfl
            refine Aq.al ZT61 rfl fun b631 => ?_
            refine Aq.al ZT61 rfl fun b632 => ?_
            refine Aq.st (.there (.here)) (fun G T hG => ?_) ?_
            · refine Under.stP (x' := x627) .box .id sz61_kApi_Epoch rfl rfl rdV rfl ?_
              exact Aq.std
            refine Aq.nil ?_
            refine Under.le hF0 ?_
            refine Under.p1 13 rfl rfl ?_
            refine Under.fo1 ?_
            refine Under.stP (x' := x629) .box .id sz61_kApi_Epoch rfl rfl rdV rfl ?_
            refine Under.pn ?_
            refine Under.pdone rfl ?_
            refine Under.frz (t := 7) rfl ?_
            refine Under.frz (t := 6) rfl ?_
            refine Under.tN ?_
            refine Under.seq ?_
            refine Under.seq ?_
            refine Under.region ?_
            refine Under.ov (OpV.fd fb61_0 rfl rfl) rfl ?_
            refine Under.ov (OpV.ldI kt2 rfl) rfl ?_
            refine Under.ov (OpV.fd fb61_0 rfl rfl) rfl ?_
            refine Under.ov (OpV.ldI kt2 rfl) rfl ?_
            refine Under.ov (OpV.bin rfl rfl rfl) rfl ?_
            refine Under.ov (OpV.move rfl) rfl ?_
            refine runj_8 53 ((x627.Number != x629.Number) || ((x627.Tags.length : Int) != (x629.Tags.length : Int))) ?_ (fun k => ?_)
            · refine Under.nil ?_
              refine Under.tN ?_
              refine Under.ite h625 rfl (fun h625 => ?_) (fun h625 => ?_)
              · refine Under.seq ?_
                refine Under.region ?_
                refine Under.ov (OpV.asg rfl) rfl ?_
                refine Under.nil ?_
                refine Under.tN ?_
                refine Under.retc ?_
                refine Under.tR ?_
                refine Under.bR ?_
                refine Under.tR ?_
                have e636 := Option.some.inj h625
                subst e636
                have e637 := done_eq h583 d584
                subst e637
                refine Under.tR ?_
                refine Under.bR ?_
                refine Under.tR ?_
                have e638 := Option.some.inj h338
                subst e638
                have e639 := Option.some.inj hF
                subst e639
                exact Under.rets Try.results24 (.tm rfl .nil) rfl rfl
              · refine Under.code_skip ?_
                refine Under.tN ?_
                refine Under.seq ?_
                refine Under.region ?_
                refine Under.ov (OpV.asg rfl) rfl ?_
                refine Under.nil ?_
                refine Under.tN ?_
                refine Under.block ?_
                obtain ⟨r656, h657, h625⟩ := bsome h625
                refine Under.loop (S := Int) (C := Unit) () (fun (x670 : Int) (q671 : Unit) => [(2, .ptr kApi_Window a0), (3, .ptr kApi_Window a1), (5, .raw (.int .i64 x676)), (6, .ptr kApi_Epoch x627), (7, .ptr kApi_Epoch x629), (8, .raw (.int .i64 x670))]) (fun (x670 : Int) (q671 : Unit) => L) h657 (sub_cons rfl (sub_cons rfl (sub_cons rfl (sub_cons rfl (sub_cons rfl (sub_cons rfl (sub_nil _))))))) rfl (fun x670 q671 o658 h654 d655 => ?_)
                refine Under.seq ?_
                refine Under.seq ?_
                refine Under.region ?_
                refine Under.ov (OpV.move rfl) rfl ?_
                refine Under.ov (OpV.fd fb61_1 rfl rfl) rfl ?_
                refine Under.ov (OpV.ld kt36 rfl) rfl ?_
                refine Under.ov (OpV.len Try.underlying36 rfl rdV) rfl ?_
                refine Under.ov (OpV.bin rfl rfl rfl) rfl ?_
                refine Under.nil ?_
                refine Under.tN ?_
                refine Under.ite h654 rfl (fun h654 => ?_) (fun h654 => ?_)
                · refine Under.code_skip ?_
                  refine Under.tN ?_
                  refine Under.seq ?_
                  refine Under.block ?_
                  refine Under.seq ?_
                  refine Under.draw rfl (by kernel_rfl) fun F hF0 => ?_
                  refine UnderQ.ov (OpV.fd fb61_1 rfl rfl) rfl ?_
                  refine UnderQ.ov (OpV.ld kt36 rfl) rfl ?_
                  refine UnderQ.ov (OpV.move rfl) rfl ?_
                  obtain ⟨x659, h660, h654⟩ := bsome h654
                  refine UnderQ.ov (OpV.ixS h660 Try.underlying36 sz43 rfl rdV rfl) rfl ?_
                  refine UnderQ.ov (OpV.ld kt43 rfl) rfl ?_
                  refine UnderQ.ov (OpV.fd fb61_1 rfl rfl) rfl ?_
                  refine UnderQ.ov (OpV.ld kt36 rfl) rfl ?_
                  refine UnderQ.ov (OpV.move rfl) rfl ?_
                  obtain ⟨x661, h662, h654⟩ := bsome h654
                  refine UnderQ.ov (OpV.ixS h662 Try.underlying36 sz43 rfl rdV rfl) rfl ?_
                  refine UnderQ.ov (OpV.ld kt43 rfl) rfl ?_
                  refine UnderQ.ov (OpV.neK eqk43 eqg43 rfl rfl rfl rdV rfl rdV) rfl ?_
                  refine UnderQ.nil hF0 ?_
                  refine Under.tN ?_
                  refine Under.ite h654 rfl (fun h654 => ?_) (fun h654 => ?_)
                  · refine Under.seq ?_
                    refine Under.region ?_
                    refine Under.ov (OpV.asg rfl) rfl ?_
                    refine Under.nil ?_
                    refine Under.tN ?_
                    refine Under.retc ?_
                    refine Under.bR ?_
                    refine Under.tR ?_
                    have e663 := done_eq h654 d655
                    subst e663
                    refine Under.tR ?_
                    refine Under.bR ?_
                    refine Under.bR ?_
                    refine Under.tR ?_
                    have e664 := Option.some.inj h625
                    subst e664
                    have e665 := done_eq h583 d584
                    subst e665
                    refine Under.tR ?_
                    refine Under.bR ?_
                    refine Under.tR ?_
                    have e666 := Option.some.inj h338
                    subst e666
                    have e667 := Option.some.inj hF
                    subst e667
                    exact Under.rets Try.results24 (.tm rfl .nil) rfl rfl
                  · refine Under.code_skip ?_
                    refine Under.bN ?_
                    refine Under.tN ?_
                    refine Under.region ?_
                    refine Under.ov (OpV.move rfl) rfl ?_
                    refine Under.ov (OpV.bin rfl rfl rfl) rfl ?_
                    refine Under.ov (OpV.asg rfl) rfl ?_
                    refine Under.nil ?_
                    exact Under.next _ () h654 (sub_cons rfl (sub_cons rfl (sub_cons rfl (sub_cons rfl (sub_cons rfl (sub_cons rfl (sub_nil _))))))) rfl
                · refine Under.exit ?_
                  refine Under.tE ?_
                  have e668 := done_eq h654 d655
                  subst e668
                  refine Under.tE ?_
                  refine Under.bH ?_
                  refine Under.bN ?_
                  refine Under.tN ?_
                  exact Under.weak (k626 () (Option.some.inj h625).symm) (sub_cons rfl (sub_cons rfl (sub_cons rfl (sub_nil _))))
            · refine Under.byc (t := 45) rfl (fun c633 => ?_) (fun c633 => ?_)
              · refine Under.skc c633 rfl rfl rfl ?_
                refine Under.skc c633 rfl rfl rfl ?_
                refine Under.skc c633 rfl rfl rfl ?_
                refine Under.skc c633 rfl rfl rfl ?_
                refine Under.skc c633 rfl rfl rfl ?_
                refine Under.skc c633 rfl rfl rfl ?_
                refine Under.skc c633 rfl rfl rfl ?_
                refine Under.ov (OpV.pick rfl (fun e => rfl) (fun e => absurd (e.symm.trans c633) (by decide))) rfl ?_
                exact Under.rfin 7 (or_t (e := (x627.Tags.length : Int) != (x629.Tags.length : Int)) c633) rfl k
              · refine Under.goc c633 rfl rfl ?_
                refine Under.ov (OpV.fd fb61_1 rfl rfl) rfl ?_
                refine Under.goc c633 rfl rfl ?_
                refine Under.ov (OpV.ld kt36 rfl) rfl ?_
                refine Under.goc c633 rfl rfl ?_
                refine Under.ov (OpV.len Try.underlying36 rfl rdV) rfl ?_
                refine Under.goc c633 rfl rfl ?_
                refine Under.ov (OpV.fd fb61_1 rfl rfl) rfl ?_
                refine Under.goc c633 rfl rfl ?_
                refine Under.ov (OpV.ld kt36 rfl) rfl ?_
                refine Under.goc c633 rfl rfl ?_
                refine Under.ov (OpV.len Try.underlying36 rfl rdV) rfl ?_
                refine Under.goc c633 rfl rfl ?_
                refine Under.ov (OpV.bin rfl rfl rfl) rfl ?_
                refine Under.ov (OpV.pick rfl (fun e => absurd (e.symm.trans c633) (by decide)) (fun e => rfl)) rfl ?_
                exact Under.rfin 7 (or_f c633) rfl k
        · refine Under.exit ?_
          refine Under.tE ?_
          have e674 := done_eq h583 d584
          subst e674
          refine Under.tE ?_
          refine Under.bH ?_
          refine Under.tN ?_
          exact Under.weak (k339 () (Option.some.inj h338).symm) (sub_nil _)
  · refine Under.byc (t := 14) rfl (fun c1 => ?_) (fun c1 => ?_)
    · refine Under.skc c1 rfl rfl rfl ?_
      refine Under.skc c1 rfl rfl rfl ?_
      refine Under.skc c1 rfl rfl rfl ?_
      refine Under.skc c1 rfl rfl rfl ?_
      refine Under.skc c1 rfl rfl rfl ?_
      refine Under.skc c1 rfl rfl rfl ?_
      refine Under.skc c1 rfl rfl rfl ?_
      refine Under.ov (OpV.pick rfl (fun e => rfl) (fun e => absurd (e.symm.trans c1) (by decide))) rfl ?_
      exact Under.rfin 7 (or_t (e := (a0.Epochs.length : Int) != (a1.Epochs.length : Int)) c1) rfl k
    · refine Under.goc c1 rfl rfl ?_
      refine Under.ov (OpV.fd fb27_1 rfl rfl) rfl ?_
      refine Under.goc c1 rfl rfl ?_
      refine Under.ov (OpV.ld kt25 rfl) rfl ?_
      refine Under.goc c1 rfl rfl ?_
      refine Under.ov (OpV.len Try.underlying25 rfl rdV) rfl ?_
      refine Under.goc c1 rfl rfl ?_
      refine Under.ov (OpV.fd fb27_1 rfl rfl) rfl ?_
      refine Under.goc c1 rfl rfl ?_
      refine Under.ov (OpV.ld kt25 rfl) rfl ?_
      refine Under.goc c1 rfl rfl ?_
      refine Under.ov (OpV.len Try.underlying25 rfl rdV) rfl ?_
      refine Under.goc c1 rfl rfl ?_
      refine Under.ov (OpV.bin rfl rfl rfl) rfl ?_
      refine Under.ov (OpV.pick rfl (fun e => absurd (e.symm.trans c1) (by decide)) (fun e => rfl)) rfl ?_
      exact Under.rfin 7 (or_f c1) rfl k
/-- churn/churnlaw16.WindowOpens -/
noncomputable def f_churnlaw16_WindowOpens (a0 : Api_Window) (a1 : Int) (a2 : Int) : Option Bool :=
  (f_churnlaw16_alive).bind fun y1 =>
  bif !y1 then
    some false
  else
    (f_churnref16_Open a0 a1 a2).bind fun y4 =>
    (f_window_Open a0 a1 a2).bind fun y7 =>
    ((bif y7.2 == y4.2 then
      (f_churnlaw16_same y7.1 y4.1).bind fun y13 =>
      some y13
    else
      some false
      : Option Bool)).bind fun x12 =>
    some x12
theorem f_churnlaw16_WindowOpens_ok {a0 : Api_Window} {a1 : Int} {a2 : Int} {r0 : Bool} (hF : f_churnlaw16_WindowOpens a0 a1 a2 = some r0) (L : List Res) : Ok Try.prog 6 [SV.val kApi_Window a0, SV.raw (.int .i64 a1), SV.raw (.int .i64 a2)] (L) (SV.raw (.bool r0)) (L) := by
  unfold f_churnlaw16_WindowOpens at hF
  refine Ok.intro 35 [(0, .val kApi_Window a0), (1, .raw (.int .i64 a1)), (2, .raw (.int .i64 a2))] Try.func6 rfl rfl rfl rfl (fun F0 => ?_)
  refine Under.seq ?_
  refine Under.region ?_
  refine Under.bxF (K := kApi_Window) rfl rdV rfl ?_
  refine Under.ov (OpV.asg rfl) rfl ?_
  refine Under.nil ?_
  refine Under.tN ?_
  refine Under.seq ?_
  refine Under.seq ?_
  refine Under.region ?_
  obtain ⟨y1, h2, hF⟩ := bsome hF
  refine Under.call Try.call15 rfl rfl (f_churnlaw16_alive_ok h2 _) rfl ?_
  refine Under.ov (OpV.not rfl) rfl ?_
  refine Under.nil ?_
  refine Under.tN ?_
  refine Under.ite hF rfl (fun hF => ?_) (fun hF => ?_)
  · refine Under.seq ?_
    refine Under.region ?_
    refine Under.ov (OpV.asg rfl) rfl ?_
    refine Under.nil ?_
    refine Under.tN ?_
    refine Under.retc ?_
    refine Under.tR ?_
    have e3 := Option.some.inj hF
    subst e3
    exact Under.rets Try.results6 (.tm rfl .nil) rfl rfl
  · refine Under.code_skip ?_
    refine Under.tN ?_
    refine Under.seq ?_
    refine Under.region ?_
    refine Under.ov (OpV.ld kt27 rfl) rfl ?_
    refine Under.ov (OpV.move rfl) rfl ?_
    refine Under.ov (OpV.move rfl) rfl ?_
    obtain ⟨y4, h5, hF⟩ := bsome hF
    refine Under.call Try.call22 rfl rfl (f_churnref16_Open_ok h5 _) rfl ?_
    refine Under.ov (OpV.move rfl) rfl ?_
    refine Under.ov (OpV.extr rfl rfl) rfl ?_
    refine Under.ov (OpV.extr rfl rfl) rfl ?_
    refine Under.al ZT27 rfl fun b6 => ?_
    refine Under.stP (x' := y4.1) .box .id sz27_kApi_Window rfl rfl rdV rfl ?_
    refine Under.ov (OpV.asg rfl) rfl ?_
    refine Under.nil ?_
    refine Under.frz (t := 7) rfl ?_
    refine Under.tN ?_
    refine Under.seq ?_
    refine Under.region ?_
    refine Under.ov (OpV.ld kt27 rfl) rfl ?_
    refine Under.ov (OpV.move rfl) rfl ?_
    refine Under.ov (OpV.move rfl) rfl ?_
    obtain ⟨y7, h8, hF⟩ := bsome hF
    refine Under.call Try.call23 rfl rfl (f_window_Open_ok h8 _) rfl ?_
    refine Under.ov (OpV.move rfl) rfl ?_
    refine Under.ov (OpV.extr rfl rfl) rfl ?_
    refine Under.ov (OpV.extr rfl rfl) rfl ?_
    refine Under.al ZT27 rfl fun b9 => ?_
    refine Under.stP (x' := y7.1) .box .id sz27_kApi_Window rfl rfl rdV rfl ?_
    refine Under.ov (OpV.asg rfl) rfl ?_
    refine Under.nil ?_
    refine Under.frz (t := 9) rfl ?_
    refine Under.tN ?_
    refine Under.seq ?_
    refine Under.region ?_
    refine Under.ov (OpV.move rfl) rfl ?_
    refine Under.ov (OpV.move rfl) rfl ?_
    refine Under.ov (OpV.bin rfl rfl rfl) rfl ?_
    refine Under.ov (OpV.move rfl) rfl ?_
    obtain ⟨x12, h11, hF⟩ := bsome hF
    refine runj_4 34 x12 ?_ (fun k => ?_)
    · refine Under.ov (OpV.asg rfl) rfl ?_
      refine Under.nil ?_
      refine Under.tN ?_
      refine Under.retc ?_
      have e15 := Option.some.inj hF
      subst e15
      exact Under.rets Try.results6 (.tm rfl .nil) rfl rfl
    · refine Under.byc (t := 30) rfl (fun c10 => ?_) (fun c10 => ?_)
      · replace h11 := ctrue c10 h11
        refine Under.goc c10 rfl rfl ?_
        refine Under.ov (OpV.ld kt27 rfl) rfl ?_
        refine Under.goc c10 rfl rfl ?_
        refine Under.ov (OpV.ld kt27 rfl) rfl ?_
        obtain ⟨y13, h14, h11⟩ := bsome h11
        refine Under.goc c10 rfl rfl ?_
        refine Under.call Try.call24 rfl rfl (f_churnlaw16_same_ok h14 _) rfl ?_
        refine Under.ov (OpV.pick rfl (fun e => rfl) (fun e => absurd (e.symm.trans c10) (by decide))) rfl ?_
        exact Under.rfin 3 (congrArg (fun b => SV.raw (.bool b)) (Option.some.inj h11)) rfl k
      · replace h11 := cfalse c10 h11
        refine Under.skc c10 rfl rfl rfl ?_
        refine Under.skc c10 rfl rfl rfl ?_
        refine Under.skc c10 rfl rfl rfl ?_
        refine Under.ov (OpV.pick rfl (fun e => absurd (e.symm.trans c10) (by decide)) (fun e => rfl)) rfl ?_
        exact Under.rfin 3 (congrArg (fun b => SV.raw (.bool b)) (Option.some.inj h11)) rfl k
/-- churn/churnref16.Add -/
noncomputable def f_churnref16_Add (a0 : Api_Window) (a1 : Int) (a2 : List (List Int)) (a3 : Int) : Option (Api_Window × Int) :=
  ((bif (decide (a3 < 0)) || (decide (a3 > 4096)) then
    some true
  else
    (f_churnref16_Check a0 8 4096).bind fun y9 =>
    some (y9 != 0)
    : Option Bool)).bind fun x8 =>
  bif x8 then
    some ((⟨0, []⟩ : Api_Window), 2)
  else
    bif ((decide (a1 < 0)) || (decide (a1 > a0.Newest))) || (decide (a1 ≤ (IntKind.wrap .i64 (a0.Newest - 8)))) then
      some ((⟨0, []⟩ : Api_Window), 161)
    else
      (f_churnref16_all a0).bind fun y19 =>
      (f_churnref16_sorted 64 y19).bind fun y21 =>
      (f_churnref16_sorted 64 a2).bind fun y23 =>
      (((Loop.run (S := ((List (List Int)) × Int × Int)) (R := (List (List Int))) (fun (x2044, x2045, x2046) =>
          bif decide (x2046 < (y23.length : Int)) then
            (((((Loop.run (S := Int) (R := Int) (fun x2491 =>
                ((bif decide (x2491 < (y21.length : Int)) then
                  (idx y21 x2491).bind fun x2510 =>
                  (idx y23 x2046).bind fun x2512 =>
                  (f_churnref16_less x2510 x2512).bind fun y2514 =>
                  some y2514
                else
                  some false
                  : Option Bool)).bind fun x2509 =>
                bif x2509 then
                  some (.next (IntKind.wrap .i64 (x2491 + 1)))
                else
                  some (.done x2491)) x2045).bind fun x2501 =>
            some x2501
              : Option Int)).bind fun x2454 =>
            ((bif x2454 == (y21.length : Int) then
              some true
            else
              (idx y21 x2454).bind fun x2461 =>
              (idx y23 x2046).bind fun x2463 =>
              some (x2461 != x2463)
              : Option Bool)).bind fun x2460 =>
            bif x2460 then
              (idx y23 x2046).bind fun x2465 =>
              (app x2044 [x2465]).bind fun z2467 =>
              some (z2467, x2454)
            else
              some (x2044, x2454)
              : Option ((List (List Int)) × Int))).bind fun r2404 => match r2404 with
              | (x2402, x2403) =>
                some (.next (x2402, x2403, IntKind.wrap .i64 (x2046 + 1)))
          else
            some (.done x2044)) ([], 0, 0)).bind fun x2282 =>
      some x2282
        : Option (List (List Int)))).bind fun x982 =>
      bif decide ((IntKind.wrap .i64 ((y21.length : Int) + (x982.length : Int))) > a3) then
        some ((⟨0, []⟩ : Api_Window), 160)
      else
        (((Loop.run (S := (Bool × Int × (List Api_Epoch))) (R := Api_Window) (fun (x1417, x1418, x1420) =>
            bif decide (x1418 ≤ (a0.Epochs.length : Int)) then
              ((((bif !x1417 then
                ((bif x1418 == (a0.Epochs.length : Int) then
                  some true
                else
                  (idx a0.Epochs x1418).bind fun x1554 =>
                  some (decide (x1554.Number > a1))
                  : Option Bool)).bind fun x1553 =>
                some x1553
              else
                some false
                : Option Bool)).bind fun x1550 =>
              bif x1550 then
                (app x1420 [(⟨a1, x982⟩ : Api_Epoch)]).bind fun z1556 =>
                some (true, z1556)
              else
                some (x1417, x1420)
                : Option (Bool × (List Api_Epoch)))).bind fun r1509 => match r1509 with
                | (x1506, x1508) =>
                  bif x1418 == (a0.Epochs.length : Int) then
                    some (.done (⟨a0.Newest, x1508⟩ : Api_Window))
                  else
                    (idx a0.Epochs x1418).bind fun x1514 =>
                    (app [] x1514.Tags).bind fun z1517 =>
                    ((bif (x1514.Number == a1) && (!x1506) then
                      (app z1517 x982).bind fun z1540 =>
                      (f_churnref16_sorted 64 z1540).bind fun y1543 =>
                      some (true, y1543)
                    else
                      some (x1506, z1517)
                      : Option (Bool × (List (List Int))))).bind fun r1530 => match r1530 with
                      | (x1528, x1529) =>
                        (app x1508 [(⟨x1514.Number, x1529⟩ : Api_Epoch)]).bind fun z1533 =>
                        some (.next (x1528, IntKind.wrap .i64 (x1418 + 1), z1533))
            else
              some (.done (⟨a0.Newest, x1420⟩ : Api_Window))) ((x982.length : Int) == 0, 0, [])).bind fun x1488 =>
        some x1488
          : Option Api_Window)).bind fun x1274 =>
        some (x1274, 0)
theorem f_churnref16_Add_ok {a0 : Api_Window} {a1 : Int} {a2 : List (List Int)} {a3 : Int} {r0 : (Api_Window × Int)} (hF : f_churnref16_Add a0 a1 a2 a3 = some r0) (L : List Res) : Ok Try.prog 25 [SV.val kApi_Window a0, SV.raw (.int .i64 a1), SV.val (kSl (kArr 16 (kInt .u8))) a2, SV.raw (.int .i64 a3)] (L) (SV.tup [SV.val kApi_Window r0.1, SV.raw (.int .i64 r0.2)]) (L) := by
  unfold f_churnref16_Add at hF
  refine Ok.intro 183 [(0, .val kApi_Window a0), (1, .raw (.int .i64 a1)), (2, .val (kSl (kArr 16 (kInt .u8))) a2), (3, .raw (.int .i64 a3))] Try.func25 rfl rfl rfl rfl (fun F0 => ?_)
  refine Under.seq ?_
  refine Under.region ?_
  refine Under.bx (K := kApi_Window) rfl rdV rfl fun b1 => ?_
  refine Under.al ZT27 rfl fun b2 => ?_
  refine Under.ov (OpV.asg rfl) rfl ?_
  refine Under.nil ?_
  refine Under.tN ?_
  refine Under.seq ?_
  refine Under.seq ?_
  refine Under.region ?_
  refine Under.ov (OpV.move rfl) rfl ?_
  refine Under.ov (OpV.bin rfl rfl rfl) rfl ?_
  refine Under.ov (OpV.move rfl) rfl ?_
  refine runj_3 25 ((decide (a3 < 0)) || (decide (a3 > 4096))) ?_ (fun k => ?_)
  · refine Under.ov (OpV.move rfl) rfl ?_
    obtain ⟨x8, h7, hF⟩ := bsome hF
    refine runj_4 30 x8 ?_ (fun k => ?_)
    · refine Under.nil ?_
      refine Under.tN ?_
      refine Under.ite hF rfl (fun hF => ?_) (fun hF => ?_)
      · refine Under.fo1 ?_
        refine Under.dropr ?_
        refine Under.seq ?_
        refine Under.region ?_
        refine Under.ov (OpV.bst BT27 (Bld.nil _)) rfl ?_
        refine Under.stP (x' := (⟨0, []⟩ : Api_Window)) .box .id sz27_kApi_Window rfl rfl rdV rfl ?_
        refine Under.ov (OpV.asg rfl) rfl ?_
        refine Under.nil ?_
        refine Under.frz (t := 8) rfl ?_
        refine Under.tN ?_
        refine Under.retc ?_
        refine Under.tR ?_
        have e11 := Option.some.inj hF
        subst e11
        exact Under.rets Try.results25 (.ce rfl kt27 (.tm rfl .nil)) rfl rfl
      · refine Under.code_skip ?_
        refine Under.tN ?_
        refine Under.seq ?_
        refine Under.seq ?_
        refine Under.region ?_
        refine Under.ov (OpV.move rfl) rfl ?_
        refine Under.ov (OpV.bin rfl rfl rfl) rfl ?_
        refine Under.ov (OpV.move rfl) rfl ?_
        refine runj_5 39 ((decide (a1 < 0)) || (decide (a1 > a0.Newest))) ?_ (fun k => ?_)
        · refine Under.ov (OpV.move rfl) rfl ?_
          refine runj_6 46 (((decide (a1 < 0)) || (decide (a1 > a0.Newest))) || (decide (a1 ≤ (IntKind.wrap .i64 (a0.Newest - 8))))) ?_ (fun k => ?_)
          · refine Under.nil ?_
            refine Under.tN ?_
            refine Under.ite hF rfl (fun hF => ?_) (fun hF => ?_)
            · refine Under.fo1 ?_
              refine Under.dropr ?_
              refine Under.seq ?_
              refine Under.region ?_
              refine Under.ov (OpV.bst BT27 (Bld.nil _)) rfl ?_
              refine Under.stP (x' := (⟨0, []⟩ : Api_Window)) .box .id sz27_kApi_Window rfl rfl rdV rfl ?_
              refine Under.ov (OpV.asg rfl) rfl ?_
              refine Under.nil ?_
              refine Under.frz (t := 8) rfl ?_
              refine Under.tN ?_
              refine Under.retc ?_
              refine Under.tR ?_
              have e18 := Option.some.inj hF
              subst e18
              exact Under.rets Try.results25 (.ce rfl kt27 (.tm rfl .nil)) rfl rfl
            · refine Under.code_skip ?_
              refine Under.tN ?_
              refine Under.seq ?_
              refine Under.region ?_
              refine Under.fo1 ?_
              refine Under.ldP .box .id kt27_kApi_Window rfl rfl ?_
              obtain ⟨y19, h20, hF⟩ := bsome hF
              refine Under.call Try.call41 rfl rfl (f_churnref16_all_ok h20 _) rfl ?_
              obtain ⟨y21, h22, hF⟩ := bsome hF
              refine Under.call Try.call40 rfl rfl (f_churnref16_sorted_ok h22 _) rfl ?_
              refine Under.ov (OpV.asg rfl) rfl ?_
              refine Under.nil ?_
              refine Under.tN ?_
              refine Under.seq ?_
              refine Under.region ?_
              refine Under.ov (OpV.move rfl) rfl ?_
              obtain ⟨y23, h24, hF⟩ := bsome hF
              refine Under.call Try.call40 rfl rfl (f_churnref16_sorted_ok h24 _) rfl ?_
              refine Under.ov (OpV.asg rfl) rfl ?_
              refine Under.nil ?_
              refine Under.tN ?_
              refine Under.seq ?_
              refine Under.region ?_
              refine Under.ov (OpV.asg rfl) rfl ?_
              refine Under.nil ?_
              refine Under.tN ?_
              refine Under.seq ?_
              refine Under.region ?_
              refine Under.ov (OpV.asg rfl) rfl ?_
              refine Under.nil ?_
              refine Under.tN ?_
              obtain ⟨r983, h984, hF⟩ := bsome hF
              refine Under.seq ?_
              refine Under.after (fun X => ∀ (x982 : List (List Int)), r983 = x982 → Under F0 183 [(1, .raw (.int .i64 a1)), (3, .raw (.int .i64 a3)), (4, .raw (.pointer (some ⟨b1, 0, none⟩))), (8, .raw (.pointer (some ⟨b2, 0, none⟩))), (10, .val (kSl (kArr 16 (kInt .u8))) y21), (12, .val (kSl (kArr 16 (kInt .u8))) x982)] ((.box kApi_Window b1 27 a0) :: (.box kApi_Window b2 27 (⟨0, []⟩ : Api_Window)) :: L) X) ?_ ?_
              · intro x982 h2528
                replace h2528 := h2528.symm
                subst h2528
                refine Under.seq ?_
                refine Under.seq ?_
                refine Under.region ?_
                refine Under.ov (OpV.move rfl) rfl ?_
                refine Under.ov (OpV.len Try.underlying36 rfl rdV) rfl ?_
                refine Under.ov (OpV.move rfl) rfl ?_
                refine Under.ov (OpV.len Try.underlying36 rfl rdV) rfl ?_
                refine Under.ov (OpV.bin rfl rfl rfl) rfl ?_
                refine Under.ov (OpV.move rfl) rfl ?_
                refine Under.ov (OpV.bin rfl rfl rfl) rfl ?_
                refine Under.nil ?_
                refine Under.tN ?_
                refine Under.ite hF rfl (fun hF => ?_) (fun hF => ?_)
                · refine Under.dropr ?_
                  refine Under.seq ?_
                  refine Under.region ?_
                  refine Under.ov (OpV.bst BT27 (Bld.nil _)) rfl ?_
                  refine Under.stP (x' := (⟨0, []⟩ : Api_Window)) .box .id sz27_kApi_Window rfl rfl rdV rfl ?_
                  refine Under.ov (OpV.asg rfl) rfl ?_
                  refine Under.nil ?_
                  refine Under.frz (t := 8) rfl ?_
                  refine Under.tN ?_
                  refine Under.retc ?_
                  refine Under.tR ?_
                  have e986 := Option.some.inj hF
                  subst e986
                  exact Under.rets Try.results25 (.ce rfl kt27 (.tm rfl .nil)) rfl rfl
                · refine Under.code_skip ?_
                  refine Under.tN ?_
                  refine Under.seq ?_
                  refine Under.region ?_
                  refine Under.ov (OpV.fdM fm27_0 rfl) rfl ?_
                  refine Under.ldP .box (.fld .id uf_Api_Window_0) kt2_kInt_i64 rfl rfl ?_
                  refine Under.rawI (t := 107) rfl ?_
                  refine Under.ov (OpV.bst BT27_Api_Window_r1 (Bld.cons (x' := (⟨a0.Newest, .slice none 0 0⟩ : Api_Window_r1)) rfl rfl rdI (by intro q hq; simp only [List.mem_cons, List.not_mem_nil, or_false] at hq; rcases hq with rfl <;> rfl) (Bld.nil _))) rfl ?_
                  refine Under.al ZT27_Api_Window_r1 rfl fun b987 => ?_
                  refine Under.stP (x' := (⟨a0.Newest, .slice none 0 0⟩ : Api_Window_r1)) .box .id sz27_kApi_Window_r1 rfl rfl rdV rfl ?_
                  refine Under.nil ?_
                  refine Under.fo1 ?_
                  refine Under.frz (t := 4) rfl ?_
                  refine Under.tN ?_
                  refine Under.seq ?_
                  refine Under.region ?_
                  refine Under.ov (OpV.move rfl) rfl ?_
                  refine Under.ov (OpV.len Try.underlying36 rfl rdV) rfl ?_
                  refine Under.ov (OpV.bin rfl rfl rfl) rfl ?_
                  refine Under.ov (OpV.asg rfl) rfl ?_
                  refine Under.nil ?_
                  refine Under.tN ?_
                  obtain ⟨r1275, h1276, hF⟩ := bsome hF
                  refine Under.seq ?_
                  refine Under.after (fun X => ∀ (x1274 : Api_Window), r1275 = x1274 → Under F0 183 [(8, .raw (.pointer (some ⟨b2, 0, none⟩))), (15, .ptr kApi_Window x1274)] ((.box kApi_Window b2 27 (⟨0, []⟩ : Api_Window)) :: L) X) ?_ ?_
                  · intro x1274 h1568
                    replace h1568 := h1568.symm
                    subst h1568
                    refine Under.seq ?_
                    refine Under.region ?_
                    refine Under.ov (OpV.ld kt27 rfl) rfl ?_
                    refine Under.stP (x' := x1274) .box .id sz27_kApi_Window rfl rfl rdV rfl ?_
                    refine Under.ov (OpV.asg rfl) rfl ?_
                    refine Under.nil ?_
                    refine Under.frz (t := 8) rfl ?_
                    refine Under.tN ?_
                    refine Under.retc ?_
                    have e1278 := Option.some.inj hF
                    subst e1278
                    exact Under.rets Try.results25 (.ce rfl kt27 (.tm rfl .nil)) rfl rfl
                  · intro K k1277
                    refine Under.seq ?_
                    refine Under.region ?_
                    refine Under.ov (OpV.asg rfl) rfl ?_
                    refine Under.nil ?_
                    refine Under.tN ?_
                    refine Under.block ?_
                    obtain ⟨r1491, h1492, h1276⟩ := bsome h1276
                    refine Under.ownNil (K := kApi_Epoch) (e := 61) ?_
                    refine Under.fo1 ?_
                    refine Under.fo1 ?_
                    refine Under.fo2 ?_
                    refine Under.loop (S := (Bool × Int × (List Api_Epoch))) (C := Value) (.slice none 0 0) (fun (x1565 : (Bool × Int × (List Api_Epoch))) (q1566 : Value) => [(1, .raw (.int .i64 a1)), (4, .ptr kApi_Window a0), (8, .raw (.pointer (some ⟨b2, 0, none⟩))), (12, .val (kSl (kArr 16 (kInt .u8))) x982), (15, .raw (.pointer (some ⟨b987, 0, none⟩))), (16, .raw (.bool x1565.1)), (17, .raw (.int .i64 x1565.2.1))]) (fun (x1565 : (Bool × Int × (List Api_Epoch))) (q1566 : Value) => (.box kApi_Window b2 27 (⟨0, []⟩ : Api_Window)) :: (.own kApi_Epoch q1566 61 x1565.2.2) :: (.box kApi_Window_r1 b987 27 (⟨a0.Newest, q1566⟩ : Api_Window_r1)) :: L) h1492 (sub_cons rfl (sub_cons rfl (sub_cons rfl (sub_cons rfl (sub_cons rfl (sub_cons rfl (sub_cons rfl (sub_nil _)))))))) rfl (fun x1565 q1566 o1493 h1489 d1490 => ?_)
                    obtain ⟨x1417, x1418, x1420⟩ := x1565
                    dsimp only at h1489 ⊢
                    refine Under.seq ?_
                    refine Under.seq ?_
                    refine Under.region ?_
                    refine Under.ov (OpV.move rfl) rfl ?_
                    refine Under.ov (OpV.fd fb27_1 rfl rfl) rfl ?_
                    refine Under.ov (OpV.ld kt25 rfl) rfl ?_
                    refine Under.ov (OpV.len Try.underlying25 rfl rdV) rfl ?_
                    refine Under.ov (OpV.bin rfl rfl rfl) rfl ?_
                    refine Under.nil ?_
                    refine Under.tN ?_
                    refine Under.ite h1489 rfl (fun h1489 => ?_) (fun h1489 => ?_)
                    · refine Under.code_skip ?_
                      refine Under.tN ?_
                      refine Under.seq ?_
                      refine Under.block ?_
                      obtain ⟨r1509, h1510, h1489⟩ := bsome h1489
                      refine Under.seq ?_
                      refine Under.after (fun X => ∀ (x1506 : Bool) (x1508 : List Api_Epoch) (v1507 : Value), r1509 = (x1506, x1508) → Under F0 183 [(1, .raw (.int .i64 a1)), (4, .ptr kApi_Window a0), (8, .raw (.pointer (some ⟨b2, 0, none⟩))), (12, .val (kSl (kArr 16 (kInt .u8))) x982), (15, .raw (.pointer (some ⟨b987, 0, none⟩))), (16, .raw (.bool x1506)), (17, .raw (.int .i64 x1418))] ((.box kApi_Window b2 27 (⟨0, []⟩ : Api_Window)) :: (.own kApi_Epoch v1507 61 x1508) :: (.box kApi_Window_r1 b987 27 (⟨a0.Newest, v1507⟩ : Api_Window_r1)) :: L) X) ?_ ?_
                      · intro x1506 x1508 v1507 h1562
                        replace h1562 := h1562.symm
                        subst h1562
                        refine Under.seq ?_
                        refine Under.seq ?_
                        refine Under.region ?_
                        refine Under.ov (OpV.move rfl) rfl ?_
                        refine Under.ov (OpV.fd fb27_1 rfl rfl) rfl ?_
                        refine Under.ov (OpV.ld kt25 rfl) rfl ?_
                        refine Under.ov (OpV.len Try.underlying25 rfl rdV) rfl ?_
                        refine Under.ov (OpV.bin rfl rfl rfl) rfl ?_
                        refine Under.nil ?_
                        refine Under.tN ?_
                        refine Under.ite h1489 rfl (fun h1489 => ?_) (fun h1489 => ?_)
                        · refine Under.fo2 ?_
                          refine Under.fo2 ?_
                          refine Under.frzBO (fs := kApi_WindowF) (⟨a0.Newest, x1508⟩ : Api_Window) (fun F hv => ⟨fun _ h => h, cv_raw hv, trivial⟩) ?_
                          refine Under.frz (t := 15) rfl ?_
                          refine Under.exit ?_
                          refine Under.tE ?_
                          refine Under.bM rfl ?_
                          refine Under.tE ?_
                          have e1512 := done_eq h1489 d1490
                          subst e1512
                          refine Under.tE ?_
                          refine Under.bH ?_
                          refine Under.tN ?_
                          exact Under.weak (k1277 _ (Option.some.inj h1276).symm) (sub_cons rfl (sub_cons rfl (sub_nil _)))
                        · refine Under.code_skip ?_
                          refine Under.tN ?_
                          refine Under.seq ?_
                          refine Under.region ?_
                          refine Under.ov (OpV.fd fb27_1 rfl rfl) rfl ?_
                          refine Under.ov (OpV.ld kt25 rfl) rfl ?_
                          refine Under.ov (OpV.move rfl) rfl ?_
                          obtain ⟨x1514, h1515, h1489⟩ := bsome h1489
                          refine Under.ov (OpV.ixS h1515 Try.underlying25 sz61 rfl rdV rfl) rfl ?_
                          refine Under.ov (OpV.ld kt61 rfl) rfl ?_
                          refine Under.al ZT61 rfl fun b1516 => ?_
                          refine Under.stP (x' := x1514) .box .id sz61_kApi_Epoch rfl rfl rdV rfl ?_
                          refine Under.nil ?_
                          refine Under.frz (t := 18) rfl ?_
                          refine Under.tN ?_
                          refine Under.seq ?_
                          refine Under.region ?_
                          refine Under.ov (OpV.asg rfl) rfl ?_
                          refine Under.nil ?_
                          refine Under.tN ?_
                          refine Under.seq ?_
                          refine Under.region ?_
                          refine Under.ov (OpV.move rfl) rfl ?_
                          refine Under.ov (OpV.fd fb61_1 rfl rfl) rfl ?_
                          refine Under.ov (OpV.ld kt36 rfl) rfl ?_
                          obtain ⟨z1517, h1518, h1489⟩ := bsome h1489
                          refine Under.ownNil (K := kArr 16 (kInt .u8)) (e := 43) ?_
                          refine Under.app h1518 Try.underlying36 AT43 rfl rfl rdV rfl fun v1519 => ?_
                          refine Under.ov (OpV.asg rfl) rfl ?_
                          refine Under.nil ?_
                          refine Under.tN ?_
                          obtain ⟨r1530, h1531, h1489⟩ := bsome h1489
                          refine Under.seq ?_
                          refine Under.after (fun X => ∀ (x1528 : Bool) (x1529 : List (List Int)), r1530 = (x1528, x1529) → Under F0 183 [(1, .raw (.int .i64 a1)), (4, .ptr kApi_Window a0), (8, .raw (.pointer (some ⟨b2, 0, none⟩))), (12, .val (kSl (kArr 16 (kInt .u8))) x982), (15, .raw (.pointer (some ⟨b987, 0, none⟩))), (16, .raw (.bool x1528)), (17, .raw (.int .i64 x1418)), (18, .ptr kApi_Epoch x1514), (19, .val (kSl (kArr 16 (kInt .u8))) x1529)] ((.box kApi_Window b2 27 (⟨0, []⟩ : Api_Window)) :: (.own kApi_Epoch v1507 61 x1508) :: (.box kApi_Window_r1 b987 27 (⟨a0.Newest, v1507⟩ : Api_Window_r1)) :: L) X) ?_ ?_
                          · intro x1528 x1529 h1547
                            replace h1547 := h1547.symm
                            subst h1547
                            refine Under.region ?_
                            refine Under.ov (OpV.fdM fm27_1 rfl) rfl ?_
                            refine Under.fo2 ?_
                            refine Under.ldP .box (.fld .id uf_Api_Window_r1_1) kt25_kRaw rfl rfl ?_
                            refine Under.rawR (t := 174) rfl ?_
                            refine Under.ov (OpV.fd fb61_0 rfl rfl) rfl ?_
                            refine Under.ov (OpV.ldI kt2 rfl) rfl ?_
                            refine Under.ov (OpV.move rfl) rfl ?_
                            refine Under.ov (OpV.bst BT61 (Bld.cons (x' := (⟨x1514.Number, []⟩ : Api_Epoch)) rfl rfl rdI (by intro q hq; simp only [List.mem_cons, List.not_mem_nil, or_false] at hq; rcases hq with rfl <;> rfl) (Bld.cons (x' := (⟨x1514.Number, x1529⟩ : Api_Epoch)) rfl rfl rdV ⟨rfl, (fun q hq => by simp at hq)⟩ (Bld.nil _)))) rfl ?_
                            refine Under.bsF (ys := [(⟨x1514.Number, x1529⟩ : Api_Epoch)]) Try.underlying25 ET61 (BldA.cons rfl rfl rdV (BldA.nil _)) rfl rfl ?_
                            obtain ⟨z1533, h1534, h1489⟩ := bsome h1489
                            refine Under.fo2 ?_
                            refine Under.app h1534 Try.underlying25 AT61 rfl rfl rdV rfl fun v1535 => ?_
                            refine Under.ov (OpV.fdM fm27_1 rfl) rfl ?_
                            refine Under.ownCell fun h1536 => ?_
                            refine Under.fo1 ?_
                            refine Under.stP (x' := (⟨a0.Newest, v1535⟩ : Api_Window_r1)) .box (.fld .id uf_Api_Window_r1_1) sz25_kRaw rfl rfl (rdRaw h1536) rfl ?_
                            refine Under.nil ?_
                            refine Under.bN ?_
                            refine Under.tN ?_
                            refine Under.region ?_
                            refine Under.ov (OpV.move rfl) rfl ?_
                            refine Under.ov (OpV.bin rfl rfl rfl) rfl ?_
                            refine Under.ov (OpV.asg rfl) rfl ?_
                            refine Under.nil ?_
                            refine Under.fo1 ?_
                            refine Under.fo2 ?_
                            exact Under.next _ v1535 h1489 (sub_cons rfl (sub_cons rfl (sub_cons rfl (sub_cons rfl (sub_cons rfl (sub_cons rfl (sub_cons rfl (sub_nil _)))))))) rfl
                          · intro K k1532
                            refine Under.seq ?_
                            refine Under.region ?_
                            refine Under.ov (OpV.fd fb61_0 rfl rfl) rfl ?_
                            refine Under.ov (OpV.ldI kt2 rfl) rfl ?_
                            refine Under.ov (OpV.move rfl) rfl ?_
                            refine Under.ov (OpV.bin rfl rfl rfl) rfl ?_
                            refine Under.ov (OpV.move rfl) rfl ?_
                            refine runj_3 167 ((x1514.Number == a1) && (!x1506)) ?_ (fun k => ?_)
                            · refine Under.nil ?_
                              refine Under.tN ?_
                              refine Under.ite h1531 rfl (fun h1531 => ?_) (fun h1531 => ?_)
                              · refine Under.seq ?_
                                refine Under.region ?_
                                refine Under.ov (OpV.move rfl) rfl ?_
                                refine Under.ov (OpV.move rfl) rfl ?_
                                obtain ⟨z1540, h1541, h1531⟩ := bsome h1531
                                refine Under.app h1541 Try.underlying36 AT43 rfl rfl rdV rfl fun v1542 => ?_
                                refine Under.ov (OpV.asg rfl) rfl ?_
                                refine Under.nil ?_
                                refine Under.frzO (t := 19) rfl ?_
                                refine Under.tN ?_
                                refine Under.seq ?_
                                refine Under.region ?_
                                refine Under.ov (OpV.move rfl) rfl ?_
                                obtain ⟨y1543, h1544, h1531⟩ := bsome h1531
                                refine Under.call Try.call40 rfl rfl (f_churnref16_sorted_ok h1544 _) rfl ?_
                                refine Under.ov (OpV.asg rfl) rfl ?_
                                refine Under.nil ?_
                                refine Under.tN ?_
                                refine Under.region ?_
                                refine Under.ov (OpV.asg rfl) rfl ?_
                                refine Under.nil ?_
                                refine Under.tN ?_
                                refine Under.fo2 ?_
                                refine Under.fo2 ?_
                                refine Under.fo2 ?_
                                exact Under.weak (k1532 _ _ (Option.some.inj h1531).symm) (sub_cons rfl (sub_cons rfl (sub_cons rfl (sub_cons rfl (sub_cons rfl (sub_cons rfl (sub_cons rfl (sub_cons rfl (sub_cons rfl (sub_nil _))))))))))
                              · refine Under.frzO (t := 19) rfl ?_
                                refine Under.code_skip ?_
                                refine Under.tN ?_
                                refine Under.fo2 ?_
                                refine Under.fo2 ?_
                                refine Under.fo2 ?_
                                exact Under.weak (k1532 _ _ (Option.some.inj h1531).symm) (sub_cons rfl (sub_cons rfl (sub_cons rfl (sub_cons rfl (sub_cons rfl (sub_cons rfl (sub_cons rfl (sub_cons rfl (sub_cons rfl (sub_nil _))))))))))
                            · refine Under.byc (t := 164) rfl (fun c1537 => ?_) (fun c1537 => ?_)
                              · refine Under.goc c1537 rfl rfl ?_
                                refine Under.ov (OpV.move rfl) rfl ?_
                                refine Under.goc c1537 rfl rfl ?_
                                refine Under.ov (OpV.not rfl) rfl ?_
                                refine Under.ov (OpV.pick rfl (fun e => rfl) (fun e => absurd (e.symm.trans c1537) (by decide))) rfl ?_
                                exact Under.rfin 2 (and_t c1537) rfl k
                              · refine Under.skc c1537 rfl rfl rfl ?_
                                refine Under.skc c1537 rfl rfl rfl ?_
                                refine Under.ov (OpV.pick rfl (fun e => absurd (e.symm.trans c1537) (by decide)) (fun e => rfl)) rfl ?_
                                exact Under.rfin 2 (and_f (e := !x1506) c1537) rfl k
                      · intro K k1511
                        refine Under.seq ?_
                        refine Under.region ?_
                        refine Under.ov (OpV.move rfl) rfl ?_
                        refine Under.ov (OpV.not rfl) rfl ?_
                        refine Under.ov (OpV.move rfl) rfl ?_
                        obtain ⟨x1550, h1549, h1510⟩ := bsome h1510
                        refine runj_16 137 x1550 ?_ (fun k => ?_)
                        · refine Under.nil ?_
                          refine Under.tN ?_
                          refine Under.ite h1510 rfl (fun h1510 => ?_) (fun h1510 => ?_)
                          · refine Under.seq ?_
                            refine Under.region ?_
                            refine Under.ov (OpV.fdM fm27_1 rfl) rfl ?_
                            refine Under.fo2 ?_
                            refine Under.ldP .box (.fld .id uf_Api_Window_r1_1) kt25_kRaw rfl rfl ?_
                            refine Under.rawR (t := 139) rfl ?_
                            refine Under.ov (OpV.move rfl) rfl ?_
                            refine Under.ov (OpV.move rfl) rfl ?_
                            refine Under.ov (OpV.bst BT61 (Bld.cons (x' := (⟨a1, []⟩ : Api_Epoch)) rfl rfl rdI (by intro q hq; simp only [List.mem_cons, List.not_mem_nil, or_false] at hq; rcases hq with rfl <;> rfl) (Bld.cons (x' := (⟨a1, x982⟩ : Api_Epoch)) rfl rfl rdV ⟨rfl, (fun q hq => by simp at hq)⟩ (Bld.nil _)))) rfl ?_
                            refine Under.bsF (ys := [(⟨a1, x982⟩ : Api_Epoch)]) Try.underlying25 ET61 (BldA.cons rfl rfl rdV (BldA.nil _)) rfl rfl ?_
                            obtain ⟨z1556, h1557, h1510⟩ := bsome h1510
                            refine Under.fo2 ?_
                            refine Under.app h1557 Try.underlying25 AT61 rfl rfl rdV rfl fun v1558 => ?_
                            refine Under.ov (OpV.fdM fm27_1 rfl) rfl ?_
                            refine Under.ownCell fun h1559 => ?_
                            refine Under.fo1 ?_
                            refine Under.stP (x' := (⟨a0.Newest, v1558⟩ : Api_Window_r1)) .box (.fld .id uf_Api_Window_r1_1) sz25_kRaw rfl rfl (rdRaw h1559) rfl ?_
                            refine Under.nil ?_
                            refine Under.tN ?_
                            refine Under.region ?_
                            refine Under.ov (OpV.asg rfl) rfl ?_
                            refine Under.nil ?_
                            refine Under.tN ?_
                            refine Under.fo1 ?_
                            refine Under.fo2 ?_
                            exact Under.weak (k1511 _ _ _ (Option.some.inj h1510).symm) (sub_cons rfl (sub_cons rfl (sub_cons rfl (sub_cons rfl (sub_cons rfl (sub_cons rfl (sub_cons rfl (sub_nil _))))))))
                          · refine Under.code_skip ?_
                            refine Under.tN ?_
                            refine Under.fo2 ?_
                            refine Under.fo2 ?_
                            refine Under.fo2 ?_
                            exact Under.weak (k1511 _ _ _ (Option.some.inj h1510).symm) (sub_cons rfl (sub_cons rfl (sub_cons rfl (sub_cons rfl (sub_cons rfl (sub_cons rfl (sub_cons rfl (sub_nil _))))))))
                        · refine Under.byc (t := 121) rfl (fun c1548 => ?_) (fun c1548 => ?_)
                          · replace h1549 := ctrue c1548 h1549
                            refine Under.goc c1548 rfl rfl ?_
                            refine Under.ov (OpV.move rfl) rfl ?_
                            refine Under.goc c1548 rfl rfl ?_
                            refine Under.ov (OpV.fd fb27_1 rfl rfl) rfl ?_
                            refine Under.goc c1548 rfl rfl ?_
                            refine Under.ov (OpV.ld kt25 rfl) rfl ?_
                            refine Under.goc c1548 rfl rfl ?_
                            refine Under.ov (OpV.len Try.underlying25 rfl rdV) rfl ?_
                            refine Under.goc c1548 rfl rfl ?_
                            refine Under.ov (OpV.bin rfl rfl rfl) rfl ?_
                            refine Under.goc c1548 rfl rfl ?_
                            refine Under.ov (OpV.move rfl) rfl ?_
                            obtain ⟨x1553, h1552, h1549⟩ := bsome h1549
                            refine runj_9 136 x1553 ?_ (fun k => ?_)
                            · refine Under.ov (OpV.pick rfl (fun e => rfl) (fun e => absurd (e.symm.trans c1548) (by decide))) rfl ?_
                              exact Under.rfin 7 (congrArg (fun b => SV.raw (.bool b)) (Option.some.inj h1549)) rfl k
                            · refine Under.byc (t := 127) rfl (fun c1551 => ?_) (fun c1551 => ?_)
                              · replace h1552 := ctrue c1551 h1552
                                refine Under.skc c1551 rfl rfl rfl ?_
                                refine Under.skc c1551 rfl rfl rfl ?_
                                refine Under.skc c1551 rfl rfl rfl ?_
                                refine Under.skc c1551 rfl rfl rfl ?_
                                refine Under.skc c1551 rfl rfl rfl ?_
                                refine Under.skc c1551 rfl rfl rfl ?_
                                refine Under.skc c1551 rfl rfl rfl ?_
                                refine Under.skc c1551 rfl rfl rfl ?_
                                refine Under.goc c1548 rfl rfl ?_
                                refine Under.ov (OpV.pick rfl (fun e => rfl) (fun e => absurd (e.symm.trans c1551) (by decide))) rfl ?_
                                exact Under.rfin 8 (congrArg (fun b => SV.raw (.bool b)) (Option.some.inj h1552)) rfl k
                              · replace h1552 := cfalse c1551 h1552
                                refine Under.goc c1551 rfl rfl ?_
                                refine Under.ov (OpV.fd fb27_1 rfl rfl) rfl ?_
                                refine Under.goc c1551 rfl rfl ?_
                                refine Under.ov (OpV.ld kt25 rfl) rfl ?_
                                refine Under.goc c1551 rfl rfl ?_
                                refine Under.ov (OpV.move rfl) rfl ?_
                                obtain ⟨x1554, h1555, h1552⟩ := bsome h1552
                                refine Under.goc c1551 rfl rfl ?_
                                refine Under.ov (OpV.ixS h1555 Try.underlying25 sz61 rfl rdV rfl) rfl ?_
                                refine Under.goc c1551 rfl rfl ?_
                                refine Under.ov (OpV.fd fb61_0 rfl rfl) rfl ?_
                                refine Under.goc c1551 rfl rfl ?_
                                refine Under.ov (OpV.ldI kt2 rfl) rfl ?_
                                refine Under.goc c1551 rfl rfl ?_
                                refine Under.ov (OpV.move rfl) rfl ?_
                                refine Under.goc c1551 rfl rfl ?_
                                refine Under.ov (OpV.bin rfl rfl rfl) rfl ?_
                                refine Under.goc c1548 rfl rfl ?_
                                refine Under.ov (OpV.pick rfl (fun e => absurd (e.symm.trans c1551) (by decide)) (fun e => rfl)) rfl ?_
                                exact Under.rfin 8 (congrArg (fun b => SV.raw (.bool b)) (Option.some.inj h1552)) rfl k
                          · replace h1549 := cfalse c1548 h1549
                            refine Under.skc c1548 rfl rfl rfl ?_
                            refine Under.skc c1548 rfl rfl rfl ?_
                            refine Under.skc c1548 rfl rfl rfl ?_
                            refine Under.skc c1548 rfl rfl rfl ?_
                            refine Under.skc c1548 rfl rfl rfl ?_
                            refine Under.skc c1548 rfl rfl rfl ?_
                            refine Under.sku rfl rfl rfl ?_
                            refine Under.sku rfl rfl rfl ?_
                            refine Under.sku rfl rfl rfl ?_
                            refine Under.sku rfl rfl rfl ?_
                            refine Under.sku rfl rfl rfl ?_
                            refine Under.sku rfl rfl rfl ?_
                            refine Under.sku rfl rfl rfl ?_
                            refine Under.sku rfl rfl rfl ?_
                            refine Under.skc c1548 rfl rfl rfl ?_
                            refine Under.ov (OpV.pick rfl (fun e => absurd (e.symm.trans c1548) (by decide)) (fun e => rfl)) rfl ?_
                            exact Under.rfin 15 (congrArg (fun b => SV.raw (.bool b)) (Option.some.inj h1549)) rfl k
                    · refine Under.fo2 ?_
                      refine Under.fo2 ?_
                      refine Under.frzBO (fs := kApi_WindowF) (⟨a0.Newest, x1420⟩ : Api_Window) (fun F hv => ⟨fun _ h => h, cv_raw hv, trivial⟩) ?_
                      refine Under.frz (t := 15) rfl ?_
                      refine Under.exit ?_
                      refine Under.tE ?_
                      have e1563 := done_eq h1489 d1490
                      subst e1563
                      refine Under.tE ?_
                      refine Under.bH ?_
                      refine Under.tN ?_
                      exact Under.weak (k1277 _ (Option.some.inj h1276).symm) (sub_cons rfl (sub_cons rfl (sub_nil _)))
              · intro K k985
                refine Under.seq ?_
                refine Under.region ?_
                refine Under.ov (OpV.asg rfl) rfl ?_
                refine Under.nil ?_
                refine Under.tN ?_
                refine Under.block ?_
                obtain ⟨r2285, h2286, h984⟩ := bsome h984
                refine Under.ownNil (K := kArr 16 (kInt .u8)) (e := 43) ?_
                refine Under.fo2 ?_
                refine Under.fo2 ?_
                refine Under.fo2 ?_
                refine Under.loop (S := ((List (List Int)) × Int × Int)) (C := Value) (.slice none 0 0) (fun (x2525 : ((List (List Int)) × Int × Int)) (q2526 : Value) => [(1, .raw (.int .i64 a1)), (3, .raw (.int .i64 a3)), (4, .raw (.pointer (some ⟨b1, 0, none⟩))), (8, .raw (.pointer (some ⟨b2, 0, none⟩))), (10, .val (kSl (kArr 16 (kInt .u8))) y21), (11, .val (kSl (kArr 16 (kInt .u8))) y23), (12, .raw q2526), (13, .raw (.int .i64 x2525.2.1)), (14, .raw (.int .i64 x2525.2.2))]) (fun (x2525 : ((List (List Int)) × Int × Int)) (q2526 : Value) => (.own (kArr 16 (kInt .u8)) q2526 43 x2525.1) :: (.box kApi_Window b1 27 a0) :: (.box kApi_Window b2 27 (⟨0, []⟩ : Api_Window)) :: L) h2286 (sub_cons rfl (sub_cons rfl (sub_cons rfl (sub_cons rfl (sub_cons rfl (sub_cons rfl (sub_cons rfl (sub_cons rfl (sub_cons rfl (sub_nil _)))))))))) rfl (fun x2525 q2526 o2287 h2283 d2284 => ?_)
                obtain ⟨x2044, x2045, x2046⟩ := x2525
                dsimp only at h2283 ⊢
                refine Under.seq ?_
                refine Under.seq ?_
                refine Under.region ?_
                refine Under.ov (OpV.move rfl) rfl ?_
                refine Under.ov (OpV.move rfl) rfl ?_
                refine Under.ov (OpV.len Try.underlying36 rfl rdV) rfl ?_
                refine Under.ov (OpV.bin rfl rfl rfl) rfl ?_
                refine Under.nil ?_
                refine Under.tN ?_
                refine Under.ite h2283 rfl (fun h2283 => ?_) (fun h2283 => ?_)
                · refine Under.code_skip ?_
                  refine Under.tN ?_
                  obtain ⟨r2404, h2405, h2283⟩ := bsome h2283
                  refine Under.seq ?_
                  refine Under.after (fun X => ∀ (x2402 : List (List Int)) (x2403 : Int) (v2401 : Value), r2404 = (x2402, x2403) → Under F0 183 [(1, .raw (.int .i64 a1)), (3, .raw (.int .i64 a3)), (4, .raw (.pointer (some ⟨b1, 0, none⟩))), (8, .raw (.pointer (some ⟨b2, 0, none⟩))), (10, .val (kSl (kArr 16 (kInt .u8))) y21), (11, .val (kSl (kArr 16 (kInt .u8))) y23), (12, .raw v2401), (13, .raw (.int .i64 x2403)), (14, .raw (.int .i64 x2046))] ((.own (kArr 16 (kInt .u8)) v2401 43 x2402) :: (.box kApi_Window b1 27 a0) :: (.box kApi_Window b2 27 (⟨0, []⟩ : Api_Window)) :: L) X) ?_ ?_
                  · intro x2402 x2403 v2401 h2522
                    replace h2522 := h2522.symm
                    subst h2522
                    refine Under.region ?_
                    refine Under.ov (OpV.move rfl) rfl ?_
                    refine Under.ov (OpV.bin rfl rfl rfl) rfl ?_
                    refine Under.ov (OpV.asg rfl) rfl ?_
                    refine Under.nil ?_
                    refine Under.fo2 ?_
                    refine Under.fo2 ?_
                    refine Under.fo2 ?_
                    exact Under.next _ v2401 h2283 (sub_cons rfl (sub_cons rfl (sub_cons rfl (sub_cons rfl (sub_cons rfl (sub_cons rfl (sub_cons rfl (sub_cons rfl (sub_cons rfl (sub_nil _)))))))))) rfl
                  · intro K k2406
                    refine Under.block ?_
                    obtain ⟨r2455, h2456, h2405⟩ := bsome h2405
                    refine Under.seq ?_
                    refine Under.after (fun X => ∀ (x2454 : Int), r2455 = x2454 → Under F0 183 [(1, .raw (.int .i64 a1)), (3, .raw (.int .i64 a3)), (4, .raw (.pointer (some ⟨b1, 0, none⟩))), (8, .raw (.pointer (some ⟨b2, 0, none⟩))), (10, .val (kSl (kArr 16 (kInt .u8))) y21), (11, .val (kSl (kArr 16 (kInt .u8))) y23), (12, .raw q2526), (13, .raw (.int .i64 x2454)), (14, .raw (.int .i64 x2046))] ((.own (kArr 16 (kInt .u8)) q2526 43 x2044) :: (.box kApi_Window b1 27 a0) :: (.box kApi_Window b2 27 (⟨0, []⟩ : Api_Window)) :: L) X) ?_ ?_
                    · intro x2454 h2521
                      replace h2521 := h2521.symm
                      subst h2521
                      refine Under.seq ?_
                      refine Under.draw rfl (by kernel_rfl) fun F hF0 => ?_
                      refine UnderQ.ov (OpV.move rfl) rfl ?_
                      refine UnderQ.ov (OpV.move rfl) rfl ?_
                      refine UnderQ.ov (OpV.len Try.underlying36 rfl rdV) rfl ?_
                      refine UnderQ.ov (OpV.bin rfl rfl rfl) rfl ?_
                      refine UnderQ.ov (OpV.move rfl) rfl ?_
                      obtain ⟨x2460, h2459, h2405⟩ := bsome h2405
                      refine runj_10q 90 x2460 ?_ (fun k => ?_)
                      · refine UnderQ.nil hF0 ?_
                        refine Under.tN ?_
                        refine Under.ite h2405 rfl (fun h2405 => ?_) (fun h2405 => ?_)
                        · refine Under.region ?_
                          refine Under.ov (OpV.move rfl) rfl ?_
                          refine Under.ov (OpV.move rfl) rfl ?_
                          refine Under.ov (OpV.move rfl) rfl ?_
                          obtain ⟨x2465, h2466, h2405⟩ := bsome h2405
                          refine Under.ov (OpV.ixS h2466 Try.underlying36 sz43 rfl rdV rfl) rfl ?_
                          refine Under.ov (OpV.ld kt43 rfl) rfl ?_
                          refine Under.bsF (ys := [x2465]) Try.underlying36 ET43 (BldA.cons rfl rfl rdV (BldA.nil _)) rfl rfl ?_
                          obtain ⟨z2467, h2468, h2405⟩ := bsome h2405
                          refine Under.app h2468 Try.underlying36 AT43 rfl rfl rdV rfl fun v2469 => ?_
                          refine Under.ov (OpV.asg rfl) rfl ?_
                          refine Under.nil ?_
                          refine Under.bN ?_
                          refine Under.tN ?_
                          refine Under.fo2 ?_
                          refine Under.fo2 ?_
                          refine Under.fo2 ?_
                          exact Under.weak (k2406 _ _ _ (Option.some.inj h2405).symm) (sub_cons rfl (sub_cons rfl (sub_cons rfl (sub_cons rfl (sub_cons rfl (sub_cons rfl (sub_cons rfl (sub_cons rfl (sub_cons rfl (sub_nil _))))))))))
                        · refine Under.code_skip ?_
                          refine Under.bN ?_
                          refine Under.tN ?_
                          refine Under.fo2 ?_
                          refine Under.fo2 ?_
                          refine Under.fo2 ?_
                          exact Under.weak (k2406 _ _ _ (Option.some.inj h2405).symm) (sub_cons rfl (sub_cons rfl (sub_cons rfl (sub_cons rfl (sub_cons rfl (sub_cons rfl (sub_cons rfl (sub_cons rfl (sub_cons rfl (sub_nil _))))))))))
                      · refine UnderQ.byc (t := 80) rfl (fun c2458 => ?_) (fun c2458 => ?_)
                        · replace h2459 := ctrue c2458 h2459
                          refine UnderQ.skc c2458 rfl rfl rfl ?_
                          refine UnderQ.skc c2458 rfl rfl rfl ?_
                          refine UnderQ.skc c2458 rfl rfl rfl ?_
                          refine UnderQ.skc c2458 rfl rfl rfl ?_
                          refine UnderQ.skc c2458 rfl rfl rfl ?_
                          refine UnderQ.skc c2458 rfl rfl rfl ?_
                          refine UnderQ.skc c2458 rfl rfl rfl ?_
                          refine UnderQ.skc c2458 rfl rfl rfl ?_
                          refine UnderQ.skc c2458 rfl rfl rfl ?_
                          refine UnderQ.ov (OpV.pick rfl (fun e => rfl) (fun e => absurd (e.symm.trans c2458) (by decide))) rfl ?_
                          exact UnderQ.rfin 9 (congrArg (fun b => SV.raw (.bool b)) (Option.some.inj h2459)) rfl k
                        · replace h2459 := cfalse c2458 h2459
                          refine UnderQ.goc c2458 rfl rfl ?_
                          refine UnderQ.ov (OpV.move rfl) rfl ?_
                          refine UnderQ.goc c2458 rfl rfl ?_
                          refine UnderQ.ov (OpV.move rfl) rfl ?_
                          obtain ⟨x2461, h2462, h2459⟩ := bsome h2459
                          refine UnderQ.goc c2458 rfl rfl ?_
                          refine UnderQ.ov (OpV.ixS h2462 Try.underlying36 sz43 rfl rdV rfl) rfl ?_
                          refine UnderQ.goc c2458 rfl rfl ?_
                          refine UnderQ.ov (OpV.ld kt43 rfl) rfl ?_
                          refine UnderQ.goc c2458 rfl rfl ?_
                          refine UnderQ.ov (OpV.move rfl) rfl ?_
                          refine UnderQ.goc c2458 rfl rfl ?_
                          refine UnderQ.ov (OpV.move rfl) rfl ?_
                          obtain ⟨x2463, h2464, h2459⟩ := bsome h2459
                          refine UnderQ.goc c2458 rfl rfl ?_
                          refine UnderQ.ov (OpV.ixS h2464 Try.underlying36 sz43 rfl rdV rfl) rfl ?_
                          refine UnderQ.goc c2458 rfl rfl ?_
                          refine UnderQ.ov (OpV.ld kt43 rfl) rfl ?_
                          refine UnderQ.goc c2458 rfl rfl ?_
                          refine UnderQ.ov (OpV.neK eqk43 eqg43 rfl rfl rfl rdV rfl rdV) rfl ?_
                          refine UnderQ.ov (OpV.pick rfl (fun e => absurd (e.symm.trans c2458) (by decide)) (fun e => rfl)) rfl ?_
                          exact UnderQ.rfin 9 (congrArg (fun b => SV.raw (.bool b)) (Option.some.inj h2459)) rfl k
                    · intro K k2457
                      refine Under.block ?_
                      obtain ⟨r2504, h2505, h2456⟩ := bsome h2456
                      refine Under.fo2 ?_
                      refine Under.fo2 ?_
                      refine Under.fo2 ?_
                      refine Under.loop (S := Int) (C := Unit) () (fun (x2518 : Int) (q2519 : Unit) => [(1, .raw (.int .i64 a1)), (3, .raw (.int .i64 a3)), (4, .raw (.pointer (some ⟨b1, 0, none⟩))), (8, .raw (.pointer (some ⟨b2, 0, none⟩))), (10, .val (kSl (kArr 16 (kInt .u8))) y21), (11, .val (kSl (kArr 16 (kInt .u8))) y23), (12, .raw q2526), (13, .raw (.int .i64 x2518)), (14, .raw (.int .i64 x2046))]) (fun (x2518 : Int) (q2519 : Unit) => (.own (kArr 16 (kInt .u8)) q2526 43 x2044) :: (.box kApi_Window b1 27 a0) :: (.box kApi_Window b2 27 (⟨0, []⟩ : Api_Window)) :: L) h2505 (sub_cons rfl (sub_cons rfl (sub_cons rfl (sub_cons rfl (sub_cons rfl (sub_cons rfl (sub_cons rfl (sub_cons rfl (sub_cons rfl (sub_nil _)))))))))) rfl (fun x2518 q2519 o2506 h2502 d2503 => ?_)
                      refine Under.seq ?_
                      refine Under.seq ?_
                      refine Under.draw rfl (by kernel_rfl) fun F hF0 => ?_
                      refine UnderQ.ov (OpV.move rfl) rfl ?_
                      refine UnderQ.ov (OpV.move rfl) rfl ?_
                      refine UnderQ.ov (OpV.len Try.underlying36 rfl rdV) rfl ?_
                      refine UnderQ.ov (OpV.bin rfl rfl rfl) rfl ?_
                      refine UnderQ.ov (OpV.move rfl) rfl ?_
                      obtain ⟨x2509, h2508, h2502⟩ := bsome h2502
                      refine runj_10q 73 x2509 ?_ (fun k => ?_)
                      · refine UnderQ.nil hF0 ?_
                        refine Under.tN ?_
                        refine Under.ite h2502 rfl (fun h2502 => ?_) (fun h2502 => ?_)
                        · refine Under.code_skip ?_
                          refine Under.tN ?_
                          refine Under.block ?_
                          refine Under.region ?_
                          refine Under.ov (OpV.move rfl) rfl ?_
                          refine Under.ov (OpV.bin rfl rfl rfl) rfl ?_
                          refine Under.ov (OpV.asg rfl) rfl ?_
                          refine Under.nil ?_
                          refine Under.bN ?_
                          refine Under.fo2 ?_
                          refine Under.fo2 ?_
                          refine Under.fo2 ?_
                          exact Under.next _ () h2502 (sub_cons rfl (sub_cons rfl (sub_cons rfl (sub_cons rfl (sub_cons rfl (sub_cons rfl (sub_cons rfl (sub_cons rfl (sub_cons rfl (sub_nil _)))))))))) rfl
                        · refine Under.exit ?_
                          refine Under.tE ?_
                          have e2516 := done_eq h2502 d2503
                          subst e2516
                          refine Under.tE ?_
                          refine Under.bH ?_
                          refine Under.tN ?_
                          refine Under.fo2 ?_
                          refine Under.fo2 ?_
                          refine Under.fo2 ?_
                          exact Under.weak (k2457 _ (Option.some.inj h2456).symm) (sub_cons rfl (sub_cons rfl (sub_cons rfl (sub_cons rfl (sub_cons rfl (sub_cons rfl (sub_cons rfl (sub_cons rfl (sub_cons rfl (sub_nil _))))))))))
                      · refine UnderQ.byc (t := 63) rfl (fun c2507 => ?_) (fun c2507 => ?_)
                        · replace h2508 := ctrue c2507 h2508
                          refine UnderQ.goc c2507 rfl rfl ?_
                          refine UnderQ.ov (OpV.move rfl) rfl ?_
                          refine UnderQ.goc c2507 rfl rfl ?_
                          refine UnderQ.ov (OpV.move rfl) rfl ?_
                          obtain ⟨x2510, h2511, h2508⟩ := bsome h2508
                          refine UnderQ.goc c2507 rfl rfl ?_
                          refine UnderQ.ov (OpV.ixS h2511 Try.underlying36 sz43 rfl rdV rfl) rfl ?_
                          refine UnderQ.goc c2507 rfl rfl ?_
                          refine UnderQ.ov (OpV.ld kt43 rfl) rfl ?_
                          refine UnderQ.goc c2507 rfl rfl ?_
                          refine UnderQ.ov (OpV.move rfl) rfl ?_
                          refine UnderQ.goc c2507 rfl rfl ?_
                          refine UnderQ.ov (OpV.move rfl) rfl ?_
                          obtain ⟨x2512, h2513, h2508⟩ := bsome h2508
                          refine UnderQ.goc c2507 rfl rfl ?_
                          refine UnderQ.ov (OpV.ixS h2513 Try.underlying36 sz43 rfl rdV rfl) rfl ?_
                          refine UnderQ.goc c2507 rfl rfl ?_
                          refine UnderQ.ov (OpV.ld kt43 rfl) rfl ?_
                          obtain ⟨y2514, h2515, h2508⟩ := bsome h2508
                          refine UnderQ.goc c2507 rfl rfl ?_
                          refine UnderQ.ov (OpV.call Try.call39 rfl rfl (fun L => (f_churnref16_less_ok h2515 L))) rfl ?_
                          refine UnderQ.ov (OpV.pick rfl (fun e => rfl) (fun e => absurd (e.symm.trans c2507) (by decide))) rfl ?_
                          exact UnderQ.rfin 9 (congrArg (fun b => SV.raw (.bool b)) (Option.some.inj h2508)) rfl k
                        · replace h2508 := cfalse c2507 h2508
                          refine UnderQ.skc c2507 rfl rfl rfl ?_
                          refine UnderQ.skc c2507 rfl rfl rfl ?_
                          refine UnderQ.skc c2507 rfl rfl rfl ?_
                          refine UnderQ.skc c2507 rfl rfl rfl ?_
                          refine UnderQ.skc c2507 rfl rfl rfl ?_
                          refine UnderQ.skc c2507 rfl rfl rfl ?_
                          refine UnderQ.skc c2507 rfl rfl rfl ?_
                          refine UnderQ.skc c2507 rfl rfl rfl ?_
                          refine UnderQ.skc c2507 rfl rfl rfl ?_
                          refine UnderQ.ov (OpV.pick rfl (fun e => absurd (e.symm.trans c2507) (by decide)) (fun e => rfl)) rfl ?_
                          exact UnderQ.rfin 9 (congrArg (fun b => SV.raw (.bool b)) (Option.some.inj h2508)) rfl k
                · refine Under.frzO (t := 12) rfl ?_
                  refine Under.exit ?_
                  refine Under.tE ?_
                  have e2523 := done_eq h2283 d2284
                  subst e2523
                  refine Under.tE ?_
                  refine Under.bH ?_
                  refine Under.tN ?_
                  refine Under.fo1 ?_
                  refine Under.fo1 ?_
                  exact Under.weak (k985 _ (Option.some.inj h984).symm) (sub_cons rfl (sub_cons rfl (sub_cons rfl (sub_cons rfl (sub_cons rfl (sub_cons rfl (sub_nil _)))))))
          · refine Under.byc (t := 40) rfl (fun c15 => ?_) (fun c15 => ?_)
            · refine Under.skc c15 rfl rfl rfl ?_
              refine Under.skc c15 rfl rfl rfl ?_
              refine Under.skc c15 rfl rfl rfl ?_
              refine Under.skc c15 rfl rfl rfl ?_
              refine Under.skc c15 rfl rfl rfl ?_
              refine Under.ov (OpV.pick rfl (fun e => rfl) (fun e => absurd (e.symm.trans c15) (by decide))) rfl ?_
              exact Under.rfin 5 (or_t (e := decide (a1 ≤ (IntKind.wrap .i64 (a0.Newest - 8)))) c15) rfl k
            · refine Under.goc c15 rfl rfl ?_
              refine Under.ov (OpV.move rfl) rfl ?_
              refine Under.goc c15 rfl rfl ?_
              refine Under.ov (OpV.fdM fm27_0 rfl) rfl ?_
              refine Under.goc c15 rfl rfl ?_
              refine Under.fo1 ?_
              refine Under.ldP .box (.fld .id uf_Api_Window_0) kt2_kInt_i64 rfl rfl ?_
              refine Under.rawI (t := 43) rfl ?_
              refine Under.goc c15 rfl rfl ?_
              refine Under.ov (OpV.bin rfl rfl rfl) rfl ?_
              refine Under.goc c15 rfl rfl ?_
              refine Under.ov (OpV.bin rfl rfl rfl) rfl ?_
              refine Under.fo1 ?_
              refine Under.ov (OpV.pick rfl (fun e => absurd (e.symm.trans c15) (by decide)) (fun e => rfl)) rfl ?_
              exact Under.rfin 6 (or_f c15) rfl k
        · refine Under.byc (t := 34) rfl (fun c12 => ?_) (fun c12 => ?_)
          · refine Under.skc c12 rfl rfl rfl ?_
            refine Under.skc c12 rfl rfl rfl ?_
            refine Under.skc c12 rfl rfl rfl ?_
            refine Under.skc c12 rfl rfl rfl ?_
            refine Under.ov (OpV.pick rfl (fun e => rfl) (fun e => absurd (e.symm.trans c12) (by decide))) rfl ?_
            exact Under.rfin 4 (or_t (e := decide (a1 > a0.Newest)) c12) rfl k
          · refine Under.goc c12 rfl rfl ?_
            refine Under.ov (OpV.move rfl) rfl ?_
            refine Under.goc c12 rfl rfl ?_
            refine Under.ov (OpV.fdM fm27_0 rfl) rfl ?_
            refine Under.goc c12 rfl rfl ?_
            refine Under.fo1 ?_
            refine Under.ldP .box (.fld .id uf_Api_Window_0) kt2_kInt_i64 rfl rfl ?_
            refine Under.rawI (t := 37) rfl ?_
            refine Under.goc c12 rfl rfl ?_
            refine Under.ov (OpV.bin rfl rfl rfl) rfl ?_
            refine Under.fo1 ?_
            refine Under.ov (OpV.pick rfl (fun e => absurd (e.symm.trans c12) (by decide)) (fun e => rfl)) rfl ?_
            exact Under.rfin 5 (or_f c12) rfl k
    · refine Under.byc (t := 26) rfl (fun c6 => ?_) (fun c6 => ?_)
      · replace h7 := ctrue c6 h7
        refine Under.skc c6 rfl rfl rfl ?_
        refine Under.skc c6 rfl rfl rfl ?_
        refine Under.skc c6 rfl rfl rfl ?_
        refine Under.ov (OpV.pick rfl (fun e => rfl) (fun e => absurd (e.symm.trans c6) (by decide))) rfl ?_
        exact Under.rfin 3 (congrArg (fun b => SV.raw (.bool b)) (Option.some.inj h7)) rfl k
      · replace h7 := cfalse c6 h7
        refine Under.goc c6 rfl rfl ?_
        refine Under.fo1 ?_
        refine Under.ldP .box .id kt27_kApi_Window rfl rfl ?_
        obtain ⟨y9, h10, h7⟩ := bsome h7
        refine Under.goc c6 rfl rfl ?_
        refine Under.call Try.call17 rfl rfl (f_churnref16_Check_ok h10 _) rfl ?_
        refine Under.goc c6 rfl rfl ?_
        refine Under.ov (OpV.bin rfl rfl rfl) rfl ?_
        refine Under.fo1 ?_
        refine Under.ov (OpV.pick rfl (fun e => absurd (e.symm.trans c6) (by decide)) (fun e => rfl)) rfl ?_
        exact Under.rfin 3 (congrArg (fun b => SV.raw (.bool b)) (Option.some.inj h7)) rfl k
  · refine Under.byc (t := 22) rfl (fun c3 => ?_) (fun c3 => ?_)
    · refine Under.skc c3 rfl rfl rfl ?_
      refine Under.skc c3 rfl rfl rfl ?_
      refine Under.ov (OpV.pick rfl (fun e => rfl) (fun e => absurd (e.symm.trans c3) (by decide))) rfl ?_
      exact Under.rfin 2 (or_t (e := decide (a3 > 4096)) c3) rfl k
    · refine Under.goc c3 rfl rfl ?_
      refine Under.ov (OpV.move rfl) rfl ?_
      refine Under.goc c3 rfl rfl ?_
      refine Under.ov (OpV.bin rfl rfl rfl) rfl ?_
      refine Under.ov (OpV.pick rfl (fun e => absurd (e.symm.trans c3) (by decide)) (fun e => rfl)) rfl ?_
      exact Under.rfin 2 (or_f c3) rfl k
/-- churn/churnlaw16.WindowAdds -/
noncomputable def f_churnlaw16_WindowAdds (a0 : Churnlaw16_Job) : Option Bool :=
  (f_churnlaw16_alive).bind fun y1 =>
  bif !y1 then
    some false
  else
    (f_churnref16_Add a0.W a0.Epoch a0.Tags a0.Room).bind fun y4 =>
    (f_window_Add a0.W a0.Epoch a0.Tags a0.Room).bind fun y7 =>
    ((bif y7.2 == y4.2 then
      (f_churnlaw16_same y7.1 y4.1).bind fun y13 =>
      some y13
    else
      some false
      : Option Bool)).bind fun x12 =>
    some x12
theorem f_churnlaw16_WindowAdds_ok {a0 : Churnlaw16_Job} {r0 : Bool} (hF : f_churnlaw16_WindowAdds a0 = some r0) (L : List Res) : Ok Try.prog 7 [SV.val kChurnlaw16_Job a0] (L) (SV.raw (.bool r0)) (L) := by
  unfold f_churnlaw16_WindowAdds at hF
  refine Ok.intro 41 [(0, .val kChurnlaw16_Job a0)] Try.func7 rfl rfl rfl rfl (fun F0 => ?_)
  refine Under.seq ?_
  refine Under.region ?_
  refine Under.bxF (K := kChurnlaw16_Job) rfl rdV rfl ?_
  refine Under.ov (OpV.asg rfl) rfl ?_
  refine Under.nil ?_
  refine Under.tN ?_
  refine Under.seq ?_
  refine Under.seq ?_
  refine Under.region ?_
  obtain ⟨y1, h2, hF⟩ := bsome hF
  refine Under.call Try.call15 rfl rfl (f_churnlaw16_alive_ok h2 _) rfl ?_
  refine Under.ov (OpV.not rfl) rfl ?_
  refine Under.nil ?_
  refine Under.tN ?_
  refine Under.ite hF rfl (fun hF => ?_) (fun hF => ?_)
  · refine Under.seq ?_
    refine Under.region ?_
    refine Under.ov (OpV.asg rfl) rfl ?_
    refine Under.nil ?_
    refine Under.tN ?_
    refine Under.retc ?_
    refine Under.tR ?_
    have e3 := Option.some.inj hF
    subst e3
    exact Under.rets Try.results7 (.tm rfl .nil) rfl rfl
  · refine Under.code_skip ?_
    refine Under.tN ?_
    refine Under.seq ?_
    refine Under.region ?_
    refine Under.ov (OpV.fd fb52_0 rfl rfl) rfl ?_
    refine Under.ov (OpV.ld kt27 rfl) rfl ?_
    refine Under.ov (OpV.fd fb52_3 rfl rfl) rfl ?_
    refine Under.ov (OpV.ldI kt2 rfl) rfl ?_
    refine Under.ov (OpV.fd fb52_4 rfl rfl) rfl ?_
    refine Under.ov (OpV.ld kt36 rfl) rfl ?_
    refine Under.ov (OpV.fd fb52_2 rfl rfl) rfl ?_
    refine Under.ov (OpV.ldI kt3 rfl) rfl ?_
    obtain ⟨y4, h5, hF⟩ := bsome hF
    refine Under.call Try.call25 rfl rfl (f_churnref16_Add_ok h5 _) rfl ?_
    refine Under.ov (OpV.move rfl) rfl ?_
    refine Under.ov (OpV.extr rfl rfl) rfl ?_
    refine Under.ov (OpV.extr rfl rfl) rfl ?_
    refine Under.al ZT27 rfl fun b6 => ?_
    refine Under.stP (x' := y4.1) .box .id sz27_kApi_Window rfl rfl rdV rfl ?_
    refine Under.ov (OpV.asg rfl) rfl ?_
    refine Under.nil ?_
    refine Under.frz (t := 3) rfl ?_
    refine Under.tN ?_
    refine Under.seq ?_
    refine Under.region ?_
    refine Under.ov (OpV.fd fb52_0 rfl rfl) rfl ?_
    refine Under.ov (OpV.ld kt27 rfl) rfl ?_
    refine Under.ov (OpV.fd fb52_3 rfl rfl) rfl ?_
    refine Under.ov (OpV.ldI kt2 rfl) rfl ?_
    refine Under.ov (OpV.fd fb52_4 rfl rfl) rfl ?_
    refine Under.ov (OpV.ld kt36 rfl) rfl ?_
    refine Under.ov (OpV.fd fb52_2 rfl rfl) rfl ?_
    refine Under.ov (OpV.ldI kt3 rfl) rfl ?_
    obtain ⟨y7, h8, hF⟩ := bsome hF
    refine Under.call Try.call26 rfl rfl (f_window_Add_ok h8 _) rfl ?_
    refine Under.ov (OpV.move rfl) rfl ?_
    refine Under.ov (OpV.extr rfl rfl) rfl ?_
    refine Under.ov (OpV.extr rfl rfl) rfl ?_
    refine Under.al ZT27 rfl fun b9 => ?_
    refine Under.stP (x' := y7.1) .box .id sz27_kApi_Window rfl rfl rdV rfl ?_
    refine Under.ov (OpV.asg rfl) rfl ?_
    refine Under.nil ?_
    refine Under.frz (t := 5) rfl ?_
    refine Under.tN ?_
    refine Under.seq ?_
    refine Under.region ?_
    refine Under.ov (OpV.move rfl) rfl ?_
    refine Under.ov (OpV.move rfl) rfl ?_
    refine Under.ov (OpV.bin rfl rfl rfl) rfl ?_
    refine Under.ov (OpV.move rfl) rfl ?_
    obtain ⟨x12, h11, hF⟩ := bsome hF
    refine runj_4 40 x12 ?_ (fun k => ?_)
    · refine Under.ov (OpV.asg rfl) rfl ?_
      refine Under.nil ?_
      refine Under.tN ?_
      refine Under.retc ?_
      have e15 := Option.some.inj hF
      subst e15
      exact Under.rets Try.results7 (.tm rfl .nil) rfl rfl
    · refine Under.byc (t := 36) rfl (fun c10 => ?_) (fun c10 => ?_)
      · replace h11 := ctrue c10 h11
        refine Under.goc c10 rfl rfl ?_
        refine Under.ov (OpV.ld kt27 rfl) rfl ?_
        refine Under.goc c10 rfl rfl ?_
        refine Under.ov (OpV.ld kt27 rfl) rfl ?_
        obtain ⟨y13, h14, h11⟩ := bsome h11
        refine Under.goc c10 rfl rfl ?_
        refine Under.call Try.call24 rfl rfl (f_churnlaw16_same_ok h14 _) rfl ?_
        refine Under.ov (OpV.pick rfl (fun e => rfl) (fun e => absurd (e.symm.trans c10) (by decide))) rfl ?_
        exact Under.rfin 3 (congrArg (fun b => SV.raw (.bool b)) (Option.some.inj h11)) rfl k
      · replace h11 := cfalse c10 h11
        refine Under.skc c10 rfl rfl rfl ?_
        refine Under.skc c10 rfl rfl rfl ?_
        refine Under.skc c10 rfl rfl rfl ?_
        refine Under.ov (OpV.pick rfl (fun e => absurd (e.symm.trans c10) (by decide)) (fun e => rfl)) rfl ?_
        exact Under.rfin 3 (congrArg (fun b => SV.raw (.bool b)) (Option.some.inj h11)) rfl k
/-- churn/churnlaw16.WindowLives -/
noncomputable def f_churnlaw16_WindowLives (a0 : Int) (a1 : Int) (a2 : List Churnlaw16_Step) : Option Bool :=
  (f_churnlaw16_alive).bind fun y1 =>
  bif !y1 then
    some false
  else
    ((bif (decide (a0 < 1)) || (decide (a0 > 8)) then
      some (IntKind.wrap .i64 (1 + (andI .i64 a0 7)))
    else
      some a0
      : Option Int)).bind fun x7 =>
    ((bif (decide (a1 < 0)) || (decide (a1 > 4096)) then
      some (andI .i64 a1 63)
    else
      some a1
      : Option Int)).bind fun x14 =>
    (((Loop.run (S := (Int × Api_Window × Api_Window)) (R := ((Api_Window × Api_Window) ⊕ Bool)) (fun (x355, x356, x357) =>
        bif (decide (x355 < (a2.length : Int))) && (decide (x355 < 500)) then
          (idx a2 x355).bind fun x419 =>
          (f_window_Open x356 x419.Epoch x7).bind fun y422 =>
          (f_churnref16_Open x357 x419.Epoch x7).bind fun y425 =>
          ((bif x419.Put && (decide (x419.Epoch > (IntKind.wrap .i64 (x357.Newest - x7)))) then
            (f_window_Add x356 x419.Epoch x419.Tags x14).bind fun y466 =>
            (f_churnref16_Add x357 x419.Epoch x419.Tags x14).bind fun y468 =>
            some (y466.1, y466.2, y468.1, y468.2)
          else
            some (y422.1, y422.2, y425.1, y425.2)
            : Option (Api_Window × Int × Api_Window × Int))).bind fun r439 => match r439 with
            | (x435, x436, x437, x438) =>
              ((bif x436 != x438 then
                some true
              else
                (f_churnlaw16_same x435 x437).bind fun y445 =>
                some (!y445)
                : Option Bool)).bind fun x444 =>
              bif x444 then
                some (.done (.inr false))
              else
                ((bif x438 == 0 then
                  some (x435, x437)
                else
                  some (x356, x357)
                  : Option (Api_Window × Api_Window))).bind fun r452 => match r452 with
                  | (x450, x451) =>
                    (f_window_Check x450 x7 x14).bind fun y455 =>
                    bif y455 != 0 then
                      some (.done (.inr false))
                    else
                      some (.next (IntKind.wrap .i64 (x355 + 1), x450, x451))
        else
          some (.done (.inl (x356, x357)))) (0, (⟨0, []⟩ : Api_Window), (⟨0, []⟩ : Api_Window))).bind fun r413 => match r413 with
      | .inl (x409, x410) =>
        some (.inr (x409, x410))
      | .inr z =>
        some (.inl z)
      : Option (Bool ⊕ (Api_Window × Api_Window)))).bind fun r244 => match r244 with
      | .inl z =>
        some z
      | .inr (x242, x243) =>
        (f_churnlaw16_same x242 x243).bind fun y247 =>
        some y247
theorem f_churnlaw16_WindowLives_ok {a0 : Int} {a1 : Int} {a2 : List Churnlaw16_Step} {r0 : Bool} (hF : f_churnlaw16_WindowLives a0 a1 a2 = some r0) (L : List Res) : Ok Try.prog 8 [SV.raw (.int .i64 a0), SV.raw (.int .i64 a1), SV.val (kSl kChurnlaw16_Step) a2] (L) (SV.raw (.bool r0)) (L) := by
  unfold f_churnlaw16_WindowLives at hF
  refine Ok.intro 116 [(0, .raw (.int .i64 a0)), (1, .raw (.int .i64 a1)), (2, .val (kSl kChurnlaw16_Step) a2)] Try.func8 rfl rfl rfl rfl (fun F0 => ?_)
  refine Under.seq ?_
  refine Under.region ?_
  refine Under.ov (OpV.asg rfl) rfl ?_
  refine Under.nil ?_
  refine Under.tN ?_
  refine Under.seq ?_
  refine Under.seq ?_
  refine Under.region ?_
  obtain ⟨y1, h2, hF⟩ := bsome hF
  refine Under.call Try.call15 rfl rfl (f_churnlaw16_alive_ok h2 _) rfl ?_
  refine Under.ov (OpV.not rfl) rfl ?_
  refine Under.nil ?_
  refine Under.tN ?_
  refine Under.ite hF rfl (fun hF => ?_) (fun hF => ?_)
  · refine Under.seq ?_
    refine Under.region ?_
    refine Under.ov (OpV.asg rfl) rfl ?_
    refine Under.nil ?_
    refine Under.tN ?_
    refine Under.retc ?_
    refine Under.tR ?_
    have e3 := Option.some.inj hF
    subst e3
    exact Under.rets Try.results8 (.tm rfl .nil) rfl rfl
  · refine Under.code_skip ?_
    refine Under.tN ?_
    obtain ⟨r8, h9, hF⟩ := bsome hF
    refine Under.seq ?_
    refine Under.after (fun X => ∀ (x7 : Int), r8 = x7 → Under F0 116 [(0, .raw (.int .i64 x7)), (1, .raw (.int .i64 a1)), (2, .val (kSl kChurnlaw16_Step) a2)] (L) X) ?_ ?_
    · intro x7 h490
      replace h490 := h490.symm
      subst h490
      obtain ⟨r15, h16, hF⟩ := bsome hF
      refine Under.seq ?_
      refine Under.after (fun X => ∀ (x14 : Int), r15 = x14 → Under F0 116 [(0, .raw (.int .i64 x7)), (1, .raw (.int .i64 x14)), (2, .val (kSl kChurnlaw16_Step) a2)] (L) X) ?_ ?_
      · intro x14 h484
        replace h484 := h484.symm
        subst h484
        refine Under.seq ?_
        refine Under.region ?_
        refine Under.al ZT27 rfl fun b18 => ?_
        refine Under.al ZT27 rfl fun b19 => ?_
        refine Under.nil ?_
        refine Under.tN ?_
        obtain ⟨r244, h245, hF⟩ := bsome hF
        refine Under.seq ?_
        refine Under.after (fun X => ∀ (x242 : Api_Window) (x243 : Api_Window), r244 = (.inr (x242, x243)) → Under F0 116 [(7, .ptr kApi_Window x242), (8, .ptr kApi_Window x243)] (L) X) ?_ ?_
        · intro x242 x243 h478
          replace h478 := h478.symm
          subst h478
          refine Under.seq ?_
          refine Under.region ?_
          refine Under.ov (OpV.ld kt27 rfl) rfl ?_
          refine Under.ov (OpV.ld kt27 rfl) rfl ?_
          obtain ⟨y247, h248, hF⟩ := bsome hF
          refine Under.call Try.call24 rfl rfl (f_churnlaw16_same_ok h248 _) rfl ?_
          refine Under.ov (OpV.asg rfl) rfl ?_
          refine Under.nil ?_
          refine Under.tN ?_
          refine Under.retc ?_
          have e249 := Option.some.inj hF
          subst e249
          exact Under.rets Try.results8 (.tm rfl .nil) rfl rfl
        · intro K k246
          refine Under.seq ?_
          refine Under.region ?_
          refine Under.ov (OpV.asg rfl) rfl ?_
          refine Under.nil ?_
          refine Under.tN ?_
          refine Under.block ?_
          obtain ⟨r413, h414, h245⟩ := bsome h245
          refine Under.fo1 ?_
          refine Under.loop (S := (Int × Api_Window × Api_Window)) (C := Unit) () (fun (x475 : (Int × Api_Window × Api_Window)) (q476 : Unit) => [(0, .raw (.int .i64 x7)), (1, .raw (.int .i64 x14)), (2, .val (kSl kChurnlaw16_Step) a2), (7, .raw (.pointer (some ⟨b18, 0, none⟩))), (8, .raw (.pointer (some ⟨b19, 0, none⟩))), (9, .raw (.int .i64 x475.1))]) (fun (x475 : (Int × Api_Window × Api_Window)) (q476 : Unit) => (.box kApi_Window b18 27 x475.2.1) :: (.box kApi_Window b19 27 x475.2.2) :: L) h414 (sub_cons rfl (sub_cons rfl (sub_cons rfl (sub_cons rfl (sub_cons rfl (sub_cons rfl (sub_nil _))))))) rfl (fun x475 q476 o415 h411 d412 => ?_)
          obtain ⟨x355, x356, x357⟩ := x475
          dsimp only at h411 ⊢
          refine Under.seq ?_
          refine Under.seq ?_
          refine Under.region ?_
          refine Under.ov (OpV.move rfl) rfl ?_
          refine Under.ov (OpV.move rfl) rfl ?_
          refine Under.ov (OpV.len Try.underlying56 rfl rdV) rfl ?_
          refine Under.ov (OpV.bin rfl rfl rfl) rfl ?_
          refine Under.ov (OpV.move rfl) rfl ?_
          refine runj_3 41 ((decide (x355 < (a2.length : Int))) && (decide (x355 < 500))) ?_ (fun k => ?_)
          · refine Under.nil ?_
            refine Under.tN ?_
            refine Under.ite h411 rfl (fun h411 => ?_) (fun h411 => ?_)
            · refine Under.code_skip ?_
              refine Under.tN ?_
              refine Under.seq ?_
              refine Under.block ?_
              refine Under.seq ?_
              refine Under.region ?_
              refine Under.ov (OpV.move rfl) rfl ?_
              refine Under.ov (OpV.move rfl) rfl ?_
              obtain ⟨x419, h420, h411⟩ := bsome h411
              refine Under.ov (OpV.ixS h420 Try.underlying56 sz58 rfl rdV rfl) rfl ?_
              refine Under.ov (OpV.ld kt58 rfl) rfl ?_
              refine Under.al ZT58 rfl fun b421 => ?_
              refine Under.stP (x' := x419) .box .id sz58_kChurnlaw16_Step rfl rfl rdV rfl ?_
              refine Under.nil ?_
              refine Under.frz (t := 10) rfl ?_
              refine Under.tN ?_
              refine Under.seq ?_
              refine Under.region ?_
              refine Under.ldP .box .id kt27_kApi_Window rfl rfl ?_
              refine Under.ov (OpV.fd fb58_1 rfl rfl) rfl ?_
              refine Under.ov (OpV.ldI kt2 rfl) rfl ?_
              refine Under.ov (OpV.move rfl) rfl ?_
              obtain ⟨y422, h423, h411⟩ := bsome h411
              refine Under.call Try.call23 rfl rfl (f_window_Open_ok h423 _) rfl ?_
              refine Under.ov (OpV.move rfl) rfl ?_
              refine Under.ov (OpV.extr rfl rfl) rfl ?_
              refine Under.ov (OpV.extr rfl rfl) rfl ?_
              refine Under.al ZT27 rfl fun b424 => ?_
              refine Under.stP (x' := y422.1) .box .id sz27_kApi_Window rfl rfl rdV rfl ?_
              refine Under.ov (OpV.asg rfl) rfl ?_
              refine Under.nil ?_
              refine Under.tN ?_
              refine Under.seq ?_
              refine Under.region ?_
              refine Under.fo2 ?_
              refine Under.ldP .box .id kt27_kApi_Window rfl rfl ?_
              refine Under.ov (OpV.fd fb58_1 rfl rfl) rfl ?_
              refine Under.ov (OpV.ldI kt2 rfl) rfl ?_
              refine Under.ov (OpV.move rfl) rfl ?_
              obtain ⟨y425, h426, h411⟩ := bsome h411
              refine Under.call Try.call22 rfl rfl (f_churnref16_Open_ok h426 _) rfl ?_
              refine Under.ov (OpV.move rfl) rfl ?_
              refine Under.ov (OpV.extr rfl rfl) rfl ?_
              refine Under.ov (OpV.extr rfl rfl) rfl ?_
              refine Under.al ZT27 rfl fun b427 => ?_
              refine Under.stP (x' := y425.1) .box .id sz27_kApi_Window rfl rfl rdV rfl ?_
              refine Under.ov (OpV.asg rfl) rfl ?_
              refine Under.nil ?_
              refine Under.tN ?_
              obtain ⟨r439, h440, h411⟩ := bsome h411
              refine Under.seq ?_
              refine Under.after (fun X => ∀ (x435 : Api_Window) (x436 : Int) (x437 : Api_Window) (x438 : Int), r439 = (x435, x436, x437, x438) → Under F0 116 [(0, .raw (.int .i64 x7)), (1, .raw (.int .i64 x14)), (2, .val (kSl kChurnlaw16_Step) a2), (7, .raw (.pointer (some ⟨b18, 0, none⟩))), (8, .raw (.pointer (some ⟨b19, 0, none⟩))), (9, .raw (.int .i64 x355)), (11, .ptr kApi_Window x435), (12, .raw (.int .i64 x436)), (13, .ptr kApi_Window x437), (14, .raw (.int .i64 x438))] ((.box kApi_Window b18 27 x356) :: (.box kApi_Window b19 27 x357) :: L) X) ?_ ?_
              · intro x435 x436 x437 x438 h472
                replace h472 := h472.symm
                subst h472
                refine Under.seq ?_
                refine Under.seq ?_
                refine Under.region ?_
                refine Under.ov (OpV.move rfl) rfl ?_
                refine Under.ov (OpV.move rfl) rfl ?_
                refine Under.ov (OpV.bin rfl rfl rfl) rfl ?_
                refine Under.ov (OpV.move rfl) rfl ?_
                obtain ⟨x444, h443, h411⟩ := bsome h411
                refine runj_5 103 x444 ?_ (fun k => ?_)
                · refine Under.nil ?_
                  refine Under.tN ?_
                  refine Under.ite h411 rfl (fun h411 => ?_) (fun h411 => ?_)
                  · refine Under.dropr ?_
                    refine Under.dropr ?_
                    refine Under.seq ?_
                    refine Under.region ?_
                    refine Under.ov (OpV.asg rfl) rfl ?_
                    refine Under.nil ?_
                    refine Under.tN ?_
                    refine Under.retc ?_
                    refine Under.tR ?_
                    refine Under.bR ?_
                    refine Under.tR ?_
                    have e447 := done_eq h411 d412
                    subst e447
                    refine Under.tR ?_
                    refine Under.bR ?_
                    refine Under.tR ?_
                    have e448 := Option.some.inj h245
                    subst e448
                    have e449 := Option.some.inj hF
                    subst e449
                    exact Under.rets Try.results8 (.tm rfl .nil) rfl rfl
                  · refine Under.code_skip ?_
                    refine Under.tN ?_
                    obtain ⟨r452, h453, h411⟩ := bsome h411
                    refine Under.seq ?_
                    refine Under.after (fun X => ∀ (x450 : Api_Window) (x451 : Api_Window), r452 = (x450, x451) → Under F0 116 [(0, .raw (.int .i64 x7)), (1, .raw (.int .i64 x14)), (2, .val (kSl kChurnlaw16_Step) a2), (7, .raw (.pointer (some ⟨b18, 0, none⟩))), (8, .raw (.pointer (some ⟨b19, 0, none⟩))), (9, .raw (.int .i64 x355))] ((.box kApi_Window b18 27 x450) :: (.box kApi_Window b19 27 x451) :: L) X) ?_ ?_
                    · intro x450 x451 h462
                      replace h462 := h462.symm
                      subst h462
                      refine Under.seq ?_
                      refine Under.region ?_
                      refine Under.ldP .box .id kt27_kApi_Window rfl rfl ?_
                      refine Under.ov (OpV.move rfl) rfl ?_
                      refine Under.ov (OpV.move rfl) rfl ?_
                      obtain ⟨y455, h456, h411⟩ := bsome h411
                      refine Under.call Try.call16 rfl rfl (f_window_Check_ok h456 _) rfl ?_
                      refine Under.ov (OpV.bin rfl rfl rfl) rfl ?_
                      refine Under.nil ?_
                      refine Under.tN ?_
                      refine Under.ite h411 rfl (fun h411 => ?_) (fun h411 => ?_)
                      · refine Under.dropr ?_
                        refine Under.dropr ?_
                        refine Under.seq ?_
                        refine Under.region ?_
                        refine Under.ov (OpV.asg rfl) rfl ?_
                        refine Under.nil ?_
                        refine Under.tN ?_
                        refine Under.retc ?_
                        refine Under.bR ?_
                        refine Under.tR ?_
                        have e457 := done_eq h411 d412
                        subst e457
                        refine Under.tR ?_
                        refine Under.bR ?_
                        refine Under.tR ?_
                        have e458 := Option.some.inj h245
                        subst e458
                        have e459 := Option.some.inj hF
                        subst e459
                        exact Under.rets Try.results8 (.tm rfl .nil) rfl rfl
                      · refine Under.code_skip ?_
                        refine Under.bN ?_
                        refine Under.tN ?_
                        refine Under.region ?_
                        refine Under.ov (OpV.move rfl) rfl ?_
                        refine Under.ov (OpV.bin rfl rfl rfl) rfl ?_
                        refine Under.ov (OpV.asg rfl) rfl ?_
                        refine Under.nil ?_
                        refine Under.fo1 ?_
                        refine Under.fo1 ?_
                        exact Under.next _ () h411 (sub_cons rfl (sub_cons rfl (sub_cons rfl (sub_cons rfl (sub_cons rfl (sub_cons rfl (sub_nil _))))))) rfl
                    · intro K k454
                      refine Under.seq ?_
                      refine Under.region ?_
                      refine Under.ov (OpV.move rfl) rfl ?_
                      refine Under.ov (OpV.bin rfl rfl rfl) rfl ?_
                      refine Under.nil ?_
                      refine Under.tN ?_
                      refine Under.ite h453 rfl (fun h453 => ?_) (fun h453 => ?_)
                      · refine Under.phases rfl ?_
                        refine Under.fo1 ?_
                        refine Under.grpA (L := L) [0, 1, 2] [[11], [13], [7, 106]] [.v (.val kApi_Window x435), .v (.val kApi_Window x437), .sx 0] [] [((.box kApi_Window b18 27 x356), (.box kApi_Window b18 27 x435), 2)] (fun T : List Res => (.box kApi_Window b19 27 x357) :: T) lf1 rfl (by kernel_rfl) (ItsOk.of rfl rfl) (by kernel_rfl) rfl rfl (fun F hF0 bs => ?_)
                        refine Aq.v (fun G T hG => ?_) ?_
                        · refine Under.ov (OpV.ld kt27 rfl) rfl ?_
                          exact Zq.done rfl
                        refine Aq.v (fun G T hG => ?_) ?_
                        · refine Under.ov (OpV.ld kt27 rfl) rfl ?_
                          exact Zq.done rfl
                        refine Aq.sx rfl (fun G T hG => ?_) ?_
                        · refine Under.stP (x' := x435) .box .id sz27_kApi_Window rfl rfl rdV rfl ?_
                          exact Aq.std
                        refine Aq.nil ?_
                        refine Under.le hF0 ?_
                        refine Under.p1 3 rfl rfl ?_
                        refine Under.stP (x' := x437) .box .id sz27_kApi_Window rfl rfl rdV rfl ?_
                        refine Under.pn ?_
                        refine Under.pdone rfl ?_
                        refine Under.tN ?_
                        refine Under.fo1 ?_
                        exact Under.weak (k454 _ _ (Option.some.inj h453).symm) (sub_cons rfl (sub_cons rfl (sub_cons rfl (sub_cons rfl (sub_cons rfl (sub_cons rfl (sub_nil _)))))))
                      · refine Under.code_skip ?_
                        refine Under.tN ?_
                        refine Under.fo1 ?_
                        refine Under.fo1 ?_
                        exact Under.weak (k454 _ _ (Option.some.inj h453).symm) (sub_cons rfl (sub_cons rfl (sub_cons rfl (sub_cons rfl (sub_cons rfl (sub_cons rfl (sub_nil _)))))))
                · refine Under.byc (t := 98) rfl (fun c442 => ?_) (fun c442 => ?_)
                  · replace h443 := ctrue c442 h443
                    refine Under.skc c442 rfl rfl rfl ?_
                    refine Under.skc c442 rfl rfl rfl ?_
                    refine Under.skc c442 rfl rfl rfl ?_
                    refine Under.skc c442 rfl rfl rfl ?_
                    refine Under.ov (OpV.pick rfl (fun e => rfl) (fun e => absurd (e.symm.trans c442) (by decide))) rfl ?_
                    exact Under.rfin 4 (congrArg (fun b => SV.raw (.bool b)) (Option.some.inj h443)) rfl k
                  · replace h443 := cfalse c442 h443
                    refine Under.goc c442 rfl rfl ?_
                    refine Under.ov (OpV.ld kt27 rfl) rfl ?_
                    refine Under.goc c442 rfl rfl ?_
                    refine Under.ov (OpV.ld kt27 rfl) rfl ?_
                    obtain ⟨y445, h446, h443⟩ := bsome h443
                    refine Under.goc c442 rfl rfl ?_
                    refine Under.call Try.call24 rfl rfl (f_churnlaw16_same_ok h446 _) rfl ?_
                    refine Under.goc c442 rfl rfl ?_
                    refine Under.ov (OpV.not rfl) rfl ?_
                    refine Under.ov (OpV.pick rfl (fun e => absurd (e.symm.trans c442) (by decide)) (fun e => rfl)) rfl ?_
                    exact Under.rfin 4 (congrArg (fun b => SV.raw (.bool b)) (Option.some.inj h443)) rfl k
              · intro K k441
                refine Under.seq ?_
                refine Under.region ?_
                refine Under.ov (OpV.fd fb58_0 rfl rfl) rfl ?_
                refine Under.ov (OpV.ldB kt4 rfl) rfl ?_
                refine Under.ov (OpV.move rfl) rfl ?_
                refine runj_8 74 (x419.Put && (decide (x419.Epoch > (IntKind.wrap .i64 (x357.Newest - x7))))) ?_ (fun k => ?_)
                · refine Under.nil ?_
                  refine Under.tN ?_
                  refine Under.ite h440 rfl (fun h440 => ?_) (fun h440 => ?_)
                  · refine Under.seq ?_
                    refine Under.region ?_
                    refine Under.fo3 ?_
                    refine Under.ldP .box .id kt27_kApi_Window rfl rfl ?_
                    refine Under.ov (OpV.fd fb58_1 rfl rfl) rfl ?_
                    refine Under.ov (OpV.ldI kt2 rfl) rfl ?_
                    refine Under.ov (OpV.fd fb58_2 rfl rfl) rfl ?_
                    refine Under.ov (OpV.ld kt36 rfl) rfl ?_
                    refine Under.ov (OpV.move rfl) rfl ?_
                    obtain ⟨y466, h467, h440⟩ := bsome h440
                    refine Under.call Try.call26 rfl rfl (f_window_Add_ok h467 _) rfl ?_
                    refine Under.ov (OpV.move rfl) rfl ?_
                    refine Under.ov (OpV.extr rfl rfl) rfl ?_
                    refine Under.ov (OpV.extr rfl rfl) rfl ?_
                    refine Under.fo3 ?_
                    refine Under.stP (x' := y466.1) .box .id sz27_kApi_Window rfl rfl rdV rfl ?_
                    refine Under.ov (OpV.asg rfl) rfl ?_
                    refine Under.nil ?_
                    refine Under.frz (t := 11) rfl ?_
                    refine Under.tN ?_
                    refine Under.region ?_
                    refine Under.fo2 ?_
                    refine Under.ldP .box .id kt27_kApi_Window rfl rfl ?_
                    refine Under.ov (OpV.fd fb58_1 rfl rfl) rfl ?_
                    refine Under.ov (OpV.ldI kt2 rfl) rfl ?_
                    refine Under.ov (OpV.fd fb58_2 rfl rfl) rfl ?_
                    refine Under.ov (OpV.ld kt36 rfl) rfl ?_
                    refine Under.ov (OpV.move rfl) rfl ?_
                    obtain ⟨y468, h469, h440⟩ := bsome h440
                    refine Under.call Try.call25 rfl rfl (f_churnref16_Add_ok h469 _) rfl ?_
                    refine Under.ov (OpV.move rfl) rfl ?_
                    refine Under.ov (OpV.extr rfl rfl) rfl ?_
                    refine Under.ov (OpV.extr rfl rfl) rfl ?_
                    refine Under.fo2 ?_
                    refine Under.stP (x' := y468.1) .box .id sz27_kApi_Window rfl rfl rdV rfl ?_
                    refine Under.ov (OpV.asg rfl) rfl ?_
                    refine Under.nil ?_
                    refine Under.frz (t := 13) rfl ?_
                    refine Under.tN ?_
                    refine Under.fo1 ?_
                    exact Under.weak (k441 _ _ _ _ (Option.some.inj h440).symm) (sub_cons rfl (sub_cons rfl (sub_cons rfl (sub_cons rfl (sub_cons rfl (sub_cons rfl (sub_cons rfl (sub_cons rfl (sub_cons rfl (sub_cons rfl (sub_nil _)))))))))))
                  · refine Under.frz (t := 13) rfl ?_
                    refine Under.fo1 ?_
                    refine Under.frz (t := 11) rfl ?_
                    refine Under.code_skip ?_
                    refine Under.tN ?_
                    refine Under.fo1 ?_
                    exact Under.weak (k441 _ _ _ _ (Option.some.inj h440).symm) (sub_cons rfl (sub_cons rfl (sub_cons rfl (sub_cons rfl (sub_cons rfl (sub_cons rfl (sub_cons rfl (sub_cons rfl (sub_cons rfl (sub_cons rfl (sub_nil _)))))))))))
                · refine Under.byc (t := 66) rfl (fun c463 => ?_) (fun c463 => ?_)
                  · refine Under.goc c463 rfl rfl ?_
                    refine Under.ov (OpV.fd fb58_1 rfl rfl) rfl ?_
                    refine Under.goc c463 rfl rfl ?_
                    refine Under.ov (OpV.ldI kt2 rfl) rfl ?_
                    refine Under.goc c463 rfl rfl ?_
                    refine Under.ov (OpV.fdM fm27_0 rfl) rfl ?_
                    refine Under.goc c463 rfl rfl ?_
                    refine Under.fo1 ?_
                    refine Under.ldP .box (.fld .id uf_Api_Window_0) kt2_kInt_i64 rfl rfl ?_
                    refine Under.rawI (t := 70) rfl ?_
                    refine Under.goc c463 rfl rfl ?_
                    refine Under.ov (OpV.move rfl) rfl ?_
                    refine Under.goc c463 rfl rfl ?_
                    refine Under.ov (OpV.bin rfl rfl rfl) rfl ?_
                    refine Under.goc c463 rfl rfl ?_
                    refine Under.ov (OpV.bin rfl rfl rfl) rfl ?_
                    refine Under.fo3 ?_
                    refine Under.fo3 ?_
                    refine Under.fo2 ?_
                    refine Under.fo3 ?_
                    refine Under.ov (OpV.pick rfl (fun e => rfl) (fun e => absurd (e.symm.trans c463) (by decide))) rfl ?_
                    exact Under.rfin 8 (and_t c463) rfl k
                  · refine Under.skc c463 rfl rfl rfl ?_
                    refine Under.skc c463 rfl rfl rfl ?_
                    refine Under.skc c463 rfl rfl rfl ?_
                    refine Under.skc c463 rfl rfl rfl ?_
                    refine Under.skc c463 rfl rfl rfl ?_
                    refine Under.skc c463 rfl rfl rfl ?_
                    refine Under.skc c463 rfl rfl rfl ?_
                    refine Under.ov (OpV.pick rfl (fun e => absurd (e.symm.trans c463) (by decide)) (fun e => rfl)) rfl ?_
                    exact Under.rfin 7 (and_f (e := decide (x419.Epoch > (IntKind.wrap .i64 (x357.Newest - x7)))) c463) rfl k
            · refine Under.frz (t := 7) rfl ?_
              refine Under.frz (t := 8) rfl ?_
              refine Under.exit ?_
              refine Under.tE ?_
              have e473 := done_eq h411 d412
              subst e473
              refine Under.tE ?_
              refine Under.bH ?_
              refine Under.tN ?_
              exact Under.weak (k246 _ _ (Option.some.inj h245).symm) (sub_cons rfl (sub_cons rfl (sub_nil _)))
          · refine Under.byc (t := 38) rfl (fun c416 => ?_) (fun c416 => ?_)
            · refine Under.goc c416 rfl rfl ?_
              refine Under.ov (OpV.move rfl) rfl ?_
              refine Under.goc c416 rfl rfl ?_
              refine Under.ov (OpV.bin rfl rfl rfl) rfl ?_
              refine Under.ov (OpV.pick rfl (fun e => rfl) (fun e => absurd (e.symm.trans c416) (by decide))) rfl ?_
              exact Under.rfin 2 (and_t c416) rfl k
            · refine Under.skc c416 rfl rfl rfl ?_
              refine Under.skc c416 rfl rfl rfl ?_
              refine Under.ov (OpV.pick rfl (fun e => absurd (e.symm.trans c416) (by decide)) (fun e => rfl)) rfl ?_
              exact Under.rfin 2 (and_f (e := decide (x355 < 500)) c416) rfl k
      · intro K k17
        refine Under.seq ?_
        refine Under.region ?_
        refine Under.ov (OpV.move rfl) rfl ?_
        refine Under.ov (OpV.bin rfl rfl rfl) rfl ?_
        refine Under.ov (OpV.move rfl) rfl ?_
        refine runj_3 31 ((decide (a1 < 0)) || (decide (a1 > 4096))) ?_ (fun k => ?_)
        · refine Under.nil ?_
          refine Under.tN ?_
          refine Under.ite h16 rfl (fun h16 => ?_) (fun h16 => ?_)
          · refine Under.region ?_
            refine Under.ov (OpV.move rfl) rfl ?_
            refine Under.ov (OpV.bin rfl rfl rfl) rfl ?_
            refine Under.ov (OpV.asg rfl) rfl ?_
            refine Under.nil ?_
            refine Under.tN ?_
            exact Under.weak (k17 _ (Option.some.inj h16).symm) (sub_cons rfl (sub_cons rfl (sub_cons rfl (sub_nil _))))
          · refine Under.code_skip ?_
            refine Under.tN ?_
            exact Under.weak (k17 _ (Option.some.inj h16).symm) (sub_cons rfl (sub_cons rfl (sub_cons rfl (sub_nil _))))
        · refine Under.byc (t := 28) rfl (fun c479 => ?_) (fun c479 => ?_)
          · refine Under.skc c479 rfl rfl rfl ?_
            refine Under.skc c479 rfl rfl rfl ?_
            refine Under.ov (OpV.pick rfl (fun e => rfl) (fun e => absurd (e.symm.trans c479) (by decide))) rfl ?_
            exact Under.rfin 2 (or_t (e := decide (a1 > 4096)) c479) rfl k
          · refine Under.goc c479 rfl rfl ?_
            refine Under.ov (OpV.move rfl) rfl ?_
            refine Under.goc c479 rfl rfl ?_
            refine Under.ov (OpV.bin rfl rfl rfl) rfl ?_
            refine Under.ov (OpV.pick rfl (fun e => absurd (e.symm.trans c479) (by decide)) (fun e => rfl)) rfl ?_
            exact Under.rfin 2 (or_f c479) rfl k
    · intro K k10
      refine Under.seq ?_
      refine Under.region ?_
      refine Under.ov (OpV.move rfl) rfl ?_
      refine Under.ov (OpV.bin rfl rfl rfl) rfl ?_
      refine Under.ov (OpV.move rfl) rfl ?_
      refine runj_3 22 ((decide (a0 < 1)) || (decide (a0 > 8))) ?_ (fun k => ?_)
      · refine Under.nil ?_
        refine Under.tN ?_
        refine Under.ite h9 rfl (fun h9 => ?_) (fun h9 => ?_)
        · refine Under.region ?_
          refine Under.ov (OpV.move rfl) rfl ?_
          refine Under.ov (OpV.bin rfl rfl rfl) rfl ?_
          refine Under.ov (OpV.bin rfl rfl rfl) rfl ?_
          refine Under.ov (OpV.asg rfl) rfl ?_
          refine Under.nil ?_
          refine Under.tN ?_
          exact Under.weak (k10 _ (Option.some.inj h9).symm) (sub_cons rfl (sub_cons rfl (sub_cons rfl (sub_nil _))))
        · refine Under.code_skip ?_
          refine Under.tN ?_
          exact Under.weak (k10 _ (Option.some.inj h9).symm) (sub_cons rfl (sub_cons rfl (sub_cons rfl (sub_nil _))))
      · refine Under.byc (t := 19) rfl (fun c485 => ?_) (fun c485 => ?_)
        · refine Under.skc c485 rfl rfl rfl ?_
          refine Under.skc c485 rfl rfl rfl ?_
          refine Under.ov (OpV.pick rfl (fun e => rfl) (fun e => absurd (e.symm.trans c485) (by decide))) rfl ?_
          exact Under.rfin 2 (or_t (e := decide (a0 > 8)) c485) rfl k
        · refine Under.goc c485 rfl rfl ?_
          refine Under.ov (OpV.move rfl) rfl ?_
          refine Under.goc c485 rfl rfl ?_
          refine Under.ov (OpV.bin rfl rfl rfl) rfl ?_
          refine Under.ov (OpV.pick rfl (fun e => absurd (e.symm.trans c485) (by decide)) (fun e => rfl)) rfl ?_
          exact Under.rfin 2 (or_f c485) rfl k
/-- churn/churnlaw16.in -/
noncomputable def f_churnlaw16_in (a0 : List (List Int)) (a1 : List Int) : Option Bool :=
  (((Loop.run (S := Int) (R := (Unit ⊕ Bool)) (fun x29 =>
      bif decide (x29 < (a0.length : Int)) then
        (idx a0 x29).bind fun x37 =>
        bif x37 == a1 then
          some (.done (.inr true))
        else
          some (.next (IntKind.wrap .i64 (x29 + 1)))
      else
        some (.done (.inl ()))) 0).bind fun r34 => match r34 with
    | .inl _ =>
      some (.inr ())
    | .inr z =>
      some (.inl z)
    : Option (Bool ⊕ Unit))).bind fun r20 => match r20 with
    | .inl z =>
      some z
    | .inr _ =>
      some false
theorem f_churnlaw16_in_ok {a0 : List (List Int)} {a1 : List Int} {r0 : Bool} (hF : f_churnlaw16_in a0 a1 = some r0) (L : List Res) : Ok Try.prog 27 [SV.val (kSl (kArr 16 (kInt .u8))) a0, SV.val (kArr 16 (kInt .u8)) a1] (L) (SV.raw (.bool r0)) (L) := by
  unfold f_churnlaw16_in at hF
  refine Ok.intro 18 [(0, .val (kSl (kArr 16 (kInt .u8))) a0), (1, .val (kArr 16 (kInt .u8)) a1)] Try.func27 rfl rfl rfl rfl (fun F0 => ?_)
  refine Under.seq ?_
  refine Under.region ?_
  refine Under.bxF (K := kArr 16 (kInt .u8)) rfl rdV rfl ?_
  refine Under.ov (OpV.asg rfl) rfl ?_
  refine Under.nil ?_
  refine Under.tN ?_
  obtain ⟨r20, h21, hF⟩ := bsome hF
  refine Under.seq ?_
  refine Under.after (fun X => ∀ (_ : Unit), r20 = (.inr ()) → Under F0 18 [] (L) X) ?_ ?_
  · intro _ h47
    replace h47 := h47.symm
    subst h47
    refine Under.seq ?_
    refine Under.region ?_
    refine Under.ov (OpV.asg rfl) rfl ?_
    refine Under.nil ?_
    refine Under.tN ?_
    refine Under.retc ?_
    have e23 := Option.some.inj hF
    subst e23
    exact Under.rets Try.results27 (.tm rfl .nil) rfl rfl
  · intro K k22
    refine Under.seq ?_
    refine Under.region ?_
    refine Under.ov (OpV.asg rfl) rfl ?_
    refine Under.nil ?_
    refine Under.tN ?_
    refine Under.block ?_
    obtain ⟨r34, h35, h21⟩ := bsome h21
    refine Under.loop (S := Int) (C := Unit) () (fun (x44 : Int) (q45 : Unit) => [(0, .val (kSl (kArr 16 (kInt .u8))) a0), (3, .ptr (kArr 16 (kInt .u8)) a1), (5, .raw (.int .i64 x44))]) (fun (x44 : Int) (q45 : Unit) => L) h35 (sub_cons rfl (sub_cons rfl (sub_cons rfl (sub_nil _)))) rfl (fun x44 q45 o36 h32 d33 => ?_)
    refine Under.seq ?_
    refine Under.seq ?_
    refine Under.region ?_
    refine Under.ov (OpV.move rfl) rfl ?_
    refine Under.ov (OpV.move rfl) rfl ?_
    refine Under.ov (OpV.len Try.underlying36 rfl rdV) rfl ?_
    refine Under.ov (OpV.bin rfl rfl rfl) rfl ?_
    refine Under.nil ?_
    refine Under.tN ?_
    refine Under.ite h32 rfl (fun h32 => ?_) (fun h32 => ?_)
    · refine Under.code_skip ?_
      refine Under.tN ?_
      refine Under.seq ?_
      refine Under.block ?_
      refine Under.seq ?_
      refine Under.draw rfl (by kernel_rfl) fun F hF0 => ?_
      refine UnderQ.ov (OpV.move rfl) rfl ?_
      refine UnderQ.ov (OpV.move rfl) rfl ?_
      obtain ⟨x37, h38, h32⟩ := bsome h32
      refine UnderQ.ov (OpV.ixS h38 Try.underlying36 sz43 rfl rdV rfl) rfl ?_
      refine UnderQ.ov (OpV.ld kt43 rfl) rfl ?_
      refine UnderQ.ov (OpV.ld kt43 rfl) rfl ?_
      refine UnderQ.ov (OpV.eqK eqk43 eqg43 rfl rfl rfl rdV rfl rdV) rfl ?_
      refine UnderQ.nil hF0 ?_
      refine Under.tN ?_
      refine Under.ite h32 rfl (fun h32 => ?_) (fun h32 => ?_)
      · refine Under.seq ?_
        refine Under.region ?_
        refine Under.ov (OpV.asg rfl) rfl ?_
        refine Under.nil ?_
        refine Under.tN ?_
        refine Under.retc ?_
        refine Under.bR ?_
        refine Under.tR ?_
        have e39 := done_eq h32 d33
        subst e39
        refine Under.tR ?_
        refine Under.bR ?_
        refine Under.tR ?_
        have e40 := Option.some.inj h21
        subst e40
        have e41 := Option.some.inj hF
        subst e41
        exact Under.rets Try.results27 (.tm rfl .nil) rfl rfl
      · refine Under.code_skip ?_
        refine Under.bN ?_
        refine Under.tN ?_
        refine Under.region ?_
        refine Under.ov (OpV.move rfl) rfl ?_
        refine Under.ov (OpV.bin rfl rfl rfl) rfl ?_
        refine Under.ov (OpV.asg rfl) rfl ?_
        refine Under.nil ?_
        exact Under.next _ () h32 (sub_cons rfl (sub_cons rfl (sub_cons rfl (sub_nil _)))) rfl
    · refine Under.exit ?_
      refine Under.tE ?_
      have e42 := done_eq h32 d33
      subst e42
      refine Under.tE ?_
      refine Under.bH ?_
      refine Under.tN ?_
      exact Under.weak (k22 () (Option.some.inj h21).symm) (sub_nil _)
end Go.Proofs.Ytgllljocmpbooaa

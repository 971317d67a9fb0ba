/- PRINTED BY gen2.py (of this repo): functions of the program in Lean, and that the machine follows them. -/
import Derived.Test.YtgllljocmpbooaaWn1
set_option linter.unusedVariables false
set_option linter.unusedSimpArgs false
set_option maxRecDepth 20000
namespace Go.Proofs.Ytgllljocmpbooaa
open Go Go.Sim Go.ChangeShapes Go.WideShapes Go.ChangeAt Go.RowKit
/-- churn/churnref16.sorted -/
noncomputable def f_churnref16_sorted : Nat → (List (List Int)) → Option (List (List Int))
  | 0, _ => none
  | fuel + 1, a0 =>
    bif decide ((a0.length : Int) < 2) then
      bif mkB 0 1 then
      (app (List.replicate (Int.toNat 0) (List.replicate 16 0)) a0).bind fun z4 =>
      some z4
      else none
    else
      (sub a0 0 (IntKind.wrap .i64 (Int.tdiv (a0.length : Int) 2))).bind fun x8 =>
      (f_churnref16_sorted fuel x8).bind fun y10 =>
      (sub a0 (IntKind.wrap .i64 (Int.tdiv (a0.length : Int) 2)) (a0.length : Int)).bind fun x12 =>
      (f_churnref16_sorted fuel x12).bind fun y14 =>
      bif mkB 0 (a0.length : Int) then
      (((Loop.run (S := ((List (List Int)) × Int × Int)) (R := (List (List Int))) (fun (x322, x323, x324) =>
          bif (decide (x323 < (y10.length : Int))) || (decide (x324 < (y14.length : Int))) then
            ((bif x324 == (y14.length : Int) then
              some true
            else
              ((bif decide (x323 < (y10.length : Int)) then
                (idx y14 x324).bind fun x386 =>
                (idx y10 x323).bind fun x388 =>
                (f_churnref16_less x386 x388).bind fun y390 =>
                some (!y390)
              else
                some false
                : Option Bool)).bind fun x385 =>
              some x385
              : Option Bool)).bind fun x382 =>
            bif x382 then
              ((((bif decide (x324 < (y14.length : Int)) then
                (idx y10 x323).bind fun x411 =>
                (idx y14 x324).bind fun x413 =>
                some (x411 == x413)
              else
                some false
                : Option Bool)).bind fun x410 =>
              bif x410 then
                some (IntKind.wrap .i64 (x324 + 1))
              else
                some x324
                : Option Int)).bind fun x399 =>
              (idx y10 x323).bind fun x403 =>
              (app x322 [x403]).bind fun z405 =>
              some (.next (z405, IntKind.wrap .i64 (x323 + 1), x399))
            else
              (idx y14 x324).bind fun x418 =>
              (app x322 [x418]).bind fun z420 =>
              some (.next (z420, x323, IntKind.wrap .i64 (x324 + 1)))
          else
            some (.done x322)) (List.replicate (Int.toNat 0) (List.replicate 16 0), 0, 0)).bind fun x371 =>
      some x371
        : Option (List (List Int)))).bind fun x220 =>
      some x220
      else none
theorem f_churnref16_sorted_ok {fuel : Nat} : ∀ {a0 : List (List Int)} {r0 : (List (List Int))} (hF : f_churnref16_sorted fuel a0 = some r0) (L : List Res), Ok Try.prog 40 [SV.val K0 a0] (L) (SV.val K0 r0) (L) := by
  induction fuel with
  | zero => intro a0 r0 hF; cases hF
  | succ fuel ih =>
    intro a0 r0 hF L
    rw [f_churnref16_sorted] at hF
    refine Ok.intro 99 [(0, .val K0 a0)] Try.func40 rfl rfl rfl rfl (fun F0 => ?_)
    refine sr <| ag rfl rfl <| nt <| sq <| sr <| mv rfl rfl <| ov (OpV.len Try.underlying36 rfl rdV) rfl <| bn rfl rfl rfl rfl <| nt <| Under.ite hF rfl (fun hF => ?_) (fun hF => ?_)
    ·obtain ⟨h2, hF⟩ := gsome hF
     obtain ⟨z4, h5, hF⟩ := bsome hF
     refine sr <| Under.mk h2 Try.underlying36 AT43 rfl rfl rfl fun v1 => ag rfl rfl <| ns <| mv rfl rfl <| mv rfl rfl <| Under.app h5 Try.underlying36 AT43 rfl rfl rdV rfl fun v6 => ag rfl rfl <| nl <| Under.frzO (t := 2) rfl <| tn <| rt ?_
     have e7 := osi hF
     subst e7
     exact Under.rets Try.results40 (.tm rfl .nil) rfl rfl
    ·obtain ⟨x8, h9, hF⟩ := bsome hF
     obtain ⟨y10, h11, hF⟩ := bsome hF
     obtain ⟨x12, h13, hF⟩ := bsome hF
     obtain ⟨y14, h15, hF⟩ := bsome hF
     obtain ⟨h17, hF⟩ := gsome hF
     obtain ⟨r221, h222, hF⟩ := bsome hF
     refine ct <| sr <| mv rfl rfl <| mv rfl rfl <| ov (OpV.len Try.underlying36 rfl rdV) rfl <| ov (OpV.quo rfl rfl (by decide) rfl) rfl <| ov (OpV.slH h9 Try.underlying36 sz43 rfl rdV rfl) rfl <| Under.call Try.call40 rfl rfl (ih h11 _) rfl <| ag rfl rfl <| ns <| mv rfl rfl <| mv rfl rfl <| ov (OpV.len Try.underlying36 rfl rdV) rfl <| ov (OpV.quo rfl rfl (by decide) rfl) rfl <| ov (OpV.slL h13 Try.underlying36 sz43 rfl rdV rfl) rfl <| Under.call Try.call40 rfl rfl (ih h15 _) rfl <| ag rfl rfl <| ns <| mv rfl rfl <| ov (OpV.len Try.underlying36 rfl rdV) rfl <| Under.mk h17 Try.underlying36 AT43 rfl rfl rfl fun v16 => ag rfl rfl <| ns <| ag rfl rfl <| ag rfl rfl <| nt <| sq <| Under.after (fun X => ∀ (x220 : List (List Int)), r221 = x220 → Under F0 99 [(6, .val K0 x220)] (L) X) ?_ ?_
     ·intro x220 h428
      replace h428 := h428.symm
      subst h428
      refine sr <| mv rfl rfl <| ag rfl rfl <| nt <| rc ?_
      have e224 := osi hF
      subst e224
      exact Under.rets Try.results40 (.tm rfl .nil) rfl rfl
     ·intro K k223
      obtain ⟨r374, h375, h222⟩ := bsome h222
      refine bk <| Under.loop (S := ((List (List Int)) × Int × Int)) (C := Value) v16 (fun (x425 : ((List (List Int)) × Int × Int)) (q426 : Value) => [(4, .val K0 y10), (5, .val K0 y14), (6, .raw q426), (7, .raw (.int .i64 x425.2.1)), (8, .raw (.int .i64 x425.2.2))]) (fun (x425 : ((List (List Int)) × Int × Int)) (q426 : Value) => (.own K1 q426 43 x425.1) :: L) h375 (s5 rfl rfl rfl rfl rfl) rfl (fun x425 q426 o376 h372 d373 => ?_)
      obtain ⟨x322, x323, x324⟩ := x425
      dsimp only at h372 ⊢
      refine sq <| sr <| mv rfl rfl <| mv rfl rfl <| ov (OpV.len Try.underlying36 rfl rdV) rfl <| bn rfl rfl rfl rfl <| mv rfl rfl <| runj_5 40 ((decide (x323 < (y10.length : Int))) || (decide (x324 < (y14.length : Int)))) ?_ (fun k => ?_)
      ·refine nt <| Under.ite h372 rfl (fun h372 => ?_) (fun h372 => ?_)
       ·obtain ⟨x382, h381, h372⟩ := bsome h372
        refine ct <| bk <| sq <| dw rfl (by kernel_rfl) fun F hF0 => mvq rfl rfl <| mvq rfl rfl <| oq (OpV.len Try.underlying36 rfl rdV) rfl <| bnq rfl rfl rfl rfl <| mvq rfl rfl <| runj_17q 62 x382 ?_ (fun k => ?_)
        ·refine nlq hF0 <| tn <| Under.ite h372 rfl (fun h372 => ?_) (fun h372 => ?_)
         ·obtain ⟨r400, h401, h372⟩ := bsome h372
          refine sq <| Under.after (fun X => ∀ (x399 : Int), r400 = x399 → Under F0 99 [(4, .val K0 y10), (5, .val K0 y14), (6, .raw q426), (7, .raw (.int .i64 x323)), (8, .raw (.int .i64 x399))] ((.own K1 q426 43 x322) :: L) X) ?_ ?_
          ·intro x399 h417
           replace h417 := h417.symm
           subst h417
           obtain ⟨x403, h404, h372⟩ := bsome h372
           obtain ⟨z405, h406, h372⟩ := bsome h372
           exact sr <| mv rfl rfl <| mv rfl rfl <| mv rfl rfl <| ov (OpV.ixS h404 Try.underlying36 sz43 rfl rdV rfl) rfl <| ov (OpV.ld kt43 rfl) rfl <| Under.bsF (ys := [x403]) Try.underlying36 ET43 (BldA.cons rfl rfl rdV (BldA.nil _)) rfl rfl <| Under.app h406 Try.underlying36 AT43 rfl rfl rdV rfl fun v407 => ag rfl rfl <| nt <| rg <| mv rfl rfl <| bn rfl rfl rfl rfl <| ag rfl rfl <| nl <| bN <| Under.next _ v407 h372 (s5 rfl rfl rfl rfl rfl) rfl
          ·intro K k402
           obtain ⟨x410, h409, h401⟩ := bsome h401
           refine sq <| dw rfl (by kernel_rfl) fun F hF0 => mvq rfl rfl <| mvq rfl rfl <| oq (OpV.len Try.underlying36 rfl rdV) rfl <| bnq rfl rfl rfl rfl <| mvq rfl rfl <| runj_10q 77 x410 ?_ (fun k => ?_)
           ·refine nlq hF0 <| tn <| Under.ite h401 rfl (fun h401 => ?_) (fun h401 => ?_)
            ·exact rg <| mv rfl rfl <| bn rfl rfl rfl rfl <| ag rfl rfl <| nt <| wk (k402 _ (osi h401).symm) (s5 rfl rfl rfl rfl rfl)
            ·exact ct <| wk (k402 _ (osi h401).symm) (s5 rfl rfl rfl rfl rfl)
           ·refine byq (t := 67) rfl (fun c408 => ?_) (fun c408 => ?_)
            ·replace h409 := ctrue c408 h409
             obtain ⟨x411, h412, h409⟩ := bsome h409
             obtain ⟨x413, h414, h409⟩ := bsome h409
             exact gq c408 rfl rfl <| mvq rfl rfl <| gq c408 rfl rfl <| mvq rfl rfl <| gq c408 rfl rfl <| oq (OpV.ixS h412 Try.underlying36 sz43 rfl rdV rfl) rfl <| gq c408 rfl rfl <| oq (OpV.ld kt43 rfl) rfl <| gq c408 rfl rfl <| mvq rfl rfl <| gq c408 rfl rfl <| mvq rfl rfl <| gq c408 rfl rfl <| oq (OpV.ixS h414 Try.underlying36 sz43 rfl rdV rfl) rfl <| gq c408 rfl rfl <| oq (OpV.ld kt43 rfl) rfl <| gq c408 rfl rfl <| oq (OpV.eqK eqk43 eqg43 rfl rfl rfl rdV rfl rdV) rfl <| oq (pkT c408 rfl rfl) rfl <| rfq 9 (rbq h409) rfl k
            ·replace h409 := cfalse c408 h409
             exact skq c408 rfl rfl rfl <| skq c408 rfl rfl rfl <| skq c408 rfl rfl rfl <| skq c408 rfl rfl rfl <| skq c408 rfl rfl rfl <| skq c408 rfl rfl rfl <| skq c408 rfl rfl rfl <| skq c408 rfl rfl rfl <| skq c408 rfl rfl rfl <| oq (pkF c408 rfl rfl) rfl <| rfq 9 (rbq h409) rfl k
         ·obtain ⟨x418, h419, h372⟩ := bsome h372
          obtain ⟨z420, h421, h372⟩ := bsome h372
          exact sr <| mv rfl rfl <| mv rfl rfl <| mv rfl rfl <| ov (OpV.ixS h419 Try.underlying36 sz43 rfl rdV rfl) rfl <| ov (OpV.ld kt43 rfl) rfl <| Under.bsF (ys := [x418]) Try.underlying36 ET43 (BldA.cons rfl rfl rdV (BldA.nil _)) rfl rfl <| Under.app h421 Try.underlying36 AT43 rfl rfl rdV rfl fun v422 => ag rfl rfl <| nt <| rg <| mv rfl rfl <| bn rfl rfl rfl rfl <| ag rfl rfl <| nl <| bN <| Under.next _ v422 h372 (s5 rfl rfl rfl rfl rfl) rfl
        ·refine byq (t := 45) rfl (fun c380 => ?_) (fun c380 => ?_)
         ·replace h381 := ctrue c380 h381
          exact skq c380 rfl rfl rfl <| skq c380 rfl rfl rfl <| skq c380 rfl rfl rfl <| skq c380 rfl rfl rfl <| skq c380 rfl rfl rfl <| UnderQ.sku rfl rfl rfl <| UnderQ.sku rfl rfl rfl <| UnderQ.sku rfl rfl rfl <| UnderQ.sku rfl rfl rfl <| UnderQ.sku rfl rfl rfl <| UnderQ.sku rfl rfl rfl <| UnderQ.sku rfl rfl rfl <| UnderQ.sku rfl rfl rfl <| UnderQ.sku rfl rfl rfl <| UnderQ.sku rfl rfl rfl <| skq c380 rfl rfl rfl <| oq (pkT c380 rfl rfl) rfl <| rfq 16 (rbq h381) rfl k
         ·replace h381 := cfalse c380 h381
          obtain ⟨x385, h384, h381⟩ := bsome h381
          refine gq c380 rfl rfl <| mvq rfl rfl <| gq c380 rfl rfl <| mvq rfl rfl <| gq c380 rfl rfl <| oq (OpV.len Try.underlying36 rfl rdV) rfl <| gq c380 rfl rfl <| bnq rfl rfl rfl rfl <| gq c380 rfl rfl <| mvq rfl rfl <| runj_11q 61 x385 ?_ (fun k => ?_)
          ·exact oq (pkF c380 rfl rfl) rfl <| rfq 6 (rbq h381) rfl k
          ·refine byq (t := 50) rfl (fun c383 => ?_) (fun c383 => ?_)
           ·replace h384 := ctrue c383 h384
            obtain ⟨x386, h387, h384⟩ := bsome h384
            obtain ⟨x388, h389, h384⟩ := bsome h384
            obtain ⟨y390, h391, h384⟩ := bsome h384
            exact gq c383 rfl rfl <| mvq rfl rfl <| gq c383 rfl rfl <| mvq rfl rfl <| gq c383 rfl rfl <| oq (OpV.ixS h387 Try.underlying36 sz43 rfl rdV rfl) rfl <| gq c383 rfl rfl <| oq (OpV.ld kt43 rfl) rfl <| gq c383 rfl rfl <| mvq rfl rfl <| gq c383 rfl rfl <| mvq rfl rfl <| gq c383 rfl rfl <| oq (OpV.ixS h389 Try.underlying36 sz43 rfl rdV rfl) rfl <| gq c383 rfl rfl <| oq (OpV.ld kt43 rfl) rfl <| gq c383 rfl rfl <| oq (OpV.call Try.call39 rfl rfl (fun L => (f_churnref16_less_ok h391 L))) rfl <| gq c383 rfl rfl <| oq (OpV.not rfl) rfl <| gq c380 rfl rfl <| oq (pkT c383 rfl rfl) rfl <| rfq 10 (rbq h384) rfl k
           ·replace h384 := cfalse c383 h384
            exact skq c383 rfl rfl rfl <| skq c383 rfl rfl rfl <| skq c383 rfl rfl rfl <| skq c383 rfl rfl rfl <| skq c383 rfl rfl rfl <| skq c383 rfl rfl rfl <| skq c383 rfl rfl rfl <| skq c383 rfl rfl rfl <| skq c383 rfl rfl rfl <| skq c383 rfl rfl rfl <| gq c380 rfl rfl <| oq (pkF c383 rfl rfl) rfl <| rfq 10 (rbq h384) rfl k
       ·refine Under.frzO (t := 6) rfl <| xt <| te ?_
        have e423 := done_eq h372 d373
        subst e423
        exact te <| bh <| tn <| wk (k223 _ (osi h222).symm) (s1 rfl)
      ·refine by_ (t := 35) rfl (fun c377 => ?_) (fun c377 => ?_)
       ·exact sk c377 rfl rfl rfl <| sk c377 rfl rfl rfl <| sk c377 rfl rfl rfl <| sk c377 rfl rfl rfl <| ov (pkT c377 rfl rfl) rfl <| rf 4 (or_t (e := decide (x324 < (y14.length : Int))) c377) rfl k
       ·exact gc c377 rfl rfl <| mv rfl rfl <| gc c377 rfl rfl <| mv rfl rfl <| gc c377 rfl rfl <| ov (OpV.len Try.underlying36 rfl rdV) rfl <| gc c377 rfl rfl <| bn rfl rfl rfl rfl <| ov (pkF c377 rfl rfl) rfl <| rf 4 (or_f c377) rfl k
/-- churn/churnref16.Check -/
noncomputable def f_churnref16_Check (a0 : Api_Window) (a1 : Int) (a2 : Int) : Option Int :=
  ((bif (((((decide (a1 < 1)) || (decide (a1 > 8))) || (decide (a2 < 0))) || (decide (a2 > 4096))) || (decide (a0.Newest < 0))) || (decide (a0.Newest > 4611686018427387904)) then
    some true
  else
    (f_churnref16_Len a0).bind fun y19 =>
    some (decide (y19 > a2))
    : Option Bool)).bind fun x18 =>
  bif x18 then
    some 2
  else
    (((Loop.run (S := Int) (R := (Unit ⊕ Int)) (fun x726 =>
        bif decide (x726 < (a0.Epochs.length : Int)) then
          (((idx a0.Epochs x726).bind fun x900 =>
          bif (((decide (x900.Number < 0)) || (decide (x900.Number > a0.Newest))) || (decide (x900.Number ≤ (IntKind.wrap .i64 (a0.Newest - a1))))) || ((x900.Tags.length : Int) == 0) then
            some (.inl 2)
          else
            ((bif decide (x726 > 0) then
              (idx a0.Epochs (IntKind.wrap .i64 (x726 - 1))).bind fun x919 =>
              some (decide (x919.Number ≥ x900.Number))
            else
              some false
              : Option Bool)).bind fun x918 =>
            bif x918 then
              some (.inl 2)
            else
              (Loop.run (S := Int) (R := (Unit ⊕ Int)) (fun x938 =>
                  bif decide (x938 < (x900.Tags.length : Int)) then
                    (idx x900.Tags (IntKind.wrap .i64 (x938 - 1))).bind fun x950 =>
                    (idx x900.Tags x938).bind fun x952 =>
                    (f_churnref16_less x950 x952).bind fun y954 =>
                    bif !y954 then
                      some (.done (.inr 2))
                    else
                      some (.next (IntKind.wrap .i64 (x938 + 1)))
                  else
                    some (.done (.inl ()))) 1).bind fun r947 => match r947 with
                | .inl _ =>
                  some (.inr ())
                | .inr z =>
                  some (.inl z)
            : Option (Int ⊕ Unit))).bind fun r897 => match r897 with
            | .inl z =>
              some (.done (.inr z))
            | .inr _ =>
              some (.next (IntKind.wrap .i64 (x726 + 1)))
        else
          some (.done (.inl ()))) 0).bind fun r842 => match r842 with
      | .inl _ =>
        some (.inr ())
      | .inr z =>
        some (.inl z)
      : Option (Int ⊕ Unit))).bind fun r487 => match r487 with
      | .inl z =>
        some z
      | .inr _ =>
        (f_churnref16_all a0).bind fun y491 =>
        (f_churnref16_sorted 64 y491).bind fun y493 =>
        (f_churnref16_Len a0).bind fun y495 =>
        bif (y493.length : Int) != y495 then
          some 2
        else
          some 0
theorem f_churnref16_Check_ok {a0 : Api_Window} {a1 : Int} {a2 : Int} {r0 : Int} (hF : f_churnref16_Check a0 a1 a2 = some r0) (L : List Res) : Ok Try.prog 17 [SV.val kApi_Window a0, SV.raw (.int .i64 a1), SV.raw (.int .i64 a2)] (L) (SV.raw (.int .i64 r0)) (L) := by
  unfold f_churnref16_Check at hF
  refine Ok.intro 118 [(0, .val kApi_Window a0), (1, .raw (.int .i64 a1)), (2, .raw (.int .i64 a2))] Try.func17 rfl rfl rfl rfl (fun F0 => ?_)
  refine sr <| Under.bxF (K := kApi_Window) rfl rdV rfl <| ag rfl rfl <| nt <| sq <| sr <| mv rfl rfl <| bn rfl rfl rfl rfl <| mv rfl rfl <| runj_3 15 ((decide (a1 < 1)) || (decide (a1 > 8))) ?_ (fun k => ?_)
  ·refine mv rfl rfl <| runj_3 19 (((decide (a1 < 1)) || (decide (a1 > 8))) || (decide (a2 < 0))) ?_ (fun k => ?_)
   ·refine mv rfl rfl <| runj_3 23 ((((decide (a1 < 1)) || (decide (a1 > 8))) || (decide (a2 < 0))) || (decide (a2 > 4096))) ?_ (fun k => ?_)
    ·refine mv rfl rfl <| runj_4 28 (((((decide (a1 < 1)) || (decide (a1 > 8))) || (decide (a2 < 0))) || (decide (a2 > 4096))) || (decide (a0.Newest < 0))) ?_ (fun k => ?_)
     ·refine mv rfl rfl <| runj_4 33 ((((((decide (a1 < 1)) || (decide (a1 > 8))) || (decide (a2 < 0))) || (decide (a2 > 4096))) || (decide (a0.Newest < 0))) || (decide (a0.Newest > 4611686018427387904))) ?_ (fun k => ?_)
      ·obtain ⟨x18, h17, hF⟩ := bsome hF
       refine mv rfl rfl <| runj_5 39 x18 ?_ (fun k => ?_)
       ·refine nt <| Under.ite hF rfl (fun hF => ?_) (fun hF => ?_)
        ·refine sr <| ag rfl rfl <| nt <| rt ?_
         have e21 := osi hF
         subst e21
         exact Under.rets Try.results17 (.tm rfl .nil) rfl rfl
        ·obtain ⟨r487, h488, hF⟩ := bsome hF
         refine ct <| sq <| Under.after (fun X => ∀ (_ : Unit), r487 = (.inr ()) → Under F0 118 [(3, .ptr kApi_Window a0)] (L) X) ?_ ?_
         ·intro _ h972
          replace h972 := h972.symm
          subst h972
          obtain ⟨y491, h492, hF⟩ := bsome hF
          obtain ⟨y493, h494, hF⟩ := bsome hF
          obtain ⟨y495, h496, hF⟩ := bsome hF
          refine sq <| sq <| Under.phases rfl <| Under.grpT (L := L) [0, 1, 2, 3, 4, 5, 6] [[3], [111], [112], [113], [3], [115], [114, 116]] [⟨sk0 (.val kApi_Window a0), [], []⟩, ⟨sk0 (.val K0 y491), [], []⟩, ⟨sk0 (.val K0 y493), [], []⟩, ⟨sk0 (.raw (.int .i64 (y493.length : Int))), [], []⟩, ⟨sk0 (.val kApi_Window a0), [], []⟩, ⟨sk0 (.raw (.int .i64 y495)), [], []⟩, ⟨sk0 (.raw (.bool ((y493.length : Int) != y495))), [], []⟩] [] (fun T : List Res => T) lf0 rfl (by kernel_rfl) rfl rfl (fun F hF0 bs490 => ?_)
          refine Tq.v (fun G T hG => ?_) ?_
          ·exact ov (OpV.ld kt27 rfl) rfl <| Tq.end undef rfl rfl
          refine Tq.v (fun G T hG => ?_) ?_
          ·exact Under.call Try.call41 rfl rfl (f_churnref16_all_ok h492 _) rfl <| Tq.end undef rfl rfl
          refine Tq.v (fun G T hG => ?_) ?_
          ·exact Under.call Try.call40 rfl rfl (f_churnref16_sorted_ok h494 _) rfl <| Tq.end undef rfl rfl
          refine Tq.v (fun G T hG => ?_) ?_
          ·exact ov (OpV.len Try.underlying36 rfl rdV) rfl <| Tq.end undef rfl rfl
          refine Tq.v (fun G T hG => ?_) ?_
          ·exact ov (OpV.ld kt27 rfl) rfl <| Tq.end undef rfl rfl
          refine Tq.v (fun G T hG => ?_) ?_
          ·exact Under.call Try.call19 rfl rfl (f_churnref16_Len_ok h496 _) rfl <| Tq.end undef rfl rfl
          refine Tq.v (fun G T hG => ?_) ?_
          ·exact bn rfl rfl rfl rfl <| Tq.end undef rfl rfl
          refine Tq.nil <| Under.le hF0 <| Under.pdone rfl <| tn <| Under.ite hF rfl (fun hF => ?_) (fun hF => ?_)
          ·refine sr <| ag rfl rfl <| nt <| rt ?_
           have e497 := osi hF
           subst e497
           exact Under.rets Try.results17 (.tm rfl .nil) rfl rfl
          ·refine ct <| sr <| ag rfl rfl <| nt <| rc ?_
           have e498 := osi hF
           subst e498
           exact Under.rets Try.results17 (.tm rfl .nil) rfl rfl
         ·intro K k489
          obtain ⟨r842, h843, h488⟩ := bsome h488
          refine sr <| ag rfl rfl <| nt <| bk <| Under.loop (S := Int) (C := Unit) () (fun (x969 : Int) (q970 : Unit) => [(1, .raw (.int .i64 a1)), (3, .ptr kApi_Window a0), (7, .raw (.int .i64 x969))]) (fun (x969 : Int) (q970 : Unit) => L) h843 (s3 rfl rfl rfl) rfl (fun x969 q970 o844 h840 d841 => ?_)
          refine sq <| sr <| mv rfl rfl <| ov (OpV.fd fb27_1 rfl rfl) rfl <| ov (OpV.ld kt25 rfl) rfl <| ov (OpV.len Try.underlying25 rfl rdV) rfl <| bn rfl rfl rfl rfl <| nt <| Under.ite h840 rfl (fun h840 => ?_) (fun h840 => ?_)
          ·obtain ⟨r897, h898, h840⟩ := bsome h840
           refine ct <| sq <| Under.after (fun X => ∀ (_ : Unit), r897 = (.inr ()) → Under F0 118 [(1, .raw (.int .i64 a1)), (3, .ptr kApi_Window a0), (7, .raw (.int .i64 x969))] (L) X) ?_ ?_
           ·intro _ h966
            replace h966 := h966.symm
            subst h966
            exact rg <| mv rfl rfl <| bn rfl rfl rfl rfl <| ag rfl rfl <| nl <| Under.next _ () h840 (s3 rfl rfl rfl) rfl
           ·intro K k899
            obtain ⟨x900, h901, h898⟩ := bsome h898
            refine bk <| sr <| ov (OpV.fd fb27_1 rfl rfl) rfl <| ov (OpV.ld kt25 rfl) rfl <| mv rfl rfl <| ov (OpV.ixS h901 Try.underlying25 sz61 rfl rdV rfl) rfl <| ov (OpV.ld kt61 rfl) rfl <| Under.al ZT61 rfl fun b902 => Under.stP (x' := x900) .box .id sz61_kApi_Epoch rfl rfl rdV rfl <| nl <| Under.frz (t := 8) rfl <| tn <| sq <| sr <| ov (OpV.fd fb61_0 rfl rfl) rfl <| ov (OpV.ldI kt2 rfl) rfl <| bn rfl rfl rfl rfl <| mv rfl rfl <| runj_6 61 ((decide (x900.Number < 0)) || (decide (x900.Number > a0.Newest))) ?_ (fun k => ?_)
            ·refine mv rfl rfl <| runj_8 70 (((decide (x900.Number < 0)) || (decide (x900.Number > a0.Newest))) || (decide (x900.Number ≤ (IntKind.wrap .i64 (a0.Newest - a1))))) ?_ (fun k => ?_)
             ·refine mv rfl rfl <| runj_5 76 ((((decide (x900.Number < 0)) || (decide (x900.Number > a0.Newest))) || (decide (x900.Number ≤ (IntKind.wrap .i64 (a0.Newest - a1))))) || ((x900.Tags.length : Int) == 0)) ?_ (fun k => ?_)
              ·refine nt <| Under.ite h898 rfl (fun h898 => ?_) (fun h898 => ?_)
               ·refine sr <| ag rfl rfl <| nt <| rt <| Under.bR <| tr ?_
                have e912 := osi h898
                subst e912
                have e913 := done_eq h840 d841
                subst e913
                refine tr <| Under.bR <| tr ?_
                have e914 := osi h488
                subst e914
                have e915 := osi hF
                subst e915
                exact Under.rets Try.results17 (.tm rfl .nil) rfl rfl
               ·obtain ⟨x918, h917, h898⟩ := bsome h898
                refine ct <| sq <| sq <| dw rfl (by kernel_rfl) fun F hF0 => mvq rfl rfl <| bnq rfl rfl rfl rfl <| mvq rfl rfl <| runj_11q 90 x918 ?_ (fun k => ?_)
                ·refine nlq hF0 <| tn <| Under.ite h898 rfl (fun h898 => ?_) (fun h898 => ?_)
                 ·refine sr <| ag rfl rfl <| nt <| rt <| Under.bR <| tr ?_
                  have e921 := osi h898
                  subst e921
                  have e922 := done_eq h840 d841
                  subst e922
                  refine tr <| Under.bR <| tr ?_
                  have e923 := osi h488
                  subst e923
                  have e924 := osi hF
                  subst e924
                  exact Under.rets Try.results17 (.tm rfl .nil) rfl rfl
                 ·obtain ⟨r947, h948, h898⟩ := bsome h898
                  refine ct <| sr <| ag rfl rfl <| nt <| bk <| Under.loop (S := Int) (C := Unit) () (fun (x963 : Int) (q964 : Unit) => [(1, .raw (.int .i64 a1)), (3, .ptr kApi_Window a0), (7, .raw (.int .i64 x969)), (8, .ptr kApi_Epoch x900), (9, .raw (.int .i64 x963))]) (fun (x963 : Int) (q964 : Unit) => L) h948 (s5 rfl rfl rfl rfl rfl) rfl (fun x963 q964 o949 h945 d946 => ?_)
                  refine sq <| sr <| mv rfl rfl <| ov (OpV.fd fb61_1 rfl rfl) rfl <| ov (OpV.ld kt36 rfl) rfl <| ov (OpV.len Try.underlying36 rfl rdV) rfl <| bn rfl rfl rfl rfl <| nt <| Under.ite h945 rfl (fun h945 => ?_) (fun h945 => ?_)
                  ·obtain ⟨x950, h951, h945⟩ := bsome h945
                   obtain ⟨x952, h953, h945⟩ := bsome h945
                   obtain ⟨y954, h955, h945⟩ := bsome h945
                   refine ct <| sq <| bk <| sq <| dw rfl (by kernel_rfl) fun F hF0 => oq (OpV.fd fb61_1 rfl rfl) rfl <| oq (OpV.ld kt36 rfl) rfl <| mvq rfl rfl <| bnq rfl rfl rfl rfl <| oq (OpV.ixS h951 Try.underlying36 sz43 rfl rdV rfl) rfl <| oq (OpV.ld kt43 rfl) rfl <| oq (OpV.fd fb61_1 rfl rfl) rfl <| oq (OpV.ld kt36 rfl) rfl <| mvq rfl rfl <| oq (OpV.ixS h953 Try.underlying36 sz43 rfl rdV rfl) rfl <| oq (OpV.ld kt43 rfl) rfl <| oq (OpV.call Try.call39 rfl rfl (fun L => (f_churnref16_less_ok h955 L))) rfl <| oq (OpV.not rfl) rfl <| nlq hF0 <| tn <| Under.ite h945 rfl (fun h945 => ?_) (fun h945 => ?_)
                   ·refine sr <| ag rfl rfl <| nt <| rc <| Under.bR <| tr ?_
                    have e956 := done_eq h945 d946
                    subst e956
                    refine tr <| Under.bR <| Under.bR <| tr ?_
                    have e957 := osi h898
                    subst e957
                    have e958 := done_eq h840 d841
                    subst e958
                    refine tr <| Under.bR <| tr ?_
                    have e959 := osi h488
                    subst e959
                    have e960 := osi hF
                    subst e960
                    exact Under.rets Try.results17 (.tm rfl .nil) rfl rfl
                   ·exact cs <| bN <| tn <| rg <| mv rfl rfl <| bn rfl rfl rfl rfl <| ag rfl rfl <| nl <| Under.next _ () h945 (s5 rfl rfl rfl rfl rfl) rfl
                  ·refine xt <| te ?_
                   have e961 := done_eq h945 d946
                   subst e961
                   exact te <| bh <| bN <| tn <| wk (k899 () (osi h898).symm) (s3 rfl rfl rfl)
                ·refine byq (t := 79) rfl (fun c916 => ?_) (fun c916 => ?_)
                 ·replace h917 := ctrue c916 h917
                  obtain ⟨x919, h920, h917⟩ := bsome h917
                  exact gq c916 rfl rfl <| oq (OpV.fd fb27_1 rfl rfl) rfl <| gq c916 rfl rfl <| oq (OpV.ld kt25 rfl) rfl <| gq c916 rfl rfl <| mvq rfl rfl <| gq c916 rfl rfl <| bnq rfl rfl rfl rfl <| gq c916 rfl rfl <| oq (OpV.ixS h920 Try.underlying25 sz61 rfl rdV rfl) rfl <| gq c916 rfl rfl <| oq (OpV.fd fb61_0 rfl rfl) rfl <| gq c916 rfl rfl <| oq (OpV.ldI kt2 rfl) rfl <| gq c916 rfl rfl <| oq (OpV.fd fb61_0 rfl rfl) rfl <| gq c916 rfl rfl <| oq (OpV.ldI kt2 rfl) rfl <| gq c916 rfl rfl <| bnq rfl rfl rfl rfl <| oq (pkT c916 rfl rfl) rfl <| rfq 10 (rbq h917) rfl k
                 ·replace h917 := cfalse c916 h917
                  exact skq c916 rfl rfl rfl <| skq c916 rfl rfl rfl <| skq c916 rfl rfl rfl <| skq c916 rfl rfl rfl <| skq c916 rfl rfl rfl <| skq c916 rfl rfl rfl <| skq c916 rfl rfl rfl <| skq c916 rfl rfl rfl <| skq c916 rfl rfl rfl <| skq c916 rfl rfl rfl <| oq (pkF c916 rfl rfl) rfl <| rfq 10 (rbq h917) rfl k
              ·refine by_ (t := 71) rfl (fun c909 => ?_) (fun c909 => ?_)
               ·exact sk c909 rfl rfl rfl <| sk c909 rfl rfl rfl <| sk c909 rfl rfl rfl <| sk c909 rfl rfl rfl <| ov (pkT c909 rfl rfl) rfl <| rf 4 (or_t (e := (x900.Tags.length : Int) == 0) c909) rfl k
               ·exact gc c909 rfl rfl <| ov (OpV.fd fb61_1 rfl rfl) rfl <| gc c909 rfl rfl <| ov (OpV.ld kt36 rfl) rfl <| gc c909 rfl rfl <| ov (OpV.len Try.underlying36 rfl rdV) rfl <| gc c909 rfl rfl <| bn rfl rfl rfl rfl <| ov (pkF c909 rfl rfl) rfl <| rf 4 (or_f c909) rfl k
             ·refine by_ (t := 62) rfl (fun c906 => ?_) (fun c906 => ?_)
              ·exact sk c906 rfl rfl rfl <| sk c906 rfl rfl rfl <| sk c906 rfl rfl rfl <| sk c906 rfl rfl rfl <| sk c906 rfl rfl rfl <| sk c906 rfl rfl rfl <| sk c906 rfl rfl rfl <| ov (pkT c906 rfl rfl) rfl <| rf 7 (or_t (e := decide (x900.Number ≤ (IntKind.wrap .i64 (a0.Newest - a1)))) c906) rfl k
              ·exact gc c906 rfl rfl <| ov (OpV.fd fb61_0 rfl rfl) rfl <| gc c906 rfl rfl <| ov (OpV.ldI kt2 rfl) rfl <| gc c906 rfl rfl <| ov (OpV.fd fb27_0 rfl rfl) rfl <| gc c906 rfl rfl <| ov (OpV.ldI kt2 rfl) rfl <| gc c906 rfl rfl <| mv rfl rfl <| gc c906 rfl rfl <| bn rfl rfl rfl rfl <| gc c906 rfl rfl <| bn rfl rfl rfl rfl <| ov (pkF c906 rfl rfl) rfl <| rf 7 (or_f c906) rfl k
            ·refine by_ (t := 55) rfl (fun c903 => ?_) (fun c903 => ?_)
             ·exact sk c903 rfl rfl rfl <| sk c903 rfl rfl rfl <| sk c903 rfl rfl rfl <| sk c903 rfl rfl rfl <| sk c903 rfl rfl rfl <| ov (pkT c903 rfl rfl) rfl <| rf 5 (or_t (e := decide (x900.Number > a0.Newest)) c903) rfl k
             ·exact gc c903 rfl rfl <| ov (OpV.fd fb61_0 rfl rfl) rfl <| gc c903 rfl rfl <| ov (OpV.ldI kt2 rfl) rfl <| gc c903 rfl rfl <| ov (OpV.fd fb27_0 rfl rfl) rfl <| gc c903 rfl rfl <| ov (OpV.ldI kt2 rfl) rfl <| gc c903 rfl rfl <| bn rfl rfl rfl rfl <| ov (pkF c903 rfl rfl) rfl <| rf 5 (or_f c903) rfl k
          ·refine xt <| te ?_
           have e967 := done_eq h840 d841
           subst e967
           exact te <| bh <| tn <| wk (k489 () (osi h488).symm) (s1 rfl)
       ·refine by_ (t := 34) rfl (fun c16 => ?_) (fun c16 => ?_)
        ·replace h17 := ctrue c16 h17
         exact sk c16 rfl rfl rfl <| sk c16 rfl rfl rfl <| sk c16 rfl rfl rfl <| sk c16 rfl rfl rfl <| ov (pkT c16 rfl rfl) rfl <| rf 4 (rbq h17) rfl k
        ·replace h17 := cfalse c16 h17
         obtain ⟨y19, h20, h17⟩ := bsome h17
         exact gc c16 rfl rfl <| ov (OpV.ld kt27 rfl) rfl <| gc c16 rfl rfl <| Under.call Try.call19 rfl rfl (f_churnref16_Len_ok h20 _) rfl <| gc c16 rfl rfl <| mv rfl rfl <| gc c16 rfl rfl <| bn rfl rfl rfl rfl <| ov (pkF c16 rfl rfl) rfl <| rf 4 (rbq h17) rfl k
      ·refine by_ (t := 29) rfl (fun c13 => ?_) (fun c13 => ?_)
       ·exact sk c13 rfl rfl rfl <| sk c13 rfl rfl rfl <| sk c13 rfl rfl rfl <| ov (pkT c13 rfl rfl) rfl <| rf 3 (or_t (e := decide (a0.Newest > 4611686018427387904)) c13) rfl k
       ·exact gc c13 rfl rfl <| ov (OpV.fd fb27_0 rfl rfl) rfl <| gc c13 rfl rfl <| ov (OpV.ldI kt2 rfl) rfl <| gc c13 rfl rfl <| bn rfl rfl rfl rfl <| ov (pkF c13 rfl rfl) rfl <| rf 3 (or_f c13) rfl k
     ·refine by_ (t := 24) rfl (fun c10 => ?_) (fun c10 => ?_)
      ·exact sk c10 rfl rfl rfl <| sk c10 rfl rfl rfl <| sk c10 rfl rfl rfl <| ov (pkT c10 rfl rfl) rfl <| rf 3 (or_t (e := decide (a0.Newest < 0)) c10) rfl k
      ·exact gc c10 rfl rfl <| ov (OpV.fd fb27_0 rfl rfl) rfl <| gc c10 rfl rfl <| ov (OpV.ldI kt2 rfl) rfl <| gc c10 rfl rfl <| bn rfl rfl rfl rfl <| ov (pkF c10 rfl rfl) rfl <| rf 3 (or_f c10) rfl k
    ·refine by_ (t := 20) rfl (fun c7 => ?_) (fun c7 => ?_)
     ·exact sk c7 rfl rfl rfl <| sk c7 rfl rfl rfl <| ov (pkT c7 rfl rfl) rfl <| rf 2 (or_t (e := decide (a2 > 4096)) c7) rfl k
     ·exact gc c7 rfl rfl <| mv rfl rfl <| gc c7 rfl rfl <| bn rfl rfl rfl rfl <| ov (pkF c7 rfl rfl) rfl <| rf 2 (or_f c7) rfl k
   ·refine by_ (t := 16) rfl (fun c4 => ?_) (fun c4 => ?_)
    ·exact sk c4 rfl rfl rfl <| sk c4 rfl rfl rfl <| ov (pkT c4 rfl rfl) rfl <| rf 2 (or_t (e := decide (a2 < 0)) c4) rfl k
    ·exact gc c4 rfl rfl <| mv rfl rfl <| gc c4 rfl rfl <| bn rfl rfl rfl rfl <| ov (pkF c4 rfl rfl) rfl <| rf 2 (or_f c4) rfl k
  ·refine by_ (t := 12) rfl (fun c1 => ?_) (fun c1 => ?_)
   ·exact sk c1 rfl rfl rfl <| sk c1 rfl rfl rfl <| ov (pkT c1 rfl rfl) rfl <| rf 2 (or_t (e := decide (a1 > 8)) c1) rfl k
   ·exact gc c1 rfl rfl <| mv rfl rfl <| gc c1 rfl rfl <| bn rfl rfl rfl rfl <| ov (pkF c1 rfl rfl) rfl <| rf 2 (or_f c1) rfl k
/-- churn/churnref16.Has -/
noncomputable def f_churnref16_Has (a0 : Api_Window) (a1 : List Int) : Option Bool :=
  (((Loop.run (S := Int) (R := (Unit ⊕ Bool)) (fun x479 =>
      bif decide (x479 < (a0.Epochs.length : Int)) then
        (((Loop.run (S := Int) (R := (Unit ⊕ Bool)) (fun x613 =>
            (idx a0.Epochs x479).bind fun x625 =>
            bif decide (x613 < (x625.Tags.length : Int)) then
              (idx a0.Epochs x479).bind fun x627 =>
              (idx x627.Tags x613).bind fun x629 =>
              bif x629 == a1 then
                some (.done (.inr true))
              else
                some (.next (IntKind.wrap .i64 (x613 + 1)))
            else
              some (.done (.inl ()))) 0).bind fun r622 => match r622 with
          | .inl _ =>
            some (.inr ())
          | .inr z =>
            some (.inl z)
          : Option (Bool ⊕ Unit))).bind fun r597 => match r597 with
          | .inl z =>
            some (.done (.inr z))
          | .inr _ =>
            some (.next (IntKind.wrap .i64 (x479 + 1)))
      else
        some (.done (.inl ()))) 0).bind fun r559 => match r559 with
    | .inl _ =>
      some (.inr ())
    | .inr z =>
      some (.inl z)
    : Option (Bool ⊕ Unit))).bind fun r320 => match r320 with
    | .inl z =>
      some z
    | .inr _ =>
      some false
theorem f_churnref16_Has_ok {a0 : Api_Window} {a1 : List Int} {r0 : Bool} (hF : f_churnref16_Has a0 a1 = some r0) (L : List Res) : Ok Try.prog 21 [SV.val kApi_Window a0, SV.val K1 a1] (L) (SV.raw (.bool r0)) (L) := by
  unfold f_churnref16_Has at hF
  refine Ok.intro 36 [(0, .val kApi_Window a0), (1, .val K1 a1)] Try.func21 rfl rfl rfl rfl (fun F0 => ?_)
  obtain ⟨r320, h321, hF⟩ := bsome hF
  refine sr <| Under.bxF (K := kApi_Window) rfl rdV rfl <| Under.bxF (K := kArr 16 K2) rfl rdV rfl <| ag rfl rfl <| nt <| sq <| Under.after (fun X => ∀ (_ : Unit), r320 = (.inr ()) → Under F0 36 [] (L) X) ?_ ?_
  ·intro _ h647
   replace h647 := h647.symm
   subst h647
   refine sr <| ag rfl rfl <| nt <| rc ?_
   have e323 := osi hF
   subst e323
   exact Under.rets Try.results21 (.tm rfl .nil) rfl rfl
  ·intro K k322
   obtain ⟨r559, h560, h321⟩ := bsome h321
   refine sr <| ag rfl rfl <| nt <| bk <| Under.loop (S := Int) (C := Unit) () (fun (x644 : Int) (q645 : Unit) => [(2, .ptr kApi_Window a0), (3, .ptr K1 a1), (5, .raw (.int .i64 x644))]) (fun (x644 : Int) (q645 : Unit) => L) h560 (s3 rfl rfl rfl) rfl (fun x644 q645 o561 h557 d558 => ?_)
   refine sq <| sr <| mv rfl rfl <| ov (OpV.fd fb27_1 rfl rfl) rfl <| ov (OpV.ld kt25 rfl) rfl <| ov (OpV.len Try.underlying25 rfl rdV) rfl <| bn rfl rfl rfl rfl <| nt <| Under.ite h557 rfl (fun h557 => ?_) (fun h557 => ?_)
   ·obtain ⟨r597, h598, h557⟩ := bsome h557
    refine ct <| sq <| Under.after (fun X => ∀ (_ : Unit), r597 = (.inr ()) → Under F0 36 [(2, .ptr kApi_Window a0), (3, .ptr K1 a1), (5, .raw (.int .i64 x644))] (L) X) ?_ ?_
    ·intro _ h641
     replace h641 := h641.symm
     subst h641
     exact rg <| mv rfl rfl <| bn rfl rfl rfl rfl <| ag rfl rfl <| nl <| Under.next _ () h557 (s3 rfl rfl rfl) rfl
    ·intro K k599
     obtain ⟨r622, h623, h598⟩ := bsome h598
     refine bk <| sr <| ag rfl rfl <| nt <| bk <| Under.loop (S := Int) (C := Unit) () (fun (x638 : Int) (q639 : Unit) => [(2, .ptr kApi_Window a0), (3, .ptr K1 a1), (5, .raw (.int .i64 x644)), (6, .raw (.int .i64 x638))]) (fun (x638 : Int) (q639 : Unit) => L) h623 (s4 rfl rfl rfl rfl) rfl (fun x638 q639 o624 h620 d621 => ?_)
     obtain ⟨x625, h626, h620⟩ := bsome h620
     refine sq <| sr <| mv rfl rfl <| ov (OpV.fd fb27_1 rfl rfl) rfl <| ov (OpV.ld kt25 rfl) rfl <| mv rfl rfl <| ov (OpV.ixS h626 Try.underlying25 sz61 rfl rdV rfl) rfl <| ov (OpV.fd fb61_1 rfl rfl) rfl <| ov (OpV.ld kt36 rfl) rfl <| ov (OpV.len Try.underlying36 rfl rdV) rfl <| bn rfl rfl rfl rfl <| nt <| Under.ite h620 rfl (fun h620 => ?_) (fun h620 => ?_)
     ·obtain ⟨x627, h628, h620⟩ := bsome h620
      obtain ⟨x629, h630, h620⟩ := bsome h620
      refine ct <| sq <| bk <| sq <| dw rfl (by kernel_rfl) fun F hF0 => oq (OpV.fd fb27_1 rfl rfl) rfl <| oq (OpV.ld kt25 rfl) rfl <| mvq rfl rfl <| oq (OpV.ixS h628 Try.underlying25 sz61 rfl rdV rfl) rfl <| oq (OpV.fd fb61_1 rfl rfl) rfl <| oq (OpV.ld kt36 rfl) rfl <| mvq rfl rfl <| oq (OpV.ixS h630 Try.underlying36 sz43 rfl rdV rfl) rfl <| oq (OpV.ld kt43 rfl) rfl <| oq (OpV.ld kt43 rfl) rfl <| oq (OpV.eqK eqk43 eqg43 rfl rfl rfl rdV rfl rdV) rfl <| nlq hF0 <| tn <| Under.ite h620 rfl (fun h620 => ?_) (fun h620 => ?_)
      ·refine sr <| ag rfl rfl <| nt <| rc <| Under.bR <| tr ?_
       have e631 := done_eq h620 d621
       subst e631
       refine tr <| Under.bR <| Under.bR <| tr ?_
       have e632 := osi h598
       subst e632
       have e633 := done_eq h557 d558
       subst e633
       refine tr <| Under.bR <| tr ?_
       have e634 := osi h321
       subst e634
       have e635 := osi hF
       subst e635
       exact Under.rets Try.results21 (.tm rfl .nil) rfl rfl
      ·exact cs <| bN <| tn <| rg <| mv rfl rfl <| bn rfl rfl rfl rfl <| ag rfl rfl <| nl <| Under.next _ () h620 (s4 rfl rfl rfl rfl) rfl
     ·refine xt <| te ?_
      have e636 := done_eq h620 d621
      subst e636
      exact te <| bh <| bN <| tn <| wk (k599 () (osi h598).symm) (s3 rfl rfl rfl)
   ·refine xt <| te ?_
    have e642 := done_eq h557 d558
    subst e642
    exact te <| bh <| tn <| wk (k322 () (osi h321).symm) (sub_nil _)
/-- churn/churnlaw16.WindowChecks -/
noncomputable def f_churnlaw16_WindowChecks (a0 : Churnlaw16_Look) : Option Bool :=
  (f_churnlaw16_alive).bind fun y1 =>
  bif !y1 then
    some false
  else
    (f_window_Check a0.W a0.Span a0.Room).bind fun y6 =>
    (f_churnref16_Check a0.W a0.Span a0.Room).bind fun y8 =>
    ((bif y6 != y8 then
      some true
    else
      (f_window_Len a0.W).bind fun y13 =>
      (f_churnref16_Len a0.W).bind fun y15 =>
      some (y13 != y15)
      : Option Bool)).bind fun x12 =>
    bif x12 then
      some false
    else
      (((Loop.run (S := Int) (R := (Unit ⊕ Bool)) (fun x82 =>
          bif decide (x82 < (a0.Tags.length : Int)) then
            (idx a0.Tags x82).bind fun x96 =>
            (f_window_Has a0.W x96).bind fun y98 =>
            (idx a0.Tags x82).bind fun x100 =>
            (f_churnref16_Has a0.W x100).bind fun y102 =>
            bif y98 != y102 then
              some (.done (.inr false))
            else
              some (.next (IntKind.wrap .i64 (x82 + 1)))
          else
            some (.done (.inl ()))) 0).bind fun r93 => match r93 with
        | .inl _ =>
          some (.inr ())
        | .inr z =>
          some (.inl z)
        : Option (Bool ⊕ Unit))).bind fun r61 => match r61 with
        | .inl z =>
          some z
        | .inr _ =>
          some true
theorem f_churnlaw16_WindowChecks_ok {a0 : Churnlaw16_Look} {r0 : Bool} (hF : f_churnlaw16_WindowChecks a0 = some r0) (L : List Res) : Ok Try.prog 5 [SV.val kChurnlaw16_Look a0] (L) (SV.raw (.bool r0)) (L) := by
  unfold f_churnlaw16_WindowChecks at hF
  refine Ok.intro 53 [(0, .val kChurnlaw16_Look a0)] Try.func5 rfl rfl rfl rfl (fun F0 => ?_)
  obtain ⟨y1, h2, hF⟩ := bsome hF
  refine sr <| Under.bxF (K := kChurnlaw16_Look) rfl rdV rfl <| ag rfl rfl <| nt <| sq <| sr <| Under.call Try.call15 rfl rfl (f_churnlaw16_alive_ok h2 _) rfl <| ov (OpV.not rfl) rfl <| nt <| Under.ite hF rfl (fun hF => ?_) (fun hF => ?_)
  ·refine sr <| ag rfl rfl <| nt <| rt ?_
   have e3 := osi hF
   subst e3
   exact Under.rets Try.results5 (.tm rfl .nil) rfl rfl
  ·refine ct <| sq <| Under.phases rfl <| Under.grpT (L := L) [0, 1, 2, 3, 4, 5, 6, 7, 8, 9, 10, 11, 12] [[1], [10], [1], [12], [1], [14], [1], [16], [], [3, 11], [13], [15], [17]] [⟨sk0 (.ptr kApi_Window a0.W), [], []⟩, ⟨sk0 (.val kApi_Window a0.W), [], []⟩, ⟨sk0 (.ptr (kInt .i64) a0.Span), [], []⟩, ⟨sk0 (.raw (.int .i64 a0.Span)), [], []⟩, ⟨sk0 (.ptr (kInt .i64) a0.Room), [], []⟩, ⟨sk0 (.raw (.int .i64 a0.Room)), [], []⟩, ⟨sk0 (.ptr K0 a0.Tags), [], []⟩, ⟨sk0 (.val K0 a0.Tags), [], []⟩, ⟨sk1 8 (fun u8 => .raw (.pointer (some ⟨(vblk u8), 0, none⟩))), [], [(0, tk1 8 (fun u8 => .box kApi_Window (vblk u8) 27 (⟨0, []⟩ : Api_Window)))]⟩, ⟨sk0 (.raw undef), [0], [(1, tk1 8 (fun u8 => .box kApi_Window (vblk u8) 27 a0.W))]⟩, ⟨sk0 (.raw (.int .i64 a0.Span)), [], []⟩, ⟨sk0 (.raw (.int .i64 a0.Room)), [], []⟩, ⟨sk0 (.val K0 a0.Tags), [], []⟩] [] (fun T : List Res => T) lf0 rfl (by kernel_rfl) rfl rfl (fun F hF0 bs4 => ?_)
   refine Tq.v (fun G T hG => ?_) ?_
   ·exact ov (OpV.fd fb38_0 rfl rfl) rfl <| Tq.end undef rfl rfl
   refine Tq.v (fun G T hG => ?_) ?_
   ·exact ov (OpV.ld kt27 rfl) rfl <| Tq.end undef rfl rfl
   refine Tq.v (fun G T hG => ?_) ?_
   ·exact ov (OpV.fd fb38_1 rfl rfl) rfl <| Tq.end undef rfl rfl
   refine Tq.v (fun G T hG => ?_) ?_
   ·exact ov (OpV.ldI kt3 rfl) rfl <| Tq.end undef rfl rfl
   refine Tq.v (fun G T hG => ?_) ?_
   ·exact ov (OpV.fd fb38_2 rfl rfl) rfl <| Tq.end undef rfl rfl
   refine Tq.v (fun G T hG => ?_) ?_
   ·exact ov (OpV.ldI kt3 rfl) rfl <| Tq.end undef rfl rfl
   refine Tq.v (fun G T hG => ?_) ?_
   ·exact ov (OpV.fd fb38_3 rfl rfl) rfl <| Tq.end undef rfl rfl
   refine Tq.v (fun G T hG => ?_) ?_
   ·exact ov (OpV.ld kt36 rfl) rfl <| Tq.end undef rfl rfl
   refine Tq.st (.raw (.pointer (some ⟨(vblk (bs4 8)), 0, none⟩))) [] rfl rfl (fun G T hG => ?_) ?_
   ·exact Under.al ZT27 rfl fun b5 => Tq.end (.pointer (some ⟨b5, 0, none⟩)) rfl rfl
   refine Tq.st0 [.box kApi_Window (vblk (bs4 8)) 27 (⟨0, []⟩ : Api_Window)] rfl (fun G T hG => ?_) ?_
   ·exact Under.stP (x' := a0.W) .box .id sz27_kApi_Window rfl rfl rdV rfl <| Tq.end0 undef rfl
   refine Tq.v (fun G T hG => ?_) ?_
   ·exact ag rfl rfl <| Tq.end undef rfl rfl
   refine Tq.v (fun G T hG => ?_) ?_
   ·exact ag rfl rfl <| Tq.end undef rfl rfl
   refine Tq.v (fun G T hG => ?_) ?_
   ·exact ag rfl rfl <| Tq.end undef rfl rfl
   obtain ⟨y6, h7, hF⟩ := bsome hF
   obtain ⟨y8, h9, hF⟩ := bsome hF
   obtain ⟨x12, h11, hF⟩ := bsome hF
   refine Tq.nil <| Under.le hF0 <| Under.pdone rfl <| Under.frz (t := 3) rfl <| tn <| sq <| sq <| dw rfl (by kernel_rfl) fun F hF0 => oq (OpV.ld kt27 rfl) rfl <| mvq rfl rfl <| mvq rfl rfl <| oq (OpV.call Try.call16 rfl rfl (fun L => (f_window_Check_ok h7 L))) rfl <| oq (OpV.ld kt27 rfl) rfl <| mvq rfl rfl <| mvq rfl rfl <| oq (OpV.call Try.call17 rfl rfl (fun L => (f_churnref16_Check_ok h9 L))) rfl <| bnq rfl rfl rfl rfl <| mvq rfl rfl <| runj_6q 33 x12 ?_ (fun k => ?_)
   ·refine nlq hF0 <| tn <| Under.ite hF rfl (fun hF => ?_) (fun hF => ?_)
    ·refine sr <| ag rfl rfl <| nt <| rt ?_
     have e17 := osi hF
     subst e17
     exact Under.rets Try.results5 (.tm rfl .nil) rfl rfl
    ·obtain ⟨r61, h62, hF⟩ := bsome hF
     refine ct <| sq <| Under.after (fun X => ∀ (_ : Unit), r61 = (.inr ()) → Under F0 53 [] (L) X) ?_ ?_
     ·intro _ h112
      replace h112 := h112.symm
      subst h112
      refine sr <| ag rfl rfl <| nt <| rc ?_
      have e64 := osi hF
      subst e64
      exact Under.rets Try.results5 (.tm rfl .nil) rfl rfl
     ·intro K k63
      obtain ⟨r93, h94, h62⟩ := bsome h62
      refine sr <| ag rfl rfl <| nt <| bk <| Under.loop (S := Int) (C := Unit) () (fun (x109 : Int) (q110 : Unit) => [(3, .ptr kApi_Window a0.W), (6, .val K0 a0.Tags), (7, .raw (.int .i64 x109))]) (fun (x109 : Int) (q110 : Unit) => L) h94 (s3 rfl rfl rfl) rfl (fun x109 q110 o95 h91 d92 => ?_)
      refine sq <| sr <| mv rfl rfl <| mv rfl rfl <| ov (OpV.len Try.underlying36 rfl rdV) rfl <| bn rfl rfl rfl rfl <| nt <| Under.ite h91 rfl (fun h91 => ?_) (fun h91 => ?_)
      ·obtain ⟨x96, h97, h91⟩ := bsome h91
       obtain ⟨y98, h99, h91⟩ := bsome h91
       obtain ⟨x100, h101, h91⟩ := bsome h91
       obtain ⟨y102, h103, h91⟩ := bsome h91
       refine ct <| sq <| bk <| sq <| dw rfl (by kernel_rfl) fun F hF0 => oq (OpV.ld kt27 rfl) rfl <| mvq rfl rfl <| mvq rfl rfl <| oq (OpV.ixS h97 Try.underlying36 sz43 rfl rdV rfl) rfl <| oq (OpV.ld kt43 rfl) rfl <| oq (OpV.call Try.call20 rfl rfl (fun L => (f_window_Has_ok h99 L))) rfl <| oq (OpV.ld kt27 rfl) rfl <| mvq rfl rfl <| mvq rfl rfl <| oq (OpV.ixS h101 Try.underlying36 sz43 rfl rdV rfl) rfl <| oq (OpV.ld kt43 rfl) rfl <| oq (OpV.call Try.call21 rfl rfl (fun L => (f_churnref16_Has_ok h103 L))) rfl <| oq (OpV.eqBn Try.underlying4 rfl rfl) rfl <| nlq hF0 <| tn <| Under.ite h91 rfl (fun h91 => ?_) (fun h91 => ?_)
       ·refine sr <| ag rfl rfl <| nt <| rc <| Under.bR <| tr ?_
        have e104 := done_eq h91 d92
        subst e104
        refine tr <| Under.bR <| tr ?_
        have e105 := osi h62
        subst e105
        have e106 := osi hF
        subst e106
        exact Under.rets Try.results5 (.tm rfl .nil) rfl rfl
       ·exact cs <| bN <| tn <| rg <| mv rfl rfl <| bn rfl rfl rfl rfl <| ag rfl rfl <| nl <| Under.next _ () h91 (s3 rfl rfl rfl) rfl
      ·refine xt <| te ?_
       have e107 := done_eq h91 d92
       subst e107
       exact te <| bh <| tn <| wk (k63 () (osi h62).symm) (sub_nil _)
   ·refine byq (t := 27) rfl (fun c10 => ?_) (fun c10 => ?_)
    ·replace h11 := ctrue c10 h11
     exact skq c10 rfl rfl rfl <| skq c10 rfl rfl rfl <| skq c10 rfl rfl rfl <| skq c10 rfl rfl rfl <| skq c10 rfl rfl rfl <| oq (pkT c10 rfl rfl) rfl <| rfq 5 (rbq h11) rfl k
    ·replace h11 := cfalse c10 h11
     obtain ⟨y13, h14, h11⟩ := bsome h11
     obtain ⟨y15, h16, h11⟩ := bsome h11
     exact gq c10 rfl rfl <| oq (OpV.ld kt27 rfl) rfl <| gq c10 rfl rfl <| oq (OpV.call Try.call18 rfl rfl (fun L => (f_window_Len_ok h14 L))) rfl <| gq c10 rfl rfl <| oq (OpV.ld kt27 rfl) rfl <| gq c10 rfl rfl <| oq (OpV.call Try.call19 rfl rfl (fun L => (f_churnref16_Len_ok h16 L))) rfl <| gq c10 rfl rfl <| bnq rfl rfl rfl rfl <| oq (pkF c10 rfl rfl) rfl <| rfq 5 (rbq h11) rfl k
/-- churn/churnref16.Open -/
noncomputable def f_churnref16_Open (a0 : Api_Window) (a1 : Int) (a2 : Int) : Option (Api_Window × Int) :=
  bif (((decide (a2 < 1)) || (decide (a2 > 8))) || (decide (a1 < 0))) || (decide (a1 > 4611686018427387904)) then
    some ((⟨0, []⟩ : Api_Window), 2)
  else
    bif (decide (a0.Newest ≥ (IntKind.wrap .i64 (a1 + a2)))) || (decide (a0.Newest < (IntKind.wrap .i64 (a1 - 1024)))) then
      some ((⟨0, []⟩ : Api_Window), 161)
    else
      (((Loop.run (S := (Int × (List Api_Epoch))) (R := Api_Window) (fun (x208, x210) =>
          bif decide (x208 < (a0.Epochs.length : Int)) then
            (((idx a0.Epochs x208).bind fun x260 =>
            bif decide (x260.Number > (IntKind.wrap .i64 ((max a0.Newest a1) - a2))) then
              (app [] x260.Tags).bind fun z263 =>
              (app x210 [(⟨x260.Number, z263⟩ : Api_Epoch)]).bind fun z266 =>
              some z266
            else
              some x210
              : Option (List Api_Epoch))).bind fun x256 =>
            some (.next (IntKind.wrap .i64 (x208 + 1), x256))
          else
            some (.done (⟨max a0.Newest a1, x210⟩ : Api_Window))) (0, [])).bind fun x239 =>
      some x239
        : Option Api_Window)).bind fun x144 =>
      some (x144, 0)
theorem f_churnref16_Open_ok {a0 : Api_Window} {a1 : Int} {a2 : Int} {r0 : (Api_Window × Int)} (hF : f_churnref16_Open a0 a1 a2 = some r0) (L : List Res) : Ok Try.prog 22 [SV.val kApi_Window a0, SV.raw (.int .i64 a1), SV.raw (.int .i64 a2)] (L) (SV.tup [SV.val kApi_Window r0.1, SV.raw (.int .i64 r0.2)]) (L) := by
  unfold f_churnref16_Open at hF
  refine Ok.intro 79 [(0, .val kApi_Window a0), (1, .raw (.int .i64 a1)), (2, .raw (.int .i64 a2))] Try.func22 rfl rfl rfl rfl (fun F0 => ?_)
  refine sr <| Under.bxF (K := kApi_Window) rfl rdV rfl <| Under.al ZT27 rfl fun b1 => ag rfl rfl <| nt <| sq <| sr <| mv rfl rfl <| bn rfl rfl rfl rfl <| mv rfl rfl <| runj_3 17 ((decide (a2 < 1)) || (decide (a2 > 8))) ?_ (fun k => ?_)
  ·refine mv rfl rfl <| runj_3 21 (((decide (a2 < 1)) || (decide (a2 > 8))) || (decide (a1 < 0))) ?_ (fun k => ?_)
   ·refine mv rfl rfl <| runj_3 25 ((((decide (a2 < 1)) || (decide (a2 > 8))) || (decide (a1 < 0))) || (decide (a1 > 4611686018427387904))) ?_ (fun k => ?_)
    ·refine nt <| Under.ite hF rfl (fun hF => ?_) (fun hF => ?_)
     ·refine sr <| ov (OpV.bst BT27 (Bld.nil _)) rfl <| Under.stP (x' := (⟨0, []⟩ : Api_Window)) .box .id sz27_kApi_Window rfl rfl rdV rfl <| ag rfl rfl <| nl <| Under.frz (t := 6) rfl <| tn <| rt ?_
      have e11 := osi hF
      subst e11
      exact Under.rets Try.results22 (.ce rfl kt27 (.tm rfl .nil)) rfl rfl
     ·refine ct <| sq <| sr <| ov (OpV.fd fb27_0 rfl rfl) rfl <| ov (OpV.ldI kt2 rfl) rfl <| mv rfl rfl <| mv rfl rfl <| bn rfl rfl rfl rfl <| bn rfl rfl rfl rfl <| mv rfl rfl <| runj_6 39 ((decide (a0.Newest ≥ (IntKind.wrap .i64 (a1 + a2)))) || (decide (a0.Newest < (IntKind.wrap .i64 (a1 - 1024))))) ?_ (fun k => ?_)
      ·refine nt <| Under.ite hF rfl (fun hF => ?_) (fun hF => ?_)
       ·refine sr <| ov (OpV.bst BT27 (Bld.nil _)) rfl <| Under.stP (x' := (⟨0, []⟩ : Api_Window)) .box .id sz27_kApi_Window rfl rfl rdV rfl <| ag rfl rfl <| nl <| Under.frz (t := 6) rfl <| tn <| rt ?_
        have e15 := osi hF
        subst e15
        exact Under.rets Try.results22 (.ce rfl kt27 (.tm rfl .nil)) rfl rfl
       ·obtain ⟨r145, h146, hF⟩ := bsome hF
        refine ct <| sr <| ov (OpV.fd fb27_0 rfl rfl) rfl <| ov (OpV.ldI kt2 rfl) rfl <| mv rfl rfl <| ov (OpV.max2 rfl rfl) rfl <| ov (OpV.bst BT27_Api_Window_r1 (Bld.cons (x' := (⟨max a0.Newest a1, .slice none 0 0⟩ : Api_Window_r1)) rfl rfl rdI (by intro q hq; simp only [List.mem_cons, List.not_mem_nil, or_false] at hq; rcases hq with rfl <;> rfl) (Bld.nil _))) rfl <| Under.al ZT27_Api_Window_r1 rfl fun b16 => Under.stP (x' := (⟨max a0.Newest a1, .slice none 0 0⟩ : Api_Window_r1)) .box .id sz27_kApi_Window_r1 rfl rfl rdV rfl <| nt <| sq <| Under.after (fun X => ∀ (x144 : Api_Window), r145 = x144 → Under F0 79 [(6, .raw (.pointer (some ⟨b1, 0, none⟩))), (8, .ptr kApi_Window x144)] ((.box kApi_Window b1 27 (⟨0, []⟩ : Api_Window)) :: L) X) ?_ ?_
        ·intro x144 h278
         replace h278 := h278.symm
         subst h278
         refine sr <| ov (OpV.ld kt27 rfl) rfl <| Under.stP (x' := x144) .box .id sz27_kApi_Window rfl rfl rdV rfl <| ag rfl rfl <| nl <| Under.frz (t := 6) rfl <| tn <| rc ?_
         have e148 := osi hF
         subst e148
         exact Under.rets Try.results22 (.ce rfl kt27 (.tm rfl .nil)) rfl rfl
        ·intro K k147
         obtain ⟨r242, h243, h146⟩ := bsome h146
         refine sr <| ag rfl rfl <| nt <| bk <| Under.ownNil (K := kApi_Epoch) (e := 61) <| Under.fo1 <| Under.fo1 <| Under.fo2 <| Under.loop (S := (Int × (List Api_Epoch))) (C := Value) (.slice none 0 0) (fun (x275 : (Int × (List Api_Epoch))) (q276 : Value) => [(2, .raw (.int .i64 a2)), (3, .ptr kApi_Window a0), (6, .raw (.pointer (some ⟨b1, 0, none⟩))), (8, .raw (.pointer (some ⟨b16, 0, none⟩))), (9, .raw (.int .i64 x275.1))]) (fun (x275 : (Int × (List Api_Epoch))) (q276 : Value) => (.box kApi_Window b1 27 (⟨0, []⟩ : Api_Window)) :: (.own kApi_Epoch q276 61 x275.2) :: (.box kApi_Window_r1 b16 27 (⟨max a0.Newest a1, q276⟩ : Api_Window_r1)) :: L) h243 (s5 rfl rfl rfl rfl rfl) rfl (fun x275 q276 o244 h240 d241 => ?_)
         obtain ⟨x208, x210⟩ := x275
         dsimp only at h240 ⊢
         refine sq <| sr <| mv rfl rfl <| ov (OpV.fd fb27_1 rfl rfl) rfl <| ov (OpV.ld kt25 rfl) rfl <| ov (OpV.len Try.underlying25 rfl rdV) rfl <| bn rfl rfl rfl rfl <| nt <| Under.ite h240 rfl (fun h240 => ?_) (fun h240 => ?_)
         ·obtain ⟨r257, h258, h240⟩ := bsome h240
          refine ct <| sq <| Under.after (fun X => ∀ (x256 : List Api_Epoch) (v255 : Value), r257 = x256 → Under F0 79 [(2, .raw (.int .i64 a2)), (3, .ptr kApi_Window a0), (6, .raw (.pointer (some ⟨b1, 0, none⟩))), (8, .raw (.pointer (some ⟨b16, 0, none⟩))), (9, .raw (.int .i64 x208))] ((.box kApi_Window b1 27 (⟨0, []⟩ : Api_Window)) :: (.own kApi_Epoch v255 61 x256) :: (.box kApi_Window_r1 b16 27 (⟨max a0.Newest a1, v255⟩ : Api_Window_r1)) :: L) X) ?_ ?_
          ·intro x256 v255 h272
           replace h272 := h272.symm
           subst h272
           exact rg <| mv rfl rfl <| bn rfl rfl rfl rfl <| ag rfl rfl <| nl <| Under.fo2 <| Under.fo2 <| Under.fo2 <| Under.next _ v255 h240 (s5 rfl rfl rfl rfl rfl) rfl
          ·intro K k259
           obtain ⟨x260, h261, h258⟩ := bsome h258
           refine bk <| sr <| ov (OpV.fd fb27_1 rfl rfl) rfl <| ov (OpV.ld kt25 rfl) rfl <| mv rfl rfl <| ov (OpV.ixS h261 Try.underlying25 sz61 rfl rdV rfl) rfl <| ov (OpV.ld kt61 rfl) rfl <| Under.al ZT61 rfl fun b262 => Under.stP (x' := x260) .box .id sz61_kApi_Epoch rfl rfl rdV rfl <| nl <| Under.frz (t := 10) rfl <| tn <| sr <| ov (OpV.fd fb61_0 rfl rfl) rfl <| ov (OpV.ldI kt2 rfl) rfl <| ov (OpV.fdM fm27_0 rfl) rfl <| Under.fo2 <| Under.ldP .box (.fld .id uf_Api_Window_r1_0) kt2_kInt_i64 rfl rfl <| Under.rawI (t := 61) rfl <| mv rfl rfl <| bn rfl rfl rfl rfl <| bn rfl rfl rfl rfl <| nt <| Under.ite h258 rfl (fun h258 => ?_) (fun h258 => ?_)
           ·obtain ⟨z263, h264, h258⟩ := bsome h258
            obtain ⟨z266, h267, h258⟩ := bsome h258
            exact sr <| ag rfl rfl <| ns <| mv rfl rfl <| ov (OpV.fd fb61_1 rfl rfl) rfl <| ov (OpV.ld kt36 rfl) rfl <| Under.ownNil (K := kArr 16 K2) (e := 43) <| Under.app h264 Try.underlying36 AT43 rfl rfl rdV rfl fun v265 => ag rfl rfl <| nl <| Under.frzO (t := 11) rfl <| tn <| rg <| ov (OpV.fdM fm27_1 rfl) rfl <| Under.ldP .box (.fld .id uf_Api_Window_r1_1) kt25_kRaw rfl rfl <| Under.rawR (t := 70) rfl <| ov (OpV.fd fb61_0 rfl rfl) rfl <| ov (OpV.ldI kt2 rfl) rfl <| mv rfl rfl <| ov (OpV.bst BT61 (Bld.cons (x' := (⟨x260.Number, []⟩ : Api_Epoch)) rfl rfl rdI (by intro q hq; simp only [List.mem_cons, List.not_mem_nil, or_false] at hq; rcases hq with rfl <;> rfl) (Bld.cons (x' := (⟨x260.Number, z263⟩ : Api_Epoch)) rfl rfl rdV ⟨rfl, (fun q hq => by simp at hq)⟩ (Bld.nil _)))) rfl <| Under.bsF (ys := [(⟨x260.Number, z263⟩ : Api_Epoch)]) Try.underlying25 ET61 (BldA.cons rfl rfl rdV (BldA.nil _)) rfl rfl <| Under.fo2 <| Under.app h267 Try.underlying25 AT61 rfl rfl rdV rfl fun v268 => ov (OpV.fdM fm27_1 rfl) rfl <| Under.ownCell fun h269 => Under.fo1 <| Under.stP (x' := (⟨max a0.Newest a1, v268⟩ : Api_Window_r1)) .box (.fld .id uf_Api_Window_r1_1) sz25_kRaw rfl rfl (rdRaw h269) rfl <| nl <| bN <| tn <| Under.fo1 <| Under.fo2 <| wk (k259 _ _ (osi h258).symm) (s5 rfl rfl rfl rfl rfl)
           ·exact cs <| bN <| tn <| Under.fo2 <| Under.fo2 <| wk (k259 _ _ (osi h258).symm) (s5 rfl rfl rfl rfl rfl)
         ·refine Under.fo2 <| Under.fo2 <| Under.frzBO (fs := kApi_WindowF) (⟨max a0.Newest a1, x210⟩ : Api_Window) (fun F hv => ⟨fun _ h => h, cv_raw hv, trivial⟩) <| Under.frz (t := 8) rfl <| xt <| te ?_
          have e273 := done_eq h240 d241
          subst e273
          exact te <| bh <| tn <| wk (k147 _ (osi h146).symm) (s2 rfl rfl)
      ·refine by_ (t := 33) rfl (fun c12 => ?_) (fun c12 => ?_)
       ·exact sk c12 rfl rfl rfl <| sk c12 rfl rfl rfl <| sk c12 rfl rfl rfl <| sk c12 rfl rfl rfl <| sk c12 rfl rfl rfl <| ov (pkT c12 rfl rfl) rfl <| rf 5 (or_t (e := decide (a0.Newest < (IntKind.wrap .i64 (a1 - 1024)))) c12) rfl k
       ·exact gc c12 rfl rfl <| ov (OpV.fd fb27_0 rfl rfl) rfl <| gc c12 rfl rfl <| ov (OpV.ldI kt2 rfl) rfl <| gc c12 rfl rfl <| mv rfl rfl <| gc c12 rfl rfl <| bn rfl rfl rfl rfl <| gc c12 rfl rfl <| bn rfl rfl rfl rfl <| ov (pkF c12 rfl rfl) rfl <| rf 5 (or_f c12) rfl k
    ·refine by_ (t := 22) rfl (fun c8 => ?_) (fun c8 => ?_)
     ·exact sk c8 rfl rfl rfl <| sk c8 rfl rfl rfl <| ov (pkT c8 rfl rfl) rfl <| rf 2 (or_t (e := decide (a1 > 4611686018427387904)) c8) rfl k
     ·exact gc c8 rfl rfl <| mv rfl rfl <| gc c8 rfl rfl <| bn rfl rfl rfl rfl <| ov (pkF c8 rfl rfl) rfl <| rf 2 (or_f c8) rfl k
   ·refine by_ (t := 18) rfl (fun c5 => ?_) (fun c5 => ?_)
    ·exact sk c5 rfl rfl rfl <| sk c5 rfl rfl rfl <| ov (pkT c5 rfl rfl) rfl <| rf 2 (or_t (e := decide (a1 < 0)) c5) rfl k
    ·exact gc c5 rfl rfl <| mv rfl rfl <| gc c5 rfl rfl <| bn rfl rfl rfl rfl <| ov (pkF c5 rfl rfl) rfl <| rf 2 (or_f c5) rfl k
  ·refine by_ (t := 14) rfl (fun c2 => ?_) (fun c2 => ?_)
   ·exact sk c2 rfl rfl rfl <| sk c2 rfl rfl rfl <| ov (pkT c2 rfl rfl) rfl <| rf 2 (or_t (e := decide (a2 > 8)) c2) rfl k
   ·exact gc c2 rfl rfl <| mv rfl rfl <| gc c2 rfl rfl <| bn rfl rfl rfl rfl <| ov (pkF c2 rfl rfl) rfl <| rf 2 (or_f c2) rfl k
/-- churn/churnlaw16.same -/
noncomputable def f_churnlaw16_same (a0 : Api_Window) (a1 : Api_Window) : Option Bool :=
  bif (a0.Newest != a1.Newest) || ((a0.Epochs.length : Int) != (a1.Epochs.length : Int)) then
    some false
  else
    (((Loop.run (S := Int) (R := (Unit ⊕ Bool)) (fun x514 =>
        bif decide (x514 < (a0.Epochs.length : Int)) then
          (((idx a0.Epochs x514).bind fun x643 =>
          (idx a1.Epochs x514).bind fun x645 =>
          bif (x643.Number != x645.Number) || ((x643.Tags.length : Int) != (x645.Tags.length : Int)) then
            some (.inl false)
          else
            (Loop.run (S := Int) (R := (Unit ⊕ Bool)) (fun x665 =>
                bif decide (x665 < (x643.Tags.length : Int)) then
                  (idx x643.Tags x665).bind fun x675 =>
                  (idx x645.Tags x665).bind fun x677 =>
                  bif x675 != x677 then
                    some (.done (.inr false))
                  else
                    some (.next (IntKind.wrap .i64 (x665 + 1)))
                else
                  some (.done (.inl ()))) 0).bind fun r672 => match r672 with
              | .inl _ =>
                some (.inr ())
              | .inr z =>
                some (.inl z)
            : Option (Bool ⊕ Unit))).bind fun r639 => match r639 with
            | .inl z =>
              some (.done (.inr z))
            | .inr _ =>
              some (.next (IntKind.wrap .i64 (x514 + 1)))
        else
          some (.done (.inl ()))) 0).bind fun r599 => match r599 with
      | .inl _ =>
        some (.inr ())
      | .inr z =>
        some (.inl z)
      : Option (Bool ⊕ Unit))).bind fun r345 => match r345 with
      | .inl z =>
        some z
      | .inr _ =>
        some true
theorem f_churnlaw16_same_ok {a0 : Api_Window} {a1 : Api_Window} {r0 : Bool} (hF : f_churnlaw16_same a0 a1 = some r0) (L : List Res) : Ok Try.prog 24 [SV.val kApi_Window a0, SV.val kApi_Window a1] (L) (SV.raw (.bool r0)) (L) := by
  unfold f_churnlaw16_same at hF
  refine Ok.intro 72 [(0, .val kApi_Window a0), (1, .val kApi_Window a1)] Try.func24 rfl rfl rfl rfl (fun F0 => ?_)
  refine sr <| Under.bxF (K := kApi_Window) rfl rdV rfl <| Under.bxF (K := kApi_Window) rfl rdV rfl <| ag rfl rfl <| nt <| sq <| sr <| ov (OpV.fd fb27_0 rfl rfl) rfl <| ov (OpV.ldI kt2 rfl) rfl <| ov (OpV.fd fb27_0 rfl rfl) rfl <| ov (OpV.ldI kt2 rfl) rfl <| bn rfl rfl rfl rfl <| mv rfl rfl <| runj_8 22 ((a0.Newest != a1.Newest) || ((a0.Epochs.length : Int) != (a1.Epochs.length : Int))) ?_ (fun k => ?_)
  ·refine nt <| Under.ite hF rfl (fun hF => ?_) (fun hF => ?_)
   ·refine sr <| ag rfl rfl <| nt <| rt ?_
    have e4 := osi hF
    subst e4
    exact Under.rets Try.results24 (.tm rfl .nil) rfl rfl
   ·obtain ⟨r345, h346, hF⟩ := bsome hF
    refine ct <| sq <| Under.after (fun X => ∀ (_ : Unit), r345 = (.inr ()) → Under F0 72 [] (L) X) ?_ ?_
    ·intro _ h695
     replace h695 := h695.symm
     subst h695
     refine sr <| ag rfl rfl <| nt <| rc ?_
     have e348 := osi hF
     subst e348
     exact Under.rets Try.results24 (.tm rfl .nil) rfl rfl
    ·intro K k347
     obtain ⟨r599, h600, h346⟩ := bsome h346
     refine sr <| ag rfl rfl <| nt <| bk <| Under.loop (S := Int) (C := Unit) () (fun (x692 : Int) (q693 : Unit) => [(2, .ptr kApi_Window a0), (3, .ptr kApi_Window a1), (5, .raw (.int .i64 x692))]) (fun (x692 : Int) (q693 : Unit) => L) h600 (s3 rfl rfl rfl) rfl (fun x692 q693 o601 h597 d598 => ?_)
     refine sq <| sr <| mv rfl rfl <| ov (OpV.fd fb27_1 rfl rfl) rfl <| ov (OpV.ld kt25 rfl) rfl <| ov (OpV.len Try.underlying25 rfl rdV) rfl <| bn rfl rfl rfl rfl <| nt <| Under.ite h597 rfl (fun h597 => ?_) (fun h597 => ?_)
     ·obtain ⟨r639, h640, h597⟩ := bsome h597
      refine ct <| sq <| Under.after (fun X => ∀ (_ : Unit), r639 = (.inr ()) → Under F0 72 [(2, .ptr kApi_Window a0), (3, .ptr kApi_Window a1), (5, .raw (.int .i64 x692))] (L) X) ?_ ?_
      ·intro _ h689
       replace h689 := h689.symm
       subst h689
       exact rg <| mv rfl rfl <| bn rfl rfl rfl rfl <| ag rfl rfl <| nl <| Under.next _ () h597 (s3 rfl rfl rfl) rfl
      ·intro K k641
       obtain ⟨x643, h644, h640⟩ := bsome h640
       obtain ⟨x645, h646, h640⟩ := bsome h640
       refine bk <| sq <| Under.phases rfl <| Under.grpT (L := L) [0, 1, 2, 3, 4, 5, 6, 7, 8, 9, 10, 11, 12, 13] [[2], [30], [5], [31, 32], [33], [3], [35], [5], [36, 37], [38], [], [], [6, 34], [7, 39]] [⟨sk0 (.ptr (kSl kApi_Epoch) a0.Epochs), [], []⟩, ⟨sk0 (.val (kSl kApi_Epoch) a0.Epochs), [], []⟩, ⟨sk0 (.raw (.int .i64 x692)), [], []⟩, ⟨sk0 (.ptr kApi_Epoch x643), [], []⟩, ⟨sk0 (.val kApi_Epoch x643), [], []⟩, ⟨sk0 (.ptr (kSl kApi_Epoch) a1.Epochs), [], []⟩, ⟨sk0 (.val (kSl kApi_Epoch) a1.Epochs), [], []⟩, ⟨sk0 (.raw (.int .i64 x692)), [], []⟩, ⟨sk0 (.ptr kApi_Epoch x645), [], []⟩, ⟨sk0 (.val kApi_Epoch x645), [], []⟩, ⟨sk1 10 (fun u10 => .raw (.pointer (some ⟨(vblk u10), 0, none⟩))), [], [(0, tk1 10 (fun u10 => .box kApi_Epoch (vblk u10) 61 (⟨0, []⟩ : Api_Epoch)))]⟩, ⟨sk1 11 (fun u11 => .raw (.pointer (some ⟨(vblk u11), 0, none⟩))), [], [(1, tk1 11 (fun u11 => .box kApi_Epoch (vblk u11) 61 (⟨0, []⟩ : Api_Epoch)))]⟩, ⟨sk0 (.raw undef), [0], [(2, tk1 10 (fun u10 => .box kApi_Epoch (vblk u10) 61 x643))]⟩, ⟨sk0 (.raw undef), [1], [(3, tk1 11 (fun u11 => .box kApi_Epoch (vblk u11) 61 x645))]⟩] [] (fun T : List Res => T) lf0 rfl (by kernel_rfl) rfl rfl (fun F hF0 bs642 => ?_)
       refine Tq.v (fun G T hG => ?_) ?_
       ·exact ov (OpV.fd fb27_1 rfl rfl) rfl <| Tq.end undef rfl rfl
       refine Tq.v (fun G T hG => ?_) ?_
       ·exact ov (OpV.ld kt25 rfl) rfl <| Tq.end undef rfl rfl
       refine Tq.v (fun G T hG => ?_) ?_
       ·exact mv rfl rfl <| Tq.end undef rfl rfl
       refine Tq.v (fun G T hG => ?_) ?_
       ·exact ov (OpV.ixS h644 Try.underlying25 sz61 rfl rdV rfl) rfl <| Tq.end undef rfl rfl
       refine Tq.v (fun G T hG => ?_) ?_
       ·exact ov (OpV.ld kt61 rfl) rfl <| Tq.end undef rfl rfl
       refine Tq.v (fun G T hG => ?_) ?_
       ·exact ov (OpV.fd fb27_1 rfl rfl) rfl <| Tq.end undef rfl rfl
       refine Tq.v (fun G T hG => ?_) ?_
       ·exact ov (OpV.ld kt25 rfl) rfl <| Tq.end undef rfl rfl
       refine Tq.v (fun G T hG => ?_) ?_
       ·exact mv rfl rfl <| Tq.end undef rfl rfl
       refine Tq.v (fun G T hG => ?_) ?_
       ·exact ov (OpV.ixS h646 Try.underlying25 sz61 rfl rdV rfl) rfl <| Tq.end undef rfl rfl
       refine Tq.v (fun G T hG => ?_) ?_
       ·exact ov (OpV.ld kt61 rfl) rfl <| Tq.end undef rfl rfl
       refine Tq.st (.raw (.pointer (some ⟨(vblk (bs642 10)), 0, none⟩))) [] rfl rfl (fun G T hG => ?_) ?_
       ·exact Under.al ZT61 rfl fun b647 => Tq.end (.pointer (some ⟨b647, 0, none⟩)) rfl rfl
       refine Tq.st (.raw (.pointer (some ⟨(vblk (bs642 11)), 0, none⟩))) [] rfl rfl (fun G T hG => ?_) ?_
       ·exact Under.al ZT61 rfl fun b648 => Tq.end (.pointer (some ⟨b648, 0, none⟩)) rfl rfl
       refine Tq.st0 [.box kApi_Epoch (vblk (bs642 10)) 61 (⟨0, []⟩ : Api_Epoch)] rfl (fun G T hG => ?_) ?_
       ·exact Under.stP (x' := x643) .box .id sz61_kApi_Epoch rfl rfl rdV rfl <| Tq.end0 undef rfl
       refine Tq.st0 [.box kApi_Epoch (vblk (bs642 11)) 61 (⟨0, []⟩ : Api_Epoch)] rfl (fun G T hG => ?_) ?_
       ·exact Under.stP (x' := x645) .box .id sz61_kApi_Epoch rfl rfl rdV rfl <| Tq.end0 undef rfl
       refine Tq.nil <| Under.le hF0 <| Under.pdone rfl <| Under.frz (t := 6) rfl <| Under.frz (t := 7) rfl <| tn <| sq <| sr <| ov (OpV.fd fb61_0 rfl rfl) rfl <| ov (OpV.ldI kt2 rfl) rfl <| ov (OpV.fd fb61_0 rfl rfl) rfl <| ov (OpV.ldI kt2 rfl) rfl <| bn rfl rfl rfl rfl <| mv rfl rfl <| runj_8 53 ((x643.Number != x645.Number) || ((x643.Tags.length : Int) != (x645.Tags.length : Int))) ?_ (fun k => ?_)
       ·refine nt <| Under.ite h640 rfl (fun h640 => ?_) (fun h640 => ?_)
        ·refine sr <| ag rfl rfl <| nt <| rt <| Under.bR <| tr ?_
         have e652 := osi h640
         subst e652
         have e653 := done_eq h597 d598
         subst e653
         refine tr <| Under.bR <| tr ?_
         have e654 := osi h346
         subst e654
         have e655 := osi hF
         subst e655
         exact Under.rets Try.results24 (.tm rfl .nil) rfl rfl
        ·obtain ⟨r672, h673, h640⟩ := bsome h640
         refine ct <| sr <| ag rfl rfl <| nt <| bk <| Under.loop (S := Int) (C := Unit) () (fun (x686 : Int) (q687 : Unit) => [(2, .ptr kApi_Window a0), (3, .ptr kApi_Window a1), (5, .raw (.int .i64 x692)), (6, .ptr kApi_Epoch x643), (7, .ptr kApi_Epoch x645), (8, .raw (.int .i64 x686))]) (fun (x686 : Int) (q687 : Unit) => L) h673 (s6 rfl rfl rfl rfl rfl rfl) rfl (fun x686 q687 o674 h670 d671 => ?_)
         refine sq <| sr <| mv rfl rfl <| ov (OpV.fd fb61_1 rfl rfl) rfl <| ov (OpV.ld kt36 rfl) rfl <| ov (OpV.len Try.underlying36 rfl rdV) rfl <| bn rfl rfl rfl rfl <| nt <| Under.ite h670 rfl (fun h670 => ?_) (fun h670 => ?_)
         ·obtain ⟨x675, h676, h670⟩ := bsome h670
          obtain ⟨x677, h678, h670⟩ := bsome h670
          refine ct <| sq <| bk <| sq <| dw rfl (by kernel_rfl) fun F hF0 => oq (OpV.fd fb61_1 rfl rfl) rfl <| oq (OpV.ld kt36 rfl) rfl <| mvq rfl rfl <| oq (OpV.ixS h676 Try.underlying36 sz43 rfl rdV rfl) rfl <| oq (OpV.ld kt43 rfl) rfl <| oq (OpV.fd fb61_1 rfl rfl) rfl <| oq (OpV.ld kt36 rfl) rfl <| mvq rfl rfl <| oq (OpV.ixS h678 Try.underlying36 sz43 rfl rdV rfl) rfl <| oq (OpV.ld kt43 rfl) rfl <| oq (OpV.neK eqk43 eqg43 rfl rfl rfl rdV rfl rdV) rfl <| nlq hF0 <| tn <| Under.ite h670 rfl (fun h670 => ?_) (fun h670 => ?_)
          ·refine sr <| ag rfl rfl <| nt <| rc <| Under.bR <| tr ?_
           have e679 := done_eq h670 d671
           subst e679
           refine tr <| Under.bR <| Under.bR <| tr ?_
           have e680 := osi h640
           subst e680
           have e681 := done_eq h597 d598
           subst e681
           refine tr <| Under.bR <| tr ?_
           have e682 := osi h346
           subst e682
           have e683 := osi hF
           subst e683
           exact Under.rets Try.results24 (.tm rfl .nil) rfl rfl
          ·exact cs <| bN <| tn <| rg <| mv rfl rfl <| bn rfl rfl rfl rfl <| ag rfl rfl <| nl <| Under.next _ () h670 (s6 rfl rfl rfl rfl rfl rfl) rfl
         ·refine xt <| te ?_
          have e684 := done_eq h670 d671
          subst e684
          exact te <| bh <| bN <| tn <| wk (k641 () (osi h640).symm) (s3 rfl rfl rfl)
       ·refine by_ (t := 45) rfl (fun c649 => ?_) (fun c649 => ?_)
        ·exact sk c649 rfl rfl rfl <| sk c649 rfl rfl rfl <| sk c649 rfl rfl rfl <| sk c649 rfl rfl rfl <| sk c649 rfl rfl rfl <| sk c649 rfl rfl rfl <| sk c649 rfl rfl rfl <| ov (pkT c649 rfl rfl) rfl <| rf 7 (or_t (e := (x643.Tags.length : Int) != (x645.Tags.length : Int)) c649) rfl k
        ·exact gc c649 rfl rfl <| ov (OpV.fd fb61_1 rfl rfl) rfl <| gc c649 rfl rfl <| ov (OpV.ld kt36 rfl) rfl <| gc c649 rfl rfl <| ov (OpV.len Try.underlying36 rfl rdV) rfl <| gc c649 rfl rfl <| ov (OpV.fd fb61_1 rfl rfl) rfl <| gc c649 rfl rfl <| ov (OpV.ld kt36 rfl) rfl <| gc c649 rfl rfl <| ov (OpV.len Try.underlying36 rfl rdV) rfl <| gc c649 rfl rfl <| bn rfl rfl rfl rfl <| ov (pkF c649 rfl rfl) rfl <| rf 7 (or_f c649) rfl k
     ·refine xt <| te ?_
      have e690 := done_eq h597 d598
      subst e690
      exact te <| bh <| tn <| wk (k347 () (osi h346).symm) (sub_nil _)
  ·refine by_ (t := 14) rfl (fun c1 => ?_) (fun c1 => ?_)
   ·exact sk c1 rfl rfl rfl <| sk c1 rfl rfl rfl <| sk c1 rfl rfl rfl <| sk c1 rfl rfl rfl <| sk c1 rfl rfl rfl <| sk c1 rfl rfl rfl <| sk c1 rfl rfl rfl <| ov (pkT c1 rfl rfl) rfl <| rf 7 (or_t (e := (a0.Epochs.length : Int) != (a1.Epochs.length : Int)) c1) rfl k
   ·exact gc c1 rfl rfl <| ov (OpV.fd fb27_1 rfl rfl) rfl <| gc c1 rfl rfl <| ov (OpV.ld kt25 rfl) rfl <| gc c1 rfl rfl <| ov (OpV.len Try.underlying25 rfl rdV) rfl <| gc c1 rfl rfl <| ov (OpV.fd fb27_1 rfl rfl) rfl <| gc c1 rfl rfl <| ov (OpV.ld kt25 rfl) rfl <| gc c1 rfl rfl <| ov (OpV.len Try.underlying25 rfl rdV) rfl <| gc c1 rfl rfl <| bn rfl rfl rfl rfl <| ov (pkF c1 rfl rfl) rfl <| rf 7 (or_f c1) rfl k
/-- churn/churnlaw16.WindowOpens -/
noncomputable def f_churnlaw16_WindowOpens (a0 : Api_Window) (a1 : Int) (a2 : Int) : Option Bool :=
  (f_churnlaw16_alive).bind fun y1 =>
  bif !y1 then
    some false
  else
    (f_churnref16_Open a0 a1 a2).bind fun y4 =>
    (f_window_Open a0 a1 a2).bind fun y7 =>
    ((bif y7.2 == y4.2 then
      (f_churnlaw16_same y7.1 y4.1).bind fun y13 =>
      some y13
    else
      some false
      : Option Bool)).bind fun x12 =>
    some x12
theorem f_churnlaw16_WindowOpens_ok {a0 : Api_Window} {a1 : Int} {a2 : Int} {r0 : Bool} (hF : f_churnlaw16_WindowOpens a0 a1 a2 = some r0) (L : List Res) : Ok Try.prog 6 [SV.val kApi_Window a0, SV.raw (.int .i64 a1), SV.raw (.int .i64 a2)] (L) (SV.raw (.bool r0)) (L) := by
  unfold f_churnlaw16_WindowOpens at hF
  refine Ok.intro 35 [(0, .val kApi_Window a0), (1, .raw (.int .i64 a1)), (2, .raw (.int .i64 a2))] Try.func6 rfl rfl rfl rfl (fun F0 => ?_)
  obtain ⟨y1, h2, hF⟩ := bsome hF
  refine sr <| Under.bxF (K := kApi_Window) rfl rdV rfl <| ag rfl rfl <| nt <| sq <| sr <| Under.call Try.call15 rfl rfl (f_churnlaw16_alive_ok h2 _) rfl <| ov (OpV.not rfl) rfl <| nt <| Under.ite hF rfl (fun hF => ?_) (fun hF => ?_)
  ·refine sr <| ag rfl rfl <| nt <| rt ?_
   have e3 := osi hF
   subst e3
   exact Under.rets Try.results6 (.tm rfl .nil) rfl rfl
  ·obtain ⟨y4, h5, hF⟩ := bsome hF
   obtain ⟨y7, h8, hF⟩ := bsome hF
   obtain ⟨x12, h11, hF⟩ := bsome hF
   refine ct <| sr <| ov (OpV.ld kt27 rfl) rfl <| mv rfl rfl <| mv rfl rfl <| Under.call Try.call22 rfl rfl (f_churnref16_Open_ok h5 _) rfl <| mv rfl rfl <| ov (OpV.extr rfl rfl) rfl <| ov (OpV.extr rfl rfl) rfl <| Under.al ZT27 rfl fun b6 => Under.stP (x' := y4.1) .box .id sz27_kApi_Window rfl rfl rdV rfl <| ag rfl rfl <| nl <| Under.frz (t := 7) rfl <| tn <| sr <| ov (OpV.ld kt27 rfl) rfl <| mv rfl rfl <| mv rfl rfl <| Under.call Try.call23 rfl rfl (f_window_Open_ok h8 _) rfl <| mv rfl rfl <| ov (OpV.extr rfl rfl) rfl <| ov (OpV.extr rfl rfl) rfl <| Under.al ZT27 rfl fun b9 => Under.stP (x' := y7.1) .box .id sz27_kApi_Window rfl rfl rdV rfl <| ag rfl rfl <| nl <| Under.frz (t := 9) rfl <| tn <| sr <| mv rfl rfl <| mv rfl rfl <| bn rfl rfl rfl rfl <| mv rfl rfl <| runj_4 34 x12 ?_ (fun k => ?_)
   ·refine ag rfl rfl <| nt <| rc ?_
    have e15 := osi hF
    subst e15
    exact Under.rets Try.results6 (.tm rfl .nil) rfl rfl
   ·refine by_ (t := 30) rfl (fun c10 => ?_) (fun c10 => ?_)
    ·replace h11 := ctrue c10 h11
     obtain ⟨y13, h14, h11⟩ := bsome h11
     exact gc c10 rfl rfl <| ov (OpV.ld kt27 rfl) rfl <| gc c10 rfl rfl <| ov (OpV.ld kt27 rfl) rfl <| gc c10 rfl rfl <| Under.call Try.call24 rfl rfl (f_churnlaw16_same_ok h14 _) rfl <| ov (pkT c10 rfl rfl) rfl <| rf 3 (rbq h11) rfl k
    ·replace h11 := cfalse c10 h11
     exact sk c10 rfl rfl rfl <| sk c10 rfl rfl rfl <| sk c10 rfl rfl rfl <| ov (pkF c10 rfl rfl) rfl <| rf 3 (rbq h11) rfl k
/-- churn/churnref16.Add -/
noncomputable def f_churnref16_Add (a0 : Api_Window) (a1 : Int) (a2 : List (List Int)) (a3 : Int) : Option (Api_Window × Int) :=
  ((bif (decide (a3 < 0)) || (decide (a3 > 4096)) then
    some true
  else
    (f_churnref16_Check a0 8 4096).bind fun y9 =>
    some (y9 != 0)
    : Option Bool)).bind fun x8 =>
  bif x8 then
    some ((⟨0, []⟩ : Api_Window), 2)
  else
    bif ((decide (a1 < 0)) || (decide (a1 > a0.Newest))) || (decide (a1 ≤ (IntKind.wrap .i64 (a0.Newest - 8)))) then
      some ((⟨0, []⟩ : Api_Window), 161)
    else
      (f_churnref16_all a0).bind fun y19 =>
      (f_churnref16_sorted 64 y19).bind fun y21 =>
      (f_churnref16_sorted 64 a2).bind fun y23 =>
      (((Loop.run (S := ((List (List Int)) × Int × Int)) (R := (List (List Int))) (fun (x2044, x2045, x2046) =>
          bif decide (x2046 < (y23.length : Int)) then
            (((((Loop.run (S := Int) (R := Int) (fun x2491 =>
                ((bif decide (x2491 < (y21.length : Int)) then
                  (idx y21 x2491).bind fun x2510 =>
                  (idx y23 x2046).bind fun x2512 =>
                  (f_churnref16_less x2510 x2512).bind fun y2514 =>
                  some y2514
                else
                  some false
                  : Option Bool)).bind fun x2509 =>
                bif x2509 then
                  some (.next (IntKind.wrap .i64 (x2491 + 1)))
                else
                  some (.done x2491)) x2045).bind fun x2501 =>
            some x2501
              : Option Int)).bind fun x2454 =>
            ((bif x2454 == (y21.length : Int) then
              some true
            else
              (idx y21 x2454).bind fun x2461 =>
              (idx y23 x2046).bind fun x2463 =>
              some (x2461 != x2463)
              : Option Bool)).bind fun x2460 =>
            bif x2460 then
              (idx y23 x2046).bind fun x2465 =>
              (app x2044 [x2465]).bind fun z2467 =>
              some (z2467, x2454)
            else
              some (x2044, x2454)
              : Option ((List (List Int)) × Int))).bind fun r2404 => match r2404 with
              | (x2402, x2403) =>
                some (.next (x2402, x2403, IntKind.wrap .i64 (x2046 + 1)))
          else
            some (.done x2044)) ([], 0, 0)).bind fun x2282 =>
      some x2282
        : Option (List (List Int)))).bind fun x982 =>
      bif decide ((IntKind.wrap .i64 ((y21.length : Int) + (x982.length : Int))) > a3) then
        some ((⟨0, []⟩ : Api_Window), 160)
      else
        (((Loop.run (S := (Bool × Int × (List Api_Epoch))) (R := Api_Window) (fun (x1417, x1418, x1420) =>
            bif decide (x1418 ≤ (a0.Epochs.length : Int)) then
              ((((bif !x1417 then
                ((bif x1418 == (a0.Epochs.length : Int) then
                  some true
                else
                  (idx a0.Epochs x1418).bind fun x1554 =>
                  some (decide (x1554.Number > a1))
                  : Option Bool)).bind fun x1553 =>
                some x1553
              else
                some false
                : Option Bool)).bind fun x1550 =>
              bif x1550 then
                (app x1420 [(⟨a1, x982⟩ : Api_Epoch)]).bind fun z1556 =>
                some (true, z1556)
              else
                some (x1417, x1420)
                : Option (Bool × (List Api_Epoch)))).bind fun r1509 => match r1509 with
                | (x1506, x1508) =>
                  bif x1418 == (a0.Epochs.length : Int) then
                    some (.done (⟨a0.Newest, x1508⟩ : Api_Window))
                  else
                    (idx a0.Epochs x1418).bind fun x1514 =>
                    (app [] x1514.Tags).bind fun z1517 =>
                    ((bif (x1514.Number == a1) && (!x1506) then
                      (app z1517 x982).bind fun z1540 =>
                      (f_churnref16_sorted 64 z1540).bind fun y1543 =>
                      some (true, y1543)
                    else
                      some (x1506, z1517)
                      : Option (Bool × (List (List Int))))).bind fun r1530 => match r1530 with
                      | (x1528, x1529) =>
                        (app x1508 [(⟨x1514.Number, x1529⟩ : Api_Epoch)]).bind fun z1533 =>
                        some (.next (x1528, IntKind.wrap .i64 (x1418 + 1), z1533))
            else
              some (.done (⟨a0.Newest, x1420⟩ : Api_Window))) ((x982.length : Int) == 0, 0, [])).bind fun x1488 =>
        some x1488
          : Option Api_Window)).bind fun x1274 =>
        some (x1274, 0)
theorem f_churnref16_Add_ok {a0 : Api_Window} {a1 : Int} {a2 : List (List Int)} {a3 : Int} {r0 : (Api_Window × Int)} (hF : f_churnref16_Add a0 a1 a2 a3 = some r0) (L : List Res) : Ok Try.prog 25 [SV.val kApi_Window a0, SV.raw (.int .i64 a1), SV.val K0 a2, SV.raw (.int .i64 a3)] (L) (SV.tup [SV.val kApi_Window r0.1, SV.raw (.int .i64 r0.2)]) (L) := by
  unfold f_churnref16_Add at hF
  refine Ok.intro 183 [(0, .val kApi_Window a0), (1, .raw (.int .i64 a1)), (2, .val K0 a2), (3, .raw (.int .i64 a3))] Try.func25 rfl rfl rfl rfl (fun F0 => ?_)
  refine sr <| Under.bx (K := kApi_Window) rfl rdV rfl fun b1 => Under.al ZT27 rfl fun b2 => ag rfl rfl <| nt <| sq <| sr <| mv rfl rfl <| bn rfl rfl rfl rfl <| mv rfl rfl <| runj_3 25 ((decide (a3 < 0)) || (decide (a3 > 4096))) ?_ (fun k => ?_)
  ·obtain ⟨x8, h7, hF⟩ := bsome hF
   refine mv rfl rfl <| runj_4 30 x8 ?_ (fun k => ?_)
   ·refine nt <| Under.ite hF rfl (fun hF => ?_) (fun hF => ?_)
    ·refine Under.fo1 <| dr <| sr <| ov (OpV.bst BT27 (Bld.nil _)) rfl <| Under.stP (x' := (⟨0, []⟩ : Api_Window)) .box .id sz27_kApi_Window rfl rfl rdV rfl <| ag rfl rfl <| nl <| Under.frz (t := 8) rfl <| tn <| rt ?_
     have e11 := osi hF
     subst e11
     exact Under.rets Try.results25 (.ce rfl kt27 (.tm rfl .nil)) rfl rfl
    ·refine ct <| sq <| sr <| mv rfl rfl <| bn rfl rfl rfl rfl <| mv rfl rfl <| runj_5 39 ((decide (a1 < 0)) || (decide (a1 > a0.Newest))) ?_ (fun k => ?_)
     ·refine mv rfl rfl <| runj_6 46 (((decide (a1 < 0)) || (decide (a1 > a0.Newest))) || (decide (a1 ≤ (IntKind.wrap .i64 (a0.Newest - 8))))) ?_ (fun k => ?_)
      ·refine nt <| Under.ite hF rfl (fun hF => ?_) (fun hF => ?_)
       ·refine Under.fo1 <| dr <| sr <| ov (OpV.bst BT27 (Bld.nil _)) rfl <| Under.stP (x' := (⟨0, []⟩ : Api_Window)) .box .id sz27_kApi_Window rfl rfl rdV rfl <| ag rfl rfl <| nl <| Under.frz (t := 8) rfl <| tn <| rt ?_
        have e18 := osi hF
        subst e18
        exact Under.rets Try.results25 (.ce rfl kt27 (.tm rfl .nil)) rfl rfl
       ·obtain ⟨y19, h20, hF⟩ := bsome hF
        obtain ⟨y21, h22, hF⟩ := bsome hF
        obtain ⟨y23, h24, hF⟩ := bsome hF
        obtain ⟨r983, h984, hF⟩ := bsome hF
        refine ct <| sr <| Under.fo1 <| Under.ldP .box .id kt27_kApi_Window rfl rfl <| Under.call Try.call41 rfl rfl (f_churnref16_all_ok h20 _) rfl <| Under.call Try.call40 rfl rfl (f_churnref16_sorted_ok h22 _) rfl <| ag rfl rfl <| ns <| mv rfl rfl <| Under.call Try.call40 rfl rfl (f_churnref16_sorted_ok h24 _) rfl <| ag rfl rfl <| ns <| ag rfl rfl <| ns <| ag rfl rfl <| nt <| sq <| Under.after (fun X => ∀ (x982 : List (List Int)), r983 = x982 → Under F0 183 [(1, .raw (.int .i64 a1)), (3, .raw (.int .i64 a3)), (4, .raw (.pointer (some ⟨b1, 0, none⟩))), (8, .raw (.pointer (some ⟨b2, 0, none⟩))), (10, .val K0 y21), (12, .val K0 x982)] ((.box kApi_Window b1 27 a0) :: (.box kApi_Window b2 27 (⟨0, []⟩ : Api_Window)) :: L) X) ?_ ?_
        ·intro x982 h2528
         replace h2528 := h2528.symm
         subst h2528
         refine sq <| sr <| mv rfl rfl <| ov (OpV.len Try.underlying36 rfl rdV) rfl <| mv rfl rfl <| ov (OpV.len Try.underlying36 rfl rdV) rfl <| bn rfl rfl rfl rfl <| mv rfl rfl <| bn rfl rfl rfl rfl <| nt <| Under.ite hF rfl (fun hF => ?_) (fun hF => ?_)
         ·refine dr <| sr <| ov (OpV.bst BT27 (Bld.nil _)) rfl <| Under.stP (x' := (⟨0, []⟩ : Api_Window)) .box .id sz27_kApi_Window rfl rfl rdV rfl <| ag rfl rfl <| nl <| Under.frz (t := 8) rfl <| tn <| rt ?_
          have e986 := osi hF
          subst e986
          exact Under.rets Try.results25 (.ce rfl kt27 (.tm rfl .nil)) rfl rfl
         ·obtain ⟨r1275, h1276, hF⟩ := bsome hF
          refine ct <| sr <| ov (OpV.fdM fm27_0 rfl) rfl <| Under.ldP .box (.fld .id uf_Api_Window_0) kt2_kInt_i64 rfl rfl <| Under.rawI (t := 107) rfl <| ov (OpV.bst BT27_Api_Window_r1 (Bld.cons (x' := (⟨a0.Newest, .slice none 0 0⟩ : Api_Window_r1)) rfl rfl rdI (by intro q hq; simp only [List.mem_cons, List.not_mem_nil, or_false] at hq; rcases hq with rfl <;> rfl) (Bld.nil _))) rfl <| Under.al ZT27_Api_Window_r1 rfl fun b987 => Under.stP (x' := (⟨a0.Newest, .slice none 0 0⟩ : Api_Window_r1)) .box .id sz27_kApi_Window_r1 rfl rfl rdV rfl <| nl <| Under.fo1 <| Under.frz (t := 4) rfl <| tn <| sr <| mv rfl rfl <| ov (OpV.len Try.underlying36 rfl rdV) rfl <| bn rfl rfl rfl rfl <| ag rfl rfl <| nt <| sq <| Under.after (fun X => ∀ (x1274 : Api_Window), r1275 = x1274 → Under F0 183 [(8, .raw (.pointer (some ⟨b2, 0, none⟩))), (15, .ptr kApi_Window x1274)] ((.box kApi_Window b2 27 (⟨0, []⟩ : Api_Window)) :: L) X) ?_ ?_
          ·intro x1274 h1568
           replace h1568 := h1568.symm
           subst h1568
           refine sr <| ov (OpV.ld kt27 rfl) rfl <| Under.stP (x' := x1274) .box .id sz27_kApi_Window rfl rfl rdV rfl <| ag rfl rfl <| nl <| Under.frz (t := 8) rfl <| tn <| rc ?_
           have e1278 := osi hF
           subst e1278
           exact Under.rets Try.results25 (.ce rfl kt27 (.tm rfl .nil)) rfl rfl
          ·intro K k1277
           obtain ⟨r1491, h1492, h1276⟩ := bsome h1276
           refine sr <| ag rfl rfl <| nt <| bk <| Under.ownNil (K := kApi_Epoch) (e := 61) <| Under.fo1 <| Under.fo1 <| Under.fo2 <| Under.loop (S := (Bool × Int × (List Api_Epoch))) (C := Value) (.slice none 0 0) (fun (x1565 : (Bool × Int × (List Api_Epoch))) (q1566 : Value) => [(1, .raw (.int .i64 a1)), (4, .ptr kApi_Window a0), (8, .raw (.pointer (some ⟨b2, 0, none⟩))), (12, .val K0 x982), (15, .raw (.pointer (some ⟨b987, 0, none⟩))), (16, .raw (.bool x1565.1)), (17, .raw (.int .i64 x1565.2.1))]) (fun (x1565 : (Bool × Int × (List Api_Epoch))) (q1566 : Value) => (.box kApi_Window b2 27 (⟨0, []⟩ : Api_Window)) :: (.own kApi_Epoch q1566 61 x1565.2.2) :: (.box kApi_Window_r1 b987 27 (⟨a0.Newest, q1566⟩ : Api_Window_r1)) :: L) h1492 (s7 rfl rfl rfl rfl rfl rfl rfl) rfl (fun x1565 q1566 o1493 h1489 d1490 => ?_)
           obtain ⟨x1417, x1418, x1420⟩ := x1565
           dsimp only at h1489 ⊢
           refine sq <| sr <| mv rfl rfl <| ov (OpV.fd fb27_1 rfl rfl) rfl <| ov (OpV.ld kt25 rfl) rfl <| ov (OpV.len Try.underlying25 rfl rdV) rfl <| bn rfl rfl rfl rfl <| nt <| Under.ite h1489 rfl (fun h1489 => ?_) (fun h1489 => ?_)
           ·obtain ⟨r1509, h1510, h1489⟩ := bsome h1489
            refine ct <| sq <| bk <| sq <| Under.after (fun X => ∀ (x1506 : Bool) (x1508 : List Api_Epoch) (v1507 : Value), r1509 = (x1506, x1508) → Under F0 183 [(1, .raw (.int .i64 a1)), (4, .ptr kApi_Window a0), (8, .raw (.pointer (some ⟨b2, 0, none⟩))), (12, .val K0 x982), (15, .raw (.pointer (some ⟨b987, 0, none⟩))), (16, .raw (.bool x1506)), (17, .raw (.int .i64 x1418))] ((.box kApi_Window b2 27 (⟨0, []⟩ : Api_Window)) :: (.own kApi_Epoch v1507 61 x1508) :: (.box kApi_Window_r1 b987 27 (⟨a0.Newest, v1507⟩ : Api_Window_r1)) :: L) X) ?_ ?_
            ·intro x1506 x1508 v1507 h1562
             replace h1562 := h1562.symm
             subst h1562
             refine sq <| sr <| mv rfl rfl <| ov (OpV.fd fb27_1 rfl rfl) rfl <| ov (OpV.ld kt25 rfl) rfl <| ov (OpV.len Try.underlying25 rfl rdV) rfl <| bn rfl rfl rfl rfl <| nt <| Under.ite h1489 rfl (fun h1489 => ?_) (fun h1489 => ?_)
             ·refine Under.fo2 <| Under.fo2 <| Under.frzBO (fs := kApi_WindowF) (⟨a0.Newest, x1508⟩ : Api_Window) (fun F hv => ⟨fun _ h => h, cv_raw hv, trivial⟩) <| Under.frz (t := 15) rfl <| xt <| te <| bm rfl <| te ?_
              have e1512 := done_eq h1489 d1490
              subst e1512
              exact te <| bh <| tn <| wk (k1277 _ (osi h1276).symm) (s2 rfl rfl)
             ·obtain ⟨x1514, h1515, h1489⟩ := bsome h1489
              obtain ⟨z1517, h1518, h1489⟩ := bsome h1489
              obtain ⟨r1530, h1531, h1489⟩ := bsome h1489
              refine ct <| sr <| ov (OpV.fd fb27_1 rfl rfl) rfl <| ov (OpV.ld kt25 rfl) rfl <| mv rfl rfl <| ov (OpV.ixS h1515 Try.underlying25 sz61 rfl rdV rfl) rfl <| ov (OpV.ld kt61 rfl) rfl <| Under.al ZT61 rfl fun b1516 => Under.stP (x' := x1514) .box .id sz61_kApi_Epoch rfl rfl rdV rfl <| nl <| Under.frz (t := 18) rfl <| tn <| sr <| ag rfl rfl <| ns <| mv rfl rfl <| ov (OpV.fd fb61_1 rfl rfl) rfl <| ov (OpV.ld kt36 rfl) rfl <| Under.ownNil (K := kArr 16 K2) (e := 43) <| Under.app h1518 Try.underlying36 AT43 rfl rfl rdV rfl fun v1519 => ag rfl rfl <| nt <| sq <| Under.after (fun X => ∀ (x1528 : Bool) (x1529 : List (List Int)), r1530 = (x1528, x1529) → Under F0 183 [(1, .raw (.int .i64 a1)), (4, .ptr kApi_Window a0), (8, .raw (.pointer (some ⟨b2, 0, none⟩))), (12, .val K0 x982), (15, .raw (.pointer (some ⟨b987, 0, none⟩))), (16, .raw (.bool x1528)), (17, .raw (.int .i64 x1418)), (18, .ptr kApi_Epoch x1514), (19, .val K0 x1529)] ((.box kApi_Window b2 27 (⟨0, []⟩ : Api_Window)) :: (.own kApi_Epoch v1507 61 x1508) :: (.box kApi_Window_r1 b987 27 (⟨a0.Newest, v1507⟩ : Api_Window_r1)) :: L) X) ?_ ?_
              ·intro x1528 x1529 h1547
               replace h1547 := h1547.symm
               subst h1547
               obtain ⟨z1533, h1534, h1489⟩ := bsome h1489
               exact rg <| ov (OpV.fdM fm27_1 rfl) rfl <| Under.fo2 <| Under.ldP .box (.fld .id uf_Api_Window_r1_1) kt25_kRaw rfl rfl <| Under.rawR (t := 174) rfl <| ov (OpV.fd fb61_0 rfl rfl) rfl <| ov (OpV.ldI kt2 rfl) rfl <| mv rfl rfl <| ov (OpV.bst BT61 (Bld.cons (x' := (⟨x1514.Number, []⟩ : Api_Epoch)) rfl rfl rdI (by intro q hq; simp only [List.mem_cons, List.not_mem_nil, or_false] at hq; rcases hq with rfl <;> rfl) (Bld.cons (x' := (⟨x1514.Number, x1529⟩ : Api_Epoch)) rfl rfl rdV ⟨rfl, (fun q hq => by simp at hq)⟩ (Bld.nil _)))) rfl <| Under.bsF (ys := [(⟨x1514.Number, x1529⟩ : Api_Epoch)]) Try.underlying25 ET61 (BldA.cons rfl rfl rdV (BldA.nil _)) rfl rfl <| Under.fo2 <| Under.app h1534 Try.underlying25 AT61 rfl rfl rdV rfl fun v1535 => ov (OpV.fdM fm27_1 rfl) rfl <| Under.ownCell fun h1536 => Under.fo1 <| Under.stP (x' := (⟨a0.Newest, v1535⟩ : Api_Window_r1)) .box (.fld .id uf_Api_Window_r1_1) sz25_kRaw rfl rfl (rdRaw h1536) rfl <| nl <| bN <| tn <| rg <| mv rfl rfl <| bn rfl rfl rfl rfl <| ag rfl rfl <| nl <| Under.fo1 <| Under.fo2 <| Under.next _ v1535 h1489 (s7 rfl rfl rfl rfl rfl rfl rfl) rfl
              ·intro K k1532
               refine sr <| ov (OpV.fd fb61_0 rfl rfl) rfl <| ov (OpV.ldI kt2 rfl) rfl <| mv rfl rfl <| bn rfl rfl rfl rfl <| mv rfl rfl <| runj_3 167 ((x1514.Number == a1) && (!x1506)) ?_ (fun k => ?_)
               ·refine nt <| Under.ite h1531 rfl (fun h1531 => ?_) (fun h1531 => ?_)
                ·obtain ⟨z1540, h1541, h1531⟩ := bsome h1531
                 obtain ⟨y1543, h1544, h1531⟩ := bsome h1531
                 exact sr <| mv rfl rfl <| mv rfl rfl <| Under.app h1541 Try.underlying36 AT43 rfl rfl rdV rfl fun v1542 => ag rfl rfl <| nl <| Under.frzO (t := 19) rfl <| tn <| sr <| mv rfl rfl <| Under.call Try.call40 rfl rfl (f_churnref16_sorted_ok h1544 _) rfl <| ag rfl rfl <| nt <| rg <| ag rfl rfl <| nt <| Under.fo2 <| Under.fo2 <| Under.fo2 <| wk (k1532 _ _ (osi h1531).symm) (s9 rfl rfl rfl rfl rfl rfl rfl rfl rfl)
                ·exact Under.frzO (t := 19) rfl <| ct <| Under.fo2 <| Under.fo2 <| Under.fo2 <| wk (k1532 _ _ (osi h1531).symm) (s9 rfl rfl rfl rfl rfl rfl rfl rfl rfl)
               ·refine by_ (t := 164) rfl (fun c1537 => ?_) (fun c1537 => ?_)
                ·exact gc c1537 rfl rfl <| mv rfl rfl <| gc c1537 rfl rfl <| ov (OpV.not rfl) rfl <| ov (pkT c1537 rfl rfl) rfl <| rf 2 (and_t c1537) rfl k
                ·exact sk c1537 rfl rfl rfl <| sk c1537 rfl rfl rfl <| ov (pkF c1537 rfl rfl) rfl <| rf 2 (and_f (e := !x1506) c1537) rfl k
            ·intro K k1511
             obtain ⟨x1550, h1549, h1510⟩ := bsome h1510
             refine sr <| mv rfl rfl <| ov (OpV.not rfl) rfl <| mv rfl rfl <| runj_16 137 x1550 ?_ (fun k => ?_)
             ·refine nt <| Under.ite h1510 rfl (fun h1510 => ?_) (fun h1510 => ?_)
              ·obtain ⟨z1556, h1557, h1510⟩ := bsome h1510
               exact sr <| ov (OpV.fdM fm27_1 rfl) rfl <| Under.fo2 <| Under.ldP .box (.fld .id uf_Api_Window_r1_1) kt25_kRaw rfl rfl <| Under.rawR (t := 139) rfl <| mv rfl rfl <| mv rfl rfl <| ov (OpV.bst BT61 (Bld.cons (x' := (⟨a1, []⟩ : Api_Epoch)) rfl rfl rdI (by intro q hq; simp only [List.mem_cons, List.not_mem_nil, or_false] at hq; rcases hq with rfl <;> rfl) (Bld.cons (x' := (⟨a1, x982⟩ : Api_Epoch)) rfl rfl rdV ⟨rfl, (fun q hq => by simp at hq)⟩ (Bld.nil _)))) rfl <| Under.bsF (ys := [(⟨a1, x982⟩ : Api_Epoch)]) Try.underlying25 ET61 (BldA.cons rfl rfl rdV (BldA.nil _)) rfl rfl <| Under.fo2 <| Under.app h1557 Try.underlying25 AT61 rfl rfl rdV rfl fun v1558 => ov (OpV.fdM fm27_1 rfl) rfl <| Under.ownCell fun h1559 => Under.fo1 <| Under.stP (x' := (⟨a0.Newest, v1558⟩ : Api_Window_r1)) .box (.fld .id uf_Api_Window_r1_1) sz25_kRaw rfl rfl (rdRaw h1559) rfl <| nt <| rg <| ag rfl rfl <| nt <| Under.fo1 <| Under.fo2 <| wk (k1511 _ _ _ (osi h1510).symm) (s7 rfl rfl rfl rfl rfl rfl rfl)
              ·exact ct <| Under.fo2 <| Under.fo2 <| Under.fo2 <| wk (k1511 _ _ _ (osi h1510).symm) (s7 rfl rfl rfl rfl rfl rfl rfl)
             ·refine by_ (t := 121) rfl (fun c1548 => ?_) (fun c1548 => ?_)
              ·replace h1549 := ctrue c1548 h1549
               obtain ⟨x1553, h1552, h1549⟩ := bsome h1549
               refine gc c1548 rfl rfl <| mv rfl rfl <| gc c1548 rfl rfl <| ov (OpV.fd fb27_1 rfl rfl) rfl <| gc c1548 rfl rfl <| ov (OpV.ld kt25 rfl) rfl <| gc c1548 rfl rfl <| ov (OpV.len Try.underlying25 rfl rdV) rfl <| gc c1548 rfl rfl <| bn rfl rfl rfl rfl <| gc c1548 rfl rfl <| mv rfl rfl <| runj_9 136 x1553 ?_ (fun k => ?_)
               ·exact ov (pkT c1548 rfl rfl) rfl <| rf 7 (rbq h1549) rfl k
               ·refine by_ (t := 127) rfl (fun c1551 => ?_) (fun c1551 => ?_)
                ·replace h1552 := ctrue c1551 h1552
                 exact sk c1551 rfl rfl rfl <| sk c1551 rfl rfl rfl <| sk c1551 rfl rfl rfl <| sk c1551 rfl rfl rfl <| sk c1551 rfl rfl rfl <| sk c1551 rfl rfl rfl <| sk c1551 rfl rfl rfl <| sk c1551 rfl rfl rfl <| gc c1548 rfl rfl <| ov (pkT c1551 rfl rfl) rfl <| rf 8 (rbq h1552) rfl k
                ·replace h1552 := cfalse c1551 h1552
                 obtain ⟨x1554, h1555, h1552⟩ := bsome h1552
                 exact gc c1551 rfl rfl <| ov (OpV.fd fb27_1 rfl rfl) rfl <| gc c1551 rfl rfl <| ov (OpV.ld kt25 rfl) rfl <| gc c1551 rfl rfl <| mv rfl rfl <| gc c1551 rfl rfl <| ov (OpV.ixS h1555 Try.underlying25 sz61 rfl rdV rfl) rfl <| gc c1551 rfl rfl <| ov (OpV.fd fb61_0 rfl rfl) rfl <| gc c1551 rfl rfl <| ov (OpV.ldI kt2 rfl) rfl <| gc c1551 rfl rfl <| mv rfl rfl <| gc c1551 rfl rfl <| bn rfl rfl rfl rfl <| gc c1548 rfl rfl <| ov (pkF c1551 rfl rfl) rfl <| rf 8 (rbq h1552) rfl k
              ·replace h1549 := cfalse c1548 h1549
               exact sk c1548 rfl rfl rfl <| sk c1548 rfl rfl rfl <| sk c1548 rfl rfl rfl <| sk c1548 rfl rfl rfl <| sk c1548 rfl rfl rfl <| sk c1548 rfl rfl rfl <| Under.sku rfl rfl rfl <| Under.sku rfl rfl rfl <| Under.sku rfl rfl rfl <| Under.sku rfl rfl rfl <| Under.sku rfl rfl rfl <| Under.sku rfl rfl rfl <| Under.sku rfl rfl rfl <| Under.sku rfl rfl rfl <| sk c1548 rfl rfl rfl <| ov (pkF c1548 rfl rfl) rfl <| rf 15 (rbq h1549) rfl k
           ·refine Under.fo2 <| Under.fo2 <| Under.frzBO (fs := kApi_WindowF) (⟨a0.Newest, x1420⟩ : Api_Window) (fun F hv => ⟨fun _ h => h, cv_raw hv, trivial⟩) <| Under.frz (t := 15) rfl <| xt <| te ?_
            have e1563 := done_eq h1489 d1490
            subst e1563
            exact te <| bh <| tn <| wk (k1277 _ (osi h1276).symm) (s2 rfl rfl)
        ·intro K k985
         obtain ⟨r2285, h2286, h984⟩ := bsome h984
         refine sr <| ag rfl rfl <| nt <| bk <| Under.ownNil (K := kArr 16 K2) (e := 43) <| Under.fo2 <| Under.fo2 <| Under.fo2 <| Under.loop (S := ((List (List Int)) × Int × Int)) (C := Value) (.slice none 0 0) (fun (x2525 : ((List (List Int)) × Int × Int)) (q2526 : Value) => [(1, .raw (.int .i64 a1)), (3, .raw (.int .i64 a3)), (4, .raw (.pointer (some ⟨b1, 0, none⟩))), (8, .raw (.pointer (some ⟨b2, 0, none⟩))), (10, .val K0 y21), (11, .val K0 y23), (12, .raw q2526), (13, .raw (.int .i64 x2525.2.1)), (14, .raw (.int .i64 x2525.2.2))]) (fun (x2525 : ((List (List Int)) × Int × Int)) (q2526 : Value) => (.own K1 q2526 43 x2525.1) :: (.box kApi_Window b1 27 a0) :: (.box kApi_Window b2 27 (⟨0, []⟩ : Api_Window)) :: L) h2286 (s9 rfl rfl rfl rfl rfl rfl rfl rfl rfl) rfl (fun x2525 q2526 o2287 h2283 d2284 => ?_)
         obtain ⟨x2044, x2045, x2046⟩ := x2525
         dsimp only at h2283 ⊢
         refine sq <| sr <| mv rfl rfl <| mv rfl rfl <| ov (OpV.len Try.underlying36 rfl rdV) rfl <| bn rfl rfl rfl rfl <| nt <| Under.ite h2283 rfl (fun h2283 => ?_) (fun h2283 => ?_)
         ·obtain ⟨r2404, h2405, h2283⟩ := bsome h2283
          refine ct <| sq <| Under.after (fun X => ∀ (x2402 : List (List Int)) (x2403 : Int) (v2401 : Value), r2404 = (x2402, x2403) → Under F0 183 [(1, .raw (.int .i64 a1)), (3, .raw (.int .i64 a3)), (4, .raw (.pointer (some ⟨b1, 0, none⟩))), (8, .raw (.pointer (some ⟨b2, 0, none⟩))), (10, .val K0 y21), (11, .val K0 y23), (12, .raw v2401), (13, .raw (.int .i64 x2403)), (14, .raw (.int .i64 x2046))] ((.own K1 v2401 43 x2402) :: (.box kApi_Window b1 27 a0) :: (.box kApi_Window b2 27 (⟨0, []⟩ : Api_Window)) :: L) X) ?_ ?_
          ·intro x2402 x2403 v2401 h2522
           replace h2522 := h2522.symm
           subst h2522
           exact rg <| mv rfl rfl <| bn rfl rfl rfl rfl <| ag rfl rfl <| nl <| Under.fo2 <| Under.fo2 <| Under.fo2 <| Under.next _ v2401 h2283 (s9 rfl rfl rfl rfl rfl rfl rfl rfl rfl) rfl
          ·intro K k2406
           obtain ⟨r2455, h2456, h2405⟩ := bsome h2405
           refine bk <| sq <| Under.after (fun X => ∀ (x2454 : Int), r2455 = x2454 → Under F0 183 [(1, .raw (.int .i64 a1)), (3, .raw (.int .i64 a3)), (4, .raw (.pointer (some ⟨b1, 0, none⟩))), (8, .raw (.pointer (some ⟨b2, 0, none⟩))), (10, .val K0 y21), (11, .val K0 y23), (12, .raw q2526), (13, .raw (.int .i64 x2454)), (14, .raw (.int .i64 x2046))] ((.own K1 q2526 43 x2044) :: (.box kApi_Window b1 27 a0) :: (.box kApi_Window b2 27 (⟨0, []⟩ : Api_Window)) :: L) X) ?_ ?_
           ·intro x2454 h2521
            replace h2521 := h2521.symm
            subst h2521
            obtain ⟨x2460, h2459, h2405⟩ := bsome h2405
            refine sq <| dw rfl (by kernel_rfl) fun F hF0 => mvq rfl rfl <| mvq rfl rfl <| oq (OpV.len Try.underlying36 rfl rdV) rfl <| bnq rfl rfl rfl rfl <| mvq rfl rfl <| runj_10q 90 x2460 ?_ (fun k => ?_)
            ·refine nlq hF0 <| tn <| Under.ite h2405 rfl (fun h2405 => ?_) (fun h2405 => ?_)
             ·obtain ⟨x2465, h2466, h2405⟩ := bsome h2405
              obtain ⟨z2467, h2468, h2405⟩ := bsome h2405
              exact rg <| mv rfl rfl <| mv rfl rfl <| mv rfl rfl <| ov (OpV.ixS h2466 Try.underlying36 sz43 rfl rdV rfl) rfl <| ov (OpV.ld kt43 rfl) rfl <| Under.bsF (ys := [x2465]) Try.underlying36 ET43 (BldA.cons rfl rfl rdV (BldA.nil _)) rfl rfl <| Under.app h2468 Try.underlying36 AT43 rfl rfl rdV rfl fun v2469 => ag rfl rfl <| nl <| bN <| tn <| Under.fo2 <| Under.fo2 <| Under.fo2 <| wk (k2406 _ _ _ (osi h2405).symm) (s9 rfl rfl rfl rfl rfl rfl rfl rfl rfl)
             ·exact cs <| bN <| tn <| Under.fo2 <| Under.fo2 <| Under.fo2 <| wk (k2406 _ _ _ (osi h2405).symm) (s9 rfl rfl rfl rfl rfl rfl rfl rfl rfl)
            ·refine byq (t := 80) rfl (fun c2458 => ?_) (fun c2458 => ?_)
             ·replace h2459 := ctrue c2458 h2459
              exact skq c2458 rfl rfl rfl <| skq c2458 rfl rfl rfl <| skq c2458 rfl rfl rfl <| skq c2458 rfl rfl rfl <| skq c2458 rfl rfl rfl <| skq c2458 rfl rfl rfl <| skq c2458 rfl rfl rfl <| skq c2458 rfl rfl rfl <| skq c2458 rfl rfl rfl <| oq (pkT c2458 rfl rfl) rfl <| rfq 9 (rbq h2459) rfl k
             ·replace h2459 := cfalse c2458 h2459
              obtain ⟨x2461, h2462, h2459⟩ := bsome h2459
              obtain ⟨x2463, h2464, h2459⟩ := bsome h2459
              exact gq c2458 rfl rfl <| mvq rfl rfl <| gq c2458 rfl rfl <| mvq rfl rfl <| gq c2458 rfl rfl <| oq (OpV.ixS h2462 Try.underlying36 sz43 rfl rdV rfl) rfl <| gq c2458 rfl rfl <| oq (OpV.ld kt43 rfl) rfl <| gq c2458 rfl rfl <| mvq rfl rfl <| gq c2458 rfl rfl <| mvq rfl rfl <| gq c2458 rfl rfl <| oq (OpV.ixS h2464 Try.underlying36 sz43 rfl rdV rfl) rfl <| gq c2458 rfl rfl <| oq (OpV.ld kt43 rfl) rfl <| gq c2458 rfl rfl <| oq (OpV.neK eqk43 eqg43 rfl rfl rfl rdV rfl rdV) rfl <| oq (pkF c2458 rfl rfl) rfl <| rfq 9 (rbq h2459) rfl k
           ·intro K k2457
            obtain ⟨r2504, h2505, h2456⟩ := bsome h2456
            refine bk <| Under.fo2 <| Under.fo2 <| Under.fo2 <| Under.loop (S := Int) (C := Unit) () (fun (x2518 : Int) (q2519 : Unit) => [(1, .raw (.int .i64 a1)), (3, .raw (.int .i64 a3)), (4, .raw (.pointer (some ⟨b1, 0, none⟩))), (8, .raw (.pointer (some ⟨b2, 0, none⟩))), (10, .val K0 y21), (11, .val K0 y23), (12, .raw q2526), (13, .raw (.int .i64 x2518)), (14, .raw (.int .i64 x2046))]) (fun (x2518 : Int) (q2519 : Unit) => (.own K1 q2526 43 x2044) :: (.box kApi_Window b1 27 a0) :: (.box kApi_Window b2 27 (⟨0, []⟩ : Api_Window)) :: L) h2505 (s9 rfl rfl rfl rfl rfl rfl rfl rfl rfl) rfl (fun x2518 q2519 o2506 h2502 d2503 => ?_)
            obtain ⟨x2509, h2508, h2502⟩ := bsome h2502
            refine sq <| sq <| dw rfl (by kernel_rfl) fun F hF0 => mvq rfl rfl <| mvq rfl rfl <| oq (OpV.len Try.underlying36 rfl rdV) rfl <| bnq rfl rfl rfl rfl <| mvq rfl rfl <| runj_10q 73 x2509 ?_ (fun k => ?_)
            ·refine nlq hF0 <| tn <| Under.ite h2502 rfl (fun h2502 => ?_) (fun h2502 => ?_)
             ·exact ct <| bk <| rg <| mv rfl rfl <| bn rfl rfl rfl rfl <| ag rfl rfl <| nl <| bN <| Under.fo2 <| Under.fo2 <| Under.fo2 <| Under.next _ () h2502 (s9 rfl rfl rfl rfl rfl rfl rfl rfl rfl) rfl
             ·refine xt <| te ?_
              have e2516 := done_eq h2502 d2503
              subst e2516
              exact te <| bh <| tn <| Under.fo2 <| Under.fo2 <| Under.fo2 <| wk (k2457 _ (osi h2456).symm) (s9 rfl rfl rfl rfl rfl rfl rfl rfl rfl)
            ·refine byq (t := 63) rfl (fun c2507 => ?_) (fun c2507 => ?_)
             ·replace h2508 := ctrue c2507 h2508
              obtain ⟨x2510, h2511, h2508⟩ := bsome h2508
              obtain ⟨x2512, h2513, h2508⟩ := bsome h2508
              obtain ⟨y2514, h2515, h2508⟩ := bsome h2508
              exact gq c2507 rfl rfl <| mvq rfl rfl <| gq c2507 rfl rfl <| mvq rfl rfl <| gq c2507 rfl rfl <| oq (OpV.ixS h2511 Try.underlying36 sz43 rfl rdV rfl) rfl <| gq c2507 rfl rfl <| oq (OpV.ld kt43 rfl) rfl <| gq c2507 rfl rfl <| mvq rfl rfl <| gq c2507 rfl rfl <| mvq rfl rfl <| gq c2507 rfl rfl <| oq (OpV.ixS h2513 Try.underlying36 sz43 rfl rdV rfl) rfl <| gq c2507 rfl rfl <| oq (OpV.ld kt43 rfl) rfl <| gq c2507 rfl rfl <| oq (OpV.call Try.call39 rfl rfl (fun L => (f_churnref16_less_ok h2515 L))) rfl <| oq (pkT c2507 rfl rfl) rfl <| rfq 9 (rbq h2508) rfl k
             ·replace h2508 := cfalse c2507 h2508
              exact skq c2507 rfl rfl rfl <| skq c2507 rfl rfl rfl <| skq c2507 rfl rfl rfl <| skq c2507 rfl rfl rfl <| skq c2507 rfl rfl rfl <| skq c2507 rfl rfl rfl <| skq c2507 rfl rfl rfl <| skq c2507 rfl rfl rfl <| skq c2507 rfl rfl rfl <| oq (pkF c2507 rfl rfl) rfl <| rfq 9 (rbq h2508) rfl k
         ·refine Under.frzO (t := 12) rfl <| xt <| te ?_
          have e2523 := done_eq h2283 d2284
          subst e2523
          exact te <| bh <| tn <| Under.fo1 <| Under.fo1 <| wk (k985 _ (osi h984).symm) (s6 rfl rfl rfl rfl rfl rfl)
      ·refine by_ (t := 40) rfl (fun c15 => ?_) (fun c15 => ?_)
       ·exact sk c15 rfl rfl rfl <| sk c15 rfl rfl rfl <| sk c15 rfl rfl rfl <| sk c15 rfl rfl rfl <| sk c15 rfl rfl rfl <| ov (pkT c15 rfl rfl) rfl <| rf 5 (or_t (e := decide (a1 ≤ (IntKind.wrap .i64 (a0.Newest - 8)))) c15) rfl k
       ·exact gc c15 rfl rfl <| mv rfl rfl <| gc c15 rfl rfl <| ov (OpV.fdM fm27_0 rfl) rfl <| gc c15 rfl rfl <| Under.fo1 <| Under.ldP .box (.fld .id uf_Api_Window_0) kt2_kInt_i64 rfl rfl <| Under.rawI (t := 43) rfl <| gc c15 rfl rfl <| bn rfl rfl rfl rfl <| gc c15 rfl rfl <| bn rfl rfl rfl rfl <| Under.fo1 <| ov (pkF c15 rfl rfl) rfl <| rf 6 (or_f c15) rfl k
     ·refine by_ (t := 34) rfl (fun c12 => ?_) (fun c12 => ?_)
      ·exact sk c12 rfl rfl rfl <| sk c12 rfl rfl rfl <| sk c12 rfl rfl rfl <| sk c12 rfl rfl rfl <| ov (pkT c12 rfl rfl) rfl <| rf 4 (or_t (e := decide (a1 > a0.Newest)) c12) rfl k
      ·exact gc c12 rfl rfl <| mv rfl rfl <| gc c12 rfl rfl <| ov (OpV.fdM fm27_0 rfl) rfl <| gc c12 rfl rfl <| Under.fo1 <| Under.ldP .box (.fld .id uf_Api_Window_0) kt2_kInt_i64 rfl rfl <| Under.rawI (t := 37) rfl <| gc c12 rfl rfl <| bn rfl rfl rfl rfl <| Under.fo1 <| ov (pkF c12 rfl rfl) rfl <| rf 5 (or_f c12) rfl k
   ·refine by_ (t := 26) rfl (fun c6 => ?_) (fun c6 => ?_)
    ·replace h7 := ctrue c6 h7
     exact sk c6 rfl rfl rfl <| sk c6 rfl rfl rfl <| sk c6 rfl rfl rfl <| ov (pkT c6 rfl rfl) rfl <| rf 3 (rbq h7) rfl k
    ·replace h7 := cfalse c6 h7
     obtain ⟨y9, h10, h7⟩ := bsome h7
     exact gc c6 rfl rfl <| Under.fo1 <| Under.ldP .box .id kt27_kApi_Window rfl rfl <| gc c6 rfl rfl <| Under.call Try.call17 rfl rfl (f_churnref16_Check_ok h10 _) rfl <| gc c6 rfl rfl <| bn rfl rfl rfl rfl <| Under.fo1 <| ov (pkF c6 rfl rfl) rfl <| rf 3 (rbq h7) rfl k
  ·refine by_ (t := 22) rfl (fun c3 => ?_) (fun c3 => ?_)
   ·exact sk c3 rfl rfl rfl <| sk c3 rfl rfl rfl <| ov (pkT c3 rfl rfl) rfl <| rf 2 (or_t (e := decide (a3 > 4096)) c3) rfl k
   ·exact gc c3 rfl rfl <| mv rfl rfl <| gc c3 rfl rfl <| bn rfl rfl rfl rfl <| ov (pkF c3 rfl rfl) rfl <| rf 2 (or_f c3) rfl k
/-- churn/churnlaw16.WindowAdds -/
noncomputable def f_churnlaw16_WindowAdds (a0 : Churnlaw16_Job) : Option Bool :=
  (f_churnlaw16_alive).bind fun y1 =>
  bif !y1 then
    some false
  else
    (f_churnref16_Add a0.W a0.Epoch a0.Tags a0.Room).bind fun y4 =>
    (f_window_Add a0.W a0.Epoch a0.Tags a0.Room).bind fun y7 =>
    ((bif y7.2 == y4.2 then
      (f_churnlaw16_same y7.1 y4.1).bind fun y13 =>
      some y13
    else
      some false
      : Option Bool)).bind fun x12 =>
    some x12
theorem f_churnlaw16_WindowAdds_ok {a0 : Churnlaw16_Job} {r0 : Bool} (hF : f_churnlaw16_WindowAdds a0 = some r0) (L : List Res) : Ok Try.prog 7 [SV.val kChurnlaw16_Job a0] (L) (SV.raw (.bool r0)) (L) := by
  unfold f_churnlaw16_WindowAdds at hF
  refine Ok.intro 41 [(0, .val kChurnlaw16_Job a0)] Try.func7 rfl rfl rfl rfl (fun F0 => ?_)
  obtain ⟨y1, h2, hF⟩ := bsome hF
  refine sr <| Under.bxF (K := kChurnlaw16_Job) rfl rdV rfl <| ag rfl rfl <| nt <| sq <| sr <| Under.call Try.call15 rfl rfl (f_churnlaw16_alive_ok h2 _) rfl <| ov (OpV.not rfl) rfl <| nt <| Under.ite hF rfl (fun hF => ?_) (fun hF => ?_)
  ·refine sr <| ag rfl rfl <| nt <| rt ?_
   have e3 := osi hF
   subst e3
   exact Under.rets Try.results7 (.tm rfl .nil) rfl rfl
  ·obtain ⟨y4, h5, hF⟩ := bsome hF
   obtain ⟨y7, h8, hF⟩ := bsome hF
   obtain ⟨x12, h11, hF⟩ := bsome hF
   refine ct <| sr <| ov (OpV.fd fb52_0 rfl rfl) rfl <| ov (OpV.ld kt27 rfl) rfl <| ov (OpV.fd fb52_3 rfl rfl) rfl <| ov (OpV.ldI kt2 rfl) rfl <| ov (OpV.fd fb52_4 rfl rfl) rfl <| ov (OpV.ld kt36 rfl) rfl <| ov (OpV.fd fb52_2 rfl rfl) rfl <| ov (OpV.ldI kt3 rfl) rfl <| Under.call Try.call25 rfl rfl (f_churnref16_Add_ok h5 _) rfl <| mv rfl rfl <| ov (OpV.extr rfl rfl) rfl <| ov (OpV.extr rfl rfl) rfl <| Under.al ZT27 rfl fun b6 => Under.stP (x' := y4.1) .box .id sz27_kApi_Window rfl rfl rdV rfl <| ag rfl rfl <| nl <| Under.frz (t := 3) rfl <| tn <| sr <| ov (OpV.fd fb52_0 rfl rfl) rfl <| ov (OpV.ld kt27 rfl) rfl <| ov (OpV.fd fb52_3 rfl rfl) rfl <| ov (OpV.ldI kt2 rfl) rfl <| ov (OpV.fd fb52_4 rfl rfl) rfl <| ov (OpV.ld kt36 rfl) rfl <| ov (OpV.fd fb52_2 rfl rfl) rfl <| ov (OpV.ldI kt3 rfl) rfl <| Under.call Try.call26 rfl rfl (f_window_Add_ok h8 _) rfl <| mv rfl rfl <| ov (OpV.extr rfl rfl) rfl <| ov (OpV.extr rfl rfl) rfl <| Under.al ZT27 rfl fun b9 => Under.stP (x' := y7.1) .box .id sz27_kApi_Window rfl rfl rdV rfl <| ag rfl rfl <| nl <| Under.frz (t := 5) rfl <| tn <| sr <| mv rfl rfl <| mv rfl rfl <| bn rfl rfl rfl rfl <| mv rfl rfl <| runj_4 40 x12 ?_ (fun k => ?_)
   ·refine ag rfl rfl <| nt <| rc ?_
    have e15 := osi hF
    subst e15
    exact Under.rets Try.results7 (.tm rfl .nil) rfl rfl
   ·refine by_ (t := 36) rfl (fun c10 => ?_) (fun c10 => ?_)
    ·replace h11 := ctrue c10 h11
     obtain ⟨y13, h14, h11⟩ := bsome h11
     exact gc c10 rfl rfl <| ov (OpV.ld kt27 rfl) rfl <| gc c10 rfl rfl <| ov (OpV.ld kt27 rfl) rfl <| gc c10 rfl rfl <| Under.call Try.call24 rfl rfl (f_churnlaw16_same_ok h14 _) rfl <| ov (pkT c10 rfl rfl) rfl <| rf 3 (rbq h11) rfl k
    ·replace h11 := cfalse c10 h11
     exact sk c10 rfl rfl rfl <| sk c10 rfl rfl rfl <| sk c10 rfl rfl rfl <| ov (pkF c10 rfl rfl) rfl <| rf 3 (rbq h11) rfl k
/-- churn/churnlaw16.WindowLives -/
noncomputable def f_churnlaw16_WindowLives (a0 : Int) (a1 : Int) (a2 : List Churnlaw16_Step) : Option Bool :=
  (f_churnlaw16_alive).bind fun y1 =>
  bif !y1 then
    some false
  else
    ((bif (decide (a0 < 1)) || (decide (a0 > 8)) then
      some (IntKind.wrap .i64 (1 + (andI .i64 a0 7)))
    else
      some a0
      : Option Int)).bind fun x7 =>
    ((bif (decide (a1 < 0)) || (decide (a1 > 4096)) then
      some (andI .i64 a1 63)
    else
      some a1
      : Option Int)).bind fun x14 =>
    (((Loop.run (S := (Int × Api_Window × Api_Window)) (R := ((Api_Window × Api_Window) ⊕ Bool)) (fun (x367, x368, x369) =>
        bif (decide (x367 < (a2.length : Int))) && (decide (x367 < 500)) then
          (idx a2 x367).bind fun x433 =>
          (f_window_Open x368 x433.Epoch x7).bind fun y436 =>
          (f_churnref16_Open x369 x433.Epoch x7).bind fun y439 =>
          ((bif x433.Put && (decide (x433.Epoch > (IntKind.wrap .i64 (x369.Newest - x7)))) then
            (f_window_Add x368 x433.Epoch x433.Tags x14).bind fun y482 =>
            (f_churnref16_Add x369 x433.Epoch x433.Tags x14).bind fun y484 =>
            some (y482.1, y482.2, y484.1, y484.2)
          else
            some (y436.1, y436.2, y439.1, y439.2)
            : Option (Api_Window × Int × Api_Window × Int))).bind fun r453 => match r453 with
            | (x449, x450, x451, x452) =>
              ((bif x450 != x452 then
                some true
              else
                (f_churnlaw16_same x449 x451).bind fun y459 =>
                some (!y459)
                : Option Bool)).bind fun x458 =>
              bif x458 then
                some (.done (.inr false))
              else
                ((bif x452 == 0 then
                  some (x449, x451)
                else
                  some (x368, x369)
                  : Option (Api_Window × Api_Window))).bind fun r467 => match r467 with
                  | (x465, x466) =>
                    (f_window_Check x465 x7 x14).bind fun y470 =>
                    bif y470 != 0 then
                      some (.done (.inr false))
                    else
                      some (.next (IntKind.wrap .i64 (x367 + 1), x465, x466))
        else
          some (.done (.inl (x368, x369)))) (0, (⟨0, []⟩ : Api_Window), (⟨0, []⟩ : Api_Window))).bind fun r427 => match r427 with
      | .inl (x423, x424) =>
        some (.inr (x423, x424))
      | .inr z =>
        some (.inl z)
      : Option (Bool ⊕ (Api_Window × Api_Window)))).bind fun r252 => match r252 with
      | .inl z =>
        some z
      | .inr (x250, x251) =>
        (f_churnlaw16_same x250 x251).bind fun y255 =>
        some y255
theorem f_churnlaw16_WindowLives_ok {a0 : Int} {a1 : Int} {a2 : List Churnlaw16_Step} {r0 : Bool} (hF : f_churnlaw16_WindowLives a0 a1 a2 = some r0) (L : List Res) : Ok Try.prog 8 [SV.raw (.int .i64 a0), SV.raw (.int .i64 a1), SV.val (kSl kChurnlaw16_Step) a2] (L) (SV.raw (.bool r0)) (L) := by
  unfold f_churnlaw16_WindowLives at hF
  refine Ok.intro 116 [(0, .raw (.int .i64 a0)), (1, .raw (.int .i64 a1)), (2, .val (kSl kChurnlaw16_Step) a2)] Try.func8 rfl rfl rfl rfl (fun F0 => ?_)
  obtain ⟨y1, h2, hF⟩ := bsome hF
  refine sr <| ag rfl rfl <| nt <| sq <| sr <| Under.call Try.call15 rfl rfl (f_churnlaw16_alive_ok h2 _) rfl <| ov (OpV.not rfl) rfl <| nt <| Under.ite hF rfl (fun hF => ?_) (fun hF => ?_)
  ·refine sr <| ag rfl rfl <| nt <| rt ?_
   have e3 := osi hF
   subst e3
   exact Under.rets Try.results8 (.tm rfl .nil) rfl rfl
  ·obtain ⟨r8, h9, hF⟩ := bsome hF
   refine ct <| sq <| Under.after (fun X => ∀ (x7 : Int), r8 = x7 → Under F0 116 [(0, .raw (.int .i64 x7)), (1, .raw (.int .i64 a1)), (2, .val (kSl kChurnlaw16_Step) a2)] (L) X) ?_ ?_
   ·intro x7 h506
    replace h506 := h506.symm
    subst h506
    obtain ⟨r15, h16, hF⟩ := bsome hF
    refine sq <| Under.after (fun X => ∀ (x14 : Int), r15 = x14 → Under F0 116 [(0, .raw (.int .i64 x7)), (1, .raw (.int .i64 x14)), (2, .val (kSl kChurnlaw16_Step) a2)] (L) X) ?_ ?_
    ·intro x14 h500
     replace h500 := h500.symm
     subst h500
     obtain ⟨r252, h253, hF⟩ := bsome hF
     refine sr <| Under.al ZT27 rfl fun b18 => Under.al ZT27 rfl fun b19 => nt <| sq <| Under.after (fun X => ∀ (x250 : Api_Window) (x251 : Api_Window), r252 = (.inr (x250, x251)) → Under F0 116 [(7, .ptr kApi_Window x250), (8, .ptr kApi_Window x251)] (L) X) ?_ ?_
     ·intro x250 x251 h494
      replace h494 := h494.symm
      subst h494
      obtain ⟨y255, h256, hF⟩ := bsome hF
      refine sr <| ov (OpV.ld kt27 rfl) rfl <| ov (OpV.ld kt27 rfl) rfl <| Under.call Try.call24 rfl rfl (f_churnlaw16_same_ok h256 _) rfl <| ag rfl rfl <| nt <| rc ?_
      have e257 := osi hF
      subst e257
      exact Under.rets Try.results8 (.tm rfl .nil) rfl rfl
     ·intro K k254
      obtain ⟨r427, h428, h253⟩ := bsome h253
      refine sr <| ag rfl rfl <| nt <| bk <| Under.fo1 <| Under.loop (S := (Int × Api_Window × Api_Window)) (C := Unit) () (fun (x491 : (Int × Api_Window × Api_Window)) (q492 : Unit) => [(0, .raw (.int .i64 x7)), (1, .raw (.int .i64 x14)), (2, .val (kSl kChurnlaw16_Step) a2), (7, .raw (.pointer (some ⟨b18, 0, none⟩))), (8, .raw (.pointer (some ⟨b19, 0, none⟩))), (9, .raw (.int .i64 x491.1))]) (fun (x491 : (Int × Api_Window × Api_Window)) (q492 : Unit) => (.box kApi_Window b18 27 x491.2.1) :: (.box kApi_Window b19 27 x491.2.2) :: L) h428 (s6 rfl rfl rfl rfl rfl rfl) rfl (fun x491 q492 o429 h425 d426 => ?_)
      obtain ⟨x367, x368, x369⟩ := x491
      dsimp only at h425 ⊢
      refine sq <| sr <| mv rfl rfl <| mv rfl rfl <| ov (OpV.len Try.underlying56 rfl rdV) rfl <| bn rfl rfl rfl rfl <| mv rfl rfl <| runj_3 41 ((decide (x367 < (a2.length : Int))) && (decide (x367 < 500))) ?_ (fun k => ?_)
      ·refine nt <| Under.ite h425 rfl (fun h425 => ?_) (fun h425 => ?_)
       ·obtain ⟨x433, h434, h425⟩ := bsome h425
        obtain ⟨y436, h437, h425⟩ := bsome h425
        obtain ⟨y439, h440, h425⟩ := bsome h425
        obtain ⟨r453, h454, h425⟩ := bsome h425
        refine ct <| sq <| bk <| sr <| mv rfl rfl <| mv rfl rfl <| ov (OpV.ixS h434 Try.underlying56 sz58 rfl rdV rfl) rfl <| ov (OpV.ld kt58 rfl) rfl <| Under.al ZT58 rfl fun b435 => Under.stP (x' := x433) .box .id sz58_kChurnlaw16_Step rfl rfl rdV rfl <| nl <| Under.frz (t := 10) rfl <| tn <| sr <| Under.ldP .box .id kt27_kApi_Window rfl rfl <| ov (OpV.fd fb58_1 rfl rfl) rfl <| ov (OpV.ldI kt2 rfl) rfl <| mv rfl rfl <| Under.call Try.call23 rfl rfl (f_window_Open_ok h437 _) rfl <| mv rfl rfl <| ov (OpV.extr rfl rfl) rfl <| ov (OpV.extr rfl rfl) rfl <| Under.al ZT27 rfl fun b438 => Under.stP (x' := y436.1) .box .id sz27_kApi_Window rfl rfl rdV rfl <| ag rfl rfl <| ns <| Under.fo2 <| Under.ldP .box .id kt27_kApi_Window rfl rfl <| ov (OpV.fd fb58_1 rfl rfl) rfl <| ov (OpV.ldI kt2 rfl) rfl <| mv rfl rfl <| Under.call Try.call22 rfl rfl (f_churnref16_Open_ok h440 _) rfl <| mv rfl rfl <| ov (OpV.extr rfl rfl) rfl <| ov (OpV.extr rfl rfl) rfl <| Under.al ZT27 rfl fun b441 => Under.stP (x' := y439.1) .box .id sz27_kApi_Window rfl rfl rdV rfl <| ag rfl rfl <| nt <| sq <| Under.after (fun X => ∀ (x449 : Api_Window) (x450 : Int) (x451 : Api_Window) (x452 : Int), r453 = (x449, x450, x451, x452) → Under F0 116 [(0, .raw (.int .i64 x7)), (1, .raw (.int .i64 x14)), (2, .val (kSl kChurnlaw16_Step) a2), (7, .raw (.pointer (some ⟨b18, 0, none⟩))), (8, .raw (.pointer (some ⟨b19, 0, none⟩))), (9, .raw (.int .i64 x367)), (11, .ptr kApi_Window x449), (12, .raw (.int .i64 x450)), (13, .ptr kApi_Window x451), (14, .raw (.int .i64 x452))] ((.box kApi_Window b18 27 x368) :: (.box kApi_Window b19 27 x369) :: L) X) ?_ ?_
        ·intro x449 x450 x451 x452 h488
         replace h488 := h488.symm
         subst h488
         obtain ⟨x458, h457, h425⟩ := bsome h425
         refine sq <| sr <| mv rfl rfl <| mv rfl rfl <| bn rfl rfl rfl rfl <| mv rfl rfl <| runj_5 103 x458 ?_ (fun k => ?_)
         ·refine nt <| Under.ite h425 rfl (fun h425 => ?_) (fun h425 => ?_)
          ·refine dr <| dr <| sr <| ag rfl rfl <| nt <| rt <| Under.bR <| tr ?_
           have e461 := done_eq h425 d426
           subst e461
           refine tr <| Under.bR <| tr ?_
           have e462 := osi h253
           subst e462
           have e463 := osi hF
           subst e463
           exact Under.rets Try.results8 (.tm rfl .nil) rfl rfl
          ·obtain ⟨r467, h468, h425⟩ := bsome h425
           refine ct <| sq <| Under.after (fun X => ∀ (x465 : Api_Window) (x466 : Api_Window), r467 = (x465, x466) → Under F0 116 [(0, .raw (.int .i64 x7)), (1, .raw (.int .i64 x14)), (2, .val (kSl kChurnlaw16_Step) a2), (7, .raw (.pointer (some ⟨b18, 0, none⟩))), (8, .raw (.pointer (some ⟨b19, 0, none⟩))), (9, .raw (.int .i64 x367))] ((.box kApi_Window b18 27 x465) :: (.box kApi_Window b19 27 x466) :: L) X) ?_ ?_
           ·intro x465 x466 h478
            replace h478 := h478.symm
            subst h478
            obtain ⟨y470, h471, h425⟩ := bsome h425
            refine sr <| Under.ldP .box .id kt27_kApi_Window rfl rfl <| mv rfl rfl <| mv rfl rfl <| Under.call Try.call16 rfl rfl (f_window_Check_ok h471 _) rfl <| bn rfl rfl rfl rfl <| nt <| Under.ite h425 rfl (fun h425 => ?_) (fun h425 => ?_)
            ·refine dr <| dr <| sr <| ag rfl rfl <| nt <| rc <| Under.bR <| tr ?_
             have e472 := done_eq h425 d426
             subst e472
             refine tr <| Under.bR <| tr ?_
             have e473 := osi h253
             subst e473
             have e474 := osi hF
             subst e474
             exact Under.rets Try.results8 (.tm rfl .nil) rfl rfl
            ·exact cs <| bN <| tn <| rg <| mv rfl rfl <| bn rfl rfl rfl rfl <| ag rfl rfl <| nl <| Under.fo1 <| Under.fo1 <| Under.next _ () h425 (s6 rfl rfl rfl rfl rfl rfl) rfl
           ·intro K k469
            refine sr <| mv rfl rfl <| bn rfl rfl rfl rfl <| nt <| Under.ite h468 rfl (fun h468 => ?_) (fun h468 => ?_)
            ·refine Under.phases rfl <| Under.fo1 <| Under.fo1 <| Under.grpT (L := L) [0, 1, 2, 3] [[11], [13], [7, 106], [8, 107]] [⟨sk0 (.val kApi_Window x449), [], []⟩, ⟨sk0 (.val kApi_Window x451), [], []⟩, ⟨sk0 (.raw undef), [0], [(2, tk0 (.box kApi_Window b18 27 x449))]⟩, ⟨sk0 (.raw undef), [1], [(3, tk0 (.box kApi_Window b19 27 x451))]⟩] [(0, .box kApi_Window b18 27 x368), (1, .box kApi_Window b19 27 x369)] (fun T : List Res => T) lf0 rfl (by kernel_rfl) rfl rfl (fun F hF0 bs475 => ?_)
             refine Tq.v (fun G T hG => ?_) ?_
             ·exact ov (OpV.ld kt27 rfl) rfl <| Tq.end undef rfl rfl
             refine Tq.v (fun G T hG => ?_) ?_
             ·exact ov (OpV.ld kt27 rfl) rfl <| Tq.end undef rfl rfl
             refine Tq.st0 [.box kApi_Window b18 27 x368] rfl (fun G T hG => ?_) ?_
             ·exact Under.stP (x' := x449) .box .id sz27_kApi_Window rfl rfl rdV rfl <| Tq.end0 undef rfl
             refine Tq.st0 [.box kApi_Window b19 27 x369] rfl (fun G T hG => ?_) ?_
             ·exact Under.stP (x' := x451) .box .id sz27_kApi_Window rfl rfl rdV rfl <| Tq.end0 undef rfl
             exact Tq.nil <| Under.le hF0 <| Under.pdone rfl <| tn <| Under.fo1 <| Under.fo1 <| wk (k469 _ _ (osi h468).symm) (s6 rfl rfl rfl rfl rfl rfl)
            ·exact ct <| Under.fo1 <| Under.fo1 <| wk (k469 _ _ (osi h468).symm) (s6 rfl rfl rfl rfl rfl rfl)
         ·refine by_ (t := 98) rfl (fun c456 => ?_) (fun c456 => ?_)
          ·replace h457 := ctrue c456 h457
           exact sk c456 rfl rfl rfl <| sk c456 rfl rfl rfl <| sk c456 rfl rfl rfl <| sk c456 rfl rfl rfl <| ov (pkT c456 rfl rfl) rfl <| rf 4 (rbq h457) rfl k
          ·replace h457 := cfalse c456 h457
           obtain ⟨y459, h460, h457⟩ := bsome h457
           exact gc c456 rfl rfl <| ov (OpV.ld kt27 rfl) rfl <| gc c456 rfl rfl <| ov (OpV.ld kt27 rfl) rfl <| gc c456 rfl rfl <| Under.call Try.call24 rfl rfl (f_churnlaw16_same_ok h460 _) rfl <| gc c456 rfl rfl <| ov (OpV.not rfl) rfl <| ov (pkF c456 rfl rfl) rfl <| rf 4 (rbq h457) rfl k
        ·intro K k455
         refine sr <| ov (OpV.fd fb58_0 rfl rfl) rfl <| ov (OpV.ldB kt4 rfl) rfl <| mv rfl rfl <| runj_8 74 (x433.Put && (decide (x433.Epoch > (IntKind.wrap .i64 (x369.Newest - x7))))) ?_ (fun k => ?_)
         ·refine nt <| Under.ite h454 rfl (fun h454 => ?_) (fun h454 => ?_)
          ·obtain ⟨y482, h483, h454⟩ := bsome h454
           obtain ⟨y484, h485, h454⟩ := bsome h454
           exact sr <| Under.fo3 <| Under.ldP .box .id kt27_kApi_Window rfl rfl <| ov (OpV.fd fb58_1 rfl rfl) rfl <| ov (OpV.ldI kt2 rfl) rfl <| ov (OpV.fd fb58_2 rfl rfl) rfl <| ov (OpV.ld kt36 rfl) rfl <| mv rfl rfl <| Under.call Try.call26 rfl rfl (f_window_Add_ok h483 _) rfl <| mv rfl rfl <| ov (OpV.extr rfl rfl) rfl <| ov (OpV.extr rfl rfl) rfl <| Under.fo3 <| Under.stP (x' := y482.1) .box .id sz27_kApi_Window rfl rfl rdV rfl <| ag rfl rfl <| nl <| Under.frz (t := 11) rfl <| tn <| rg <| Under.fo2 <| Under.ldP .box .id kt27_kApi_Window rfl rfl <| ov (OpV.fd fb58_1 rfl rfl) rfl <| ov (OpV.ldI kt2 rfl) rfl <| ov (OpV.fd fb58_2 rfl rfl) rfl <| ov (OpV.ld kt36 rfl) rfl <| mv rfl rfl <| Under.call Try.call25 rfl rfl (f_churnref16_Add_ok h485 _) rfl <| mv rfl rfl <| ov (OpV.extr rfl rfl) rfl <| ov (OpV.extr rfl rfl) rfl <| Under.fo2 <| Under.stP (x' := y484.1) .box .id sz27_kApi_Window rfl rfl rdV rfl <| ag rfl rfl <| nl <| Under.frz (t := 13) rfl <| tn <| Under.fo1 <| wk (k455 _ _ _ _ (osi h454).symm) (s10 rfl rfl rfl rfl rfl rfl rfl rfl rfl rfl)
          ·exact Under.frz (t := 13) rfl <| Under.fo1 <| Under.frz (t := 11) rfl <| ct <| Under.fo1 <| wk (k455 _ _ _ _ (osi h454).symm) (s10 rfl rfl rfl rfl rfl rfl rfl rfl rfl rfl)
         ·refine by_ (t := 66) rfl (fun c479 => ?_) (fun c479 => ?_)
          ·exact gc c479 rfl rfl <| ov (OpV.fd fb58_1 rfl rfl) rfl <| gc c479 rfl rfl <| ov (OpV.ldI kt2 rfl) rfl <| gc c479 rfl rfl <| ov (OpV.fdM fm27_0 rfl) rfl <| gc c479 rfl rfl <| Under.fo1 <| Under.ldP .box (.fld .id uf_Api_Window_0) kt2_kInt_i64 rfl rfl <| Under.rawI (t := 70) rfl <| gc c479 rfl rfl <| mv rfl rfl <| gc c479 rfl rfl <| bn rfl rfl rfl rfl <| gc c479 rfl rfl <| bn rfl rfl rfl rfl <| Under.fo3 <| Under.fo3 <| Under.fo2 <| Under.fo3 <| ov (pkT c479 rfl rfl) rfl <| rf 8 (and_t c479) rfl k
          ·exact sk c479 rfl rfl rfl <| sk c479 rfl rfl rfl <| sk c479 rfl rfl rfl <| sk c479 rfl rfl rfl <| sk c479 rfl rfl rfl <| sk c479 rfl rfl rfl <| sk c479 rfl rfl rfl <| ov (pkF c479 rfl rfl) rfl <| rf 7 (and_f (e := decide (x433.Epoch > (IntKind.wrap .i64 (x369.Newest - x7)))) c479) rfl k
       ·refine Under.frz (t := 7) rfl <| Under.frz (t := 8) rfl <| xt <| te ?_
        have e489 := done_eq h425 d426
        subst e489
        exact te <| bh <| tn <| wk (k254 _ _ (osi h253).symm) (s2 rfl rfl)
      ·refine by_ (t := 38) rfl (fun c430 => ?_) (fun c430 => ?_)
       ·exact gc c430 rfl rfl <| mv rfl rfl <| gc c430 rfl rfl <| bn rfl rfl rfl rfl <| ov (pkT c430 rfl rfl) rfl <| rf 2 (and_t c430) rfl k
       ·exact sk c430 rfl rfl rfl <| sk c430 rfl rfl rfl <| ov (pkF c430 rfl rfl) rfl <| rf 2 (and_f (e := decide (x367 < 500)) c430) rfl k
    ·intro K k17
     refine sr <| mv rfl rfl <| bn rfl rfl rfl rfl <| mv rfl rfl <| runj_3 31 ((decide (a1 < 0)) || (decide (a1 > 4096))) ?_ (fun k => ?_)
     ·refine nt <| Under.ite h16 rfl (fun h16 => ?_) (fun h16 => ?_)
      ·exact rg <| mv rfl rfl <| bn rfl rfl rfl rfl <| ag rfl rfl <| nt <| wk (k17 _ (osi h16).symm) (s3 rfl rfl rfl)
      ·exact ct <| wk (k17 _ (osi h16).symm) (s3 rfl rfl rfl)
     ·refine by_ (t := 28) rfl (fun c495 => ?_) (fun c495 => ?_)
      ·exact sk c495 rfl rfl rfl <| sk c495 rfl rfl rfl <| ov (pkT c495 rfl rfl) rfl <| rf 2 (or_t (e := decide (a1 > 4096)) c495) rfl k
      ·exact gc c495 rfl rfl <| mv rfl rfl <| gc c495 rfl rfl <| bn rfl rfl rfl rfl <| ov (pkF c495 rfl rfl) rfl <| rf 2 (or_f c495) rfl k
   ·intro K k10
    refine sr <| mv rfl rfl <| bn rfl rfl rfl rfl <| mv rfl rfl <| runj_3 22 ((decide (a0 < 1)) || (decide (a0 > 8))) ?_ (fun k => ?_)
    ·refine nt <| Under.ite h9 rfl (fun h9 => ?_) (fun h9 => ?_)
     ·exact rg <| mv rfl rfl <| bn rfl rfl rfl rfl <| bn rfl rfl rfl rfl <| ag rfl rfl <| nt <| wk (k10 _ (osi h9).symm) (s3 rfl rfl rfl)
     ·exact ct <| wk (k10 _ (osi h9).symm) (s3 rfl rfl rfl)
    ·refine by_ (t := 19) rfl (fun c501 => ?_) (fun c501 => ?_)
     ·exact sk c501 rfl rfl rfl <| sk c501 rfl rfl rfl <| ov (pkT c501 rfl rfl) rfl <| rf 2 (or_t (e := decide (a0 > 8)) c501) rfl k
     ·exact gc c501 rfl rfl <| mv rfl rfl <| gc c501 rfl rfl <| bn rfl rfl rfl rfl <| ov (pkF c501 rfl rfl) rfl <| rf 2 (or_f c501) rfl k
/-- churn/churnlaw16.in -/
noncomputable def f_churnlaw16_in (a0 : List (List Int)) (a1 : List Int) : Option Bool :=
  (((Loop.run (S := Int) (R := (Unit ⊕ Bool)) (fun x29 =>
      bif decide (x29 < (a0.length : Int)) then
        (idx a0 x29).bind fun x37 =>
        bif x37 == a1 then
          some (.done (.inr true))
        else
          some (.next (IntKind.wrap .i64 (x29 + 1)))
      else
        some (.done (.inl ()))) 0).bind fun r34 => match r34 with
    | .inl _ =>
      some (.inr ())
    | .inr z =>
      some (.inl z)
    : Option (Bool ⊕ Unit))).bind fun r20 => match r20 with
    | .inl z =>
      some z
    | .inr _ =>
      some false
theorem f_churnlaw16_in_ok {a0 : List (List Int)} {a1 : List Int} {r0 : Bool} (hF : f_churnlaw16_in a0 a1 = some r0) (L : List Res) : Ok Try.prog 27 [SV.val K0 a0, SV.val K1 a1] (L) (SV.raw (.bool r0)) (L) := by
  unfold f_churnlaw16_in at hF
  refine Ok.intro 18 [(0, .val K0 a0), (1, .val K1 a1)] Try.func27 rfl rfl rfl rfl (fun F0 => ?_)
  obtain ⟨r20, h21, hF⟩ := bsome hF
  refine sr <| Under.bxF (K := kArr 16 K2) rfl rdV rfl <| ag rfl rfl <| nt <| sq <| Under.after (fun X => ∀ (_ : Unit), r20 = (.inr ()) → Under F0 18 [] (L) X) ?_ ?_
  ·intro _ h47
   replace h47 := h47.symm
   subst h47
   refine sr <| ag rfl rfl <| nt <| rc ?_
   have e23 := osi hF
   subst e23
   exact Under.rets Try.results27 (.tm rfl .nil) rfl rfl
  ·intro K k22
   obtain ⟨r34, h35, h21⟩ := bsome h21
   refine sr <| ag rfl rfl <| nt <| bk <| Under.loop (S := Int) (C := Unit) () (fun (x44 : Int) (q45 : Unit) => [(0, .val K0 a0), (3, .ptr K1 a1), (5, .raw (.int .i64 x44))]) (fun (x44 : Int) (q45 : Unit) => L) h35 (s3 rfl rfl rfl) rfl (fun x44 q45 o36 h32 d33 => ?_)
   refine sq <| sr <| mv rfl rfl <| mv rfl rfl <| ov (OpV.len Try.underlying36 rfl rdV) rfl <| bn rfl rfl rfl rfl <| nt <| Under.ite h32 rfl (fun h32 => ?_) (fun h32 => ?_)
   ·obtain ⟨x37, h38, h32⟩ := bsome h32
    refine ct <| sq <| bk <| sq <| dw rfl (by kernel_rfl) fun F hF0 => mvq rfl rfl <| mvq rfl rfl <| oq (OpV.ixS h38 Try.underlying36 sz43 rfl rdV rfl) rfl <| oq (OpV.ld kt43 rfl) rfl <| oq (OpV.ld kt43 rfl) rfl <| oq (OpV.eqK eqk43 eqg43 rfl rfl rfl rdV rfl rdV) rfl <| nlq hF0 <| tn <| Under.ite h32 rfl (fun h32 => ?_) (fun h32 => ?_)
    ·refine sr <| ag rfl rfl <| nt <| rc <| Under.bR <| tr ?_
     have e39 := done_eq h32 d33
     subst e39
     refine tr <| Under.bR <| tr ?_
     have e40 := osi h21
     subst e40
     have e41 := osi hF
     subst e41
     exact Under.rets Try.results27 (.tm rfl .nil) rfl rfl
    ·exact cs <| bN <| tn <| rg <| mv rfl rfl <| bn rfl rfl rfl rfl <| ag rfl rfl <| nl <| Under.next _ () h32 (s3 rfl rfl rfl) rfl
   ·refine xt <| te ?_
    have e42 := done_eq h32 d33
    subst e42
    exact te <| bh <| tn <| wk (k22 () (osi h21).symm) (sub_nil _)
end Go.Proofs.Ytgllljocmpbooaa

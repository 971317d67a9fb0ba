/- PRINTED BY gen2.py (of this repo): functions of the program in Lean, and that the machine follows them. -/
import Derived.Test.YtgllljocmpbooaaDoorRs1
set_option linter.unusedVariables false
set_option linter.unusedSimpArgs false
set_option maxRecDepth 20000
namespace Go.Proofs.YtgllljocmpbooaaDoor
open Go Go.Sim Go.ChangeShapes Go.WideShapes Go.ChangeAt Go.RowKit
/-- (churn/block.quad).turned -/
noncomputable def f_block_quad_turned (a0 : List Int) (a1 : Int) : Option (List Int) :=
  (((Loop.run (S := (Int × (List Int))) (R := (List Int)) (fun (x413, x414) =>
      bif decide (x413 < 4) then
        (((Loop.run (S := (Int × (List Int))) (R := (List Int)) (fun (x529, x530) =>
            bif decide (x529 < 4) then
              (idx a0 (IntKind.wrap .i64 ((IntKind.wrap .i64 (4 * (Int.tmod (IntKind.wrap .i64 (x529 + (IntKind.wrap .i64 (x413 * a1)))) 4))) + x413))).bind fun x541 =>
              (idx x530 (IntKind.wrap .i64 ((IntKind.wrap .i64 (4 * x529)) + x413))).bind fun x543 =>
              some (.next (IntKind.wrap .i64 (x529 + 1), List.set x530 (Int.toNat (IntKind.wrap .i64 ((IntKind.wrap .i64 (4 * x529)) + x413))) x541))
            else
              some (.done x530)) (0, x414)).bind fun x535 =>
        some x535
          : Option (List Int))).bind fun x515 =>
        some (.next (IntKind.wrap .i64 (x413 + 1), x515))
      else
        some (.done x414)) (0, (List.replicate 16 (0 : Int)))).bind fun x480 =>
  some x480
    : Option (List Int))).bind fun x276 =>
  some x276
theorem f_block_quad_turned_ok {a0 : List Int} {a1 : Int} {r0 : (List Int)} (hF : f_block_quad_turned a0 a1 = some r0) (L : List Res) : Ok Tryd.prog 63 [SV.val K4 a0, SV.raw (.int .i64 a1)] (L) (SV.val K4 r0) (L) := by
  unfold f_block_quad_turned at hF
  refine Ok.intro 33 [(0, .val K4 a0), (1, .raw (.int .i64 a1))] Tryd.func63 rfl rfl rfl rfl (fun F0 => ?_)
  obtain ⟨r277, h278, hF⟩ := bsome hF
  refine sr <| Under.bxF (K := kArr 16 K8) rfl rdV rfl <| Under.al ZT88 rfl fun b1 => ns <| Under.al ZT88 rfl fun b2 => nt <| sq <| Under.after (fun X => ∀ (x276 : List Int), r277 = x276 → Under F0 33 [(4, .raw (.pointer (some ⟨b1, 0, none⟩))), (5, .ptr K4 x276)] ((.box K4 b1 88 (List.replicate 16 (0 : Int))) :: L) X) ?_ ?_
  ·intro x276 h556
   replace h556 := h556.symm
   subst h556
   refine sr <| ov (OpV.ld kt88 rfl) rfl <| Under.stP (x' := x276) .box .id sz88_kArr_16_kInt_u8_ rfl rfl rdV rfl <| nl <| Under.frz (t := 4) rfl <| tn <| rc ?_
   have e280 := osi hF
   subst e280
   exact Under.rets Tryd.results63 (.ce rfl kt88 .nil) rfl rfl
  ·intro K k279
   obtain ⟨r483, h484, h278⟩ := bsome h278
   refine sr <| mv rfl rfl <| nt <| bk <| Under.fo1 <| Under.loop (S := (Int × (List Int))) (C := Unit) () (fun (x553 : (Int × (List Int))) (q554 : Unit) => [(1, .raw (.int .i64 a1)), (2, .ptr K4 a0), (4, .raw (.pointer (some ⟨b1, 0, none⟩))), (5, .raw (.pointer (some ⟨b2, 0, none⟩))), (8, .raw (.int .i64 x553.1))]) (fun (x553 : (Int × (List Int))) (q554 : Unit) => (.box K4 b1 88 (List.replicate 16 (0 : Int))) :: (.box K4 b2 88 x553.2) :: L) h484 (s5 rfl rfl rfl rfl rfl) rfl (fun x553 q554 o485 h481 d482 => ?_)
   obtain ⟨x413, x414⟩ := x553
   dsimp only at h481 ⊢
   refine sr <| bn rfl rfl rfl rfl <| nt <| sq <| Under.ite h481 rfl (fun h481 => ?_) (fun h481 => ?_)
   ·obtain ⟨r516, h517, h481⟩ := bsome h481
    refine ct <| sq <| Under.after (fun X => ∀ (x515 : List Int), r516 = x515 → Under F0 33 [(1, .raw (.int .i64 a1)), (2, .ptr K4 a0), (4, .raw (.pointer (some ⟨b1, 0, none⟩))), (5, .raw (.pointer (some ⟨b2, 0, none⟩))), (8, .raw (.int .i64 x413))] ((.box K4 b1 88 (List.replicate 16 (0 : Int))) :: (.box K4 b2 88 x515) :: L) X) ?_ ?_
    ·intro x515 h550
     replace h550 := h550.symm
     subst h550
     exact rg <| bn rfl rfl rfl rfl <| mv rfl rfl <| nl <| Under.fo1 <| Under.fo1 <| Under.next _ () h481 (s5 rfl rfl rfl rfl rfl) rfl
    ·intro K k518
     obtain ⟨r538, h539, h517⟩ := bsome h517
     refine bk <| sr <| mv rfl rfl <| ag rfl rfl <| ns <| mv rfl rfl <| nt <| bk <| Under.fo1 <| Under.fo1 <| Under.loop (S := (Int × (List Int))) (C := Unit) () (fun (x547 : (Int × (List Int))) (q548 : Unit) => [(1, .raw (.int .i64 a1)), (2, .ptr K4 a0), (4, .raw (.pointer (some ⟨b1, 0, none⟩))), (5, .raw (.pointer (some ⟨b2, 0, none⟩))), (6, .raw (.int .i64 x413)), (8, .raw (.int .i64 x413)), (11, .raw (.int .i64 x547.1))]) (fun (x547 : (Int × (List Int))) (q548 : Unit) => (.box K4 b1 88 (List.replicate 16 (0 : Int))) :: (.box K4 b2 88 x547.2) :: L) h539 (s7 rfl rfl rfl rfl rfl rfl rfl) rfl (fun x547 q548 o540 h536 d537 => ?_)
     obtain ⟨x529, x530⟩ := x547
     dsimp only at h536 ⊢
     refine sr <| bn rfl rfl rfl rfl <| nt <| sq <| Under.ite h536 rfl (fun h536 => ?_) (fun h536 => ?_)
     ·obtain ⟨x541, h542, h536⟩ := bsome h536
      obtain ⟨x543, h544, h536⟩ := bsome h536
      exact ct <| sq <| bk <| sr <| mv rfl rfl <| ag rfl rfl <| nt <| rg <| mv rfl rfl <| bn rfl rfl rfl rfl <| mv rfl rfl <| bn rfl rfl rfl rfl <| mv rfl rfl <| mv rfl rfl <| mv rfl rfl <| bn rfl rfl rfl rfl <| bn rfl rfl rfl rfl <| ov (OpV.quo rfl rfl (by decide) rfl) rfl <| bn rfl rfl rfl rfl <| mv rfl rfl <| bn rfl rfl rfl rfl <| ov (OpV.ixA h542 Tryd.underlying88 sz5 rfl rfl) rfl <| ov (OpV.ldI kt5 rfl) rfl <| Under.fo1 <| ov (OpV.ixP .box .id h544 Tryd.underlying88 sz5_kInt_u8 rfl rfl) rfl <| Under.stP (x' := List.set x530 (Int.toNat (IntKind.wrap .i64 ((IntKind.wrap .i64 (4 * x529)) + x413))) x541) .box (.ix .id h544) sz5_kInt_u8 rfl rfl rdI rfl <| nl <| bN <| tn <| rg <| bn rfl rfl rfl rfl <| mv rfl rfl <| nl <| Under.fo1 <| Under.next _ () h536 (s7 rfl rfl rfl rfl rfl rfl rfl) rfl
     ·refine xt <| te ?_
      have e545 := done_eq h536 d537
      subst e545
      exact te <| bh <| bN <| tn <| Under.fo1 <| Under.fo1 <| wk (k518 _ (osi h517).symm) (s5 rfl rfl rfl rfl rfl)
   ·refine Under.fo1 <| Under.frz (t := 5) rfl <| xt <| te ?_
    have e551 := done_eq h481 d482
    subst e551
    exact te <| bh <| tn <| wk (k279 _ (osi h278).symm) (s2 rfl rfl)
/-- churn/field.mixed -/
noncomputable def f_field_mixed (a0 : List Int) (a1 : List Int) : Option (List Int) :=
  (((Loop.run (S := (Int × (List Int))) (R := (List Int)) (fun (x749, x750) =>
      bif decide (x749 < 4) then
        (((Loop.run (S := (Int × (List Int))) (R := (List Int)) (fun (x963, x964) =>
            bif decide (x963 < 4) then
              (idx x964 x749).bind fun x983 =>
              (idx a1 (Int.tmod (IntKind.wrap .i64 ((IntKind.wrap .i64 (x963 - x749)) + 4)) 4)).bind fun x985 =>
              (idx a0 x963).bind fun x987 =>
              (f_field_Mul x985 x987).bind fun y989 =>
              (idx x964 x749).bind fun x991 =>
              some (.next (IntKind.wrap .i64 (x963 + 1), List.set x964 (Int.toNat x749) (xorI .u8 x983 y989)))
            else
              some (.done x964)) (0, x750)).bind fun x976 =>
        some x976
          : Option (List Int))).bind fun x935 =>
        some (.next (IntKind.wrap .i64 (x749 + 1), x935))
      else
        some (.done x750)) (0, (List.replicate 4 (0 : Int)))).bind fun x872 =>
  some x872
    : Option (List Int))).bind fun x500 =>
  some x500
theorem f_field_mixed_ok {a0 : List Int} {a1 : List Int} {r0 : (List Int)} (hF : f_field_mixed a0 a1 = some r0) (L : List Res) : Ok Tryd.prog 76 [SV.val K5 a0, SV.val K5 a1] (L) (SV.val K5 r0) (L) := by
  unfold f_field_mixed at hF
  refine Ok.intro 33 [(0, .val K5 a0), (1, .val K5 a1)] Tryd.func76 rfl rfl rfl rfl (fun F0 => ?_)
  obtain ⟨r501, h502, hF⟩ := bsome hF
  refine sr <| Under.bxF (K := kArr 4 K8) rfl rdV rfl <| Under.bxF (K := kArr 4 K8) rfl rdV rfl <| Under.al ZT117 rfl fun b1 => ns <| Under.al ZT117 rfl fun b2 => nt <| sq <| Under.after (fun X => ∀ (x500 : List Int), r501 = x500 → Under F0 33 [(4, .raw (.pointer (some ⟨b1, 0, none⟩))), (5, .ptr K5 x500)] ((.box K5 b1 117 (List.replicate 4 (0 : Int))) :: L) X) ?_ ?_
  ·intro x500 h1004
   replace h1004 := h1004.symm
   subst h1004
   refine sr <| ov (OpV.ld kt117 rfl) rfl <| Under.stP (x' := x500) .box .id sz117_kArr_4_kInt_u8_ rfl rfl rdV rfl <| nl <| Under.frz (t := 4) rfl <| tn <| rc ?_
   have e504 := osi hF
   subst e504
   exact Under.rets Tryd.results76 (.ce rfl kt117 .nil) rfl rfl
  ·intro K k503
   obtain ⟨r875, h876, h502⟩ := bsome h502
   refine sr <| mv rfl rfl <| nt <| bk <| Under.fo1 <| Under.loop (S := (Int × (List Int))) (C := Unit) () (fun (x1001 : (Int × (List Int))) (q1002 : Unit) => [(2, .ptr K5 a0), (3, .ptr K5 a1), (4, .raw (.pointer (some ⟨b1, 0, none⟩))), (5, .raw (.pointer (some ⟨b2, 0, none⟩))), (8, .raw (.int .i64 x1001.1))]) (fun (x1001 : (Int × (List Int))) (q1002 : Unit) => (.box K5 b1 117 (List.replicate 4 (0 : Int))) :: (.box K5 b2 117 x1001.2) :: L) h876 (s5 rfl rfl rfl rfl rfl) rfl (fun x1001 q1002 o877 h873 d874 => ?_)
   obtain ⟨x749, x750⟩ := x1001
   dsimp only at h873 ⊢
   refine sr <| bn rfl rfl rfl rfl <| nt <| sq <| Under.ite h873 rfl (fun h873 => ?_) (fun h873 => ?_)
   ·obtain ⟨r936, h937, h873⟩ := bsome h873
    refine ct <| sq <| Under.after (fun X => ∀ (x935 : List Int), r936 = x935 → Under F0 33 [(2, .ptr K5 a0), (3, .ptr K5 a1), (4, .raw (.pointer (some ⟨b1, 0, none⟩))), (5, .raw (.pointer (some ⟨b2, 0, none⟩))), (8, .raw (.int .i64 x749))] ((.box K5 b1 117 (List.replicate 4 (0 : Int))) :: (.box K5 b2 117 x935) :: L) X) ?_ ?_
    ·intro x935 h998
     replace h998 := h998.symm
     subst h998
     exact rg <| bn rfl rfl rfl rfl <| mv rfl rfl <| nl <| Under.fo1 <| Under.fo1 <| Under.next _ () h873 (s5 rfl rfl rfl rfl rfl) rfl
    ·intro K k938
     obtain ⟨r979, h980, h937⟩ := bsome h937
     refine bk <| sr <| mv rfl rfl <| ag rfl rfl <| ns <| mv rfl rfl <| nt <| bk <| Under.fo1 <| Under.fo1 <| Under.loop (S := (Int × (List Int))) (C := Unit) () (fun (x995 : (Int × (List Int))) (q996 : Unit) => [(2, .ptr K5 a0), (3, .ptr K5 a1), (4, .raw (.pointer (some ⟨b1, 0, none⟩))), (5, .raw (.pointer (some ⟨b2, 0, none⟩))), (6, .raw (.int .i64 x749)), (8, .raw (.int .i64 x749)), (11, .raw (.int .i64 x995.1))]) (fun (x995 : (Int × (List Int))) (q996 : Unit) => (.box K5 b1 117 (List.replicate 4 (0 : Int))) :: (.box K5 b2 117 x995.2) :: L) h980 (s7 rfl rfl rfl rfl rfl rfl rfl) rfl (fun x995 q996 o981 h977 d978 => ?_)
     obtain ⟨x963, x964⟩ := x995
     dsimp only at h977 ⊢
     refine sr <| bn rfl rfl rfl rfl <| nt <| sq <| Under.ite h977 rfl (fun h977 => ?_) (fun h977 => ?_)
     ·obtain ⟨x983, h984, h977⟩ := bsome h977
      obtain ⟨x985, h986, h977⟩ := bsome h977
      obtain ⟨x987, h988, h977⟩ := bsome h977
      obtain ⟨y989, h990, h977⟩ := bsome h977
      obtain ⟨x991, h992, h977⟩ := bsome h977
      refine ct <| sq <| bk <| sr <| mv rfl rfl <| ag rfl rfl <| nt <| Under.phases rfl <| Under.fo1 <| Under.fo1 <| Under.grpT (L := L) [0, 1, 2, 3, 4, 5, 6, 7, 8, 9, 10, 11, 12, 13] [[6], [5, 14], [15], [7], [6], [17, 18], [19], [20], [3, 21], [22], [7], [2, 24], [25], [23, 26]] [⟨sk0 (.raw (.int .i64 x749)), [], [], []⟩, ⟨sk0 (.raw (.pointer (some ⟨b2, 0 + Int.toNat x749 * 1, none⟩))), [], [], []⟩, ⟨sk0 (.raw (.int .u8 x983)), [], [], []⟩, ⟨sk0 (.raw (.int .i64 x963)), [], [], []⟩, ⟨sk0 (.raw (.int .i64 x749)), [], [], []⟩, ⟨sk0 (.raw (.int .i64 (IntKind.wrap .i64 (x963 - x749)))), [], [], []⟩, ⟨sk0 (.raw (.int .i64 (IntKind.wrap .i64 ((IntKind.wrap .i64 (x963 - x749)) + 4)))), [], [], []⟩, ⟨sk0 (.raw (.int .i64 (Int.tmod (IntKind.wrap .i64 ((IntKind.wrap .i64 (x963 - x749)) + 4)) 4))), [], [], []⟩, ⟨sk0 (.ptr K8 x985), [], [], []⟩, ⟨sk0 (.raw (.int .u8 x985)), [], [], []⟩, ⟨sk0 (.raw (.int .i64 x963)), [], [], []⟩, ⟨sk0 (.ptr K8 x987), [], [], []⟩, ⟨sk0 (.raw (.int .u8 x987)), [], [], []⟩, ⟨sk0 (.raw (.int .u8 y989)), [], [], []⟩] [] (fun T : List Res => (.box K5 b1 117 (List.replicate 4 (0 : Int))) :: (.box K5 b2 117 x964) :: T) lf2 rfl (by kernel_rfl) rfl rfl (fun F hF0 bs982 => ?_)
      refine Tq.v (fun G T hG => ?_) ?_
      ·exact mv rfl rfl <| Under.fo1 <| Under.fo1 <| Tq.end undef rfl rfl
      refine Tq.v (fun G T hG => ?_) ?_
      ·exact Under.fo1 <| ov (OpV.ixP .box .id h984 Tryd.underlying117 sz5_kInt_u8 rfl rfl) rfl <| Under.fo1 <| Tq.end undef rfl rfl
      refine Tq.v (fun G T hG => ?_) ?_
      ·exact Under.fo1 <| Under.ldP .box (.ix .id h984) kt5_kInt_u8 rfl rfl <| Under.rawI (t := 16) rfl <| Under.fo1 <| Tq.end undef rfl rfl
      refine Tq.v (fun G T hG => ?_) ?_
      ·exact mv rfl rfl <| Under.fo1 <| Under.fo1 <| Tq.end undef rfl rfl
      refine Tq.v (fun G T hG => ?_) ?_
      ·exact mv rfl rfl <| Under.fo1 <| Under.fo1 <| Tq.end undef rfl rfl
      refine Tq.v (fun G T hG => ?_) ?_
      ·exact bn rfl rfl rfl rfl <| Under.fo1 <| Under.fo1 <| Tq.end undef rfl rfl
      refine Tq.v (fun G T hG => ?_) ?_
      ·exact bn rfl rfl rfl rfl <| Under.fo1 <| Under.fo1 <| Tq.end undef rfl rfl
      refine Tq.v (fun G T hG => ?_) ?_
      ·exact ov (OpV.quo rfl rfl (by decide) rfl) rfl <| Under.fo1 <| Under.fo1 <| Tq.end undef rfl rfl
      refine Tq.v (fun G T hG => ?_) ?_
      ·exact ov (OpV.ixA h986 Tryd.underlying117 sz5 rfl rfl) rfl <| Under.fo1 <| Under.fo1 <| Tq.end undef rfl rfl
      refine Tq.v (fun G T hG => ?_) ?_
      ·exact ov (OpV.ldI kt5 rfl) rfl <| Under.fo1 <| Under.fo1 <| Tq.end undef rfl rfl
      refine Tq.v (fun G T hG => ?_) ?_
      ·exact mv rfl rfl <| Under.fo1 <| Under.fo1 <| Tq.end undef rfl rfl
      refine Tq.v (fun G T hG => ?_) ?_
      ·exact ov (OpV.ixA h988 Tryd.underlying117 sz5 rfl rfl) rfl <| Under.fo1 <| Under.fo1 <| Tq.end undef rfl rfl
      refine Tq.v (fun G T hG => ?_) ?_
      ·exact ov (OpV.ldI kt5 rfl) rfl <| Under.fo1 <| Under.fo1 <| Tq.end undef rfl rfl
      refine Tq.v (fun G T hG => ?_) ?_
      ·exact Under.call Tryd.call58 rfl rfl (f_field_Mul_ok h990 _) rfl <| Under.fo1 <| Under.fo1 <| Tq.end undef rfl rfl
      exact Tq.nil <| Under.le hF0 <| Under.p1 14 rfl rfl <| bn rfl rfl rfl rfl <| Under.pn <| Under.p1 15 rfl rfl <| Under.fo1 <| ov (OpV.ixP .box .id h992 Tryd.underlying117 sz5_kInt_u8 rfl rfl) rfl <| Under.pn <| Under.p1 16 rfl rfl <| Under.stP (x' := List.set x964 (Int.toNat x749) (xorI .u8 x983 y989)) .box (.ix .id h992) sz5_kInt_u8 rfl rfl rdI rfl <| Under.pn <| Under.pdone rfl <| bN <| tn <| rg <| bn rfl rfl rfl rfl <| mv rfl rfl <| nl <| Under.fo1 <| Under.next _ () h977 (s7 rfl rfl rfl rfl rfl rfl rfl) rfl
     ·refine xt <| te ?_
      have e993 := done_eq h977 d978
      subst e993
      exact te <| bh <| bN <| tn <| Under.fo1 <| Under.fo1 <| wk (k938 _ (osi h937).symm) (s5 rfl rfl rfl rfl rfl)
   ·refine Under.fo1 <| Under.frz (t := 5) rfl <| xt <| te ?_
    have e999 := done_eq h873 d874
    subst e999
    exact te <| bh <| tn <| wk (k503 _ (osi h502).symm) (s2 rfl rfl)
/-- churn/field.Column -/
noncomputable def f_field_Column (a0 : List Int) : Option (List Int) :=
  (f_field_mixed a0 [2, 3, 1, 1]).bind fun y2 =>
  some y2
theorem f_field_Column_ok {a0 : List Int} {r0 : (List Int)} (hF : f_field_Column a0 = some r0) (L : List Res) : Ok Tryd.prog 65 [SV.val K5 a0] (L) (SV.val K5 r0) (L) := by
  unfold f_field_Column at hF
  refine Ok.intro 6 [(0, .val K5 a0)] Tryd.func65 rfl rfl rfl rfl (fun F0 => ?_)
  obtain ⟨y2, h3, hF⟩ := bsome hF
  refine sr <| Under.bxF (K := kArr 4 K8) rfl rdV rfl <| Under.al ZT117 rfl fun b1 => ns <| ov (OpV.ld kt117 rfl) rfl <| ov (OpV.bar (ys := [2, 3, 1, 1]) BTA117 (BldA.cons rfl rfl rdI (BldA.cons rfl rfl rdI (BldA.cons rfl rfl rdI (BldA.cons rfl rfl rdI (BldA.nil _)))))) rfl <| Under.call Tryd.call76 rfl rfl (f_field_mixed_ok h3 _) rfl <| Under.stP (x' := y2) .box .id sz117_kArr_4_kInt_u8_ rfl rfl rdV rfl <| nl <| Under.frz (t := 2) rfl <| tn <| rc ?_
  have e4 := osi hF
  subst e4
  exact Under.rets Tryd.results65 (.ce rfl kt117 .nil) rfl rfl
/-- (churn/block.quad).columns -/
noncomputable def f_block_quad_columns_field_Column (a0 : List Int) : Option (List Int) :=
  (((Loop.run (S := (Int × (List Int))) (R := (List Int)) (fun (x71, x72) =>
      bif decide (x71 < 16) then
        bif decide ((0 : Int) ≤ x71 ∧ (x71 : Int) ≤ (IntKind.wrap .i64 (x71 + 4)) ∧ (IntKind.wrap .i64 (x71 + 4) : Int) ≤ 16) then
        bif decide (0 < 4 ∧ (Int.toNat x71) + 4 ≤ (Int.toNat (IntKind.wrap .i64 (x71 + 4))) ∧ (Int.toNat (IntKind.wrap .i64 (x71 + 4))) ≤ 16) then
        (f_field_Column (List.take 4 (List.drop (Int.toNat x71) x72))).bind fun y89 =>
        bif decide ((0 : Int) ≤ x71 ∧ (x71 : Int) ≤ 16 ∧ (16 : Int) ≤ 16) then
        bif decide ((Int.toNat x71) ≤ (Int.toNat 16) ∧ (Int.toNat 16) ≤ 16) then
        some (.next (IntKind.wrap .i64 (x71 + 4), over x72 (Int.toNat x71) (Int.toNat 16) y89))
        else none
        else none
        else none
        else none
      else
        some (.done x72)) (0, a0)).bind fun x81 =>
  some x81
    : Option (List Int))).bind fun x48 =>
  some x48
theorem f_block_quad_columns_field_Column_ok {a0 : List Int} {r0 : (List Int)} (hF : f_block_quad_columns_field_Column a0 = some r0) (L : List Res) : Ok Tryd.prog 64 [SV.val K4 a0, SV.raw (.func (.func 65) #[] #[])] (L) (SV.val K4 r0) (L) := by
  unfold f_block_quad_columns_field_Column at hF
  refine Ok.intro 24 [(0, .val K4 a0), (1, .raw (.func (.func 65) #[] #[]))] Tryd.func64 rfl rfl rfl rfl (fun F0 => ?_)
  obtain ⟨r49, h50, hF⟩ := bsome hF
  refine sr <| Under.bx (K := kArr 16 K8) rfl rdV rfl fun b1 => Under.al ZT88 rfl fun b2 => nt <| sq <| Under.after (fun X => ∀ (x48 : List Int), r49 = x48 → Under F0 24 [(2, .ptr K4 x48), (4, .raw (.pointer (some ⟨b2, 0, none⟩)))] ((.box K4 b2 88 (List.replicate 16 (0 : Int))) :: L) X) ?_ ?_
  ·intro x48 h100
   replace h100 := h100.symm
   subst h100
   refine sr <| ov (OpV.ld kt88 rfl) rfl <| Under.stP (x' := x48) .box .id sz88_kArr_16_kInt_u8_ rfl rfl rdV rfl <| nl <| Under.frz (t := 4) rfl <| tn <| rc ?_
   have e52 := osi hF
   subst e52
   exact Under.rets Tryd.results64 (.ce rfl kt88 .nil) rfl rfl
  ·intro K k51
   obtain ⟨r84, h85, h50⟩ := bsome h50
   refine sr <| ag rfl rfl <| nt <| bk <| Under.fo1 <| Under.loop (S := (Int × (List Int))) (C := Unit) () (fun (x97 : (Int × (List Int))) (q98 : Unit) => [(1, .raw (.func (.func 65) #[] #[])), (2, .raw (.pointer (some ⟨b1, 0, none⟩))), (4, .raw (.pointer (some ⟨b2, 0, none⟩))), (5, .raw (.int .i64 x97.1))]) (fun (x97 : (Int × (List Int))) (q98 : Unit) => (.box K4 b1 88 x97.2) :: (.box K4 b2 88 (List.replicate 16 (0 : Int))) :: L) h85 (s4 rfl rfl rfl rfl) rfl (fun x97 q98 o86 h82 d83 => ?_)
   obtain ⟨x71, x72⟩ := x97
   dsimp only at h82 ⊢
   refine sq <| sr <| mv rfl rfl <| bn rfl rfl rfl rfl <| nt <| Under.ite h82 rfl (fun h82 => ?_) (fun h82 => ?_)
   ·obtain ⟨h87, h82⟩ := gsome h82
    refine ct <| sq <| bk <| sr <| mv rfl rfl <| mv rfl rfl <| mv rfl rfl <| bn rfl rfl rfl rfl ?_
    replace h87 : (0 : Int) ≤ x71 ∧ (x71 : Int) ≤ (IntKind.wrap .i64 (x71 + 4)) ∧ (IntKind.wrap .i64 (x71 + 4) : Int) ≤ 16 := of_decide_eq_true h87
    obtain ⟨h88, h82⟩ := gsome h82
    obtain ⟨y89, h90, h82⟩ := bsome h82
    obtain ⟨h93, h82⟩ := gsome h82
    refine ov (OpV.slP (l := x71) (h := IntKind.wrap .i64 (x71 + 4)) Tryd.underlying88 sz5_kInt_u8 rfl rfl rfl (And.left h87) (And.left (And.right h87)) (And.right (And.right h87))) rfl <| ov (OpV.s2aP h88 Tryd.underlying117 rfl) rfl <| Under.ldP .box (.sub .id (And.left (And.right (of_decide_eq_true h88)) |> fun a => Nat.le_trans a (And.right (And.right (of_decide_eq_true h88))))) kt117_kArr_4_kInt_u8_ rfl rfl <| Under.call Tryd.call65 rfl rfl (f_field_Column_ok h90 _) rfl <| Under.al ZT117 rfl fun b91 => Under.stP (x' := y89) .box .id sz117_kArr_4_kInt_u8_ rfl rfl rdV rfl <| nl <| Under.frz (t := 6) rfl <| tn ?_
    replace h93 : (0 : Int) ≤ x71 ∧ (x71 : Int) ≤ 16 ∧ (16 : Int) ≤ 16 := of_decide_eq_true h93
    obtain ⟨h94, h82⟩ := gsome h82
    replace h94 : (Int.toNat x71) ≤ (Int.toNat 16) ∧ (Int.toNat 16) ≤ 16 := of_decide_eq_true h94
    refine Under.phases rfl <| Under.fo1 <| Under.fo1 <| Under.grpT (L := L) [0, 1, 2] [[5], [2, 19], [6]] [⟨sk0 (.raw (.int .i64 x71)), [], [], []⟩, ⟨sk0 (.raw (.slice (some (if 16 = (Int.toNat x71) then ⟨b1, 0, none⟩ else ⟨b1, 0 + (Int.toNat x71) * 1, none⟩)) (Int.toNat 16 - (Int.toNat x71)) (16 - (Int.toNat x71)))), [], [], []⟩, ⟨sk0 (.val K6 y89), [], [], []⟩] [] (fun T : List Res => (.box K4 b1 88 x72) :: (.box K4 b2 88 (List.replicate 16 (0 : Int))) :: T) lf2 rfl (by kernel_rfl) rfl rfl (fun F hF0 bs92 => ?_)
    refine Tq.v (fun G T hG => ?_) ?_
    ·exact mv rfl rfl <| Under.fo1 <| Under.fo1 <| Tq.end undef rfl rfl
    refine Tq.v (fun G T hG => ?_) ?_
    ·exact ov (OpV.slP (l := x71) (h := 16) Tryd.underlying88 sz5_kInt_u8 rfl rfl rfl (And.left h93) (And.left (And.right h93)) (And.right (And.right h93))) rfl <| Under.fo1 <| Under.fo1 <| Tq.end undef rfl rfl
    refine Tq.v (fun G T hG => ?_) ?_
    ·exact ov (OpV.slA Tryd.underlying117 sz5 rfl) rfl <| Under.fo1 <| Under.fo1 <| Tq.end undef rfl rfl
    exact Tq.nil <| Under.le hF0 <| Under.p1 3 rfl rfl <| Under.cpB (x' := over x72 (Int.toNat x71) (Int.toNat 16) y89) .box .id (And.left h94) (And.right h94) (had_of (And.right h94)) Tryd.underlying22 sz5_kInt_u8 rfl rfl (.sl rdV) rfl rfl <| Under.pn <| Under.pdone rfl <| bN <| tn <| rg <| mv rfl rfl <| bn rfl rfl rfl rfl <| ag rfl rfl <| nl <| Under.fo1 <| Under.fo1 <| Under.next _ () h82 (s4 rfl rfl rfl rfl) rfl
   ·refine Under.frz (t := 2) rfl <| xt <| te ?_
    have e95 := done_eq h82 d83
    subst e95
    exact te <| bh <| tn <| wk (k51 _ (osi h50).symm) (s2 rfl rfl)
/-- (churn/block.Schedule).encrypted -/
noncomputable def f_block_Schedule_encrypted_block_Mask_1 (a0 : Block_Schedule) (a1 : List Int) (a2 : List Int) : Option (List Int) :=
  (idx a0.keys 0).bind fun x2 =>
  (f_block_quad_with a1 x2).bind fun y4 =>
  (((Loop.run (S := (Int × (List Int))) (R := (List Int)) (fun (x147, x148) =>
      bif decide (x147 ≤ 10) then
        (f_block_quad_each_block_Mask_1 x148 a2).bind fun y175 =>
        (f_block_quad_turned y175 1).bind fun y177 =>
        ((bif decide (x147 < 10) then
          (f_block_quad_columns_field_Column y177).bind fun y190 =>
          some y190
        else
          some y177
          : Option (List Int))).bind fun x181 =>
        (idx a0.keys x147).bind fun x186 =>
        (f_block_quad_with x181 x186).bind fun y188 =>
        some (.next (IntKind.wrap .i64 (x147 + 1), y188))
      else
        some (.done x148)) (1, y4)).bind fun x169 =>
  some x169
    : Option (List Int))).bind fun x100 =>
  some x100
theorem f_block_Schedule_encrypted_block_Mask_1_ok {a0 : Block_Schedule} {a1 : List Int} {a2 : List Int} {r0 : (List Int)} (hF : f_block_Schedule_encrypted_block_Mask_1 a0 a1 a2 = some r0) (L : List Res) : Ok Tryd.prog 40 [SV.val kBlock_Schedule a0, SV.val K4 a1, SV.fn 39 [.ptr (kArr 256 K8) a2]] (L) (SV.val K4 r0) (L) := by
  unfold f_block_Schedule_encrypted_block_Mask_1 at hF
  refine Ok.intro 33 [(0, .val kBlock_Schedule a0), (1, .val K4 a1), (2, .fn 39 [.ptr (kArr 256 K8) a2])] Tryd.func40 rfl rfl rfl rfl (fun F0 => ?_)
  obtain ⟨x2, h3, hF⟩ := bsome hF
  obtain ⟨y4, h5, hF⟩ := bsome hF
  obtain ⟨r101, h102, hF⟩ := bsome hF
  refine sr <| Under.bxF (K := kBlock_Schedule) rfl rdV rfl <| Under.bxF (K := kArr 16 K8) rfl rdV rfl <| Under.al ZT44 rfl fun b1 => ns <| ov (OpV.ld kt44 rfl) rfl <| ov (OpV.fd fb91_0 rfl rfl) rfl <| ov (OpV.ixA h3 Tryd.underlying89 sz88 rfl rfl) rfl <| ov (OpV.ld kt88 rfl) rfl <| Under.call Tryd.call61 rfl rfl (f_block_quad_with_ok h5 _) rfl <| Under.al ZT88 rfl fun b6 => Under.stP (x' := y4) .box .id sz88_kArr_16_kInt_u8_ rfl rfl rdV rfl <| nt <| sq <| Under.after (fun X => ∀ (x100 : List Int), r101 = x100 → Under F0 33 [(6, .raw (.pointer (some ⟨b1, 0, none⟩))), (7, .ptr K4 x100)] ((.box K4 b1 44 (List.replicate 16 (0 : Int))) :: L) X) ?_ ?_
  ·intro x100 h200
   replace h200 := h200.symm
   subst h200
   refine sr <| ov (OpV.ld kt88 rfl) rfl <| Under.stP (x' := x100) .box .id sz44_kArr_16_kInt_u8_ rfl rfl rdV rfl <| nl <| Under.frz (t := 6) rfl <| tn <| rc ?_
   have e104 := osi hF
   subst e104
   exact Under.rets Tryd.results40 (.ce rfl kt44 .nil) rfl rfl
  ·intro K k103
   obtain ⟨r172, h173, h102⟩ := bsome h102
   refine sr <| ag rfl rfl <| nt <| bk <| Under.fo1 <| Under.loop (S := (Int × (List Int))) (C := Unit) () (fun (x197 : (Int × (List Int))) (q198 : Unit) => [(2, .fn 39 [.ptr (kArr 256 K8) a2]), (3, .ptr kBlock_Schedule a0), (6, .raw (.pointer (some ⟨b1, 0, none⟩))), (7, .raw (.pointer (some ⟨b6, 0, none⟩))), (8, .raw (.int .i64 x197.1))]) (fun (x197 : (Int × (List Int))) (q198 : Unit) => (.box K4 b1 44 (List.replicate 16 (0 : Int))) :: (.box K4 b6 88 x197.2) :: L) h173 (s5 rfl rfl rfl rfl rfl) rfl (fun x197 q198 o174 h170 d171 => ?_)
   obtain ⟨x147, x148⟩ := x197
   dsimp only at h170 ⊢
   refine sq <| sr <| mv rfl rfl <| bn rfl rfl rfl rfl <| nt <| Under.ite h170 rfl (fun h170 => ?_) (fun h170 => ?_)
   ·obtain ⟨y175, h176, h170⟩ := bsome h170
    obtain ⟨y177, h178, h170⟩ := bsome h170
    obtain ⟨r182, h183, h170⟩ := bsome h170
    refine ct <| sq <| bk <| sr <| Under.fo1 <| Under.ldP .box .id kt88_kArr_16_kInt_u8_ rfl rfl <| mv rfl rfl <| Under.call Tryd.call62 rfl rfl (f_block_quad_each_block_Mask_1_ok h176 _) rfl <| Under.call Tryd.call63 rfl rfl (f_block_quad_turned_ok h178 _) rfl <| Under.stP (x' := y177) .box .id sz88_kArr_16_kInt_u8_ rfl rfl rdV rfl <| nt <| sq <| Under.after (fun X => ∀ (x181 : List Int), r182 = x181 → Under F0 33 [(2, .fn 39 [.ptr (kArr 256 K8) a2]), (3, .ptr kBlock_Schedule a0), (6, .raw (.pointer (some ⟨b1, 0, none⟩))), (7, .raw (.pointer (some ⟨b6, 0, none⟩))), (8, .raw (.int .i64 x147))] ((.box K4 b1 44 (List.replicate 16 (0 : Int))) :: (.box K4 b6 88 x181) :: L) X) ?_ ?_
    ·intro x181 h194
     replace h194 := h194.symm
     subst h194
     obtain ⟨x186, h187, h170⟩ := bsome h170
     obtain ⟨y188, h189, h170⟩ := bsome h170
     refine Under.phases rfl <| Under.fo1 <| Under.fo1 <| Under.grpT (L := L) [0, 1, 2, 3, 4] [[7], [8], [3], [27, 28], [29]] [⟨sk0 (.val K4 x181), [], [], []⟩, ⟨sk0 (.raw (.int .i64 x147)), [], [], []⟩, ⟨sk0 (.ptr (kArr 11 K4) a0.keys), [], [], []⟩, ⟨sk0 (.ptr K4 x186), [], [], []⟩, ⟨sk0 (.val K4 x186), [], [], []⟩] [] (fun T : List Res => (.box K4 b1 44 (List.replicate 16 (0 : Int))) :: (.box K4 b6 88 x181) :: T) lf2 rfl (by kernel_rfl) rfl rfl (fun F hF0 bs185 => ?_)
     refine Tq.v (fun G T hG => ?_) ?_
     ·exact Under.fo1 <| Under.ldP .box .id kt88_kArr_16_kInt_u8_ rfl rfl <| Under.fo1 <| Tq.end undef rfl rfl
     refine Tq.v (fun G T hG => ?_) ?_
     ·exact mv rfl rfl <| Under.fo1 <| Under.fo1 <| Tq.end undef rfl rfl
     refine Tq.v (fun G T hG => ?_) ?_
     ·exact ov (OpV.fd fb91_0 rfl rfl) rfl <| Under.fo1 <| Under.fo1 <| Tq.end undef rfl rfl
     refine Tq.v (fun G T hG => ?_) ?_
     ·exact ov (OpV.ixA h187 Tryd.underlying89 sz88 rfl rfl) rfl <| Under.fo1 <| Under.fo1 <| Tq.end undef rfl rfl
     refine Tq.v (fun G T hG => ?_) ?_
     ·exact ov (OpV.ld kt88 rfl) rfl <| Under.fo1 <| Under.fo1 <| Tq.end undef rfl rfl
     exact Tq.nil <| Under.le hF0 <| Under.p1 5 rfl rfl <| Under.call Tryd.call61 rfl rfl (f_block_quad_with_ok h189 _) rfl <| Under.pn <| Under.p1 6 rfl rfl <| Under.fo1 <| Under.stP (x' := y188) .box .id sz88_kArr_16_kInt_u8_ rfl rfl rdV rfl <| Under.pn <| Under.pdone rfl <| bN <| tn <| rg <| mv rfl rfl <| bn rfl rfl rfl rfl <| ag rfl rfl <| nl <| Under.fo1 <| Under.next _ () h170 (s5 rfl rfl rfl rfl rfl) rfl
    ·intro K k184
     refine sr <| mv rfl rfl <| bn rfl rfl rfl rfl <| nt <| Under.ite h183 rfl (fun h183 => ?_) (fun h183 => ?_)
     ·obtain ⟨y190, h191, h183⟩ := bsome h183
      exact rg <| Under.ldP .box .id kt88_kArr_16_kInt_u8_ rfl rfl <| Under.call Tryd.call64 rfl rfl (f_block_quad_columns_field_Column_ok h191 _) rfl <| Under.stP (x' := y190) .box .id sz88_kArr_16_kInt_u8_ rfl rfl rdV rfl <| nt <| Under.fo1 <| wk (k184 _ (osi h183).symm) (s5 rfl rfl rfl rfl rfl)
     ·exact ct <| Under.fo1 <| wk (k184 _ (osi h183).symm) (s5 rfl rfl rfl rfl rfl)
   ·refine Under.fo1 <| Under.frz (t := 7) rfl <| xt <| te ?_
    have e195 := done_eq h170 d171
    subst e195
    exact te <| bh <| tn <| wk (k103 _ (osi h102).symm) (s2 rfl rfl)
/-- churn/block.next -/
noncomputable def f_block_next (a0 : List Int) : Option (List Int) :=
  (((Loop.run (S := (Int × (List Int))) (R := (List Int)) (fun (x60, x61) =>
      bif decide (x60 ≥ 0) then
        (idx x61 x60).bind fun x74 =>
        (idx x61 x60).bind fun x76 =>
        (idx (List.set x61 (Int.toNat x60) (IntKind.wrap .u8 (x74 + 1))) x60).bind fun x78 =>
        bif x78 != 0 then
          some (.done (List.set x61 (Int.toNat x60) (IntKind.wrap .u8 (x74 + 1))))
        else
          some (.next (IntKind.wrap .i64 (x60 - 1), List.set x61 (Int.toNat x60) (IntKind.wrap .u8 (x74 + 1))))
      else
        some (.done x61)) (15, a0)).bind fun x68 =>
  some x68
    : Option (List Int))).bind fun x41 =>
  some x41
theorem f_block_next_ok {a0 : List Int} {r0 : (List Int)} (hF : f_block_next a0 = some r0) (L : List Res) : Ok Tryd.prog 41 [SV.val K4 a0] (L) (SV.val K4 r0) (L) := by
  unfold f_block_next at hF
  refine Ok.intro 18 [(0, .val K4 a0)] Tryd.func41 rfl rfl rfl rfl (fun F0 => ?_)
  obtain ⟨r42, h43, hF⟩ := bsome hF
  refine sr <| Under.bx (K := kArr 16 K8) rfl rdV rfl fun b1 => Under.al ZT44 rfl fun b2 => nt <| sq <| Under.after (fun X => ∀ (x41 : List Int), r42 = x41 → Under F0 18 [(1, .ptr K4 x41), (2, .raw (.pointer (some ⟨b2, 0, none⟩)))] ((.box K4 b2 44 (List.replicate 16 (0 : Int))) :: L) X) ?_ ?_
  ·intro x41 h87
   replace h87 := h87.symm
   subst h87
   refine sr <| ov (OpV.ld kt44 rfl) rfl <| Under.stP (x' := x41) .box .id sz44_kArr_16_kInt_u8_ rfl rfl rdV rfl <| nl <| Under.frz (t := 2) rfl <| tn <| rc ?_
   have e45 := osi hF
   subst e45
   exact Under.rets Tryd.results41 (.ce rfl kt44 .nil) rfl rfl
  ·intro K k44
   obtain ⟨r71, h72, h43⟩ := bsome h43
   refine sr <| ag rfl rfl <| nt <| bk <| Under.fo1 <| Under.loop (S := (Int × (List Int))) (C := Unit) () (fun (x84 : (Int × (List Int))) (q85 : Unit) => [(1, .raw (.pointer (some ⟨b1, 0, none⟩))), (2, .raw (.pointer (some ⟨b2, 0, none⟩))), (3, .raw (.int .i64 x84.1))]) (fun (x84 : (Int × (List Int))) (q85 : Unit) => (.box K4 b1 44 x84.2) :: (.box K4 b2 44 (List.replicate 16 (0 : Int))) :: L) h72 (s3 rfl rfl rfl) rfl (fun x84 q85 o73 h69 d70 => ?_)
   obtain ⟨x60, x61⟩ := x84
   dsimp only at h69 ⊢
   refine sq <| sr <| mv rfl rfl <| bn rfl rfl rfl rfl <| nt <| Under.ite h69 rfl (fun h69 => ?_) (fun h69 => ?_)
   ·obtain ⟨x74, h75, h69⟩ := bsome h69
    obtain ⟨x76, h77, h69⟩ := bsome h69
    obtain ⟨x78, h79, h69⟩ := bsome h69
    refine ct <| sq <| bk <| sr <| mv rfl rfl <| ov (OpV.ixP .box .id h75 Tryd.underlying44 sz5_kInt_u8 rfl rfl) rfl <| Under.ldP .box (.ix .id h75) kt5_kInt_u8 rfl rfl <| Under.rawI (t := 10) rfl <| bn rfl rfl rfl rfl <| ov (OpV.ixP .box .id h77 Tryd.underlying44 sz5_kInt_u8 rfl rfl) rfl <| Under.stP (x' := List.set x61 (Int.toNat x60) (IntKind.wrap .u8 (x74 + 1))) .box (.ix .id h77) sz5_kInt_u8 rfl rfl rdI rfl <| ns <| mv rfl rfl <| ov (OpV.ixP .box .id h79 Tryd.underlying44 sz5_kInt_u8 rfl rfl) rfl <| Under.ldP .box (.ix .id h79) kt5_kInt_u8 rfl rfl <| Under.rawI (t := 15) rfl <| bn rfl rfl rfl rfl <| nt <| Under.ite h69 rfl (fun h69 => ?_) (fun h69 => ?_)
    ·refine Under.frz (t := 1) rfl <| xt <| bm rfl <| te ?_
     have e80 := done_eq h69 d70
     subst e80
     exact te <| bh <| tn <| wk (k44 _ (osi h43).symm) (s2 rfl rfl)
    ·exact cs <| bN <| tn <| rg <| mv rfl rfl <| bn rfl rfl rfl rfl <| ag rfl rfl <| nl <| Under.fo1 <| Under.fo1 <| Under.next _ () h69 (s3 rfl rfl rfl) rfl
   ·refine Under.frz (t := 1) rfl <| xt <| te ?_
    have e82 := done_eq h69 d70
    subst e82
    exact te <| bh <| tn <| wk (k44 _ (osi h43).symm) (s2 rfl rfl)
/-- (churn/block.quad).each -/
noncomputable def f_block_quad_each_field_Sub (a0 : List Int) : Option (List Int) :=
  (((Loop.run (S := (Int × (List Int))) (R := (List Int)) (fun (x59, x60) =>
      bif decide (x59 < 16) then
        (idx x60 x59).bind fun x73 =>
        (f_field_Sub x73).bind fun y75 =>
        (idx x60 x59).bind fun x77 =>
        some (.next (IntKind.wrap .i64 (x59 + 1), List.set x60 (Int.toNat x59) y75))
      else
        some (.done x60)) (0, a0)).bind fun x67 =>
  some x67
    : Option (List Int))).bind fun x40 =>
  some x40
theorem f_block_quad_each_field_Sub_ok {a0 : List Int} {r0 : (List Int)} (hF : f_block_quad_each_field_Sub a0 = some r0) (L : List Res) : Ok Tryd.prog 62 [SV.val K4 a0, SV.raw (.func (.func 38) #[] #[])] (L) (SV.val K4 r0) (L) := by
  unfold f_block_quad_each_field_Sub at hF
  refine Ok.intro 18 [(0, .val K4 a0), (1, .raw (.func (.func 38) #[] #[]))] Tryd.func62 rfl rfl rfl rfl (fun F0 => ?_)
  obtain ⟨r41, h42, hF⟩ := bsome hF
  refine sr <| Under.bx (K := kArr 16 K8) rfl rdV rfl fun b1 => Under.al ZT88 rfl fun b2 => nt <| sq <| Under.after (fun X => ∀ (x40 : List Int), r41 = x40 → Under F0 18 [(2, .ptr K4 x40), (4, .raw (.pointer (some ⟨b2, 0, none⟩)))] ((.box K4 b2 88 (List.replicate 16 (0 : Int))) :: L) X) ?_ ?_
  ·intro x40 h84
   replace h84 := h84.symm
   subst h84
   refine sr <| ov (OpV.ld kt88 rfl) rfl <| Under.stP (x' := x40) .box .id sz88_kArr_16_kInt_u8_ rfl rfl rdV rfl <| nl <| Under.frz (t := 4) rfl <| tn <| rc ?_
   have e44 := osi hF
   subst e44
   exact Under.rets Tryd.results62 (.ce rfl kt88 .nil) rfl rfl
  ·intro K k43
   obtain ⟨r70, h71, h42⟩ := bsome h42
   refine sr <| mv rfl rfl <| nt <| bk <| Under.fo1 <| Under.loop (S := (Int × (List Int))) (C := Unit) () (fun (x81 : (Int × (List Int))) (q82 : Unit) => [(1, .raw (.func (.func 38) #[] #[])), (2, .raw (.pointer (some ⟨b1, 0, none⟩))), (4, .raw (.pointer (some ⟨b2, 0, none⟩))), (6, .raw (.int .i64 x81.1))]) (fun (x81 : (Int × (List Int))) (q82 : Unit) => (.box K4 b1 88 x81.2) :: (.box K4 b2 88 (List.replicate 16 (0 : Int))) :: L) h71 (s4 rfl rfl rfl rfl) rfl (fun x81 q82 o72 h68 d69 => ?_)
   obtain ⟨x59, x60⟩ := x81
   dsimp only at h68 ⊢
   refine sr <| bn rfl rfl rfl rfl <| nt <| sq <| Under.ite h68 rfl (fun h68 => ?_) (fun h68 => ?_)
   ·obtain ⟨x73, h74, h68⟩ := bsome h68
    obtain ⟨y75, h76, h68⟩ := bsome h68
    obtain ⟨x77, h78, h68⟩ := bsome h68
    exact ct <| sq <| bk <| sr <| mv rfl rfl <| ag rfl rfl <| nt <| rg <| mv rfl rfl <| mv rfl rfl <| mv rfl rfl <| ov (OpV.ixP .box .id h74 Tryd.underlying88 sz5_kInt_u8 rfl rfl) rfl <| Under.ldP .box (.ix .id h74) kt5_kInt_u8 rfl rfl <| Under.rawI (t := 13) rfl <| Under.call Tryd.call38 rfl rfl (f_field_Sub_ok h76 _) rfl <| ov (OpV.ixP .box .id h78 Tryd.underlying88 sz5_kInt_u8 rfl rfl) rfl <| Under.stP (x' := List.set x60 (Int.toNat x59) y75) .box (.ix .id h78) sz5_kInt_u8 rfl rfl rdI rfl <| nl <| bN <| tn <| rg <| bn rfl rfl rfl rfl <| mv rfl rfl <| nl <| Under.fo1 <| Under.fo1 <| Under.next _ () h68 (s4 rfl rfl rfl rfl) rfl
   ·refine Under.frz (t := 2) rfl <| xt <| te ?_
    have e79 := done_eq h68 d69
    subst e79
    exact te <| bh <| tn <| wk (k43 _ (osi h42).symm) (s2 rfl rfl)
/-- (churn/block.Schedule).encrypted -/
noncomputable def f_block_Schedule_encrypted_field_Sub (a0 : Block_Schedule) (a1 : List Int) : Option (List Int) :=
  (idx a0.keys 0).bind fun x2 =>
  (f_block_quad_with a1 x2).bind fun y4 =>
  (((Loop.run (S := (Int × (List Int))) (R := (List Int)) (fun (x147, x148) =>
      bif decide (x147 ≤ 10) then
        (f_block_quad_each_field_Sub x148).bind fun y175 =>
        (f_block_quad_turned y175 1).bind fun y177 =>
        ((bif decide (x147 < 10) then
          (f_block_quad_columns_field_Column y177).bind fun y190 =>
          some y190
        else
          some y177
          : Option (List Int))).bind fun x181 =>
        (idx a0.keys x147).bind fun x186 =>
        (f_block_quad_with x181 x186).bind fun y188 =>
        some (.next (IntKind.wrap .i64 (x147 + 1), y188))
      else
        some (.done x148)) (1, y4)).bind fun x169 =>
  some x169
    : Option (List Int))).bind fun x100 =>
  some x100
theorem f_block_Schedule_encrypted_field_Sub_ok {a0 : Block_Schedule} {a1 : List Int} {r0 : (List Int)} (hF : f_block_Schedule_encrypted_field_Sub a0 a1 = some r0) (L : List Res) : Ok Tryd.prog 40 [SV.val kBlock_Schedule a0, SV.val K4 a1, SV.raw (.func (.func 38) #[] #[])] (L) (SV.val K4 r0) (L) := by
  unfold f_block_Schedule_encrypted_field_Sub at hF
  refine Ok.intro 33 [(0, .val kBlock_Schedule a0), (1, .val K4 a1), (2, .raw (.func (.func 38) #[] #[]))] Tryd.func40 rfl rfl rfl rfl (fun F0 => ?_)
  obtain ⟨x2, h3, hF⟩ := bsome hF
  obtain ⟨y4, h5, hF⟩ := bsome hF
  obtain ⟨r101, h102, hF⟩ := bsome hF
  refine sr <| Under.bxF (K := kBlock_Schedule) rfl rdV rfl <| Under.bxF (K := kArr 16 K8) rfl rdV rfl <| Under.al ZT44 rfl fun b1 => ns <| ov (OpV.ld kt44 rfl) rfl <| ov (OpV.fd fb91_0 rfl rfl) rfl <| ov (OpV.ixA h3 Tryd.underlying89 sz88 rfl rfl) rfl <| ov (OpV.ld kt88 rfl) rfl <| Under.call Tryd.call61 rfl rfl (f_block_quad_with_ok h5 _) rfl <| Under.al ZT88 rfl fun b6 => Under.stP (x' := y4) .box .id sz88_kArr_16_kInt_u8_ rfl rfl rdV rfl <| nt <| sq <| Under.after (fun X => ∀ (x100 : List Int), r101 = x100 → Under F0 33 [(6, .raw (.pointer (some ⟨b1, 0, none⟩))), (7, .ptr K4 x100)] ((.box K4 b1 44 (List.replicate 16 (0 : Int))) :: L) X) ?_ ?_
  ·intro x100 h200
   replace h200 := h200.symm
   subst h200
   refine sr <| ov (OpV.ld kt88 rfl) rfl <| Under.stP (x' := x100) .box .id sz44_kArr_16_kInt_u8_ rfl rfl rdV rfl <| nl <| Under.frz (t := 6) rfl <| tn <| rc ?_
   have e104 := osi hF
   subst e104
   exact Under.rets Tryd.results40 (.ce rfl kt44 .nil) rfl rfl
  ·intro K k103
   obtain ⟨r172, h173, h102⟩ := bsome h102
   refine sr <| ag rfl rfl <| nt <| bk <| Under.fo1 <| Under.loop (S := (Int × (List Int))) (C := Unit) () (fun (x197 : (Int × (List Int))) (q198 : Unit) => [(2, .raw (.func (.func 38) #[] #[])), (3, .ptr kBlock_Schedule a0), (6, .raw (.pointer (some ⟨b1, 0, none⟩))), (7, .raw (.pointer (some ⟨b6, 0, none⟩))), (8, .raw (.int .i64 x197.1))]) (fun (x197 : (Int × (List Int))) (q198 : Unit) => (.box K4 b1 44 (List.replicate 16 (0 : Int))) :: (.box K4 b6 88 x197.2) :: L) h173 (s5 rfl rfl rfl rfl rfl) rfl (fun x197 q198 o174 h170 d171 => ?_)
   obtain ⟨x147, x148⟩ := x197
   dsimp only at h170 ⊢
   refine sq <| sr <| mv rfl rfl <| bn rfl rfl rfl rfl <| nt <| Under.ite h170 rfl (fun h170 => ?_) (fun h170 => ?_)
   ·obtain ⟨y175, h176, h170⟩ := bsome h170
    obtain ⟨y177, h178, h170⟩ := bsome h170
    obtain ⟨r182, h183, h170⟩ := bsome h170
    refine ct <| sq <| bk <| sr <| Under.fo1 <| Under.ldP .box .id kt88_kArr_16_kInt_u8_ rfl rfl <| mv rfl rfl <| Under.call Tryd.call62 rfl rfl (f_block_quad_each_field_Sub_ok h176 _) rfl <| Under.call Tryd.call63 rfl rfl (f_block_quad_turned_ok h178 _) rfl <| Under.stP (x' := y177) .box .id sz88_kArr_16_kInt_u8_ rfl rfl rdV rfl <| nt <| sq <| Under.after (fun X => ∀ (x181 : List Int), r182 = x181 → Under F0 33 [(2, .raw (.func (.func 38) #[] #[])), (3, .ptr kBlock_Schedule a0), (6, .raw (.pointer (some ⟨b1, 0, none⟩))), (7, .raw (.pointer (some ⟨b6, 0, none⟩))), (8, .raw (.int .i64 x147))] ((.box K4 b1 44 (List.replicate 16 (0 : Int))) :: (.box K4 b6 88 x181) :: L) X) ?_ ?_
    ·intro x181 h194
     replace h194 := h194.symm
     subst h194
     obtain ⟨x186, h187, h170⟩ := bsome h170
     obtain ⟨y188, h189, h170⟩ := bsome h170
     refine Under.phases rfl <| Under.fo1 <| Under.fo1 <| Under.grpT (L := L) [0, 1, 2, 3, 4] [[7], [8], [3], [27, 28], [29]] [⟨sk0 (.val K4 x181), [], [], []⟩, ⟨sk0 (.raw (.int .i64 x147)), [], [], []⟩, ⟨sk0 (.ptr (kArr 11 K4) a0.keys), [], [], []⟩, ⟨sk0 (.ptr K4 x186), [], [], []⟩, ⟨sk0 (.val K4 x186), [], [], []⟩] [] (fun T : List Res => (.box K4 b1 44 (List.replicate 16 (0 : Int))) :: (.box K4 b6 88 x181) :: T) lf2 rfl (by kernel_rfl) rfl rfl (fun F hF0 bs185 => ?_)
     refine Tq.v (fun G T hG => ?_) ?_
     ·exact Under.fo1 <| Under.ldP .box .id kt88_kArr_16_kInt_u8_ rfl rfl <| Under.fo1 <| Tq.end undef rfl rfl
     refine Tq.v (fun G T hG => ?_) ?_
     ·exact mv rfl rfl <| Under.fo1 <| Under.fo1 <| Tq.end undef rfl rfl
     refine Tq.v (fun G T hG => ?_) ?_
     ·exact ov (OpV.fd fb91_0 rfl rfl) rfl <| Under.fo1 <| Under.fo1 <| Tq.end undef rfl rfl
     refine Tq.v (fun G T hG => ?_) ?_
     ·exact ov (OpV.ixA h187 Tryd.underlying89 sz88 rfl rfl) rfl <| Under.fo1 <| Under.fo1 <| Tq.end undef rfl rfl
     refine Tq.v (fun G T hG => ?_) ?_
     ·exact ov (OpV.ld kt88 rfl) rfl <| Under.fo1 <| Under.fo1 <| Tq.end undef rfl rfl
     exact Tq.nil <| Under.le hF0 <| Under.p1 5 rfl rfl <| Under.call Tryd.call61 rfl rfl (f_block_quad_with_ok h189 _) rfl <| Under.pn <| Under.p1 6 rfl rfl <| Under.fo1 <| Under.stP (x' := y188) .box .id sz88_kArr_16_kInt_u8_ rfl rfl rdV rfl <| Under.pn <| Under.pdone rfl <| bN <| tn <| rg <| mv rfl rfl <| bn rfl rfl rfl rfl <| ag rfl rfl <| nl <| Under.fo1 <| Under.next _ () h170 (s5 rfl rfl rfl rfl rfl) rfl
    ·intro K k184
     refine sr <| mv rfl rfl <| bn rfl rfl rfl rfl <| nt <| Under.ite h183 rfl (fun h183 => ?_) (fun h183 => ?_)
     ·obtain ⟨y190, h191, h183⟩ := bsome h183
      exact rg <| Under.ldP .box .id kt88_kArr_16_kInt_u8_ rfl rfl <| Under.call Tryd.call64 rfl rfl (f_block_quad_columns_field_Column_ok h191 _) rfl <| Under.stP (x' := y190) .box .id sz88_kArr_16_kInt_u8_ rfl rfl rdV rfl <| nt <| Under.fo1 <| wk (k184 _ (osi h183).symm) (s5 rfl rfl rfl rfl rfl)
     ·exact ct <| Under.fo1 <| wk (k184 _ (osi h183).symm) (s5 rfl rfl rfl rfl rfl)
   ·refine Under.fo1 <| Under.frz (t := 7) rfl <| xt <| te ?_
    have e195 := done_eq h170 d171
    subst e195
    exact te <| bh <| tn <| wk (k103 _ (osi h102).symm) (s2 rfl rfl)
/-- churn/block.Mask -/
noncomputable def f_block_Mask (a0 : List Int) (a1 : List Int) (a2 : List Int) : Option (List Int) :=
  (f_block_New a0).bind fun y2 =>
  bif mkB (a2.length : Int) (a2.length : Int) then
  bif decide ((a2.length : Int) > 32) then
    (((Loop.run (S := (Int × (List Int))) (R := (List Int)) (fun (x1650, x1651) =>
        bif decide (x1650 < 256) then
          (f_field_Sub (IntKind.wrap .u8 x1650)).bind fun y1662 =>
          (idx x1651 x1650).bind fun x1664 =>
          some (.next (IntKind.wrap .i64 (x1650 + 1), List.set x1651 (Int.toNat x1650) y1662))
        else
          some (.done x1651)) (0, (List.replicate 256 (0 : Int)))).bind fun x1656 =>
    some x1656
      : Option (List Int))).bind fun x38 =>
    (((Loop.run (S := ((List Int) × Int × (List Int))) (R := (List Int)) (fun (x1235, x1236, x1237) =>
        bif decide (x1236 < (x1235.length : Int)) then
          (((f_block_Schedule_encrypted_block_Mask_1 y2 x1237 x38).bind fun y1538 =>
          (((Loop.run (S := ((List Int) × Int)) (R := (List Int)) (fun (x1605, x1606) =>
              bif decide (x1606 < (min (IntKind.wrap .i64 (x1236 + 16)) (x1605.length : Int))) then
                (idx x1605 x1606).bind fun x1621 =>
                (idx y1538 (IntKind.wrap .i64 (x1606 - x1236))).bind fun x1623 =>
                (idx x1605 x1606).bind fun x1625 =>
                some (.next (List.set x1605 (Int.toNat x1606) (xorI .u8 x1621 x1623), IntKind.wrap .i64 (x1606 + 1)))
              else
                some (.done x1605)) (x1235, x1236)).bind fun x1614 =>
          some x1614
            : Option (List Int))).bind fun x1582 =>
          (f_block_next x1237).bind fun y1586 =>
          some (x1582, y1586)
            : Option ((List Int) × (List Int)))).bind fun r1535 => match r1535 with
            | (x1533, x1534) =>
              some (.next (x1533, IntKind.wrap .i64 (x1236 + 16), x1534))
        else
          some (.done x1235)) (over (List.replicate (Int.toNat (a2.length : Int)) (0 : Int)) 0 (List.length (List.replicate (Int.toNat (a2.length : Int)) (0 : Int))) a2, 0, a1)).bind fun x1433 =>
    some x1433
      : Option (List Int))).bind fun x837 =>
    some x837
  else
    (((Loop.run (S := ((List Int) × Int × (List Int))) (R := (List Int)) (fun (x2865, x2866, x2867) =>
        bif decide (x2866 < (x2865.length : Int)) then
          (((f_block_Schedule_encrypted_field_Sub y2 x2867).bind fun y3168 =>
          (((Loop.run (S := ((List Int) × Int)) (R := (List Int)) (fun (x3235, x3236) =>
              bif decide (x3236 < (min (IntKind.wrap .i64 (x2866 + 16)) (x3235.length : Int))) then
                (idx x3235 x3236).bind fun x3251 =>
                (idx y3168 (IntKind.wrap .i64 (x3236 - x2866))).bind fun x3253 =>
                (idx x3235 x3236).bind fun x3255 =>
                some (.next (List.set x3235 (Int.toNat x3236) (xorI .u8 x3251 x3253), IntKind.wrap .i64 (x3236 + 1)))
              else
                some (.done x3235)) (x2865, x2866)).bind fun x3244 =>
          some x3244
            : Option (List Int))).bind fun x3212 =>
          (f_block_next x2867).bind fun y3216 =>
          some (x3212, y3216)
            : Option ((List Int) × (List Int)))).bind fun r3165 => match r3165 with
            | (x3163, x3164) =>
              some (.next (x3163, IntKind.wrap .i64 (x2866 + 16), x3164))
        else
          some (.done x2865)) (over (List.replicate (Int.toNat (a2.length : Int)) (0 : Int)) 0 (List.length (List.replicate (Int.toNat (a2.length : Int)) (0 : Int))) a2, 0, a1)).bind fun x3063 =>
    some x3063
      : Option (List Int))).bind fun x2467 =>
    some x2467
  else none
theorem f_block_Mask_ok {a0 : List Int} {a1 : List Int} {a2 : List Int} {r0 : (List Int)} (hF : f_block_Mask a0 a1 a2 = some r0) (L : List Res) : Ok Tryd.prog 22 [SV.val K4 a0, SV.val K4 a1, SV.val K6 a2] (L) (SV.val K6 r0) (L) := by
  unfold f_block_Mask at hF
  refine Ok.intro 70 [(0, .val K4 a0), (1, .val K4 a1), (2, .val K6 a2)] Tryd.func22 rfl rfl rfl rfl (fun F0 => ?_)
  obtain ⟨y2, h3, hF⟩ := bsome hF
  obtain ⟨h6, hF⟩ := gsome hF
  refine sr <| Under.bxF (K := kArr 16 K8) rfl rdV rfl <| Under.bx (K := kArr 16 K8) rfl rdV rfl fun b1 => ag rfl rfl <| ns <| ov (OpV.ld kt44 rfl) rfl <| Under.call Tryd.call37 rfl rfl (f_block_New_ok h3 _) rfl <| Under.al ZT91 rfl fun b4 => Under.stP (x' := y2) .box .id sz91_kBlock_Schedule rfl rfl rdV rfl <| nl <| Under.frz (t := 7) rfl <| tn <| sr <| mv rfl rfl <| ov (OpV.len Tryd.underlying22 rfl rdV) rfl <| Under.mk h6 Tryd.underlying22 AT5 rfl rfl rfl fun v5 => ag rfl rfl <| ns <| mv rfl rfl <| mv rfl rfl <| Under.cpW Tryd.underlying22 sz5_kInt_u8 rfl rfl (.sl rdV) rfl <| ns <| ag rfl rfl <| nt <| sq <| sr <| mv rfl rfl <| ov (OpV.len Tryd.underlying22 rfl rdV) rfl <| bn rfl rfl rfl rfl <| nt <| Under.ite hF rfl (fun hF => ?_) (fun hF => ?_)
  ·obtain ⟨r39, h40, hF⟩ := bsome hF
   refine sr <| Under.al ZT94 rfl fun b8 => nt <| sq <| Under.after (fun X => ∀ (x38 : List Int), r39 = x38 → Under F0 70 [(4, .raw (.pointer (some ⟨b1, 0, none⟩))), (7, .ptr kBlock_Schedule y2), (8, .raw v5), (10, .ptr (kArr 256 K8) x38)] ((.own K8 v5 5 (over (List.replicate (Int.toNat (a2.length : Int)) (0 : Int)) 0 (List.length (List.replicate (Int.toNat (a2.length : Int)) (0 : Int))) a2)) :: (.box K4 b1 44 a1) :: L) X) ?_ ?_
   ·intro x38 h1671
    replace h1671 := h1671.symm
    subst h1671
    obtain ⟨r838, h839, hF⟩ := bsome hF
    refine rg <| ov (OpV.mkf rfl) rfl <| ag rfl rfl <| nt <| sq <| Under.after (fun X => ∀ (x837 : List Int), r838 = x837 → Under F0 70 [(8, .val K6 x837)] (L) X) ?_ ?_
    ·intro x837 h1639
     replace h1639 := h1639.symm
     subst h1639
     refine sr <| mv rfl rfl <| ag rfl rfl <| nt <| rc ?_
     have e841 := osi hF
     subst e841
     exact Under.rets Tryd.results22 (.tm rfl .nil) rfl rfl
    ·intro K k840
     obtain ⟨r1436, h1437, h839⟩ := bsome h839
     refine sr <| ag rfl rfl <| nt <| bk <| Under.fo1 <| Under.fo1 <| Under.loop (S := ((List Int) × Int × (List Int))) (C := Unit) () (fun (x1636 : ((List Int) × Int × (List Int))) (q1637 : Unit) => [(4, .raw (.pointer (some ⟨b1, 0, none⟩))), (7, .ptr kBlock_Schedule y2), (8, .raw v5), (9, .fn 39 [.ptr (kArr 256 K8) x38]), (12, .raw (.int .i64 x1636.2.1))]) (fun (x1636 : ((List Int) × Int × (List Int))) (q1637 : Unit) => (.own K8 v5 5 x1636.1) :: (.box K4 b1 44 x1636.2.2) :: L) h1437 (s5 rfl rfl rfl rfl rfl) rfl (fun x1636 q1637 o1438 h1434 d1435 => ?_)
     obtain ⟨x1235, x1236, x1237⟩ := x1636
     dsimp only at h1434 ⊢
     refine sq <| sr <| mv rfl rfl <| mv rfl rfl <| ov (OpV.lenO Tryd.underlying22 rfl) rfl <| bn rfl rfl rfl rfl <| nt <| Under.ite h1434 rfl (fun h1434 => ?_) (fun h1434 => ?_)
     ·obtain ⟨r1535, h1536, h1434⟩ := bsome h1434
      refine ct <| sq <| Under.after (fun X => ∀ (x1533 : List Int) (x1534 : List Int), r1535 = (x1533, x1534) → Under F0 70 [(4, .raw (.pointer (some ⟨b1, 0, none⟩))), (7, .ptr kBlock_Schedule y2), (8, .raw v5), (9, .fn 39 [.ptr (kArr 256 K8) x38]), (12, .raw (.int .i64 x1236))] ((.own K8 v5 5 x1533) :: (.box K4 b1 44 x1534) :: L) X) ?_ ?_
      ·intro x1533 x1534 h1633
       replace h1633 := h1633.symm
       subst h1633
       exact rg <| mv rfl rfl <| bn rfl rfl rfl rfl <| ag rfl rfl <| nl <| Under.fo1 <| Under.fo1 <| Under.next _ () h1434 (s5 rfl rfl rfl rfl rfl) rfl
      ·intro K k1537
       obtain ⟨y1538, h1539, h1536⟩ := bsome h1536
       obtain ⟨r1583, h1584, h1536⟩ := bsome h1536
       refine bk <| sr <| ov (OpV.ld kt91 rfl) rfl <| Under.fo1 <| Under.ldP .box .id kt44_kArr_16_kInt_u8_ rfl rfl <| mv rfl rfl <| Under.call Tryd.call40 rfl rfl (f_block_Schedule_encrypted_block_Mask_1_ok h1539 _) rfl <| Under.al ZT44 rfl fun b1540 => Under.stP (x' := y1538) .box .id sz44_kArr_16_kInt_u8_ rfl rfl rdV rfl <| nl <| Under.frz (t := 13) rfl <| tn <| sq <| Under.after (fun X => ∀ (x1582 : List Int), r1583 = x1582 → Under F0 70 [(4, .raw (.pointer (some ⟨b1, 0, none⟩))), (7, .ptr kBlock_Schedule y2), (8, .raw v5), (9, .fn 39 [.ptr (kArr 256 K8) x38]), (12, .raw (.int .i64 x1236))] ((.own K8 v5 5 x1582) :: (.box K4 b1 44 x1237) :: L) X) ?_ ?_
       ·intro x1582 h1632
        replace h1632 := h1632.symm
        subst h1632
        obtain ⟨y1586, h1587, h1536⟩ := bsome h1536
        exact rg <| Under.fo1 <| Under.ldP .box .id kt44_kArr_16_kInt_u8_ rfl rfl <| Under.call Tryd.call41 rfl rfl (f_block_next_ok h1587 _) rfl <| Under.stP (x' := y1586) .box .id sz44_kArr_16_kInt_u8_ rfl rfl rdV rfl <| nl <| bN <| tn <| Under.fo1 <| wk (k1537 _ _ (osi h1536).symm) (s5 rfl rfl rfl rfl rfl)
       ·intro K k1585
        obtain ⟨r1617, h1618, h1584⟩ := bsome h1584
        refine sr <| mv rfl rfl <| ag rfl rfl <| nt <| bk <| Under.fo1 <| Under.loop (S := ((List Int) × Int)) (C := Unit) () (fun (x1629 : ((List Int) × Int)) (q1630 : Unit) => [(4, .raw (.pointer (some ⟨b1, 0, none⟩))), (7, .ptr kBlock_Schedule y2), (8, .raw v5), (9, .fn 39 [.ptr (kArr 256 K8) x38]), (12, .raw (.int .i64 x1236)), (13, .ptr K4 y1538), (14, .raw (.int .i64 x1629.2))]) (fun (x1629 : ((List Int) × Int)) (q1630 : Unit) => (.own K8 v5 5 x1629.1) :: (.box K4 b1 44 x1237) :: L) h1618 (s7 rfl rfl rfl rfl rfl rfl rfl) rfl (fun x1629 q1630 o1619 h1615 d1616 => ?_)
        obtain ⟨x1605, x1606⟩ := x1629
        dsimp only at h1615 ⊢
        refine sq <| sr <| mv rfl rfl <| mv rfl rfl <| bn rfl rfl rfl rfl <| mv rfl rfl <| ov (OpV.lenO Tryd.underlying22 rfl) rfl <| ov (OpV.min2 rfl rfl) rfl <| bn rfl rfl rfl rfl <| nt <| Under.ite h1615 rfl (fun h1615 => ?_) (fun h1615 => ?_)
        ·obtain ⟨x1621, h1622, h1615⟩ := bsome h1615
         obtain ⟨x1623, h1624, h1615⟩ := bsome h1615
         obtain ⟨x1625, h1626, h1615⟩ := bsome h1615
         refine ct <| sq <| bk <| Under.phases rfl <| Under.fo1 <| Under.fo1 <| Under.grpT (L := L) [0, 1, 2, 3, 4, 5, 6, 7, 8] [[8], [14], [56, 57], [58], [14], [12], [60, 61], [13, 62], [63]] [⟨sk0 (.raw v5), [], [], []⟩, ⟨sk0 (.raw (.int .i64 x1606)), [], [], []⟩, ⟨sk0 (.raw (.pointer (some ⟨(blkOf v5), 0 + Int.toNat x1606 * 1, none⟩))), [], [], []⟩, ⟨sk0 (.raw (.int .u8 x1621)), [], [], []⟩, ⟨sk0 (.raw (.int .i64 x1606)), [], [], []⟩, ⟨sk0 (.raw (.int .i64 x1236)), [], [], []⟩, ⟨sk0 (.raw (.int .i64 (IntKind.wrap .i64 (x1606 - x1236)))), [], [], []⟩, ⟨sk0 (.ptr K8 x1623), [], [], []⟩, ⟨sk0 (.raw (.int .u8 x1623)), [], [], []⟩] [] (fun T : List Res => (.own K8 v5 5 x1605) :: (.box K4 b1 44 x1237) :: T) lf2 rfl (by kernel_rfl) rfl rfl (fun F hF0 bs1620 => ?_)
         refine Tq.v (fun G T hG => ?_) ?_
         ·exact mv rfl rfl <| Under.fo1 <| Under.fo1 <| Tq.end undef rfl rfl
         refine Tq.v (fun G T hG => ?_) ?_
         ·exact mv rfl rfl <| Under.fo1 <| Under.fo1 <| Tq.end undef rfl rfl
         refine Tq.v (fun G T hG => ?_) ?_
         ·exact ov (OpV.ixO h1622 Tryd.underlying22 sz5_kInt_u8 rfl rfl) rfl <| Under.fo1 <| Under.fo1 <| Tq.end undef rfl rfl
         refine Tq.v (fun G T hG => ?_) ?_
         ·exact Under.ldP (.own h1622) (.ix .id h1622) kt5_kInt_u8 rfl rfl <| Under.rawI (t := 59) rfl <| Under.fo1 <| Under.fo1 <| Tq.end undef rfl rfl
         refine Tq.v (fun G T hG => ?_) ?_
         ·exact mv rfl rfl <| Under.fo1 <| Under.fo1 <| Tq.end undef rfl rfl
         refine Tq.v (fun G T hG => ?_) ?_
         ·exact mv rfl rfl <| Under.fo1 <| Under.fo1 <| Tq.end undef rfl rfl
         refine Tq.v (fun G T hG => ?_) ?_
         ·exact bn rfl rfl rfl rfl <| Under.fo1 <| Under.fo1 <| Tq.end undef rfl rfl
         refine Tq.v (fun G T hG => ?_) ?_
         ·exact ov (OpV.ixA h1624 Tryd.underlying44 sz5 rfl rfl) rfl <| Under.fo1 <| Under.fo1 <| Tq.end undef rfl rfl
         refine Tq.v (fun G T hG => ?_) ?_
         ·exact ov (OpV.ldI kt5 rfl) rfl <| Under.fo1 <| Under.fo1 <| Tq.end undef rfl rfl
         exact Tq.nil <| Under.le hF0 <| Under.p1 9 rfl rfl <| bn rfl rfl rfl rfl <| Under.pn <| Under.p1 10 rfl rfl <| ov (OpV.ixO h1626 Tryd.underlying22 sz5_kInt_u8 rfl rfl) rfl <| Under.pn <| Under.p1 11 rfl rfl <| Under.stP (x' := List.set x1605 (Int.toNat x1606) (xorI .u8 x1621 x1623)) (.own h1626) (.ix .id h1626) sz5_kInt_u8 rfl rfl rdI rfl <| Under.pn <| Under.pdone rfl <| bN <| tn <| rg <| mv rfl rfl <| bn rfl rfl rfl rfl <| ag rfl rfl <| nl <| Under.fo1 <| Under.fo1 <| Under.next _ () h1615 (s7 rfl rfl rfl rfl rfl rfl rfl) rfl
        ·refine xt <| te ?_
         have e1627 := done_eq h1615 d1616
         subst e1627
         exact te <| bh <| tn <| Under.fo1 <| Under.fo1 <| wk (k1585 _ (osi h1584).symm) (s5 rfl rfl rfl rfl rfl)
     ·refine Under.fo1 <| dr <| Under.frzO (t := 8) rfl <| xt <| te ?_
      have e1634 := done_eq h1434 d1435
      subst e1634
      exact te <| bh <| tn <| wk (k840 _ (osi h839).symm) (s1 rfl)
   ·intro K k41
    obtain ⟨r1659, h1660, h40⟩ := bsome h40
    refine sr <| mv rfl rfl <| nt <| bk <| Under.fo2 <| Under.fo2 <| Under.loop (S := (Int × (List Int))) (C := Unit) () (fun (x1668 : (Int × (List Int))) (q1669 : Unit) => [(4, .raw (.pointer (some ⟨b1, 0, none⟩))), (7, .ptr kBlock_Schedule y2), (8, .raw v5), (10, .raw (.pointer (some ⟨b8, 0, none⟩))), (26, .raw (.int .i64 x1668.1))]) (fun (x1668 : (Int × (List Int))) (q1669 : Unit) => (.own K8 v5 5 (over (List.replicate (Int.toNat (a2.length : Int)) (0 : Int)) 0 (List.length (List.replicate (Int.toNat (a2.length : Int)) (0 : Int))) a2)) :: (.box K4 b1 44 a1) :: (.box (kArr 256 K8) b8 94 x1668.2) :: L) h1660 (s5 rfl rfl rfl rfl rfl) rfl (fun x1668 q1669 o1661 h1657 d1658 => ?_)
    obtain ⟨x1650, x1651⟩ := x1668
    dsimp only at h1657 ⊢
    refine sr <| bn rfl rfl rfl rfl <| nt <| sq <| Under.ite h1657 rfl (fun h1657 => ?_) (fun h1657 => ?_)
    ·obtain ⟨y1662, h1663, h1657⟩ := bsome h1657
     obtain ⟨x1664, h1665, h1657⟩ := bsome h1657
     exact ct <| sq <| bk <| sr <| mv rfl rfl <| ag rfl rfl <| nt <| rg <| mv rfl rfl <| mv rfl rfl <| ov (OpV.conv (by kernel_rfl) Tryd.underlying5 rfl) rfl <| Under.call Tryd.call38 rfl rfl (f_field_Sub_ok h1663 _) rfl <| Under.fo2 <| ov (OpV.ixP .box .id h1665 Tryd.underlying94 sz5_kInt_u8 rfl rfl) rfl <| Under.stP (x' := List.set x1651 (Int.toNat x1650) y1662) .box (.ix .id h1665) sz5_kInt_u8 rfl rfl rdI rfl <| nl <| bN <| tn <| rg <| bn rfl rfl rfl rfl <| mv rfl rfl <| nl <| Under.fo2 <| Under.fo2 <| Under.next _ () h1657 (s5 rfl rfl rfl rfl rfl) rfl
    ·refine Under.fo2 <| Under.frz (t := 10) rfl <| xt <| te ?_
     have e1666 := done_eq h1657 d1658
     subst e1666
     exact te <| bh <| tn <| Under.fo1 <| Under.fo1 <| wk (k41 _ (osi h40).symm) (s4 rfl rfl rfl rfl)
  ·obtain ⟨r2468, h2469, hF⟩ := bsome hF
   refine ct <| sq <| Under.after (fun X => ∀ (x2467 : List Int), r2468 = x2467 → Under F0 70 [(8, .val K6 x2467)] (L) X) ?_ ?_
   ·intro x2467 h3269
    replace h3269 := h3269.symm
    subst h3269
    refine sr <| mv rfl rfl <| ag rfl rfl <| nt <| rc ?_
    have e2471 := osi hF
    subst e2471
    exact Under.rets Tryd.results22 (.tm rfl .nil) rfl rfl
   ·intro K k2470
    obtain ⟨r3066, h3067, h2469⟩ := bsome h2469
    refine sr <| ag rfl rfl <| nt <| bk <| Under.fo1 <| Under.fo1 <| Under.loop (S := ((List Int) × Int × (List Int))) (C := Unit) () (fun (x3266 : ((List Int) × Int × (List Int))) (q3267 : Unit) => [(4, .raw (.pointer (some ⟨b1, 0, none⟩))), (7, .ptr kBlock_Schedule y2), (8, .raw v5), (9, .raw (.func (.func 38) #[] #[])), (12, .raw (.int .i64 x3266.2.1))]) (fun (x3266 : ((List Int) × Int × (List Int))) (q3267 : Unit) => (.own K8 v5 5 x3266.1) :: (.box K4 b1 44 x3266.2.2) :: L) h3067 (s5 rfl rfl rfl rfl rfl) rfl (fun x3266 q3267 o3068 h3064 d3065 => ?_)
    obtain ⟨x2865, x2866, x2867⟩ := x3266
    dsimp only at h3064 ⊢
    refine sq <| sr <| mv rfl rfl <| mv rfl rfl <| ov (OpV.lenO Tryd.underlying22 rfl) rfl <| bn rfl rfl rfl rfl <| nt <| Under.ite h3064 rfl (fun h3064 => ?_) (fun h3064 => ?_)
    ·obtain ⟨r3165, h3166, h3064⟩ := bsome h3064
     refine ct <| sq <| Under.after (fun X => ∀ (x3163 : List Int) (x3164 : List Int), r3165 = (x3163, x3164) → Under F0 70 [(4, .raw (.pointer (some ⟨b1, 0, none⟩))), (7, .ptr kBlock_Schedule y2), (8, .raw v5), (9, .raw (.func (.func 38) #[] #[])), (12, .raw (.int .i64 x2866))] ((.own K8 v5 5 x3163) :: (.box K4 b1 44 x3164) :: L) X) ?_ ?_
     ·intro x3163 x3164 h3263
      replace h3263 := h3263.symm
      subst h3263
      exact rg <| mv rfl rfl <| bn rfl rfl rfl rfl <| ag rfl rfl <| nl <| Under.fo1 <| Under.fo1 <| Under.next _ () h3064 (s5 rfl rfl rfl rfl rfl) rfl
     ·intro K k3167
      obtain ⟨y3168, h3169, h3166⟩ := bsome h3166
      obtain ⟨r3213, h3214, h3166⟩ := bsome h3166
      refine bk <| sr <| ov (OpV.ld kt91 rfl) rfl <| Under.fo1 <| Under.ldP .box .id kt44_kArr_16_kInt_u8_ rfl rfl <| mv rfl rfl <| Under.call Tryd.call40 rfl rfl (f_block_Schedule_encrypted_field_Sub_ok h3169 _) rfl <| Under.al ZT44 rfl fun b3170 => Under.stP (x' := y3168) .box .id sz44_kArr_16_kInt_u8_ rfl rfl rdV rfl <| nl <| Under.frz (t := 13) rfl <| tn <| sq <| Under.after (fun X => ∀ (x3212 : List Int), r3213 = x3212 → Under F0 70 [(4, .raw (.pointer (some ⟨b1, 0, none⟩))), (7, .ptr kBlock_Schedule y2), (8, .raw v5), (9, .raw (.func (.func 38) #[] #[])), (12, .raw (.int .i64 x2866))] ((.own K8 v5 5 x3212) :: (.box K4 b1 44 x2867) :: L) X) ?_ ?_
      ·intro x3212 h3262
       replace h3262 := h3262.symm
       subst h3262
       obtain ⟨y3216, h3217, h3166⟩ := bsome h3166
       exact rg <| Under.fo1 <| Under.ldP .box .id kt44_kArr_16_kInt_u8_ rfl rfl <| Under.call Tryd.call41 rfl rfl (f_block_next_ok h3217 _) rfl <| Under.stP (x' := y3216) .box .id sz44_kArr_16_kInt_u8_ rfl rfl rdV rfl <| nl <| bN <| tn <| Under.fo1 <| wk (k3167 _ _ (osi h3166).symm) (s5 rfl rfl rfl rfl rfl)
      ·intro K k3215
       obtain ⟨r3247, h3248, h3214⟩ := bsome h3214
       refine sr <| mv rfl rfl <| ag rfl rfl <| nt <| bk <| Under.fo1 <| Under.loop (S := ((List Int) × Int)) (C := Unit) () (fun (x3259 : ((List Int) × Int)) (q3260 : Unit) => [(4, .raw (.pointer (some ⟨b1, 0, none⟩))), (7, .ptr kBlock_Schedule y2), (8, .raw v5), (9, .raw (.func (.func 38) #[] #[])), (12, .raw (.int .i64 x2866)), (13, .ptr K4 y3168), (14, .raw (.int .i64 x3259.2))]) (fun (x3259 : ((List Int) × Int)) (q3260 : Unit) => (.own K8 v5 5 x3259.1) :: (.box K4 b1 44 x2867) :: L) h3248 (s7 rfl rfl rfl rfl rfl rfl rfl) rfl (fun x3259 q3260 o3249 h3245 d3246 => ?_)
       obtain ⟨x3235, x3236⟩ := x3259
       dsimp only at h3245 ⊢
       refine sq <| sr <| mv rfl rfl <| mv rfl rfl <| bn rfl rfl rfl rfl <| mv rfl rfl <| ov (OpV.lenO Tryd.underlying22 rfl) rfl <| ov (OpV.min2 rfl rfl) rfl <| bn rfl rfl rfl rfl <| nt <| Under.ite h3245 rfl (fun h3245 => ?_) (fun h3245 => ?_)
       ·obtain ⟨x3251, h3252, h3245⟩ := bsome h3245
        obtain ⟨x3253, h3254, h3245⟩ := bsome h3245
        obtain ⟨x3255, h3256, h3245⟩ := bsome h3245
        refine ct <| sq <| bk <| Under.phases rfl <| Under.fo1 <| Under.fo1 <| Under.grpT (L := L) [0, 1, 2, 3, 4, 5, 6, 7, 8] [[8], [14], [56, 57], [58], [14], [12], [60, 61], [13, 62], [63]] [⟨sk0 (.raw v5), [], [], []⟩, ⟨sk0 (.raw (.int .i64 x3236)), [], [], []⟩, ⟨sk0 (.raw (.pointer (some ⟨(blkOf v5), 0 + Int.toNat x3236 * 1, none⟩))), [], [], []⟩, ⟨sk0 (.raw (.int .u8 x3251)), [], [], []⟩, ⟨sk0 (.raw (.int .i64 x3236)), [], [], []⟩, ⟨sk0 (.raw (.int .i64 x2866)), [], [], []⟩, ⟨sk0 (.raw (.int .i64 (IntKind.wrap .i64 (x3236 - x2866)))), [], [], []⟩, ⟨sk0 (.ptr K8 x3253), [], [], []⟩, ⟨sk0 (.raw (.int .u8 x3253)), [], [], []⟩] [] (fun T : List Res => (.own K8 v5 5 x3235) :: (.box K4 b1 44 x2867) :: T) lf2 rfl (by kernel_rfl) rfl rfl (fun F hF0 bs3250 => ?_)
        refine Tq.v (fun G T hG => ?_) ?_
        ·exact mv rfl rfl <| Under.fo1 <| Under.fo1 <| Tq.end undef rfl rfl
        refine Tq.v (fun G T hG => ?_) ?_
        ·exact mv rfl rfl <| Under.fo1 <| Under.fo1 <| Tq.end undef rfl rfl
        refine Tq.v (fun G T hG => ?_) ?_
        ·exact ov (OpV.ixO h3252 Tryd.underlying22 sz5_kInt_u8 rfl rfl) rfl <| Under.fo1 <| Under.fo1 <| Tq.end undef rfl rfl
        refine Tq.v (fun G T hG => ?_) ?_
        ·exact Under.ldP (.own h3252) (.ix .id h3252) kt5_kInt_u8 rfl rfl <| Under.rawI (t := 59) rfl <| Under.fo1 <| Under.fo1 <| Tq.end undef rfl rfl
        refine Tq.v (fun G T hG => ?_) ?_
        ·exact mv rfl rfl <| Under.fo1 <| Under.fo1 <| Tq.end undef rfl rfl
        refine Tq.v (fun G T hG => ?_) ?_
        ·exact mv rfl rfl <| Under.fo1 <| Under.fo1 <| Tq.end undef rfl rfl
        refine Tq.v (fun G T hG => ?_) ?_
        ·exact bn rfl rfl rfl rfl <| Under.fo1 <| Under.fo1 <| Tq.end undef rfl rfl
        refine Tq.v (fun G T hG => ?_) ?_
        ·exact ov (OpV.ixA h3254 Tryd.underlying44 sz5 rfl rfl) rfl <| Under.fo1 <| Under.fo1 <| Tq.end undef rfl rfl
        refine Tq.v (fun G T hG => ?_) ?_
        ·exact ov (OpV.ldI kt5 rfl) rfl <| Under.fo1 <| Under.fo1 <| Tq.end undef rfl rfl
        exact Tq.nil <| Under.le hF0 <| Under.p1 9 rfl rfl <| bn rfl rfl rfl rfl <| Under.pn <| Under.p1 10 rfl rfl <| ov (OpV.ixO h3256 Tryd.underlying22 sz5_kInt_u8 rfl rfl) rfl <| Under.pn <| Under.p1 11 rfl rfl <| Under.stP (x' := List.set x3235 (Int.toNat x3236) (xorI .u8 x3251 x3253)) (.own h3256) (.ix .id h3256) sz5_kInt_u8 rfl rfl rdI rfl <| Under.pn <| Under.pdone rfl <| bN <| tn <| rg <| mv rfl rfl <| bn rfl rfl rfl rfl <| ag rfl rfl <| nl <| Under.fo1 <| Under.fo1 <| Under.next _ () h3245 (s7 rfl rfl rfl rfl rfl rfl rfl) rfl
       ·refine xt <| te ?_
        have e3257 := done_eq h3245 d3246
        subst e3257
        exact te <| bh <| tn <| Under.fo1 <| Under.fo1 <| wk (k3215 _ (osi h3214).symm) (s5 rfl rfl rfl rfl rfl)
    ·refine Under.fo1 <| dr <| Under.frzO (t := 8) rfl <| xt <| te ?_
     have e3264 := done_eq h3064 d3065
     subst e3264
     exact te <| bh <| tn <| wk (k2470 _ (osi h2469).symm) (s1 rfl)
/-- churn/onion.room -/
noncomputable def f_onion_room (a0 : Int) : Option Int :=
  (f_onion_Size a0).bind fun y1 =>
  some (IntKind.wrap .i64 (y1 - 34))
theorem f_onion_room_ok {a0 : Int} {r0 : Int} (hF : f_onion_room a0 = some r0) (L : List Res) : Ok Tryd.prog 36 [SV.raw (.int .i64 a0)] (L) (SV.raw (.int .i64 r0)) (L) := by
  unfold f_onion_room at hF
  refine Ok.intro 6 [(0, .raw (.int .i64 a0))] Tryd.func36 rfl rfl rfl rfl (fun F0 => ?_)
  obtain ⟨y1, h2, hF⟩ := bsome hF
  refine sr <| ag rfl rfl <| ns <| mv rfl rfl <| Under.call Tryd.call16 rfl rfl (f_onion_Size_ok h2 _) rfl <| bn rfl rfl rfl rfl <| ag rfl rfl <| nt <| rc ?_
  have e3 := osi hF
  subst e3
  exact Under.rets Tryd.results36 (.tm rfl .nil) rfl rfl
/-- churn/onion.inside -/
noncomputable def f_onion_inside (a0 : List Int) (a1 : Int) : Option ((List Int) × Bool) :=
  (idx a0 0).bind fun x1 =>
  (idx a0 1).bind fun x3 =>
  (f_onion_room a1).bind fun y5 =>
  bif decide ((orI .i64 (shlI .i64 (IntKind.wrap .i64 x1) 8) (IntKind.wrap .i64 x3)) > y5) then
    some ([], false)
  else
    (((sub a0 (IntKind.wrap .i64 (2 + (orI .i64 (shlI .i64 (IntKind.wrap .i64 x1) 8) (IntKind.wrap .i64 x3)))) (a0.length : Int)).bind fun x35 =>
    (Loop.run (S := Int) (R := (Unit ⊕ ((List Int) × Bool))) (fun x42 =>
        bif decide (x42 < (x35.length : Int)) then
          (idx x35 x42).bind fun x50 =>
          bif x50 != 0 then
            some (.done (.inr ([], false)))
          else
            some (.next (IntKind.wrap .i64 (x42 + 1)))
        else
          some (.done (.inl ()))) 0).bind fun r47 => match r47 with
      | .inl _ =>
        some (.inr ())
      | .inr z =>
        some (.inl z)
      : Option (((List Int) × Bool) ⊕ Unit))).bind fun r29 => match r29 with
      | .inl z =>
        some z
      | .inr _ =>
        (sub a0 2 (IntKind.wrap .i64 (2 + (orI .i64 (shlI .i64 (IntKind.wrap .i64 x1) 8) (IntKind.wrap .i64 x3))))).bind fun x32 =>
        some (x32, true)
theorem f_onion_inside_ok {a0 : List Int} {a1 : Int} {r0 : ((List Int) × Bool)} (hF : f_onion_inside a0 a1 = some r0) (L : List Res) : Ok Tryd.prog 21 [SV.val K6 a0, SV.raw (.int .i64 a1)] (L) (SV.tup [SV.val K6 r0.1, SV.raw (.bool r0.2)]) (L) := by
  unfold f_onion_inside at hF
  refine Ok.intro 39 [(0, .val K6 a0), (1, .raw (.int .i64 a1))] Tryd.func21 rfl rfl rfl rfl (fun F0 => ?_)
  obtain ⟨x1, h2, hF⟩ := bsome hF
  obtain ⟨x3, h4, hF⟩ := bsome hF
  obtain ⟨y5, h6, hF⟩ := bsome hF
  refine sr <| ag rfl rfl <| ag rfl rfl <| nt <| sq <| dw rfl (by kernel_rfl) fun F hF0 => mvq rfl rfl <| oq (OpV.ixS h2 Tryd.underlying22 sz5 rfl rdV rfl) rfl <| oq (OpV.ldI kt5 rfl) rfl <| oq (OpV.conv (by kernel_rfl) Tryd.underlying3 rfl) rfl <| oq (OpV.sh rfl rfl (by decide) rfl) rfl <| mvq rfl rfl <| oq (OpV.ixS h4 Tryd.underlying22 sz5 rfl rdV rfl) rfl <| oq (OpV.ldI kt5 rfl) rfl <| oq (OpV.conv (by kernel_rfl) Tryd.underlying3 rfl) rfl <| bnq rfl rfl rfl rfl <| agq rfl rfl <| nlq hF0 <| tn <| sq <| sr <| mv rfl rfl <| mv rfl rfl <| Under.call Tryd.call36 rfl rfl (f_onion_room_ok h6 _) rfl <| bn rfl rfl rfl rfl <| nt <| Under.ite hF rfl (fun hF => ?_) (fun hF => ?_)
  ·refine sr <| ag rfl rfl <| ag rfl rfl <| nt <| rt <| Under.toV (K := kSl K8) (x := []) (t := 4) rfl rdN ?_
   have e7 := osi hF
   subst e7
   exact Under.rets Tryd.results21 (.tm rfl (.tm rfl .nil)) rfl rfl
  ·obtain ⟨r29, h30, hF⟩ := bsome hF
   refine ct <| sq <| Under.after (fun X => ∀ (_ : Unit), r29 = (.inr ()) → Under F0 39 [(0, .val K6 a0), (6, .raw (.int .i64 (orI .i64 (shlI .i64 (IntKind.wrap .i64 x1) 8) (IntKind.wrap .i64 x3))))] (L) X) ?_ ?_
   ·intro _ h60
    replace h60 := h60.symm
    subst h60
    obtain ⟨x32, h33, hF⟩ := bsome hF
    refine sr <| mv rfl rfl <| mv rfl rfl <| bn rfl rfl rfl rfl <| ov (OpV.slLH h33 Tryd.underlying22 sz5 rfl rdV rfl rfl) rfl <| ag rfl rfl <| ag rfl rfl <| nt <| rc ?_
    have e34 := osi hF
    subst e34
    exact Under.rets Tryd.results21 (.tm rfl (.tm rfl .nil)) rfl rfl
   ·intro K k31
    obtain ⟨x35, h36, h30⟩ := bsome h30
    obtain ⟨r47, h48, h30⟩ := bsome h30
    refine sr <| mv rfl rfl <| mv rfl rfl <| bn rfl rfl rfl rfl <| ov (OpV.slL h36 Tryd.underlying22 sz5 rfl rdV rfl) rfl <| ov (OpV.len Tryd.underlying22 rfl rdV) rfl <| mv rfl rfl <| nt <| bk <| Under.loop (S := Int) (C := Unit) () (fun (x57 : Int) (q58 : Unit) => [(0, .val K6 a0), (6, .raw (.int .i64 (orI .i64 (shlI .i64 (IntKind.wrap .i64 x1) 8) (IntKind.wrap .i64 x3)))), (26, .val K6 x35), (27, .raw (.int .i64 (x35.length : Int))), (28, .raw (.int .i64 x57))]) (fun (x57 : Int) (q58 : Unit) => L) h48 (s5 rfl rfl rfl rfl rfl) rfl (fun x57 q58 o49 h45 d46 => ?_)
    refine sr <| bn rfl rfl rfl rfl <| nt <| sq <| Under.ite h45 rfl (fun h45 => ?_) (fun h45 => ?_)
    ·obtain ⟨x50, h51, h45⟩ := bsome h45
     refine ct <| sq <| bk <| sr <| ov (OpV.ixS h51 Tryd.underlying22 sz5 rfl rdV rfl) rfl <| ov (OpV.ldI kt5 rfl) rfl <| ag rfl rfl <| ns <| mv rfl rfl <| bn rfl rfl rfl rfl <| nt <| Under.ite h45 rfl (fun h45 => ?_) (fun h45 => ?_)
     ·refine sr <| ag rfl rfl <| ag rfl rfl <| nt <| rc <| Under.bR <| tr ?_
      have e52 := done_eq h45 d46
      subst e52
      refine tr <| Under.bR <| tr ?_
      have e53 := osi h30
      subst e53
      refine Under.toV (K := kSl K8) (x := []) (t := 4) rfl rdN ?_
      have e54 := osi hF
      subst e54
      exact Under.rets Tryd.results21 (.tm rfl (.tm rfl .nil)) rfl rfl
     ·exact cs <| bN <| tn <| rg <| bn rfl rfl rfl rfl <| mv rfl rfl <| nl <| Under.next _ () h45 (s5 rfl rfl rfl rfl rfl) rfl
    ·refine xt <| te ?_
     have e55 := done_eq h45 d46
     subst e55
     exact te <| bh <| tn <| wk (k31 () (osi h30).symm) (s2 rfl rfl)
/-- churn/cell.laid -/
noncomputable def f_cell_laid (a0 : List Int) (a1 : Int) (a2 : List Int) : Option (List Int) :=
  bif mkB 320 320 then
  bif decide ((0 : Int) ≤ a1 ∧ (a1 : Int) ≤ ((over (List.replicate (Int.toNat 320) (0 : Int)) 0 (List.length (List.replicate (Int.toNat 320) (0 : Int))) a2).length : Int) ∧ (((over (List.replicate (Int.toNat 320) (0 : Int)) 0 (List.length (List.replicate (Int.toNat 320) (0 : Int))) a2).length : Int) : Int) ≤ ((over (List.replicate (Int.toNat 320) (0 : Int)) 0 (List.length (List.replicate (Int.toNat 320) (0 : Int))) a2).length : Int)) then
  bif decide ((Int.toNat a1) ≤ (Int.toNat ((over (List.replicate (Int.toNat 320) (0 : Int)) 0 (List.length (List.replicate (Int.toNat 320) (0 : Int))) a2).length : Int)) ∧ (Int.toNat ((over (List.replicate (Int.toNat 320) (0 : Int)) 0 (List.length (List.replicate (Int.toNat 320) (0 : Int))) a2).length : Int)) ≤ (List.length (over (List.replicate (Int.toNat 320) (0 : Int)) 0 (List.length (List.replicate (Int.toNat 320) (0 : Int))) a2))) then
  some (over (over (List.replicate (Int.toNat 320) (0 : Int)) 0 (List.length (List.replicate (Int.toNat 320) (0 : Int))) a2) (Int.toNat a1) (Int.toNat ((over (List.replicate (Int.toNat 320) (0 : Int)) 0 (List.length (List.replicate (Int.toNat 320) (0 : Int))) a2).length : Int)) a0)
  else none
  else none
  else none
theorem f_cell_laid_ok {a0 : List Int} {a1 : Int} {a2 : List Int} {r0 : (List Int)} (hF : f_cell_laid a0 a1 a2 = some r0) (L : List Res) : Ok Tryd.prog 45 [SV.val K6 a0, SV.raw (.int .i64 a1), SV.val K6 a2] (L) (SV.val K6 r0) (L) := by
  unfold f_cell_laid at hF
  refine Ok.intro 18 [(0, .val K6 a0), (1, .raw (.int .i64 a1)), (2, .val K6 a2)] Tryd.func45 rfl rfl rfl rfl (fun F0 => ?_)
  obtain ⟨h2, hF⟩ := gsome hF
  obtain ⟨h4, hF⟩ := gsome hF
  refine sr <| ag rfl rfl <| ns <| Under.mk h2 Tryd.underlying22 AT5 rfl rfl rfl fun v1 => ag rfl rfl <| ns <| mv rfl rfl <| mv rfl rfl <| Under.cpW Tryd.underlying22 sz5_kInt_u8 rfl rfl (.sl rdV) rfl <| ns <| mv rfl rfl <| mv rfl rfl ?_
  replace h4 : (0 : Int) ≤ a1 ∧ (a1 : Int) ≤ ((over (List.replicate (Int.toNat 320) (0 : Int)) 0 (List.length (List.replicate (Int.toNat 320) (0 : Int))) a2).length : Int) ∧ (((over (List.replicate (Int.toNat 320) (0 : Int)) 0 (List.length (List.replicate (Int.toNat 320) (0 : Int))) a2).length : Int) : Int) ≤ ((over (List.replicate (Int.toNat 320) (0 : Int)) 0 (List.length (List.replicate (Int.toNat 320) (0 : Int))) a2).length : Int) := of_decide_eq_true h4
  obtain ⟨h5, hF⟩ := gsome hF
  refine Under.slO (l := a1) (h := ((over (List.replicate (Int.toNat 320) (0 : Int)) 0 (List.length (List.replicate (Int.toNat 320) (0 : Int))) a2).length : Int)) Tryd.underlying22 sz5_kInt_u8 rfl rfl rfl (And.left h4) (And.left (And.right h4)) (And.right (And.right h4)) rfl <| mv rfl rfl ?_
  replace h5 : (Int.toNat a1) ≤ (Int.toNat ((over (List.replicate (Int.toNat 320) (0 : Int)) 0 (List.length (List.replicate (Int.toNat 320) (0 : Int))) a2).length : Int)) ∧ (Int.toNat ((over (List.replicate (Int.toNat 320) (0 : Int)) 0 (List.length (List.replicate (Int.toNat 320) (0 : Int))) a2).length : Int)) ≤ (List.length (over (List.replicate (Int.toNat 320) (0 : Int)) 0 (List.length (List.replicate (Int.toNat 320) (0 : Int))) a2)) := of_decide_eq_true h5
  refine Under.cpO (And.left h5) (And.right h5) Tryd.underlying22 sz5_kInt_u8 rfl rfl (.sl rdV) rfl <| nl <| Under.frzO (t := 7) rfl <| tn <| sr <| mv rfl rfl <| ag rfl rfl <| nt <| rc ?_
  have e7 := osi hF
  subst e7
  exact Under.rets Tryd.results45 (.tm rfl .nil) rfl rfl
/-- churn/cell.Pad -/
noncomputable def f_cell_Pad (a0 : List Int) : Option ((List Int) × Int) :=
  bif decide ((a0.length : Int) > 320) then
    some ([], 1)
  else
    (f_cell_laid a0 0 []).bind fun y2 =>
    some (y2, 0)
theorem f_cell_Pad_ok {a0 : List Int} {r0 : ((List Int) × Int)} (hF : f_cell_Pad a0 = some r0) (L : List Res) : Ok Tryd.prog 24 [SV.val K6 a0] (L) (SV.tup [SV.val K6 r0.1, SV.raw (.int .i64 r0.2)]) (L) := by
  unfold f_cell_Pad at hF
  refine Ok.intro 9 [(0, .val K6 a0)] Tryd.func24 rfl rfl rfl rfl (fun F0 => ?_)
  refine sr <| ag rfl rfl <| ag rfl rfl <| nt <| sq <| sr <| mv rfl rfl <| ov (OpV.len Tryd.underlying22 rfl rdV) rfl <| bn rfl rfl rfl rfl <| nt <| Under.ite hF rfl (fun hF => ?_) (fun hF => ?_)
  ·refine sr <| ag rfl rfl <| ag rfl rfl <| nt <| rt <| Under.toV (K := kSl K8) (x := []) (t := 2) rfl rdN ?_
   have e1 := osi hF
   subst e1
   exact Under.rets Tryd.results24 (.tm rfl (.tm rfl .nil)) rfl rfl
  ·obtain ⟨y2, h3, hF⟩ := bsome hF
   refine ct <| sr <| mv rfl rfl <| Under.call Tryd.call45 rfl rfl (Ok.cv (.sm (.sm (.rd rdN .nil))) (f_cell_laid_ok h3 _)) rfl <| ag rfl rfl <| ag rfl rfl <| nt <| rc ?_
   have e4 := osi hF
   subst e4
   exact Under.rets Tryd.results24 (.tm rfl (.tm rfl .nil)) rfl rfl
/-- churn/cell.Plain -/
noncomputable def f_cell_Plain (a0 : List Int) : Option ((List Int) × Int) :=
  bif decide ((a0.length : Int) > 48) then
    some ([], 1)
  else
    (f_cell_laid a0 2 [1, IntKind.wrap .u8 (a0.length : Int)]).bind fun y2 =>
    some (y2, 0)
theorem f_cell_Plain_ok {a0 : List Int} {r0 : ((List Int) × Int)} (hF : f_cell_Plain a0 = some r0) (L : List Res) : Ok Tryd.prog 25 [SV.val K6 a0] (L) (SV.tup [SV.val K6 r0.1, SV.raw (.int .i64 r0.2)]) (L) := by
  unfold f_cell_Plain at hF
  refine Ok.intro 13 [(0, .val K6 a0)] Tryd.func25 rfl rfl rfl rfl (fun F0 => ?_)
  refine sr <| ag rfl rfl <| ag rfl rfl <| nt <| sq <| sr <| mv rfl rfl <| ov (OpV.len Tryd.underlying22 rfl rdV) rfl <| bn rfl rfl rfl rfl <| nt <| Under.ite hF rfl (fun hF => ?_) (fun hF => ?_)
  ·refine sr <| ag rfl rfl <| ag rfl rfl <| nt <| rt <| Under.toV (K := kSl K8) (x := []) (t := 2) rfl rdN ?_
   have e1 := osi hF
   subst e1
   exact Under.rets Tryd.results25 (.tm rfl (.tm rfl .nil)) rfl rfl
  ·obtain ⟨y2, h3, hF⟩ := bsome hF
   refine ct <| sr <| mv rfl rfl <| mv rfl rfl <| ov (OpV.len Tryd.underlying22 rfl rdV) rfl <| ov (OpV.conv (by kernel_rfl) Tryd.underlying5 rfl) rfl <| Under.bsF (ys := [1, IntKind.wrap .u8 (a0.length : Int)]) Tryd.underlying22 ET5 (BldA.cons rfl rfl rdI (BldA.cons rfl rfl rdI (BldA.nil _))) rfl rfl <| Under.call Tryd.call45 rfl rfl (f_cell_laid_ok h3 _) rfl <| ag rfl rfl <| ag rfl rfl <| nt <| rc ?_
   have e4 := osi hF
   subst e4
   exact Under.rets Tryd.results25 (.tm rfl (.tm rfl .nil)) rfl rfl
/-- churn/onion.Peel -/
noncomputable def f_onion_Peel (a0 : List Int) (a1 : Int) (a2 : List Int) : Option (Api_Peeled × Int) :=
  ((bif (a0.length : Int) != 32 then
    some true
  else
    (f_onion_Size a1).bind fun y5 =>
    some (y5 == 0)
    : Option Bool)).bind fun x4 =>
  bif x4 then
    some ((⟨[], (List.replicate 16 (0 : Int))⟩ : Api_Peeled), 2)
  else
    (f_onion_Size a1).bind fun y8 =>
    (f_cell_Cut a2 y8).bind fun y10 =>
    bif y10.2 != 0 then
      some ((⟨[], (List.replicate 16 (0 : Int))⟩ : Api_Peeled), y10.2)
    else
      bif decide (16 ≤ y10.1.length) then
      (f_onion_Derive a0 (List.take 16 y10.1)).bind fun y15 =>
      bif y15.2 != 0 then
        some ((⟨[], (List.replicate 16 (0 : Int))⟩ : Api_Peeled), y15.2)
      else
        (sub y10.1 32 (y10.1.length : Int)).bind fun x19 =>
        (sub y10.1 16 32).bind fun x22 =>
        (f_onion_tagged y15.1 a1 (List.take 16 y10.1) x19).bind fun y24 =>
        (f_mac_Equal x22 y24).bind fun y26 =>
        bif !y26 then
          some ((⟨[], (List.replicate 16 (0 : Int))⟩ : Api_Peeled), 70)
        else
          (f_block_Mask y15.1.Box (List.replicate 16 (0 : Int)) x19).bind fun y29 =>
          (f_onion_inside y29 a1).bind fun y31 =>
          bif !y31.2 then
            some ((⟨[], (List.replicate 16 (0 : Int))⟩ : Api_Peeled), 71)
          else
            (sub y10.1 0 32).bind fun x35 =>
            (f_mac_Tag y15.1.Replay x35).bind fun y37 =>
            bif decide (16 ≤ y37.length) then
            ((bif decide (a1 > 1) then
              (f_cell_Pad y31.1).bind fun y53 =>
              some (y53.2, ({ (⟨[], List.take 16 y37⟩ : Api_Peeled) with Cell := y53.1 } : Api_Peeled))
            else
              (f_cell_Plain y31.1).bind fun y56 =>
              some (y56.2, ({ (⟨[], List.take 16 y37⟩ : Api_Peeled) with Cell := y56.1 } : Api_Peeled))
              : Option (Int × Api_Peeled))).bind fun r48 => match r48 with
              | (x46, x47) =>
                bif x46 != 0 then
                  some ((⟨[], (List.replicate 16 (0 : Int))⟩ : Api_Peeled), x46)
                else
                  some (x47, 0)
            else none
      else none
theorem f_onion_Peel_ok {a0 : List Int} {a1 : Int} {a2 : List Int} {r0 : (Api_Peeled × Int)} (hF : f_onion_Peel a0 a1 a2 = some r0) (L : List Res) : Ok Tryd.prog 9 [SV.val K6 a0, SV.raw (.int .i64 a1), SV.val K6 a2] (L) (SV.tup [SV.val kApi_Peeled r0.1, SV.raw (.int .i64 r0.2)]) (L) := by
  unfold f_onion_Peel at hF
  refine Ok.intro 103 [(0, .val K6 a0), (1, .raw (.int .i64 a1)), (2, .val K6 a2)] Tryd.func9 rfl rfl rfl rfl (fun F0 => ?_)
  obtain ⟨x4, h3, hF⟩ := bsome hF
  refine sr <| Under.al ZT46 rfl fun b1 => ag rfl rfl <| nt <| sq <| sr <| mv rfl rfl <| ov (OpV.len Tryd.underlying22 rfl rdV) rfl <| bn rfl rfl rfl rfl <| mv rfl rfl <| runj_4 24 x4 ?_ (fun k => ?_)
  ·refine nt <| Under.ite hF rfl (fun hF => ?_) (fun hF => ?_)
   ·refine sr <| ov (OpV.bst BT46 (Bld.nil _)) rfl <| Under.stP (x' := (⟨[], (List.replicate 16 (0 : Int))⟩ : Api_Peeled)) .box .id sz46_kApi_Peeled rfl rfl rdV rfl <| ag rfl rfl <| nl <| Under.frz (t := 6) rfl <| tn <| rt ?_
    have e7 := osi hF
    subst e7
    exact Under.rets Tryd.results9 (.ce rfl kt46 (.tm rfl .nil)) rfl rfl
   ·obtain ⟨y8, h9, hF⟩ := bsome hF
    obtain ⟨y10, h11, hF⟩ := bsome hF
    refine ct <| sr <| mv rfl rfl <| mv rfl rfl <| Under.call Tryd.call16 rfl rfl (f_onion_Size_ok h9 _) rfl <| Under.call Tryd.call17 rfl rfl (f_cell_Cut_ok h11 _) rfl <| mv rfl rfl <| ov (OpV.extr rfl rfl) rfl <| ov (OpV.extr rfl rfl) rfl <| ag rfl rfl <| ag rfl rfl <| nt <| sq <| sr <| mv rfl rfl <| bn rfl rfl rfl rfl <| nt <| Under.ite hF rfl (fun hF => ?_) (fun hF => ?_)
    ·refine sr <| ov (OpV.bst BT46 (Bld.nil _)) rfl <| mv rfl rfl <| Under.stP (x' := (⟨[], (List.replicate 16 (0 : Int))⟩ : Api_Peeled)) .box .id sz46_kApi_Peeled rfl rfl rdV rfl <| ag rfl rfl <| nl <| Under.frz (t := 6) rfl <| tn <| rt ?_
     have e12 := osi hF
     subst e12
     exact Under.rets Tryd.results9 (.ce rfl kt46 (.tm rfl .nil)) rfl rfl
    ·obtain ⟨h13, hF⟩ := gsome hF
     obtain ⟨y15, h16, hF⟩ := bsome hF
     refine ct <| sr <| mv rfl rfl <| ov (OpV.s2a (of_decide_eq_true h13) rfl Tryd.underlying44 rfl rdV) rfl <| ov (OpV.ld kt44 rfl) rfl <| Under.al ZT44 rfl fun b14 => Under.stP (x' := List.take 16 y10.1) .box .id sz44_kArr_16_kInt_u8_ rfl rfl rdV rfl <| nl <| Under.frz (t := 10) rfl <| tn <| sr <| mv rfl rfl <| ov (OpV.ld kt44 rfl) rfl <| Under.call Tryd.call18 rfl rfl (f_onion_Derive_ok h16 _) rfl <| mv rfl rfl <| ov (OpV.extr rfl rfl) rfl <| ov (OpV.extr rfl rfl) rfl <| Under.al ZT66 rfl fun b17 => Under.stP (x' := y15.1) .box .id sz66_kApi_OnionKeys rfl rfl rdV rfl <| ag rfl rfl <| nl <| Under.frz (t := 11) rfl <| tn <| sq <| sr <| mv rfl rfl <| bn rfl rfl rfl rfl <| nt <| Under.ite hF rfl (fun hF => ?_) (fun hF => ?_)
     ·refine sr <| ov (OpV.bst BT46 (Bld.nil _)) rfl <| mv rfl rfl <| Under.stP (x' := (⟨[], (List.replicate 16 (0 : Int))⟩ : Api_Peeled)) .box .id sz46_kApi_Peeled rfl rfl rdV rfl <| ag rfl rfl <| nl <| Under.frz (t := 6) rfl <| tn <| rt ?_
      have e18 := osi hF
      subst e18
      exact Under.rets Tryd.results9 (.ce rfl kt46 (.tm rfl .nil)) rfl rfl
     ·obtain ⟨x19, h20, hF⟩ := bsome hF
      obtain ⟨x22, h23, hF⟩ := bsome hF
      obtain ⟨y24, h25, hF⟩ := bsome hF
      obtain ⟨y26, h27, hF⟩ := bsome hF
      refine ct <| sr <| mv rfl rfl <| ov (OpV.slL h20 Tryd.underlying22 sz5 rfl rdV rfl) rfl <| ag rfl rfl <| nt <| sq <| sq <| Under.phases rfl <| Under.grpT (L := L) [0, 1, 2, 3, 4, 5, 6] [[8], [52], [11], [1], [10], [12], [54, 55, 56, 57]] [⟨sk0 (.val K6 y10.1), [], [], []⟩, ⟨sk0 (.val K6 x22), [], [], []⟩, ⟨sk0 (.val kApi_OnionKeys y15.1), [], [], []⟩, ⟨sk0 (.raw (.int .i64 a1)), [], [], []⟩, ⟨sk0 (.val K4 (List.take 16 y10.1)), [], [], []⟩, ⟨sk0 (.val K6 x19), [], [], []⟩, ⟨sk0 (.val K6 y24), [], [], []⟩] [] (fun T : List Res => (.box kApi_Peeled b1 46 (⟨[], (List.replicate 16 (0 : Int))⟩ : Api_Peeled)) :: T) lf1 rfl (by kernel_rfl) rfl rfl (fun F hF0 bs21 => ?_)
      refine Tq.v (fun G T hG => ?_) ?_
      ·exact mv rfl rfl <| Tq.end undef rfl rfl
      refine Tq.v (fun G T hG => ?_) ?_
      ·exact ov (OpV.slLH h23 Tryd.underlying22 sz5 rfl rdV rfl rfl) rfl <| Tq.end undef rfl rfl
      refine Tq.v (fun G T hG => ?_) ?_
      ·exact ov (OpV.ld kt66 rfl) rfl <| Tq.end undef rfl rfl
      refine Tq.v (fun G T hG => ?_) ?_
      ·exact mv rfl rfl <| Tq.end undef rfl rfl
      refine Tq.v (fun G T hG => ?_) ?_
      ·exact ov (OpV.ld kt44 rfl) rfl <| Tq.end undef rfl rfl
      refine Tq.v (fun G T hG => ?_) ?_
      ·exact mv rfl rfl <| Tq.end undef rfl rfl
      refine Tq.v (fun G T hG => ?_) ?_
      ·exact Under.call Tryd.call20 rfl rfl (f_onion_tagged_ok h25 _) rfl <| Tq.end undef rfl rfl
      refine Tq.nil <| Under.le hF0 <| Under.p1 7 rfl rfl <| Under.call Tryd.call19 rfl rfl (f_mac_Equal_ok h27 _) rfl <| Under.pn <| Under.p1 8 rfl rfl <| ov (OpV.not rfl) rfl <| Under.pn <| Under.pdone rfl <| tn <| Under.ite hF rfl (fun hF => ?_) (fun hF => ?_)
      ·refine sr <| ov (OpV.bst BT46 (Bld.nil _)) rfl <| Under.stP (x' := (⟨[], (List.replicate 16 (0 : Int))⟩ : Api_Peeled)) .box .id sz46_kApi_Peeled rfl rfl rdV rfl <| ag rfl rfl <| nl <| Under.frz (t := 6) rfl <| tn <| rt ?_
       have e28 := osi hF
       subst e28
       exact Under.rets Tryd.results9 (.ce rfl kt46 (.tm rfl .nil)) rfl rfl
      ·obtain ⟨y29, h30, hF⟩ := bsome hF
       obtain ⟨y31, h32, hF⟩ := bsome hF
       refine ct <| sr <| ov (OpV.fd fb66_0 rfl rfl) rfl <| ov (OpV.ld kt44 rfl) rfl <| ov (OpV.bar (ys := (List.replicate 16 (0 : Int))) BTA44 (BldA.nil _)) rfl <| mv rfl rfl <| Under.call Tryd.call22 rfl rfl (f_block_Mask_ok h30 _) rfl <| mv rfl rfl <| Under.call Tryd.call21 rfl rfl (f_onion_inside_ok h32 _) rfl <| mv rfl rfl <| ov (OpV.extr rfl rfl) rfl <| ov (OpV.extr rfl rfl) rfl <| ag rfl rfl <| ag rfl rfl <| nt <| sq <| sr <| mv rfl rfl <| ov (OpV.not rfl) rfl <| nt <| Under.ite hF rfl (fun hF => ?_) (fun hF => ?_)
       ·refine sr <| ov (OpV.bst BT46 (Bld.nil _)) rfl <| Under.stP (x' := (⟨[], (List.replicate 16 (0 : Int))⟩ : Api_Peeled)) .box .id sz46_kApi_Peeled rfl rfl rdV rfl <| ag rfl rfl <| nl <| Under.frz (t := 6) rfl <| tn <| rt ?_
        have e33 := osi hF
        subst e33
        exact Under.rets Tryd.results9 (.ce rfl kt46 (.tm rfl .nil)) rfl rfl
       ·obtain ⟨x35, h36, hF⟩ := bsome hF
        obtain ⟨y37, h38, hF⟩ := bsome hF
        refine ct <| sq <| Under.phases rfl <| Under.grpT (L := L) [0, 1, 2, 3, 4, 5] [[11], [75], [8], [77], [76, 78], []] [⟨sk0 (.ptr K3 y15.1.Replay), [], [], []⟩, ⟨sk0 (.val K6 y15.1.Replay), [], [], []⟩, ⟨sk0 (.val K6 y10.1), [], [], []⟩, ⟨sk0 (.val K6 x35), [], [], []⟩, ⟨sk0 (.val K3 y37), [], [], []⟩, ⟨sk1 5 (fun u5 => .raw (.pointer (some ⟨(vblk u5), 0, none⟩))), [], [(0, tk1 5 (fun u5 => .box K3 (vblk u5) 64 (List.replicate 32 (0 : Int))))], []⟩] [] (fun T : List Res => (.box kApi_Peeled b1 46 (⟨[], (List.replicate 16 (0 : Int))⟩ : Api_Peeled)) :: T) lf1 rfl (by kernel_rfl) rfl rfl (fun F hF0 bs34 => ?_)
        refine Tq.v (fun G T hG => ?_) ?_
        ·exact ov (OpV.fd fb66_2 rfl rfl) rfl <| Tq.end undef rfl rfl
        refine Tq.v (fun G T hG => ?_) ?_
        ·exact ov (OpV.slA Tryd.underlying64 sz5 rfl) rfl <| Tq.end undef rfl rfl
        refine Tq.v (fun G T hG => ?_) ?_
        ·exact mv rfl rfl <| Tq.end undef rfl rfl
        refine Tq.v (fun G T hG => ?_) ?_
        ·exact ov (OpV.slH h36 Tryd.underlying22 sz5 rfl rdV rfl) rfl <| Tq.end undef rfl rfl
        refine Tq.v (fun G T hG => ?_) ?_
        ·exact Under.call Tryd.call23 rfl rfl (f_mac_Tag_ok h38 _) rfl <| Tq.end undef rfl rfl
        refine Tq.st (.raw (.pointer (some ⟨(vblk (bs34 5)), 0, none⟩))) [] rfl rfl (fun G T hG => ?_) ?_
        ·exact Under.al ZT64 rfl fun b39 => Under.fo1 <| Under.fo1 <| Tq.end (.pointer (some ⟨b39, 0, none⟩)) rfl rfl
        obtain ⟨h40, hF⟩ := gsome hF
        obtain ⟨r48, h49, hF⟩ := bsome hF
        refine Tq.nil <| Under.le hF0 <| Under.p1 6 rfl rfl <| Under.fo1 <| Under.stP (x' := y37) .box .id sz64_kArr_32_kInt_u8_ rfl rfl rdV rfl <| Under.pn <| Under.pdone rfl <| Under.frz (t := 15) rfl <| tn <| sr <| ov (OpV.slA Tryd.underlying64 sz5 rfl) rfl <| ov (OpV.s2a (of_decide_eq_true h40) rfl Tryd.underlying44 rfl rdV) rfl <| ov (OpV.ld kt44 rfl) rfl <| ov (OpV.bst BT46 (Bld.cons (x' := (⟨[], List.take 16 y37⟩ : Api_Peeled)) rfl rfl rdV ⟨rfl, (fun q hq => by simp at hq)⟩ (Bld.nil _))) rfl <| Under.al ZT46 rfl fun b41 => Under.stP (x' := (⟨[], List.take 16 y37⟩ : Api_Peeled)) .box .id sz46_kApi_Peeled rfl rfl rdV rfl <| nt <| sq <| Under.after (fun X => ∀ (x46 : Int) (x47 : Api_Peeled), r48 = (x46, x47) → Under F0 103 [(6, .raw (.pointer (some ⟨b1, 0, none⟩))), (9, .raw (.int .i64 x46)), (16, .ptr kApi_Peeled x47)] ((.box kApi_Peeled b1 46 (⟨[], (List.replicate 16 (0 : Int))⟩ : Api_Peeled)) :: L) X) ?_ ?_
        ·intro x46 x47 h59
         replace h59 := h59.symm
         subst h59
         refine sq <| sr <| mv rfl rfl <| bn rfl rfl rfl rfl <| nt <| Under.ite hF rfl (fun hF => ?_) (fun hF => ?_)
         ·refine sr <| ov (OpV.bst BT46 (Bld.nil _)) rfl <| mv rfl rfl <| Under.stP (x' := (⟨[], (List.replicate 16 (0 : Int))⟩ : Api_Peeled)) .box .id sz46_kApi_Peeled rfl rfl rdV rfl <| ag rfl rfl <| nl <| Under.frz (t := 6) rfl <| tn <| rt ?_
          have e51 := osi hF
          subst e51
          exact Under.rets Tryd.results9 (.ce rfl kt46 (.tm rfl .nil)) rfl rfl
         ·refine ct <| sr <| ov (OpV.ld kt46 rfl) rfl <| Under.stP (x' := x47) .box .id sz46_kApi_Peeled rfl rfl rdV rfl <| ag rfl rfl <| nl <| Under.frz (t := 6) rfl <| tn <| rc ?_
          have e52 := osi hF
          subst e52
          exact Under.rets Tryd.results9 (.ce rfl kt46 (.tm rfl .nil)) rfl rfl
        ·intro K k50
         refine sr <| mv rfl rfl <| bn rfl rfl rfl rfl <| nt <| Under.ite h49 rfl (fun h49 => ?_) (fun h49 => ?_)
         ·obtain ⟨y53, h54, h49⟩ := bsome h49
          exact rg <| mv rfl rfl <| Under.call Tryd.call24 rfl rfl (f_cell_Pad_ok h54 _) rfl <| mv rfl rfl <| ov (OpV.extr rfl rfl) rfl <| ov (OpV.extr rfl rfl) rfl <| ov (OpV.fdM fm46_0 rfl) rfl <| Under.stP (x' := ({ (⟨[], List.take 16 y37⟩ : Api_Peeled) with Cell := y53.1 } : Api_Peeled)) .box (.fld .id uf_Api_Peeled_0) sz22_kSl_kInt_u8_ rfl rfl rdV rfl <| ag rfl rfl <| nl <| Under.frz (t := 16) rfl <| tn <| wk (k50 _ _ (osi h49).symm) (s3 rfl rfl rfl)
         ·obtain ⟨y56, h57, h49⟩ := bsome h49
          exact rg <| mv rfl rfl <| Under.call Tryd.call25 rfl rfl (f_cell_Plain_ok h57 _) rfl <| mv rfl rfl <| ov (OpV.extr rfl rfl) rfl <| ov (OpV.extr rfl rfl) rfl <| ov (OpV.fdM fm46_0 rfl) rfl <| Under.stP (x' := ({ (⟨[], List.take 16 y37⟩ : Api_Peeled) with Cell := y56.1 } : Api_Peeled)) .box (.fld .id uf_Api_Peeled_0) sz22_kSl_kInt_u8_ rfl rfl rdV rfl <| ag rfl rfl <| nl <| Under.frz (t := 16) rfl <| tn <| wk (k50 _ _ (osi h49).symm) (s3 rfl rfl rfl)
  ·refine by_ (t := 20) rfl (fun c2 => ?_) (fun c2 => ?_)
   ·replace h3 := ctrue c2 h3
    exact sk c2 rfl rfl rfl <| sk c2 rfl rfl rfl <| sk c2 rfl rfl rfl <| ov (pkT c2 rfl rfl) rfl <| rf 3 (rbq h3) rfl k
   ·replace h3 := cfalse c2 h3
    obtain ⟨y5, h6, h3⟩ := bsome h3
    exact gc c2 rfl rfl <| mv rfl rfl <| gc c2 rfl rfl <| Under.call Tryd.call16 rfl rfl (f_onion_Size_ok h6 _) rfl <| gc c2 rfl rfl <| bn rfl rfl rfl rfl <| ov (pkF c2 rfl rfl) rfl <| rf 3 (rbq h3) rfl k
/-- slices.Index[[][16]byte,[16]byte] -/
noncomputable def f_slices_Index (a0 : List (List Int)) (a1 : List Int) : Option Int :=
  (((Loop.run (S := Int) (R := (Unit ⊕ Int)) (fun x29 =>
      bif decide (x29 < (a0.length : Int)) then
        (idx a0 x29).bind fun x37 =>
        bif a1 == x37 then
          some (.done (.inr x29))
        else
          some (.next (IntKind.wrap .i64 (x29 + 1)))
      else
        some (.done (.inl ()))) 0).bind fun r34 => match r34 with
    | .inl _ =>
      some (.inr ())
    | .inr z =>
      some (.inl z)
    : Option (Int ⊕ Unit))).bind fun r20 => match r20 with
    | .inl z =>
      some z
    | .inr _ =>
      some (-1)
theorem f_slices_Index_ok {a0 : List (List Int)} {a1 : List Int} {r0 : Int} (hF : f_slices_Index a0 a1 = some r0) (L : List Res) : Ok Tryd.prog 47 [SV.val (kSl K4) a0, SV.val K4 a1] (L) (SV.raw (.int .i64 r0)) (L) := by
  unfold f_slices_Index at hF
  refine Ok.intro 19 [(0, .val (kSl K4) a0), (1, .val K4 a1)] Tryd.func47 rfl rfl rfl rfl (fun F0 => ?_)
  obtain ⟨r20, h21, hF⟩ := bsome hF
  refine sr <| Under.bxF (K := kArr 16 K8) rfl rdV rfl <| ag rfl rfl <| nt <| sq <| Under.after (fun X => ∀ (_ : Unit), r20 = (.inr ()) → Under F0 19 [] (L) X) ?_ ?_
  ·intro _ h47
   replace h47 := h47.symm
   subst h47
   refine sr <| ag rfl rfl <| nt <| rc ?_
   have e23 := osi hF
   subst e23
   exact Under.rets Tryd.results47 (.tm rfl .nil) rfl rfl
  ·intro K k22
   obtain ⟨r34, h35, h21⟩ := bsome h21
   refine sr <| mv rfl rfl <| ov (OpV.len Tryd.underlying77 rfl rdV) rfl <| mv rfl rfl <| nt <| bk <| Under.loop (S := Int) (C := Unit) () (fun (x44 : Int) (q45 : Unit) => [(0, .val (kSl K4) a0), (3, .ptr K4 a1), (7, .raw (.int .i64 (a0.length : Int))), (8, .raw (.int .i64 x44))]) (fun (x44 : Int) (q45 : Unit) => L) h35 (s4 rfl rfl rfl rfl) rfl (fun x44 q45 o36 h32 d33 => ?_)
   refine sr <| bn rfl rfl rfl rfl <| nt <| sq <| Under.ite h32 rfl (fun h32 => ?_) (fun h32 => ?_)
   ·obtain ⟨x37, h38, h32⟩ := bsome h32
    refine ct <| sq <| bk <| sr <| mv rfl rfl <| ag rfl rfl <| nt <| sq <| dw rfl (by kernel_rfl) fun F hF0 => oq (OpV.ld kt44 rfl) rfl <| mvq rfl rfl <| mvq rfl rfl <| oq (OpV.ixS h38 Tryd.underlying77 sz44 rfl rdV rfl) rfl <| oq (OpV.ld kt44 rfl) rfl <| oq (OpV.eqK eqk44 eqg44 rfl rfl rfl rdV rfl rdV) rfl <| nlq hF0 <| tn <| Under.ite h32 rfl (fun h32 => ?_) (fun h32 => ?_)
    ·refine sr <| mv rfl rfl <| ag rfl rfl <| nt <| rc <| Under.bR <| tr ?_
     have e39 := done_eq h32 d33
     subst e39
     refine tr <| Under.bR <| tr ?_
     have e40 := osi h21
     subst e40
     have e41 := osi hF
     subst e41
     exact Under.rets Tryd.results47 (.tm rfl .nil) rfl rfl
    ·exact cs <| bN <| tn <| rg <| bn rfl rfl rfl rfl <| mv rfl rfl <| nl <| Under.next _ () h32 (s4 rfl rfl rfl rfl) rfl
   ·refine xt <| te ?_
    have e42 := done_eq h32 d33
    subst e42
    exact te <| bh <| tn <| wk (k22 () (osi h21).symm) (sub_nil _)
/-- slices.Contains[[][16]byte,[16]byte] -/
noncomputable def f_slices_Contains (a0 : List (List Int)) (a1 : List Int) : Option Bool :=
  (f_slices_Index a0 a1).bind fun y1 =>
  some (decide (y1 ≥ 0))
theorem f_slices_Contains_ok {a0 : List (List Int)} {a1 : List Int} {r0 : Bool} (hF : f_slices_Contains a0 a1 = some r0) (L : List Res) : Ok Tryd.prog 28 [SV.val (kSl K4) a0, SV.val K4 a1] (L) (SV.raw (.bool r0)) (L) := by
  unfold f_slices_Contains at hF
  refine Ok.intro 9 [(0, .val (kSl K4) a0), (1, .val K4 a1)] Tryd.func28 rfl rfl rfl rfl (fun F0 => ?_)
  obtain ⟨y1, h2, hF⟩ := bsome hF
  refine sr <| Under.bxF (K := kArr 16 K8) rfl rdV rfl <| ag rfl rfl <| ns <| mv rfl rfl <| ov (OpV.ld kt44 rfl) rfl <| Under.call Tryd.call47 rfl rfl (f_slices_Index_ok h2 _) rfl <| bn rfl rfl rfl rfl <| ag rfl rfl <| nt <| rc ?_
  have e3 := osi hF
  subst e3
  exact Under.rets Tryd.results28 (.tm rfl .nil) rfl rfl
/-- churn/window.Has$1 -/
noncomputable def f_window_Has_1 (a0 : Api_Epoch) (a1 : List Int) : Option Bool :=
  (f_slices_Contains a0.Tags a1).bind fun y1 =>
  some y1
theorem f_window_Has_1_ok {a0 : Api_Epoch} {a1 : List Int} {r0 : Bool} (hF : f_window_Has_1 a0 a1 = some r0) (L : List Res) : Ok Tryd.prog 27 [SV.val kApi_Epoch a0, SV.ptr K4 a1] (L) (SV.raw (.bool r0)) (L) := by
  unfold f_window_Has_1 at hF
  refine Ok.intro 8 [(0, .val kApi_Epoch a0), (1, .ptr K4 a1)] Tryd.func27 rfl rfl rfl rfl (fun F0 => ?_)
  obtain ⟨y1, h2, hF⟩ := bsome hF
  refine sr <| Under.bxF (K := kApi_Epoch) rfl rdV rfl <| ag rfl rfl <| ns <| ov (OpV.fd fb79_1 rfl rfl) rfl <| ov (OpV.ld kt77 rfl) rfl <| ov (OpV.ld kt44 rfl) rfl <| Under.call Tryd.call28 rfl rfl (f_slices_Contains_ok h2 _) rfl <| ag rfl rfl <| nt <| rc ?_
  have e3 := osi hF
  subst e3
  exact Under.rets Tryd.results27 (.tm rfl .nil) rfl rfl
/-- slices.IndexFunc[[]churn/api.Epoch,churn/api.Epoch] -/
noncomputable def f_slices_IndexFunc_window_Has_1 (a0 : List Api_Epoch) (a1 : List Int) : Option Int :=
  (((Loop.run (S := Int) (R := (Unit ⊕ Int)) (fun x41 =>
      bif decide (x41 < (a0.length : Int)) then
        (idx a0 x41).bind fun x51 =>
        (f_window_Has_1 x51 a1).bind fun y53 =>
        bif y53 then
          some (.done (.inr x41))
        else
          some (.next (IntKind.wrap .i64 (x41 + 1)))
      else
        some (.done (.inl ()))) 0).bind fun r48 => match r48 with
    | .inl _ =>
      some (.inr ())
    | .inr z =>
      some (.inl z)
    : Option (Int ⊕ Unit))).bind fun r28 => match r28 with
    | .inl z =>
      some z
    | .inr _ =>
      some (-1)
theorem f_slices_IndexFunc_window_Has_1_ok {a0 : List Api_Epoch} {a1 : List Int} {r0 : Int} (hF : f_slices_IndexFunc_window_Has_1 a0 a1 = some r0) (L : List Res) : Ok Tryd.prog 46 [SV.val (kSl kApi_Epoch) a0, SV.fn 27 [.ptr K4 a1]] (L) (SV.raw (.int .i64 r0)) (L) := by
  unfold f_slices_IndexFunc_window_Has_1 at hF
  refine Ok.intro 19 [(0, .val (kSl kApi_Epoch) a0), (1, .fn 27 [.ptr K4 a1])] Tryd.func46 rfl rfl rfl rfl (fun F0 => ?_)
  obtain ⟨r28, h29, hF⟩ := bsome hF
  refine sr <| ag rfl rfl <| nt <| sq <| Under.after (fun X => ∀ (_ : Unit), r28 = (.inr ()) → Under F0 19 [] (L) X) ?_ ?_
  ·intro _ h63
   replace h63 := h63.symm
   subst h63
   refine sr <| ag rfl rfl <| nt <| rc ?_
   have e31 := osi hF
   subst e31
   exact Under.rets Tryd.results46 (.tm rfl .nil) rfl rfl
  ·intro K k30
   obtain ⟨r48, h49, h29⟩ := bsome h29
   refine sr <| mv rfl rfl <| ov (OpV.len Tryd.underlying25 rfl rdV) rfl <| mv rfl rfl <| nt <| bk <| Under.loop (S := Int) (C := Unit) () (fun (x60 : Int) (q61 : Unit) => [(0, .val (kSl kApi_Epoch) a0), (1, .fn 27 [.ptr K4 a1]), (7, .raw (.int .i64 (a0.length : Int))), (8, .raw (.int .i64 x60))]) (fun (x60 : Int) (q61 : Unit) => L) h49 (s4 rfl rfl rfl rfl) rfl (fun x60 q61 o50 h46 d47 => ?_)
   refine sr <| bn rfl rfl rfl rfl <| nt <| sq <| Under.ite h46 rfl (fun h46 => ?_) (fun h46 => ?_)
   ·obtain ⟨x51, h52, h46⟩ := bsome h46
    obtain ⟨y53, h54, h46⟩ := bsome h46
    refine ct <| sq <| bk <| sr <| mv rfl rfl <| ag rfl rfl <| ns <| mv rfl rfl <| mv rfl rfl <| mv rfl rfl <| ov (OpV.ixS h52 Tryd.underlying25 sz79 rfl rdV rfl) rfl <| ov (OpV.ld kt79 rfl) rfl <| Under.callC Tryd.call27 rfl rfl (f_window_Has_1_ok h54 _) rfl <| nt <| Under.ite h46 rfl (fun h46 => ?_) (fun h46 => ?_)
    ·refine sr <| mv rfl rfl <| ag rfl rfl <| nt <| rc <| Under.bR <| tr ?_
     have e55 := done_eq h46 d47
     subst e55
     refine tr <| Under.bR <| tr ?_
     have e56 := osi h29
     subst e56
     have e57 := osi hF
     subst e57
     exact Under.rets Tryd.results46 (.tm rfl .nil) rfl rfl
    ·exact cs <| bN <| tn <| rg <| bn rfl rfl rfl rfl <| mv rfl rfl <| nl <| Under.next _ () h46 (s4 rfl rfl rfl rfl) rfl
   ·refine xt <| te ?_
    have e58 := done_eq h46 d47
    subst e58
    exact te <| bh <| tn <| wk (k30 () (osi h29).symm) (sub_nil _)
/-- slices.ContainsFunc[[]churn/api.Epoch,churn/api.Epoch] -/
noncomputable def f_slices_ContainsFunc_window_Has_1 (a0 : List Api_Epoch) (a1 : List Int) : Option Bool :=
  (f_slices_IndexFunc_window_Has_1 a0 a1).bind fun y1 =>
  some (decide (y1 ≥ 0))
theorem f_slices_ContainsFunc_window_Has_1_ok {a0 : List Api_Epoch} {a1 : List Int} {r0 : Bool} (hF : f_slices_ContainsFunc_window_Has_1 a0 a1 = some r0) (L : List Res) : Ok Tryd.prog 26 [SV.val (kSl kApi_Epoch) a0, SV.fn 27 [.ptr K4 a1]] (L) (SV.raw (.bool r0)) (L) := by
  unfold f_slices_ContainsFunc_window_Has_1 at hF
  refine Ok.intro 9 [(0, .val (kSl kApi_Epoch) a0), (1, .fn 27 [.ptr K4 a1])] Tryd.func26 rfl rfl rfl rfl (fun F0 => ?_)
  obtain ⟨y1, h2, hF⟩ := bsome hF
  refine sr <| ag rfl rfl <| ns <| mv rfl rfl <| mv rfl rfl <| Under.call Tryd.call46 rfl rfl (f_slices_IndexFunc_window_Has_1_ok h2 _) rfl <| bn rfl rfl rfl rfl <| ag rfl rfl <| nt <| rc ?_
  have e3 := osi hF
  subst e3
  exact Under.rets Tryd.results26 (.tm rfl .nil) rfl rfl
/-- churn/window.Has -/
noncomputable def f_window_Has (a0 : Api_Window) (a1 : List Int) : Option Bool :=
  (f_slices_ContainsFunc_window_Has_1 a0.Epochs a1).bind fun y1 =>
  some y1
theorem f_window_Has_ok {a0 : Api_Window} {a1 : List Int} {r0 : Bool} (hF : f_window_Has a0 a1 = some r0) (L : List Res) : Ok Tryd.prog 10 [SV.val kApi_Window a0, SV.val K4 a1] (L) (SV.raw (.bool r0)) (L) := by
  unfold f_window_Has at hF
  refine Ok.intro 9 [(0, .val kApi_Window a0), (1, .val K4 a1)] Tryd.func10 rfl rfl rfl rfl (fun F0 => ?_)
  obtain ⟨y1, h2, hF⟩ := bsome hF
  refine sr <| Under.bxF (K := kApi_Window) rfl rdV rfl <| Under.bxF (K := kArr 16 K8) rfl rdV rfl <| ag rfl rfl <| ns <| ov (OpV.fd fb27_1 rfl rfl) rfl <| ov (OpV.ld kt25 rfl) rfl <| ov (OpV.mkf rfl) rfl <| Under.call Tryd.call26 rfl rfl (f_slices_ContainsFunc_window_Has_1_ok h2 _) rfl <| ag rfl rfl <| nt <| rc ?_
  have e3 := osi hF
  subst e3
  exact Under.rets Tryd.results10 (.tm rfl .nil) rfl rfl
/-- churn/round.Sift -/
noncomputable def f_round_Sift (a0 : Api_Config) (a1 : Api_Window) (a2 : Api_Batch) : Option ((List Api_Peeled) × Api_Report × Int) :=
  (f_round_right a0).bind fun y2 =>
  bif !y2 then
    some ([], (⟨(0 : Int), (0 : Int), (0 : Int), (0 : Int), (0 : Int)⟩ : Api_Report), 210)
  else
    (f_route_Key a0.Master a2.Header.Epoch).bind fun y5 =>
    bif y5.2 != 0 then
      some ([], (⟨(0 : Int), (0 : Int), (0 : Int), (0 : Int), (0 : Int)⟩ : Api_Report), y5.2)
    else
      (((Loop.run (S := ((List Api_Peeled) × Int × Api_Report × (List ((List Int) × Int)))) (R := (Api_Report × (List Api_Peeled))) (fun (x505, x506, x507, x508) =>
          bif decide (x506 < (a2.Cells.length : Int)) then
            (((idx a2.Cells x506).bind fun x633 =>
            (f_onion_Peel y5.1 a0.Left x633).bind fun y635 =>
            ((bif y635.2 != 0 then
              some (.inl ())
            else
              ((bif decide ((mgetD y635.1.Replay x508 (0 : Int)) > 0) then
                some true
              else
                (f_window_Has a1 y635.1.Replay).bind fun y661 =>
                some y661
                : Option Bool)).bind fun x660 =>
              bif x660 then
                some (.inr (x505, ({ x507 with Replays := IntKind.wrap .i64 (x507.Replays + 1) } : Api_Report)))
              else
                (app x505 [y635.1]).bind fun z664 =>
                some (.inr (z664, x507))
              : Option (Unit ⊕ ((List Api_Peeled) × Api_Report)))).bind fun r649 => match r649 with
              | .inl _ =>
                some (x505, ({ x507 with Malformed := IntKind.wrap .i64 (x507.Malformed + 1) } : Api_Report), x508)
              | .inr (x647, x648) =>
                some (x647, x648, mset y635.1.Replay (IntKind.wrap .i64 ((mgetD y635.1.Replay x508 (0 : Int)) + 1)) (mset y635.1.Replay (mgetD y635.1.Replay x508 (0 : Int)) x508))
              : Option ((List Api_Peeled) × Api_Report × (List ((List Int) × Int))))).bind fun r630 => match r630 with
              | (x627, x628, x629) =>
                some (.next (x627, IntKind.wrap .i64 (x506 + 1), x628, x629))
          else
            some (.done (x507, x505))) ([], 0, (⟨(a2.Cells.length : Int), (0 : Int), (0 : Int), (0 : Int), (0 : Int)⟩ : Api_Report), [])).bind fun r590 => match r590 with
        | (x586, x587) =>
          some (x586, x587)
        : Option (Api_Report × (List Api_Peeled)))).bind fun r340 => match r340 with
        | (x338, x339) =>
          some (x339, x338, 0)
theorem f_round_Sift_ok {a0 : Api_Config} {a1 : Api_Window} {a2 : Api_Batch} {r0 : ((List Api_Peeled) × Api_Report × Int)} (hF : f_round_Sift a0 a1 a2 = some r0) (L : List Res) : Ok Tryd.prog 4 [SV.val kApi_Config a0, SV.val kApi_Window a1, SV.val kApi_Batch a2] (L) (SV.tup [SV.val (kSl kApi_Peeled) r0.1, SV.val kApi_Report r0.2.1, SV.raw (.int .i64 r0.2.2)]) (L) := by
  unfold f_round_Sift at hF
  refine Ok.intro 92 [(0, .val kApi_Config a0), (1, .val kApi_Window a1), (2, .val kApi_Batch a2)] Tryd.func4 rfl rfl rfl rfl (fun F0 => ?_)
  obtain ⟨y2, h3, hF⟩ := bsome hF
  refine sr <| Under.bxF (K := kApi_Config) rfl rdV rfl <| Under.bxF (K := kApi_Window) rfl rdV rfl <| Under.bxF (K := kApi_Batch) rfl rdV rfl <| ag rfl rfl <| Under.al ZT37 rfl fun b1 => ag rfl rfl <| nt <| sq <| sr <| ov (OpV.ld kt24 rfl) rfl <| Under.call Tryd.call7 rfl rfl (f_round_right_ok h3 _) rfl <| ov (OpV.not rfl) rfl <| nt <| Under.ite hF rfl (fun hF => ?_) (fun hF => ?_)
  ·refine sr <| ov (OpV.bst BT37 (Bld.nil _)) rfl <| ag rfl rfl <| Under.stP (x' := (⟨(0 : Int), (0 : Int), (0 : Int), (0 : Int), (0 : Int)⟩ : Api_Report)) .box .id sz37_kApi_Report rfl rfl rdV rfl <| ag rfl rfl <| nl <| Under.frz (t := 7) rfl <| tn <| rt <| Under.toV (K := kSl kApi_Peeled) (x := []) (t := 6) rfl rdN ?_
   have e4 := osi hF
   subst e4
   exact Under.rets Tryd.results4 (.tm rfl (.ce rfl kt37 (.tm rfl .nil))) rfl rfl
  ·obtain ⟨y5, h6, hF⟩ := bsome hF
   refine ct <| sr <| ov (OpV.fd fb24_0 rfl rfl) rfl <| ov (OpV.ld kt22 rfl) rfl <| ov (OpV.fd fb32_0 rfl rfl) rfl <| ov (OpV.fd fb29_1 rfl rfl) rfl <| ov (OpV.ldI kt2 rfl) rfl <| Under.call Tryd.call8 rfl rfl (f_route_Key_ok h6 _) rfl <| mv rfl rfl <| ov (OpV.extr rfl rfl) rfl <| ov (OpV.extr rfl rfl) rfl <| ag rfl rfl <| ag rfl rfl <| nt <| sq <| sr <| mv rfl rfl <| bn rfl rfl rfl rfl <| nt <| Under.ite hF rfl (fun hF => ?_) (fun hF => ?_)
   ·refine sr <| ov (OpV.bst BT37 (Bld.nil _)) rfl <| mv rfl rfl <| ag rfl rfl <| Under.stP (x' := (⟨(0 : Int), (0 : Int), (0 : Int), (0 : Int), (0 : Int)⟩ : Api_Report)) .box .id sz37_kApi_Report rfl rfl rdV rfl <| ag rfl rfl <| nl <| Under.frz (t := 7) rfl <| tn <| rt <| Under.toV (K := kSl kApi_Peeled) (x := []) (t := 6) rfl rdN ?_
    have e7 := osi hF
    subst e7
    exact Under.rets Tryd.results4 (.tm rfl (.ce rfl kt37 (.tm rfl .nil))) rfl rfl
   ·obtain ⟨r340, h341, hF⟩ := bsome hF
    refine ct <| sr <| ov (OpV.fd fb32_1 rfl rfl) rfl <| ov (OpV.ld kt30 rfl) rfl <| ov (OpV.len Tryd.underlying30 rfl rdV) rfl <| ov (OpV.bst BT37 (Bld.cons (x' := (⟨(a2.Cells.length : Int), (0 : Int), (0 : Int), (0 : Int), (0 : Int)⟩ : Api_Report)) rfl rfl rdI (by intro q hq; simp only [List.mem_cons, List.not_mem_nil, or_false] at hq; rcases hq with rfl | rfl | rfl | rfl <;> rfl) (Bld.nil _))) rfl <| Under.al ZT37 rfl fun b8 => Under.stP (x' := (⟨(a2.Cells.length : Int), (0 : Int), (0 : Int), (0 : Int), (0 : Int)⟩ : Api_Report)) .box .id sz37_kApi_Report rfl rfl rdV rfl <| ns <| Under.mkm K4 (kInt .i64) rfl fun b9 => ag rfl rfl <| ns <| ag rfl rfl <| nt <| sq <| Under.after (fun X => ∀ (x338 : Api_Report) (x339 : List Api_Peeled), r340 = (x338, x339) → Under F0 92 [(7, .raw (.pointer (some ⟨b1, 0, none⟩))), (11, .ptr kApi_Report x338), (13, .val (kSl kApi_Peeled) x339)] ((.box kApi_Report b1 37 (⟨(0 : Int), (0 : Int), (0 : Int), (0 : Int), (0 : Int)⟩ : Api_Report)) :: L) X) ?_ ?_
    ·intro x338 x339 h675
     replace h675 := h675.symm
     subst h675
     refine sq <| Under.phases rfl <| Under.grpT (L := L) [0, 1, 2] [[13], [11], [90]] [⟨sk0 (.val (kSl kApi_Peeled) x339), [], [], []⟩, ⟨sk0 (.val kApi_Report x338), [], [], []⟩, ⟨sk0 (.val (kSl kApi_Peeled) x339), [], [], []⟩] [] (fun T : List Res => (.box kApi_Report b1 37 (⟨(0 : Int), (0 : Int), (0 : Int), (0 : Int), (0 : Int)⟩ : Api_Report)) :: T) lf1 rfl (by kernel_rfl) rfl rfl (fun F hF0 bs343 => ?_)
     refine Tq.v (fun G T hG => ?_) ?_
     ·exact mv rfl rfl <| Tq.end undef rfl rfl
     refine Tq.v (fun G T hG => ?_) ?_
     ·exact ov (OpV.ld kt37 rfl) rfl <| Tq.end undef rfl rfl
     refine Tq.v (fun G T hG => ?_) ?_
     ·exact ag rfl rfl <| Tq.end undef rfl rfl
     refine Tq.nil <| Under.le hF0 <| Under.p1 3 rfl rfl <| Under.stP (x' := x338) .box .id sz37_kApi_Report rfl rfl rdV rfl <| Under.pn <| Under.p1 4 rfl rfl <| ag rfl rfl <| Under.pn <| Under.pdone rfl <| Under.frz (t := 7) rfl <| tn <| rc ?_
     have e344 := osi hF
     subst e344
     exact Under.rets Tryd.results4 (.tm rfl (.ce rfl kt37 (.tm rfl .nil))) rfl rfl
    ·intro K k342
     obtain ⟨r590, h591, h341⟩ := bsome h341
     refine sr <| ov (OpV.fd fb32_1 rfl rfl) rfl <| ov (OpV.ld kt30 rfl) rfl <| ov (OpV.len Tryd.underlying30 rfl rdV) rfl <| mv rfl rfl <| nt <| bk <| Under.ownNil (K := kApi_Peeled) (e := 46) <| Under.fo1 <| Under.fo2 <| Under.fo3 <| Under.fo3 <| Under.loop (S := ((List Api_Peeled) × Int × Api_Report × (List ((List Int) × Int)))) (C := Value) (.slice none 0 0) (fun (x672 : ((List Api_Peeled) × Int × Api_Report × (List ((List Int) × Int)))) (q673 : Value) => [(3, .ptr kApi_Config a0), (4, .ptr kApi_Window a1), (7, .raw (.pointer (some ⟨b1, 0, none⟩))), (9, .val K6 y5.1), (11, .raw (.pointer (some ⟨b8, 0, none⟩))), (12, .raw (.map (some b9))), (13, .raw q673), (41, .val (kSl K6) a2.Cells), (42, .raw (.int .i64 (a2.Cells.length : Int))), (43, .raw (.int .i64 x672.2.1))]) (fun (x672 : ((List Api_Peeled) × Int × Api_Report × (List ((List Int) × Int)))) (q673 : Value) => (.own kApi_Peeled q673 46 x672.1) :: (.box kApi_Report b1 37 (⟨(0 : Int), (0 : Int), (0 : Int), (0 : Int), (0 : Int)⟩ : Api_Report)) :: (.box kApi_Report b8 37 x672.2.2.1) :: (.mp K4 (kInt .i64) b9 x672.2.2.2) :: L) h591 (s10 rfl rfl rfl rfl rfl rfl rfl rfl rfl rfl) rfl (fun x672 q673 o592 h588 d589 => ?_)
     obtain ⟨x505, x506, x507, x508⟩ := x672
     dsimp only at h588 ⊢
     refine sr <| bn rfl rfl rfl rfl <| nt <| sq <| Under.ite h588 rfl (fun h588 => ?_) (fun h588 => ?_)
     ·obtain ⟨r630, h631, h588⟩ := bsome h588
      refine ct <| sq <| Under.after (fun X => ∀ (x627 : List Api_Peeled) (x628 : Api_Report) (x629 : List ((List Int) × Int)) (v626 : Value), r630 = (x627, x628, x629) → Under F0 92 [(3, .ptr kApi_Config a0), (4, .ptr kApi_Window a1), (7, .raw (.pointer (some ⟨b1, 0, none⟩))), (9, .val K6 y5.1), (11, .raw (.pointer (some ⟨b8, 0, none⟩))), (12, .raw (.map (some b9))), (13, .raw v626), (41, .val (kSl K6) a2.Cells), (42, .raw (.int .i64 (a2.Cells.length : Int))), (43, .raw (.int .i64 x506))] ((.own kApi_Peeled v626 46 x627) :: (.box kApi_Report b1 37 (⟨(0 : Int), (0 : Int), (0 : Int), (0 : Int), (0 : Int)⟩ : Api_Report)) :: (.box kApi_Report b8 37 x628) :: (.mp K4 (kInt .i64) b9 x629) :: L) X) ?_ ?_
      ·intro x627 x628 x629 v626 h669
       replace h669 := h669.symm
       subst h669
       exact rg <| bn rfl rfl rfl rfl <| mv rfl rfl <| nl <| Under.fo3 <| Under.fo3 <| Under.fo3 <| Under.fo3 <| Under.next _ v626 h588 (s10 rfl rfl rfl rfl rfl rfl rfl rfl rfl rfl) rfl
      ·intro K k632
       obtain ⟨x633, h634, h631⟩ := bsome h631
       obtain ⟨y635, h636, h631⟩ := bsome h631
       obtain ⟨r649, h650, h631⟩ := bsome h631
       refine bk <| sr <| ov (OpV.ixS h634 Tryd.underlying30 sz22 rfl rdV rfl) rfl <| ov (OpV.ld kt22 rfl) rfl <| ag rfl rfl <| ns <| mv rfl rfl <| ov (OpV.fd fb24_1 rfl rfl) rfl <| ov (OpV.ldI kt3 rfl) rfl <| mv rfl rfl <| Under.call Tryd.call9 rfl rfl (f_onion_Peel_ok h636 _) rfl <| mv rfl rfl <| ov (OpV.extr rfl rfl) rfl <| ov (OpV.extr rfl rfl) rfl <| Under.al ZT46 rfl fun b637 => Under.stP (x' := y635.1) .box .id sz46_kApi_Peeled rfl rfl rdV rfl <| ag rfl rfl <| nl <| Under.frz (t := 16) rfl <| tn <| sq <| Under.after (fun X => ∀ (x647 : List Api_Peeled) (x648 : Api_Report) (v646 : Value), r649 = (.inr (x647, x648)) → Under F0 92 [(3, .ptr kApi_Config a0), (4, .ptr kApi_Window a1), (7, .raw (.pointer (some ⟨b1, 0, none⟩))), (9, .val K6 y5.1), (11, .raw (.pointer (some ⟨b8, 0, none⟩))), (12, .raw (.map (some b9))), (13, .raw v646), (16, .ptr kApi_Peeled y635.1), (41, .val (kSl K6) a2.Cells), (42, .raw (.int .i64 (a2.Cells.length : Int))), (43, .raw (.int .i64 x506))] ((.own kApi_Peeled v646 46 x647) :: (.box kApi_Report b1 37 (⟨(0 : Int), (0 : Int), (0 : Int), (0 : Int), (0 : Int)⟩ : Api_Report)) :: (.box kApi_Report b8 37 x648) :: (.mp K4 (kInt .i64) b9 x508) :: L) X) ?_ ?_
       ·intro x647 x648 v646 h668
        replace h668 := h668.symm
        subst h668
        refine Under.phases rfl <| Under.fo3 <| Under.fo3 <| Under.fo3 <| Under.fo3 <| Under.grpT (L := L) [0, 1, 2, 5, 3, 4, 6] [[12], [16], [83], [82, 84], [82, 84], [85], [87]] [⟨sk0 (.raw (.map (some b9))), [], [], []⟩, ⟨sk0 (.ptr K4 y635.1.Replay), [], [], []⟩, ⟨sk0 (.val K4 y635.1.Replay), [], [], []⟩, ⟨sk1 3 (fun u3 => .tup [.val (kInt .i64) (mgetD y635.1.Replay x508 (0 : Int)), .raw (.int .i64 (ival u3))]), [0], [(1, tk1 3 (fun u3 => mpS K4 (kInt .i64) b9 (mset y635.1.Replay (mgetD y635.1.Replay x508 (0 : Int)) x508) y635.1.Replay (ival u3)))], []⟩, ⟨sk0 (.raw (.int .i64 (mgetD y635.1.Replay x508 (0 : Int)))), [], [], [0, 1]⟩, ⟨sk0 (.raw (.int .i64 (IntKind.wrap .i64 ((mgetD y635.1.Replay x508 (0 : Int)) + 1)))), [], [], []⟩, ⟨sk1 3 (fun u3 => .raw (.int .i64 (ival u3))), [], [], []⟩] [(0, .mp K4 (kInt .i64) b9 x508)] (fun T : List Res => (.own kApi_Peeled v646 46 x647) :: (.box kApi_Report b1 37 (⟨(0 : Int), (0 : Int), (0 : Int), (0 : Int), (0 : Int)⟩ : Api_Report)) :: (.box kApi_Report b8 37 x648) :: T) lf3 rfl (by kernel_rfl) rfl rfl (fun F hF0 bs652 => ?_)
        refine Tq.v (fun G T hG => ?_) ?_
        ·exact mv rfl rfl <| Under.fo2 <| Under.fo2 <| Under.fo2 <| Tq.end undef rfl rfl
        refine Tq.v (fun G T hG => ?_) ?_
        ·exact ov (OpV.fd fb46_1 rfl rfl) rfl <| Under.fo2 <| Under.fo2 <| Under.fo2 <| Tq.end undef rfl rfl
        refine Tq.v (fun G T hG => ?_) ?_
        ·exact ov (OpV.ld kt44 rfl) rfl <| Under.fo2 <| Under.fo2 <| Under.fo2 <| Tq.end undef rfl rfl
        refine Tq.st (.tup [.val (kInt .i64) (mgetD y635.1.Replay x508 (0 : Int)), .raw (.int .i64 (ival (bs652 3)))]) [.mp K4 (kInt .i64) b9 x508] rfl rfl (fun G T hG => ?_) ?_
        ·exact Under.mpE (Free.arr Free.int) Free.int key44 Tryd.underlying51 ZV3 rfl rfl rdV rfl fun j653 => Under.fo3 <| Under.fo3 <| Under.fo3 <| Under.fo3 <| Tq.end (.int .i64 j653) rfl rfl
        refine Tq.r2 (.raw (.int .i64 (mgetD y635.1.Replay x508 (0 : Int)))) [.mp K4 (kInt .i64) b9 x508] [mpS K4 (kInt .i64) b9 (mset y635.1.Replay (mgetD y635.1.Replay x508 (0 : Int)) x508) y635.1.Replay (ival (bs652 3))] rfl rfl (fun G T hG => ?_) (fun G T hG => ?_) ?_
        ·exact ov (OpV.lkI key44 Tryd.underlying51 ZV3 rfl rfl rdV) rfl <| Under.fo3 <| Under.fo3 <| Under.fo3 <| Under.fo3 <| Tq.end undef rfl rfl
        ·exact ov (OpV.lkS mgetD_mset key44 Tryd.underlying51 ZV3 rfl rfl rdV) rfl <| Under.fo3 <| Under.fo3 <| Under.fo3 <| Under.fo3 <| Tq.end undef rfl rfl
        refine Tq.v (fun G T hG => ?_) ?_
        ·exact bn rfl rfl rfl rfl <| Under.fo2 <| Under.fo2 <| Under.fo2 <| Tq.end undef rfl rfl
        refine Tq.st (.raw (.int .i64 (ival (bs652 3)))) [] rfl rfl (fun G T hG => ?_) ?_
        ·exact ov (OpV.extr rfl rfl) rfl <| Under.fo2 <| Under.fo2 <| Under.fo2 <| Tq.end undef rfl rfl
        exact Tq.nil <| Under.le hF0 <| Under.p1 7 rfl rfl <| Under.fo3 <| Under.mpP rfl rfl rfl rdI <| Under.pn <| Under.pdone rfl <| bN <| tn <| Under.fo3 <| Under.fo3 <| Under.fo3 <| wk (k632 _ _ _ _ (osi h631).symm) (s10 rfl rfl rfl rfl rfl rfl rfl rfl rfl rfl)
       ·intro K k651
        refine bk <| sr <| mv rfl rfl <| bn rfl rfl rfl rfl <| ag rfl rfl <| nt <| Under.ite h650 rfl (fun h650 => ?_) (fun h650 => ?_)
        ·refine sr <| ov (OpV.fdM fm37_1 rfl) rfl <| Under.fo2 <| Under.ldP .box (.fld .id uf_Api_Report_1) kt3_kInt_i64 rfl rfl <| Under.rawI (t := 63) rfl <| bn rfl rfl rfl rfl <| ov (OpV.fdM fm37_1 rfl) rfl <| Under.stP (x' := ({ x507 with Malformed := IntKind.wrap .i64 (x507.Malformed + 1) } : Api_Report)) .box (.fld .id uf_Api_Report_1) sz3_kInt_i64 rfl rfl rdI rfl <| nt <| xt <| bm rfl ?_
         have e656 := osi h650
         subst e656
         exact te <| bh <| tn <| Under.fo3 <| Under.fo1 <| Under.fo3 <| Under.fo3 <| wk (k632 _ _ _ _ (osi h631).symm) (s10 rfl rfl rfl rfl rfl rfl rfl rfl rfl rfl)
        ·obtain ⟨x660, h659, h650⟩ := bsome h650
         refine sr <| mv rfl rfl <| ov (OpV.fd fb46_1 rfl rfl) rfl <| ov (OpV.ld kt44 rfl) rfl <| Under.fo3 <| ov (OpV.lkI key44 Tryd.underlying51 ZV3 rfl rfl rdV) rfl <| bn rfl rfl rfl rfl <| mv rfl rfl <| runj_5 77 x660 ?_ (fun k => ?_)
         ·refine ag rfl rfl <| nt <| Under.ite h650 rfl (fun h650 => ?_) (fun h650 => ?_)
          ·exact rg <| ov (OpV.fdM fm37_2 rfl) rfl <| Under.fo3 <| Under.ldP .box (.fld .id uf_Api_Report_2) kt3_kInt_i64 rfl rfl <| Under.rawI (t := 79) rfl <| bn rfl rfl rfl rfl <| ov (OpV.fdM fm37_2 rfl) rfl <| Under.stP (x' := ({ x507 with Replays := IntKind.wrap .i64 (x507.Replays + 1) } : Api_Report)) .box (.fld .id uf_Api_Report_2) sz3_kInt_i64 rfl rfl rdI rfl <| nl <| bN <| tn <| Under.fo1 <| Under.fo1 <| Under.fo3 <| Under.fo3 <| wk (k651 _ _ _ (osi h650).symm) (s11 rfl rfl rfl rfl rfl rfl rfl rfl rfl rfl rfl)
          ·obtain ⟨z664, h665, h650⟩ := bsome h650
           exact rg <| mv rfl rfl <| ov (OpV.ld kt46 rfl) rfl <| Under.bsF (ys := [y635.1]) Tryd.underlying35 ET46 (BldA.cons rfl rfl rdV (BldA.nil _)) rfl rfl <| Under.fo1 <| Under.app h665 Tryd.underlying35 AT46 rfl rfl rdV rfl fun v666 => ag rfl rfl <| nl <| bN <| tn <| Under.fo1 <| Under.fo3 <| Under.fo3 <| Under.fo3 <| wk (k651 _ _ _ (osi h650).symm) (s11 rfl rfl rfl rfl rfl rfl rfl rfl rfl rfl rfl)
         ·refine by_ (t := 72) rfl (fun c658 => ?_) (fun c658 => ?_)
          ·replace h659 := ctrue c658 h659
           exact sk c658 rfl rfl rfl <| sk c658 rfl rfl rfl <| sk c658 rfl rfl rfl <| sk c658 rfl rfl rfl <| ov (pkT c658 rfl rfl) rfl <| rf 4 (rbq h659) rfl k
          ·replace h659 := cfalse c658 h659
           obtain ⟨y661, h662, h659⟩ := bsome h659
           exact gc c658 rfl rfl <| ov (OpV.ld kt27 rfl) rfl <| gc c658 rfl rfl <| ov (OpV.fd fb46_1 rfl rfl) rfl <| gc c658 rfl rfl <| ov (OpV.ld kt44 rfl) rfl <| gc c658 rfl rfl <| Under.call Tryd.call10 rfl rfl (f_window_Has_ok h662 _) rfl <| ov (pkF c658 rfl rfl) rfl <| rf 4 (rbq h659) rfl k
     ·refine Under.fo2 <| Under.frz (t := 11) rfl <| Under.frzO (t := 13) rfl <| Under.fo1 <| dr <| xt <| te ?_
      have e670 := done_eq h588 d589
      subst e670
      exact te <| bh <| tn <| wk (k342 _ _ (osi h341).symm) (s3 rfl rfl rfl)
/-- churn/churnref21.within -/
noncomputable def f_churnref21_within (a0 : Int) (a1 : Int) (a2 : Int) : Option Bool :=
  some ((decide (a0 ≥ a1)) && (decide (a0 ≤ a2)))
theorem f_churnref21_within_ok {a0 : Int} {a1 : Int} {a2 : Int} {r0 : Bool} (hF : f_churnref21_within a0 a1 a2 = some r0) (L : List Res) : Ok Tryd.prog 29 [SV.raw (.int .i64 a0), SV.raw (.int .i64 a1), SV.raw (.int .i64 a2)] (L) (SV.raw (.bool r0)) (L) := by
  unfold f_churnref21_within at hF
  refine Ok.intro 15 [(0, .raw (.int .i64 a0)), (1, .raw (.int .i64 a1)), (2, .raw (.int .i64 a2))] Tryd.func29 rfl rfl rfl rfl (fun F0 => ?_)
  refine sr <| ag rfl rfl <| ns <| mv rfl rfl <| mv rfl rfl <| bn rfl rfl rfl rfl <| mv rfl rfl <| runj_4 14 ((decide (a0 ≥ a1)) && (decide (a0 ≤ a2))) ?_ (fun k => ?_)
  ·refine ag rfl rfl <| nt <| rc ?_
   have e4 := osi hF
   subst e4
   exact Under.rets Tryd.results29 (.tm rfl .nil) rfl rfl
  ·refine by_ (t := 10) rfl (fun c1 => ?_) (fun c1 => ?_)
   ·exact gc c1 rfl rfl <| mv rfl rfl <| gc c1 rfl rfl <| mv rfl rfl <| gc c1 rfl rfl <| bn rfl rfl rfl rfl <| ov (pkT c1 rfl rfl) rfl <| rf 3 (and_t c1) rfl k
   ·exact sk c1 rfl rfl rfl <| sk c1 rfl rfl rfl <| sk c1 rfl rfl rfl <| ov (pkF c1 rfl rfl) rfl <| rf 3 (and_f (e := decide (a0 ≤ a2)) c1) rfl k
/-- churn/churnref21.Right -/
noncomputable def f_churnref21_Right (a0 : Api_Config) : Option Bool :=
  ((bif (a0.Master.length : Int) == 32 then
    (f_churnref21_within a0.Left 1 8).bind fun y4 =>
    some y4
  else
    some false
    : Option Bool)).bind fun x3 =>
  ((bif x3 then
    (f_churnref21_within a0.Span 1 8).bind fun y9 =>
    some y9
  else
    some false
    : Option Bool)).bind fun x8 =>
  ((bif x8 then
    (f_churnref21_within a0.Room 0 4096).bind fun y14 =>
    some y14
  else
    some false
    : Option Bool)).bind fun x13 =>
  ((bif x13 then
    (f_churnref21_within a0.Den 1 1000).bind fun y19 =>
    some y19
  else
    some false
    : Option Bool)).bind fun x18 =>
  ((bif x18 then
    (f_churnref21_within a0.Num 0 a0.Den).bind fun y24 =>
    some y24
  else
    some false
    : Option Bool)).bind fun x23 =>
  ((bif x23 then
    (f_churnref21_within a0.Noise 0 16).bind fun y29 =>
    some y29
  else
    some false
    : Option Bool)).bind fun x28 =>
  ((bif x28 then
    (f_churnref21_within a0.Chunks 1 64).bind fun y34 =>
    some y34
  else
    some false
    : Option Bool)).bind fun x33 =>
  ((bif x33 then
    (f_churnref21_within a0.Workers 1 64).bind fun y39 =>
    some y39
  else
    some false
    : Option Bool)).bind fun x38 =>
  ((bif x38 then
    (f_churnref21_within a0.Cap 0 1024).bind fun y44 =>
    some y44
  else
    some false
    : Option Bool)).bind fun x43 =>
  ((bif x43 then
    (f_churnref21_within a0.Shards 1 64).bind fun y49 =>
    some y49
  else
    some false
    : Option Bool)).bind fun x48 =>
  some x48
theorem f_churnref21_Right_ok {a0 : Api_Config} {r0 : Bool} (hF : f_churnref21_Right a0 = some r0) (L : List Res) : Ok Tryd.prog 11 [SV.val kApi_Config a0] (L) (SV.raw (.bool r0)) (L) := by
  unfold f_churnref21_Right at hF
  refine Ok.intro 59 [(0, .val kApi_Config a0)] Tryd.func11 rfl rfl rfl rfl (fun F0 => ?_)
  obtain ⟨x3, h2, hF⟩ := bsome hF
  refine sr <| Under.bxF (K := kApi_Config) rfl rdV rfl <| ag rfl rfl <| ns <| ov (OpV.fd fb24_0 rfl rfl) rfl <| ov (OpV.ld kt22 rfl) rfl <| ov (OpV.len Tryd.underlying22 rfl rdV) rfl <| bn rfl rfl rfl rfl <| mv rfl rfl <| runj_4 11 x3 ?_ (fun k => ?_)
  ·obtain ⟨x8, h7, hF⟩ := bsome hF
   refine mv rfl rfl <| runj_4 16 x8 ?_ (fun k => ?_)
   ·obtain ⟨x13, h12, hF⟩ := bsome hF
    refine mv rfl rfl <| runj_4 21 x13 ?_ (fun k => ?_)
    ·obtain ⟨x18, h17, hF⟩ := bsome hF
     refine mv rfl rfl <| runj_4 26 x18 ?_ (fun k => ?_)
     ·obtain ⟨x23, h22, hF⟩ := bsome hF
      refine mv rfl rfl <| runj_6 33 x23 ?_ (fun k => ?_)
      ·obtain ⟨x28, h27, hF⟩ := bsome hF
       refine mv rfl rfl <| runj_4 38 x28 ?_ (fun k => ?_)
       ·obtain ⟨x33, h32, hF⟩ := bsome hF
        refine mv rfl rfl <| runj_4 43 x33 ?_ (fun k => ?_)
        ·obtain ⟨x38, h37, hF⟩ := bsome hF
         refine mv rfl rfl <| runj_4 48 x38 ?_ (fun k => ?_)
         ·obtain ⟨x43, h42, hF⟩ := bsome hF
          refine mv rfl rfl <| runj_4 53 x43 ?_ (fun k => ?_)
          ·obtain ⟨x48, h47, hF⟩ := bsome hF
           refine mv rfl rfl <| runj_4 58 x48 ?_ (fun k => ?_)
           ·refine ag rfl rfl <| nt <| rc ?_
            have e51 := osi hF
            subst e51
            exact Under.rets Tryd.results11 (.tm rfl .nil) rfl rfl
           ·refine by_ (t := 54) rfl (fun c46 => ?_) (fun c46 => ?_)
            ·replace h47 := ctrue c46 h47
             obtain ⟨y49, h50, h47⟩ := bsome h47
             exact gc c46 rfl rfl <| ov (OpV.fd fb24_10 rfl rfl) rfl <| gc c46 rfl rfl <| ov (OpV.ldI kt3 rfl) rfl <| gc c46 rfl rfl <| Under.call Tryd.call29 rfl rfl (f_churnref21_within_ok h50 _) rfl <| ov (pkT c46 rfl rfl) rfl <| rf 3 (rbq h47) rfl k
            ·replace h47 := cfalse c46 h47
             exact sk c46 rfl rfl rfl <| sk c46 rfl rfl rfl <| sk c46 rfl rfl rfl <| ov (pkF c46 rfl rfl) rfl <| rf 3 (rbq h47) rfl k
          ·refine by_ (t := 49) rfl (fun c41 => ?_) (fun c41 => ?_)
           ·replace h42 := ctrue c41 h42
            obtain ⟨y44, h45, h42⟩ := bsome h42
            exact gc c41 rfl rfl <| ov (OpV.fd fb24_9 rfl rfl) rfl <| gc c41 rfl rfl <| ov (OpV.ldI kt3 rfl) rfl <| gc c41 rfl rfl <| Under.call Tryd.call29 rfl rfl (f_churnref21_within_ok h45 _) rfl <| ov (pkT c41 rfl rfl) rfl <| rf 3 (rbq h42) rfl k
           ·replace h42 := cfalse c41 h42
            exact sk c41 rfl rfl rfl <| sk c41 rfl rfl rfl <| sk c41 rfl rfl rfl <| ov (pkF c41 rfl rfl) rfl <| rf 3 (rbq h42) rfl k
         ·refine by_ (t := 44) rfl (fun c36 => ?_) (fun c36 => ?_)
          ·replace h37 := ctrue c36 h37
           obtain ⟨y39, h40, h37⟩ := bsome h37
           exact gc c36 rfl rfl <| ov (OpV.fd fb24_8 rfl rfl) rfl <| gc c36 rfl rfl <| ov (OpV.ldI kt3 rfl) rfl <| gc c36 rfl rfl <| Under.call Tryd.call29 rfl rfl (f_churnref21_within_ok h40 _) rfl <| ov (pkT c36 rfl rfl) rfl <| rf 3 (rbq h37) rfl k
          ·replace h37 := cfalse c36 h37
           exact sk c36 rfl rfl rfl <| sk c36 rfl rfl rfl <| sk c36 rfl rfl rfl <| ov (pkF c36 rfl rfl) rfl <| rf 3 (rbq h37) rfl k
        ·refine by_ (t := 39) rfl (fun c31 => ?_) (fun c31 => ?_)
         ·replace h32 := ctrue c31 h32
          obtain ⟨y34, h35, h32⟩ := bsome h32
          exact gc c31 rfl rfl <| ov (OpV.fd fb24_7 rfl rfl) rfl <| gc c31 rfl rfl <| ov (OpV.ldI kt3 rfl) rfl <| gc c31 rfl rfl <| Under.call Tryd.call29 rfl rfl (f_churnref21_within_ok h35 _) rfl <| ov (pkT c31 rfl rfl) rfl <| rf 3 (rbq h32) rfl k
         ·replace h32 := cfalse c31 h32
          exact sk c31 rfl rfl rfl <| sk c31 rfl rfl rfl <| sk c31 rfl rfl rfl <| ov (pkF c31 rfl rfl) rfl <| rf 3 (rbq h32) rfl k
       ·refine by_ (t := 34) rfl (fun c26 => ?_) (fun c26 => ?_)
        ·replace h27 := ctrue c26 h27
         obtain ⟨y29, h30, h27⟩ := bsome h27
         exact gc c26 rfl rfl <| ov (OpV.fd fb24_6 rfl rfl) rfl <| gc c26 rfl rfl <| ov (OpV.ldI kt3 rfl) rfl <| gc c26 rfl rfl <| Under.call Tryd.call29 rfl rfl (f_churnref21_within_ok h30 _) rfl <| ov (pkT c26 rfl rfl) rfl <| rf 3 (rbq h27) rfl k
        ·replace h27 := cfalse c26 h27
         exact sk c26 rfl rfl rfl <| sk c26 rfl rfl rfl <| sk c26 rfl rfl rfl <| ov (pkF c26 rfl rfl) rfl <| rf 3 (rbq h27) rfl k
      ·refine by_ (t := 27) rfl (fun c21 => ?_) (fun c21 => ?_)
       ·replace h22 := ctrue c21 h22
        obtain ⟨y24, h25, h22⟩ := bsome h22
        exact gc c21 rfl rfl <| ov (OpV.fd fb24_4 rfl rfl) rfl <| gc c21 rfl rfl <| ov (OpV.ldI kt3 rfl) rfl <| gc c21 rfl rfl <| ov (OpV.fd fb24_5 rfl rfl) rfl <| gc c21 rfl rfl <| ov (OpV.ldI kt3 rfl) rfl <| gc c21 rfl rfl <| Under.call Tryd.call29 rfl rfl (f_churnref21_within_ok h25 _) rfl <| ov (pkT c21 rfl rfl) rfl <| rf 5 (rbq h22) rfl k
       ·replace h22 := cfalse c21 h22
        exact sk c21 rfl rfl rfl <| sk c21 rfl rfl rfl <| sk c21 rfl rfl rfl <| sk c21 rfl rfl rfl <| sk c21 rfl rfl rfl <| ov (pkF c21 rfl rfl) rfl <| rf 5 (rbq h22) rfl k
     ·refine by_ (t := 22) rfl (fun c16 => ?_) (fun c16 => ?_)
      ·replace h17 := ctrue c16 h17
       obtain ⟨y19, h20, h17⟩ := bsome h17
       exact gc c16 rfl rfl <| ov (OpV.fd fb24_5 rfl rfl) rfl <| gc c16 rfl rfl <| ov (OpV.ldI kt3 rfl) rfl <| gc c16 rfl rfl <| Under.call Tryd.call29 rfl rfl (f_churnref21_within_ok h20 _) rfl <| ov (pkT c16 rfl rfl) rfl <| rf 3 (rbq h17) rfl k
      ·replace h17 := cfalse c16 h17
       exact sk c16 rfl rfl rfl <| sk c16 rfl rfl rfl <| sk c16 rfl rfl rfl <| ov (pkF c16 rfl rfl) rfl <| rf 3 (rbq h17) rfl k
    ·refine by_ (t := 17) rfl (fun c11 => ?_) (fun c11 => ?_)
     ·replace h12 := ctrue c11 h12
      obtain ⟨y14, h15, h12⟩ := bsome h12
      exact gc c11 rfl rfl <| ov (OpV.fd fb24_3 rfl rfl) rfl <| gc c11 rfl rfl <| ov (OpV.ldI kt3 rfl) rfl <| gc c11 rfl rfl <| Under.call Tryd.call29 rfl rfl (f_churnref21_within_ok h15 _) rfl <| ov (pkT c11 rfl rfl) rfl <| rf 3 (rbq h12) rfl k
     ·replace h12 := cfalse c11 h12
      exact sk c11 rfl rfl rfl <| sk c11 rfl rfl rfl <| sk c11 rfl rfl rfl <| ov (pkF c11 rfl rfl) rfl <| rf 3 (rbq h12) rfl k
   ·refine by_ (t := 12) rfl (fun c6 => ?_) (fun c6 => ?_)
    ·replace h7 := ctrue c6 h7
     obtain ⟨y9, h10, h7⟩ := bsome h7
     exact gc c6 rfl rfl <| ov (OpV.fd fb24_2 rfl rfl) rfl <| gc c6 rfl rfl <| ov (OpV.ldI kt3 rfl) rfl <| gc c6 rfl rfl <| Under.call Tryd.call29 rfl rfl (f_churnref21_within_ok h10 _) rfl <| ov (pkT c6 rfl rfl) rfl <| rf 3 (rbq h7) rfl k
    ·replace h7 := cfalse c6 h7
     exact sk c6 rfl rfl rfl <| sk c6 rfl rfl rfl <| sk c6 rfl rfl rfl <| ov (pkF c6 rfl rfl) rfl <| rf 3 (rbq h7) rfl k
  ·refine by_ (t := 7) rfl (fun c1 => ?_) (fun c1 => ?_)
   ·replace h2 := ctrue c1 h2
    obtain ⟨y4, h5, h2⟩ := bsome h2
    exact gc c1 rfl rfl <| ov (OpV.fd fb24_1 rfl rfl) rfl <| gc c1 rfl rfl <| ov (OpV.ldI kt3 rfl) rfl <| gc c1 rfl rfl <| Under.call Tryd.call29 rfl rfl (f_churnref21_within_ok h5 _) rfl <| ov (pkT c1 rfl rfl) rfl <| rf 3 (rbq h2) rfl k
   ·replace h2 := cfalse c1 h2
    exact sk c1 rfl rfl rfl <| sk c1 rfl rfl rfl <| sk c1 rfl rfl rfl <| ov (pkF c1 rfl rfl) rfl <| rf 3 (rbq h2) rfl k
/-- churn/churnref01.thirds -/
noncomputable def f_churnref01_thirds  : Option (List Int) :=
  some [1116352408, 1899447441, 3049323471, 3921009573, 961987163, 1508970993, 2453635748, 2870763221, 3624381080, 310598401, 607225278, 1426881987, 1925078388, 2162078206, 2614888103, 3248222580, 3835390401, 4022224774, 264347078, 604807628, 770255983, 1249150122, 1555081692, 1996064986, 2554220882, 2821834349, 2952996808, 3210313671, 3336571891, 3584528711, 113926993, 338241895, 666307205, 773529912, 1294757372, 1396182291, 1695183700, 1986661051, 2177026350, 2456956037, 2730485921, 2820302411, 3259730800, 3345764771, 3516065817, 3600352804, 4094571909, 275423344, 430227734, 506948616, 659060556, 883997877, 958139571, 1322822218, 1537002063, 1747873779, 1955562222, 2024104815, 2227730452, 2361852424, 2428436474, 2756734187, 3204031479, 3329325298]
theorem f_churnref01_thirds_ok  {r0 : (List Int)} (hF : f_churnref01_thirds = some r0) (L : List Res) : Ok Tryd.prog 83 [] (L) (SV.val K0 r0) (L) := by
  unfold f_churnref01_thirds at hF
  refine Ok.intro 2 [] Tryd.func83 rfl rfl rfl rfl (fun F0 => ?_)
  refine sr <| Under.al ZT136 rfl fun b1 => ns <| ov (OpV.bar (ys := [1116352408, 1899447441, 3049323471, 3921009573, 961987163, 1508970993, 2453635748, 2870763221, 3624381080, 310598401, 607225278, 1426881987, 1925078388, 2162078206, 2614888103, 3248222580, 3835390401, 4022224774, 264347078, 604807628, 770255983, 1249150122, 1555081692, 1996064986, 2554220882, 2821834349, 2952996808, 3210313671, 3336571891, 3584528711, 113926993, 338241895, 666307205, 773529912, 1294757372, 1396182291, 1695183700, 1986661051, 2177026350, 2456956037, 2730485921, 2820302411, 3259730800, 3345764771, 3516065817, 3600352804, 4094571909, 275423344, 430227734, 506948616, 659060556, 883997877, 958139571, 1322822218, 1537002063, 1747873779, 1955562222, 2024104815, 2227730452, 2361852424, 2428436474, 2756734187, 3204031479, 3329325298]) BTA136 (BldA.cons rfl rfl rdI (BldA.cons rfl rfl rdI (BldA.cons rfl rfl rdI (BldA.cons rfl rfl rdI (BldA.cons rfl rfl rdI (BldA.cons rfl rfl rdI (BldA.cons rfl rfl rdI (BldA.cons rfl rfl rdI (BldA.cons rfl rfl rdI (BldA.cons rfl rfl rdI (BldA.cons rfl rfl rdI (BldA.cons rfl rfl rdI (BldA.cons rfl rfl rdI (BldA.cons rfl rfl rdI (BldA.cons rfl rfl rdI (BldA.cons rfl rfl rdI (BldA.cons rfl rfl rdI (BldA.cons rfl rfl rdI (BldA.cons rfl rfl rdI (BldA.cons rfl rfl rdI (BldA.cons rfl rfl rdI (BldA.cons rfl rfl rdI (BldA.cons rfl rfl rdI (BldA.cons rfl rfl rdI (BldA.cons rfl rfl rdI (BldA.cons rfl rfl rdI (BldA.cons rfl rfl rdI (BldA.cons rfl rfl rdI (BldA.cons rfl rfl rdI (BldA.cons rfl rfl rdI (BldA.cons rfl rfl rdI (BldA.cons rfl rfl rdI (BldA.cons rfl rfl rdI (BldA.cons rfl rfl rdI (BldA.cons rfl rfl rdI (BldA.cons rfl rfl rdI (BldA.cons rfl rfl rdI (BldA.cons rfl rfl rdI (BldA.cons rfl rfl rdI (BldA.cons rfl rfl rdI (BldA.cons rfl rfl rdI (BldA.cons rfl rfl rdI (BldA.cons rfl rfl rdI (BldA.cons rfl rfl rdI (BldA.cons rfl rfl rdI (BldA.cons rfl rfl rdI (BldA.cons rfl rfl rdI (BldA.cons rfl rfl rdI (BldA.cons rfl rfl rdI (BldA.cons rfl rfl rdI (BldA.cons rfl rfl rdI (BldA.cons rfl rfl rdI (BldA.cons rfl rfl rdI (BldA.cons rfl rfl rdI (BldA.cons rfl rfl rdI (BldA.cons rfl rfl rdI (BldA.cons rfl rfl rdI (BldA.cons rfl rfl rdI (BldA.cons rfl rfl rdI (BldA.cons rfl rfl rdI (BldA.cons rfl rfl rdI (BldA.cons rfl rfl rdI (BldA.cons rfl rfl rdI (BldA.cons rfl rfl rdI (BldA.nil _)))))))))))))))))))))))))))))))))))))))))))))))))))))))))))))))))) rfl <| Under.stP (x' := [1116352408, 1899447441, 3049323471, 3921009573, 961987163, 1508970993, 2453635748, 2870763221, 3624381080, 310598401, 607225278, 1426881987, 1925078388, 2162078206, 2614888103, 3248222580, 3835390401, 4022224774, 264347078, 604807628, 770255983, 1249150122, 1555081692, 1996064986, 2554220882, 2821834349, 2952996808, 3210313671, 3336571891, 3584528711, 113926993, 338241895, 666307205, 773529912, 1294757372, 1396182291, 1695183700, 1986661051, 2177026350, 2456956037, 2730485921, 2820302411, 3259730800, 3345764771, 3516065817, 3600352804, 4094571909, 275423344, 430227734, 506948616, 659060556, 883997877, 958139571, 1322822218, 1537002063, 1747873779, 1955562222, 2024104815, 2227730452, 2361852424, 2428436474, 2756734187, 3204031479, 3329325298]) .box .id sz136_kArr_64_kInt_u32_ rfl rfl rdV rfl <| nl <| Under.frz (t := 0) rfl <| tn <| rc ?_
  have e2 := osi hF
  subst e2
  exact Under.rets Tryd.results83 (.ce rfl kt136 .nil) rfl rfl
/-- churn/churnref01.padded -/
noncomputable def f_churnref01_padded (a0 : List Int) : Option (List Int) :=
  bif mkB 0 (IntKind.wrap .i64 ((a0.length : Int) + 72)) then
  (app (List.replicate (Int.toNat 0) (0 : Int)) a0).bind fun z4 =>
  (app z4 [128]).bind fun z7 =>
  (((Loop.run (S := (List Int)) (R := (List Int)) (fun x120 =>
      bif (Int.tmod (x120.length : Int) 64) != 56 then
        (app x120 [0]).bind fun z131 =>
        some (.next z131)
      else
        some (.done x120)) z7).bind fun x125 =>
  some x125
    : Option (List Int))).bind fun x37 =>
  (((Loop.run (S := ((List Int) × Int)) (R := (List Int)) (fun (x89, x90) =>
      bif decide (x90 < 8) then
        bif decide (0 ≤ (IntKind.wrap .i64 (56 - (IntKind.wrap .i64 (8 * x90))))) then
        (app x89 [IntKind.wrap .u8 (shrI .u64 (IntKind.wrap .u64 ((IntKind.wrap .u64 (a0.length : Int)) * 8)) (IntKind.wrap .i64 (56 - (IntKind.wrap .i64 (8 * x90)))))]).bind fun z102 =>
        some (.next (z102, IntKind.wrap .i64 (x90 + 1)))
        else none
      else
        some (.done x89)) (x37, 0)).bind fun x95 =>
  some x95
    : Option (List Int))).bind fun x72 =>
  some x72
  else none
theorem f_churnref01_padded_ok {a0 : List Int} {r0 : (List Int)} (hF : f_churnref01_padded a0 = some r0) (L : List Res) : Ok Tryd.prog 84 [SV.val K6 a0] (L) (SV.val K6 r0) (L) := by
  unfold f_churnref01_padded at hF
  refine Ok.intro 41 [(0, .val K6 a0)] Tryd.func84 rfl rfl rfl rfl (fun F0 => ?_)
  obtain ⟨h2, hF⟩ := gsome hF
  obtain ⟨z4, h5, hF⟩ := bsome hF
  obtain ⟨z7, h8, hF⟩ := bsome hF
  obtain ⟨r38, h39, hF⟩ := bsome hF
  refine sr <| ag rfl rfl <| ns <| mv rfl rfl <| ov (OpV.len Tryd.underlying22 rfl rdV) rfl <| bn rfl rfl rfl rfl <| Under.mk h2 Tryd.underlying22 AT5 rfl rfl rfl fun v1 => ag rfl rfl <| ns <| mv rfl rfl <| mv rfl rfl <| Under.app h5 Tryd.underlying22 AT5 rfl rfl rdV rfl fun v6 => ag rfl rfl <| ns <| mv rfl rfl <| Under.bsF (ys := [128]) Tryd.underlying22 ET5 (BldA.cons rfl rfl rdI (BldA.nil _)) rfl rfl <| Under.app h8 Tryd.underlying22 AT5 rfl rfl rdV rfl fun v9 => ag rfl rfl <| nt <| sq <| Under.after (fun X => ∀ (x37 : List Int) (v36 : Value), r38 = x37 → Under F0 41 [(0, .val K6 a0), (3, .raw v36)] ((.own K8 v36 5 x37) :: L) X) ?_ ?_
  ·intro x37 v36 h139
   replace h139 := h139.symm
   subst h139
   obtain ⟨r73, h74, hF⟩ := bsome hF
   refine sr <| mv rfl rfl <| ov (OpV.len Tryd.underlying22 rfl rdV) rfl <| ov (OpV.conv (by kernel_rfl) Tryd.underlying101 rfl) rfl <| bn rfl rfl rfl rfl <| ag rfl rfl <| nt <| sq <| Under.after (fun X => ∀ (x72 : List Int), r73 = x72 → Under F0 41 [(3, .val K6 x72)] (L) X) ?_ ?_
   ·intro x72 h110
    replace h110 := h110.symm
    subst h110
    refine sr <| mv rfl rfl <| ag rfl rfl <| nt <| rc ?_
    have e76 := osi hF
    subst e76
    exact Under.rets Tryd.results84 (.tm rfl .nil) rfl rfl
   ·intro K k75
    obtain ⟨r98, h99, h74⟩ := bsome h74
    refine sr <| ag rfl rfl <| nt <| bk <| Under.loop (S := ((List Int) × Int)) (C := Value) v36 (fun (x107 : ((List Int) × Int)) (q108 : Value) => [(3, .raw q108), (4, .raw (.int .u64 (IntKind.wrap .u64 ((IntKind.wrap .u64 (a0.length : Int)) * 8)))), (5, .raw (.int .i64 x107.2))]) (fun (x107 : ((List Int) × Int)) (q108 : Value) => (.own K8 q108 5 x107.1) :: L) h99 (s3 rfl rfl rfl) rfl (fun x107 q108 o100 h96 d97 => ?_)
    obtain ⟨x89, x90⟩ := x107
    dsimp only at h96 ⊢
    refine sq <| sr <| mv rfl rfl <| bn rfl rfl rfl rfl <| nt <| Under.ite h96 rfl (fun h96 => ?_) (fun h96 => ?_)
    ·obtain ⟨h101, h96⟩ := gsome h96
     obtain ⟨z102, h103, h96⟩ := bsome h96
     exact ct <| sq <| bk <| rg <| mv rfl rfl <| mv rfl rfl <| mv rfl rfl <| bn rfl rfl rfl rfl <| bn rfl rfl rfl rfl <| ov (OpV.sh rfl rfl (of_decide_eq_true h101) rfl) rfl <| ov (OpV.conv (by kernel_rfl) Tryd.underlying5 rfl) rfl <| Under.bsF (ys := [IntKind.wrap .u8 (shrI .u64 (IntKind.wrap .u64 ((IntKind.wrap .u64 (a0.length : Int)) * 8)) (IntKind.wrap .i64 (56 - (IntKind.wrap .i64 (8 * x90)))))]) Tryd.underlying22 ET5 (BldA.cons rfl rfl rdI (BldA.nil _)) rfl rfl <| Under.app h103 Tryd.underlying22 AT5 rfl rfl rdV rfl fun v104 => ag rfl rfl <| nl <| bN <| tn <| rg <| mv rfl rfl <| bn rfl rfl rfl rfl <| ag rfl rfl <| nl <| Under.next _ v104 h96 (s3 rfl rfl rfl) rfl
    ·refine Under.frzO (t := 3) rfl <| xt <| te ?_
     have e105 := done_eq h96 d97
     subst e105
     exact te <| bh <| tn <| wk (k75 _ (osi h74).symm) (s1 rfl)
  ·intro K k40
   obtain ⟨r128, h129, h39⟩ := bsome h39
   refine bk <| Under.loop (S := (List Int)) (C := Value) v9 (fun (x136 : (List Int)) (q137 : Value) => [(0, .val K6 a0), (3, .raw q137)]) (fun (x136 : (List Int)) (q137 : Value) => (.own K8 q137 5 x136) :: L) h129 (s2 rfl rfl) rfl (fun x136 q137 o130 h126 d127 => ?_)
   refine sq <| sr <| mv rfl rfl <| ov (OpV.lenO Tryd.underlying22 rfl) rfl <| ov (OpV.quo rfl rfl (by decide) rfl) rfl <| bn rfl rfl rfl rfl <| nt <| Under.ite h126 rfl (fun h126 => ?_) (fun h126 => ?_)
   ·obtain ⟨z131, h132, h126⟩ := bsome h126
    exact ct <| bk <| rg <| mv rfl rfl <| Under.bsF (ys := [0]) Tryd.underlying22 ET5 (BldA.cons rfl rfl rdI (BldA.nil _)) rfl rfl <| Under.app h132 Tryd.underlying22 AT5 rfl rfl rdV rfl fun v133 => ag rfl rfl <| nl <| bN <| Under.next _ v133 h126 (s2 rfl rfl) rfl
   ·refine xt <| te ?_
    have e134 := done_eq h126 d127
    subst e134
    exact te <| bh <| tn <| wk (k40 _ _ (osi h39).symm) (s2 rfl rfl)
/-- churn/churnref01.turned -/
noncomputable def f_churnref01_turned (a0 : Int) (a1 : Int) : Option Int :=
  bif decide (0 ≤ a1) then
  bif decide (0 ≤ (IntKind.wrap .i64 (32 - a1))) then
  some (orI .u32 (shrI .u32 a0 a1) (shlI .u32 a0 (IntKind.wrap .i64 (32 - a1))))
  else none
  else none
theorem f_churnref01_turned_ok {a0 : Int} {a1 : Int} {r0 : Int} (hF : f_churnref01_turned a0 a1 = some r0) (L : List Res) : Ok Tryd.prog 86 [SV.raw (.int .u32 a0), SV.raw (.int .i64 a1)] (L) (SV.raw (.int .u32 r0)) (L) := by
  unfold f_churnref01_turned at hF
  refine Ok.intro 13 [(0, .raw (.int .u32 a0)), (1, .raw (.int .i64 a1))] Tryd.func86 rfl rfl rfl rfl (fun F0 => ?_)
  obtain ⟨h1, hF⟩ := gsome hF
  obtain ⟨h2, hF⟩ := gsome hF
  refine sr <| ag rfl rfl <| nt <| sq <| dw rfl (by kernel_rfl) fun F hF0 => mvq rfl rfl <| mvq rfl rfl <| oq (OpV.sh rfl rfl (of_decide_eq_true h1) rfl) rfl <| mvq rfl rfl <| mvq rfl rfl <| bnq rfl rfl rfl rfl <| oq (OpV.sh rfl rfl (of_decide_eq_true h2) rfl) rfl <| bnq rfl rfl rfl rfl <| agq rfl rfl <| nlq hF0 <| tn <| rc ?_
  have e3 := osi hF
  subst e3
  exact Under.rets Tryd.results86 (.tm rfl .nil) rfl rfl
end Go.Proofs.YtgllljocmpbooaaDoor

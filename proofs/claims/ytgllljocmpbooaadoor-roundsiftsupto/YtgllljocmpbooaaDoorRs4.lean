/- PRINTED BY gen2.py (of this repo): functions of the program in Lean, and that the machine follows them. -/
import Derived.Test.YtgllljocmpbooaaDoorRs3
set_option linter.unusedVariables false
set_option linter.unusedSimpArgs false
set_option maxRecDepth 20000
namespace Go.Proofs.YtgllljocmpbooaaDoor
open Go Go.Sim Go.ChangeShapes Go.WideShapes Go.ChangeAt Go.RowKit
/-- churn/churnref07.Peel -/
noncomputable def f_churnref07_Peel (a0 : List Int) (a1 : Int) (a2 : List Int) : Option (Api_Peeled × Int) :=
  ((bif (a0.length : Int) != 32 then
    some true
  else
    (f_churnref07_Size a1).bind fun y5 =>
    some (y5 == 0)
    : Option Bool)).bind fun x4 =>
  bif x4 then
    some ((⟨[], (List.replicate 16 (0 : Int))⟩ : Api_Peeled), 2)
  else
    (f_churnref07_Size a1).bind fun y8 =>
    (f_churnref05_Cut a2 y8).bind fun y10 =>
    bif y10.2 != 0 then
      some ((⟨[], (List.replicate 16 (0 : Int))⟩ : Api_Peeled), y10.2)
    else
      (((Loop.run (S := (Int × (List Int) × (List Int))) (R := ((List Int) × (List Int))) (fun (x185, x186, x187) =>
          bif decide (x185 < 16) then
            (idx y10.1 x185).bind fun x203 =>
            (idx x186 x185).bind fun x205 =>
            (idx y10.1 (IntKind.wrap .i64 (16 + x185))).bind fun x207 =>
            (idx x187 x185).bind fun x209 =>
            some (.next (IntKind.wrap .i64 (x185 + 1), List.set x186 (Int.toNat x185) x203, List.set x187 (Int.toNat x185) x207))
          else
            some (.done (x186, x187))) (0, (List.replicate 16 (0 : Int)), (List.replicate 16 (0 : Int)))).bind fun r200 => match r200 with
        | (x196, x197) =>
          some (x196, x197)
        : Option ((List Int) × (List Int)))).bind fun r65 => match r65 with
        | (x63, x64) =>
          (f_churnref07_Derive a0 x63).bind fun y68 =>
          (sub y10.1 32 (y10.1.length : Int)).bind fun x72 =>
          (f_churnref07_tag y68.1 a1 x63 x72).bind fun y74 =>
          bif x64 != y74 then
            some ((⟨[], (List.replicate 16 (0 : Int))⟩ : Api_Peeled), 70)
          else
            (sub y10.1 32 (y10.1.length : Int)).bind fun x79 =>
            (f_churnref04_Mask y68.1.Box (List.replicate 16 (0 : Int)) x79).bind fun y81 =>
            (idx y81 0).bind fun x83 =>
            (idx y81 1).bind fun x85 =>
            (f_churnref07_Size a1).bind fun y87 =>
            bif decide ((IntKind.wrap .i64 ((IntKind.wrap .i64 (256 * (IntKind.wrap .i64 x83))) + (IntKind.wrap .i64 x85))) > (IntKind.wrap .i64 (y87 - 34))) then
              some ((⟨[], (List.replicate 16 (0 : Int))⟩ : Api_Peeled), 71)
            else
              (((Loop.run (S := Int) (R := (Unit ⊕ (Api_Peeled × Int))) (fun x147 =>
                  bif decide (x147 < (y81.length : Int)) then
                    (idx y81 x147).bind fun x155 =>
                    bif x155 != 0 then
                      some (.done (.inr ((⟨[], (List.replicate 16 (0 : Int))⟩ : Api_Peeled), 71)))
                    else
                      some (.next (IntKind.wrap .i64 (x147 + 1)))
                  else
                    some (.done (.inl ()))) (IntKind.wrap .i64 (2 + (IntKind.wrap .i64 ((IntKind.wrap .i64 (256 * (IntKind.wrap .i64 x83))) + (IntKind.wrap .i64 x85)))))).bind fun r152 => match r152 with
                | .inl _ =>
                  some (.inr ())
                | .inr z =>
                  some (.inl z)
                : Option ((Api_Peeled × Int) ⊕ Unit))).bind fun r109 => match r109 with
                | .inl z =>
                  some z
                | .inr _ =>
                  (sub y10.1 0 32).bind fun x114 =>
                  (f_churnref07_half y68.1.Replay x114).bind fun y116 =>
                  ((bif decide (a1 > 1) then
                    (sub y81 2 (IntKind.wrap .i64 (2 + (IntKind.wrap .i64 ((IntKind.wrap .i64 (256 * (IntKind.wrap .i64 x83))) + (IntKind.wrap .i64 x85)))))).bind fun x131 =>
                    (f_churnref05_Pad x131).bind fun y133 =>
                    some ({ ({ (⟨[], (List.replicate 16 (0 : Int))⟩ : Api_Peeled) with Replay := y116 } : Api_Peeled) with Cell := y133.1 } : Api_Peeled)
                  else
                    (sub y81 2 (IntKind.wrap .i64 (2 + (IntKind.wrap .i64 ((IntKind.wrap .i64 (256 * (IntKind.wrap .i64 x83))) + (IntKind.wrap .i64 x85)))))).bind fun x136 =>
                    (f_churnref05_Plain x136).bind fun y138 =>
                    some ({ ({ (⟨[], (List.replicate 16 (0 : Int))⟩ : Api_Peeled) with Replay := y116 } : Api_Peeled) with Cell := y138.1 } : Api_Peeled)
                    : Option Api_Peeled)).bind fun x126 =>
                  some (x126, 0)
theorem f_churnref07_Peel_ok {a0 : List Int} {a1 : Int} {a2 : List Int} {r0 : (Api_Peeled × Int)} (hF : f_churnref07_Peel a0 a1 a2 = some r0) (L : List Res) : Ok Tryd.prog 31 [SV.val K6 a0, SV.raw (.int .i64 a1), SV.val K6 a2] (L) (SV.tup [SV.val kApi_Peeled r0.1, SV.raw (.int .i64 r0.2)]) (L) := by
  unfold f_churnref07_Peel at hF
  refine Ok.intro 136 [(0, .val K6 a0), (1, .raw (.int .i64 a1)), (2, .val K6 a2)] Tryd.func31 rfl rfl rfl rfl (fun F0 => ?_)
  obtain ⟨x4, h3, hF⟩ := bsome hF
  refine sr <| Under.al ZT46 rfl fun b1 => ag rfl rfl <| nt <| sq <| sr <| mv rfl rfl <| ov (OpV.len Tryd.underlying22 rfl rdV) rfl <| bn rfl rfl rfl rfl <| mv rfl rfl <| runj_4 27 x4 ?_ (fun k => ?_)
  ·refine nt <| Under.ite hF rfl (fun hF => ?_) (fun hF => ?_)
   ·refine sr <| ov (OpV.bst BT46 (Bld.nil _)) rfl <| Under.stP (x' := (⟨[], (List.replicate 16 (0 : Int))⟩ : Api_Peeled)) .box .id sz46_kApi_Peeled rfl rfl rdV rfl <| ag rfl rfl <| nl <| Under.frz (t := 6) rfl <| tn <| rt ?_
    have e7 := osi hF
    subst e7
    exact Under.rets Tryd.results31 (.ce rfl kt46 (.tm rfl .nil)) rfl rfl
   ·obtain ⟨y8, h9, hF⟩ := bsome hF
    obtain ⟨y10, h11, hF⟩ := bsome hF
    refine ct <| sr <| mv rfl rfl <| mv rfl rfl <| Under.call Tryd.call50 rfl rfl (f_churnref07_Size_ok h9 _) rfl <| Under.call Tryd.call51 rfl rfl (f_churnref05_Cut_ok h11 _) rfl <| mv rfl rfl <| ov (OpV.extr rfl rfl) rfl <| ov (OpV.extr rfl rfl) rfl <| ag rfl rfl <| ag rfl rfl <| nt <| sq <| sr <| mv rfl rfl <| bn rfl rfl rfl rfl <| nt <| Under.ite hF rfl (fun hF => ?_) (fun hF => ?_)
    ·refine sr <| ov (OpV.bst BT46 (Bld.nil _)) rfl <| mv rfl rfl <| Under.stP (x' := (⟨[], (List.replicate 16 (0 : Int))⟩ : Api_Peeled)) .box .id sz46_kApi_Peeled rfl rfl rdV rfl <| ag rfl rfl <| nl <| Under.frz (t := 6) rfl <| tn <| rt ?_
     have e12 := osi hF
     subst e12
     exact Under.rets Tryd.results31 (.ce rfl kt46 (.tm rfl .nil)) rfl rfl
    ·obtain ⟨r65, h66, hF⟩ := bsome hF
     refine ct <| sr <| Under.al ZT44 rfl fun b13 => Under.al ZT44 rfl fun b14 => nt <| sq <| Under.after (fun X => ∀ (x63 : List Int) (x64 : List Int), r65 = (x63, x64) → Under F0 136 [(0, .val K6 a0), (1, .raw (.int .i64 a1)), (6, .raw (.pointer (some ⟨b1, 0, none⟩))), (8, .val K6 y10.1), (10, .ptr K4 x63), (11, .ptr K4 x64)] ((.box kApi_Peeled b1 46 (⟨[], (List.replicate 16 (0 : Int))⟩ : Api_Peeled)) :: L) X) ?_ ?_
     ·intro x63 x64 h216
      replace h216 := h216.symm
      subst h216
      obtain ⟨y68, h69, hF⟩ := bsome hF
      obtain ⟨x72, h73, hF⟩ := bsome hF
      obtain ⟨y74, h75, hF⟩ := bsome hF
      refine sr <| mv rfl rfl <| ov (OpV.ld kt44 rfl) rfl <| Under.call Tryd.call52 rfl rfl (f_churnref07_Derive_ok h69 _) rfl <| mv rfl rfl <| ov (OpV.extr rfl rfl) rfl <| ov (OpV.extr rfl rfl) rfl <| Under.al ZT66 rfl fun b70 => Under.stP (x' := y68.1) .box .id sz66_kApi_OnionKeys rfl rfl rdV rfl <| ag rfl rfl <| nl <| Under.frz (t := 13) rfl <| tn <| sq <| Under.phases rfl <| Under.grpT (L := L) [0, 1, 2, 3, 4, 5, 6] [[13], [1], [10], [8], [66], [63, 64, 65, 67], []] [⟨sk0 (.val kApi_OnionKeys y68.1), [], [], []⟩, ⟨sk0 (.raw (.int .i64 a1)), [], [], []⟩, ⟨sk0 (.val K4 x63), [], [], []⟩, ⟨sk0 (.val K6 y10.1), [], [], []⟩, ⟨sk0 (.val K6 x72), [], [], []⟩, ⟨sk0 (.val K4 y74), [], [], []⟩, ⟨sk1 6 (fun u6 => .raw (.pointer (some ⟨(vblk u6), 0, none⟩))), [], [(0, tk1 6 (fun u6 => .box K4 (vblk u6) 44 (List.replicate 16 (0 : Int))))], []⟩] [] (fun T : List Res => (.box kApi_Peeled b1 46 (⟨[], (List.replicate 16 (0 : Int))⟩ : Api_Peeled)) :: T) lf1 rfl (by kernel_rfl) rfl rfl (fun F hF0 bs71 => ?_)
      refine Tq.v (fun G T hG => ?_) ?_
      ·exact ov (OpV.ld kt66 rfl) rfl <| Tq.end undef rfl rfl
      refine Tq.v (fun G T hG => ?_) ?_
      ·exact mv rfl rfl <| Tq.end undef rfl rfl
      refine Tq.v (fun G T hG => ?_) ?_
      ·exact ov (OpV.ld kt44 rfl) rfl <| Tq.end undef rfl rfl
      refine Tq.v (fun G T hG => ?_) ?_
      ·exact mv rfl rfl <| Tq.end undef rfl rfl
      refine Tq.v (fun G T hG => ?_) ?_
      ·exact ov (OpV.slL h73 Tryd.underlying22 sz5 rfl rdV rfl) rfl <| Tq.end undef rfl rfl
      refine Tq.v (fun G T hG => ?_) ?_
      ·exact Under.call Tryd.call53 rfl rfl (f_churnref07_tag_ok h75 _) rfl <| Tq.end undef rfl rfl
      refine Tq.st (.raw (.pointer (some ⟨(vblk (bs71 6)), 0, none⟩))) [] rfl rfl (fun G T hG => ?_) ?_
      ·exact Under.al ZT44 rfl fun b76 => Under.fo1 <| Under.fo1 <| Tq.end (.pointer (some ⟨b76, 0, none⟩)) rfl rfl
      refine Tq.nil <| Under.le hF0 <| Under.p1 7 rfl rfl <| Under.fo1 <| Under.stP (x' := y74) .box .id sz44_kArr_16_kInt_u8_ rfl rfl rdV rfl <| Under.pn <| Under.pdone rfl <| Under.frz (t := 15) rfl <| tn <| sq <| sr <| ov (OpV.ld kt44 rfl) rfl <| ov (OpV.ld kt44 rfl) rfl <| ov (OpV.neK eqk44 eqg44 rfl rfl rfl rdV rfl rdV) rfl <| nt <| Under.ite hF rfl (fun hF => ?_) (fun hF => ?_)
      ·refine sr <| ov (OpV.bst BT46 (Bld.nil _)) rfl <| Under.stP (x' := (⟨[], (List.replicate 16 (0 : Int))⟩ : Api_Peeled)) .box .id sz46_kApi_Peeled rfl rfl rdV rfl <| ag rfl rfl <| nl <| Under.frz (t := 6) rfl <| tn <| rt ?_
       have e77 := osi hF
       subst e77
       exact Under.rets Tryd.results31 (.ce rfl kt46 (.tm rfl .nil)) rfl rfl
      ·obtain ⟨x79, h80, hF⟩ := bsome hF
       obtain ⟨y81, h82, hF⟩ := bsome hF
       refine ct <| sq <| Under.phases rfl <| Under.grpT (L := L) [0, 1, 2, 3, 4] [[13], [73], [], [8], [76]] [⟨sk0 (.ptr K4 y68.1.Box), [], [], []⟩, ⟨sk0 (.val K4 y68.1.Box), [], [], []⟩, ⟨sk0 (.val K4 (List.replicate 16 (0 : Int))), [], [], []⟩, ⟨sk0 (.val K6 y10.1), [], [], []⟩, ⟨sk0 (.val K6 x79), [], [], []⟩] [] (fun T : List Res => (.box kApi_Peeled b1 46 (⟨[], (List.replicate 16 (0 : Int))⟩ : Api_Peeled)) :: T) lf1 rfl (by kernel_rfl) rfl rfl (fun F hF0 bs78 => ?_)
       refine Tq.v (fun G T hG => ?_) ?_
       ·exact ov (OpV.fd fb66_0 rfl rfl) rfl <| Tq.end undef rfl rfl
       refine Tq.v (fun G T hG => ?_) ?_
       ·exact ov (OpV.ld kt44 rfl) rfl <| Tq.end undef rfl rfl
       refine Tq.v (fun G T hG => ?_) ?_
       ·exact ov (OpV.bar (ys := (List.replicate 16 (0 : Int))) BTA44 (BldA.nil _)) rfl <| Tq.end undef rfl rfl
       refine Tq.v (fun G T hG => ?_) ?_
       ·exact mv rfl rfl <| Tq.end undef rfl rfl
       refine Tq.v (fun G T hG => ?_) ?_
       ·exact ov (OpV.slL h80 Tryd.underlying22 sz5 rfl rdV rfl) rfl <| Tq.end undef rfl rfl
       obtain ⟨x83, h84, hF⟩ := bsome hF
       obtain ⟨x85, h86, hF⟩ := bsome hF
       obtain ⟨y87, h88, hF⟩ := bsome hF
       refine Tq.nil <| Under.le hF0 <| Under.p1 5 rfl rfl <| Under.call Tryd.call54 rfl rfl (f_churnref04_Mask_ok h82 _) rfl <| Under.pn <| Under.p1 6 rfl rfl <| ag rfl rfl <| Under.pn <| Under.pdone rfl <| tn <| sq <| dw rfl (by kernel_rfl) fun F hF0 => mvq rfl rfl <| oq (OpV.ixS h84 Tryd.underlying22 sz5 rfl rdV rfl) rfl <| oq (OpV.ldI kt5 rfl) rfl <| oq (OpV.conv (by kernel_rfl) Tryd.underlying3 rfl) rfl <| bnq rfl rfl rfl rfl <| mvq rfl rfl <| oq (OpV.ixS h86 Tryd.underlying22 sz5 rfl rdV rfl) rfl <| oq (OpV.ldI kt5 rfl) rfl <| oq (OpV.conv (by kernel_rfl) Tryd.underlying3 rfl) rfl <| bnq rfl rfl rfl rfl <| agq rfl rfl <| nlq hF0 <| tn <| sq <| sr <| mv rfl rfl <| mv rfl rfl <| Under.call Tryd.call50 rfl rfl (f_churnref07_Size_ok h88 _) rfl <| bn rfl rfl rfl rfl <| bn rfl rfl rfl rfl <| nt <| Under.ite hF rfl (fun hF => ?_) (fun hF => ?_)
       ·refine sr <| ov (OpV.bst BT46 (Bld.nil _)) rfl <| Under.stP (x' := (⟨[], (List.replicate 16 (0 : Int))⟩ : Api_Peeled)) .box .id sz46_kApi_Peeled rfl rfl rdV rfl <| ag rfl rfl <| nl <| Under.frz (t := 6) rfl <| tn <| rt ?_
        have e89 := osi hF
        subst e89
        exact Under.rets Tryd.results31 (.ce rfl kt46 (.tm rfl .nil)) rfl rfl
       ·obtain ⟨r109, h110, hF⟩ := bsome hF
        refine ct <| sq <| Under.after (fun X => ∀ (_ : Unit), r109 = (.inr ()) → Under F0 136 [(1, .raw (.int .i64 a1)), (6, .raw (.pointer (some ⟨b1, 0, none⟩))), (8, .val K6 y10.1), (13, .ptr kApi_OnionKeys y68.1), (16, .val K6 y81), (17, .raw (.int .i64 (IntKind.wrap .i64 ((IntKind.wrap .i64 (256 * (IntKind.wrap .i64 x83))) + (IntKind.wrap .i64 x85)))))] ((.box kApi_Peeled b1 46 (⟨[], (List.replicate 16 (0 : Int))⟩ : Api_Peeled)) :: L) X) ?_ ?_
        ·intro _ h165
         replace h165 := h165.symm
         subst h165
         obtain ⟨x114, h115, hF⟩ := bsome hF
         obtain ⟨y116, h117, hF⟩ := bsome hF
         refine sr <| Under.al ZT46 rfl fun b112 => nt <| sq <| Under.phases rfl <| Under.fo1 <| Under.fo1 <| Under.grpT (L := L) [0, 1, 2, 3] [[13], [109], [8], [111]] [⟨sk0 (.ptr K3 y68.1.Replay), [], [], []⟩, ⟨sk0 (.val K3 y68.1.Replay), [], [], []⟩, ⟨sk0 (.val K6 y10.1), [], [], []⟩, ⟨sk0 (.val K6 x114), [], [], []⟩] [] (fun T : List Res => (.box kApi_Peeled b112 46 (⟨[], (List.replicate 16 (0 : Int))⟩ : Api_Peeled)) :: (.box kApi_Peeled b1 46 (⟨[], (List.replicate 16 (0 : Int))⟩ : Api_Peeled)) :: T) lf2 rfl (by kernel_rfl) rfl rfl (fun F hF0 bs113 => ?_)
         refine Tq.v (fun G T hG => ?_) ?_
         ·exact ov (OpV.fd fb66_2 rfl rfl) rfl <| Under.fo1 <| Under.fo1 <| Tq.end undef rfl rfl
         refine Tq.v (fun G T hG => ?_) ?_
         ·exact ov (OpV.ld kt64 rfl) rfl <| Under.fo1 <| Under.fo1 <| Tq.end undef rfl rfl
         refine Tq.v (fun G T hG => ?_) ?_
         ·exact mv rfl rfl <| Under.fo1 <| Under.fo1 <| Tq.end undef rfl rfl
         refine Tq.v (fun G T hG => ?_) ?_
         ·exact ov (OpV.slH h115 Tryd.underlying22 sz5 rfl rdV rfl) rfl <| Under.fo1 <| Under.fo1 <| Tq.end undef rfl rfl
         obtain ⟨r127, h128, hF⟩ := bsome hF
         refine Tq.nil <| Under.le hF0 <| Under.p1 4 rfl rfl <| Under.call Tryd.call55 rfl rfl (f_churnref07_half_ok h117 _) rfl <| Under.pn <| Under.p1 5 rfl rfl <| ov (OpV.fdM fm46_1 rfl) rfl <| Under.pn <| Under.p1 6 rfl rfl <| Under.stP (x' := ({ (⟨[], (List.replicate 16 (0 : Int))⟩ : Api_Peeled) with Replay := y116 } : Api_Peeled)) .box (.fld .id uf_Api_Peeled_1) sz44_kArr_16_kInt_u8_ rfl rfl rdV rfl <| Under.pn <| Under.pdone rfl <| tn <| sq <| Under.after (fun X => ∀ (x126 : Api_Peeled), r127 = x126 → Under F0 136 [(6, .raw (.pointer (some ⟨b1, 0, none⟩))), (19, .ptr kApi_Peeled x126)] ((.box kApi_Peeled b1 46 (⟨[], (List.replicate 16 (0 : Int))⟩ : Api_Peeled)) :: L) X) ?_ ?_
         ·intro x126 h141
          replace h141 := h141.symm
          subst h141
          refine sr <| ov (OpV.ld kt46 rfl) rfl <| Under.stP (x' := x126) .box .id sz46_kApi_Peeled rfl rfl rdV rfl <| ag rfl rfl <| nl <| Under.frz (t := 6) rfl <| tn <| rc ?_
          have e130 := osi hF
          subst e130
          exact Under.rets Tryd.results31 (.ce rfl kt46 (.tm rfl .nil)) rfl rfl
         ·intro K k129
          refine sr <| mv rfl rfl <| bn rfl rfl rfl rfl <| nt <| Under.ite h128 rfl (fun h128 => ?_) (fun h128 => ?_)
          ·obtain ⟨x131, h132, h128⟩ := bsome h128
           obtain ⟨y133, h134, h128⟩ := bsome h128
           exact rg <| mv rfl rfl <| mv rfl rfl <| bn rfl rfl rfl rfl <| ov (OpV.slLH h132 Tryd.underlying22 sz5 rfl rdV rfl rfl) rfl <| Under.call Tryd.call56 rfl rfl (f_churnref05_Pad_ok h134 _) rfl <| mv rfl rfl <| ov (OpV.extr rfl rfl) rfl <| ov (OpV.extr rfl rfl) rfl <| ov (OpV.fdM fm46_0 rfl) rfl <| Under.stP (x' := ({ ({ (⟨[], (List.replicate 16 (0 : Int))⟩ : Api_Peeled) with Replay := y116 } : Api_Peeled) with Cell := y133.1 } : Api_Peeled)) .box (.fld .id uf_Api_Peeled_0) sz22_kSl_kInt_u8_ rfl rfl rdV rfl <| nl <| Under.frz (t := 19) rfl <| tn <| wk (k129 _ (osi h128).symm) (s2 rfl rfl)
          ·obtain ⟨x136, h137, h128⟩ := bsome h128
           obtain ⟨y138, h139, h128⟩ := bsome h128
           exact rg <| mv rfl rfl <| mv rfl rfl <| bn rfl rfl rfl rfl <| ov (OpV.slLH h137 Tryd.underlying22 sz5 rfl rdV rfl rfl) rfl <| Under.call Tryd.call57 rfl rfl (f_churnref05_Plain_ok h139 _) rfl <| mv rfl rfl <| ov (OpV.extr rfl rfl) rfl <| ov (OpV.extr rfl rfl) rfl <| ov (OpV.fdM fm46_0 rfl) rfl <| Under.stP (x' := ({ ({ (⟨[], (List.replicate 16 (0 : Int))⟩ : Api_Peeled) with Replay := y116 } : Api_Peeled) with Cell := y138.1 } : Api_Peeled)) .box (.fld .id uf_Api_Peeled_0) sz22_kSl_kInt_u8_ rfl rfl rdV rfl <| nl <| Under.frz (t := 19) rfl <| tn <| wk (k129 _ (osi h128).symm) (s2 rfl rfl)
        ·intro K k111
         obtain ⟨r152, h153, h110⟩ := bsome h110
         refine sr <| mv rfl rfl <| bn rfl rfl rfl rfl <| ag rfl rfl <| nt <| bk <| Under.loop (S := Int) (C := Unit) () (fun (x162 : Int) (q163 : Unit) => [(1, .raw (.int .i64 a1)), (6, .raw (.pointer (some ⟨b1, 0, none⟩))), (8, .val K6 y10.1), (13, .ptr kApi_OnionKeys y68.1), (16, .val K6 y81), (17, .raw (.int .i64 (IntKind.wrap .i64 ((IntKind.wrap .i64 (256 * (IntKind.wrap .i64 x83))) + (IntKind.wrap .i64 x85))))), (18, .raw (.int .i64 x162))]) (fun (x162 : Int) (q163 : Unit) => (.box kApi_Peeled b1 46 (⟨[], (List.replicate 16 (0 : Int))⟩ : Api_Peeled)) :: L) h153 (s7 rfl rfl rfl rfl rfl rfl rfl) rfl (fun x162 q163 o154 h150 d151 => ?_)
         refine sq <| sr <| mv rfl rfl <| mv rfl rfl <| ov (OpV.len Tryd.underlying22 rfl rdV) rfl <| bn rfl rfl rfl rfl <| nt <| Under.ite h150 rfl (fun h150 => ?_) (fun h150 => ?_)
         ·obtain ⟨x155, h156, h150⟩ := bsome h150
          refine ct <| sq <| bk <| sr <| mv rfl rfl <| mv rfl rfl <| ov (OpV.ixS h156 Tryd.underlying22 sz5 rfl rdV rfl) rfl <| ov (OpV.ldI kt5 rfl) rfl <| bn rfl rfl rfl rfl <| nt <| Under.ite h150 rfl (fun h150 => ?_) (fun h150 => ?_)
          ·refine sr <| ov (OpV.bst BT46 (Bld.nil _)) rfl <| Under.stP (x' := (⟨[], (List.replicate 16 (0 : Int))⟩ : Api_Peeled)) .box .id sz46_kApi_Peeled rfl rfl rdV rfl <| ag rfl rfl <| nl <| Under.frz (t := 6) rfl <| tn <| rc <| Under.bR <| tr ?_
           have e157 := done_eq h150 d151
           subst e157
           refine tr <| Under.bR <| tr ?_
           have e158 := osi h110
           subst e158
           have e159 := osi hF
           subst e159
           exact Under.rets Tryd.results31 (.ce rfl kt46 (.tm rfl .nil)) rfl rfl
          ·exact cs <| bN <| tn <| rg <| mv rfl rfl <| bn rfl rfl rfl rfl <| ag rfl rfl <| nl <| Under.next _ () h150 (s7 rfl rfl rfl rfl rfl rfl rfl) rfl
         ·refine xt <| te ?_
          have e160 := done_eq h150 d151
          subst e160
          exact te <| bh <| tn <| wk (k111 () (osi h110).symm) (s6 rfl rfl rfl rfl rfl rfl)
     ·intro K k67
      obtain ⟨r200, h201, h66⟩ := bsome h66
      refine sr <| ag rfl rfl <| nt <| bk <| Under.fo1 <| Under.fo2 <| Under.loop (S := (Int × (List Int) × (List Int))) (C := Unit) () (fun (x213 : (Int × (List Int) × (List Int))) (q214 : Unit) => [(0, .val K6 a0), (1, .raw (.int .i64 a1)), (6, .raw (.pointer (some ⟨b1, 0, none⟩))), (8, .val K6 y10.1), (10, .raw (.pointer (some ⟨b13, 0, none⟩))), (11, .raw (.pointer (some ⟨b14, 0, none⟩))), (12, .raw (.int .i64 x213.1))]) (fun (x213 : (Int × (List Int) × (List Int))) (q214 : Unit) => (.box kApi_Peeled b1 46 (⟨[], (List.replicate 16 (0 : Int))⟩ : Api_Peeled)) :: (.box K4 b13 44 x213.2.1) :: (.box K4 b14 44 x213.2.2) :: L) h201 (s7 rfl rfl rfl rfl rfl rfl rfl) rfl (fun x213 q214 o202 h198 d199 => ?_)
      obtain ⟨x185, x186, x187⟩ := x213
      dsimp only at h198 ⊢
      refine sq <| sr <| mv rfl rfl <| bn rfl rfl rfl rfl <| nt <| Under.ite h198 rfl (fun h198 => ?_) (fun h198 => ?_)
      ·obtain ⟨x203, h204, h198⟩ := bsome h198
       obtain ⟨x205, h206, h198⟩ := bsome h198
       obtain ⟨x207, h208, h198⟩ := bsome h198
       obtain ⟨x209, h210, h198⟩ := bsome h198
       exact ct <| sq <| bk <| sr <| mv rfl rfl <| mv rfl rfl <| mv rfl rfl <| ov (OpV.ixS h204 Tryd.underlying22 sz5 rfl rdV rfl) rfl <| ov (OpV.ldI kt5 rfl) rfl <| Under.fo1 <| ov (OpV.ixP .box .id h206 Tryd.underlying44 sz5_kInt_u8 rfl rfl) rfl <| Under.stP (x' := List.set x186 (Int.toNat x185) x203) .box (.ix .id h206) sz5_kInt_u8 rfl rfl rdI rfl <| nt <| rg <| mv rfl rfl <| mv rfl rfl <| mv rfl rfl <| bn rfl rfl rfl rfl <| ov (OpV.ixS h208 Tryd.underlying22 sz5 rfl rdV rfl) rfl <| ov (OpV.ldI kt5 rfl) rfl <| Under.fo2 <| ov (OpV.ixP .box .id h210 Tryd.underlying44 sz5_kInt_u8 rfl rfl) rfl <| Under.stP (x' := List.set x187 (Int.toNat x185) x207) .box (.ix .id h210) sz5_kInt_u8 rfl rfl rdI rfl <| nl <| bN <| tn <| rg <| mv rfl rfl <| bn rfl rfl rfl rfl <| ag rfl rfl <| nl <| Under.fo1 <| Under.fo2 <| Under.next _ () h198 (s7 rfl rfl rfl rfl rfl rfl rfl) rfl
      ·refine Under.fo1 <| Under.frz (t := 10) rfl <| Under.fo1 <| Under.frz (t := 11) rfl <| xt <| te ?_
       have e211 := done_eq h198 d199
       subst e211
       exact te <| bh <| tn <| wk (k67 _ _ (osi h66).symm) (s6 rfl rfl rfl rfl rfl rfl)
  ·refine by_ (t := 23) rfl (fun c2 => ?_) (fun c2 => ?_)
   ·replace h3 := ctrue c2 h3
    exact sk c2 rfl rfl rfl <| sk c2 rfl rfl rfl <| sk c2 rfl rfl rfl <| ov (pkT c2 rfl rfl) rfl <| rf 3 (rbq h3) rfl k
   ·replace h3 := cfalse c2 h3
    obtain ⟨y5, h6, h3⟩ := bsome h3
    exact gc c2 rfl rfl <| mv rfl rfl <| gc c2 rfl rfl <| Under.call Tryd.call50 rfl rfl (f_churnref07_Size_ok h6 _) rfl <| gc c2 rfl rfl <| bn rfl rfl rfl rfl <| ov (pkF c2 rfl rfl) rfl <| rf 3 (rbq h3) rfl k
/-- churn/churnref16.Has -/
noncomputable def f_churnref16_Has (a0 : Api_Window) (a1 : List Int) : Option Bool :=
  (((Loop.run (S := Int) (R := (Unit ⊕ Bool)) (fun x479 =>
      bif decide (x479 < (a0.Epochs.length : Int)) then
        (((Loop.run (S := Int) (R := (Unit ⊕ Bool)) (fun x613 =>
            (idx a0.Epochs x479).bind fun x625 =>
            bif decide (x613 < (x625.Tags.length : Int)) then
              (idx a0.Epochs x479).bind fun x627 =>
              (idx x627.Tags x613).bind fun x629 =>
              bif x629 == a1 then
                some (.done (.inr true))
              else
                some (.next (IntKind.wrap .i64 (x613 + 1)))
            else
              some (.done (.inl ()))) 0).bind fun r622 => match r622 with
          | .inl _ =>
            some (.inr ())
          | .inr z =>
            some (.inl z)
          : Option (Bool ⊕ Unit))).bind fun r597 => match r597 with
          | .inl z =>
            some (.done (.inr z))
          | .inr _ =>
            some (.next (IntKind.wrap .i64 (x479 + 1)))
      else
        some (.done (.inl ()))) 0).bind fun r559 => match r559 with
    | .inl _ =>
      some (.inr ())
    | .inr z =>
      some (.inl z)
    : Option (Bool ⊕ Unit))).bind fun r320 => match r320 with
    | .inl z =>
      some z
    | .inr _ =>
      some false
theorem f_churnref16_Has_ok {a0 : Api_Window} {a1 : List Int} {r0 : Bool} (hF : f_churnref16_Has a0 a1 = some r0) (L : List Res) : Ok Tryd.prog 32 [SV.val kApi_Window a0, SV.val K4 a1] (L) (SV.raw (.bool r0)) (L) := by
  unfold f_churnref16_Has at hF
  refine Ok.intro 36 [(0, .val kApi_Window a0), (1, .val K4 a1)] Tryd.func32 rfl rfl rfl rfl (fun F0 => ?_)
  obtain ⟨r320, h321, hF⟩ := bsome hF
  refine sr <| Under.bxF (K := kApi_Window) rfl rdV rfl <| Under.bxF (K := kArr 16 K8) rfl rdV rfl <| ag rfl rfl <| nt <| sq <| Under.after (fun X => ∀ (_ : Unit), r320 = (.inr ()) → Under F0 36 [] (L) X) ?_ ?_
  ·intro _ h647
   replace h647 := h647.symm
   subst h647
   refine sr <| ag rfl rfl <| nt <| rc ?_
   have e323 := osi hF
   subst e323
   exact Under.rets Tryd.results32 (.tm rfl .nil) rfl rfl
  ·intro K k322
   obtain ⟨r559, h560, h321⟩ := bsome h321
   refine sr <| ag rfl rfl <| nt <| bk <| Under.loop (S := Int) (C := Unit) () (fun (x644 : Int) (q645 : Unit) => [(2, .ptr kApi_Window a0), (3, .ptr K4 a1), (5, .raw (.int .i64 x644))]) (fun (x644 : Int) (q645 : Unit) => L) h560 (s3 rfl rfl rfl) rfl (fun x644 q645 o561 h557 d558 => ?_)
   refine sq <| sr <| mv rfl rfl <| ov (OpV.fd fb27_1 rfl rfl) rfl <| ov (OpV.ld kt25 rfl) rfl <| ov (OpV.len Tryd.underlying25 rfl rdV) rfl <| bn rfl rfl rfl rfl <| nt <| Under.ite h557 rfl (fun h557 => ?_) (fun h557 => ?_)
   ·obtain ⟨r597, h598, h557⟩ := bsome h557
    refine ct <| sq <| Under.after (fun X => ∀ (_ : Unit), r597 = (.inr ()) → Under F0 36 [(2, .ptr kApi_Window a0), (3, .ptr K4 a1), (5, .raw (.int .i64 x644))] (L) X) ?_ ?_
    ·intro _ h641
     replace h641 := h641.symm
     subst h641
     exact rg <| mv rfl rfl <| bn rfl rfl rfl rfl <| ag rfl rfl <| nl <| Under.next _ () h557 (s3 rfl rfl rfl) rfl
    ·intro K k599
     obtain ⟨r622, h623, h598⟩ := bsome h598
     refine bk <| sr <| ag rfl rfl <| nt <| bk <| Under.loop (S := Int) (C := Unit) () (fun (x638 : Int) (q639 : Unit) => [(2, .ptr kApi_Window a0), (3, .ptr K4 a1), (5, .raw (.int .i64 x644)), (6, .raw (.int .i64 x638))]) (fun (x638 : Int) (q639 : Unit) => L) h623 (s4 rfl rfl rfl rfl) rfl (fun x638 q639 o624 h620 d621 => ?_)
     obtain ⟨x625, h626, h620⟩ := bsome h620
     refine sq <| sr <| mv rfl rfl <| ov (OpV.fd fb27_1 rfl rfl) rfl <| ov (OpV.ld kt25 rfl) rfl <| mv rfl rfl <| ov (OpV.ixS h626 Tryd.underlying25 sz79 rfl rdV rfl) rfl <| ov (OpV.fd fb79_1 rfl rfl) rfl <| ov (OpV.ld kt77 rfl) rfl <| ov (OpV.len Tryd.underlying77 rfl rdV) rfl <| bn rfl rfl rfl rfl <| nt <| Under.ite h620 rfl (fun h620 => ?_) (fun h620 => ?_)
     ·obtain ⟨x627, h628, h620⟩ := bsome h620
      obtain ⟨x629, h630, h620⟩ := bsome h620
      refine ct <| sq <| bk <| sq <| dw rfl (by kernel_rfl) fun F hF0 => oq (OpV.fd fb27_1 rfl rfl) rfl <| oq (OpV.ld kt25 rfl) rfl <| mvq rfl rfl <| oq (OpV.ixS h628 Tryd.underlying25 sz79 rfl rdV rfl) rfl <| oq (OpV.fd fb79_1 rfl rfl) rfl <| oq (OpV.ld kt77 rfl) rfl <| mvq rfl rfl <| oq (OpV.ixS h630 Tryd.underlying77 sz44 rfl rdV rfl) rfl <| oq (OpV.ld kt44 rfl) rfl <| oq (OpV.ld kt44 rfl) rfl <| oq (OpV.eqK eqk44 eqg44 rfl rfl rfl rdV rfl rdV) rfl <| nlq hF0 <| tn <| Under.ite h620 rfl (fun h620 => ?_) (fun h620 => ?_)
      ·refine sr <| ag rfl rfl <| nt <| rc <| Under.bR <| tr ?_
       have e631 := done_eq h620 d621
       subst e631
       refine tr <| Under.bR <| Under.bR <| tr ?_
       have e632 := osi h598
       subst e632
       have e633 := done_eq h557 d558
       subst e633
       refine tr <| Under.bR <| tr ?_
       have e634 := osi h321
       subst e634
       have e635 := osi hF
       subst e635
       exact Under.rets Tryd.results32 (.tm rfl .nil) rfl rfl
      ·exact cs <| bN <| tn <| rg <| mv rfl rfl <| bn rfl rfl rfl rfl <| ag rfl rfl <| nl <| Under.next _ () h620 (s4 rfl rfl rfl rfl) rfl
     ·refine xt <| te ?_
      have e636 := done_eq h620 d621
      subst e636
      exact te <| bh <| bN <| tn <| wk (k599 () (osi h598).symm) (s3 rfl rfl rfl)
   ·refine xt <| te ?_
    have e642 := done_eq h557 d558
    subst e642
    exact te <| bh <| tn <| wk (k322 () (osi h321).symm) (sub_nil _)
/-- churn/churnref21.Fate -/
noncomputable def f_churnref21_Fate (a0 : List Int) (a1 : Int) (a2 : Api_Window) (a3 : List (List Int)) : Option ((List Int) × (List Api_Peeled)) :=
  (((Loop.run (S := ((List Int) × (List Api_Peeled) × Int)) (R := ((List Int) × (List Api_Peeled))) (fun (x3035, x3037, x3038) =>
      bif decide (x3038 < (a3.length : Int)) then
        (((idx a3 x3038).bind fun x3815 =>
        (f_churnref07_Peel a0 a1 x3815).bind fun y3817 =>
        ((bif y3817.2 == 0 then
          (((f_churnref16_Has a2 y3817.1.Replay).bind fun y4060 =>
          bif y4060 then
            some 1
          else
            some 2
            : Option Int)).bind fun x3949 =>
          (Loop.run (S := (Int × Int)) (R := Int) (fun (x4001, x4002) =>
              bif decide (x4002 < x3038) then
                (((idx x3035 x4002).bind fun x4044 =>
                ((bif decide (x4044 > 0) then
                  (idx x3037 x4002).bind fun x4046 =>
                  some (x4046.Replay == y3817.1.Replay)
                else
                  some false
                  : Option Bool)).bind fun x4048 =>
                bif x4048 then
                  some 1
                else
                  some x4001
                  : Option Int)).bind fun x4040 =>
                some (.next (x4040, IntKind.wrap .i64 (x4002 + 1)))
              else
                some (.done x4001)) (x3949, 0)).bind fun x4026 =>
          some x4026
        else
          some 0
          : Option Int)).bind fun x3936 =>
        (app x3035 [x3936]).bind fun z3940 =>
        (app x3037 [y3817.1]).bind fun z3943 =>
        some (z3940, z3943)
          : Option ((List Int) × (List Api_Peeled)))).bind fun r3812 => match r3812 with
          | (x3809, x3811) =>
            some (.next (x3809, x3811, IntKind.wrap .i64 (x3038 + 1)))
      else
        some (.done (x3035, x3037))) ([], [], 0)).bind fun r3554 => match r3554 with
    | (x3550, x3551) =>
      some (x3550, x3551)
    : Option ((List Int) × (List Api_Peeled)))).bind fun r2035 => match r2035 with
    | (x2033, x2034) =>
      some (x2033, x2034)
theorem f_churnref21_Fate_ok {a0 : List Int} {a1 : Int} {a2 : Api_Window} {a3 : List (List Int)} {r0 : ((List Int) × (List Api_Peeled))} (hF : f_churnref21_Fate a0 a1 a2 a3 = some r0) (L : List Res) : Ok Tryd.prog 13 [SV.val K6 a0, SV.raw (.int .i64 a1), SV.val kApi_Window a2, SV.val (kSl K6) a3] (L) (SV.tup [SV.val (kSl (kInt .i64)) r0.1, SV.val (kSl kApi_Peeled) r0.2]) (L) := by
  unfold f_churnref21_Fate at hF
  refine Ok.intro 69 [(0, .val K6 a0), (1, .raw (.int .i64 a1)), (2, .val kApi_Window a2), (3, .val (kSl K6) a3)] Tryd.func13 rfl rfl rfl rfl (fun F0 => ?_)
  obtain ⟨r2035, h2036, hF⟩ := bsome hF
  refine sr <| Under.bxF (K := kApi_Window) rfl rdV rfl <| ag rfl rfl <| ag rfl rfl <| ns <| ag rfl rfl <| ns <| ag rfl rfl <| nt <| sq <| Under.after (fun X => ∀ (x2033 : List Int) (x2034 : List Api_Peeled), r2035 = (x2033, x2034) → Under F0 69 [(10, .val (kSl (kInt .i64)) x2033), (11, .val (kSl kApi_Peeled) x2034)] (L) X) ?_ ?_
  ·intro x2033 x2034 h4073
   replace h4073 := h4073.symm
   subst h4073
   refine sr <| mv rfl rfl <| mv rfl rfl <| ag rfl rfl <| ag rfl rfl <| nt <| rc ?_
   have e2038 := osi hF
   subst e2038
   exact Under.rets Tryd.results13 (.tm rfl (.tm rfl .nil)) rfl rfl
  ·intro K k2037
   obtain ⟨r3554, h3555, h2036⟩ := bsome h2036
   refine sr <| ag rfl rfl <| nt <| bk <| Under.ownNil (K := kInt .i64) (e := 3) <| Under.ownNil (K := kApi_Peeled) (e := 46) <| Under.fo1 <| Under.loop (S := ((List Int) × (List Api_Peeled) × Int)) (C := (Value × Value)) ((.slice none 0 0), (.slice none 0 0)) (fun (x4070 : ((List Int) × (List Api_Peeled) × Int)) (q4071 : (Value × Value)) => [(0, .val K6 a0), (1, .raw (.int .i64 a1)), (3, .val (kSl K6) a3), (6, .ptr kApi_Window a2), (10, .raw q4071.1), (11, .raw q4071.2), (12, .raw (.int .i64 x4070.2.2))]) (fun (x4070 : ((List Int) × (List Api_Peeled) × Int)) (q4071 : (Value × Value)) => (.own (kInt .i64) q4071.1 3 x4070.1) :: (.own kApi_Peeled q4071.2 46 x4070.2.1) :: L) h3555 (s7 rfl rfl rfl rfl rfl rfl rfl) rfl (fun x4070 q4071 o3556 h3552 d3553 => ?_)
   obtain ⟨x3035, x3037, x3038⟩ := x4070
   obtain ⟨v3034, v3036⟩ := q4071
   dsimp only at h3552 ⊢
   refine sq <| sr <| mv rfl rfl <| mv rfl rfl <| ov (OpV.len Tryd.underlying30 rfl rdV) rfl <| bn rfl rfl rfl rfl <| nt <| Under.ite h3552 rfl (fun h3552 => ?_) (fun h3552 => ?_)
   ·obtain ⟨r3812, h3813, h3552⟩ := bsome h3552
    refine ct <| sq <| Under.after (fun X => ∀ (x3809 : List Int) (x3811 : List Api_Peeled) (v3808 : Value) (v3810 : Value), r3812 = (x3809, x3811) → Under F0 69 [(0, .val K6 a0), (1, .raw (.int .i64 a1)), (3, .val (kSl K6) a3), (6, .ptr kApi_Window a2), (10, .raw v3808), (11, .raw v3810), (12, .raw (.int .i64 x3038))] ((.own (kInt .i64) v3808 3 x3809) :: (.own kApi_Peeled v3810 46 x3811) :: L) X) ?_ ?_
    ·intro x3809 x3811 v3808 v3810 h4067
     replace h4067 := h4067.symm
     subst h4067
     exact rg <| mv rfl rfl <| bn rfl rfl rfl rfl <| ag rfl rfl <| nl <| Under.fo1 <| Under.fo1 <| Under.next _ (v3808, v3810) h3552 (s7 rfl rfl rfl rfl rfl rfl rfl) rfl
    ·intro K k3814
     obtain ⟨x3815, h3816, h3813⟩ := bsome h3813
     obtain ⟨y3817, h3818, h3813⟩ := bsome h3813
     obtain ⟨r3937, h3938, h3813⟩ := bsome h3813
     refine bk <| sr <| mv rfl rfl <| mv rfl rfl <| mv rfl rfl <| mv rfl rfl <| ov (OpV.ixS h3816 Tryd.underlying30 sz22 rfl rdV rfl) rfl <| ov (OpV.ld kt22 rfl) rfl <| Under.call Tryd.call31 rfl rfl (f_churnref07_Peel_ok h3818 _) rfl <| mv rfl rfl <| ov (OpV.extr rfl rfl) rfl <| ov (OpV.extr rfl rfl) rfl <| Under.al ZT46 rfl fun b3819 => Under.stP (x' := y3817.1) .box .id sz46_kApi_Peeled rfl rfl rdV rfl <| ag rfl rfl <| nl <| Under.frz (t := 13) rfl <| tn <| sr <| ag rfl rfl <| nt <| sq <| Under.after (fun X => ∀ (x3936 : Int), r3937 = x3936 → Under F0 69 [(0, .val K6 a0), (1, .raw (.int .i64 a1)), (3, .val (kSl K6) a3), (6, .ptr kApi_Window a2), (10, .raw v3034), (11, .raw v3036), (12, .raw (.int .i64 x3038)), (13, .ptr kApi_Peeled y3817.1), (15, .raw (.int .i64 x3936))] ((.own (kInt .i64) v3034 3 x3035) :: (.own kApi_Peeled v3036 46 x3037) :: L) X) ?_ ?_
     ·intro x3936 h4066
      replace h4066 := h4066.symm
      subst h4066
      obtain ⟨z3940, h3941, h3813⟩ := bsome h3813
      obtain ⟨z3943, h3944, h3813⟩ := bsome h3813
      exact sr <| mv rfl rfl <| mv rfl rfl <| Under.bsF (ys := [x3936]) Tryd.underlying57 ET3 (BldA.cons rfl rfl rdI (BldA.nil _)) rfl rfl <| Under.app h3941 Tryd.underlying57 AT3 rfl rfl rdV rfl fun v3942 => ag rfl rfl <| nt <| rg <| mv rfl rfl <| ov (OpV.ld kt46 rfl) rfl <| Under.bsF (ys := [y3817.1]) Tryd.underlying35 ET46 (BldA.cons rfl rfl rdV (BldA.nil _)) rfl rfl <| Under.fo1 <| Under.app h3944 Tryd.underlying35 AT46 rfl rfl rdV rfl fun v3945 => ag rfl rfl <| nl <| bN <| tn <| Under.fo1 <| wk (k3814 _ _ _ _ (osi h3813).symm) (s7 rfl rfl rfl rfl rfl rfl rfl)
     ·intro K k3939
      refine sr <| mv rfl rfl <| bn rfl rfl rfl rfl <| nt <| Under.ite h3938 rfl (fun h3938 => ?_) (fun h3938 => ?_)
      ·obtain ⟨r3950, h3951, h3938⟩ := bsome h3938
       refine sr <| ag rfl rfl <| nt <| sq <| Under.after (fun X => ∀ (x3949 : Int), r3950 = x3949 → Under F0 69 [(0, .val K6 a0), (1, .raw (.int .i64 a1)), (3, .val (kSl K6) a3), (6, .ptr kApi_Window a2), (10, .raw v3034), (11, .raw v3036), (12, .raw (.int .i64 x3038)), (13, .ptr kApi_Peeled y3817.1), (15, .raw (.int .i64 x3949))] ((.own (kInt .i64) v3034 3 x3035) :: (.own kApi_Peeled v3036 46 x3037) :: L) X) ?_ ?_
       ·intro x3949 h4064
        replace h4064 := h4064.symm
        subst h4064
        obtain ⟨r4029, h4030, h3938⟩ := bsome h3938
        refine sr <| ag rfl rfl <| nt <| bk <| Under.fo1 <| Under.fo1 <| Under.loop (S := (Int × Int)) (C := Unit) () (fun (x4057 : (Int × Int)) (q4058 : Unit) => [(0, .val K6 a0), (1, .raw (.int .i64 a1)), (3, .val (kSl K6) a3), (6, .ptr kApi_Window a2), (10, .raw v3034), (11, .raw v3036), (12, .raw (.int .i64 x3038)), (13, .ptr kApi_Peeled y3817.1), (15, .raw (.int .i64 x4057.1)), (16, .raw (.int .i64 x4057.2))]) (fun (x4057 : (Int × Int)) (q4058 : Unit) => (.own (kInt .i64) v3034 3 x3035) :: (.own kApi_Peeled v3036 46 x3037) :: L) h4030 (s10 rfl rfl rfl rfl rfl rfl rfl rfl rfl rfl) rfl (fun x4057 q4058 o4031 h4027 d4028 => ?_)
        obtain ⟨x4001, x4002⟩ := x4057
        dsimp only at h4027 ⊢
        refine sq <| sr <| mv rfl rfl <| mv rfl rfl <| bn rfl rfl rfl rfl <| nt <| Under.ite h4027 rfl (fun h4027 => ?_) (fun h4027 => ?_)
        ·obtain ⟨r4041, h4042, h4027⟩ := bsome h4027
         refine ct <| sq <| Under.after (fun X => ∀ (x4040 : Int), r4041 = x4040 → Under F0 69 [(0, .val K6 a0), (1, .raw (.int .i64 a1)), (3, .val (kSl K6) a3), (6, .ptr kApi_Window a2), (10, .raw v3034), (11, .raw v3036), (12, .raw (.int .i64 x3038)), (13, .ptr kApi_Peeled y3817.1), (15, .raw (.int .i64 x4040)), (16, .raw (.int .i64 x4002))] ((.own (kInt .i64) v3034 3 x3035) :: (.own kApi_Peeled v3036 46 x3037) :: L) X) ?_ ?_
         ·intro x4040 h4054
          replace h4054 := h4054.symm
          subst h4054
          exact rg <| mv rfl rfl <| bn rfl rfl rfl rfl <| ag rfl rfl <| nl <| Under.fo1 <| Under.fo1 <| Under.next _ () h4027 (s10 rfl rfl rfl rfl rfl rfl rfl rfl rfl rfl) rfl
         ·intro K k4043
          obtain ⟨x4044, h4045, h4042⟩ := bsome h4042
          obtain ⟨x4048, h4049, h4042⟩ := bsome h4042
          refine bk <| sq <| Under.drawz [[10], [16], [44, 45], [46], [47], [48], [11, 49], [16, 49], [49, 50, 51], [49, 52], [49, 53], [13, 49], [49, 55], [49, 54, 56], [49, 57]] [(58, .raw (.bool x4048))] rfl (by kernel_rfl) rfl ?_ (fun k F hF0 => ?_)
          ·refine tn <| Under.ite h4042 rfl (fun h4042 => ?_) (fun h4042 => ?_)
           ·exact rg <| ag rfl rfl <| nl <| bN <| tn <| Under.fo1 <| Under.fo1 <| wk (k4043 _ (osi h4042).symm) (s10 rfl rfl rfl rfl rfl rfl rfl rfl rfl rfl)
           ·exact cs <| bN <| tn <| Under.fo1 <| Under.fo1 <| wk (k4043 _ (osi h4042).symm) (s10 rfl rfl rfl rfl rfl rfl rfl rfl rfl rfl)
          ·refine Zq.st (.raw v3034) (fun G hG => ?_) ?_
           ·exact mv rfl rfl <| Zq.done rfl
           refine Zq.st (.raw (.int .i64 x4002)) (fun G hG => ?_) ?_
           ·exact mv rfl rfl <| Zq.done rfl
           refine Zq.st (.raw (.pointer (some ⟨(blkOf v3034), 0 + Int.toNat x4002 * 1, none⟩))) (fun G hG => ?_) ?_
           ·exact ov (OpV.ixO h4045 Tryd.underlying57 sz3_kInt_i64 rfl rfl) rfl <| Zq.done rfl
           refine Zq.st (.raw (.int .i64 x4044)) (fun G hG => ?_) ?_
           ·exact Under.ldP (.own h4045) (.ix .id h4045) kt3_kInt_i64 rfl rfl <| Under.rawI (t := 47) rfl <| Zq.done rfl
           refine Zq.st (.raw (.bool (decide (x4044 > 0)))) (fun G hG => ?_) ?_
           ·exact bn rfl rfl rfl rfl <| Zq.done rfl
           refine Zq.st (.raw (.bool (decide (x4044 > 0)))) (fun G hG => ?_) ?_
           ·exact mv rfl rfl <| Zq.done rfl
           refine Zq.by (decide (x4044 > 0)) (fun c4052 => ?_) (fun c4052 => ?_)
           ·replace h4049 := ctrue c4052 h4049
            obtain ⟨x4046, h4047, h4049⟩ := bsome h4049
            refine Zq.st (.raw v3036) (fun G hG => ?_) ?_
            ·exact gc c4052 rfl rfl <| mv rfl rfl <| Zq.done rfl
            refine Zq.st (.raw (.int .i64 x4002)) (fun G hG => ?_) ?_
            ·exact gc c4052 rfl rfl <| mv rfl rfl <| Zq.done rfl
            refine Zq.st (.raw (.pointer (some ⟨(blkOf v3036), 0 + Int.toNat x4002 * 17, none⟩))) (fun G hG => ?_) ?_
            ·exact gc c4052 rfl rfl <| Under.fo1 <| ov (OpV.ixO h4047 Tryd.underlying35 sz46_kApi_Peeled rfl rfl) rfl <| Under.fo1 <| Zq.done rfl
            refine Zq.st (.raw (.pointer (some ⟨(blkOf v3036), 0 + Int.toNat x4002 * 17 + 1, none⟩))) (fun G hG => ?_) ?_
            ·exact gc c4052 rfl rfl <| ov (OpV.fdM fm46_1 rfl) rfl <| Zq.done rfl
            refine Zq.st (.val K4 x4046.Replay) (fun G hG => ?_) ?_
            ·exact gc c4052 rfl rfl <| Under.fo1 <| Under.ldP (.own h4047) (.fld (.ix .id h4047) uf_Api_Peeled_1) kt44_kArr_16_kInt_u8_ rfl rfl <| Under.fo1 <| Zq.done rfl
            refine Zq.st (.ptr K4 y3817.1.Replay) (fun G hG => ?_) ?_
            ·exact gc c4052 rfl rfl <| ov (OpV.fd fb46_1 rfl rfl) rfl <| Zq.done rfl
            refine Zq.st (.val K4 y3817.1.Replay) (fun G hG => ?_) ?_
            ·exact gc c4052 rfl rfl <| ov (OpV.ld kt44 rfl) rfl <| Zq.done rfl
            refine Zq.st (.raw (.bool (x4046.Replay == y3817.1.Replay))) (fun G hG => ?_) ?_
            ·exact gc c4052 rfl rfl <| ov (OpV.eqK eqk44 eqg44 rfl rfl rfl rdV rfl rdV) rfl <| Zq.done rfl
            refine Zq.st (.raw (.bool x4048)) (fun G hG => ?_) ?_
            ·exact ov (pkT c4052 rfl rfl) rfl <| Under.top (rbq h4049) <| Zq.done rfl
            exact Zq.nil (Zq.fin 15 hF0 (SubZ.cons rfl rfl SubZ.nil) rfl k)
           ·replace h4049 := cfalse c4052 h4049
            refine Zq.st (.raw undef) (fun G hG => ?_) ?_
            ·exact sk c4052 rfl rfl rfl <| Zq.done rfl
            refine Zq.st (.raw undef) (fun G hG => ?_) ?_
            ·exact sk c4052 rfl rfl rfl <| Zq.done rfl
            refine Zq.st (.raw undef) (fun G hG => ?_) ?_
            ·exact sk c4052 rfl rfl rfl <| Zq.done rfl
            refine Zq.st (.raw undef) (fun G hG => ?_) ?_
            ·exact sk c4052 rfl rfl rfl <| Zq.done rfl
            refine Zq.st (.raw undef) (fun G hG => ?_) ?_
            ·exact sk c4052 rfl rfl rfl <| Zq.done rfl
            refine Zq.st (.raw undef) (fun G hG => ?_) ?_
            ·exact sk c4052 rfl rfl rfl <| Zq.done rfl
            refine Zq.st (.raw undef) (fun G hG => ?_) ?_
            ·exact sk c4052 rfl rfl rfl <| Zq.done rfl
            refine Zq.st (.raw undef) (fun G hG => ?_) ?_
            ·exact sk c4052 rfl rfl rfl <| Zq.done rfl
            refine Zq.st (.raw (.bool x4048)) (fun G hG => ?_) ?_
            ·exact ov (pkF c4052 rfl rfl) rfl <| Under.top (rbq h4049) <| Zq.done rfl
            have c4053 := (osi h4049).symm
            exact Zq.nil (Zq.fin 15 hF0 (SubZ.cons rfl rfl SubZ.nil) rfl k)
        ·refine xt <| te ?_
         have e4055 := done_eq h4027 d4028
         subst e4055
         exact te <| bh <| tn <| Under.fo1 <| Under.fo1 <| wk (k3939 _ (osi h3938).symm) (s9 rfl rfl rfl rfl rfl rfl rfl rfl rfl)
       ·intro K k3952
        obtain ⟨y4060, h4061, h3951⟩ := bsome h3951
        refine sr <| ov (OpV.ld kt27 rfl) rfl <| ov (OpV.fd fb46_1 rfl rfl) rfl <| ov (OpV.ld kt44 rfl) rfl <| Under.call Tryd.call32 rfl rfl (f_churnref16_Has_ok h4061 _) rfl <| nt <| Under.ite h3951 rfl (fun h3951 => ?_) (fun h3951 => ?_)
        ·exact rg <| ag rfl rfl <| nt <| Under.fo1 <| Under.fo1 <| wk (k3952 _ (osi h3951).symm) (s9 rfl rfl rfl rfl rfl rfl rfl rfl rfl)
        ·exact ct <| Under.fo1 <| Under.fo1 <| wk (k3952 _ (osi h3951).symm) (s9 rfl rfl rfl rfl rfl rfl rfl rfl rfl)
      ·exact ct <| Under.fo1 <| Under.fo1 <| wk (k3939 _ (osi h3938).symm) (s9 rfl rfl rfl rfl rfl rfl rfl rfl rfl)
   ·refine Under.frzO (t := 10) rfl <| Under.frzO (t := 11) rfl <| xt <| te ?_
    have e4068 := done_eq h3552 d3553
    subst e4068
    exact te <| bh <| tn <| wk (k2037 _ _ (osi h2036).symm) (s2 rfl rfl)
/-- churn/churnref21.Sift -/
noncomputable def f_churnref21_Sift (a0 : Api_Config) (a1 : Api_Window) (a2 : Api_Batch) : Option ((List Api_Peeled) × Api_Report × Int) :=
  (f_churnref21_Right a0).bind fun y2 =>
  bif !y2 then
    some ([], (⟨(0 : Int), (0 : Int), (0 : Int), (0 : Int), (0 : Int)⟩ : Api_Report), 210)
  else
    (f_churnref08_Key a0.Master a2.Header.Epoch).bind fun y5 =>
    bif y5.2 != 0 then
      some ([], (⟨(0 : Int), (0 : Int), (0 : Int), (0 : Int), (0 : Int)⟩ : Api_Report), y5.2)
    else
      (f_churnref21_Fate y5.1 a0.Left a1 a2.Cells).bind fun y8 =>
      (((Loop.run (S := ((List Api_Peeled) × Int × Api_Report)) (R := (Api_Report × (List Api_Peeled))) (fun (x191, x192, x193) =>
          bif decide (x192 < (y8.1.length : Int)) then
            (((idx y8.1 x192).bind fun x239 =>
            bif x239 == 0 then
              some (x191, ({ x193 with Malformed := IntKind.wrap .i64 (x193.Malformed + 1) } : Api_Report))
            else
              bif x239 == 1 then
                some (x191, ({ x193 with Replays := IntKind.wrap .i64 (x193.Replays + 1) } : Api_Report))
              else
                bif x239 == 2 then
                  (idx y8.2 x192).bind fun x243 =>
                  (app x191 [x243]).bind fun z245 =>
                  some (z245, x193)
                else
                  some (x191, x193)
              : Option ((List Api_Peeled) × Api_Report))).bind fun r236 => match r236 with
              | (x234, x235) =>
                some (.next (x234, IntKind.wrap .i64 (x192 + 1), x235))
          else
            some (.done (x193, x191))) ([], 0, (⟨(a2.Cells.length : Int), (0 : Int), (0 : Int), (0 : Int), (0 : Int)⟩ : Api_Report))).bind fun r223 => match r223 with
        | (x219, x220) =>
          some (x219, x220)
        : Option (Api_Report × (List Api_Peeled)))).bind fun r131 => match r131 with
        | (x129, x130) =>
          some (x130, x129, 0)
theorem f_churnref21_Sift_ok {a0 : Api_Config} {a1 : Api_Window} {a2 : Api_Batch} {r0 : ((List Api_Peeled) × Api_Report × Int)} (hF : f_churnref21_Sift a0 a1 a2 = some r0) (L : List Res) : Ok Tryd.prog 6 [SV.val kApi_Config a0, SV.val kApi_Window a1, SV.val kApi_Batch a2] (L) (SV.tup [SV.val (kSl kApi_Peeled) r0.1, SV.val kApi_Report r0.2.1, SV.raw (.int .i64 r0.2.2)]) (L) := by
  unfold f_churnref21_Sift at hF
  refine Ok.intro 80 [(0, .val kApi_Config a0), (1, .val kApi_Window a1), (2, .val kApi_Batch a2)] Tryd.func6 rfl rfl rfl rfl (fun F0 => ?_)
  obtain ⟨y2, h3, hF⟩ := bsome hF
  refine sr <| Under.bxF (K := kApi_Config) rfl rdV rfl <| Under.bxF (K := kApi_Window) rfl rdV rfl <| Under.bxF (K := kApi_Batch) rfl rdV rfl <| ag rfl rfl <| Under.al ZT37 rfl fun b1 => ag rfl rfl <| nt <| sq <| sr <| ov (OpV.ld kt24 rfl) rfl <| Under.call Tryd.call11 rfl rfl (f_churnref21_Right_ok h3 _) rfl <| ov (OpV.not rfl) rfl <| nt <| Under.ite hF rfl (fun hF => ?_) (fun hF => ?_)
  ·refine sr <| ov (OpV.bst BT37 (Bld.nil _)) rfl <| ag rfl rfl <| Under.stP (x' := (⟨(0 : Int), (0 : Int), (0 : Int), (0 : Int), (0 : Int)⟩ : Api_Report)) .box .id sz37_kApi_Report rfl rfl rdV rfl <| ag rfl rfl <| nl <| Under.frz (t := 7) rfl <| tn <| rt <| Under.toV (K := kSl kApi_Peeled) (x := []) (t := 6) rfl rdN ?_
   have e4 := osi hF
   subst e4
   exact Under.rets Tryd.results6 (.tm rfl (.ce rfl kt37 (.tm rfl .nil))) rfl rfl
  ·obtain ⟨y5, h6, hF⟩ := bsome hF
   refine ct <| sr <| ov (OpV.fd fb24_0 rfl rfl) rfl <| ov (OpV.ld kt22 rfl) rfl <| ov (OpV.fd fb32_0 rfl rfl) rfl <| ov (OpV.fd fb29_1 rfl rfl) rfl <| ov (OpV.ldI kt2 rfl) rfl <| Under.call Tryd.call12 rfl rfl (f_churnref08_Key_ok h6 _) rfl <| mv rfl rfl <| ov (OpV.extr rfl rfl) rfl <| ov (OpV.extr rfl rfl) rfl <| ag rfl rfl <| ag rfl rfl <| nt <| sq <| sr <| mv rfl rfl <| bn rfl rfl rfl rfl <| nt <| Under.ite hF rfl (fun hF => ?_) (fun hF => ?_)
   ·refine sr <| ov (OpV.bst BT37 (Bld.nil _)) rfl <| mv rfl rfl <| ag rfl rfl <| Under.stP (x' := (⟨(0 : Int), (0 : Int), (0 : Int), (0 : Int), (0 : Int)⟩ : Api_Report)) .box .id sz37_kApi_Report rfl rfl rdV rfl <| ag rfl rfl <| nl <| Under.frz (t := 7) rfl <| tn <| rt <| Under.toV (K := kSl kApi_Peeled) (x := []) (t := 6) rfl rdN ?_
    have e7 := osi hF
    subst e7
    exact Under.rets Tryd.results6 (.tm rfl (.ce rfl kt37 (.tm rfl .nil))) rfl rfl
   ·obtain ⟨y8, h9, hF⟩ := bsome hF
    obtain ⟨r131, h132, hF⟩ := bsome hF
    refine ct <| sr <| mv rfl rfl <| ov (OpV.fd fb24_1 rfl rfl) rfl <| ov (OpV.ldI kt3 rfl) rfl <| ov (OpV.ld kt27 rfl) rfl <| ov (OpV.fd fb32_1 rfl rfl) rfl <| ov (OpV.ld kt30 rfl) rfl <| Under.call Tryd.call13 rfl rfl (f_churnref21_Fate_ok h9 _) rfl <| mv rfl rfl <| ov (OpV.extr rfl rfl) rfl <| ov (OpV.extr rfl rfl) rfl <| ag rfl rfl <| ag rfl rfl <| ns <| ov (OpV.fd fb32_1 rfl rfl) rfl <| ov (OpV.ld kt30 rfl) rfl <| ov (OpV.len Tryd.underlying30 rfl rdV) rfl <| ov (OpV.bst BT37 (Bld.cons (x' := (⟨(a2.Cells.length : Int), (0 : Int), (0 : Int), (0 : Int), (0 : Int)⟩ : Api_Report)) rfl rfl rdI (by intro q hq; simp only [List.mem_cons, List.not_mem_nil, or_false] at hq; rcases hq with rfl | rfl | rfl | rfl <;> rfl) (Bld.nil _))) rfl <| Under.al ZT37 rfl fun b10 => Under.stP (x' := (⟨(a2.Cells.length : Int), (0 : Int), (0 : Int), (0 : Int), (0 : Int)⟩ : Api_Report)) .box .id sz37_kApi_Report rfl rfl rdV rfl <| ns <| ag rfl rfl <| nt <| sq <| Under.after (fun X => ∀ (x129 : Api_Report) (x130 : List Api_Peeled), r131 = (x129, x130) → Under F0 80 [(7, .raw (.pointer (some ⟨b1, 0, none⟩))), (13, .ptr kApi_Report x129), (14, .val (kSl kApi_Peeled) x130)] ((.box kApi_Report b1 37 (⟨(0 : Int), (0 : Int), (0 : Int), (0 : Int), (0 : Int)⟩ : Api_Report)) :: L) X) ?_ ?_
    ·intro x129 x130 h256
     replace h256 := h256.symm
     subst h256
     refine sq <| Under.phases rfl <| Under.grpT (L := L) [0, 1, 2] [[14], [13], [78]] [⟨sk0 (.val (kSl kApi_Peeled) x130), [], [], []⟩, ⟨sk0 (.val kApi_Report x129), [], [], []⟩, ⟨sk0 (.val (kSl kApi_Peeled) x130), [], [], []⟩] [] (fun T : List Res => (.box kApi_Report b1 37 (⟨(0 : Int), (0 : Int), (0 : Int), (0 : Int), (0 : Int)⟩ : Api_Report)) :: T) lf1 rfl (by kernel_rfl) rfl rfl (fun F hF0 bs134 => ?_)
     refine Tq.v (fun G T hG => ?_) ?_
     ·exact mv rfl rfl <| Tq.end undef rfl rfl
     refine Tq.v (fun G T hG => ?_) ?_
     ·exact ov (OpV.ld kt37 rfl) rfl <| Tq.end undef rfl rfl
     refine Tq.v (fun G T hG => ?_) ?_
     ·exact ag rfl rfl <| Tq.end undef rfl rfl
     refine Tq.nil <| Under.le hF0 <| Under.p1 3 rfl rfl <| Under.stP (x' := x129) .box .id sz37_kApi_Report rfl rfl rdV rfl <| Under.pn <| Under.p1 4 rfl rfl <| ag rfl rfl <| Under.pn <| Under.pdone rfl <| Under.frz (t := 7) rfl <| tn <| rc ?_
     have e135 := osi hF
     subst e135
     exact Under.rets Tryd.results6 (.tm rfl (.ce rfl kt37 (.tm rfl .nil))) rfl rfl
    ·intro K k133
     obtain ⟨r223, h224, h132⟩ := bsome h132
     refine sr <| ag rfl rfl <| nt <| bk <| Under.ownNil (K := kApi_Peeled) (e := 46) <| Under.fo1 <| Under.fo2 <| Under.fo2 <| Under.loop (S := ((List Api_Peeled) × Int × Api_Report)) (C := Value) (.slice none 0 0) (fun (x253 : ((List Api_Peeled) × Int × Api_Report)) (q254 : Value) => [(7, .raw (.pointer (some ⟨b1, 0, none⟩))), (11, .val (kSl (kInt .i64)) y8.1), (12, .val (kSl kApi_Peeled) y8.2), (13, .raw (.pointer (some ⟨b10, 0, none⟩))), (14, .raw q254), (15, .raw (.int .i64 x253.2.1))]) (fun (x253 : ((List Api_Peeled) × Int × Api_Report)) (q254 : Value) => (.own kApi_Peeled q254 46 x253.1) :: (.box kApi_Report b1 37 (⟨(0 : Int), (0 : Int), (0 : Int), (0 : Int), (0 : Int)⟩ : Api_Report)) :: (.box kApi_Report b10 37 x253.2.2) :: L) h224 (s6 rfl rfl rfl rfl rfl rfl) rfl (fun x253 q254 o225 h221 d222 => ?_)
     obtain ⟨x191, x192, x193⟩ := x253
     dsimp only at h221 ⊢
     refine sq <| sr <| mv rfl rfl <| mv rfl rfl <| ov (OpV.len Tryd.underlying57 rfl rdV) rfl <| bn rfl rfl rfl rfl <| nt <| Under.ite h221 rfl (fun h221 => ?_) (fun h221 => ?_)
     ·obtain ⟨r236, h237, h221⟩ := bsome h221
      refine ct <| sq <| Under.after (fun X => ∀ (x234 : List Api_Peeled) (x235 : Api_Report) (v233 : Value), r236 = (x234, x235) → Under F0 80 [(7, .raw (.pointer (some ⟨b1, 0, none⟩))), (11, .val (kSl (kInt .i64)) y8.1), (12, .val (kSl kApi_Peeled) y8.2), (13, .raw (.pointer (some ⟨b10, 0, none⟩))), (14, .raw v233), (15, .raw (.int .i64 x192))] ((.own kApi_Peeled v233 46 x234) :: (.box kApi_Report b1 37 (⟨(0 : Int), (0 : Int), (0 : Int), (0 : Int), (0 : Int)⟩ : Api_Report)) :: (.box kApi_Report b10 37 x235) :: L) X) ?_ ?_
      ·intro x234 x235 v233 h250
       replace h250 := h250.symm
       subst h250
       exact rg <| mv rfl rfl <| bn rfl rfl rfl rfl <| ag rfl rfl <| nl <| Under.fo2 <| Under.fo2 <| Under.fo2 <| Under.next _ v233 h221 (s6 rfl rfl rfl rfl rfl rfl) rfl
      ·intro K k238
       obtain ⟨x239, h240, h237⟩ := bsome h237
       refine bk <| sr <| mv rfl rfl <| mv rfl rfl <| ov (OpV.ixS h240 Tryd.underlying57 sz3 rfl rdV rfl) rfl <| ov (OpV.ldI kt3 rfl) rfl <| nt <| bk <| sr <| bn rfl rfl rfl rfl <| ag rfl rfl <| nt <| Under.ite h237 rfl (fun h237 => ?_) (fun h237 => ?_)
       ·exact rg <| ov (OpV.fdM fm37_1 rfl) rfl <| Under.fo2 <| Under.ldP .box (.fld .id uf_Api_Report_1) kt3_kInt_i64 rfl rfl <| Under.rawI (t := 60) rfl <| bn rfl rfl rfl rfl <| ov (OpV.fdM fm37_1 rfl) rfl <| Under.stP (x' := ({ x193 with Malformed := IntKind.wrap .i64 (x193.Malformed + 1) } : Api_Report)) .box (.fld .id uf_Api_Report_1) sz3_kInt_i64 rfl rfl rdI rfl <| nl <| bN <| bN <| tn <| Under.fo2 <| Under.fo2 <| wk (k238 _ _ _ (osi h237).symm) (s6 rfl rfl rfl rfl rfl rfl)
       ·refine sr <| bn rfl rfl rfl rfl <| ag rfl rfl <| nt <| Under.ite h237 rfl (fun h237 => ?_) (fun h237 => ?_)
        ·exact rg <| ov (OpV.fdM fm37_2 rfl) rfl <| Under.fo2 <| Under.ldP .box (.fld .id uf_Api_Report_2) kt3_kInt_i64 rfl rfl <| Under.rawI (t := 66) rfl <| bn rfl rfl rfl rfl <| ov (OpV.fdM fm37_2 rfl) rfl <| Under.stP (x' := ({ x193 with Replays := IntKind.wrap .i64 (x193.Replays + 1) } : Api_Report)) .box (.fld .id uf_Api_Report_2) sz3_kInt_i64 rfl rfl rdI rfl <| nl <| bN <| bN <| tn <| Under.fo2 <| Under.fo2 <| wk (k238 _ _ _ (osi h237).symm) (s6 rfl rfl rfl rfl rfl rfl)
        ·refine sr <| bn rfl rfl rfl rfl <| ag rfl rfl <| nt <| Under.ite h237 rfl (fun h237 => ?_) (fun h237 => ?_)
         ·obtain ⟨x243, h244, h237⟩ := bsome h237
          obtain ⟨z245, h246, h237⟩ := bsome h237
          exact rg <| mv rfl rfl <| mv rfl rfl <| mv rfl rfl <| ov (OpV.ixS h244 Tryd.underlying35 sz46 rfl rdV rfl) rfl <| ov (OpV.ld kt46 rfl) rfl <| Under.bsF (ys := [x243]) Tryd.underlying35 ET46 (BldA.cons rfl rfl rdV (BldA.nil _)) rfl rfl <| Under.app h246 Tryd.underlying35 AT46 rfl rfl rdV rfl fun v247 => ag rfl rfl <| nl <| bN <| bN <| tn <| Under.fo2 <| Under.fo2 <| Under.fo2 <| wk (k238 _ _ _ (osi h237).symm) (s6 rfl rfl rfl rfl rfl rfl)
         ·exact cs <| bN <| bN <| tn <| Under.fo2 <| Under.fo2 <| Under.fo2 <| wk (k238 _ _ _ (osi h237).symm) (s6 rfl rfl rfl rfl rfl rfl)
     ·refine Under.fo2 <| Under.frz (t := 13) rfl <| Under.frzO (t := 14) rfl <| xt <| te ?_
      have e251 := done_eq h221 d222
      subst e251
      exact te <| bh <| tn <| wk (k133 _ _ (osi h132).symm) (s3 rfl rfl rfl)
/-- churn/churnlaw21.RoundSifts -/
noncomputable def f_churnlaw21_RoundSifts (a0 : Churnlaw21_Batch) : Option Bool :=
  (f_churnlaw21_plain).bind fun y1 =>
  (f_round_Sift y1 (⟨(0 : Int), []⟩ : Api_Window) (⟨(⟨(0 : Int), (0 : Int), (0 : Int)⟩ : Api_Header), [[]]⟩ : Api_Batch)).bind fun y3 =>
  bif ((y3.2.2 != 0) || (y3.2.1.In != 1)) || (y3.2.1.Malformed != 1) then
    some false
  else
    bif decide ((a0.B.Cells.length : Int) > 2000) then
      some true
    else
      (f_churnref21_Sift a0.C a0.W a0.B).bind fun y14 =>
      (f_round_Sift a0.C a0.W a0.B).bind fun y17 =>
      bif ((y17.2.2 != y14.2.2) || (y17.2.1 != y14.2.1)) || ((y17.1.length : Int) != (y14.1.length : Int)) then
        some false
      else
        (((Loop.run (S := Int) (R := (Unit ⊕ Bool)) (fun x108 =>
            bif decide (x108 < (y17.1.length : Int)) then
              (idx y17.1 x108).bind fun x125 =>
              (idx y14.1 x108).bind fun x127 =>
              ((bif (strB x125.Cell) != (strB x127.Cell) then
                some true
              else
                (idx y17.1 x108).bind fun x132 =>
                (idx y14.1 x108).bind fun x134 =>
                some (x132.Replay != x134.Replay)
                : Option Bool)).bind fun x131 =>
              bif x131 then
                some (.done (.inr false))
              else
                some (.next (IntKind.wrap .i64 (x108 + 1)))
            else
              some (.done (.inl ()))) 0).bind fun r122 => match r122 with
          | .inl _ =>
            some (.inr ())
          | .inr z =>
            some (.inl z)
          : Option (Bool ⊕ Unit))).bind fun r81 => match r81 with
          | .inl z =>
            some z
          | .inr _ =>
            some true
theorem f_churnlaw21_RoundSifts_ok {a0 : Churnlaw21_Batch} {r0 : Bool} (hF : f_churnlaw21_RoundSifts a0 = some r0) (L : List Res) : Ok Tryd.prog 3 [SV.val kChurnlaw21_Batch a0] (L) (SV.raw (.bool r0)) (L) := by
  unfold f_churnlaw21_RoundSifts at hF
  refine Ok.intro 106 [(0, .val kChurnlaw21_Batch a0)] Tryd.func3 rfl rfl rfl rfl (fun F0 => ?_)
  obtain ⟨y1, h2, hF⟩ := bsome hF
  obtain ⟨y3, h4, hF⟩ := bsome hF
  refine sr <| Under.bxF (K := kChurnlaw21_Batch) rfl rdV rfl <| ag rfl rfl <| ns <| Under.call Tryd.call5 rfl rfl (f_churnlaw21_plain_ok h2 _) rfl <| ov (OpV.bst BT27 (Bld.nil _)) rfl <| Under.bsF (ys := [[]]) Tryd.underlying30 ET22 (BldA.cons rfl rfl rdN (BldA.nil _)) rfl rfl <| ov (OpV.bst BT32 (Bld.cons (x' := (⟨(⟨(0 : Int), (0 : Int), (0 : Int)⟩ : Api_Header), [[]]⟩ : Api_Batch)) rfl rfl rdV ⟨rfl, (fun q hq => by simp at hq)⟩ (Bld.nil _))) rfl <| Under.call Tryd.call4 rfl rfl (f_round_Sift_ok h4 _) rfl <| mv rfl rfl <| ov (OpV.extr rfl rfl) rfl <| ov (OpV.extr rfl rfl) rfl <| ov (OpV.extr rfl rfl) rfl <| Under.al ZT37 rfl fun b5 => ag rfl rfl <| Under.stP (x' := y3.2.1) .box .id sz37_kApi_Report rfl rfl rdV rfl <| ag rfl rfl <| nt <| sq <| sr <| mv rfl rfl <| bn rfl rfl rfl rfl <| mv rfl rfl <| runj_4 26 ((y3.2.2 != 0) || (y3.2.1.In != 1)) ?_ (fun k => ?_)
  ·refine mv rfl rfl <| runj_4 31 (((y3.2.2 != 0) || (y3.2.1.In != 1)) || (y3.2.1.Malformed != 1)) ?_ (fun k => ?_)
   ·refine nt <| Under.ite hF rfl (fun hF => ?_) (fun hF => ?_)
    ·refine dr <| sr <| ag rfl rfl <| nt <| rt ?_
     have e12 := osi hF
     subst e12
     exact Under.rets Tryd.results3 (.tm rfl .nil) rfl rfl
    ·refine ct <| sq <| sr <| ov (OpV.fd fb34_2 rfl rfl) rfl <| ov (OpV.fd fb32_1 rfl rfl) rfl <| ov (OpV.ld kt30 rfl) rfl <| ov (OpV.len Tryd.underlying30 rfl rdV) rfl <| bn rfl rfl rfl rfl <| nt <| Under.ite hF rfl (fun hF => ?_) (fun hF => ?_)
     ·refine dr <| sr <| ag rfl rfl <| nt <| rt ?_
      have e13 := osi hF
      subst e13
      exact Under.rets Tryd.results3 (.tm rfl .nil) rfl rfl
     ·obtain ⟨y14, h15, hF⟩ := bsome hF
      obtain ⟨y17, h18, hF⟩ := bsome hF
      refine ct <| sr <| ov (OpV.fd fb34_0 rfl rfl) rfl <| ov (OpV.ld kt24 rfl) rfl <| ov (OpV.fd fb34_1 rfl rfl) rfl <| ov (OpV.ld kt27 rfl) rfl <| ov (OpV.fd fb34_2 rfl rfl) rfl <| ov (OpV.ld kt32 rfl) rfl <| Under.call Tryd.call6 rfl rfl (f_churnref21_Sift_ok h15 _) rfl <| mv rfl rfl <| ov (OpV.extr rfl rfl) rfl <| ov (OpV.extr rfl rfl) rfl <| ov (OpV.extr rfl rfl) rfl <| Under.al ZT37 rfl fun b16 => ag rfl rfl <| Under.stP (x' := y14.2.1) .box .id sz37_kApi_Report rfl rfl rdV rfl <| ag rfl rfl <| nl <| Under.frz (t := 7) rfl <| tn <| sr <| ov (OpV.fd fb34_0 rfl rfl) rfl <| ov (OpV.ld kt24 rfl) rfl <| ov (OpV.fd fb34_1 rfl rfl) rfl <| ov (OpV.ld kt27 rfl) rfl <| ov (OpV.fd fb34_2 rfl rfl) rfl <| ov (OpV.ld kt32 rfl) rfl <| Under.call Tryd.call4 rfl rfl (f_round_Sift_ok h18 _) rfl <| mv rfl rfl <| ov (OpV.extr rfl rfl) rfl <| ov (OpV.extr rfl rfl) rfl <| ov (OpV.extr rfl rfl) rfl <| ag rfl rfl <| Under.stP (x' := y17.2.1) .box .id sz37_kApi_Report rfl rfl rdV rfl <| ag rfl rfl <| nl <| Under.frz (t := 4) rfl <| tn <| sq <| sr <| mv rfl rfl <| mv rfl rfl <| bn rfl rfl rfl rfl <| mv rfl rfl <| runj_4 66 ((y17.2.2 != y14.2.2) || (y17.2.1 != y14.2.1)) ?_ (fun k => ?_)
      ·refine mv rfl rfl <| runj_6 73 (((y17.2.2 != y14.2.2) || (y17.2.1 != y14.2.1)) || ((y17.1.length : Int) != (y14.1.length : Int))) ?_ (fun k => ?_)
       ·refine nt <| Under.ite hF rfl (fun hF => ?_) (fun hF => ?_)
        ·refine sr <| ag rfl rfl <| nt <| rt ?_
         have e25 := osi hF
         subst e25
         exact Under.rets Tryd.results3 (.tm rfl .nil) rfl rfl
        ·obtain ⟨r81, h82, hF⟩ := bsome hF
         refine ct <| sq <| Under.after (fun X => ∀ (_ : Unit), r81 = (.inr ()) → Under F0 106 [] (L) X) ?_ ?_
         ·intro _ h144
          replace h144 := h144.symm
          subst h144
          refine sr <| ag rfl rfl <| nt <| rc ?_
          have e84 := osi hF
          subst e84
          exact Under.rets Tryd.results3 (.tm rfl .nil) rfl rfl
         ·intro K k83
          obtain ⟨r122, h123, h82⟩ := bsome h82
          refine sr <| ag rfl rfl <| nt <| bk <| Under.loop (S := Int) (C := Unit) () (fun (x141 : Int) (q142 : Unit) => [(6, .val (kSl kApi_Peeled) y14.1), (9, .val (kSl kApi_Peeled) y17.1), (10, .raw (.int .i64 x141))]) (fun (x141 : Int) (q142 : Unit) => L) h123 (s3 rfl rfl rfl) rfl (fun x141 q142 o124 h120 d121 => ?_)
          refine sq <| sr <| mv rfl rfl <| mv rfl rfl <| ov (OpV.len Tryd.underlying35 rfl rdV) rfl <| bn rfl rfl rfl rfl <| nt <| Under.ite h120 rfl (fun h120 => ?_) (fun h120 => ?_)
          ·obtain ⟨x125, h126, h120⟩ := bsome h120
           obtain ⟨x127, h128, h120⟩ := bsome h120
           obtain ⟨x131, h130, h120⟩ := bsome h120
           refine ct <| sq <| bk <| sq <| dw rfl (by kernel_rfl) fun F hF0 => mvq rfl rfl <| mvq rfl rfl <| oq (OpV.ixS h126 Tryd.underlying35 sz46 rfl rdV rfl) rfl <| oq (OpV.fd fb46_0 rfl rfl) rfl <| oq (OpV.ld kt22 rfl) rfl <| oq (OpV.b2s Tryd.underlying22 Tryd.underlying5 Tryd.underlying9 rfl rdV) rfl <| mvq rfl rfl <| mvq rfl rfl <| oq (OpV.ixS h128 Tryd.underlying35 sz46 rfl rdV rfl) rfl <| oq (OpV.fd fb46_0 rfl rfl) rfl <| oq (OpV.ld kt22 rfl) rfl <| oq (OpV.b2s Tryd.underlying22 Tryd.underlying5 Tryd.underlying9 rfl rdV) rfl <| oq (OpV.eqS Tryd.underlying9 rfl rdV rfl rdV (.inr rfl)) rfl <| mvq rfl rfl <| runj_12q 105 x131 ?_ (fun k => ?_)
           ·refine nlq hF0 <| tn <| Under.ite h120 rfl (fun h120 => ?_) (fun h120 => ?_)
            ·refine sr <| ag rfl rfl <| nt <| rc <| Under.bR <| tr ?_
             have e136 := done_eq h120 d121
             subst e136
             refine tr <| Under.bR <| tr ?_
             have e137 := osi h82
             subst e137
             have e138 := osi hF
             subst e138
             exact Under.rets Tryd.results3 (.tm rfl .nil) rfl rfl
            ·exact cs <| bN <| tn <| rg <| mv rfl rfl <| bn rfl rfl rfl rfl <| ag rfl rfl <| nl <| Under.next _ () h120 (s3 rfl rfl rfl) rfl
           ·refine byq (t := 93) rfl (fun c129 => ?_) (fun c129 => ?_)
            ·replace h130 := ctrue c129 h130
             exact skq c129 rfl rfl rfl <| skq c129 rfl rfl rfl <| skq c129 rfl rfl rfl <| skq c129 rfl rfl rfl <| skq c129 rfl rfl rfl <| skq c129 rfl rfl rfl <| skq c129 rfl rfl rfl <| skq c129 rfl rfl rfl <| skq c129 rfl rfl rfl <| skq c129 rfl rfl rfl <| skq c129 rfl rfl rfl <| oq (pkT c129 rfl rfl) rfl <| rfq 11 (rbq h130) rfl k
            ·replace h130 := cfalse c129 h130
             obtain ⟨x132, h133, h130⟩ := bsome h130
             obtain ⟨x134, h135, h130⟩ := bsome h130
             exact gq c129 rfl rfl <| mvq rfl rfl <| gq c129 rfl rfl <| mvq rfl rfl <| gq c129 rfl rfl <| oq (OpV.ixS h133 Tryd.underlying35 sz46 rfl rdV rfl) rfl <| gq c129 rfl rfl <| oq (OpV.fd fb46_1 rfl rfl) rfl <| gq c129 rfl rfl <| oq (OpV.ld kt44 rfl) rfl <| gq c129 rfl rfl <| mvq rfl rfl <| gq c129 rfl rfl <| mvq rfl rfl <| gq c129 rfl rfl <| oq (OpV.ixS h135 Tryd.underlying35 sz46 rfl rdV rfl) rfl <| gq c129 rfl rfl <| oq (OpV.fd fb46_1 rfl rfl) rfl <| gq c129 rfl rfl <| oq (OpV.ld kt44 rfl) rfl <| gq c129 rfl rfl <| oq (OpV.neK eqk44 eqg44 rfl rfl rfl rdV rfl rdV) rfl <| oq (pkF c129 rfl rfl) rfl <| rfq 11 (rbq h130) rfl k
          ·refine xt <| te ?_
           have e139 := done_eq h120 d121
           subst e139
           exact te <| bh <| tn <| wk (k83 () (osi h82).symm) (sub_nil _)
       ·refine by_ (t := 67) rfl (fun c22 => ?_) (fun c22 => ?_)
        ·exact sk c22 rfl rfl rfl <| sk c22 rfl rfl rfl <| sk c22 rfl rfl rfl <| sk c22 rfl rfl rfl <| sk c22 rfl rfl rfl <| ov (pkT c22 rfl rfl) rfl <| rf 5 (or_t (e := (y17.1.length : Int) != (y14.1.length : Int)) c22) rfl k
        ·exact gc c22 rfl rfl <| mv rfl rfl <| gc c22 rfl rfl <| ov (OpV.len Tryd.underlying35 rfl rdV) rfl <| gc c22 rfl rfl <| mv rfl rfl <| gc c22 rfl rfl <| ov (OpV.len Tryd.underlying35 rfl rdV) rfl <| gc c22 rfl rfl <| bn rfl rfl rfl rfl <| ov (pkF c22 rfl rfl) rfl <| rf 5 (or_f c22) rfl k
      ·refine by_ (t := 62) rfl (fun c19 => ?_) (fun c19 => ?_)
       ·exact sk c19 rfl rfl rfl <| sk c19 rfl rfl rfl <| sk c19 rfl rfl rfl <| ov (pkT c19 rfl rfl) rfl <| rf 3 (or_t (e := y17.2.1 != y14.2.1) c19) rfl k
       ·exact gc c19 rfl rfl <| ov (OpV.ld kt37 rfl) rfl <| gc c19 rfl rfl <| ov (OpV.ld kt37 rfl) rfl <| gc c19 rfl rfl <| ov (OpV.neK eqk37 eqg37 rfl rfl rfl rdV rfl rdV) rfl <| ov (pkF c19 rfl rfl) rfl <| rf 3 (or_f c19) rfl k
   ·refine by_ (t := 27) rfl (fun c9 => ?_) (fun c9 => ?_)
    ·exact sk c9 rfl rfl rfl <| sk c9 rfl rfl rfl <| sk c9 rfl rfl rfl <| ov (pkT c9 rfl rfl) rfl <| rf 3 (or_t (e := y3.2.1.Malformed != 1) c9) rfl k
    ·exact gc c9 rfl rfl <| ov (OpV.fdM fm37_1 rfl) rfl <| gc c9 rfl rfl <| Under.ldP .box (.fld .id uf_Api_Report_1) kt3_kInt_i64 rfl rfl <| Under.rawI (t := 29) rfl <| gc c9 rfl rfl <| bn rfl rfl rfl rfl <| ov (pkF c9 rfl rfl) rfl <| rf 4 (or_f c9) rfl k
  ·refine by_ (t := 22) rfl (fun c6 => ?_) (fun c6 => ?_)
   ·exact sk c6 rfl rfl rfl <| sk c6 rfl rfl rfl <| sk c6 rfl rfl rfl <| ov (pkT c6 rfl rfl) rfl <| rf 3 (or_t (e := y3.2.1.In != 1) c6) rfl k
   ·exact gc c6 rfl rfl <| ov (OpV.fdM fm37_0 rfl) rfl <| gc c6 rfl rfl <| Under.ldP .box (.fld .id uf_Api_Report_0) kt3_kInt_i64 rfl rfl <| Under.rawI (t := 24) rfl <| gc c6 rfl rfl <| bn rfl rfl rfl rfl <| ov (pkF c6 rfl rfl) rfl <| rf 4 (or_f c6) rfl k
end Go.Proofs.YtgllljocmpbooaaDoor

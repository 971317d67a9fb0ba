import Derived.Test.YtobbmodjdkcdcaaGreatDoorRo4
set_option linter.unusedVariables false
set_option linter.unusedSimpArgs false
set_option maxRecDepth 20000
namespace Go.Proofs.YtobbmodjdkcdcaaGreatDoor
open Go Go.Sim Go.ChangeShapes Go.WideShapes Go.ChangeAt Go.RowKit
set_option linter.unusedSectionVars false
variable [Fu]
noncomputable def gN (a0 : aa) (a1 : Int) (a2 : List (List Int)) (a3 : Int) : Option (aa × Int) :=
 ((bif (decide (a3 < 0)) || (decide (a3 > 4096)) then
  some true
 else
  (ek a0 8 4096).bind fun y8 =>
  some (y8 != 0)
  : Option Bool)).bind fun x7 =>
 bif x7 then
  some ((⟨(0 : Int), []⟩ : aa), 2)
 else
  ((bif decide (a1 < 0) then
   some true
  else
   (eK a1 a0.Newest 8).bind fun tB =>
   some (!tB)
   : Option Bool)).bind fun uB =>
  bif uB then
   some ((⟨(0 : Int), []⟩ : aa), 161)
  else
   (((Loop.run (S := (Int × (List ((List Int) × Int)))) (R := (List ((List Int) × Int))) (fun (bA, cA) =>
     bif decide (bA < (a2.length : Int)) then
      (idx a2 bA).bind fun pA =>
      some (.next (IntKind.wrap .i64 (bA + 1), mset pA bA cA))
     else
      some (.done cA)) (0, [])).bind fun tA =>
   some tA
    : Option (List ((List Int) × Int)))).bind fun xC =>
   (ej a0).bind fun yC =>
   mi (S := (List ((List Int) × Int))) yC (fun (zC : (List Int) × Int) nA =>
     some (mdel zC.1 nA)) (fun nA =>
     (dU a0).bind fun hC =>
     bif decide ((IntKind.wrap .i64 (hC + (nA.length : Int))) > a3) then
      some ((⟨(0 : Int), []⟩ : aa), 160)
     else
      mi (S := (List (List Int))) nA (fun (uA : (List Int) × Int) zA =>
       (app zA [uA.1]).bind fun xB =>
       some xB) (fun zA =>
       (Loop.run (S := (Int × (List ab) × Bool)) (R := ((List ab) × Bool)) (fun (yA, hA, mode_) =>
         bif mode_ then
          bif decide (yA < (a0.Epochs.length : Int)) then
           (idx a0.Epochs yA).bind fun qA =>
           ((some ()
            : Option Unit)).bind fun _ =>
           (bd qA.Tags).bind fun yB =>
           (app hA [(⟨qA.Number, yB⟩ : ab)]).bind fun zB =>
           some (.next (IntKind.wrap .i64 (yA + 1), zB, true))
          else
           some (.done (hA, true))
         else
          bif decide (yA < (a0.Epochs.length : Int)) then
           (idx a0.Epochs yA).bind fun xA =>
           bif decide (xA.Number ≥ a1) then
            bif decide (xA.Number > a1) then
             (app hA [(⟨a1, zA⟩ : ab)]).bind fun hB =>
             (bd xA.Tags).bind fun bB =>
             (app hB [(⟨xA.Number, bB⟩ : ab)]).bind fun vB =>
             some (.next (IntKind.wrap .i64 (yA + 1), vB, true))
            else
             (app zA xA.Tags).bind fun rA =>
             (bd (({ xA with Tags := rA } : ab).Tags)).bind fun oB =>
             (app hA [(⟨({ xA with Tags := rA } : ab).Number, oB⟩ : ab)]).bind fun kB =>
             some (.next (IntKind.wrap .i64 (yA + 1), kB, true))
           else
            (bd xA.Tags).bind fun dB =>
            (app hA [(⟨xA.Number, dB⟩ : ab)]).bind fun eB =>
            some (.next (IntKind.wrap .i64 (yA + 1), eB, false))
          else
           some (.done (hA, false))) (0, [], (zA.length : Int) == 0)).bind fun cB => match cB with
        | (kA, mode_) =>
         bif mode_ then
          ((some ()
           : Option Unit)).bind fun _ =>
          (((Loop.run (S := ((List ab) × Int)) (R := aa) (fun (dA, vA) =>
            bif decide (vA < (kA.length : Int)) then
             (idx dA vA).bind fun wA =>
             (pv wA.Tags).bind fun qB =>
             some (.next (List.set dA (Int.toNat vA) ({ wA with Tags := qB } : ab), IntKind.wrap .i64 (vA + 1)))
            else
             some (.done (⟨a0.Newest, dA⟩ : aa))) (kA, 0)).bind fun rB =>
          some rB
           : Option aa)).bind fun wB =>
          some (wB, 0)
         else
          (((app kA [(⟨a1, zA⟩ : ab)]).bind fun gB =>
          some gB
           : Option (List ab))).bind fun gA =>
          (((Loop.run (S := ((List ab) × Int)) (R := aa) (fun (eA, oA) =>
            bif decide (oA < (gA.length : Int)) then
             (idx eA oA).bind fun mA =>
             (pv mA.Tags).bind fun mB =>
             some (.next (List.set eA (Int.toNat oA) ({ mA with Tags := mB } : ab), IntKind.wrap .i64 (oA + 1)))
            else
             some (.done (⟨a0.Newest, eA⟩ : aa))) (gA, 0)).bind fun nB =>
          some nB
           : Option aa)).bind fun pB =>
          some (pB, 0)) []) xC
theorem o111 {a0 : aa} {a1 : Int} {a2 : List (List Int)} {a3 : Int} {r0 : (aa × Int)} (hF : gN a0 a1 a2 a3 = some r0) (L : List Res) : Ok Tryz.prog 67 [SV.val ae a0, SV.raw (.int .i64 a1), SV.val K0 a2, SV.raw (.int .i64 a3)] L (SV.tup [SV.val ae r0.1, SV.raw (.int .i64 r0.2)]) L := by
 unfold gN at hF
 refine okI 155 Tryz.func67 rfl rfl rfl fun F0 => ?_
 refine sr <| bX (K := ae) rfl rdV rfl <| al ZT27 rfl fun b1 => a_ rfl <| nt <| sq <| sr <| mb rfl <| m_ rfl <| cl 27 ((decide (a3 < 0)) || (decide (a3 > 4096))) ?_ (fun k => ?_)
 ·refine bs hF fun x7 h6 hF => m_ rfl <| cz 32 x7 ?_ (fun k => ?_)
  ·refine nt <| it hF rfl (fun hF => ?_) (fun hF => ?_)
   ·refine sr <| ov (OpV.bst BT27 (Bld.nil _)) rfl <| sP (x' := (⟨(0 : Int), []⟩ : aa)) .box .id sz27k rfl rfl rdV rfl <| a_ rfl <| nl <| fz (t := 8) rfl <| tn <| rt ?_
    cases osi hF
    exact rs Tryz.results67 (.ce rfl kt27 (.tm rfl .nil)) rfl rfl
   ·refine bs hF fun wH eB hF => ct <| sq <| sr <| mb rfl <| m_ rfl <| iM 42 wH ?_ (fun k => ?_)
    ·refine nt <| it hF rfl (fun hF => ?_) (fun hF => ?_)
     ·refine sr <| ov (OpV.bst BT27 (Bld.nil _)) rfl <| sP (x' := (⟨(0 : Int), []⟩ : aa)) .box .id sz27k rfl rfl rdV rfl <| a_ rfl <| nl <| fz (t := 8) rfl <| tn <| rt ?_
      cases osi hF
      exact rs Tryz.results67 (.ce rfl kt27 (.tm rfl .nil)) rfl rfl
     ·refine bs hF fun mC pC hF => ct <| sr <| Under.mkm K2 K8 rfl fun zC => a_ rfl <| nt <| sq <| afr (r := mC) (fun mC => [(1, .raw (.int .i64 a1)), (3, .raw (.int .i64 a3)), (4, .ptr ae a0), (8, pb b1), (10, .raw (.map (some zC)))]) (fun mC => ((.box ae b1 27 (⟨(0 : Int), []⟩ : aa)) :: (.mp K2 K8 zC mC) :: L)) ?_ fun K gH => ?_
      ·refine bs hF fun wJ mH hF => sq <| sr <| oL kt27 rfl <| cx Tryz.call124 rfl (o4 mH _) <| Under.rng Tryz.underlying155 rfl rfl fun nH => nt <| bk <| Under.loopM (S := (List ((List Int) × Int))) (C := Unit) () (fun (bB : (List ((List Int) × Int))) (hC : Unit) => [(1, .raw (.int .i64 a1)), (3, .raw (.int .i64 a3)), (4, .ptr ae a0), (8, pb b1), (10, .raw (.map (some zC))), (58, pb nH)]) (fun (bB : (List ((List Int) × Int))) (hC : Unit) => (.box ae b1 27 (⟨(0 : Int), []⟩ : aa)) :: (.mp K2 K8 zC bB) :: L) hF (s6 rfl rfl rfl rfl rfl rfl) rfl (fun bB hC l50 gJ kH dH => ?_)
       try dsimp only at kH
       try dsimp only at dH
       try dsimp only
       refine sr <| Under.nxt rfl rfl (fun pH => ?_) (fun nC l71 eH => ?_)
       ·refine oE rfl <| nt <| sq <| Under.condF rfl <| f2 <| Under.frzM (t := 10) rfl <| xt <| te ?_
        have hF := kH pH
        refine bs hF fun mJ tH hF => dr <| te <| bh <| tn <| sq <| sr <| oL kt27 rfl <| cx Tryz.call24 rfl (o3 tH _) <| m_ rfl <| ov (OpV.lenM Tryz.underlying155 rfl) rfl <| b_ rfl <| mb rfl <| nt <| it hF rfl (fun hF => ?_) (fun hF => ?_)
        ·refine sr <| ov (OpV.bst BT27 (Bld.nil _)) rfl <| sP (x' := (⟨(0 : Int), []⟩ : aa)) .box .id sz27k rfl rfl rdV rfl <| a_ rfl <| nl <| fz (t := 8) rfl <| tn <| rt ?_
         cases osi hF
         exact rs Tryz.results67 (.ce rfl kt27 (.tm rfl .nil)) rfl rfl
        ·refine ct <| sr <| a_ rfl <| nt <| sq <| sr <| m_ rfl <| Under.rng Tryz.underlying155 rfl rfl fun uH => nt <| bk <| Under.ownNil (K := kArr 16 K10) (e := 64) <| f2 <| f1 <| f2 <| Under.loopM (S := (List (List Int))) (C := Value) (.slice none 0 0) (fun (wA : (List (List Int))) (oA : Value) => [(1, .raw (.int .i64 a1)), (4, .ptr ae a0), (8, pb b1), (14, .raw oA), (74, pb uH)]) (fun (wA : (List (List Int))) (oA : Value) => (.own K2 oA 64 wA) :: (.box ae b1 27 (⟨(0 : Int), []⟩ : aa)) :: L) hF (s5 rfl rfl rfl rfl rfl) rfl (fun wA oA l78 nJ cH qH => ?_)
         try dsimp only at cH
         try dsimp only at qH
         try dsimp only
         refine sr <| Under.nxt rfl rfl (fun tC => ?_) (fun vB l107 bC => ?_)
         ·refine oE rfl <| nt <| sq <| Under.condF rfl <| xt <| te ?_
          have hF := cH tC
          refine bs hF fun xI uC hF => dr <| te <| bh <| tn <| sr <| oF fb27k rfl <| oI kt2 rfl <| ov (OpV.bst ia (Bld.cons (x' := (⟨a0.Newest, .slice none 0 0⟩ : aq)) rfl rfl rdI (by intro q hq; simp only [List.mem_cons, List.not_mem_nil, or_false] at hq; rcases hq with rfl <;> rfl) (Bld.nil _))) rfl <| al ZT27k rfl fun hA => sP (x' := (⟨a0.Newest, .slice none 0 0⟩ : aq)) .box .id sz27k1 rfl rfl rdV rfl <| ns <| m_ rfl <| f1 <| ov (OpV.lenO Tryz.underlying85 rfl) rfl <| b_ rfl <| a_ rfl <| nt <| sq <| sr <| oF fb27k1 rfl <| oL kt25 rfl <| oN Tryz.underlying25 rfl <| m_ rfl <| nt <| bk <| Under.manyNil (KR := au) (KT := kArr 16 K10) (mk := bv) (tg := bQ) (TE := 152) (TT := 64) <| f2 <| f1 <| f3 <| f3 <| Under.modeD (b := (wA.length : Int) == 0) <| lp uC (C := Value) (.slice none 0 0) (fun gA zA => [(1, .raw (.int .i64 a1)), (8, pb b1), (14, .raw oA), (16, pb hA), (17, .raw (.bool gA.2.2)), (90, .val (kSl aB) a0.Epochs), (91, .raw (.int .i64 (a0.Epochs.length : Int))), (92, .raw (.int .i64 gA.1))]) (fun gA zA => bif gA.2.2 then ((.box ae b1 27 (⟨(0 : Int), []⟩ : aa)) :: (.any (gZ au K2 bv bQ 152 64 zA gA.2.1)) :: (.box aR hA 27 (⟨a0.Newest, zA⟩ : aq)) :: L) else ((.own K2 oA 64 wA) :: (.box ae b1 27 (⟨(0 : Int), []⟩ : aa)) :: (.any (gZ au K2 bv bQ 152 64 zA gA.2.1)) :: (.box aR hA 27 (⟨a0.Newest, zA⟩ : aq)) :: L)) rfl rfl fun gA zA yI xA vC => ?_
          obtain ⟨xD, pA, mode_⟩ := gA
          cases mode_
          ·try dsimp only [cond_true, cond_false] at xA
           try dsimp only [cond_true, cond_false]
           refine sr <| b_ rfl <| nt <| sq <| it xA rfl (fun xA => ?_) (fun xA => ?_)
           ·refine bs xA fun yA yD xA => ct <| sq <| bk <| sr <| oS yD Tryz.underlying25 sz152 rfl <| oL kt152 rfl <| al ZT152 rfl fun zI => sP (x' := yA) .box .id sz152k rfl rfl rdV rfl <| nt <| sq <| sr <| m_ rfl <| ov (OpV.not rfl) rfl <| m_ rfl <| gc (rfl : (true : Bool) = true) rfl rfl <| oM pW rfl <| gc (rfl : (true : Bool) = true) rfl rfl <| lP .box (.fld .id jo) kt2k rfl rfl <| rI (t := 100) rfl <| gc (rfl : (true : Bool) = true) rfl rfl <| m_ rfl <| gc (rfl : (true : Bool) = true) rfl rfl <| b_ rfl <| ov (pkT (rfl : (true : Bool) = true) rfl rfl) rfl <| nt <| it xA rfl (fun xA => ?_) (fun xA => ?_)
            ·refine sr <| a_ rfl <| ns <| oM pW rfl <| lP .box (.fld .id jo) kt2k rfl rfl <| rI (t := 105) rfl <| mb rfl <| nt <| it xA rfl (fun xA => ?_) (fun xA => ?_)
             ·refine bs xA fun zD hD xA => bs xA fun cB bD xA => bs xA fun hI vD xA => fz (t := 19) rfl <| rg <| oM dm rfl <| f3 <| lP .box (.fld .id aG) kt25k rfl rfl <| Under.rawR (t := 109) rfl <| m_ rfl <| m_ rfl <| f1 <| Under.ownCell fun oD => ov (OpV.bst cq (Bld.cons (x' := (⟨a1, .slice none 0 0⟩ : am)) rfl rfl rdI (by intro q hq; simp only [List.mem_cons, List.not_mem_nil, or_false] at hq; rcases hq with rfl <;> rfl) (Bld.cons (x' := (⟨a1, oA⟩ : am)) rfl rfl (fa oD) ⟨rfl, (fun q hq => by simp at hq)⟩ (Bld.nil _)))) rfl <| bF (ys := [(⟨a1, oA⟩ : am)]) Tryz.underlying25 ET152k (BldA.cons rfl rfl rdV (BldA.nil _)) rfl rfl <| f3 <| Under.manyPush (x := (⟨a1, wA⟩ : ab)) aU aV hD Tryz.underlying25 (by kernel_rfl) AT152k rfl rfl (.sl rdV) rfl fun oB => oM dm rfl <| Under.manyCell aU aV fun kD => f1 <| sP (x' := (⟨a0.Newest, oB⟩ : aq)) .box (.fld .id aG) sz25k rfl rfl (fa kD) rfl <| nt <| ph rfl <| Under.grpT (L := L) [0, 1, 2, 3, 4, 5, 6, 7, 8] [[16], [121], [19], [123], [19], [125], [126], [124, 127], [128]] [⟨sk0 (.raw (.pointer (some ⟨hA, 0 + 1, none⟩))), [], [], []⟩, ⟨sk0 (.raw oB), [], [], []⟩, ⟨sk0 (.ptr K8 yA.Number), [], [], []⟩, ⟨sk0 (.raw (.int .i64 yA.Number)), [], [], []⟩, ⟨sk0 (.ptr K0 yA.Tags), [], [], []⟩, ⟨sk0 (.val K0 yA.Tags), [], [], []⟩, ⟨sk1 6 (fun u6 => .raw u6), [], [(0, tk1 6 (fun u6 => .own K2 u6 64 cB))], []⟩, ⟨sk1 6 (fun u6 => .val au (⟨yA.Number, u6⟩ : am)), [], [], [0]⟩, ⟨sk1 6 (fun u6 => .val (kSl au) [(⟨yA.Number, u6⟩ : am)]), [], [], []⟩] [] (fun T : List Res => (.box aR hA 27 (⟨a0.Newest, oB⟩ : aq)) :: (.any (gZ au K2 bv bQ 152 64 oB zD)) :: (.box ae b1 27 (⟨(0 : Int), []⟩ : aa)) :: T) lf3 rfl (by kernel_rfl) rfl rfl (fun F hF0 eA => ?_)
              refine Tq.v (fun G T hG => ?_) ?_
              ·exact oM dm rfl <| Tq.end undef rfl rfl
              refine Tq.v (fun G T hG => ?_) ?_
              ·exact lP .box (.fld .id aG) kt25k rfl rfl <| Under.rawR (t := 122) rfl <| Tq.end undef rfl rfl
              refine Tq.v (fun G T hG => ?_) ?_
              ·exact oF fb152k1 rfl <| Tq.end undef rfl rfl
              refine Tq.v (fun G T hG => ?_) ?_
              ·exact oI kt2 rfl <| Tq.end undef rfl rfl
              refine Tq.v (fun G T hG => ?_) ?_
              ·exact oF fb152k rfl <| Tq.end undef rfl rfl
              refine Tq.v (fun G T hG => ?_) ?_
              ·exact oL kt85 rfl <| Tq.end undef rfl rfl
              refine Tq.st (.raw (eA 6)) [] rfl rfl (fun G T hG => ?_) ?_
              ·refine Under.callX Tryz.call77 rfl rfl (o110 bD _) rfl ?_
               rintro dD
               exact Tq.end dD rfl rfl
              refine Tq.r1 (.val au (⟨yA.Number, (eA 6)⟩ : am)) [.own K2 (eA 6) 64 cB] rfl rfl (fun G T hG => ?_) ?_
              ·exact Under.ownCell fun eD => ov (OpV.bst cq (Bld.cons (x' := (⟨yA.Number, .slice none 0 0⟩ : am)) rfl rfl rdI (by intro q hq; simp only [List.mem_cons, List.not_mem_nil, or_false] at hq; rcases hq with rfl <;> rfl) (Bld.cons (x' := (⟨yA.Number, (eA 6)⟩ : am)) rfl rfl (fa eD) ⟨rfl, (fun q hq => by simp at hq)⟩ (Bld.nil _)))) rfl <| Tq.end undef rfl rfl
              refine Tq.st (.val (kSl au) [(⟨yA.Number, (eA 6)⟩ : am)]) [] rfl rfl (fun G T hG => ?_) ?_
              ·exact bF (ys := [(⟨yA.Number, (eA 6)⟩ : am)]) Tryz.underlying25 ET152k (BldA.cons rfl rfl rdV (BldA.nil _)) rfl rfl <| Tq.end undef rfl rfl
              exact Tq.nil <| Under.le hF0 <| p1 9 rfl rfl <| f3 <| f2 <| Under.manyPush (x := (⟨yA.Number, cB⟩ : ab)) aU aV vD Tryz.underlying25 (by kernel_rfl) AT152k rfl rfl (.sl rdV) rfl fun oC => pn <| p1 10 rfl rfl <| oM dm rfl <| pn <| p1 11 rfl rfl <| Under.manyCell aU aV fun cD => f1 <| sP (x' := (⟨a0.Newest, oC⟩ : aq)) .box (.fld .id aG) sz25k rfl rfl (fa cD) rfl <| pn <| pd rfl <| bN <| tn <| rg <| b_ rfl <| m_ rfl <| nl <| f1 <| f2 <| nx oC xA rfl rfl
             ·refine bs xA fun vA qD xA => bs xA fun qB rD xA => bs xA fun bI wD xA => rg <| m_ rfl <| oM jt rfl <| lP .box (.fld .id fA) kt85k rfl rfl <| f1 <| ap qD Tryz.underlying85 AT64 rfl rfl rdV rfl fun vI => oM jt rfl <| fzO (t := 119) rfl <| sP (x' := ({ yA with Tags := vA } : ab)) .box (.fld .id fA) sz85k rfl rfl rdV rfl <| nl <| fz (t := 19) rfl <| tn <| ph rfl <| Under.grpT (L := L) [0, 1, 2, 3, 4, 5, 6, 7, 8] [[16], [121], [19], [123], [19], [125], [126], [124, 127], [128]] [⟨sk0 (.raw (.pointer (some ⟨hA, 0 + 1, none⟩))), [], [], []⟩, ⟨sk0 (.raw zA), [], [], []⟩, ⟨sk0 (.ptr K8 (({ yA with Tags := vA } : ab).Number)), [], [], []⟩, ⟨sk0 (.raw (.int .i64 (({ yA with Tags := vA } : ab).Number))), [], [], []⟩, ⟨sk0 (.ptr K0 (({ yA with Tags := vA } : ab).Tags)), [], [], []⟩, ⟨sk0 (.val K0 (({ yA with Tags := vA } : ab).Tags)), [], [], []⟩, ⟨sk1 6 (fun u6 => .raw u6), [], [(0, tk1 6 (fun u6 => .own K2 u6 64 qB))], []⟩, ⟨sk1 6 (fun u6 => .val au (⟨({ yA with Tags := vA } : ab).Number, u6⟩ : am)), [], [], [0]⟩, ⟨sk1 6 (fun u6 => .val (kSl au) [(⟨({ yA with Tags := vA } : ab).Number, u6⟩ : am)]), [], [], []⟩] [] (fun T : List Res => (.box ae b1 27 (⟨(0 : Int), []⟩ : aa)) :: (.any (gZ au K2 bv bQ 152 64 zA pA)) :: (.box aR hA 27 (⟨a0.Newest, zA⟩ : aq)) :: T) lf3 rfl (by kernel_rfl) rfl rfl (fun F hF0 cA => ?_)
              refine Tq.v (fun G T hG => ?_) ?_
              ·exact oM dm rfl <| Tq.end undef rfl rfl
              refine Tq.v (fun G T hG => ?_) ?_
              ·exact f2 <| lP .box (.fld .id aG) kt25k rfl rfl <| Under.rawR (t := 122) rfl <| f2 <| f2 <| Tq.end undef rfl rfl
              refine Tq.v (fun G T hG => ?_) ?_
              ·exact oF fb152k1 rfl <| Tq.end undef rfl rfl
              refine Tq.v (fun G T hG => ?_) ?_
              ·exact oI kt2 rfl <| Tq.end undef rfl rfl
              refine Tq.v (fun G T hG => ?_) ?_
              ·exact oF fb152k rfl <| Tq.end undef rfl rfl
              refine Tq.v (fun G T hG => ?_) ?_
              ·exact oL kt85 rfl <| Tq.end undef rfl rfl
              refine Tq.st (.raw (cA 6)) [] rfl rfl (fun G T hG => ?_) ?_
              ·refine Under.callX Tryz.call77 rfl rfl (o110 rD _) rfl ?_
               rintro gD
               exact Tq.end gD rfl rfl
              refine Tq.r1 (.val au (⟨({ yA with Tags := vA } : ab).Number, (cA 6)⟩ : am)) [.own K2 (cA 6) 64 qB] rfl rfl (fun G T hG => ?_) ?_
              ·exact Under.ownCell fun mD => ov (OpV.bst cq (Bld.cons (x' := (⟨({ yA with Tags := vA } : ab).Number, .slice none 0 0⟩ : am)) rfl rfl rdI (by intro q hq; simp only [List.mem_cons, List.not_mem_nil, or_false] at hq; rcases hq with rfl <;> rfl) (Bld.cons (x' := (⟨({ yA with Tags := vA } : ab).Number, (cA 6)⟩ : am)) rfl rfl (fa mD) ⟨rfl, (fun q hq => by simp at hq)⟩ (Bld.nil _)))) rfl <| Tq.end undef rfl rfl
              refine Tq.st (.val (kSl au) [(⟨({ yA with Tags := vA } : ab).Number, (cA 6)⟩ : am)]) [] rfl rfl (fun G T hG => ?_) ?_
              ·exact bF (ys := [(⟨({ yA with Tags := vA } : ab).Number, (cA 6)⟩ : am)]) Tryz.underlying25 ET152k (BldA.cons rfl rfl rdV (BldA.nil _)) rfl rfl <| Tq.end undef rfl rfl
              exact Tq.nil <| Under.le hF0 <| p1 9 rfl rfl <| f3 <| f2 <| Under.manyPush (x := (⟨({ yA with Tags := vA } : ab).Number, qB⟩ : ab)) aU aV wD Tryz.underlying25 (by kernel_rfl) AT152k rfl rfl (.sl rdV) rfl fun kC => pn <| p1 10 rfl rfl <| oM dm rfl <| pn <| p1 11 rfl rfl <| Under.manyCell aU aV fun nD => f2 <| sP (x' := (⟨a0.Newest, kC⟩ : aq)) .box (.fld .id aG) sz25k rfl rfl (fa nD) rfl <| pn <| pd rfl <| bN <| tn <| rg <| b_ rfl <| m_ rfl <| nl <| f1 <| f2 <| nx kC xA rfl rfl
            ·refine bs xA fun rB pD xA => bs xA fun kI tD xA => fz (t := 19) rfl <| ct <| ph rfl <| Under.grpT (L := L) [0, 1, 2, 3, 4, 5, 6, 7, 8] [[16], [121], [19], [123], [19], [125], [126], [124, 127], [128]] [⟨sk0 (.raw (.pointer (some ⟨hA, 0 + 1, none⟩))), [], [], []⟩, ⟨sk0 (.raw zA), [], [], []⟩, ⟨sk0 (.ptr K8 yA.Number), [], [], []⟩, ⟨sk0 (.raw (.int .i64 yA.Number)), [], [], []⟩, ⟨sk0 (.ptr K0 yA.Tags), [], [], []⟩, ⟨sk0 (.val K0 yA.Tags), [], [], []⟩, ⟨sk1 6 (fun u6 => .raw u6), [], [(0, tk1 6 (fun u6 => .own K2 u6 64 rB))], []⟩, ⟨sk1 6 (fun u6 => .val au (⟨yA.Number, u6⟩ : am)), [], [], [0]⟩, ⟨sk1 6 (fun u6 => .val (kSl au) [(⟨yA.Number, u6⟩ : am)]), [], [], []⟩] [] (fun T : List Res => (.own K2 oA 64 wA) :: (.box ae b1 27 (⟨(0 : Int), []⟩ : aa)) :: (.any (gZ au K2 bv bQ 152 64 zA pA)) :: (.box aR hA 27 (⟨a0.Newest, zA⟩ : aq)) :: T) lf4 rfl (by kernel_rfl) rfl rfl (fun F hF0 qA => ?_)
             refine Tq.v (fun G T hG => ?_) ?_
             ·exact oM dm rfl <| Tq.end undef rfl rfl
             refine Tq.v (fun G T hG => ?_) ?_
             ·exact f3 <| lP .box (.fld .id aG) kt25k rfl rfl <| Under.rawR (t := 122) rfl <| f3 <| f3 <| f3 <| Tq.end undef rfl rfl
             refine Tq.v (fun G T hG => ?_) ?_
             ·exact oF fb152k1 rfl <| Tq.end undef rfl rfl
             refine Tq.v (fun G T hG => ?_) ?_
             ·exact oI kt2 rfl <| Tq.end undef rfl rfl
             refine Tq.v (fun G T hG => ?_) ?_
             ·exact oF fb152k rfl <| Tq.end undef rfl rfl
             refine Tq.v (fun G T hG => ?_) ?_
             ·exact oL kt85 rfl <| Tq.end undef rfl rfl
             refine Tq.st (.raw (qA 6)) [] rfl rfl (fun G T hG => ?_) ?_
             ·refine Under.callX Tryz.call77 rfl rfl (o110 pD _) rfl ?_
              rintro uD
              exact Tq.end uD rfl rfl
             refine Tq.r1 (.val au (⟨yA.Number, (qA 6)⟩ : am)) [.own K2 (qA 6) 64 rB] rfl rfl (fun G T hG => ?_) ?_
             ·exact Under.ownCell fun xE => ov (OpV.bst cq (Bld.cons (x' := (⟨yA.Number, .slice none 0 0⟩ : am)) rfl rfl rdI (by intro q hq; simp only [List.mem_cons, List.not_mem_nil, or_false] at hq; rcases hq with rfl <;> rfl) (Bld.cons (x' := (⟨yA.Number, (qA 6)⟩ : am)) rfl rfl (fa xE) ⟨rfl, (fun q hq => by simp at hq)⟩ (Bld.nil _)))) rfl <| Tq.end undef rfl rfl
             refine Tq.st (.val (kSl au) [(⟨yA.Number, (qA 6)⟩ : am)]) [] rfl rfl (fun G T hG => ?_) ?_
             ·exact bF (ys := [(⟨yA.Number, (qA 6)⟩ : am)]) Tryz.underlying25 ET152k (BldA.cons rfl rfl rdV (BldA.nil _)) rfl rfl <| Tq.end undef rfl rfl
             exact Tq.nil <| Under.le hF0 <| p1 9 rfl rfl <| f4 <| f3 <| Under.manyPush (x := (⟨yA.Number, rB⟩ : ab)) aU aV tD Tryz.underlying25 (by kernel_rfl) AT152k rfl rfl (.sl rdV) rfl fun dC => pn <| p1 10 rfl rfl <| oM dm rfl <| pn <| p1 11 rfl rfl <| Under.manyCell aU aV fun yE => f3 <| sP (x' := (⟨a0.Newest, dC⟩ : aq)) .box (.fld .id aG) sz25k rfl rfl (fa yE) rfl <| pn <| pd rfl <| bN <| tn <| rg <| b_ rfl <| m_ rfl <| nl <| f1 <| f3 <| f3 <| nx dC xA rfl rfl
           ·refine xt <| te ?_
            cases ai xA vC
            try dsimp only [cond_true, cond_false] at hF
            refine bs hF fun zE wB hF => te <| bh <| tn <| sq <| Under.after (fun X => ∀ (kB : List ab) (tA : Value), zE = kB → Under F0 155 [(8, pb b1), (16, pb hA)] ((.box ae b1 27 (⟨(0 : Int), []⟩ : aa)) :: (.any (gZ au K2 bv bQ 152 64 tA kB)) :: (.box aR hA 27 (⟨a0.Newest, tA⟩ : aq)) :: L) X) ?_ ?_
            ·intro kB tA gB
             replace gB := gB.symm
             subst gB
             refine bs hF fun uA mB hF => sq <| afr (r := uA) (fun uA => [(8, pb b1), (16, .ptr ae uA)]) (fun uA => ((.box ae b1 27 (⟨(0 : Int), []⟩ : aa)) :: L)) ?_ fun K hE => ?_
             ·refine sr <| oL kt27 rfl <| sP (x' := uA) .box .id sz27k rfl rfl rdV rfl <| a_ rfl <| nl <| fz (t := 8) rfl <| tn <| rc ?_
              cases osi hF
              exact rs Tryz.results67 (.ce rfl kt27 (.tm rfl .nil)) rfl rfl
             ·refine bs mB fun dI bE mB => sr <| oM dm rfl <| f2 <| lP .box (.fld .id aG) kt25k rfl rfl <| Under.rawR (t := 144) rfl <| f2 <| Under.lenMany aU aV Tryz.underlying25 rfl rfl <| m_ rfl <| nt <| bk <| f1 <| f2 <| f2 <| lp bE () (fun xB eC => [(8, pb b1), (16, pb hA), (144, .raw tA), (145, .raw (.int .i64 (kB.length : Int))), (146, .raw (.int .i64 xB.2))]) (fun xB eC => (.any (gZ au K2 bv bQ 152 64 tA xB.1)) :: (.box ae b1 27 (⟨(0 : Int), []⟩ : aa)) :: (.box aR hA 27 (⟨a0.Newest, tA⟩ : aq)) :: L) rfl rfl fun xB eC eI kA vE => ?_
              obtain ⟨kE, cI⟩ := xB
              dsimp only at kA ⊢
              refine sr <| b_ rfl <| nt <| sq <| it kA rfl (fun kA => ?_) (fun kA => ?_)
              ·exact bs kA fun cC dE kA => bs kA fun eE cE kA => ct <| sq <| bk <| sr <| Under.manyTake aU aV dE fun qE qI l477 wI nB rE => ov (OpV.ixO nB Tryz.underlying25 sz152k1 rfl rfl) rfl <| lP (.own nB) (.ix .id nB) kt152k rfl rfl <| al ZT152k rfl fun gI => sP (x' := (⟨cC.Number, qE⟩ : am)) .box .id sz152k1 rfl rfl rdV rfl <| nt <| rg <| oM jt rfl <| lP .box (.fld .id iw) kt85k1 rfl rfl <| Under.rawR (t := 151) rfl <| f2 <| cx Tryz.call125 rfl (kR cE _) <| nl <| f1 <| dr <| f1 <| Under.back (fun F w h => rE ({ cC with Tags := eE } : ab) rfl F w _ h) <| bN <| tn <| rg <| b_ rfl <| m_ rfl <| nl <| nx () kA rfl rfl
              ·refine Under.manyPlain (KB := aB) aU aV rfl jK <| f2 <| f1 <| Under.frzBO (fs := ci) (⟨a0.Newest, kE⟩ : aa) (fun F hv => ⟨fun _ h => h, jx hv, trivial⟩) <| fz (t := 16) rfl <| xt <| te ?_
               cases ai kA vE
               exact te <| bh <| tn <| wr (hE _ (osi mB).symm) rfl
            ·intro K wE
             exact bs wB fun mI gE wB => sr <| m_ rfl <| ov (OpV.not rfl) rfl <| nt <| Under.condT rfl <| rg <| oM dm rfl <| f3 <| lP .box (.fld .id aG) kt25k rfl rfl <| Under.rawR (t := 136) rfl <| m_ rfl <| m_ rfl <| f1 <| Under.ownCell fun mE => ov (OpV.bst cq (Bld.cons (x' := (⟨a1, .slice none 0 0⟩ : am)) rfl rfl rdI (by intro q hq; simp only [List.mem_cons, List.not_mem_nil, or_false] at hq; rcases hq with rfl <;> rfl) (Bld.cons (x' := (⟨a1, oA⟩ : am)) rfl rfl (fa mE) ⟨rfl, (fun q hq => by simp at hq)⟩ (Bld.nil _)))) rfl <| bF (ys := [(⟨a1, oA⟩ : am)]) Tryz.underlying25 ET152k (BldA.cons rfl rfl rdV (BldA.nil _)) rfl rfl <| f3 <| Under.manyPush (x := (⟨a1, wA⟩ : ab)) aU aV gE Tryz.underlying25 (by kernel_rfl) AT152k rfl rfl (.sl rdV) rfl fun nE => oM dm rfl <| Under.manyCell aU aV fun pE => f1 <| sP (x' := (⟨a0.Newest, nE⟩ : aq)) .box (.fld .id aG) sz25k rfl rfl (fa pE) rfl <| nt <| f1 <| f2 <| wr (wE _ _ (osi wB).symm) rfl
          ·try dsimp only [cond_true, cond_false] at xA
           try dsimp only [cond_true, cond_false]
           refine sr <| b_ rfl <| nt <| sq <| it xA rfl (fun xA => ?_) (fun xA => ?_)
           ·refine bs xA fun bA tE xA => bs xA fun uE xG xA => ct <| sq <| bk <| sr <| oS tE Tryz.underlying25 sz152 rfl <| oL kt152 rfl <| al ZT152 rfl fun nI => sP (x' := bA) .box .id sz152k rfl rfl rdV rfl <| nt <| sq <| Under.after (fun X => ∀ (_ : Unit), uE = () → Under F0 155 [(1, .raw (.int .i64 a1)), (8, pb b1), (14, .raw oA), (16, pb hA), (17, .raw (.bool true)), (19, .ptr aB bA), (90, .val (kSl aB) a0.Epochs), (91, .raw (.int .i64 (a0.Epochs.length : Int))), (92, .raw (.int .i64 xD))] ((.box ae b1 27 (⟨(0 : Int), []⟩ : aa)) :: (.any (gZ au K2 bv bQ 152 64 zA pA)) :: (.box aR hA 27 (⟨a0.Newest, zA⟩ : aq)) :: L) X) ?_ ?_
            ·intro _ pB
             replace pB := pB.symm
             subst pB
             refine bs xA fun tB yG xA => bs xA fun pI zG xA => ph rfl <| Under.grpT (L := L) [0, 1, 2, 3, 4, 5, 6, 7, 8] [[16], [121], [19], [123], [19], [125], [126], [124, 127], [128]] [⟨sk0 (.raw (.pointer (some ⟨hA, 0 + 1, none⟩))), [], [], []⟩, ⟨sk0 (.raw zA), [], [], []⟩, ⟨sk0 (.ptr K8 bA.Number), [], [], []⟩, ⟨sk0 (.raw (.int .i64 bA.Number)), [], [], []⟩, ⟨sk0 (.ptr K0 bA.Tags), [], [], []⟩, ⟨sk0 (.val K0 bA.Tags), [], [], []⟩, ⟨sk1 6 (fun u6 => .raw u6), [], [(0, tk1 6 (fun u6 => .own K2 u6 64 tB))], []⟩, ⟨sk1 6 (fun u6 => .val au (⟨bA.Number, u6⟩ : am)), [], [], [0]⟩, ⟨sk1 6 (fun u6 => .val (kSl au) [(⟨bA.Number, u6⟩ : am)]), [], [], []⟩] [] (fun T : List Res => (.box ae b1 27 (⟨(0 : Int), []⟩ : aa)) :: (.any (gZ au K2 bv bQ 152 64 zA pA)) :: (.box aR hA 27 (⟨a0.Newest, zA⟩ : aq)) :: T) lf3 rfl (by kernel_rfl) rfl rfl (fun F hF0 rA => ?_)
             refine Tq.v (fun G T hG => ?_) ?_
             ·exact oM dm rfl <| Tq.end undef rfl rfl
             refine Tq.v (fun G T hG => ?_) ?_
             ·exact f2 <| lP .box (.fld .id aG) kt25k rfl rfl <| Under.rawR (t := 122) rfl <| f2 <| f2 <| Tq.end undef rfl rfl
             refine Tq.v (fun G T hG => ?_) ?_
             ·exact oF fb152k1 rfl <| Tq.end undef rfl rfl
             refine Tq.v (fun G T hG => ?_) ?_
             ·exact oI kt2 rfl <| Tq.end undef rfl rfl
             refine Tq.v (fun G T hG => ?_) ?_
             ·exact oF fb152k rfl <| Tq.end undef rfl rfl
             refine Tq.v (fun G T hG => ?_) ?_
             ·exact oL kt85 rfl <| Tq.end undef rfl rfl
             refine Tq.st (.raw (rA 6)) [] rfl rfl (fun G T hG => ?_) ?_
             ·refine Under.callX Tryz.call77 rfl rfl (o110 yG _) rfl ?_
              rintro bG
              exact Tq.end bG rfl rfl
             refine Tq.r1 (.val au (⟨bA.Number, (rA 6)⟩ : am)) [.own K2 (rA 6) 64 tB] rfl rfl (fun G T hG => ?_) ?_
             ·exact Under.ownCell fun vG => ov (OpV.bst cq (Bld.cons (x' := (⟨bA.Number, .slice none 0 0⟩ : am)) rfl rfl rdI (by intro q hq; simp only [List.mem_cons, List.not_mem_nil, or_false] at hq; rcases hq with rfl <;> rfl) (Bld.cons (x' := (⟨bA.Number, (rA 6)⟩ : am)) rfl rfl (fa vG) ⟨rfl, (fun q hq => by simp at hq)⟩ (Bld.nil _)))) rfl <| Tq.end undef rfl rfl
             refine Tq.st (.val (kSl au) [(⟨bA.Number, (rA 6)⟩ : am)]) [] rfl rfl (fun G T hG => ?_) ?_
             ·exact bF (ys := [(⟨bA.Number, (rA 6)⟩ : am)]) Tryz.underlying25 ET152k (BldA.cons rfl rfl rdV (BldA.nil _)) rfl rfl <| Tq.end undef rfl rfl
             exact Tq.nil <| Under.le hF0 <| p1 9 rfl rfl <| f3 <| f2 <| Under.manyPush (x := (⟨bA.Number, tB⟩ : ab)) aU aV zG Tryz.underlying25 (by kernel_rfl) AT152k rfl rfl (.sl rdV) rfl fun qC => pn <| p1 10 rfl rfl <| oM dm rfl <| pn <| p1 11 rfl rfl <| Under.manyCell aU aV fun oG => f2 <| sP (x' := (⟨a0.Newest, qC⟩ : aq)) .box (.fld .id aG) sz25k rfl rfl (fa oG) rfl <| pn <| pd rfl <| bN <| tn <| rg <| b_ rfl <| m_ rfl <| nl <| f1 <| f2 <| nx qC xA rfl rfl
            ·intro K kG
             exact sr <| m_ rfl <| ov (OpV.not rfl) rfl <| m_ rfl <| sk (rfl : (false : Bool) = false) rfl rfl rfl <| sk (rfl : (false : Bool) = false) rfl rfl rfl <| sk (rfl : (false : Bool) = false) rfl rfl rfl <| sk (rfl : (false : Bool) = false) rfl rfl rfl <| ov (pkF (rfl : (false : Bool) = false) rfl rfl) rfl <| nt <| Under.condF rfl <| fz (t := 19) rfl <| ct <| wr (kG () (osi xG).symm) rfl
           ·refine xt <| te ?_
            cases ai xA vC
            try dsimp only [cond_true, cond_false] at hF
            refine bs hF fun dG eG hF => te <| bh <| tn <| sq <| Under.after (fun X => ∀ (_ : Unit), dG = () → Under F0 155 [(8, pb b1), (16, pb hA)] ((.box ae b1 27 (⟨(0 : Int), []⟩ : aa)) :: (.any (gZ au K2 bv bQ 152 64 zA pA)) :: (.box aR hA 27 (⟨a0.Newest, zA⟩ : aq)) :: L) X) ?_ ?_
            ·intro _ uB
             replace uB := uB.symm
             subst uB
             refine bs hF fun yB xC hF => sq <| afr (r := yB) (fun yB => [(8, pb b1), (16, .ptr ae yB)]) (fun yB => ((.box ae b1 27 (⟨(0 : Int), []⟩ : aa)) :: L)) ?_ fun K cG => ?_
             ·refine sr <| oL kt27 rfl <| sP (x' := yB) .box .id sz27k rfl rfl rdV rfl <| a_ rfl <| nl <| fz (t := 8) rfl <| tn <| rc ?_
              cases osi hF
              exact rs Tryz.results67 (.ce rfl kt27 (.tm rfl .nil)) rfl rfl
             ·refine bs xC fun tI qG xC => sr <| oM dm rfl <| f2 <| lP .box (.fld .id aG) kt25k rfl rfl <| Under.rawR (t := 144) rfl <| f2 <| Under.lenMany aU aV Tryz.underlying25 rfl rfl <| m_ rfl <| nt <| bk <| f1 <| f2 <| f2 <| lp qG () (fun zB rC => [(8, pb b1), (16, pb hA), (144, .raw zA), (145, .raw (.int .i64 (pA.length : Int))), (146, .raw (.int .i64 zB.2))]) (fun zB rC => (.any (gZ au K2 bv bQ 152 64 zA zB.1)) :: (.box ae b1 27 (⟨(0 : Int), []⟩ : aa)) :: (.box aR hA 27 (⟨a0.Newest, zA⟩ : aq)) :: L) rfl rfl fun zB rC uI dA rG => ?_
              obtain ⟨wG, xJ⟩ := zB
              dsimp only at dA ⊢
              refine sr <| b_ rfl <| nt <| sq <| it dA rfl (fun dA => ?_) (fun dA => ?_)
              ·exact bs dA fun wC gG dA => bs dA fun mG nG dA => ct <| sq <| bk <| sr <| Under.manyTake aU aV gG fun pG yJ l633 zJ yC tG => ov (OpV.ixO yC Tryz.underlying25 sz152k1 rfl rfl) rfl <| lP (.own yC) (.ix .id yC) kt152k rfl rfl <| al ZT152k rfl fun hJ => sP (x' := (⟨wC.Number, pG⟩ : am)) .box .id sz152k1 rfl rfl rdV rfl <| nt <| rg <| oM jt rfl <| lP .box (.fld .id iw) kt85k1 rfl rfl <| Under.rawR (t := 151) rfl <| f2 <| cx Tryz.call125 rfl (kR nG _) <| nl <| f1 <| dr <| f1 <| Under.back (fun F w h => tG ({ wC with Tags := mG } : ab) rfl F w _ h) <| bN <| tn <| rg <| b_ rfl <| m_ rfl <| nl <| nx () dA rfl rfl
              ·refine Under.manyPlain (KB := aB) aU aV rfl jK <| f2 <| f1 <| Under.frzBO (fs := ci) (⟨a0.Newest, wG⟩ : aa) (fun F hv => ⟨fun _ h => h, jx hv, trivial⟩) <| fz (t := 16) rfl <| xt <| te ?_
               cases ai dA rG
               exact te <| bh <| tn <| wr (cG _ (osi xC).symm) rfl
            ·intro K uG
             exact sr <| m_ rfl <| ov (OpV.not rfl) rfl <| nt <| Under.condF rfl <| ct <| wr (uG () (osi eG).symm) rfl
         ·obtain ⟨bJ, dB⟩ := qH vB l107 bC
          have h108k := dB
          refine bs dB fun xH yH dB => oE rfl <| nt <| sq <| Under.condT rfl <| ct <| bk <| sr <| Under.ent rfl rfl <| oE rfl <| al ZT64 rfl fun vJ => sP (x' := vB.1) .box .id sz64k rfl rfl rdV rfl <| nl <| fz (t := 15) rfl <| tn <| rg <| m_ rfl <| oL kt64 rfl <| bF (ys := [vB.1]) Tryz.underlying85 ET64 (BldA.cons rfl rfl rdV (BldA.nil _)) rfl rfl <| f1 <| ap yH Tryz.underlying85 AT64 rfl rfl rdV rfl fun zH => a_ rfl <| nl <| bN <| f2 <| f1 <| f2 <| tn <| Under.nextM (cur' := some vB) xH zH bC ?_ dB ?_ ?_
          ·exact h108k
          ·exact (s5 rfl rfl rfl rfl rfl)
          ·rfl
       ·obtain ⟨pJ, rH⟩ := dH nC l71 eH
        have h72k := rH
        refine oE rfl <| nt <| sq <| Under.condT rfl <| ct <| bk <| sr <| Under.ent rfl rfl <| oE rfl <| al ZT64 rfl fun oJ => sP (x' := nC.1) .box .id sz64k rfl rfl rdV rfl <| nl <| fz (t := 13) rfl <| tn <| rg <| m_ rfl <| oL kt64 rfl <| f2 <| Under.mdel key64 Tryz.underlying155 rfl rfl rdV <| nl <| bN <| f2 <| f2 <| tn <| Under.nextM (cur' := some nC) (mdel nC.1 bB) () eH ?_ rH ?_ ?_
        ·exact h72k
        ·exact (s6 rfl rfl rfl rfl rfl rfl)
        ·rfl
      ·refine bs pC fun kJ hH pC => sr <| m_ rfl <| oN Tryz.underlying85 rfl <| m_ rfl <| nt <| bk <| f1 <| lp hH () (fun hB gC => [(1, .raw (.int .i64 a1)), (3, .raw (.int .i64 a3)), (4, .ptr ae a0), (8, pb b1), (10, .raw (.map (some zC))), (45, .val K0 a2), (46, .raw (.int .i64 (a2.length : Int))), (47, .raw (.int .i64 hB.1))]) (fun hB gC => (.box ae b1 27 (⟨(0 : Int), []⟩ : aa)) :: (.mp K2 K8 zC hB.2) :: L) rfl rfl fun hB gC dJ mA bH => ?_
       obtain ⟨eJ, cJ⟩ := hB
       dsimp only at mA ⊢
       refine sr <| b_ rfl <| nt <| sq <| it mA rfl (fun mA => ?_) (fun mA => ?_)
       ·exact bs mA fun vH oH mA => ct <| sq <| bk <| sr <| m_ rfl <| oS oH Tryz.underlying85 sz64 rfl <| oL kt64 rfl <| al ZT64 rfl fun qJ => a_ rfl <| sP (x' := vH) .box .id sz64k rfl rfl rdV rfl <| nl <| fz (t := 12) rfl <| tn <| rg <| m_ rfl <| oL kt64 rfl <| m_ rfl <| f1 <| Under.mup key64 Tryz.underlying155 rfl rfl rdV rfl rdI <| nl <| bN <| tn <| rg <| b_ rfl <| m_ rfl <| nl <| f1 <| nx () mA rfl rfl
       ·refine xt <| te ?_
        cases ai mA bH
        exact te <| bh <| tn <| wr (gH _ (osi pC).symm) rfl
    ·refine by_ (t := 36) rfl (fun nA => ?_) (fun nA => ?_)
     ·replace eB := ctrue nA eB
      exact sk_ nA rfl <| sk_ nA rfl <| sk_ nA rfl <| sk_ nA rfl <| sk_ nA rfl <| pT nA rfl <| rf 5 (rbq eB) rfl k
     ·replace eB := cfalse nA eB
      exact bs eB fun tJ rJ eB => gc_ nA rfl <| m_ rfl <| gc_ nA rfl <| oF fb27k rfl <| gc_ nA rfl <| oI kt2 rfl <| gc_ nA rfl <| cx Tryz.call123 rfl (o5 rJ _) <| gc_ nA rfl <| ov (OpV.not rfl) rfl <| pF nA rfl <| rf 5 (rbq eB) rfl k
  ·refine by_ (t := 28) rfl (fun c5 => ?_) (fun c5 => ?_)
   ·replace h6 := ctrue c5 h6
    exact sk_ c5 rfl <| sk_ c5 rfl <| sk_ c5 rfl <| pT c5 rfl <| rf 3 (rbq h6) rfl k
   ·replace h6 := cfalse c5 h6
    exact bs h6 fun y8 h9 h6 => gc_ c5 rfl <| oL kt27 rfl <| gc_ c5 rfl <| cx Tryz.call73 rfl (o9 h9 _) <| gc_ c5 rfl <| b_ rfl <| pF c5 rfl <| rf 3 (rbq h6) rfl k
 ·refine by_ (t := 24) rfl (fun c2 => ?_) (fun c2 => ?_)
  ·exact sk_ c2 rfl <| sk_ c2 rfl <| pT c2 rfl <| rf 2 (or_t (e := decide (a3 > 4096)) c2) rfl k
  ·exact gc_ c2 rfl <| m_ rfl <| gc_ c2 rfl <| b_ rfl <| pF c2 rfl <| rf 2 (or_f c2) rfl k
noncomputable def iG (a0 : ac) : Option Bool :=
 some ((((((decide (a0.Left ≥ 0)) && (decide (a0.Left ≤ 8))) && (decide (a0.Round ≥ 0))) && (decide (a0.Round ≤ 4611686018427387903))) && (decide (a0.Epoch ≥ 0))) && (decide (a0.Epoch ≤ 4611686018427387904)))
theorem o112 {a0 : ac} {r0 : Bool} (hF : iG a0 = some r0) (L : List Res) : Ok Tryz.prog 127 [SV.val cK a0] L (SV.raw (.bool r0)) L := by
 unfold iG at hF
 refine okI 31 Tryz.func127 rfl rfl rfl fun F0 => ?_
 refine sr <| bX (K := cK) rfl rdV rfl <| a_ rfl <| ns <| oF fb43k rfl <| oI kt3 rfl <| b_ rfl <| m_ rfl <| cz 10 ((decide (a0.Left ≥ 0)) && (decide (a0.Left ≤ 8))) ?_ (fun k => ?_)
 ·refine m_ rfl <| cz 15 (((decide (a0.Left ≥ 0)) && (decide (a0.Left ≤ 8))) && (decide (a0.Round ≥ 0))) ?_ (fun k => ?_)
  ·refine m_ rfl <| cz 20 ((((decide (a0.Left ≥ 0)) && (decide (a0.Left ≤ 8))) && (decide (a0.Round ≥ 0))) && (decide (a0.Round ≤ 4611686018427387903))) ?_ (fun k => ?_)
   ·refine m_ rfl <| cz 25 (((((decide (a0.Left ≥ 0)) && (decide (a0.Left ≤ 8))) && (decide (a0.Round ≥ 0))) && (decide (a0.Round ≤ 4611686018427387903))) && (decide (a0.Epoch ≥ 0))) ?_ (fun k => ?_)
    ·refine m_ rfl <| cz 30 ((((((decide (a0.Left ≥ 0)) && (decide (a0.Left ≤ 8))) && (decide (a0.Round ≥ 0))) && (decide (a0.Round ≤ 4611686018427387903))) && (decide (a0.Epoch ≥ 0))) && (decide (a0.Epoch ≤ 4611686018427387904))) ?_ (fun k => ?_)
     ·refine a_ rfl <| nt <| rc ?_
      cases osi hF
      exact rs Tryz.results127 (.tm rfl .nil) rfl rfl
     ·refine by_ (t := 26) rfl (fun xA => ?_) (fun xA => ?_)
      ·exact gc_ xA rfl <| oF fb43k2 rfl <| gc_ xA rfl <| oI kt2 rfl <| gc_ xA rfl <| b_ rfl <| pT xA rfl <| rf 3 (fu xA) rfl k
      ·exact sk_ xA rfl <| sk_ xA rfl <| sk_ xA rfl <| pF xA rfl <| rf 3 (fv (e := decide (a0.Epoch ≤ 4611686018427387904)) xA) rfl k
    ·refine by_ (t := 21) rfl (fun yA => ?_) (fun yA => ?_)
     ·exact gc_ yA rfl <| oF fb43k2 rfl <| gc_ yA rfl <| oI kt2 rfl <| gc_ yA rfl <| b_ rfl <| pT yA rfl <| rf 3 (fu yA) rfl k
     ·exact sk_ yA rfl <| sk_ yA rfl <| sk_ yA rfl <| pF yA rfl <| rf 3 (fv (e := decide (a0.Epoch ≥ 0)) yA) rfl k
   ·refine by_ (t := 16) rfl (fun c7 => ?_) (fun c7 => ?_)
    ·exact gc_ c7 rfl <| oF fb43k1 rfl <| gc_ c7 rfl <| oI kt2 rfl <| gc_ c7 rfl <| b_ rfl <| pT c7 rfl <| rf 3 (fu c7) rfl k
    ·exact sk_ c7 rfl <| sk_ c7 rfl <| sk_ c7 rfl <| pF c7 rfl <| rf 3 (fv (e := decide (a0.Round ≤ 4611686018427387903)) c7) rfl k
  ·refine by_ (t := 11) rfl (fun c4 => ?_) (fun c4 => ?_)
   ·exact gc_ c4 rfl <| oF fb43k1 rfl <| gc_ c4 rfl <| oI kt2 rfl <| gc_ c4 rfl <| b_ rfl <| pT c4 rfl <| rf 3 (fu c4) rfl k
   ·exact sk_ c4 rfl <| sk_ c4 rfl <| sk_ c4 rfl <| pF c4 rfl <| rf 3 (fv (e := decide (a0.Round ≥ 0)) c4) rfl k
 ·refine by_ (t := 6) rfl (fun c1 => ?_) (fun c1 => ?_)
  ·exact gc_ c1 rfl <| oF fb43k rfl <| gc_ c1 rfl <| oI kt3 rfl <| gc_ c1 rfl <| b_ rfl <| pT c1 rfl <| rf 3 (fu c1) rfl k
  ·exact sk_ c1 rfl <| sk_ c1 rfl <| sk_ c1 rfl <| pF c1 rfl <| rf 3 (fv (e := decide (a0.Left ≤ 8)) c1) rfl k
noncomputable def bL (a0 : List Int) (a1 : Int) (a2 : Int) : Option (List Int) :=
 (((Loop.run (S := ((List Int) × Int)) (R := (List Int)) (fun (yA, xA) =>
   bif decide (xA ≥ 0) then
    bif decide (0 ≤ (IntKind.wrap .i64 (8 * xA))) then
    (app yA [IntKind.wrap .u8 (shrI .u64 a1 (IntKind.wrap .i64 (8 * xA)))]).bind fun zA =>
    some (.next (zA, IntKind.wrap .i64 (xA - 1)))
    else none
   else
    some (.done yA)) (a0, IntKind.wrap .i64 (a2 - 1))).bind fun hA =>
 some hA
  : Option (List Int))).bind fun bA =>
 some bA
theorem o113 {a0 : List Int} {a1 a2 : Int} {w0 : Value} {r0 : (List Int)} (hF : bL a0 a1 a2 = some r0) (L : List Res) : OkX Tryz.prog 128 [SV.raw w0, SV.raw (.int .u64 a1), SV.raw (.int .i64 a2)] ((.own K10 w0 5 a0) :: L) (fun y : Value => SV.raw y) (fun y : Value => (.own K10 y 5 r0) :: L) := by
 unfold bL at hF
 refine OkX.intro 23 [(0, .raw w0), (1, .raw (.int .u64 a1)), (2, .raw (.int .i64 a2))] Tryz.func128 rfl rfl rfl rfl fun F0 => ?_
 refine bs hF fun kA bA hF => sr <| a_ rfl <| nt <| sq <| Under.after (fun X => ∀ (vA : List Int) (zA : Value), kA = vA → Under F0 23 [(0, .raw zA)] ((.own K10 zA 5 vA) :: L) X) ?_ ?_
 ·intro vA zA oA
  replace oA := oA.symm
  subst oA
  refine sr <| m_ rfl <| a_ rfl <| nt <| rc ?_
  cases osi hF
  exact Under.retsX zA Tryz.results128 (.tm rfl .nil) rfl rfl
 ·intro K dA
  refine bs bA fun mA eA bA => sr <| mb rfl <| a_ rfl <| nt <| bk <| lp eA (C := Value) w0 (fun yA hA => [(0, .raw hA), (1, .raw (.int .u64 a1)), (7, .raw (.int .i64 yA.2))]) (fun yA hA => (.own K10 hA 5 yA.1) :: L) rfl rfl fun yA hA nA xA cA => ?_
  obtain ⟨pA, qA⟩ := yA
  dsimp only at xA ⊢
  refine sq <| sr <| mb rfl <| nt <| it xA rfl (fun xA => ?_) (fun xA => ?_)
  ·exact gs xA fun rA xA => bs xA fun tA wA xA => ct <| sq <| bk <| rg <| m_ rfl <| m_ rfl <| mb rfl <| ov (OpV.sh rfl rfl (of_decide_eq_true rA) rfl) rfl <| oC (by kernel_rfl) Tryz.underlying5 rfl <| bF (ys := [IntKind.wrap .u8 (shrI .u64 a1 (IntKind.wrap .i64 (8 * qA)))]) Tryz.underlying22 ET5 (BldA.cons rfl rfl rdI (BldA.nil _)) rfl rfl <| ap wA Tryz.underlying22 AT5 rfl rfl rdV rfl fun gA => a_ rfl <| nl <| bN <| tn <| rg <| mb rfl <| a_ rfl <| nl <| nx gA xA rfl rfl
  ·refine xt <| te ?_
   cases ai xA cA
   exact te <| bh <| tn <| wr (dA _ _ (osi bA).symm) rfl
noncomputable def cV (a0 : List Int) (a1 : Int) (a2 : Int) : Option (List Int) :=
 (((Loop.run (S := ((List Int) × Int)) (R := (List Int)) (fun (yA, xA) =>
   bif decide (xA ≥ 0) then
    bif decide (0 ≤ (IntKind.wrap .i64 (8 * xA))) then
    (app yA [IntKind.wrap .u8 (shrI .u64 a1 (IntKind.wrap .i64 (8 * xA)))]).bind fun zA =>
    some (.next (zA, IntKind.wrap .i64 (xA - 1)))
    else none
   else
    some (.done yA)) (a0, IntKind.wrap .i64 (a2 - 1))).bind fun hA =>
 some hA
  : Option (List Int))).bind fun bA =>
 some bA
theorem o114 {a0 : List Int} {a1 a2 : Int} {w0 : Value} {r0 : (List Int)} (hF : cV a0 a1 a2 = some r0) (L : List Res) : Ok Tryz.prog 128 [SV.raw w0, SV.raw (.int .u64 a1), SV.raw (.int .i64 a2)] ((.own K10 w0 5 a0) :: L) (SV.val K7 r0) L := by
 unfold cV at hF
 refine okI 23 Tryz.func128 rfl rfl rfl fun F0 => ?_
 refine bs hF fun zA bA hF => sr <| a_ rfl <| nt <| sq <| afr (r := zA) (fun zA => [(0, .val K7 zA)]) (fun zA => (L)) ?_ fun K vA => ?_
 ·refine sr <| m_ rfl <| a_ rfl <| nt <| rc ?_
  cases osi hF
  exact rs Tryz.results128 (.tm rfl .nil) rfl rfl
 ·refine bs bA fun rA oA bA => sr <| mb rfl <| a_ rfl <| nt <| bk <| lp oA (C := Value) w0 (fun yA hA => [(0, .raw hA), (1, .raw (.int .u64 a1)), (7, .raw (.int .i64 yA.2))]) (fun yA hA => (.own K10 hA 5 yA.1) :: L) rfl rfl fun yA hA wA xA kA => ?_
  obtain ⟨gA, dA⟩ := yA
  dsimp only at xA ⊢
  refine sq <| sr <| mb rfl <| nt <| it xA rfl (fun xA => ?_) (fun xA => ?_)
  ·exact gs xA fun eA xA => bs xA fun mA cA xA => ct <| sq <| bk <| rg <| m_ rfl <| m_ rfl <| mb rfl <| ov (OpV.sh rfl rfl (of_decide_eq_true eA) rfl) rfl <| oC (by kernel_rfl) Tryz.underlying5 rfl <| bF (ys := [IntKind.wrap .u8 (shrI .u64 a1 (IntKind.wrap .i64 (8 * dA)))]) Tryz.underlying22 ET5 (BldA.cons rfl rfl rdI (BldA.nil _)) rfl rfl <| ap cA Tryz.underlying22 AT5 rfl rfl rdV rfl fun qA => a_ rfl <| nl <| bN <| tn <| rg <| mb rfl <| a_ rfl <| nl <| nx qA xA rfl rfl
  ·refine fzO (t := 0) rfl <| xt <| te ?_
   cases ai xA kA
   exact te <| bh <| tn <| wr (vA _ (osi bA).symm) rfl
noncomputable def gO (a0 : aH) : Option ((List Int) × Int) :=
 (iG a0.Header).bind fun y1 =>
 bif !y1 then
  some ([], 62)
 else
  bif decide ((a0.Cells.length : Int) > 256) then
   some ([], 63)
  else
   bif mkB 0 (IntKind.wrap .i64 ((IntKind.wrap .i64 (24 + (IntKind.wrap .i64 ((a0.Cells.length : Int) * 322)))) + 4)) then
   (app (List.replicate (Int.toNat 0) (0 : Int)) [67, 72, 82, 78]).bind fun z8 =>
   (app z8 [1, IntKind.wrap .u8 a0.Header.Left]).bind fun dA =>
   (bL dA (IntKind.wrap .u64 (a0.Cells.length : Int)) 2).bind fun eA =>
   (bL eA (IntKind.wrap .u64 a0.Header.Round) 8).bind fun cA =>
   (bL cA (IntKind.wrap .u64 a0.Header.Epoch) 8).bind fun qA =>
   (((Loop.run (S := ((List Int) × Int)) (R := ((List Int) ⊕ ((List Int) × Int))) (fun (yA, xA) =>
     bif decide (xA < (a0.Cells.length : Int)) then
      (idx a0.Cells xA).bind fun zA =>
      bif (zA.length : Int) != 320 then
       some (.done (.inr ([], 64)))
      else
       (bL yA 320 2).bind fun hA =>
       (app hA zA).bind fun bA =>
       some (.next (bA, IntKind.wrap .i64 (xA + 1)))
     else
      some (.done (.inl yA))) (qA, 0)).bind fun vA => match vA with
    | .inl oA =>
     some (.inr oA)
    | .inr z =>
     some (.inl z)
    : Option (((List Int) × Int) ⊕ (List Int)))).bind fun rA => match rA with
    | .inl z =>
     some z
    | .inr kA =>
     (dR (⟨1, (0 : Int)⟩ : av) kA).bind fun wA =>
     (dc wA).bind fun gA =>
     (cV kA (IntKind.wrap .u64 gA) 4).bind fun mA =>
     some (mA, 0)
   else none
theorem o115 {a0 : aH} {r0 : ((List Int) × Int)} (hF : gO a0 = some r0) (L : List Res) : Ok Tryz.prog 68 [SV.val bj a0] L (SV.tup [SV.val K7 r0.1, SV.raw (.int .i64 r0.2)]) L := by
 unfold gO at hF
 refine okI 74 Tryz.func68 rfl rfl rfl fun F0 => ?_
 refine bs hF fun y1 h2 hF => sr <| bX (K := bj) rfl rdV rfl <| a_ rfl <| a_ rfl <| nt <| sq <| bk <| sr <| oF fb46k rfl <| oL kt43 rfl <| cx Tryz.call127 rfl (o112 h2 _) <| ov (OpV.not rfl) rfl <| a_ rfl <| nt <| it hF rfl (fun hF => ?_) (fun hF => ?_)
 ·refine sr <| a_ rfl <| a_ rfl <| nt <| rc <| Under.bR <| tr <| tV (K := kSl K10) (x := []) (t := 2) rfl rdN ?_
  cases osi hF
  exact rs Tryz.results68 (.tm rfl (.tm rfl .nil)) rfl rfl
 ·refine sr <| oF fb46k1 rfl <| oL kt44 rfl <| oN Tryz.underlying44 rfl <| b_ rfl <| a_ rfl <| nt <| it hF rfl (fun hF => ?_) (fun hF => ?_)
  ·refine sr <| a_ rfl <| a_ rfl <| nt <| rc <| Under.bR <| tr <| tV (K := kSl K10) (x := []) (t := 2) rfl rdN ?_
   cases osi hF
   exact rs Tryz.results68 (.tm rfl (.tm rfl .nil)) rfl rfl
  ·refine gs hF fun h6 hF => bs hF fun z8 h9 hF => bs hF fun qB wA hF => bs hF fun rB gA hF => cs <| bN <| tn <| sr <| oF fb46k1 rfl <| oL kt44 rfl <| oN Tryz.underlying44 rfl <| b_ rfl <| b_ rfl <| b_ rfl <| Under.mk h6 Tryz.underlying22 AT5 rfl rfl rfl fun v5 => a_ rfl <| ns <| m_ rfl <| Under.appG h9 Tryz.underlying22 (by kernel_rfl) AT5 rfl rfl (.str pS) rfl fun wB => a_ rfl <| ns <| m_ rfl <| oF fb46k rfl <| oF fb43k rfl <| oI kt3 rfl <| oC (by kernel_rfl) Tryz.underlying5 rfl <| bF (ys := [1, IntKind.wrap .u8 a0.Header.Left]) Tryz.underlying22 ET5 (BldA.cons rfl rfl rdI (BldA.cons rfl rfl rdI (BldA.nil _))) rfl rfl <| ap wA Tryz.underlying22 AT5 rfl rfl rdV rfl fun gB => a_ rfl <| ns <| m_ rfl <| oF fb46k1 rfl <| oL kt44 rfl <| oN Tryz.underlying44 rfl <| oC (by kernel_rfl) Tryz.underlying71 rfl <| Under.callX Tryz.call128 rfl rfl (o113 gA _) rfl ?_
   rintro mB
   refine bs hF fun nB mA hF => a_ rfl <| ns <| m_ rfl <| oF fb46k rfl <| oF fb43k1 rfl <| oI kt2 rfl <| oC (by kernel_rfl) Tryz.underlying71 rfl <| Under.callX Tryz.call128 rfl rfl (o113 mA _) rfl ?_
   rintro pB
   refine bs hF fun tB nA hF => a_ rfl <| ns <| m_ rfl <| oF fb46k rfl <| oF fb43k2 rfl <| oI kt2 rfl <| oC (by kernel_rfl) Tryz.underlying71 rfl <| Under.callX Tryz.call128 rfl rfl (o113 nA _) rfl ?_
   rintro pA
   refine bs hF fun tA vA hF => a_ rfl <| nt <| sq <| Under.after (fun X => ∀ (oA : List Int) (kA : Value), tA = (.inr oA) → Under F0 74 [(4, .raw kA)] ((.own K10 kA 5 oA) :: L) X) ?_ ?_
   ·intro oA kA hA
    replace hA := hA.symm
    subst hA
    refine bs hF fun uB uA hF => bs hF fun xC xB hF => bs hF fun yC yB hF => sr <| m_ rfl <| ov (OpV.bst BT144 (Bld.cons (x' := (⟨1, (0 : Int)⟩ : av)) rfl rfl rdI (by intro q hq; simp only [List.mem_cons, List.not_mem_nil, or_false] at hq; rcases hq with rfl <;> rfl) (Bld.nil _))) rfl <| m_ rfl <| ca Tryz.call129 rfl rfl (Ok.lend (fun L => o16 uA L) ⟨.inl rfl, ⟨.inr ⟨rfl, rfl⟩, trivial⟩⟩ (SvF.val (Free.st2 Free.int Free.int))) rfl <| cx Tryz.call130 rfl (o15 xB _) <| oC (by kernel_rfl) Tryz.underlying71 rfl <| cx Tryz.call128 rfl (o114 yB _) <| a_ rfl <| a_ rfl <| nt <| rc ?_
    cases osi hF
    exact rs Tryz.results68 (.tm rfl (.tm rfl .nil)) rfl rfl
   ·intro K zB
    refine bs vA fun hB dA vA => sr <| oF fb46k1 rfl <| oL kt44 rfl <| oN Tryz.underlying44 rfl <| m_ rfl <| nt <| bk <| lp dA (C := Value) pA (fun yA zA => [(4, .raw zA), (52, .val K1 a0.Cells), (53, .raw (.int .i64 (a0.Cells.length : Int))), (54, .raw (.int .i64 yA.2))]) (fun yA zA => (.own K10 zA 5 yA.1) :: L) rfl rfl fun yA zA bB xA bA => ?_
    obtain ⟨vB, oB⟩ := yA
    dsimp only at xA ⊢
    refine sr <| b_ rfl <| nt <| sq <| it xA rfl (fun xA => ?_) (fun xA => ?_)
    ·refine bs xA fun kB eA xA => ct <| sq <| bk <| sr <| oS eA Tryz.underlying44 sz22 rfl <| oL kt22 rfl <| a_ rfl <| nt <| sq <| sr <| m_ rfl <| oN Tryz.underlying22 rfl <| b_ rfl <| nt <| it xA rfl (fun xA => ?_) (fun xA => ?_)
     ·refine dr <| sr <| a_ rfl <| a_ rfl <| nt <| rt <| Under.bR <| tr ?_
      cases ai xA bA
      refine tr <| Under.bR <| tr ?_
      cases osi vA
      refine tV (K := kSl K10) (x := []) (t := 2) rfl rdN ?_
      cases osi hF
      exact rs Tryz.results68 (.tm rfl (.tm rfl .nil)) rfl rfl
     ·refine bs xA fun dB cA xA => ct <| sr <| m_ rfl <| Under.callX Tryz.call128 rfl rfl (o113 cA _) rfl ?_
      rintro eB
      exact bs xA fun cB qA xA => a_ rfl <| nt <| rg <| m_ rfl <| m_ rfl <| ap qA Tryz.underlying22 AT5 rfl rfl rdV rfl fun rA => a_ rfl <| nl <| bN <| tn <| rg <| b_ rfl <| m_ rfl <| nl <| nx rA xA rfl rfl
    ·refine xt <| te ?_
     cases ai xA bA
     exact te <| bh <| tn <| wr (zB _ _ (osi vA).symm) rfl
noncomputable def gn (a0 : ar) (a1 : aC) (a2 : List Int) (a3 : List Int) : Option aK :=
 (gP a0 a1 a2).bind fun y2 =>
 bif y2.2.2.2 != 0 then
  (bT a1 y2.2.2.2 y2.2.2.1).bind fun y6 =>
  some y6
 else
  (gb a0 y2.2.1 y2.1).bind fun y9 =>
  bif y9.2.2 != 0 then
   (bT a1 y9.2.2 0).bind fun eA =>
   some eA
  else
   (eX a0 y9.1 a3).bind fun xA =>
   bif xA.2.2 != 0 then
    (bT a1 xA.2.2 0).bind fun cA =>
    some cA
   else
    (eP a3 a0.Chunks xA.1).bind fun yA =>
    bif yA.2 != 0 then
     (bT a1 yA.2 0).bind fun qA =>
     some qA
    else
     (((Loop.run (S := ((List (List Int)) × Int)) (R := (List (List Int))) (fun (dA, zA) =>
       bif decide (zA < (y9.1.length : Int)) then
        (idx y9.1 zA).bind fun hA =>
        (app dA [hA.Replay]).bind fun bA =>
        some (.next (bA, IntKind.wrap .i64 (zA + 1)))
       else
        some (.done dA)) ([], 0)).bind fun vA =>
     some vA
      : Option (List (List Int)))).bind fun rA =>
     (gN y2.2.1 y2.1.Header.Epoch rA a0.Room).bind fun oA =>
     bif oA.2 != 0 then
      (bT a1 oA.2 0).bind fun wA =>
      some wA
     else
      (gO (⟨(⟨y2.1.Header.Round, y2.1.Header.Epoch, IntKind.wrap .i64 (a0.Left - 1)⟩ : ac), yA.1⟩ : aH)).bind fun kA =>
      bif kA.2 != 0 then
       (bT a1 kA.2 0).bind fun gA =>
       some gA
      else
       some (⟨kA.1, (⟨IntKind.wrap .i64 (y2.1.Header.Round + 1), oA.1⟩ : aC), ({ ({ y9.2.1 with Noise := xA.2.1 } : ah) with Out := (yA.1.length : Int) } : ah), (0 : Int), (0 : Int)⟩ : aK)
theorem o116 {a0 : ar} {a1 : aC} {a2 a3 : List Int} {r0 : aK} (hF : gn a0 a1 a2 a3 = some r0) (L : List Res) : Ok Tryz.prog 18 [SV.val aP a0, SV.val aT a1, SV.val K7 a2, SV.val K7 a3] L (SV.val cd r0) L := by
 unfold gn at hF
 refine okI 138 Tryz.func18 rfl rfl rfl fun F0 => ?_
 refine bs hF fun y2 h3 hF => sr <| bX (K := aP) rfl rdV rfl <| bX (K := aT) rfl rdV rfl <| al ZT37 rfl fun b1 => ns <| oL kt24 rfl <| oL kt29 rfl <| m_ rfl <| cx Tryz.call63 rfl (o24 h3 _) <| m_ rfl <| oE rfl <| oE rfl <| oE rfl <| oE rfl <| al ZT46 rfl fun b4 => al ZT27 rfl fun b5 => f1 <| sP (x' := y2.1) .box .id sz46k rfl rfl rdV rfl <| f1 <| sP (x' := y2.2.1) .box .id sz27k rfl rfl rdV rfl <| a_ rfl <| a_ rfl <| nl <| f1 <| fz (t := 9) rfl <| tn <| sq <| sr <| mb rfl <| nt <| it hF rfl (fun hF => ?_) (fun hF => ?_)
 ·refine bs hF fun y6 h7 hF => dr <| sr <| oL kt29 rfl <| m_ rfl <| m_ rfl <| cx Tryz.call64 rfl (o27 h7 _) <| sP (x' := y6) .box .id sz37k rfl rfl rdV rfl <| nl <| fz (t := 8) rfl <| tn <| rt ?_
  cases osi hF
  exact rs Tryz.results18 (.ce rfl kt37 .nil) rfl rfl
 ·refine bs hF fun y9 nA hF => ct <| sr <| oL kt24 rfl <| lP .box .id kt27k rfl rfl <| oL kt46 rfl <| cx Tryz.call26 rfl (o76 nA _) <| m_ rfl <| oE rfl <| oE rfl <| oE rfl <| al ZT34 rfl fun kA => a_ rfl <| sP (x' := y9.2.1) .box .id sz34k rfl rfl rdV rfl <| a_ rfl <| nt <| sq <| sr <| mb rfl <| nt <| it hF rfl (fun hF => ?_) (fun hF => ?_)
  ·refine bs hF fun pA tA hF => dr <| dr <| sr <| oL kt29 rfl <| m_ rfl <| cx Tryz.call64 rfl (o27 tA _) <| sP (x' := pA) .box .id sz37k rfl rfl rdV rfl <| nl <| fz (t := 8) rfl <| tn <| rt ?_
   cases osi hF
   exact rs Tryz.results18 (.ce rfl kt37 .nil) rfl rfl
  ·refine bs hF fun hA uA hF => ct <| sr <| oL kt24 rfl <| m_ rfl <| m_ rfl <| cx Tryz.call65 rfl (o84 uA _) <| m_ rfl <| oE rfl <| oE rfl <| oE rfl <| a_ rfl <| a_ rfl <| a_ rfl <| nt <| sq <| sr <| mb rfl <| nt <| it hF rfl (fun hF => ?_) (fun hF => ?_)
   ·refine bs hF fun xB yB hF => dr <| dr <| sr <| oL kt29 rfl <| m_ rfl <| cx Tryz.call64 rfl (o27 yB _) <| sP (x' := xB) .box .id sz37k rfl rfl rdV rfl <| nl <| fz (t := 8) rfl <| tn <| rt ?_
    cases osi hF
    exact rs Tryz.results18 (.ce rfl kt37 .nil) rfl rfl
   ·refine bs hF fun bA zB hF => ct <| sr <| m_ rfl <| oF fb24k7 rfl <| oI kt3 rfl <| m_ rfl <| cx Tryz.call66 rfl (o109 zB _) <| m_ rfl <| oE rfl <| oE rfl <| a_ rfl <| a_ rfl <| nt <| sq <| sr <| mb rfl <| nt <| it hF rfl (fun hF => ?_) (fun hF => ?_)
    ·refine bs hF fun hB bB hF => dr <| dr <| sr <| oL kt29 rfl <| m_ rfl <| cx Tryz.call64 rfl (o27 bB _) <| sP (x' := hB) .box .id sz37k rfl rfl rdV rfl <| nl <| fz (t := 8) rfl <| tn <| rt ?_
     cases osi hF
     exact rs Tryz.results18 (.ce rfl kt37 .nil) rfl rfl
    ·refine bs hF fun dA cA hF => ct <| sr <| a_ rfl <| nt <| sq <| afr (r := dA) (fun dA => [(4, .ptr aP a0), (5, .ptr aT a1), (8, pb b1), (9, .ptr bj y2.1), (10, pb b5), (14, pb kA), (15, .val K1 bA.1), (16, .raw (.int .i64 hA.2.1)), (17, .val K0 dA)]) (fun dA => ((.box cd b1 37 (⟨[], (⟨(0 : Int), (⟨(0 : Int), []⟩ : aa)⟩ : aC), (⟨(0 : Int), (0 : Int), (0 : Int), (0 : Int), (0 : Int)⟩ : ah), (0 : Int), (0 : Int)⟩ : aK)) :: (.box ae b5 27 y2.2.1) :: (.box bg kA 34 y9.2.1) :: L)) ?_ fun K vB => ?_
     ·refine bs hF fun vA oB hF => sr <| f1 <| lP .box .id kt27k rfl rfl <| oF fb46k rfl <| oF fb43k2 rfl <| oI kt2 rfl <| m_ rfl <| oF fb24k3 rfl <| oI kt3 rfl <| cx Tryz.call67 rfl (o111 oB _) <| m_ rfl <| oE rfl <| oE rfl <| sP (x' := vA.1) .box .id sz27k rfl rfl rdV rfl <| a_ rfl <| nl <| fz (t := 10) rfl <| tn <| sq <| sr <| mb rfl <| nt <| it hF rfl (fun hF => ?_) (fun hF => ?_)
      ·refine bs hF fun kB dB hF => f1 <| dr <| sr <| oL kt29 rfl <| m_ rfl <| cx Tryz.call64 rfl (o27 dB _) <| sP (x' := kB) .box .id sz37k rfl rfl rdV rfl <| nl <| fz (t := 8) rfl <| tn <| rt ?_
       cases osi hF
       exact rs Tryz.results18 (.ce rfl kt37 .nil) rfl rfl
      ·refine bs hF fun eA eB hF => ct <| sr <| oF fb46k rfl <| oF fb43k1 rfl <| oI kt2 rfl <| oF fb46k rfl <| oF fb43k2 rfl <| oI kt2 rfl <| oF fb24k1 rfl <| oI kt3 rfl <| b_ rfl <| ov (OpV.bst BT43 (Bld.cons (x' := (⟨y2.1.Header.Round, (0 : Int), (0 : Int)⟩ : ac)) rfl rfl rdI (by intro q hq; simp only [List.mem_cons, List.not_mem_nil, or_false] at hq; rcases hq with rfl | rfl <;> rfl) (Bld.cons (x' := (⟨y2.1.Header.Round, y2.1.Header.Epoch, (0 : Int)⟩ : ac)) rfl rfl rdI ⟨rfl, (by intro q hq; simp only [List.mem_cons, List.not_mem_nil, or_false] at hq; rcases hq with rfl <;> rfl)⟩ (Bld.cons (x' := (⟨y2.1.Header.Round, y2.1.Header.Epoch, IntKind.wrap .i64 (a0.Left - 1)⟩ : ac)) rfl rfl rdI ⟨rfl, ⟨rfl, (fun q hq => by simp at hq)⟩⟩ (Bld.nil _))))) rfl <| m_ rfl <| ov (OpV.bst BT46 (Bld.cons (x' := (⟨(⟨y2.1.Header.Round, y2.1.Header.Epoch, IntKind.wrap .i64 (a0.Left - 1)⟩ : ac), []⟩ : aH)) rfl rfl rdV (by intro q hq; simp only [List.mem_cons, List.not_mem_nil, or_false] at hq; rcases hq with rfl <;> rfl) (Bld.cons (x' := (⟨(⟨y2.1.Header.Round, y2.1.Header.Epoch, IntKind.wrap .i64 (a0.Left - 1)⟩ : ac), bA.1⟩ : aH)) rfl rfl rdV ⟨rfl, (fun q hq => by simp at hq)⟩ (Bld.nil _)))) rfl <| cx Tryz.call68 rfl (o115 eB _) <| m_ rfl <| oE rfl <| oE rfl <| a_ rfl <| a_ rfl <| nt <| sq <| sr <| mb rfl <| nt <| it hF rfl (fun hF => ?_) (fun hF => ?_)
       ·refine bs hF fun cB qB hF => f1 <| dr <| sr <| oL kt29 rfl <| m_ rfl <| cx Tryz.call64 rfl (o27 qB _) <| sP (x' := cB) .box .id sz37k rfl rfl rdV rfl <| nl <| fz (t := 8) rfl <| tn <| rt ?_
        cases osi hF
        exact rs Tryz.results18 (.ce rfl kt37 .nil) rfl rfl
       ·refine ct <| sr <| m_ rfl <| m_ rfl <| oN Tryz.underlying44 rfl <| oM yw rfl <| f1 <| sP (x' := ({ y9.2.1 with Noise := hA.2.1 } : ah)) .box (.fld .id kY) sz3k rfl rfl rdI rfl <| oM yx rfl <| sP (x' := ({ ({ y9.2.1 with Noise := hA.2.1 } : ah) with Out := (bA.1.length : Int) } : ah)) .box (.fld .id kZ) sz3k rfl rfl rdI rfl <| nl <| fz (t := 14) rfl <| tn <| sr <| m_ rfl <| oF fb46k rfl <| oF fb43k1 rfl <| oI kt2 rfl <| b_ rfl <| oL kt27 rfl <| ov (OpV.bst BT29 (Bld.cons (x' := (⟨IntKind.wrap .i64 (y2.1.Header.Round + 1), (⟨(0 : Int), []⟩ : aa)⟩ : aC)) rfl rfl rdI (by intro q hq; simp only [List.mem_cons, List.not_mem_nil, or_false] at hq; rcases hq with rfl <;> rfl) (Bld.cons (x' := (⟨IntKind.wrap .i64 (y2.1.Header.Round + 1), vA.1⟩ : aC)) rfl rfl rdV ⟨rfl, (fun q hq => by simp at hq)⟩ (Bld.nil _)))) rfl <| oL kt34 rfl <| ov (OpV.bst BT37 (Bld.cons (x' := (⟨eA.1, (⟨(0 : Int), (⟨(0 : Int), []⟩ : aa)⟩ : aC), (⟨(0 : Int), (0 : Int), (0 : Int), (0 : Int), (0 : Int)⟩ : ah), (0 : Int), (0 : Int)⟩ : aK)) rfl rfl rdV (by intro q hq; simp only [List.mem_cons, List.not_mem_nil, or_false] at hq; rcases hq with rfl | rfl | rfl | rfl <;> rfl) (Bld.cons (x' := (⟨eA.1, (⟨IntKind.wrap .i64 (y2.1.Header.Round + 1), vA.1⟩ : aC), (⟨(0 : Int), (0 : Int), (0 : Int), (0 : Int), (0 : Int)⟩ : ah), (0 : Int), (0 : Int)⟩ : aK)) rfl rfl rdV ⟨rfl, (by intro q hq; simp only [List.mem_cons, List.not_mem_nil, or_false] at hq; rcases hq with rfl | rfl | rfl <;> rfl)⟩ (Bld.cons (x' := (⟨eA.1, (⟨IntKind.wrap .i64 (y2.1.Header.Round + 1), vA.1⟩ : aC), ({ ({ y9.2.1 with Noise := hA.2.1 } : ah) with Out := (bA.1.length : Int) } : ah), (0 : Int), (0 : Int)⟩ : aK)) rfl rfl rdV ⟨rfl, ⟨rfl, (by intro q hq; simp only [List.mem_cons, List.not_mem_nil, or_false] at hq; rcases hq with rfl | rfl <;> rfl)⟩⟩ (Bld.nil _))))) rfl <| sP (x' := (⟨eA.1, (⟨IntKind.wrap .i64 (y2.1.Header.Round + 1), vA.1⟩ : aC), ({ ({ y9.2.1 with Noise := hA.2.1 } : ah) with Out := (bA.1.length : Int) } : ah), (0 : Int), (0 : Int)⟩ : aK)) .box .id sz37k rfl rfl rdV rfl <| nl <| fz (t := 8) rfl <| tn <| rc ?_
        cases osi hF
        exact rs Tryz.results18 (.ce rfl kt37 .nil) rfl rfl
     ·refine bs cA fun rB qA cA => sr <| m_ rfl <| oN Tryz.underlying59 rfl <| m_ rfl <| nt <| bk <| Under.ownNil (K := kArr 16 K10) (e := 64) <| f1 <| f2 <| f3 <| f3 <| lp qA (C := Value) (.slice none 0 0) (fun yA zA => [(4, .ptr aP a0), (5, .ptr aT a1), (8, pb b1), (9, .ptr bj y2.1), (10, pb b5), (14, pb kA), (15, .val K1 bA.1), (16, .raw (.int .i64 hA.2.1)), (17, .raw zA), (75, .val (kSl aQ) y9.1), (76, .raw (.int .i64 (y9.1.length : Int))), (77, .raw (.int .i64 yA.2))]) (fun yA zA => (.own K2 zA 64 yA.1) :: (.box cd b1 37 (⟨[], (⟨(0 : Int), (⟨(0 : Int), []⟩ : aa)⟩ : aC), (⟨(0 : Int), (0 : Int), (0 : Int), (0 : Int), (0 : Int)⟩ : ah), (0 : Int), (0 : Int)⟩ : aK)) :: (.box ae b5 27 y2.2.1) :: (.box bg kA 34 y9.2.1) :: L) rfl rfl fun yA zA wB xA rA => ?_
      obtain ⟨nB, pB⟩ := yA
      dsimp only at xA ⊢
      refine sr <| b_ rfl <| nt <| sq <| it xA rfl (fun xA => ?_) (fun xA => ?_)
      ·exact bs xA fun oA wA xA => bs xA fun gB gA xA => ct <| sq <| bk <| sr <| oS wA Tryz.underlying59 sz66 rfl <| oL kt66 rfl <| al ZT66 rfl fun mB => sP (x' := oA) .box .id sz66k rfl rfl rdV rfl <| nl <| fz (t := 19) rfl <| tn <| rg <| m_ rfl <| oF fb66k rfl <| oL kt64 rfl <| bF (ys := [oA.Replay]) Tryz.underlying85 ET64 (BldA.cons rfl rfl rdV (BldA.nil _)) rfl rfl <| ap gA Tryz.underlying85 AT64 rfl rfl rdV rfl fun mA => a_ rfl <| nl <| bN <| tn <| rg <| b_ rfl <| m_ rfl <| nl <| nx mA xA rfl rfl
      ·refine fzO (t := 17) rfl <| xt <| te ?_
       cases ai xA rA
       exact te <| bh <| tn <| wr (vB _ (osi cA).symm) rfl
noncomputable def cF  : Option Bool :=
 (fh).bind fun y2 =>
 bif mkB 18 18 then
 (gn y2 (⟨(0 : Int), (⟨(0 : Int), []⟩ : aa)⟩ : aC) [67, 72, 82, 78, 1, 2, 0, 0, 0, 0, 0, 0, 0, 0, 0, 7, 0, 0, 0, 0, 0, 0, 0, 1, 26, 196, 1, 55] (List.replicate (Int.toNat 18) (0 : Int))).bind fun y7 =>
 some ((((y7.Err == 0) && ((strB y7.Out) == [67, 72, 82, 78, 1, 1, 0, 0, 0, 0, 0, 0, 0, 0, 0, 7, 0, 0, 0, 0, 0, 0, 0, 1, 26, 177, 1, 54])) && (y7.State.Next == 8)) && (y7.State.Window.Newest == 1))
 else none
theorem o117  {r0 : Bool} (hF : cF = some r0) (L : List Res) : Ok Tryz.prog 15 [] L (SV.raw (.bool r0)) L := by
 unfold cF at hF
 refine okI 33 Tryz.func15 rfl rfl rfl fun F0 => ?_
 refine bs hF fun y2 h3 hF => gs hF fun h5 hF => bs hF fun y7 h8 hF => sr <| a_ rfl <| ns <| a_ rfl <| ns <| a_ rfl <| nt <| sq <| ph rfl <| Under.grpT (L := L) [0, 1, 2, 3, 4, 5, 6] [[], [], [1], [6], [], [4, 5, 7, 8], []] [⟨sk0 (.val aP y2), [], [], []⟩, ⟨sk0 (.val aT (⟨(0 : Int), (⟨(0 : Int), []⟩ : aa)⟩ : aC)), [], [], []⟩, ⟨sk0 (.raw (.string str0)), [], [], []⟩, ⟨sk0 (.val K7 [67, 72, 82, 78, 1, 2, 0, 0, 0, 0, 0, 0, 0, 0, 0, 7, 0, 0, 0, 0, 0, 0, 0, 1, 26, 196, 1, 55]), [], [], []⟩, ⟨sk1 4 (fun u4 => .raw u4), [], [(0, tk1 4 (fun u4 => .own K10 u4 5 (List.replicate (Int.toNat 18) (0 : Int))))], []⟩, ⟨sk0 (.val cd y7), [0], [], []⟩, ⟨sk1 6 (fun u6 => .raw (.pointer (some ⟨(vblk u6), 0, none⟩))), [], [(1, tk1 6 (fun u6 => .box cd (vblk u6) 37 (⟨[], (⟨(0 : Int), (⟨(0 : Int), []⟩ : aa)⟩ : aC), (⟨(0 : Int), (0 : Int), (0 : Int), (0 : Int), (0 : Int)⟩ : ah), (0 : Int), (0 : Int)⟩ : aK)))], []⟩] [] (fun T : List Res => T) lf0 rfl (by kernel_rfl) rfl rfl (fun F hF0 hA => ?_)
 refine Tq.v (fun G T hG => ?_) ?_
 ·exact cx Tryz.call52 rfl (o0 h3 _) <| Tq.end undef rfl rfl
 refine Tq.v (fun G T hG => ?_) ?_
 ·exact ov (OpV.bst BT29 (Bld.nil _)) rfl <| Tq.end undef rfl rfl
 refine Tq.v (fun G T hG => ?_) ?_
 ·exact m_ rfl <| Tq.end undef rfl rfl
 refine Tq.v (fun G T hG => ?_) ?_
 ·exact Under.s2b (by kernel_rfl) Tryz.underlying22 Tryz.underlying5 rfl vT rfl <| Tq.end undef rfl rfl
 refine Tq.st (.raw (hA 4)) [] rfl rfl (fun G T hG => ?_) ?_
 ·exact Under.mk h5 Tryz.underlying22 AT5 rfl rfl rfl fun v4 => Tq.end v4 rfl rfl
 refine Tq.st (.val cd y7) [.own K10 (hA 4) 5 (List.replicate (Int.toNat 18) (0 : Int))] rfl rfl (fun G T hG => ?_) ?_
 ·exact fzO (t := 8) rfl <| cx Tryz.call18 rfl (o116 h8 _) <| Tq.end undef rfl rfl
 refine Tq.st (.raw (.pointer (some ⟨(vblk (hA 6)), 0, none⟩))) [] rfl rfl (fun G T hG => ?_) ?_
 ·exact al ZT37 rfl fun b9 => Tq.end (.pointer (some ⟨b9, 0, none⟩)) rfl rfl
 refine Tq.nil <| Under.le hF0 <| p1 7 rfl rfl <| sP (x' := y7) .box .id sz37k rfl rfl rdV rfl <| pn <| pd rfl <| fz (t := 3) rfl <| tn <| sr <| oF fb37k rfl <| oI kt35 rfl <| b_ rfl <| m_ rfl <| iM 19 ((y7.Err == 0) && ((strB y7.Out) == [67, 72, 82, 78, 1, 1, 0, 0, 0, 0, 0, 0, 0, 0, 0, 7, 0, 0, 0, 0, 0, 0, 0, 1, 26, 177, 1, 54])) ?_ (fun k => ?_)
 ·refine m_ rfl <| kc 25 (((y7.Err == 0) && ((strB y7.Out) == [67, 72, 82, 78, 1, 1, 0, 0, 0, 0, 0, 0, 0, 0, 0, 7, 0, 0, 0, 0, 0, 0, 0, 1, 26, 177, 1, 54])) && (y7.State.Next == 8)) ?_ (fun k => ?_)
  ·refine m_ rfl <| iM 32 ((((y7.Err == 0) && ((strB y7.Out) == [67, 72, 82, 78, 1, 1, 0, 0, 0, 0, 0, 0, 0, 0, 0, 7, 0, 0, 0, 0, 0, 0, 0, 1, 26, 177, 1, 54])) && (y7.State.Next == 8)) && (y7.State.Window.Newest == 1)) ?_ (fun k => ?_)
   ·refine a_ rfl <| nt <| rc ?_
    cases osi hF
    exact rs Tryz.results15 (.tm rfl .nil) rfl rfl
   ·refine by_ (t := 26) rfl (fun xA => ?_) (fun xA => ?_)
    ·exact gc_ xA rfl <| oF fb37k2 rfl <| gc_ xA rfl <| oF fb29k1 rfl <| gc_ xA rfl <| oF fb27k rfl <| gc_ xA rfl <| oI kt2 rfl <| gc_ xA rfl <| b_ rfl <| pT xA rfl <| rf 5 (fu xA) rfl k
    ·exact sk_ xA rfl <| sk_ xA rfl <| sk_ xA rfl <| sk_ xA rfl <| sk_ xA rfl <| pF xA rfl <| rf 5 (fv (e := y7.State.Window.Newest == 1) xA) rfl k
  ·refine by_ (t := 20) rfl (fun zA => ?_) (fun zA => ?_)
   ·exact gc_ zA rfl <| oF fb37k2 rfl <| gc_ zA rfl <| oF fb29k rfl <| gc_ zA rfl <| oI kt2 rfl <| gc_ zA rfl <| b_ rfl <| pT zA rfl <| rf 4 (fu zA) rfl k
   ·exact sk_ zA rfl <| sk_ zA rfl <| sk_ zA rfl <| sk_ zA rfl <| pF zA rfl <| rf 4 (fv (e := y7.State.Next == 8) zA) rfl k
 ·refine by_ (t := 13) rfl (fun yA => ?_) (fun yA => ?_)
  ·exact gc_ yA rfl <| oF fb37k1 rfl <| gc_ yA rfl <| oL kt22 rfl <| gc_ yA rfl <| ov (OpV.b2s Tryz.underlying22 Tryz.underlying5 Tryz.underlying9 rfl rdV) rfl <| gc_ yA rfl <| m_ rfl <| gc_ yA rfl <| ov (OpV.eqS Tryz.underlying9 rfl rdV rfl vU (.inl rfl)) rfl <| pT yA rfl <| rf 5 (fu yA) rfl k
  ·exact sk_ yA rfl <| sk_ yA rfl <| sk_ yA rfl <| sk_ yA rfl <| sk_ yA rfl <| pF yA rfl <| rf 5 (fv (e := (strB y7.Out) == [67, 72, 82, 78, 1, 1, 0, 0, 0, 0, 0, 0, 0, 0, 0, 7, 0, 0, 0, 0, 0, 0, 0, 1, 26, 177, 1, 54]) yA) rfl k
noncomputable def dX (a0 : bi) : Option Bool :=
 (cF).bind fun y1 =>
 bif !y1 then
  some false
 else
  (gn a0.C a0.S a0.Raw a0.Tape).bind fun y4 =>
  bif y4.Err != 0 then
   some ((y4.Out.length : Int) == 0)
  else
   (dx a0.Raw).bind fun y8 =>
   (dx y4.Out).bind fun oA =>
   (fp a0.S.Window y8.1.Header.Epoch a0.C.Span).bind fun hB =>
   bif ((y8.2.2 != 0) || (oA.2.2 != 0)) || (hB.2 != 0) then
    some false
   else
    (gb a0.C hB.1 y8.1).bind fun bA =>
    (eO a0.Tape a0.C.Chunks).bind fun bB =>
    (ft bB.1.Noise y4.Report.Noise (IntKind.wrap .i64 (a0.C.Left - 1))).bind fun vB =>
    bif ((((bA.2.2 != 0) || (bB.2 != 0)) || (vB.2 != 0)) || (bA.2.1.Replays != y4.Report.Replays)) || (bA.2.1.Malformed != y4.Report.Malformed) then
     some false
    else
     (((Loop.run (S := ((List (List Int)) × Int)) (R := ((List (List Int)) ⊕ Bool)) (fun (vA, zA) =>
       bif decide (zA < (bA.1.length : Int)) then
        (idx bA.1 zA).bind fun kA =>
        (app vA [kA.Cell]).bind fun dA =>
        (idx bA.1 zA).bind fun eA =>
        (eW y4.State.Window eA.Replay).bind fun cA =>
        bif !cA then
         some (.done (.inr false))
        else
         some (.next (dA, IntKind.wrap .i64 (zA + 1)))
       else
        some (.done (.inl vA))) ([], 0)).bind fun qA => match qA with
      | .inl rA =>
       some (.inr rA)
      | .inr z =>
       some (.inl z)
      : Option (Bool ⊕ (List (List Int))))).bind fun wA => match wA with
      | .inl z =>
       some z
      | .inr oB =>
       (app oB vB.1).bind fun hA =>
       (eS a0.Tape (hA.length : Int) a0.C.Chunks).bind fun xA =>
       bif ((xA.2 != 0) || ((xA.1.length : Int) != (oA.1.Cells.length : Int))) || ((xA.1.length : Int) != (hA.length : Int)) then
        some false
       else
        (((Loop.run (S := Int) (R := (Unit ⊕ Bool)) (fun yA =>
          bif decide (yA < (xA.1.length : Int)) then
           (idx xA.1 yA).bind fun gA =>
           ((bif decide (gA < 0) then
            some true
           else
            (idx xA.1 yA).bind fun mA =>
            some (decide (mA ≥ (hA.length : Int)))
            : Option Bool)).bind fun nA =>
           ((bif nA then
            some true
           else
            (idx oA.1.Cells yA).bind fun pA =>
            (idx xA.1 yA).bind fun tA =>
            (idx hA tA).bind fun uA =>
            some ((strB pA) != (strB uA))
            : Option Bool)).bind fun xB =>
           bif xB then
            some (.done (.inr false))
           else
            some (.next (IntKind.wrap .i64 (yA + 1)))
          else
           some (.done (.inl ()))) 0).bind fun yB => match yB with
         | .inl _ =>
          some (.inr ())
         | .inr z =>
          some (.inl z)
         : Option (Bool ⊕ Unit))).bind fun zB => match zB with
         | .inl z =>
          some z
         | .inr _ =>
          some true
theorem o118 {a0 : bi} {r0 : Bool} (hF : dX a0 = some r0) (L : List Res) : Ok Tryz.prog 5 [SV.val cZ a0] L (SV.raw (.bool r0)) L := by
 unfold dX at hF
 refine okI 224 Tryz.func5 rfl rfl rfl fun F0 => ?_
 refine bs hF fun y1 h2 hF => sr <| bX (K := cZ) rfl rdV rfl <| a_ rfl <| nt <| sq <| sr <| cx Tryz.call15 rfl (o117 h2 _) <| ov (OpV.not rfl) rfl <| nt <| it hF rfl (fun hF => ?_) (fun hF => ?_)
 ·refine sr <| a_ rfl <| nt <| rt ?_
  cases osi hF
  exact rs Tryz.results5 (.tm rfl .nil) rfl rfl
 ·refine bs hF fun y4 h5 hF => ct <| sr <| oF fb31k rfl <| oL kt24 rfl <| oF fb31k1 rfl <| oL kt29 rfl <| oF fb31k2 rfl <| oL kt22 rfl <| oF fb31k3 rfl <| oL kt22 rfl <| cx Tryz.call18 rfl (o116 h5 _) <| al ZT37 rfl fun b6 => sP (x' := y4) .box .id sz37k rfl rfl rdV rfl <| nl <| fz (t := 3) rfl <| tn <| sq <| sr <| oF fb37k rfl <| oI kt35 rfl <| b_ rfl <| nt <| it hF rfl (fun hF => ?_) (fun hF => ?_)
  ·refine sr <| oF fb37k1 rfl <| oL kt22 rfl <| oN Tryz.underlying22 rfl <| b_ rfl <| a_ rfl <| nt <| rt ?_
   cases osi hF
   exact rs Tryz.results5 (.tm rfl .nil) rfl rfl
  ·refine bs hF fun y8 h9 hF => bs hF fun wA gC hF => bs hF fun cB mC hF => ct <| sr <| oF fb31k2 rfl <| oL kt22 rfl <| cx Tryz.call20 rfl (o20 h9 _) <| m_ rfl <| oE rfl <| oE rfl <| oE rfl <| al ZT46 rfl fun gD => sP (x' := y8.1) .box .id sz46k rfl rfl rdV rfl <| a_ rfl <| a_ rfl <| nl <| fz (t := 4) rfl <| tn <| sr <| oF fb37k1 rfl <| oL kt22 rfl <| cx Tryz.call20 rfl (o20 gC _) <| m_ rfl <| oE rfl <| oE rfl <| oE rfl <| al ZT46 rfl fun mD => sP (x' := wA.1) .box .id sz46k rfl rfl rdV rfl <| a_ rfl <| a_ rfl <| nl <| fz (t := 7) rfl <| tn <| sr <| oF fb31k1 rfl <| oF fb29k1 rfl <| oL kt27 rfl <| oF fb46k rfl <| oF fb43k2 rfl <| oI kt2 rfl <| oF fb31k rfl <| oF fb24k2 rfl <| oI kt3 rfl <| cx Tryz.call25 rfl (o23 mC _) <| m_ rfl <| oE rfl <| oE rfl <| al ZT27 rfl fun nD => sP (x' := cB.1) .box .id sz27k rfl rfl rdV rfl <| a_ rfl <| nl <| fz (t := 10) rfl <| tn <| sq <| sr <| mb rfl <| m_ rfl <| cl 70 ((y8.2.2 != 0) || (wA.2.2 != 0)) ?_ (fun k => ?_)
   ·refine m_ rfl <| cl 74 (((y8.2.2 != 0) || (wA.2.2 != 0)) || (cB.2 != 0)) ?_ (fun k => ?_)
    ·refine nt <| it hF rfl (fun hF => ?_) (fun hF => ?_)
     ·refine sr <| a_ rfl <| nt <| rt ?_
      cases osi hF
      exact rs Tryz.results5 (.tm rfl .nil) rfl rfl
     ·refine bs hF fun qA nC hF => bs hF fun vB pC hF => bs hF fun oB tC hF => ct <| sr <| oF fb31k rfl <| oL kt24 rfl <| oL kt27 rfl <| oL kt46 rfl <| cx Tryz.call26 rfl (o76 nC _) <| m_ rfl <| oE rfl <| oE rfl <| oE rfl <| al ZT34 rfl fun pD => a_ rfl <| sP (x' := qA.2.1) .box .id sz34k rfl rfl rdV rfl <| a_ rfl <| nl <| fz (t := 13) rfl <| tn <| sr <| oF fb31k3 rfl <| oL kt22 rfl <| oF fb31k rfl <| oF fb24k7 rfl <| oI kt3 rfl <| cx Tryz.call22 rfl (o78 pC _) <| m_ rfl <| oE rfl <| oE rfl <| al ZT51 rfl fun tD => sP (x' := vB.1) .box .id sz51k rfl rfl rdV rfl <| a_ rfl <| nl <| fz (t := 14) rfl <| tn <| sr <| oF fb51k rfl <| oL kt22 rfl <| oF fb37k3 rfl <| oF fb34k rfl <| oI kt3 rfl <| oF fb31k rfl <| oF fb24k1 rfl <| oI kt3 rfl <| b_ rfl <| cx Tryz.call27 rfl (o83 tC _) <| m_ rfl <| oE rfl <| oE rfl <| a_ rfl <| a_ rfl <| nt <| sq <| sr <| mb rfl <| m_ rfl <| cl 111 ((qA.2.2 != 0) || (vB.2 != 0)) ?_ (fun k => ?_)
      ·refine m_ rfl <| cl 115 (((qA.2.2 != 0) || (vB.2 != 0)) || (oB.2 != 0)) ?_ (fun k => ?_)
       ·refine m_ rfl <| qy 123 ((((qA.2.2 != 0) || (vB.2 != 0)) || (oB.2 != 0)) || (qA.2.1.Replays != y4.Report.Replays)) ?_ (fun k => ?_)
        ·refine m_ rfl <| qy 131 (((((qA.2.2 != 0) || (vB.2 != 0)) || (oB.2 != 0)) || (qA.2.1.Replays != y4.Report.Replays)) || (qA.2.1.Malformed != y4.Report.Malformed)) ?_ (fun k => ?_)
         ·refine nt <| it hF rfl (fun hF => ?_) (fun hF => ?_)
          ·refine sr <| a_ rfl <| nt <| rt ?_
           cases osi hF
           exact rs Tryz.results5 (.tm rfl .nil) rfl rfl
          ·refine bs hF fun qB gA hF => ct <| sr <| a_ rfl <| nt <| sq <| Under.after (fun X => ∀ (rB : List (List Int)) (wB : Value), qB = (.inr rB) → Under F0 224 [(1, .ptr cZ a0), (7, .ptr bj wA.1), (15, .val K1 oB.1), (16, .raw wB)] ((.own K7 wB 22 rB) :: L) X) ?_ ?_
           ·intro rB wB yB
            replace yB := yB.symm
            subst yB
            refine bs hF fun zB gB hF => bs hF fun kA mB hF => sr <| m_ rfl <| m_ rfl <| ap gB Tryz.underlying44 AT22 rfl rfl rdV rfl fun uC => a_ rfl <| nl <| fzO (t := 16) rfl <| tn <| sr <| oF fb31k3 rfl <| oL kt22 rfl <| m_ rfl <| oN Tryz.underlying44 rfl <| oF fb31k rfl <| oF fb24k7 rfl <| oI kt3 rfl <| cx Tryz.call29 rfl (o105 mB _) <| m_ rfl <| oE rfl <| oE rfl <| a_ rfl <| a_ rfl <| nt <| sq <| sr <| mb rfl <| m_ rfl <| qy 179 ((kA.2 != 0) || ((kA.1.length : Int) != (wA.1.Cells.length : Int))) ?_ (fun k => ?_)
            ·refine m_ rfl <| iM 186 (((kA.2 != 0) || ((kA.1.length : Int) != (wA.1.Cells.length : Int))) || ((kA.1.length : Int) != (zB.length : Int))) ?_ (fun k => ?_)
             ·refine nt <| it hF rfl (fun hF => ?_) (fun hF => ?_)
              ·refine sr <| a_ rfl <| nt <| rt ?_
               cases osi hF
               exact rs Tryz.results5 (.tm rfl .nil) rfl rfl
              ·refine bs hF fun nB mA hF => ct <| sq <| Under.after (fun X => ∀ (_ : Unit), nB = (.inr ()) → Under F0 224 [] (L) X) ?_ ?_
               ·intro _ hB
                replace hB := hB.symm
                subst hB
                refine sr <| a_ rfl <| nt <| rc ?_
                cases osi hF
                exact rs Tryz.results5 (.tm rfl .nil) rfl rfl
               ·intro K pB
                refine bs mA fun xD tB mA => sr <| a_ rfl <| nt <| bk <| lp tB () (fun bB kB => [(7, .ptr bj wA.1), (16, .val K1 zB), (18, .val K6 kA.1), (19, .raw (.int .i64 bB))]) (fun bB kB => L) rfl rfl fun bB kB yD bA dB => ?_
                refine sq <| sr <| m_ rfl <| m_ rfl <| oN Tryz.underlying68 rfl <| b_ rfl <| nt <| it bA rfl (fun bA => ?_) (fun bA => ?_)
                ·refine bs bA fun zD uB bA => bs bA fun xC dA bA => ct <| sq <| bk <| sq <| dw rfl (by kernel_rfl) fun F hF0 => mvq rfl rfl <| mvq rfl rfl <| oq (OpV.ixS uB Tryz.underlying68 sz3 rfl rdV rfl) rfl <| oq (OpV.ldI kt3 rfl) rfl <| bnq rfl rfl rfl rfl <| mvq rfl rfl <| pQ 206 xC ?_ (fun k => ?_)
                 ·refine bs bA fun yC oA bA => mvq rfl rfl <| BC 223 yC ?_ (fun k => ?_)
                  ·refine nlq hF0 <| tn <| it bA rfl (fun bA => ?_) (fun bA => ?_)
                   ·refine sr <| a_ rfl <| nt <| rc <| Under.bR <| tr ?_
                    cases ai bA dB
                    refine tr <| Under.bR <| tr ?_
                    cases osi mA
                    cases osi hF
                    exact rs Tryz.results5 (.tm rfl .nil) rfl rfl
                   ·exact cs <| bN <| tn <| rg <| mb rfl <| a_ rfl <| nl <| nx () bA rfl rfl
                  ·refine byq (t := 207) rfl (fun xA => ?_) (fun xA => ?_)
                   ·replace oA := ctrue xA oA
                    exact skq xA rfl rfl rfl <| skq xA rfl rfl rfl <| skq xA rfl rfl rfl <| skq xA rfl rfl rfl <| skq xA rfl rfl rfl <| skq xA rfl rfl rfl <| skq xA rfl rfl rfl <| skq xA rfl rfl rfl <| skq xA rfl rfl rfl <| skq xA rfl rfl rfl <| skq xA rfl rfl rfl <| skq xA rfl rfl rfl <| skq xA rfl rfl rfl <| skq xA rfl rfl rfl <| skq xA rfl rfl rfl <| oq (pkT xA rfl rfl) rfl <| rfq 15 (rbq oA) rfl k
                   ·replace oA := cfalse xA oA
                    exact bs oA fun hD zC oA => bs oA fun bD hC oA => bs oA fun vD bC oA => gq xA rfl rfl <| oq (OpV.fd fb46k1 rfl rfl) rfl <| gq xA rfl rfl <| oq (OpV.ld kt44 rfl) rfl <| gq xA rfl rfl <| mvq rfl rfl <| gq xA rfl rfl <| oq (OpV.ixS zC Tryz.underlying44 sz22 rfl rdV rfl) rfl <| gq xA rfl rfl <| oq (OpV.ld kt22 rfl) rfl <| gq xA rfl rfl <| oq (OpV.b2s Tryz.underlying22 Tryz.underlying5 Tryz.underlying9 rfl rdV) rfl <| gq xA rfl rfl <| mvq rfl rfl <| gq xA rfl rfl <| mvq rfl rfl <| gq xA rfl rfl <| mvq rfl rfl <| gq xA rfl rfl <| oq (OpV.ixS hC Tryz.underlying68 sz3 rfl rdV rfl) rfl <| gq xA rfl rfl <| oq (OpV.ldI kt3 rfl) rfl <| gq xA rfl rfl <| oq (OpV.ixS bC Tryz.underlying44 sz22 rfl rdV rfl) rfl <| gq xA rfl rfl <| oq (OpV.ld kt22 rfl) rfl <| gq xA rfl rfl <| oq (OpV.b2s Tryz.underlying22 Tryz.underlying5 Tryz.underlying9 rfl rdV) rfl <| gq xA rfl rfl <| oq (OpV.eqS Tryz.underlying9 rfl rdV rfl rdV (.inr rfl)) rfl <| oq (pkF xA rfl rfl) rfl <| rfq 15 (rbq oA) rfl k
                 ·refine byq (t := 198) rfl (fun yA => ?_) (fun yA => ?_)
                  ·replace dA := ctrue yA dA
                   exact skq yA rfl rfl rfl <| skq yA rfl rfl rfl <| skq yA rfl rfl rfl <| skq yA rfl rfl rfl <| skq yA rfl rfl rfl <| skq yA rfl rfl rfl <| skq yA rfl rfl rfl <| oq (pkT yA rfl rfl) rfl <| rfq 7 (rbq dA) rfl k
                  ·replace dA := cfalse yA dA
                   exact bs dA fun oD vC dA => gq yA rfl rfl <| mvq rfl rfl <| gq yA rfl rfl <| mvq rfl rfl <| gq yA rfl rfl <| oq (OpV.ixS vC Tryz.underlying68 sz3 rfl rdV rfl) rfl <| gq yA rfl rfl <| oq (OpV.ldI kt3 rfl) rfl <| gq yA rfl rfl <| mvq rfl rfl <| gq yA rfl rfl <| oq (OpV.len Tryz.underlying44 rfl rdV) rfl <| gq yA rfl rfl <| bnq rfl rfl rfl rfl <| oq (pkF yA rfl rfl) rfl <| rfq 7 (rbq dA) rfl k
                ·refine xt <| te ?_
                 cases ai bA dB
                 exact te <| bh <| tn <| wr (pB () (osi mA).symm) rfl
             ·refine by_ (t := 180) rfl (fun vA => ?_) (fun vA => ?_)
              ·exact sk_ vA rfl <| sk_ vA rfl <| sk_ vA rfl <| sk_ vA rfl <| sk_ vA rfl <| pT vA rfl <| rf 5 (or_t (e := (kA.1.length : Int) != (zB.length : Int)) vA) rfl k
              ·exact gc_ vA rfl <| m_ rfl <| gc_ vA rfl <| oN Tryz.underlying68 rfl <| gc_ vA rfl <| m_ rfl <| gc_ vA rfl <| oN Tryz.underlying44 rfl <| gc_ vA rfl <| b_ rfl <| pF vA rfl <| rf 5 (or_f vA) rfl k
            ·refine by_ (t := 172) rfl (fun hA => ?_) (fun hA => ?_)
             ·exact sk_ hA rfl <| sk_ hA rfl <| sk_ hA rfl <| sk_ hA rfl <| sk_ hA rfl <| sk_ hA rfl <| pT hA rfl <| rf 6 (or_t (e := (kA.1.length : Int) != (wA.1.Cells.length : Int)) hA) rfl k
             ·exact gc_ hA rfl <| m_ rfl <| gc_ hA rfl <| oN Tryz.underlying68 rfl <| gc_ hA rfl <| oF fb46k1 rfl <| gc_ hA rfl <| oL kt44 rfl <| gc_ hA rfl <| oN Tryz.underlying44 rfl <| gc_ hA rfl <| b_ rfl <| pF hA rfl <| rf 6 (or_f hA) rfl k
           ·intro K oC
            refine bs gA fun kD kC gA => sr <| a_ rfl <| nt <| bk <| Under.ownNil (K := kSl K10) (e := 22) <| lp kC (C := Value) (.slice none 0 0) (fun rA nA => [(1, .ptr cZ a0), (3, .ptr cd y4), (7, .ptr bj wA.1), (12, .val (kSl aQ) qA.1), (15, .val K1 oB.1), (16, .raw nA), (17, .raw (.int .i64 rA.2))]) (fun rA nA => (.own K7 nA 22 rA.1) :: L) rfl rfl fun rA nA dD zA eB => ?_
            obtain ⟨eD, cD⟩ := rA
            dsimp only at zA ⊢
            refine sq <| sr <| m_ rfl <| m_ rfl <| oN Tryz.underlying59 rfl <| b_ rfl <| nt <| it zA rfl (fun zA => ?_) (fun zA => ?_)
            ·refine bs zA fun dC eC zA => bs zA fun qD cC zA => bs zA fun rD qC zA => bs zA fun wD rC zA => ct <| sq <| bk <| sr <| m_ rfl <| m_ rfl <| m_ rfl <| oS eC Tryz.underlying59 sz66 rfl <| oF fb66k1 rfl <| oL kt22 rfl <| bF (ys := [dC.Cell]) Tryz.underlying44 ET22 (BldA.cons rfl rfl rdV (BldA.nil _)) rfl rfl <| ap cC Tryz.underlying44 AT22 rfl rfl rdV rfl fun wC => a_ rfl <| nt <| sq <| dw rfl (by kernel_rfl) fun F hF0 => oq (OpV.fd fb37k2 rfl rfl) rfl <| oq (OpV.fd fb29k1 rfl rfl) rfl <| oq (OpV.ld kt27 rfl) rfl <| mvq rfl rfl <| mvq rfl rfl <| oq (OpV.ixS qC Tryz.underlying59 sz66 rfl rdV rfl) rfl <| oq (OpV.fd fb66k rfl rfl) rfl <| oq (OpV.ld kt64 rfl) rfl <| oq (OpV.call Tryz.call28 rfl rfl (fun L => (o75 rC L))) rfl <| oq (OpV.not rfl) rfl <| nlq hF0 <| tn <| it zA rfl (fun zA => ?_) (fun zA => ?_)
             ·refine dr <| sr <| a_ rfl <| nt <| rc <| Under.bR <| tr ?_
              cases ai zA eB
              refine tr <| Under.bR <| tr ?_
              cases osi gA
              cases osi hF
              exact rs Tryz.results5 (.tm rfl .nil) rfl rfl
             ·exact cs <| bN <| tn <| rg <| mb rfl <| a_ rfl <| nl <| nx wC zA rfl rfl
            ·refine xt <| te ?_
             cases ai zA eB
             exact te <| bh <| tn <| wr (oC _ _ (osi gA).symm) rfl
         ·refine by_ (t := 124) rfl (fun eA => ?_) (fun eA => ?_)
          ·exact sk_ eA rfl <| sk_ eA rfl <| sk_ eA rfl <| sk_ eA rfl <| sk_ eA rfl <| sk_ eA rfl <| pT eA rfl <| rf 6 (or_t (e := qA.2.1.Malformed != y4.Report.Malformed) eA) rfl k
          ·exact gc_ eA rfl <| oF fb34k2 rfl <| gc_ eA rfl <| oI kt3 rfl <| gc_ eA rfl <| oF fb37k3 rfl <| gc_ eA rfl <| oF fb34k2 rfl <| gc_ eA rfl <| oI kt3 rfl <| gc_ eA rfl <| b_ rfl <| pF eA rfl <| rf 6 (or_f eA) rfl k
        ·refine by_ (t := 116) rfl (fun cA => ?_) (fun cA => ?_)
         ·exact sk_ cA rfl <| sk_ cA rfl <| sk_ cA rfl <| sk_ cA rfl <| sk_ cA rfl <| sk_ cA rfl <| pT cA rfl <| rf 6 (or_t (e := qA.2.1.Replays != y4.Report.Replays) cA) rfl k
         ·exact gc_ cA rfl <| oF fb34k1 rfl <| gc_ cA rfl <| oI kt3 rfl <| gc_ cA rfl <| oF fb37k3 rfl <| gc_ cA rfl <| oF fb34k1 rfl <| gc_ cA rfl <| oI kt3 rfl <| gc_ cA rfl <| b_ rfl <| pF cA rfl <| rf 6 (or_f cA) rfl k
       ·refine by_ (t := 112) rfl (fun pA => ?_) (fun pA => ?_)
        ·exact sk_ pA rfl <| sk_ pA rfl <| pT pA rfl <| rf 2 (or_t (e := oB.2 != 0) pA) rfl k
        ·exact gc_ pA rfl <| m_ rfl <| gc_ pA rfl <| b_ rfl <| pF pA rfl <| rf 2 (or_f pA) rfl k
      ·refine by_ (t := 108) rfl (fun tA => ?_) (fun tA => ?_)
       ·exact sk_ tA rfl <| sk_ tA rfl <| pT tA rfl <| rf 2 (or_t (e := vB.2 != 0) tA) rfl k
       ·exact gc_ tA rfl <| m_ rfl <| gc_ tA rfl <| b_ rfl <| pF tA rfl <| rf 2 (or_f tA) rfl k
    ·refine by_ (t := 71) rfl (fun uA => ?_) (fun uA => ?_)
     ·exact sk_ uA rfl <| sk_ uA rfl <| pT uA rfl <| rf 2 (or_t (e := cB.2 != 0) uA) rfl k
     ·exact gc_ uA rfl <| m_ rfl <| gc_ uA rfl <| b_ rfl <| pF uA rfl <| rf 2 (or_f uA) rfl k
   ·refine by_ (t := 67) rfl (fun xB => ?_) (fun xB => ?_)
    ·exact sk_ xB rfl <| sk_ xB rfl <| pT xB rfl <| rf 2 (or_t (e := wA.2.2 != 0) xB) rfl k
    ·exact gc_ xB rfl <| m_ rfl <| gc_ xB rfl <| b_ rfl <| pF xB rfl <| rf 2 (or_f xB) rfl k
end Go.Proofs.YtobbmodjdkcdcaaGreatDoor

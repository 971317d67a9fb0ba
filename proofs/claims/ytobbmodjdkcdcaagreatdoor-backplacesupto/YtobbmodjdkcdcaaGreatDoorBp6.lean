import Derived.Test.YtobbmodjdkcdcaaGreatDoorBp5
set_option linter.unusedVariables false
set_option linter.unusedSimpArgs false
set_option maxRecDepth 20000
namespace Go.Proofs.YtobbmodjdkcdcaaGreatDoor
open Go Go.Sim Go.ChangeShapes Go.WideShapes Go.ChangeAt Go.RowKit
set_option linter.unusedSectionVars false
variable [Fu]
noncomputable def gv (a0:List Int) (a1:List Int) (a2:Int) (a3:List Int):Option ((List Int)×Int):=
 (eu a0 a1).bind fun y1=>
 ((bif y1.2 != 0 then
  some true
 else
  (cK a2).bind fun y7=>
  some (y7==0)
  :Option Bool)).bind fun x6=>
 bif x6 then
  some ([],2)
 else
  (fC a2).bind fun zA=>
  bif decide ((a3.length:Int)>zA) then
   some ([],1)
  else
   (cK a2).bind fun xA=>
   bif mkB (IntKind.wrap .i64 (xA - 32)) (IntKind.wrap .i64 (xA - 32)) then
   (idx (List.replicate (Int.toNat (IntKind.wrap .i64 (xA - 32))) (0:Int)) 0).bind fun kA=>
   (idx (List.set (List.replicate (Int.toNat (IntKind.wrap .i64 (xA - 32))) (0:Int)) (Int.toNat 0) (IntKind.wrap .u8 (shrI .i64 (a3.length:Int) 8))) 1).bind fun dA=>
   bif decide ((0:Int)≤2∧(2:Int)≤((List.set (List.set (List.replicate (Int.toNat (IntKind.wrap .i64 (xA - 32))) (0:Int)) (Int.toNat 0) (IntKind.wrap .u8 (shrI .i64 (a3.length:Int) 8))) (Int.toNat 1) (IntKind.wrap .u8 (a3.length:Int))).length:Int)∧(((List.set (List.set (List.replicate (Int.toNat (IntKind.wrap .i64 (xA - 32))) (0:Int)) (Int.toNat 0) (IntKind.wrap .u8 (shrI .i64 (a3.length:Int) 8))) (Int.toNat 1) (IntKind.wrap .u8 (a3.length:Int))).length:Int):Int)≤((List.set (List.set (List.replicate (Int.toNat (IntKind.wrap .i64 (xA - 32))) (0:Int)) (Int.toNat 0) (IntKind.wrap .u8 (shrI .i64 (a3.length:Int) 8))) (Int.toNat 1) (IntKind.wrap .u8 (a3.length:Int))).length:Int)) then
   bif decide ((Int.toNat 2)≤(Int.toNat ((List.set (List.set (List.replicate (Int.toNat (IntKind.wrap .i64 (xA - 32))) (0:Int)) (Int.toNat 0) (IntKind.wrap .u8 (shrI .i64 (a3.length:Int) 8))) (Int.toNat 1) (IntKind.wrap .u8 (a3.length:Int))).length:Int))∧(Int.toNat ((List.set (List.set (List.replicate (Int.toNat (IntKind.wrap .i64 (xA - 32))) (0:Int)) (Int.toNat 0) (IntKind.wrap .u8 (shrI .i64 (a3.length:Int) 8))) (Int.toNat 1) (IntKind.wrap .u8 (a3.length:Int))).length:Int))≤(List.length (List.set (List.set (List.replicate (Int.toNat (IntKind.wrap .i64 (xA - 32))) (0:Int)) (Int.toNat 0) (IntKind.wrap .u8 (shrI .i64 (a3.length:Int) 8))) (Int.toNat 1) (IntKind.wrap .u8 (a3.length:Int))))) then
   (eR y1.1.Box (List.replicate 16 (0:Int)) (over (List.set (List.set (List.replicate (Int.toNat (IntKind.wrap .i64 (xA - 32))) (0:Int)) (Int.toNat 0) (IntKind.wrap .u8 (shrI .i64 (a3.length:Int) 8))) (Int.toNat 1) (IntKind.wrap .u8 (a3.length:Int))) (Int.toNat 2) (Int.toNat ((List.set (List.set (List.replicate (Int.toNat (IntKind.wrap .i64 (xA - 32))) (0:Int)) (Int.toNat 0) (IntKind.wrap .u8 (shrI .i64 (a3.length:Int) 8))) (Int.toNat 1) (IntKind.wrap .u8 (a3.length:Int))).length:Int)) a3)).bind fun yA=>
   (app [] a1).bind fun hA=>
   (ey y1.1 a2 a1 yA).bind fun bA=>
   (app hA bA).bind fun vA=>
   (app vA yA).bind fun oA=>
   some (oA,0)
   else none
   else none
   else none
theorem o123 {a0 a1:List Int} {a2:Int} {a3:List Int} {r0:((List Int)×Int)} (hF:gv a0 a1 a2 a3=some r0) (L:List Res):Ok Tryz.prog 201 [SV.val K7 a0,SV.val K2 a1,SV.raw (.int .i64 a2),SV.val K7 a3] L (SV.tup [SV.val K7 r0.1,SV.raw (.int .i64 r0.2)]) L:=by
 unfold gv at hF
 refine okI 70 Tryz.func201 rfl rfl rfl fun F0=>?_
 refine bs hF fun y1 h2 hF=>bs hF fun x6 h5 hF=>sr<|bX (K:=kArr 16 K10) rfl rdV rfl<|a_ rfl<|a_ rfl<|ns<|m_ rfl<|oL kt64 rfl<|cx Tryz.call99 rfl (o44 h2 _)<|m_ rfl<|oE rfl<|oE rfl<|al ZT181 rfl fun b3=>sP (x':=y1.1) .box .id sz181k rfl rfl rdV rfl<|a_ rfl<|nl<|fz (t:=10) rfl<|tn<|sq<|sr<|mb rfl<|m_ rfl<|cq 27 x6 ?_ (fun k=>?_)
 ·refine nt<|it hF rfl (fun hF=>?_) (fun hF=>?_)
  ·refine sr<|a_ rfl<|a_ rfl<|nt<|rt<|tV (K:=kSl K10) (x:=[]) (t:=8) rfl rdN ?_
   cases osi hF
   exact rs Tryz.results201 (.tm rfl (.tm rfl .nil)) rfl rfl
  ·refine bs hF fun wA vA hF=>ct<|sq<|sr<|m_ rfl<|oN Tryz.underlying22 rfl<|m_ rfl<|cx Tryz.call161 rfl (o64 vA _)<|b_ rfl<|nt<|it hF rfl (fun hF=>?_) (fun hF=>?_)
   ·refine sr<|a_ rfl<|a_ rfl<|nt<|rt<|tV (K:=kSl K10) (x:=[]) (t:=8) rfl rdN ?_
    cases osi hF
    exact rs Tryz.results201 (.tm rfl (.tm rfl .nil)) rfl rfl
   ·refine bs hF fun xA oA hF=>gs hF fun kA hF=>bs hF fun gA hA hF=>bs hF fun mA bA hF=>gs hF fun yA hF=>ct<|sr<|m_ rfl<|cx Tryz.call79 rfl (o41 oA _)<|b_ rfl<|Under.mk kA Tryz.underlying22 AT5 rfl rfl rfl fun nA=>a_ rfl<|ns<|m_ rfl<|m_ rfl<|m_ rfl<|oN Tryz.underlying22 rfl<|ov (OpV.sh rfl rfl (by decide) rfl) rfl<|oC (by kernel_rfl) Tryz.underlying5 rfl<|m_ rfl<|oN Tryz.underlying22 rfl<|oC (by kernel_rfl) Tryz.underlying5 rfl<|ov (OpV.ixO hA Tryz.underlying22 sz5k rfl rfl) rfl<|sP (x':=List.set (List.replicate (Int.toNat (IntKind.wrap .i64 (xA - 32))) (0:Int)) (Int.toNat 0) (IntKind.wrap .u8 (shrI .i64 (a3.length:Int) 8))) (.own hA) (.ix .id hA) sz5k rfl rfl rdI rfl<|ov (OpV.ixO bA Tryz.underlying22 sz5k rfl rfl) rfl<|sP (x':=List.set (List.set (List.replicate (Int.toNat (IntKind.wrap .i64 (xA - 32))) (0:Int)) (Int.toNat 0) (IntKind.wrap .u8 (shrI .i64 (a3.length:Int) 8))) (Int.toNat 1) (IntKind.wrap .u8 (a3.length:Int))) (.own bA) (.ix .id bA) sz5k rfl rfl rdI rfl<|ns<|m_ rfl ?_
    replace yA:(0:Int)≤2∧(2:Int)≤((List.set (List.set (List.replicate (Int.toNat (IntKind.wrap .i64 (xA - 32))) (0:Int)) (Int.toNat 0) (IntKind.wrap .u8 (shrI .i64 (a3.length:Int) 8))) (Int.toNat 1) (IntKind.wrap .u8 (a3.length:Int))).length:Int)∧(((List.set (List.set (List.replicate (Int.toNat (IntKind.wrap .i64 (xA - 32))) (0:Int)) (Int.toNat 0) (IntKind.wrap .u8 (shrI .i64 (a3.length:Int) 8))) (Int.toNat 1) (IntKind.wrap .u8 (a3.length:Int))).length:Int):Int)≤((List.set (List.set (List.replicate (Int.toNat (IntKind.wrap .i64 (xA - 32))) (0:Int)) (Int.toNat 0) (IntKind.wrap .u8 (shrI .i64 (a3.length:Int) 8))) (Int.toNat 1) (IntKind.wrap .u8 (a3.length:Int))).length:Int):=of_decide_eq_true yA
    refine gs hF fun zA hF=>Under.slO (l:=2) (h:=((List.set (List.set (List.replicate (Int.toNat (IntKind.wrap .i64 (xA - 32))) (0:Int)) (Int.toNat 0) (IntKind.wrap .u8 (shrI .i64 (a3.length:Int) 8))) (Int.toNat 1) (IntKind.wrap .u8 (a3.length:Int))).length:Int)) Tryz.underlying22 sz5k rfl rfl rfl (And.left yA) (And.left (And.right yA)) (And.right (And.right yA)) rfl<|m_ rfl ?_
    replace zA:(Int.toNat 2)≤(Int.toNat ((List.set (List.set (List.replicate (Int.toNat (IntKind.wrap .i64 (xA - 32))) (0:Int)) (Int.toNat 0) (IntKind.wrap .u8 (shrI .i64 (a3.length:Int) 8))) (Int.toNat 1) (IntKind.wrap .u8 (a3.length:Int))).length:Int))∧(Int.toNat ((List.set (List.set (List.replicate (Int.toNat (IntKind.wrap .i64 (xA - 32))) (0:Int)) (Int.toNat 0) (IntKind.wrap .u8 (shrI .i64 (a3.length:Int) 8))) (Int.toNat 1) (IntKind.wrap .u8 (a3.length:Int))).length:Int))≤(List.length (List.set (List.set (List.replicate (Int.toNat (IntKind.wrap .i64 (xA - 32))) (0:Int)) (Int.toNat 0) (IntKind.wrap .u8 (shrI .i64 (a3.length:Int) 8))) (Int.toNat 1) (IntKind.wrap .u8 (a3.length:Int)))):=of_decide_eq_true zA
    refine bs hF fun pA dA hF=>bs hF fun tA eA hF=>bs hF fun uA cA hF=>bs hF fun xB qA hF=>bs hF fun yB rA hF=>Under.cpO (And.left zA) (And.right zA) Tryz.underlying22 sz5k rfl rfl (.sl rdV) rfl<|nl<|fzO (t:=12) rfl<|tn<|sr<|oF fb181k1 rfl<|oL kt64 rfl<|ov (OpV.bar (ys:=(List.replicate 16 (0:Int))) BTA64 (BldA.nil _)) rfl<|m_ rfl<|cx Tryz.call103 rfl (o63 dA _)<|a_ rfl<|ns<|bO (ys:=[]) Tryz.underlying22 ET5 (BldA.nil _) rfl rfl fun zB=>ov (OpV.slA Tryz.underlying64 sz5 rfl) rfl<|ap eA Tryz.underlying22 AT5 rfl rfl rdV rfl fun hB=>a_ rfl<|ns<|m_ rfl<|oL kt181 rfl<|m_ rfl<|oL kt64 rfl<|m_ rfl<|cx Tryz.call101 rfl (o45 cA _)<|ap qA Tryz.underlying22 AT5 rfl rfl rdV rfl fun bB=>a_ rfl<|ns<|m_ rfl<|m_ rfl<|ap rA Tryz.underlying22 AT5 rfl rfl rdV rfl fun vB=>a_ rfl<|a_ rfl<|nl<|fzO (t:=8) rfl<|tn<|rc ?_
    cases osi hF
    exact rs Tryz.results201 (.tm rfl (.tm rfl .nil)) rfl rfl
 ·refine by_ (t:=23) rfl (fun c4=>?_) (fun c4=>?_)
  ·replace h5:=ctrue c4 h5
   exact sk_ c4 rfl<|sk_ c4 rfl<|sk_ c4 rfl<|pT c4 rfl<|rf 3 (rbq h5) rfl k
  ·replace h5:=cfalse c4 h5
   exact bs h5 fun y7 h8 h5=>gc_ c4 rfl<|m_ rfl<|gc_ c4 rfl<|cx Tryz.call79 rfl (o41 h8 _)<|gc_ c4 rfl<|b_ rfl<|pF c4 rfl<|rf 3 (rbq h5) rfl k
noncomputable def iQ (a0:List Int) (a1:List Int) (a2:Int) (a3:List Int):Option ((List Int)×Int):=
 (ga a0 a1).bind fun y1=>
 bif y1.2 != 0 then
  some ([],y1.2)
 else
  (gv y1.1 a1 a2 a3).bind fun y4=>
  some (y4.1,y4.2)
theorem o124 {a0 a1:List Int} {a2:Int} {a3:List Int} {r0:((List Int)×Int)} (hF:iQ a0 a1 a2 a3=some r0) (L:List Res):Ok Tryz.prog 157 [SV.val K7 a0,SV.val K2 a1,SV.raw (.int .i64 a2),SV.val K7 a3] L (SV.tup [SV.val K7 r0.1,SV.raw (.int .i64 r0.2)]) L:=by
 unfold iQ at hF
 refine okI 28 Tryz.func157 rfl rfl rfl fun F0=>?_
 refine bs hF fun y1 h2 hF=>sr<|bX (K:=kArr 16 K10) rfl rdV rfl<|a_ rfl<|a_ rfl<|ns<|m_ rfl<|oL kt64 rfl<|cx Tryz.call51 rfl (o122 h2 _)<|m_ rfl<|oE rfl<|oE rfl<|a_ rfl<|a_ rfl<|nt<|sq<|sr<|mb rfl<|nt<|it hF rfl (fun hF=>?_) (fun hF=>?_)
 ·refine sr<|m_ rfl<|a_ rfl<|a_ rfl<|nt<|rt<|tV (K:=kSl K10) (x:=[]) (t:=8) rfl rdN ?_
  cases osi hF
  exact rs Tryz.results157 (.tm rfl (.tm rfl .nil)) rfl rfl
 ·refine bs hF fun y4 h5 hF=>ct<|sr<|m_ rfl<|oL kt64 rfl<|m_ rfl<|m_ rfl<|cx Tryz.call201 rfl (o123 h5 _)<|oE rfl<|oE rfl<|a_ rfl<|a_ rfl<|nt<|rc ?_
  cases osi hF
  exact rs Tryz.results157 (.tm rfl (.tm rfl .nil)) rfl rfl
noncomputable def eV (a0:List Int) (a1:List Int) (a2:Int) (a3:List Int):Option ((List Int)×Bool):=
 (fL a3 a2).bind fun y1=>
 bif !y1.2 then
  some ([],false)
 else
  (iQ a0 a1 a2 y1.1).bind fun y4=>
  bif y4.2 != 0 then
   some ([],false)
  else
   (fX y4.1).bind fun y7=>
   some (y7.1,y7.2==0)
theorem o125 {a0 a1:List Int} {a2:Int} {a3:List Int} {r0:((List Int)×Bool)} (hF:eV a0 a1 a2 a3=some r0) (L:List Res):Ok Tryz.prog 96 [SV.val K7 a0,SV.val K2 a1,SV.raw (.int .i64 a2),SV.val K7 a3] L (SV.tup [SV.val K7 r0.1,SV.raw (.bool r0.2)]) L:=by
 unfold eV at hF
 refine okI 41 Tryz.func96 rfl rfl rfl fun F0=>?_
 refine bs hF fun y1 h2 hF=>sr<|bX (K:=kArr 16 K10) rfl rdV rfl<|a_ rfl<|a_ rfl<|ns<|m_ rfl<|m_ rfl<|cx Tryz.call156 rfl (o121 h2 _)<|m_ rfl<|oE rfl<|oE rfl<|a_ rfl<|a_ rfl<|nt<|sq<|sr<|m_ rfl<|ov (OpV.not rfl) rfl<|nt<|it hF rfl (fun hF=>?_) (fun hF=>?_)
 ·refine sr<|a_ rfl<|a_ rfl<|nt<|rt<|tV (K:=kSl K10) (x:=[]) (t:=8) rfl rdN ?_
  cases osi hF
  exact rs Tryz.results96 (.tm rfl (.tm rfl .nil)) rfl rfl
 ·refine bs hF fun y4 h5 hF=>ct<|sr<|m_ rfl<|oL kt64 rfl<|m_ rfl<|m_ rfl<|cx Tryz.call157 rfl (o124 h5 _)<|m_ rfl<|oE rfl<|oE rfl<|a_ rfl<|a_ rfl<|nt<|sq<|sr<|mb rfl<|nt<|it hF rfl (fun hF=>?_) (fun hF=>?_)
  ·refine sr<|a_ rfl<|a_ rfl<|nt<|rt<|tV (K:=kSl K10) (x:=[]) (t:=8) rfl rdN ?_
   cases osi hF
   exact rs Tryz.results96 (.tm rfl (.tm rfl .nil)) rfl rfl
  ·refine bs hF fun y7 h8 hF=>ct<|sr<|m_ rfl<|cx Tryz.call80 rfl (o67 h8 _)<|m_ rfl<|oE rfl<|oE rfl<|a_ rfl<|a_ rfl<|ns<|m_ rfl<|mb rfl<|a_ rfl<|a_ rfl<|nt<|rc ?_
   cases osi hF
   exact rs Tryz.results96 (.tm rfl (.tm rfl .nil)) rfl rfl
noncomputable def eZ (a0:aA) (a1:aI) (a2:List Int):Option ((List Int)×Int×Int):=
 (ee a0 (⟨(0:Int),(⟨(0:Int),[]⟩:ab)⟩:aD)).bind fun y1=>
 bif y1 != 0 then
  some ([],0,210)
 else
  (fF a1).bind fun y4=>
  bif (y4 != 0)||(a1.Header.Left != (IntKind.wrap .i64 (a0.Left - 1))) then
   some ([],0,290)
  else
   (cw a2).bind fun bA=>
   bif bA.2.2 != 0 then
    some ([],bA.2.1,bA.2.2)
   else
    bif bA.1.Header.Left != a1.Header.Left then
     some ([],0,212)
    else
     bif bA.1.Header.Round != a1.Header.Round then
      some ([],0,211)
     else
      bif bA.1.Header.Epoch != a1.Header.Epoch then
       some ([],0,161)
      else
       bif (bA.1.Cells.length:Int) != (a1.From.length:Int) then
        some ([],0,63)
       else
        (eL a0.Master a1.Header.Epoch).bind fun dA=>
        bif dA.2 != 0 then
         some ([],0,dA.2)
        else
         bif mkB a1.Count a1.Count then
         (((Loop.run (S:=(Int×(List (List Int)))) (R:=(List (List Int))) (fun(yA,vA)=>
           bif decide (yA<((List.replicate (Int.toNat a1.Count) ([]:List Int)).length:Int)) then
            bif mkB 320 320 then
            (idx vA yA).bind fun mA=>
            some (.next (IntKind.wrap .i64 (yA+1),List.set vA (Int.toNat yA) (List.replicate (Int.toNat 320) (0:Int))))
            else none
           else
            some (.done vA)) (0,List.replicate (Int.toNat a1.Count) ([]:List Int))).bind fun eA=>
         some eA
          :Option (List (List Int)))).bind fun nA=>
         (((Loop.run (S:=(Int×(List (List Int)))) (R:=aG) (fun(zA,xA)=>
           bif decide (zA<(a1.From.length:Int)) then
            (((idx a1.From zA).bind fun hA=>
            bif decide (hA<0) then
             some xA
            else
             (idx a1.Nonces hA).bind fun cA=>
             (idx bA.1.Cells zA).bind fun qA=>
             (eV dA.1 cA a0.Left qA).bind fun oA=>
             bif oA.2 then
              (idx xA hA).bind fun pA=>
              some (List.set xA (Int.toNat hA) oA.1)
             else
              some xA
             :Option (List (List Int)))).bind fun rA=>
            some (.next (IntKind.wrap .i64 (zA+1),rA))
           else
            some (.done (⟨({a1.Header with Left:=a0.Left}:aa),xA⟩:aG))) (0,nA)).bind fun wA=>
         some wA
          :Option aG)).bind fun gA=>
         (fE gA).bind fun kA=>
         some (kA.1,0,kA.2)
         else none
theorem o126 {a0:aA} {a1:aI} {a2:List Int} {r0:((List Int)×Int×Int)} (hF:eZ a0 a1 a2=some r0) (L:List Res):Ok Tryz.prog 47 [SV.val aH a0,SV.val aQ a1,SV.val K7 a2] L (SV.tup [SV.val K7 r0.1,SV.raw (.int .i64 r0.2.1),SV.raw (.int .i64 r0.2.2)]) L:=by
 unfold eZ at hF
 refine okI 155 Tryz.func47 rfl rfl rfl fun F0=>?_
 refine bs hF fun y1 h2 hF=>sr<|bX (K:=aH) rfl rdV rfl<|bX (K:=aQ) rfl rdV rfl<|a_ rfl<|a_ rfl<|a_ rfl<|nt<|sq<|sr<|oL kt24 rfl<|ov (OpV.bst BT29 (Bld.nil _)) rfl<|cx Tryz.call21 rfl (o10 h2 _)<|a_ rfl<|ns<|mb rfl<|nt<|it hF rfl (fun hF=>?_) (fun hF=>?_)
 ·refine sr<|a_ rfl<|a_ rfl<|a_ rfl<|nt<|rt<|tV (K:=kSl K10) (x:=[]) (t:=6) rfl rdN ?_
  cases osi hF
  exact rs Tryz.results47 (.tm rfl (.tm rfl (.tm rfl .nil))) rfl rfl
 ·refine bs hF fun y4 h5 hF=>ct<|sq<|sr<|oL kt87 rfl<|cx Tryz.call45 rfl (o119 h5 _)<|b_ rfl<|m_ rfl<|vz 37 ((y4 != 0)||(a1.Header.Left != (IntKind.wrap .i64 (a0.Left - 1)))) ?_ (fun k=>?_)
  ·refine nt<|it hF rfl (fun hF=>?_) (fun hF=>?_)
   ·refine sr<|a_ rfl<|a_ rfl<|a_ rfl<|nt<|rt<|tV (K:=kSl K10) (x:=[]) (t:=6) rfl rdN ?_
    cases osi hF
    exact rs Tryz.results47 (.tm rfl (.tm rfl (.tm rfl .nil))) rfl rfl
   ·refine bs hF fun rA pB hF=>ct<|sr<|m_ rfl<|cx Tryz.call20 rfl (o20 pB _)<|m_ rfl<|oE rfl<|oE rfl<|oE rfl<|al ZT46 rfl fun wC=>sP (x':=rA.1) .box .id sz46k rfl rfl rdV rfl<|a_ rfl<|a_ rfl<|nl<|fz (t:=10) rfl<|tn<|sq<|sr<|mb rfl<|nt<|it hF rfl (fun hF=>?_) (fun hF=>?_)
    ·refine sr<|m_ rfl<|m_ rfl<|a_ rfl<|a_ rfl<|a_ rfl<|nt<|rt<|tV (K:=kSl K10) (x:=[]) (t:=6) rfl rdN ?_
     cases osi hF
     exact rs Tryz.results47 (.tm rfl (.tm rfl (.tm rfl .nil))) rfl rfl
    ·refine ct<|sq<|bk<|sr<|oF fb46k rfl<|oF fb43k rfl<|oI kt3 rfl<|oF fb87k1 rfl<|oF fb43k rfl<|oI kt3 rfl<|b_ rfl<|a_ rfl<|nt<|it hF rfl (fun hF=>?_) (fun hF=>?_)
     ·refine sr<|a_ rfl<|a_ rfl<|a_ rfl<|nt<|rc<|Under.bR<|tr<|tV (K:=kSl K10) (x:=[]) (t:=6) rfl rdN ?_
      cases osi hF
      exact rs Tryz.results47 (.tm rfl (.tm rfl (.tm rfl .nil))) rfl rfl
     ·refine sr<|oF fb46k rfl<|oF fb43k1 rfl<|oI kt2 rfl<|oF fb87k1 rfl<|oF fb43k1 rfl<|oI kt2 rfl<|b_ rfl<|a_ rfl<|nt<|it hF rfl (fun hF=>?_) (fun hF=>?_)
      ·refine sr<|a_ rfl<|a_ rfl<|a_ rfl<|nt<|rc<|Under.bR<|tr<|tV (K:=kSl K10) (x:=[]) (t:=6) rfl rdN ?_
       cases osi hF
       exact rs Tryz.results47 (.tm rfl (.tm rfl (.tm rfl .nil))) rfl rfl
      ·refine sr<|oF fb46k rfl<|oF fb43k2 rfl<|oI kt2 rfl<|oF fb87k1 rfl<|oF fb43k2 rfl<|oI kt2 rfl<|b_ rfl<|a_ rfl<|nt<|it hF rfl (fun hF=>?_) (fun hF=>?_)
       ·refine sr<|a_ rfl<|a_ rfl<|a_ rfl<|nt<|rc<|Under.bR<|tr<|tV (K:=kSl K10) (x:=[]) (t:=6) rfl rdN ?_
        cases osi hF
        exact rs Tryz.results47 (.tm rfl (.tm rfl (.tm rfl .nil))) rfl rfl
       ·refine sr<|oF fb46k1 rfl<|oL kt44 rfl<|oN Tryz.underlying44 rfl<|oF fb87k2 rfl<|oL kt68 rfl<|oN Tryz.underlying68 rfl<|b_ rfl<|a_ rfl<|nt<|it hF rfl (fun hF=>?_) (fun hF=>?_)
        ·refine sr<|a_ rfl<|a_ rfl<|a_ rfl<|nt<|rc<|Under.bR<|tr<|tV (K:=kSl K10) (x:=[]) (t:=6) rfl rdN ?_
         cases osi hF
         exact rs Tryz.results47 (.tm rfl (.tm rfl (.tm rfl .nil))) rfl rfl
        ·refine bs hF fun uA tB hF=>cs<|bN<|tn<|sr<|oF fb24k rfl<|oL kt22 rfl<|oF fb87k1 rfl<|oF fb43k2 rfl<|oI kt2 rfl<|cx Tryz.call48 rfl (o40 tB _)<|m_ rfl<|oE rfl<|oE rfl<|a_ rfl<|a_ rfl<|nt<|sq<|sr<|mb rfl<|nt<|it hF rfl (fun hF=>?_) (fun hF=>?_)
         ·refine sr<|m_ rfl<|a_ rfl<|a_ rfl<|a_ rfl<|nt<|rt<|tV (K:=kSl K10) (x:=[]) (t:=6) rfl rdN ?_
          cases osi hF
          exact rs Tryz.results47 (.tm rfl (.tm rfl (.tm rfl .nil))) rfl rfl
         ·refine gs hF fun uB hF=>ct<|sq<|ph rfl<|Under.grpT (L:=L) [0,1,2,3,4,5,6] [[4],[92],[4],[94],[95],[93,96],[]] [⟨sk0 (.ptr bi a1.Header),[],[],[]⟩,⟨sk0 (.val bi a1.Header),[],[],[]⟩,⟨sk0 (.ptr K8 a1.Count),[],[],[]⟩,⟨sk0 (.raw (.int .i64 a1.Count)),[],[],[]⟩,⟨sk1 4 (fun u4=> .raw u4),[],[(0,tk1 4 (fun u4=> .own K7 u4 22 (List.replicate (Int.toNat a1.Count) ([]:List Int))))],[]⟩,⟨sk1 4 (fun u4=> .val cy (⟨a1.Header,u4⟩:bg)),[],[],[0]⟩,⟨sk1 6 (fun u6=> .raw (.pointer (some ⟨(vblk u6),0,none⟩))),[],[(1,tk1 6 (fun u6=> .box cy (vblk u6) 46 (⟨(⟨(0:Int),(0:Int),(0:Int)⟩:aa),.slice none 0 0⟩:bg)))],[]⟩] [] (fun T:List Res=>T) lf0 rfl (by kernel_rfl) rfl rfl (fun F hF0 xA=>?_)
          refine Tq.v (fun G T hG=>?_) ?_
          ·exact oF fb87k1 rfl<|Tq.end undef rfl rfl
          refine Tq.v (fun G T hG=>?_) ?_
          ·exact oL kt43 rfl<|Tq.end undef rfl rfl
          refine Tq.v (fun G T hG=>?_) ?_
          ·exact oF fb87k rfl<|Tq.end undef rfl rfl
          refine Tq.v (fun G T hG=>?_) ?_
          ·exact oI kt3 rfl<|Tq.end undef rfl rfl
          refine Tq.st (.raw (xA 4)) [] rfl rfl (fun G T hG=>?_) ?_
          ·exact Under.mk uB Tryz.underlying44 AT22 rfl rfl rfl fun xC=>Tq.end xC rfl rfl
          refine Tq.r1 (.val cy (⟨a1.Header,(xA 4)⟩:bg)) [.own K7 (xA 4) 22 (List.replicate (Int.toNat a1.Count) ([]:List Int))] rfl rfl (fun G T hG=>?_) ?_
          ·exact Under.ownCell fun yC=>ov (OpV.bst mh (Bld.cons (x':=(⟨a1.Header,.slice none 0 0⟩:bg)) rfl rfl rdV (by intro q hq;simp only[List.mem_cons,List.not_mem_nil,or_false] at hq;rcases hq with rfl<;>rfl) (Bld.cons (x':=(⟨a1.Header,(xA 4)⟩:bg)) rfl rfl (eW yC) ⟨rfl,(fun q hq=>by simp at hq)⟩ (Bld.nil _)))) rfl<|Tq.end undef rfl rfl
          refine Tq.st (.raw (.pointer (some ⟨(vblk (xA 6)),0,none⟩))) [] rfl rfl (fun G T hG=>?_) ?_
          ·exact al ZT46k rfl fun zC=>Tq.end (.pointer (some ⟨zC,0,none⟩)) rfl rfl
          refine bs hF fun xB yB hF=>Tq.nil<|Under.le hF0<|p1 7 rfl rfl<|f1<|sP (x':=(⟨a1.Header,(xA 4)⟩:bg)) .box .id sz46k1 rfl rfl rdV rfl<|pn<|pd rfl<|tn<|sr<|oF fb24k1 rfl<|oI kt3 rfl<|oM xT rfl<|oM oe rfl<|sP (x':=(⟨({a1.Header with Left:=a0.Left}:aa),(xA 4)⟩:bg)) .box (.fld (.fld .id mi) eU) sz3k rfl rfl rdI rfl<|nt<|sq<|afr (r:=xB) (fun xB=>[(3,.ptr aH a0),(4,.ptr aQ a1),(10,.ptr aV rA.1),(13,.val K7 uA.1),(14,.raw (.pointer (some ⟨(vblk (xA 6)),0,none⟩)))]) (fun xB=>((.own K7 (xA 4) 22 xB)::(.box cy (vblk (xA 6)) 46 (⟨({a1.Header with Left:=a0.Left}:aa),(xA 4)⟩:bg))::L)) ?_ fun K hC=>?_
          ·refine bs hF fun oA dA hF=>sq<|afr (r:=oA) (fun oA=>[(14,.ptr aV oA)]) (fun oA=>(L)) ?_ fun K zB=>?_
           ·refine bs hF fun bC hB hF=>sr<|oL kt46 rfl<|cx Tryz.call68 rfl (o115 hB _)<|m_ rfl<|oE rfl<|oE rfl<|a_ rfl<|a_ rfl<|ns<|m_ rfl<|m_ rfl<|a_ rfl<|a_ rfl<|a_ rfl<|nt<|rc ?_
            cases osi hF
            exact rs Tryz.results47 (.tm rfl (.tm rfl (.tm rfl .nil))) rfl rfl
           ·refine bs dA fun vC bB dA=>sr<|oF fb87k2 rfl<|oL kt68 rfl<|oN Tryz.underlying68 rfl<|m_ rfl<|nt<|bk<|lp bB () (fun bA wA=>[(3,.ptr aH a0),(4,.ptr aQ a1),(10,.ptr aV rA.1),(13,.val K7 uA.1),(14,.raw (.pointer (some ⟨(vblk (xA 6)),0,none⟩))),(115,.val K6 a1.From),(116,.raw (.int .i64 (a1.From.length:Int))),(117,.raw (.int .i64 bA.1))]) (fun bA wA=>(.own K7 (xA 4) 22 bA.2)::(.box cy (vblk (xA 6)) 46 (⟨({a1.Header with Left:=a0.Left}:aa),(xA 4)⟩:bg))::L) rfl rfl fun bA wA oC hA vB=>?_
            obtain⟨oB,gA⟩:=bA
            dsimp only at hA⊢
            refine sr<|b_ rfl<|nt<|sq<|it hA rfl (fun hA=>?_) (fun hA=>?_)
            ·refine bs hA fun kA yA hA=>ct<|sq<|afr (r:=kA) (fun kA=>[(3,.ptr aH a0),(4,.ptr aQ a1),(10,.ptr aV rA.1),(13,.val K7 uA.1),(14,.raw (.pointer (some ⟨(vblk (xA 6)),0,none⟩))),(115,.val K6 a1.From),(116,.raw (.int .i64 (a1.From.length:Int))),(117,.raw (.int .i64 oB))]) (fun kA=>((.own K7 (xA 4) 22 kA)::(.box cy (vblk (xA 6)) 46 (⟨({a1.Header with Left:=a0.Left}:aa),(xA 4)⟩:bg))::L)) ?_ fun K eA=>?_
             ·exact rg<|b_ rfl<|m_ rfl<|nl<|nx () hA rfl rfl
             ·refine bs yA fun kB dB yA=>bk<|sr<|m_ rfl<|oS dB Tryz.underlying68 sz3 rfl<|oI kt3 rfl<|a_ rfl<|a_ rfl<|nt<|sq<|sr<|mb rfl<|nt<|it yA rfl (fun yA=>?_) (fun yA=>?_)
              ·exact xt<|te<|bh<|tn<|wr (eA _ (osi yA).symm) rfl
              ·refine bs yA fun kC eB yA=>bs yA fun dC cB yA=>bs yA fun qB rB yA=>ct<|sq<|ph rfl<|gV [0,1,2,3,4,5,6,7,8,9,10,11,12] [[13],[4],[126],[17],[127,128],[129],[3],[131],[10],[133],[16],[134,135],[136]] 2 (by kernel_rfl) rfl<|vm_ rfl<|vo (fun _=>OpV.fd fb87k3 rfl rfl) rfl<|vo (fun _=>OpV.ld kt85 rfl) rfl<|vm_ rfl<|vo (fun _=>OpV.ixS eB Tryz.underlying85 sz64 rfl rdV rfl) rfl<|vo (fun _=>OpV.ld kt64 rfl) rfl<|vo (fun _=>OpV.fd fb24k1 rfl rfl) rfl<|vo (fun _=>OpV.ldI kt3 rfl) rfl<|vo (fun _=>OpV.fd fb46k1 rfl rfl) rfl<|vo (fun _=>OpV.ld kt44 rfl) rfl<|vm_ rfl<|vo (fun _=>OpV.ixS cB Tryz.underlying44 sz22 rfl rdV rfl) rfl<|vo (fun _=>OpV.ld kt22 rfl) rfl<|vn<|p1 13 rfl rfl<|cx Tryz.call96 rfl (o125 rB _)<|pn<|p1 14 rfl rfl<|m_ rfl<|pn<|gV [15,16,17] [[124],[124],[139]] 2 (by kernel_rfl) rfl<|vo (fun _=>OpV.extr rfl rfl) rfl<|vo (fun _=>OpV.extr rfl rfl) rfl<|Vq.v (fun G T hG=>a_ rfl<|Vq.end rfl)<|vn<|p1 18 rfl rfl<|a_ rfl<|pn<|pd rfl<|tn<|sr<|m_ rfl<|nt<|it yA rfl (fun yA=>?_) (fun yA=>?_)
               ·exact bs yA fun eC cA yA=>rg<|oM s4 rfl<|f1<|lP .box (.fld .id gg) kt44k rfl rfl<|Under.rawR (t:=143) rfl<|m_ rfl<|m_ rfl<|f1<|ov (OpV.ixO cA Tryz.underlying44 sz22k1 rfl rfl) rfl<|sP (x':=List.set gA (Int.toNat kB) qB.1) (.own cA) (.ix .id cA) sz22k1 rfl rfl rdV rfl<|nl<|bN<|tn<|wr (eA _ (osi yA).symm) rfl
               ·exact cs<|bN<|tn<|wr (eA _ (osi yA).symm) rfl
            ·refine Under.frzBO (fs:=f7) (⟨({a1.Header with Left:=a0.Left}:aa),gA⟩:aG) (fun F hv=>⟨fun _ h=>h,jh hv,trivial⟩)<|fz (t:=14) rfl<|xt<|te ?_
             cases aj hA vB
             exact te<|bh<|tn<|wr (zB _ (osi dA).symm) rfl
          ·refine bs yB fun cC wB yB=>sr<|oM s4 rfl<|lP .box (.fld .id gg) kt44k rfl rfl<|Under.rawR (t:=103) rfl<|f1<|ov (OpV.lenO Tryz.underlying44 rfl) rfl<|m_ rfl<|nt<|bk<|lp wB () (fun vA mA=>[(3,.ptr aH a0),(4,.ptr aQ a1),(10,.ptr aV rA.1),(13,.val K7 uA.1),(14,.raw (.pointer (some ⟨(vblk (xA 6)),0,none⟩))),(104,.raw (.int .i64 ((List.replicate (Int.toNat a1.Count) ([]:List Int)).length:Int))),(105,.raw (.int .i64 vA.1))]) (fun vA mA=>(.own K7 (xA 4) 22 vA.2)::(.box cy (vblk (xA 6)) 46 (⟨({a1.Header with Left:=a0.Left}:aa),(xA 4)⟩:bg))::L) rfl rfl fun vA mA qC zA gB=>?_
           obtain⟨nA,pA⟩:=vA
           dsimp only at zA⊢
           refine sr<|b_ rfl<|nt<|sq<|it zA rfl (fun zA=>?_) (fun zA=>?_)
           ·refine gs zA fun mB zA=>bs zA fun rC qA zA=>ct<|sq<|bk<|sr<|m_ rfl<|a_ rfl<|nt<|ph rfl<|Under.grpT (L:=L) [0,1,2,3] [[14],[108],[15],[]] [⟨sk0 (.raw (.pointer (some ⟨(vblk (xA 6)),0+3,none⟩))),[],[],[]⟩,⟨sk0 (.raw (xA 4)),[],[],[]⟩,⟨sk0 (.raw (.int .i64 nA)),[],[],[]⟩,⟨sk1 3 (fun u3=> .raw u3),[],[(0,tk1 3 (fun u3=> .own K10 u3 5 (List.replicate (Int.toNat 320) (0:Int))))],[]⟩] [] (fun T:List Res=>(.own K7 (xA 4) 22 pA)::(.box cy (vblk (xA 6)) 46 (⟨({a1.Header with Left:=a0.Left}:aa),(xA 4)⟩:bg))::T) lf2 rfl (by kernel_rfl) rfl rfl (fun F hF0 tA=>?_)
            refine Tq.v (fun G T hG=>?_) ?_
            ·exact oM s4 rfl<|Tq.end undef rfl rfl
            refine Tq.v (fun G T hG=>?_) ?_
            ·exact f1<|lP .box (.fld .id gg) kt44k rfl rfl<|Under.rawR (t:=109) rfl<|f1<|Tq.end undef rfl rfl
            refine Tq.v (fun G T hG=>?_) ?_
            ·exact m_ rfl<|Tq.end undef rfl rfl
            refine Tq.st (.raw (tA 3)) [] rfl rfl (fun G T hG=>?_) ?_
            ·exact Under.mk mB Tryz.underlying22 AT5 rfl rfl rfl fun nB=>Tq.end nB rfl rfl
            exact Tq.nil<|Under.le hF0<|p1 4 rfl rfl<|ov (OpV.ixO qA Tryz.underlying44 sz22k1 rfl rfl) rfl<|pn<|p1 5 rfl rfl<|f2<|fzO (t:=111) rfl<|sP (x':=List.set pA (Int.toNat nA) (List.replicate (Int.toNat 320) (0:Int))) (.own qA) (.ix .id qA) sz22k1 rfl rfl rdV rfl<|pn<|pd rfl<|bN<|tn<|rg<|b_ rfl<|m_ rfl<|nl<|nx () zA rfl rfl
           ·refine xt<|te ?_
            cases aj zA gB
            exact te<|bh<|tn<|wr (hC _ (osi yB).symm) rfl
  ·refine by_ (t:=29) rfl (fun c6=>?_) (fun c6=>?_)
   ·exact sk_ c6 rfl<|sk_ c6 rfl<|sk_ c6 rfl<|sk_ c6 rfl<|sk_ c6 rfl<|sk_ c6 rfl<|sk_ c6 rfl<|pT c6 rfl<|rf 7 (or_t (e:=a1.Header.Left != (IntKind.wrap .i64 (a0.Left - 1))) c6) rfl k
   ·exact gc_ c6 rfl<|oF fb87k1 rfl<|gc_ c6 rfl<|oF fb43k rfl<|gc_ c6 rfl<|oI kt3 rfl<|gc_ c6 rfl<|oF fb24k1 rfl<|gc_ c6 rfl<|oI kt3 rfl<|gc_ c6 rfl<|b_ rfl<|gc_ c6 rfl<|b_ rfl<|pF c6 rfl<|rf 7 (or_f c6) rfl k
noncomputable def dO:Option Bool:=
 (eM).bind fun y2=>
 bif decide (0<[67,72,82,78,1,2,0,0,0,0,0,0,0,0,0,7,0,0,0,0,0,0,0,1,26,196,1,55].length) then
 bif mkB 18 18 then
 (jc y2 (⟨(0:Int),(⟨(0:Int),[]⟩:ab)⟩:aD) [67,72,82,78,1,2,0,0,0,0,0,0,0,0,0,7,0,0,0,0,0,0,0,1,26,196,1,55] (List.replicate (Int.toNat 18) (0:Int))).bind fun y9=>
 bif ((((y9.1.Err != 0)||((strB y9.1.Out) != [67,72,82,78,1,1,0,0,0,0,0,0,0,0,0,7,0,0,0,0,0,0,0,1,26,177,1,54]))||(y9.2.Count != 0))||(y9.2.Header.Round != 7))||(y9.2.Header.Left != 1) then
  some false
 else
  (eM).bind fun yA=>
  bif decide (0<[67,72,82,78,1,1,0,0,0,0,0,0,0,0,0,7,0,0,0,0,0,0,0,1,26,177,1,54].length) then
  (eZ yA y9.2 [67,72,82,78,1,1,0,0,0,0,0,0,0,0,0,7,0,0,0,0,0,0,0,1,26,177,1,54]).bind fun xA=>
  ((bif ((xA.2.2==0)&&(xA.2.1==0))&&((strB xA.1)==[67,72,82,78,1,2,0,0,0,0,0,0,0,0,0,7,0,0,0,0,0,0,0,1,26,196,1,55]) then
   (fF (⟨(⟨(0:Int),(0:Int),(0:Int)⟩:aa),1,[],[]⟩:aI)).bind fun zA=>
   some (zA==290)
  else
   some false
   :Option Bool)).bind fun hA=>
  some hA
  else none
 else none
 else none
theorem o127 {r0:Bool} (hF:dO=some r0) (L:List Res):Ok Tryz.prog 40 [] L (SV.raw (.bool r0)) L:=by
 unfold dO at hF
 refine okI 66 Tryz.func40 rfl rfl rfl fun F0=>?_
 refine bs hF fun y2 h3 hF=>gs hF fun h5 hF=>gs hF fun h7 hF=>bs hF fun y9 rA hF=>sr<|a_ rfl<|nt<|sq<|ph rfl<|Under.grpT (L:=L) [0,1,2,3,4,5,6,7,8,9,10,11] [[],[],[],[9],[],[7,8,10,11],[12],[6],[6],[],[],[1,13]] [⟨sk0 (.val aH y2),[],[],[]⟩,⟨sk0 (.val br (⟨(0:Int),(⟨(0:Int),[]⟩:ab)⟩:aD)),[],[],[]⟩,⟨sk1 2 (fun u2=> .raw u2),[],[(0,tk1 2 (fun u2=> .own K10 u2 5 [67,72,82,78,1,2,0,0,0,0,0,0,0,0,0,7,0,0,0,0,0,0,0,1,26,196,1,55]))],[]⟩,⟨sk0 (.val K7 [67,72,82,78,1,2,0,0,0,0,0,0,0,0,0,7,0,0,0,0,0,0,0,1,26,196,1,55]),[0],[],[]⟩,⟨sk1 4 (fun u4=> .raw u4),[],[(1,tk1 4 (fun u4=> .own K10 u4 5 (List.replicate (Int.toNat 18) (0:Int))))],[]⟩,⟨sk0 (.tup [.val aN y9.1,.val aQ y9.2]),[1],[],[]⟩,⟨sk0 (.tup [.val aN y9.1,.val aQ y9.2]),[],[],[]⟩,⟨sk0 (.val aN y9.1),[],[],[]⟩,⟨sk0 (.val aQ y9.2),[],[],[]⟩,⟨sk1 9 (fun u9=> .raw (.pointer (some ⟨(vblk u9),0,none⟩))),[],[(2,tk1 9 (fun u9=> .box aN (vblk u9) 37 (⟨[],(⟨(0:Int),(⟨(0:Int),[]⟩:ab)⟩:aD),(⟨(0:Int),(0:Int),(0:Int),(0:Int),(0:Int)⟩:ai),(0:Int),(0:Int)⟩:aJ)))],[]⟩,⟨sk1 10 (fun qA=> .raw (.pointer (some ⟨(vblk qA),0,none⟩))),[],[(3,tk1 10 (fun qA=> .box aQ (vblk qA) 87 (⟨(⟨(0:Int),(0:Int),(0:Int)⟩:aa),(0:Int),[],[]⟩:aI)))],[]⟩,⟨sk0 (.raw undef),[2],[(4,tk1 9 (fun u9=> .box aN (vblk u9) 37 y9.1))],[]⟩] [] (fun T:List Res=>T) lf0 rfl (by kernel_rfl) rfl rfl (fun F hF0 dA=>?_)
 refine Tq.v (fun G T hG=>?_) ?_
 ·exact cx Tryz.call91 rfl (o0 h3 _)<|Tq.end undef rfl rfl
 refine Tq.v (fun G T hG=>?_) ?_
 ·exact ov (OpV.bst BT29 (Bld.nil _)) rfl<|Tq.end undef rfl rfl
 refine Tq.st (.raw (dA 2)) [] rfl rfl (fun G T hG=>?_) ?_
 ·exact bO (ys:=[67,72,82,78,1,2,0,0,0,0,0,0,0,0,0,7,0,0,0,0,0,0,0,1,26,196,1,55]) Tryz.underlying22 ET5 (BldA.cons rfl rfl rdI (BldA.cons rfl rfl rdI (BldA.cons rfl rfl rdI (BldA.cons rfl rfl rdI (BldA.cons rfl rfl rdI (BldA.cons rfl rfl rdI (BldA.cons rfl rfl rdI (BldA.cons rfl rfl rdI (BldA.cons rfl rfl rdI (BldA.cons rfl rfl rdI (BldA.cons rfl rfl rdI (BldA.cons rfl rfl rdI (BldA.cons rfl rfl rdI (BldA.cons rfl rfl rdI (BldA.cons rfl rfl rdI (BldA.cons rfl rfl rdI (BldA.cons rfl rfl rdI (BldA.cons rfl rfl rdI (BldA.cons rfl rfl rdI (BldA.cons rfl rfl rdI (BldA.cons rfl rfl rdI (BldA.cons rfl rfl rdI (BldA.cons rfl rfl rdI (BldA.cons rfl rfl rdI (BldA.cons rfl rfl rdI (BldA.cons rfl rfl rdI (BldA.cons rfl rfl rdI (BldA.cons rfl rfl rdI (BldA.nil _))))))))))))))))))))))))))))) rfl rfl fun v4=>Tq.end v4 rfl rfl
 refine Tq.st (.val K7 [67,72,82,78,1,2,0,0,0,0,0,0,0,0,0,7,0,0,0,0,0,0,0,1,26,196,1,55]) [.own K10 (dA 2) 5 [67,72,82,78,1,2,0,0,0,0,0,0,0,0,0,7,0,0,0,0,0,0,0,1,26,196,1,55]] rfl rfl (fun G T hG=>?_) ?_
 ·exact Under.cvS Tryz.underlying22 Tryz.underlying5 (of_decide_eq_true h5) rfl rfl<|Tq.end undef rfl rfl
 refine Tq.st (.raw (dA 4)) [] rfl rfl (fun G T hG=>?_) ?_
 ·exact Under.mk h7 Tryz.underlying22 AT5 rfl rfl rfl fun v6=>Tq.end v6 rfl rfl
 refine Tq.st (.tup [.val aN y9.1,.val aQ y9.2]) [.own K10 (dA 4) 5 (List.replicate (Int.toNat 18) (0:Int))] rfl rfl (fun G T hG=>?_) ?_
 ·exact fzO (t:=11) rfl<|cx Tryz.call42 rfl (o118 rA _)<|Tq.end undef rfl rfl
 refine Tq.v (fun G T hG=>?_) ?_
 ·exact m_ rfl<|Tq.end undef rfl rfl
 refine Tq.v (fun G T hG=>?_) ?_
 ·exact oE rfl<|Tq.end undef rfl rfl
 refine Tq.v (fun G T hG=>?_) ?_
 ·exact oE rfl<|Tq.end undef rfl rfl
 refine Tq.st (.raw (.pointer (some ⟨(vblk (dA 9)),0,none⟩))) [] rfl rfl (fun G T hG=>?_) ?_
 ·exact al ZT37 rfl fun wA=>Tq.end (.pointer (some ⟨wA,0,none⟩)) rfl rfl
 refine Tq.st (.raw (.pointer (some ⟨(vblk (dA 10)),0,none⟩))) [] rfl rfl (fun G T hG=>?_) ?_
 ·exact al ZT87 rfl fun gA=>Tq.end (.pointer (some ⟨gA,0,none⟩)) rfl rfl
 refine Tq.st0 [.box aN (vblk (dA 9)) 37 (⟨[],(⟨(0:Int),(⟨(0:Int),[]⟩:ab)⟩:aD),(⟨(0:Int),(0:Int),(0:Int),(0:Int),(0:Int)⟩:ai),(0:Int),(0:Int)⟩:aJ)] rfl (fun G T hG=>?_) ?_
 ·exact sP (x':=y9.1) .box .id sz37k rfl rfl rdV rfl<|Tq.end0 undef rfl
 refine Tq.nil<|Under.le hF0<|p1 12 rfl rfl<|sP (x':=y9.2) .box .id sz87k rfl rfl rdV rfl<|pn<|pd rfl<|fz (t:=2) rfl<|fz (t:=1) rfl<|tn<|sq<|sr<|oF fb37k rfl<|oI kt35 rfl<|b_ rfl<|m_ rfl<|iz 23 ((y9.1.Err != 0)||((strB y9.1.Out) != [67,72,82,78,1,1,0,0,0,0,0,0,0,0,0,7,0,0,0,0,0,0,0,1,26,177,1,54])) ?_ (fun k=>?_)
 ·refine m_ rfl<|cq 28 (((y9.1.Err != 0)||((strB y9.1.Out) != [67,72,82,78,1,1,0,0,0,0,0,0,0,0,0,7,0,0,0,0,0,0,0,1,26,177,1,54]))||(y9.2.Count != 0)) ?_ (fun k=>?_)
  ·refine m_ rfl<|iz 34 ((((y9.1.Err != 0)||((strB y9.1.Out) != [67,72,82,78,1,1,0,0,0,0,0,0,0,0,0,7,0,0,0,0,0,0,0,1,26,177,1,54]))||(y9.2.Count != 0))||(y9.2.Header.Round != 7)) ?_ (fun k=>?_)
   ·refine m_ rfl<|iz 40 (((((y9.1.Err != 0)||((strB y9.1.Out) != [67,72,82,78,1,1,0,0,0,0,0,0,0,0,0,7,0,0,0,0,0,0,0,1,26,177,1,54]))||(y9.2.Count != 0))||(y9.2.Header.Round != 7))||(y9.2.Header.Left != 1)) ?_ (fun k=>?_)
    ·refine nt<|it hF rfl (fun hF=>?_) (fun hF=>?_)
     ·refine sr<|a_ rfl<|nt<|rt ?_
      cases osi hF
      exact rs Tryz.results40 (.tm rfl .nil) rfl rfl
     ·refine bs hF fun mA nA hF=>gs hF fun pA hF=>bs hF fun eA tA hF=>ct<|sq<|ph rfl<|Under.grpT (L:=L) [0,1,2,3] [[],[2],[],[44]] [⟨sk0 (.val aH mA),[],[],[]⟩,⟨sk0 (.val aQ y9.2),[],[],[]⟩,⟨sk1 2 (fun u2=> .raw u2),[],[(0,tk1 2 (fun u2=> .own K10 u2 5 [67,72,82,78,1,1,0,0,0,0,0,0,0,0,0,7,0,0,0,0,0,0,0,1,26,177,1,54]))],[]⟩,⟨sk0 (.val K7 [67,72,82,78,1,1,0,0,0,0,0,0,0,0,0,7,0,0,0,0,0,0,0,1,26,177,1,54]),[0],[],[]⟩] [] (fun T:List Res=>T) lf0 rfl (by kernel_rfl) rfl rfl (fun F hF0 cA=>?_)
      refine Tq.v (fun G T hG=>?_) ?_
      ·exact cx Tryz.call91 rfl (o0 nA _)<|Tq.end undef rfl rfl
      refine Tq.v (fun G T hG=>?_) ?_
      ·exact oL kt87 rfl<|Tq.end undef rfl rfl
      refine Tq.st (.raw (cA 2)) [] rfl rfl (fun G T hG=>?_) ?_
      ·exact bO (ys:=[67,72,82,78,1,1,0,0,0,0,0,0,0,0,0,7,0,0,0,0,0,0,0,1,26,177,1,54]) Tryz.underlying22 ET5 (BldA.cons rfl rfl rdI (BldA.cons rfl rfl rdI (BldA.cons rfl rfl rdI (BldA.cons rfl rfl rdI (BldA.cons rfl rfl rdI (BldA.cons rfl rfl rdI (BldA.cons rfl rfl rdI (BldA.cons rfl rfl rdI (BldA.cons rfl rfl rdI (BldA.cons rfl rfl rdI (BldA.cons rfl rfl rdI (BldA.cons rfl rfl rdI (BldA.cons rfl rfl rdI (BldA.cons rfl rfl rdI (BldA.cons rfl rfl rdI (BldA.cons rfl rfl rdI (BldA.cons rfl rfl rdI (BldA.cons rfl rfl rdI (BldA.cons rfl rfl rdI (BldA.cons rfl rfl rdI (BldA.cons rfl rfl rdI (BldA.cons rfl rfl rdI (BldA.cons rfl rfl rdI (BldA.cons rfl rfl rdI (BldA.cons rfl rfl rdI (BldA.cons rfl rfl rdI (BldA.cons rfl rfl rdI (BldA.cons rfl rfl rdI (BldA.nil _))))))))))))))))))))))))))))) rfl rfl fun uA=>Tq.end uA rfl rfl
      refine Tq.st (.val K7 [67,72,82,78,1,1,0,0,0,0,0,0,0,0,0,7,0,0,0,0,0,0,0,1,26,177,1,54]) [.own K10 (cA 2) 5 [67,72,82,78,1,1,0,0,0,0,0,0,0,0,0,7,0,0,0,0,0,0,0,1,26,177,1,54]] rfl rfl (fun G T hG=>?_) ?_
      ·exact Under.cvS Tryz.underlying22 Tryz.underlying5 (of_decide_eq_true pA) rfl rfl<|Tq.end undef rfl rfl
      refine Tq.nil<|Under.le hF0<|p1 4 rfl rfl<|cx Tryz.call47 rfl (o126 tA _)<|pn<|p1 5 rfl rfl<|m_ rfl<|pn<|gV [6,7,8,9,10] [[41],[41],[41],[47],[48]] 0 (by kernel_rfl) rfl<|vo (fun _=>OpV.extr rfl rfl) rfl<|vo (fun _=>OpV.extr rfl rfl) rfl<|vo (fun _=>OpV.extr rfl rfl) rfl<|Vq.v (fun G T hG=>a_ rfl<|Vq.end rfl)<|Vq.v (fun G T hG=>a_ rfl<|Vq.end rfl)<|vn<|p1 11 rfl rfl<|a_ rfl<|pn<|pd rfl<|tn<|sr<|mb rfl<|m_ rfl<|cr 55 ((eA.2.2==0)&&(eA.2.1==0)) ?_ (fun k=>?_)
      ·refine m_ rfl<|cq 60 (((eA.2.2==0)&&(eA.2.1==0))&&((strB eA.1)==[67,72,82,78,1,2,0,0,0,0,0,0,0,0,0,7,0,0,0,0,0,0,0,1,26,196,1,55])) ?_ (fun k=>?_)
       ·refine bs hF fun xB kA hF=>m_ rfl<|cq 65 xB ?_ (fun k=>?_)
        ·refine a_ rfl<|nt<|rc ?_
         cases osi hF
         exact rs Tryz.results40 (.tm rfl .nil) rfl rfl
        ·refine by_ (t:=61) rfl (fun hA=>?_) (fun hA=>?_)
         ·replace kA:=ctrue hA kA
          exact bs kA fun zB yB kA=>gc_ hA rfl<|ov (OpV.bst BT87 (Bld.cons (x':=(⟨(⟨(0:Int),(0:Int),(0:Int)⟩:aa),1,[],[]⟩:aI)) rfl rfl rdI ⟨rfl,(by intro q hq;simp only[List.mem_cons,List.not_mem_nil,or_false] at hq;rcases hq with rfl|rfl<;>rfl)⟩ (Bld.nil _))) rfl<|gc_ hA rfl<|cx Tryz.call45 rfl (o119 yB _)<|gc_ hA rfl<|b_ rfl<|pT hA rfl<|rf 3 (rbq kA) rfl k
         ·replace kA:=cfalse hA kA
          exact sk_ hA rfl<|sk_ hA rfl<|sk_ hA rfl<|pF hA rfl<|rf 3 (rbq kA) rfl k
       ·refine by_ (t:=56) rfl (fun bA=>?_) (fun bA=>?_)
        ·exact gc_ bA rfl<|m_ rfl<|gc_ bA rfl<|ov (OpV.b2s Tryz.underlying22 Tryz.underlying5 Tryz.underlying9 rfl rdV) rfl<|gc_ bA rfl<|ov (OpV.eqS Tryz.underlying9 rfl rdV rfl wY (.inl rfl)) rfl<|pT bA rfl<|rf 3 (iF bA) rfl k
        ·exact sk_ bA rfl<|sk_ bA rfl<|sk_ bA rfl<|pF bA rfl<|rf 3 (iG (e:=(strB eA.1)==[67,72,82,78,1,2,0,0,0,0,0,0,0,0,0,7,0,0,0,0,0,0,0,1,26,196,1,55]) bA) rfl k
      ·refine by_ (t:=52) rfl (fun oA=>?_) (fun oA=>?_)
       ·exact gc_ oA rfl<|m_ rfl<|gc_ oA rfl<|b_ rfl<|pT oA rfl<|rf 2 (iF oA) rfl k
       ·exact sk_ oA rfl<|sk_ oA rfl<|pF oA rfl<|rf 2 (iG (e:=eA.2.1==0) oA) rfl k
    ·refine by_ (t:=35) rfl (fun xA=>?_) (fun xA=>?_)
     ·exact sk_ xA rfl<|sk_ xA rfl<|sk_ xA rfl<|sk_ xA rfl<|pT xA rfl<|rf 4 (or_t (e:=y9.2.Header.Left != 1) xA) rfl k
     ·exact gc_ xA rfl<|oF fb87k1 rfl<|gc_ xA rfl<|oF fb43k rfl<|gc_ xA rfl<|oI kt3 rfl<|gc_ xA rfl<|b_ rfl<|pF xA rfl<|rf 4 (or_f xA) rfl k
   ·refine by_ (t:=29) rfl (fun yA=>?_) (fun yA=>?_)
    ·exact sk_ yA rfl<|sk_ yA rfl<|sk_ yA rfl<|sk_ yA rfl<|pT yA rfl<|rf 4 (or_t (e:=y9.2.Header.Round != 7) yA) rfl k
    ·exact gc_ yA rfl<|oF fb87k1 rfl<|gc_ yA rfl<|oF fb43k1 rfl<|gc_ yA rfl<|oI kt2 rfl<|gc_ yA rfl<|b_ rfl<|pF yA rfl<|rf 4 (or_f yA) rfl k
  ·refine by_ (t:=24) rfl (fun vA=>?_) (fun vA=>?_)
   ·exact sk_ vA rfl<|sk_ vA rfl<|sk_ vA rfl<|pT vA rfl<|rf 3 (or_t (e:=y9.2.Count != 0) vA) rfl k
   ·exact gc_ vA rfl<|oF fb87k rfl<|gc_ vA rfl<|oI kt3 rfl<|gc_ vA rfl<|b_ rfl<|pF vA rfl<|rf 3 (or_f vA) rfl k
 ·refine by_ (t:=18) rfl (fun zA=>?_) (fun zA=>?_)
  ·exact sk_ zA rfl<|sk_ zA rfl<|sk_ zA rfl<|sk_ zA rfl<|pT zA rfl<|rf 4 (or_t (e:=(strB y9.1.Out) != [67,72,82,78,1,1,0,0,0,0,0,0,0,0,0,7,0,0,0,0,0,0,0,1,26,177,1,54]) zA) rfl k
  ·exact gc_ zA rfl<|oF fb37k2 rfl<|gc_ zA rfl<|oL kt22 rfl<|gc_ zA rfl<|ov (OpV.b2s Tryz.underlying22 Tryz.underlying5 Tryz.underlying9 rfl rdV) rfl<|gc_ zA rfl<|ov (OpV.eqS Tryz.underlying9 rfl rdV rfl wX (.inr rfl)) rfl<|pF zA rfl<|rf 4 (or_f zA) rfl k
noncomputable def dX (a0:Int) (a1:List Int):Option Bool:=
 bif a0==1 then
  (f9 a1).bind fun y1=>
  some ((y1.2.2 != 0)||(!y1.2.1))
 else
  (cK (IntKind.wrap .i64 (a0 - 1))).bind fun y7=>
  (fW a1 y7).bind fun y9=>
  ((bif y9.2 != 0 then
   some true
  else
   bif mkB (y9.1.length:Int) (y9.1.length:Int) then
   some ((strB y9.1)==(strB (List.replicate (Int.toNat (y9.1.length:Int)) (0:Int))))
   else none
   :Option Bool)).bind fun xA=>
  some xA
theorem o128 {a0:Int} {a1:List Int} {r0:Bool} (hF:dX a0 a1=some r0) (L:List Res):Ok Tryz.prog 50 [SV.raw (.int .i64 a0),SV.val K7 a1] L (SV.raw (.bool r0)) L:=by
 unfold dX at hF
 refine okI 43 Tryz.func50 rfl rfl rfl fun F0=>?_
 refine sr<|a_ rfl<|nt<|sq<|sr<|mb rfl<|nt<|it hF rfl (fun hF=>?_) (fun hF=>?_)
 ·refine bs hF fun y1 h2 hF=>sr<|m_ rfl<|cx Tryz.call106 rfl (o120 h2 _)<|m_ rfl<|oE rfl<|oE rfl<|oE rfl<|a_ rfl<|a_ rfl<|a_ rfl<|ns<|mb rfl<|m_ rfl<|cr 23 ((y1.2.2 != 0)||(!y1.2.1)) ?_ (fun k=>?_)
  ·refine a_ rfl<|nt<|rt ?_
   cases osi hF
   exact rs Tryz.results50 (.tm rfl .nil) rfl rfl
  ·refine by_ (t:=20) rfl (fun c3=>?_) (fun c3=>?_)
   ·exact sk_ c3 rfl<|sk_ c3 rfl<|pT c3 rfl<|rf 2 (or_t (e:= !y1.2.1) c3) rfl k
   ·exact gc_ c3 rfl<|m_ rfl<|gc_ c3 rfl<|ov (OpV.not rfl) rfl<|pF c3 rfl<|rf 2 (or_f c3) rfl k
 ·refine bs hF fun y7 h8 hF=>bs hF fun y9 hA hF=>bs hF fun zA yA hF=>ct<|sr<|m_ rfl<|mb rfl<|cx Tryz.call79 rfl (o41 h8 _)<|cx Tryz.call98 rfl (o43 hA _)<|m_ rfl<|oE rfl<|oE rfl<|a_ rfl<|a_ rfl<|nt<|sq<|Under.drawz [[9],[32],[33],[8,34],[34,35],[8,34],[34,37],[34,38],[34,39],[34,36,40],[34,41],[42]] [(4,.raw (.bool zA))] rfl (by kernel_rfl) rfl ?_ (fun k F hF0=>?_)
  ·refine tn<|rc ?_
   cases osi hF
   exact rs Tryz.results50 (.tm rfl .nil) rfl rfl
  ·refine Zq.st (.raw (.int .i64 y9.2)) (fun G hG=>?_) ?_
   ·exact m_ rfl<|Zq.done rfl
   refine Zq.st (.raw (.bool (y9.2 != 0))) (fun G hG=>?_) ?_
   ·exact b_ rfl<|Zq.done rfl
   refine Zq.st (.raw (.bool (y9.2 != 0))) (fun G hG=>?_) ?_
   ·exact m_ rfl<|Zq.done rfl
   refine Zq.by (y9.2 != 0) (fun xA=>?_) (fun xA=>?_)
   ·replace yA:=ctrue xA yA
    refine Zq.st (.raw undef) (fun G hG=>?_) ?_
    ·exact sk_ xA rfl<|Zq.done rfl
    refine Zq.st (.raw undef) (fun G hG=>?_) ?_
    ·exact sk_ xA rfl<|Zq.done rfl
    refine Zq.st (.raw undef) (fun G hG=>?_) ?_
    ·exact sk_ xA rfl<|Zq.done rfl
    refine Zq.st (.raw undef) (fun G hG=>?_) ?_
    ·exact sk_ xA rfl<|Zq.done rfl
    refine Zq.st (.raw undef) (fun G hG=>?_) ?_
    ·exact sk_ xA rfl<|Zq.done rfl
    refine Zq.st (.raw undef) (fun G hG=>?_) ?_
    ·exact sk_ xA rfl<|Zq.done rfl
    refine Zq.st (.raw undef) (fun G hG=>?_) ?_
    ·exact sk_ xA rfl<|Zq.done rfl
    refine Zq.st (.raw (.bool zA)) (fun G hG=>?_) ?_
    ·exact pT xA rfl<|Under.top (rbq yA)<|Zq.done rfl
    have vA:=(osi yA).symm
    refine Zq.st (.raw (.bool zA)) (fun G hG=>?_) ?_
    ·exact a_ rfl<|Zq.done rfl
    exact Zq.nil (Zq.fin 12 hF0 (SubZ.cons rfl rfl SubZ.nil) rfl k)
   ·replace yA:=cfalse xA yA
    refine gs yA fun bA yA=>Zq.st (.val K7 y9.1) (fun G hG=>?_) ?_
    ·exact gc_ xA rfl<|m_ rfl<|Zq.done rfl
    refine Zq.st (.val kStr (strB y9.1)) (fun G hG=>?_) ?_
    ·exact gc_ xA rfl<|ov (OpV.b2s Tryz.underlying22 Tryz.underlying5 Tryz.underlying9 rfl rdV) rfl<|Zq.done rfl
    refine Zq.st (.val K7 y9.1) (fun G hG=>?_) ?_
    ·exact gc_ xA rfl<|m_ rfl<|Zq.done rfl
    refine Zq.st (.raw (.int .i64 (y9.1.length:Int))) (fun G hG=>?_) ?_
    ·exact gc_ xA rfl<|oN Tryz.underlying22 rfl<|Zq.done rfl
    refine Zq.st (.val K7 (List.replicate (Int.toNat (y9.1.length:Int)) (0:Int))) (fun G hG=>?_) ?_
    ·exact gc_ xA rfl<|Under.mk bA Tryz.underlying22 AT5 rfl rfl rfl fun oA=>fzO (t:=39) rfl<|Zq.done rfl
    refine Zq.st (.val kStr (strB (List.replicate (Int.toNat (y9.1.length:Int)) (0:Int)))) (fun G hG=>?_) ?_
    ·exact gc_ xA rfl<|ov (OpV.b2s Tryz.underlying22 Tryz.underlying5 Tryz.underlying9 rfl rdV) rfl<|Zq.done rfl
    refine Zq.st (.raw (.bool ((strB y9.1)==(strB (List.replicate (Int.toNat (y9.1.length:Int)) (0:Int)))))) (fun G hG=>?_) ?_
    ·exact gc_ xA rfl<|ov (OpV.eqS Tryz.underlying9 rfl rdV rfl rdV (.inl rfl)) rfl<|Zq.done rfl
    refine Zq.st (.raw (.bool zA)) (fun G hG=>?_) ?_
    ·exact pF xA rfl<|Under.top (rbq yA)<|Zq.done rfl
    refine Zq.st (.raw (.bool zA)) (fun G hG=>?_) ?_
    ·exact a_ rfl<|Zq.done rfl
    exact Zq.nil (Zq.fin 12 hF0 (SubZ.cons rfl rfl SubZ.nil) rfl k)
noncomputable def cQ (a0:bL):Option Bool:=
 (dO).bind fun y1=>
 bif !y1 then
  some false
 else
  (eZ a0.C a0.M a0.Raw).bind fun y4=>
  bif y4.2.2 != 0 then
   some ((((y4.1.length:Int)==0)&&(decide (y4.2.1≥0)))&&(decide (y4.2.1≤(a0.Raw.length:Int))))
  else
   (cw a0.Raw).bind fun vA=>
   (cw y4.1).bind fun bA=>
   (eL a0.C.Master a0.M.Header.Epoch).bind fun oB=>
   bif ((((((vA.2.2 != 0)||(bA.2.2 != 0))||(oB.2 != 0))||(y4.2.1 != 0))||(bA.1.Header != ({a0.M.Header with Left:=a0.C.Left}:aa)))||((bA.1.Cells.length:Int) != a0.M.Count))||((vA.1.Cells.length:Int) != (a0.M.From.length:Int)) then
    some false
   else
    bif mkB 320 320 then
    bif mkB (bA.1.Cells.length:Int) (bA.1.Cells.length:Int) then
    (((Loop.run (S := ((List Bool) × Int)) (R := ((List Bool) ⊕ Bool)) (fun (zA, xA) =>
      bif decide (xA<(vA.1.Cells.length:Int)) then
       (((idx a0.M.From xA).bind fun yA=>
       ((bif decide (yA<0) then
        some true
       else
        (idx vA.1.Cells xA).bind fun eA=>
        (dX a0.C.Left eA).bind fun cA=>
        some cA
        :Option Bool)).bind fun qA=>
       bif qA then
        some (.inr zA)
       else
        (idx zA yA).bind fun kB=>
        (idx a0.M.Nonces yA).bind fun rA=>
        (ga oB.1 rA).bind fun oA=>
        (idx bA.1.Cells yA).bind fun wA=>
        (eS oA.1 a0.C.Left wA).bind fun kA=>
        ((bif (oA.2 != 0)||(kA.2 != 0) then
         some true
        else
         (idx vA.1.Cells xA).bind fun gA=>
         some ((strB kA.1.Cell) != (strB gA))
         :Option Bool)).bind fun mA=>
        bif mA then
         some (.inl false)
        else
         some (.inr (List.set zA (Int.toNat yA) true))
        : Option (Bool ⊕ (List Bool)))).bind fun nA => match nA with
        | .inl z=>
         some (.done (.inr z))
        | .inr pA=>
         some (.next (pA,IntKind.wrap .i64 (xA+1)))
      else
       some (.done (.inl zA))) (List.replicate (Int.toNat (bA.1.Cells.length:Int)) false,0)).bind fun tA=>match tA with
     | .inl uA=>
      some (.inr uA)
     | .inr z=>
      some (.inl z)
     : Option (Bool ⊕ (List Bool)))).bind fun xB => match xB with
     | .inl z=>
      some z
     | .inr dA=>
      (((Loop.run (S := Int) (R := (Unit ⊕ Bool)) (fun hA =>
        bif decide (hA<(dA.length:Int)) then
         (idx dA hA).bind fun yB=>
         ((bif !yB then
          (idx bA.1.Cells hA).bind fun zB=>
          some ((strB zB) != (strB (List.replicate (Int.toNat 320) (0:Int))))
         else
          some false
          :Option Bool)).bind fun hB=>
         bif hB then
          some (.done (.inr false))
         else
          some (.next (IntKind.wrap .i64 (hA+1)))
        else
         some (.done (.inl ()))) 0).bind fun bB=>match bB with
       | .inl _=>
        some (.inr ())
       | .inr z=>
        some (.inl z)
       : Option (Bool ⊕ Unit))).bind fun vB => match vB with
       | .inl z=>
        some z
       | .inr _=>
        some true
    else none
    else none
theorem o129 {a0:bL} {r0:Bool} (hF:cQ a0=some r0) (L:List Res):Ok Tryz.prog 13 [SV.val cL a0] L (SV.raw (.bool r0)) L:=by
 unfold cQ at hF
 refine okI 221 Tryz.func13 rfl rfl rfl fun F0=>?_
 refine bs hF fun y1 h2 hF=>sr<|bX (K:=cL) rfl rdV rfl<|a_ rfl<|nt<|sq<|sr<|cx Tryz.call40 rfl (o127 h2 _)<|ov (OpV.not rfl) rfl<|nt<|it hF rfl (fun hF=>?_) (fun hF=>?_)
 ·refine sr<|a_ rfl<|nt<|rt ?_
  cases osi hF
  exact rs Tryz.results13 (.tm rfl .nil) rfl rfl
 ·refine bs hF fun y4 h5 hF=>ct<|sr<|oF fb96k rfl<|oL kt24 rfl<|oF fb96k1 rfl<|oL kt87 rfl<|oF fb96k2 rfl<|oL kt22 rfl<|cx Tryz.call47 rfl (o126 h5 _)<|m_ rfl<|oE rfl<|oE rfl<|oE rfl<|a_ rfl<|a_ rfl<|a_ rfl<|nt<|sq<|sr<|mb rfl<|nt<|it hF rfl (fun hF=>?_) (fun hF=>?_)
  ·refine sr<|m_ rfl<|oN Tryz.underlying22 rfl<|b_ rfl<|m_ rfl<|cr 45 (((y4.1.length:Int)==0)&&(decide (y4.2.1≥0))) ?_ (fun k=>?_)
   ·refine m_ rfl<|kw 52 ((((y4.1.length:Int)==0)&&(decide (y4.2.1≥0)))&&(decide (y4.2.1≤(a0.Raw.length:Int)))) ?_ (fun k=>?_)
    ·refine a_ rfl<|nt<|rt ?_
     cases osi hF
     exact rs Tryz.results13 (.tm rfl .nil) rfl rfl
    ·refine by_ (t:=46) rfl (fun c9=>?_) (fun c9=>?_)
     ·exact gc_ c9 rfl<|m_ rfl<|gc_ c9 rfl<|oF fb96k2 rfl<|gc_ c9 rfl<|oL kt22 rfl<|gc_ c9 rfl<|oN Tryz.underlying22 rfl<|gc_ c9 rfl<|b_ rfl<|pT c9 rfl<|rf 5 (iF c9) rfl k
     ·exact sk_ c9 rfl<|sk_ c9 rfl<|sk_ c9 rfl<|sk_ c9 rfl<|sk_ c9 rfl<|pF c9 rfl<|rf 5 (iG (e:=decide (y4.2.1≤(a0.Raw.length:Int))) c9) rfl k
   ·refine by_ (t:=42) rfl (fun c6=>?_) (fun c6=>?_)
    ·exact gc_ c6 rfl<|m_ rfl<|gc_ c6 rfl<|b_ rfl<|pT c6 rfl<|rf 2 (iF c6) rfl k
    ·exact sk_ c6 rfl<|sk_ c6 rfl<|pF c6 rfl<|rf 2 (iG (e:=decide (y4.2.1≥0)) c6) rfl k
  ·refine bs hF fun mA bD hF=>bs hF fun vA vD hF=>bs hF fun hB oD hF=>ct<|sr<|oF fb96k2 rfl<|oL kt22 rfl<|cx Tryz.call20 rfl (o20 bD _)<|m_ rfl<|oE rfl<|oE rfl<|oE rfl<|al ZT46 rfl fun xE=>sP (x':=mA.1) .box .id sz46k rfl rfl rdV rfl<|a_ rfl<|a_ rfl<|nl<|fz (t:=6) rfl<|tn<|sr<|m_ rfl<|cx Tryz.call20 rfl (o20 vD _)<|m_ rfl<|oE rfl<|oE rfl<|oE rfl<|al ZT46 rfl fun yE=>sP (x':=vA.1) .box .id sz46k rfl rfl rdV rfl<|a_ rfl<|a_ rfl<|nl<|fz (t:=9) rfl<|tn<|sr<|oF fb96k rfl<|oF fb24k rfl<|oL kt22 rfl<|oF fb96k1 rfl<|oF fb87k1 rfl<|oF fb43k2 rfl<|oI kt2 rfl<|cx Tryz.call48 rfl (o40 oD _)<|m_ rfl<|oE rfl<|oE rfl<|a_ rfl<|a_ rfl<|ns<|oF fb96k1 rfl<|oF fb87k1 rfl<|oL kt43 rfl<|al ZT43 rfl fun zE=>sP (x':=a0.M.Header) .box .id sz43k rfl rfl rdV rfl<|ns<|oF fb96k rfl<|oF fb24k1 rfl<|oI kt3 rfl<|oM oe rfl<|sP (x':=({a0.M.Header with Left:=a0.C.Left}:aa)) .box (.fld .id eU) sz3k rfl rfl rdI rfl<|nl<|fz (t:=14) rfl<|tn<|sq<|sr<|mb rfl<|m_ rfl<|cr 89 ((mA.2.2 != 0)||(vA.2.2 != 0)) ?_ (fun k=>?_)
   ·refine m_ rfl<|cr 93 (((mA.2.2 != 0)||(vA.2.2 != 0))||(hB.2 != 0)) ?_ (fun k=>?_)
    ·refine m_ rfl<|cr 97 ((((mA.2.2 != 0)||(vA.2.2 != 0))||(hB.2 != 0))||(y4.2.1 != 0)) ?_ (fun k=>?_)
     ·refine m_ rfl<|iz 103 (((((mA.2.2 != 0)||(vA.2.2 != 0))||(hB.2 != 0))||(y4.2.1 != 0))||(vA.1.Header != ({a0.M.Header with Left:=a0.C.Left}:aa))) ?_ (fun k=>?_)
      ·refine m_ rfl<|vz 112 ((((((mA.2.2 != 0)||(vA.2.2 != 0))||(hB.2 != 0))||(y4.2.1 != 0))||(vA.1.Header != ({a0.M.Header with Left:=a0.C.Left}:aa)))||((vA.1.Cells.length:Int) != a0.M.Count)) ?_ (fun k=>?_)
       ·refine m_ rfl<|sY 122 (((((((mA.2.2 != 0)||(vA.2.2 != 0))||(hB.2 != 0))||(y4.2.1 != 0))||(vA.1.Header != ({a0.M.Header with Left:=a0.C.Left}:aa)))||((vA.1.Cells.length:Int) != a0.M.Count))||((mA.1.Cells.length:Int) != (a0.M.From.length:Int))) ?_ (fun k=>?_)
        ·refine nt<|it hF rfl (fun hF=>?_) (fun hF=>?_)
         ·refine sr<|a_ rfl<|nt<|rt ?_
          cases osi hF
          exact rs Tryz.results13 (.tm rfl .nil) rfl rfl
         ·refine gs hF fun kD hF=>gs hF fun dD hF=>bs hF fun zC pA hF=>ct<|sr<|Under.mk kD Tryz.underlying22 AT5 rfl rfl rfl fun hE=>Under.lendOv (t:=123) (fun L=>OpV.b2s Tryz.underlying22 Tryz.underlying5 Tryz.underlying9 rfl rdV) rfl (SvF.val (fun _ _ _ _ h=>h)) rfl<|a_ rfl<|nl<|dr<|tn<|sr<|oF fb46k1 rfl<|oL kt44 rfl<|oN Tryz.underlying44 rfl<|Under.mk dD Tryz.underlying106 AT4 rfl rfl rfl fun rB=>a_ rfl<|nt<|sq<|Under.after (fun X=>∀(tA:List Bool),zC=(.inr tA)→Under F0 221 [(9,.ptr aV vA.1),(15,.val kStr (strB (List.replicate (Int.toNat 320) (0:Int)))),(16,.val (kSl fw) tA)] (L) X) ?_ ?_
          ·intro tA vB
           replace vB:=vB.symm
           subst vB
           refine bs hF fun hC uA hF=>sq<|Under.after (fun X=>∀(_:Unit),hC=(.inr ())→Under F0 221 [] (L) X) ?_ ?_
           ·intro _ oB
            replace oB:=oB.symm
            subst oB
            refine sr<|a_ rfl<|nt<|rc ?_
            cases osi hF
            exact rs Tryz.results13 (.tm rfl .nil) rfl rfl
           ·intro K bC
            refine bs uA fun eD vC uA=>sr<|a_ rfl<|nt<|bk<|lp vC () (fun kB wB=>[(9,.ptr aV vA.1),(15,.val kStr (strB (List.replicate (Int.toNat 320) (0:Int)))),(16,.val (kSl fw) tA),(23,.raw (.int .i64 kB))]) (fun kB wB=>L) rfl rfl fun kB wB cD bA gB=>?_
            refine sq<|sr<|m_ rfl<|m_ rfl<|oN Tryz.underlying106 rfl<|b_ rfl<|nt<|it bA rfl (fun bA=>?_) (fun bA=>?_)
            ·refine bs bA fun qD oC bA=>bs bA fun kC rA bA=>ct<|sq<|bk<|sr<|m_ rfl<|m_ rfl<|oS oC Tryz.underlying106 sz4 rfl<|ov (OpV.ldB kt4 rfl) rfl<|ov (OpV.not rfl) rfl<|m_ rfl<|sY 220 kC ?_ (fun k=>?_)
             ·refine nt<|it bA rfl (fun bA=>?_) (fun bA=>?_)
              ·refine sr<|a_ rfl<|nt<|rc<|Under.bR<|tr ?_
               cases aj bA gB
               refine tr<|Under.bR<|tr ?_
               cases osi uA
               cases osi hF
               exact rs Tryz.results13 (.tm rfl .nil) rfl rfl
              ·exact cs<|bN<|tn<|rg<|mb rfl<|a_ rfl<|nl<|nx () bA rfl rfl
             ·refine by_ (t:=211) rfl (fun hA=>?_) (fun hA=>?_)
              ·replace rA:=ctrue hA rA
               exact bs rA fun rD dC rA=>gc_ hA rfl<|oF fb46k1 rfl<|gc_ hA rfl<|oL kt44 rfl<|gc_ hA rfl<|m_ rfl<|gc_ hA rfl<|oS dC Tryz.underlying44 sz22 rfl<|gc_ hA rfl<|oL kt22 rfl<|gc_ hA rfl<|ov (OpV.b2s Tryz.underlying22 Tryz.underlying5 Tryz.underlying9 rfl rdV) rfl<|gc_ hA rfl<|m_ rfl<|gc_ hA rfl<|ov (OpV.eqS Tryz.underlying9 rfl rdV rfl rdV (.inr rfl)) rfl<|pT hA rfl<|rf 8 (rbq rA) rfl k
              ·replace rA:=cfalse hA rA
               exact sk_ hA rfl<|sk_ hA rfl<|sk_ hA rfl<|sk_ hA rfl<|sk_ hA rfl<|sk_ hA rfl<|sk_ hA rfl<|sk_ hA rfl<|pF hA rfl<|rf 8 (rbq rA) rfl k
            ·refine xt<|te ?_
             cases aj bA gB
             exact te<|bh<|tn<|wr (bC () (osi uA).symm) rfl
          ·intro K eC
           refine bs pA fun wD cC pA=>sr<|a_ rfl<|nt<|bk<|lp cC () (fun nA mB=>[(1,.ptr cL a0),(6,.ptr aV mA.1),(9,.ptr aV vA.1),(12,.val K7 hB.1),(15,.val kStr (strB (List.replicate (Int.toNat 320) (0:Int)))),(16,.raw rB),(17,.raw (.int .i64 nA.2))]) (fun nA mB=>(.own fw rB 4 nA.1)::L) rfl rfl fun nA mB gD eA nB=>?_
           obtain⟨pB,qC⟩:=nA
           dsimp only at eA⊢
           refine sq<|sr<|m_ rfl<|oF fb46k1 rfl<|oL kt44 rfl<|oN Tryz.underlying44 rfl<|b_ rfl<|nt<|it eA rfl (fun eA=>?_) (fun eA=>?_)
           ·refine bs eA fun rC xA eA=>ct<|sq<|Under.after (fun X=>∀(dB:List Bool),rC=(.inr dB)→Under F0 221 [(1,.ptr cL a0),(6,.ptr aV mA.1),(9,.ptr aV vA.1),(12,.val K7 hB.1),(15,.val kStr (strB (List.replicate (Int.toNat 320) (0:Int)))),(16,.raw rB),(17,.raw (.int .i64 qC))] ((.own fw rB 4 dB)::L) X) ?_ ?_
            ·intro dB eB
             replace eB:=eB.symm
             subst eB
             exact rg<|mb rfl<|a_ rfl<|nl<|nx () eA rfl rfl
            ·intro K tB
             refine bs xA fun cB wC xA=>bs xA fun gC oA xA=>bk<|sr<|oF fb96k1 rfl<|oF fb87k2 rfl<|oL kt68 rfl<|m_ rfl<|oS wC Tryz.underlying68 sz3 rfl<|oI kt3 rfl<|a_ rfl<|nt<|sq<|sq<|dw rfl (by kernel_rfl) fun F hF0=>mvq rfl rfl<|bnq rfl rfl rfl rfl<|mvq rfl rfl<|vN 154 gC ?_ (fun k=>?_)
             ·refine nlq hF0<|tn<|it xA rfl (fun xA=>?_) (fun xA=>?_)
              ·exact xt<|te<|bh<|tn<|wr (tB _ (osi xA).symm) rfl
              ·refine bs xA fun mD qB xA=>bs xA fun nD mC xA=>bs xA fun uB nC xA=>bs xA fun xC pC xA=>bs xA fun kA tC xA=>ct<|sr<|m_ rfl<|m_ rfl<|ov (OpV.ixO qB Tryz.underlying106 sz4k rfl rfl) rfl<|sP (x':=List.set pB (Int.toNat cB) true) (.own qB) (.ix .id qB) sz4k rfl rfl rdB rfl<|ns<|m_ rfl<|oF fb96k1 rfl<|oF fb87k3 rfl<|oL kt85 rfl<|m_ rfl<|oS mC Tryz.underlying85 sz64 rfl<|oL kt64 rfl<|cx Tryz.call51 rfl (o122 nC _)<|m_ rfl<|oE rfl<|oE rfl<|a_ rfl<|a_ rfl<|nt<|sq<|ph rfl<|Under.grpT (L:=L) [0,1,2,3,4,5,6,7,8,9,10,11,12,13,14] [[19],[1],[171],[172],[9],[174],[18],[175,176],[177],[170,173,178],[179],[169],[169],[],[21,180]] [⟨sk0 (.val K7 uB.1),[],[],[]⟩,⟨sk0 (.ptr aH a0.C),[],[],[]⟩,⟨sk0 (.ptr K8 a0.C.Left),[],[],[]⟩,⟨sk0 (.raw (.int .i64 a0.C.Left)),[],[],[]⟩,⟨sk0 (.ptr K1 vA.1.Cells),[],[],[]⟩,⟨sk0 (.val K1 vA.1.Cells),[],[],[]⟩,⟨sk0 (.raw (.int .i64 cB)),[],[],[]⟩,⟨sk0 (.ptr K7 xC),[],[],[]⟩,⟨sk0 (.val K7 xC),[],[],[]⟩,⟨sk0 (.tup [.val aR kA.1,.raw (.int .i64 kA.2)]),[],[],[]⟩,⟨sk0 (.tup [.val aR kA.1,.raw (.int .i64 kA.2)]),[],[],[]⟩,⟨sk0 (.val aR kA.1),[],[],[]⟩,⟨sk0 (.raw (.int .i64 kA.2)),[],[],[]⟩,⟨sk1 13 (fun yC=> .raw (.pointer (some ⟨(vblk yC),0,none⟩))),[],[(0,tk1 13 (fun yC=> .box aR (vblk yC) 66 (⟨[],(List.replicate 16 (0:Int))⟩:au)))],[]⟩,⟨sk0 (.raw undef),[0],[(1,tk1 13 (fun yC=> .box aR (vblk yC) 66 kA.1))],[]⟩] [] (fun T:List Res=>(.own fw rB 4 (List.set pB (Int.toNat cB) true))::T) lf1 rfl (by kernel_rfl) rfl rfl (fun F hF0 bB=>?_)
               refine Tq.v (fun G T hG=>?_) ?_
               ·exact m_ rfl<|Tq.end undef rfl rfl
               refine Tq.v (fun G T hG=>?_) ?_
               ·exact oF fb96k rfl<|Tq.end undef rfl rfl
               refine Tq.v (fun G T hG=>?_) ?_
               ·exact oF fb24k1 rfl<|Tq.end undef rfl rfl
               refine Tq.v (fun G T hG=>?_) ?_
               ·exact oI kt3 rfl<|Tq.end undef rfl rfl
               refine Tq.v (fun G T hG=>?_) ?_
               ·exact oF fb46k1 rfl<|Tq.end undef rfl rfl
               refine Tq.v (fun G T hG=>?_) ?_
               ·exact oL kt44 rfl<|Tq.end undef rfl rfl
               refine Tq.v (fun G T hG=>?_) ?_
               ·exact m_ rfl<|Tq.end undef rfl rfl
               refine Tq.v (fun G T hG=>?_) ?_
               ·exact oS pC Tryz.underlying44 sz22 rfl<|Tq.end undef rfl rfl
               refine Tq.v (fun G T hG=>?_) ?_
               ·exact oL kt22 rfl<|Tq.end undef rfl rfl
               refine Tq.v (fun G T hG=>?_) ?_
               ·exact cx Tryz.call49 rfl (o69 tC _)<|Tq.end undef rfl rfl
               refine Tq.v (fun G T hG=>?_) ?_
               ·exact m_ rfl<|Tq.end undef rfl rfl
               refine Tq.v (fun G T hG=>?_) ?_
               ·exact oE rfl<|Tq.end undef rfl rfl
               refine Tq.v (fun G T hG=>?_) ?_
               ·exact oE rfl<|Tq.end undef rfl rfl
               refine Tq.st (.raw (.pointer (some ⟨(vblk (bB 13)),0,none⟩))) [] rfl rfl (fun G T hG=>?_) ?_
               ·exact al ZT66 rfl fun uC=>Tq.end (.pointer (some ⟨uC,0,none⟩)) rfl rfl
               refine Tq.st0 [.box aR (vblk (bB 13)) 66 (⟨[],(List.replicate 16 (0:Int))⟩:au)] rfl (fun G T hG=>?_) ?_
               ·exact sP (x':=kA.1) .box .id sz66k rfl rfl rdV rfl<|Tq.end0 undef rfl
               refine Tq.nil<|Under.le hF0<|p1 15 rfl rfl<|a_ rfl<|pn<|pd rfl<|f1<|fz (t:=21) rfl<|tn<|sq<|dw rfl (by kernel_rfl) fun F hF0=>mvq rfl rfl<|bnq rfl rfl rfl rfl<|mvq rfl rfl<|wU 187 ((uB.2 != 0)||(kA.2 != 0)) ?_ (fun k=>?_)
               ·refine bs xA fun xD wA xA=>mvq rfl rfl<|rQ 199 xD ?_ (fun k=>?_)
                ·refine nlq hF0<|tn<|it xA rfl (fun xA=>?_) (fun xA=>?_)
                 ·refine dr<|sr<|a_ rfl<|nt<|rc<|Under.bR<|tr ?_
                  cases osi xA
                  cases aj eA nB
                  refine tr<|Under.bR<|tr ?_
                  cases osi pA
                  cases osi hF
                  exact rs Tryz.results13 (.tm rfl .nil) rfl rfl
                 ·exact cs<|bN<|tn<|wr (tB _ (osi xA).symm) rfl
                ·refine byq (t:=188) rfl (fun yA=>?_) (fun yA=>?_)
                 ·replace wA:=ctrue yA wA
                  exact skq yA rfl rfl rfl<|skq yA rfl rfl rfl<|skq yA rfl rfl rfl<|skq yA rfl rfl rfl<|skq yA rfl rfl rfl<|skq yA rfl rfl rfl<|skq yA rfl rfl rfl<|skq yA rfl rfl rfl<|skq yA rfl rfl rfl<|skq yA rfl rfl rfl<|oq (pkT yA rfl rfl) rfl<|rfq 10 (rbq wA) rfl k
                 ·replace wA:=cfalse yA wA
                  exact bs wA fun pD yD wA=>gq yA rfl rfl<|oq (OpV.fd fb66k1 rfl rfl) rfl<|gq yA rfl rfl<|oq (OpV.ld kt22 rfl) rfl<|gq yA rfl rfl<|oq (OpV.b2s Tryz.underlying22 Tryz.underlying5 Tryz.underlying9 rfl rdV) rfl<|gq yA rfl rfl<|oq (OpV.fd fb46k1 rfl rfl) rfl<|gq yA rfl rfl<|oq (OpV.ld kt44 rfl) rfl<|gq yA rfl rfl<|mvq rfl rfl<|gq yA rfl rfl<|oq (OpV.ixS yD Tryz.underlying44 sz22 rfl rdV rfl) rfl<|gq yA rfl rfl<|oq (OpV.ld kt22 rfl) rfl<|gq yA rfl rfl<|oq (OpV.b2s Tryz.underlying22 Tryz.underlying5 Tryz.underlying9 rfl rdV) rfl<|gq yA rfl rfl<|oq (OpV.eqS Tryz.underlying9 rfl rdV rfl rdV (.inr rfl)) rfl<|oq (pkF yA rfl rfl) rfl<|rfq 10 (rbq wA) rfl k
               ·refine byq (t:=184) rfl (fun cA=>?_) (fun cA=>?_)
                ·exact skq cA rfl rfl rfl<|skq cA rfl rfl rfl<|oq (pkT cA rfl rfl) rfl<|rfq 2 (or_t (e:=kA.2 != 0) cA) rfl k
                ·exact gq cA rfl rfl<|mvq rfl rfl<|gq cA rfl rfl<|bnq rfl rfl rfl rfl<|oq (pkF cA rfl rfl) rfl<|rfq 2 (or_f cA) rfl k
             ·refine byq (t:=144) rfl (fun zA=>?_) (fun zA=>?_)
              ·replace oA:=ctrue zA oA
               exact skq zA rfl rfl rfl<|skq zA rfl rfl rfl<|skq zA rfl rfl rfl<|skq zA rfl rfl rfl<|skq zA rfl rfl rfl<|skq zA rfl rfl rfl<|skq zA rfl rfl rfl<|skq zA rfl rfl rfl<|skq zA rfl rfl rfl<|oq (pkT zA rfl rfl) rfl<|rfq 9 (rbq oA) rfl k
              ·replace oA:=cfalse zA oA
               exact bs oA fun tD zD oA=>bs oA fun uD hD oA=>gq zA rfl rfl<|oq (OpV.fd fb96k rfl rfl) rfl<|gq zA rfl rfl<|oq (OpV.fd fb24k1 rfl rfl) rfl<|gq zA rfl rfl<|oq (OpV.ldI kt3 rfl) rfl<|gq zA rfl rfl<|oq (OpV.fd fb46k1 rfl rfl) rfl<|gq zA rfl rfl<|oq (OpV.ld kt44 rfl) rfl<|gq zA rfl rfl<|mvq rfl rfl<|gq zA rfl rfl<|oq (OpV.ixS zD Tryz.underlying44 sz22 rfl rdV rfl) rfl<|gq zA rfl rfl<|oq (OpV.ld kt22 rfl) rfl<|gq zA rfl rfl<|oq (OpV.call Tryz.call50 rfl rfl (fun L=>(o128 hD L))) rfl<|oq (pkF zA rfl rfl) rfl<|rfq 9 (rbq oA) rfl k
           ·refine fzO (t:=16) rfl<|xt<|te ?_
            cases aj eA nB
            exact te<|bh<|tn<|wr (eC _ (osi pA).symm) rfl
        ·refine by_ (t:=113) rfl (fun dA=>?_) (fun dA=>?_)
         ·exact sk_ dA rfl<|sk_ dA rfl<|sk_ dA rfl<|sk_ dA rfl<|sk_ dA rfl<|sk_ dA rfl<|sk_ dA rfl<|sk_ dA rfl<|pT dA rfl<|rf 8 (or_t (e:=(mA.1.Cells.length:Int) != (a0.M.From.length:Int)) dA) rfl k
         ·exact gc_ dA rfl<|oF fb46k1 rfl<|gc_ dA rfl<|oL kt44 rfl<|gc_ dA rfl<|oN Tryz.underlying44 rfl<|gc_ dA rfl<|oF fb96k1 rfl<|gc_ dA rfl<|oF fb87k2 rfl<|gc_ dA rfl<|oL kt68 rfl<|gc_ dA rfl<|oN Tryz.underlying68 rfl<|gc_ dA rfl<|b_ rfl<|pF dA rfl<|rf 8 (or_f dA) rfl k
       ·refine by_ (t:=104) rfl (fun qA=>?_) (fun qA=>?_)
        ·exact sk_ qA rfl<|sk_ qA rfl<|sk_ qA rfl<|sk_ qA rfl<|sk_ qA rfl<|sk_ qA rfl<|sk_ qA rfl<|pT qA rfl<|rf 7 (or_t (e:=(vA.1.Cells.length:Int) != a0.M.Count) qA) rfl k
        ·exact gc_ qA rfl<|oF fb46k1 rfl<|gc_ qA rfl<|oL kt44 rfl<|gc_ qA rfl<|oN Tryz.underlying44 rfl<|gc_ qA rfl<|oF fb96k1 rfl<|gc_ qA rfl<|oF fb87k rfl<|gc_ qA rfl<|oI kt3 rfl<|gc_ qA rfl<|b_ rfl<|pF qA rfl<|rf 7 (or_f qA) rfl k
      ·refine by_ (t:=98) rfl (fun gA=>?_) (fun gA=>?_)
       ·exact sk_ gA rfl<|sk_ gA rfl<|sk_ gA rfl<|sk_ gA rfl<|pT gA rfl<|rf 4 (or_t (e:=vA.1.Header != ({a0.M.Header with Left:=a0.C.Left}:aa)) gA) rfl k
       ·exact gc_ gA rfl<|oF fb46k rfl<|gc_ gA rfl<|oL kt43 rfl<|gc_ gA rfl<|oL kt43 rfl<|gc_ gA rfl<|ov (OpV.neK eqk43 eqg43 rfl rfl rfl rdV rfl rdV) rfl<|pF gA rfl<|rf 4 (or_f gA) rfl k
     ·refine by_ (t:=94) rfl (fun xB=>?_) (fun xB=>?_)
      ·exact sk_ xB rfl<|sk_ xB rfl<|pT xB rfl<|rf 2 (or_t (e:=y4.2.1 != 0) xB) rfl k
      ·exact gc_ xB rfl<|m_ rfl<|gc_ xB rfl<|b_ rfl<|pF xB rfl<|rf 2 (or_f xB) rfl k
    ·refine by_ (t:=90) rfl (fun yB=>?_) (fun yB=>?_)
     ·exact sk_ yB rfl<|sk_ yB rfl<|pT yB rfl<|rf 2 (or_t (e:=hB.2 != 0) yB) rfl k
     ·exact gc_ yB rfl<|m_ rfl<|gc_ yB rfl<|b_ rfl<|pF yB rfl<|rf 2 (or_f yB) rfl k
   ·refine by_ (t:=86) rfl (fun zB=>?_) (fun zB=>?_)
    ·exact sk_ zB rfl<|sk_ zB rfl<|pT zB rfl<|rf 2 (or_t (e:=vA.2.2 != 0) zB) rfl k
    ·exact gc_ zB rfl<|m_ rfl<|gc_ zB rfl<|b_ rfl<|pF zB rfl<|rf 2 (or_f zB) rfl k
end Go.Proofs.YtobbmodjdkcdcaaGreatDoor

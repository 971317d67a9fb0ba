import Derived.Test.YtdkfkpbijdimkaaGreatDoorTa3
set_option linter.unusedVariables false
set_option linter.unusedSimpArgs false
set_option maxRecDepth 20000
namespace Go.Proofs.YtdkfkpbijdimkaaGreatDoor
open Go Go.Sim Go.ChangeShapes Go.WideShapes Go.ChangeAt Go.RowKit
set_option linter.unusedSectionVars false
variable [Fu]
noncomputable def cg (a0:List (List Int)) (a1:List (List Int)) (a2:List Int):Option ((List Int)×Int):=
 bif ((decide ((a0.length:Int)<1))||(decide ((a0.length:Int)>8)))||((a1.length:Int) != (a0.length:Int)) then
  some ([],80)
 else
  (((Loop.run (S := Int) (R := (Unit ⊕ ((List Int) × Int))) (fun yA =>
    bif decide (yA<(a0.length:Int)) then
     (idx a0 yA).bind fun bA=>
     bif (bA.length:Int) != 32 then
      some (.done (.inr ([],2)))
     else
      some (.next (IntKind.wrap .i64 (yA+1)))
    else
     some (.done (.inl ()))) 0).bind fun vA=>match vA with
   | .inl _=>
    some (.inr ())
   | .inr z=>
    some (.inl z)
   : Option (((List Int) × Int) ⊕ Unit))).bind fun qA => match qA with
   | .inl z=>
    some z
   | .inr _=>
    bif decide ((a2.length:Int)>48) then
     some ([],1)
    else
     (((Loop.run (S := ((List Int) × Int)) (R := ((List Int) ⊕ ((List Int) × Int))) (fun (hA, xA) =>
       bif decide (xA≥0) then
        (idx a0 xA).bind fun oA=>
        (idx a1 xA).bind fun kA=>
        (bq oA kA (IntKind.wrap .i64 ((a0.length:Int) - xA)) hA).bind fun zA=>
        bif zA.2 != 0 then
         some (.done (.inr ([],zA.2)))
        else
         some (.next (zA.1,IntKind.wrap .i64 (xA - 1)))
       else
        some (.done (.inl hA))) (a2,IntKind.wrap .i64 ((a0.length:Int) - 1))).bind fun dA=>match dA with
      | .inl eA=>
       some (.inr eA)
      | .inr z=>
       some (.inl z)
      : Option (((List Int) × Int) ⊕ (List Int)))).bind fun rA => match rA with
      | .inl z=>
       some z
      | .inr wA=>
       (be wA).bind fun cA=>
       some (cA.1,cA.2)
theorem o84 {a0 a1:List (List Int)} {a2:List Int} {r0:((List Int)×Int)} (hF:cg a0 a1 a2=some r0) (L:List Res):Ok Tryz.prog 23 [SV.val K1 a0,SV.val K0 a1,SV.val K8 a2] L (SV.tup [SV.val K8 r0.1,SV.raw (.int .i64 r0.2)]) L:=by
 unfold cg at hF
 refine okI 73 Tryz.func23 rfl rfl rfl fun F0=>?_
 refine sr<|a_ rfl<|a_ rfl<|ns<|m_ rfl<|oN Tryz.underlying22 rfl<|a_ rfl<|nt<|sq<|sr<|mb rfl<|m_ rfl<|ej 21 ((decide ((a0.length:Int)<1))||(decide ((a0.length:Int)>8))) ?_ (fun k=>?_)
 ·refine m_ rfl<|nK 27 (((decide ((a0.length:Int)<1))||(decide ((a0.length:Int)>8)))||((a1.length:Int) != (a0.length:Int))) ?_ (fun k=>?_)
  ·refine nt<|it hF rfl (fun hF=>?_) (fun hF=>?_)
   ·refine sr<|a_ rfl<|a_ rfl<|nt<|rt<|tV (K:=kSl K10) (x:=[]) (t:=6) rfl rdN ?_
    cases osi hF
    exact rs Tryz.results23 (.tm rfl (.tm rfl .nil)) rfl rfl
   ·refine bs hF fun uA cA hF=>ct<|sq<|Under.after (fun X=>∀(_:Unit),uA=(.inr ())→Under F0 73 [(0,.val K1 a0),(1,.val K0 a1),(2,.val K8 a2),(8,.raw (.int .i64 (a0.length:Int)))] (L) X) ?_ ?_
    ·intro _ hA
     replace hA:=hA.symm
     subst hA
     refine sq<|sr<|m_ rfl<|oN Tryz.underlying24 rfl<|b_ rfl<|nt<|it hF rfl (fun hF=>?_) (fun hF=>?_)
     ·refine sr<|a_ rfl<|a_ rfl<|nt<|rt<|tV (K:=kSl K10) (x:=[]) (t:=6) rfl rdN ?_
      cases osi hF
      exact rs Tryz.results23 (.tm rfl (.tm rfl .nil)) rfl rfl
     ·refine bs hF fun xB qA hF=>ct<|sr<|m_ rfl<|a_ rfl<|nt<|sq<|Under.after (fun X=>∀(rA:List Int),xB=(.inr rA)→Under F0 73 [(10,.val K8 rA)] (L) X) ?_ ?_
      ·intro rA bA
       replace bA:=bA.symm
       subst bA
       refine bs hF fun gB yB hF=>sr<|m_ rfl<|cx Tryz.call44 rfl (o83 yB _)<|oE rfl<|oE rfl<|a_ rfl<|a_ rfl<|nt<|rc ?_
       cases osi hF
       exact rs Tryz.results23 (.tm rfl (.tm rfl .nil)) rfl rfl
      ·intro K zB
       refine bs qA fun hB wA qA=>sr<|mb rfl<|a_ rfl<|nt<|bk<|lp wA () (fun zA oA=>[(0,.val K1 a0),(1,.val K0 a1),(8,.raw (.int .i64 (a0.length:Int))),(10,.val K8 zA.1),(11,.raw (.int .i64 zA.2))]) (fun zA oA=>L) rfl rfl fun zA oA bB xA kA=>?_
       obtain⟨vB,oB⟩:=zA
       dsimp only at xA⊢
       refine sq<|sr<|mb rfl<|nt<|it xA rfl (fun xA=>?_) (fun xA=>?_)
       ·refine bs xA fun kB gA xA=>bs xA fun dB mA xA=>bs xA fun eB nA xA=>ct<|sq<|bk<|sq<|ph rfl<|gV [0,1,2,3,4,5,6,7,8,9,10,11] [[0],[11],[50,51],[52],[1],[11],[54,55],[56],[8],[11],[58,59],[10]] 0 (by kernel_rfl) rfl<|vm_ rfl<|vm_ rfl<|vo (fun _=>OpV.ixS gA Tryz.underlying22 sz24 rfl rdV rfl) rfl<|vo (fun _=>OpV.ld kt24 rfl) rfl<|vm_ rfl<|vm_ rfl<|vo (fun _=>OpV.ixS mA Tryz.underlying23 sz108 rfl rdV rfl) rfl<|vo (fun _=>OpV.ld kt108 rfl) rfl<|vm_ rfl<|vm_ rfl<|vb_ rfl<|vm_ rfl<|vn<|p1 12 rfl rfl<|cx Tryz.call43 rfl (o81 nA _)<|pn<|p1 13 rfl rfl<|m_ rfl<|pn<|gV [14,15,16] [[49],[49],[63]] 0 (by kernel_rfl) rfl<|vo (fun _=>OpV.extr rfl rfl) rfl<|vo (fun _=>OpV.extr rfl rfl) rfl<|Vq.v (fun G T hG=>a_ rfl<|Vq.end rfl)<|vn<|p1 17 rfl rfl<|a_ rfl<|pn<|pd rfl<|tn<|sq<|sr<|mb rfl<|nt<|it xA rfl (fun xA=>?_) (fun xA=>?_)
        ·refine sr<|m_ rfl<|a_ rfl<|a_ rfl<|nt<|rt<|Under.bR<|tr ?_
         cases ah xA kA
         refine tr<|Under.bR<|tr ?_
         cases osi qA
         refine tV (K:=kSl K10) (x:=[]) (t:=6) rfl rdN ?_
         cases osi hF
         exact rs Tryz.results23 (.tm rfl (.tm rfl .nil)) rfl rfl
        ·exact ct<|rg<|m_ rfl<|a_ rfl<|nl<|bN<|tn<|rg<|mb rfl<|a_ rfl<|nl<|nx () xA rfl rfl
       ·refine xt<|te ?_
        cases ah xA kA
        exact te<|bh<|tn<|wr (zB _ (osi qA).symm) rfl
    ·intro K cB
     refine bs cA fun qB pA cA=>sr<|a_ rfl<|nt<|bk<|lp pA () (fun vA dA=>[(0,.val K1 a0),(1,.val K0 a1),(2,.val K8 a2),(8,.raw (.int .i64 (a0.length:Int))),(9,.raw (.int .i64 vA))]) (fun vA dA=>L) rfl rfl fun vA dA rB yA eA=>?_
     refine sq<|sr<|m_ rfl<|mb rfl<|nt<|it yA rfl (fun yA=>?_) (fun yA=>?_)
     ·refine bs yA fun wB tA yA=>ct<|sq<|bk<|sr<|m_ rfl<|m_ rfl<|oS tA Tryz.underlying22 sz24 rfl<|oL kt24 rfl<|oN Tryz.underlying24 rfl<|b_ rfl<|nt<|it yA rfl (fun yA=>?_) (fun yA=>?_)
      ·refine sr<|a_ rfl<|a_ rfl<|nt<|rc<|Under.bR<|tr ?_
       cases ah yA eA
       refine tr<|Under.bR<|tr ?_
       cases osi cA
       refine tV (K:=kSl K10) (x:=[]) (t:=6) rfl rdN ?_
       cases osi hF
       exact rs Tryz.results23 (.tm rfl (.tm rfl .nil)) rfl rfl
      ·exact cs<|bN<|tn<|rg<|mb rfl<|a_ rfl<|nl<|nx () yA rfl rfl
     ·refine xt<|te ?_
      cases ah yA eA
      exact te<|bh<|tn<|wr (cB () (osi cA).symm) rfl
  ·refine by_ (t:=22) rfl (fun c4=>?_) (fun c4=>?_)
   ·exact sk_ c4 rfl<|sk_ c4 rfl<|sk_ c4 rfl<|sk_ c4 rfl<|pT c4 rfl<|rf 4 (or_t (e:=(a1.length:Int) != (a0.length:Int)) c4) rfl k
   ·exact gc_ c4 rfl<|m_ rfl<|gc_ c4 rfl<|oN Tryz.underlying23 rfl<|gc_ c4 rfl<|m_ rfl<|gc_ c4 rfl<|b_ rfl<|pF c4 rfl<|rf 4 (or_f c4) rfl k
 ·refine by_ (t:=18) rfl (fun c1=>?_) (fun c1=>?_)
  ·exact sk_ c1 rfl<|sk_ c1 rfl<|pT c1 rfl<|rf 2 (or_t (e:=decide ((a0.length:Int)>8)) c1) rfl k
  ·exact gc_ c1 rfl<|m_ rfl<|gc_ c1 rfl<|b_ rfl<|pF c1 rfl<|rf 2 (or_f c1) rfl k
noncomputable def bJ (a0:List (List Int)) (a1:Int) (a2:List (List Int)) (a3:List Int):Option ((List Int)×Int):=
 (((Loop.run (S := ((List (List Int)) × Int)) (R := ((List (List Int)) ⊕ ((List Int) × Int))) (fun (zA, xA) =>
   bif decide (xA<(a0.length:Int)) then
    (idx a0 xA).bind fun bA=>
    (cn bA a1).bind fun yA=>
    bif yA.2 != 0 then
     some (.done (.inr ([],yA.2)))
    else
     (app zA [yA.1]).bind fun vA=>
     some (.next (vA,IntKind.wrap .i64 (xA+1)))
   else
    some (.done (.inl zA))) ([],0)).bind fun oA=>match oA with
  | .inl kA=>
   some (.inr kA)
  | .inr z=>
   some (.inl z)
  : Option (((List Int) × Int) ⊕ (List (List Int))))).bind fun dA => match dA with
  | .inl z=>
   some z
  | .inr eA=>
   (cg eA a2 a3).bind fun hA=>
   some (hA.1,hA.2)
theorem o85 {a0:List (List Int)} {a1:Int} {a2:List (List Int)} {a3:List Int} {r0:((List Int)×Int)} (hF:bJ a0 a1 a2 a3=some r0) (L:List Res):Ok Tryz.prog 8 [SV.val K1 a0,SV.raw (.int .i64 a1),SV.val K0 a2,SV.val K8 a3] L (SV.tup [SV.val K8 r0.1,SV.raw (.int .i64 r0.2)]) L:=by
 unfold bJ at hF
 refine okI 41 Tryz.func8 rfl rfl rfl fun F0=>?_
 refine bs hF fun kA hA hF=>sr<|a_ rfl<|a_ rfl<|ns<|a_ rfl<|nt<|sq<|Under.after (fun X=>∀(vA:List (List Int)),kA=(.inr vA)→Under F0 41 [(2,.val K0 a2),(3,.val K8 a3),(10,.val K1 vA)] (L) X) ?_ ?_
 ·intro vA yA
  replace yA:=yA.symm
  subst yA
  refine bs hF fun nA dA hF=>sr<|m_ rfl<|m_ rfl<|m_ rfl<|cx Tryz.call23 rfl (o84 dA _)<|oE rfl<|oE rfl<|a_ rfl<|a_ rfl<|nt<|rc ?_
  cases osi hF
  exact rs Tryz.results8 (.tm rfl (.tm rfl .nil)) rfl rfl
 ·intro K eA
  refine bs hA fun pA cA hA=>sr<|m_ rfl<|oN Tryz.underlying22 rfl<|m_ rfl<|nt<|bk<|Under.ownNil (K:=kSl K10) (e:=24)<|lp cA (C:=Value) (.slice none 0 0) (fun zA bA=>[(1,.raw (.int .i64 a1)),(2,.val K0 a2),(3,.val K8 a3),(10,.raw bA),(15,.val K1 a0),(16,.raw (.int .i64 (a0.length:Int))),(17,.raw (.int .i64 zA.2))]) (fun zA bA=>(.own K8 bA 24 zA.1)::L) rfl rfl fun zA bA tA xA oA=>?_
  obtain⟨uA,xB⟩:=zA
  dsimp only at xA⊢
  refine sr<|b_ rfl<|nt<|sq<|it xA rfl (fun xA=>?_) (fun xA=>?_)
  ·refine bs xA fun yB qA xA=>bs xA fun rA wA xA=>ct<|sq<|bk<|sr<|oS qA Tryz.underlying22 sz24 rfl<|oL kt24 rfl<|a_ rfl<|ns<|m_ rfl<|m_ rfl<|cx Tryz.call22 rfl (o68 wA _)<|m_ rfl<|oE rfl<|oE rfl<|a_ rfl<|a_ rfl<|nt<|sq<|sr<|mb rfl<|nt<|it xA rfl (fun xA=>?_) (fun xA=>?_)
   ·refine dr<|sr<|m_ rfl<|a_ rfl<|a_ rfl<|nt<|rt<|Under.bR<|tr ?_
    cases ah xA oA
    refine tr<|Under.bR<|tr ?_
    cases osi hA
    refine tV (K:=kSl K10) (x:=[]) (t:=8) rfl rdN ?_
    cases osi hF
    exact rs Tryz.results8 (.tm rfl (.tm rfl .nil)) rfl rfl
   ·exact bs xA fun zB gA xA=>ct<|rg<|m_ rfl<|m_ rfl<|bF (ys:=[rA.1]) Tryz.underlying22 ET24 (BldA.cons rfl rfl rdV (BldA.nil _)) rfl rfl<|ap gA Tryz.underlying22 AT24 rfl rfl rdV rfl fun mA=>a_ rfl<|nl<|bN<|tn<|rg<|b_ rfl<|m_ rfl<|nl<|nx mA xA rfl rfl
  ·refine fzO (t:=10) rfl<|xt<|te ?_
   cases ah xA oA
   exact te<|bh<|tn<|wr (eA _ (osi hA).symm) rfl
noncomputable def cQ (a0:List (List Int)) (a1:Int) (a2:List (List Int)) (a3:List Int) (a4:List Int):Option ((List Int)×Int):=
 (bj a3 a4).bind fun y1=>
 bif y1.2 != 0 then
  some ([],y1.2)
 else
  (bJ a0 a1 a2 y1.1).bind fun y4=>
  some (y4.1,y4.2)
theorem o86 {a0:List (List Int)} {a1:Int} {a2:List (List Int)} {a3 a4:List Int} {r0:((List Int)×Int)} (hF:cQ a0 a1 a2 a3 a4=some r0) (L:List Res):Ok Tryz.prog 16 [SV.val K1 a0,SV.raw (.int .i64 a1),SV.val K0 a2,SV.val (kArr 8 K10) a3,SV.val K8 a4] L (SV.tup [SV.val K8 r0.1,SV.raw (.int .i64 r0.2)]) L:=by
 unfold cQ at hF
 refine okI 30 Tryz.func16 rfl rfl rfl fun F0=>?_
 refine bs hF fun y1 h2 hF=>sr<|bX (K:=kArr 8 K10) rfl rdV rfl<|a_ rfl<|a_ rfl<|ns<|oL kt44 rfl<|m_ rfl<|cx Tryz.call34 rfl (o57 h2 _)<|m_ rfl<|oE rfl<|oE rfl<|a_ rfl<|a_ rfl<|nt<|sq<|sr<|mb rfl<|nt<|it hF rfl (fun hF=>?_) (fun hF=>?_)
 ·refine sr<|m_ rfl<|a_ rfl<|a_ rfl<|nt<|rt<|tV (K:=kSl K10) (x:=[]) (t:=10) rfl rdN ?_
  cases osi hF
  exact rs Tryz.results16 (.tm rfl (.tm rfl .nil)) rfl rfl
 ·refine bs hF fun y4 h5 hF=>ct<|sr<|m_ rfl<|m_ rfl<|m_ rfl<|m_ rfl<|cx Tryz.call8 rfl (o85 h5 _)<|oE rfl<|oE rfl<|a_ rfl<|a_ rfl<|nt<|rc ?_
  cases osi hF
  exact rs Tryz.results16 (.tm rfl (.tm rfl .nil)) rfl rfl
noncomputable def aZ (a0:ay):Option Bool:=
 (bU).bind fun y1=>
 bif !y1 then
  some false
 else
  (cQ a0.Masters a0.Epoch a0.Nonces a0.Name a0.Message).bind fun y4=>
  (ed a0.Masters a0.Epoch a0.Nonces a0.Name a0.Message).bind fun y6=>
  some ((y6.2==y4.2)&&((strB y6.1)==(strB y4.1)))
theorem o87 {a0:ay} {r0:Bool} (hF:aZ a0=some r0) (L:List Res):Ok Tryz.prog 5 [SV.val bQ a0] L (SV.raw (.bool r0)) L:=by
 unfold aZ at hF
 refine okI 47 Tryz.func5 rfl rfl rfl fun F0=>?_
 refine bs hF fun y1 h2 hF=>sr<|bX (K:=bQ) rfl rdV rfl<|a_ rfl<|nt<|sq<|sr<|cx Tryz.call15 rfl (o56 h2 _)<|ov (OpV.not rfl) rfl<|nt<|it hF rfl (fun hF=>?_) (fun hF=>?_)
 ·refine sr<|a_ rfl<|nt<|rt ?_
  cases osi hF
  exact rs Tryz.results5 (.tm rfl .nil) rfl rfl
 ·refine bs hF fun y4 h5 hF=>bs hF fun y6 h7 hF=>ct<|sr<|oF fb46k rfl<|oL kt22 rfl<|oF fb46k1 rfl<|oI kt2 rfl<|oF fb46k2 rfl<|oL kt23 rfl<|oF fb46k3 rfl<|oL kt44 rfl<|oF fb46k4 rfl<|oL kt24 rfl<|cx Tryz.call16 rfl (o86 h5 _)<|m_ rfl<|oE rfl<|oE rfl<|a_ rfl<|a_ rfl<|ns<|oF fb46k rfl<|oL kt22 rfl<|oF fb46k1 rfl<|oI kt2 rfl<|oF fb46k2 rfl<|oL kt23 rfl<|oF fb46k3 rfl<|oL kt44 rfl<|oF fb46k4 rfl<|oL kt24 rfl<|cx Tryz.call17 rfl (o55 h7 _)<|m_ rfl<|oE rfl<|oE rfl<|a_ rfl<|a_ rfl<|ns<|m_ rfl<|mb rfl<|m_ rfl<|kJ 46 ((y6.2==y4.2)&&((strB y6.1)==(strB y4.1))) ?_ (fun k=>?_)
  ·refine a_ rfl<|nt<|rc ?_
   cases osi hF
   exact rs Tryz.results5 (.tm rfl .nil) rfl rfl
  ·refine by_ (t:=40) rfl (fun c8=>?_) (fun c8=>?_)
   ·exact gc_ c8 rfl<|m_ rfl<|gc_ c8 rfl<|ov (OpV.b2s Tryz.underlying24 Tryz.underlying5 Tryz.underlying9 rfl rdV) rfl<|gc_ c8 rfl<|m_ rfl<|gc_ c8 rfl<|ov (OpV.b2s Tryz.underlying24 Tryz.underlying5 Tryz.underlying9 rfl rdV) rfl<|gc_ c8 rfl<|ov (OpV.eqS Tryz.underlying9 rfl rdV rfl rdV (.inl rfl)) rfl<|pT c8 rfl<|rf 5 (iu c8) rfl k
   ·exact sk_ c8 rfl<|sk_ c8 rfl<|sk_ c8 rfl<|sk_ c8 rfl<|sk_ c8 rfl<|pF c8 rfl<|rf 5 (iw (e:=(strB y6.1)==(strB y4.1)) c8) rfl k
end Go.Proofs.YtdkfkpbijdimkaaGreatDoor

import Derived.Test.YtobbmodjdkcdcaaGreatDoorBr5
set_option linter.unusedVariables false
set_option linter.unusedSimpArgs false
set_option maxRecDepth 20000
namespace Go.Proofs.YtobbmodjdkcdcaaGreatDoor
open Go Go.Sim Go.ChangeShapes Go.WideShapes Go.ChangeAt Go.RowKit
set_option linter.unusedSectionVars false
variable [Fu]
noncomputable def bq (a0:List Int) (a1:Int) (a2:Int):Option Int:=
 (((Loop.run (S := (Int × Int)) (R := (Int ⊕ Int)) (fun (xA, yA) =>
   bif decide (yA<(IntKind.wrap .i64 (a1+a2))) then
    bif decide (xA≥36028797018963968) then
     some (.done (.inr (-1)))
    else
     (idx a0 yA).bind fun zA=>
     some (.next (IntKind.wrap .i64 ((IntKind.wrap .i64 (xA*256))+(IntKind.wrap .i64 zA)),IntKind.wrap .i64 (yA+1)))
   else
    some (.done (.inl xA))) (0,a1)).bind fun hA=>match hA with
  | .inl bA=>
   some (.inr bA)
  | .inr z=>
   some (.inl z)
  : Option (Int ⊕ Int))).bind fun vA => match vA with
  | .inl z=>
   some z
  | .inr x23=>
   some x23
theorem o121 {a0:List Int} {a1 a2:Int} {r0:Int} (hF:bq a0 a1 a2=some r0) (L:List Res):Ok Tryz.prog 172 [SV.val K9 a0,SV.raw (.int .i64 a1),SV.raw (.int .i64 a2)] L (SV.raw (.int .i64 r0)) L:=by
 unfold bq at hF
 refine okI 28 Tryz.func172 rfl rfl rfl fun F0=>?_
 refine bs hF fun kA zA hF=>sr<|a_ rfl<|ns<|a_ rfl<|nt<|sq<|Under.after (fun X=>∀(hA:Int),kA=(.inr hA)→Under F0 28 [(7,.raw (.int .i64 hA))] (L) X) ?_ ?_
 ·intro hA bA
  replace bA:=bA.symm
  subst bA
  refine sr<|m_ rfl<|a_ rfl<|nt<|rc ?_
  cases osi hF
  exact rs Tryz.results172 (.tm rfl .nil) rfl rfl
 ·intro K dA
  refine bs zA fun qA eA zA=>sr<|m_ rfl<|a_ rfl<|nt<|bk<|lp eA () (fun yA vA=>[(0,.val K9 a0),(1,.raw (.int .i64 a1)),(2,.raw (.int .i64 a2)),(7,.raw (.int .i64 yA.1)),(8,.raw (.int .i64 yA.2))]) (fun yA vA=>L) rfl rfl fun yA vA rA xA oA=>?_
  obtain⟨wA,gA⟩:=yA
  dsimp only at xA⊢
  refine sq<|sr<|m_ rfl<|m_ rfl<|mb rfl<|b_ rfl<|nt<|it xA rfl (fun xA=>?_) (fun xA=>?_)
  ·refine ct<|sq<|bk<|sq<|sr<|mb rfl<|nt<|it xA rfl (fun xA=>?_) (fun xA=>?_)
   ·refine sr<|a_ rfl<|nt<|rt<|Under.bR<|tr ?_
    cases ai xA oA
    refine tr<|Under.bR<|tr ?_
    cases osi zA
    cases osi hF
    exact rs Tryz.results172 (.tm rfl .nil) rfl rfl
   ·exact bs xA fun mA cA xA=>ct<|rg<|mb rfl<|m_ rfl<|m_ rfl<|oS cA Tryz.underlying22 sz5 rfl<|oI kt5 rfl<|oC (by kernel_rfl) Tryz.underlying3 rfl<|b_ rfl<|a_ rfl<|nl<|bN<|tn<|rg<|mb rfl<|a_ rfl<|nl<|nx () xA rfl rfl
  ·refine xt<|te ?_
   cases ai xA oA
   exact te<|bh<|tn<|wr (dA _ (osi zA).symm) rfl
noncomputable def cb (a0:List Int) (a1:Int):Option Int:=
 ((bif a1==0 then
  (sub a0 0 4).bind fun zA=>
  bif (strB zA) != [67,72,82,78] then
   some (.inl 60)
  else
   some (.inr ())
 else
  bif a1==4 then
   (idx a0 4).bind fun hA=>
   bif hA != 1 then
    some (.inl 61)
   else
    some (.inr ())
  else
   bif a1==5 then
    (idx a0 5).bind fun bA=>
    bif decide (bA>8) then
     some (.inl 62)
    else
     some (.inr ())
   else
    bif a1==6 then
     (bq a0 6 2).bind fun vA=>
     bif decide (vA>256) then
      some (.inl 63)
     else
      some (.inr ())
    else
     bif a1==8 then
      (bq a0 8 8).bind fun xA=>
      bif (decide (xA<0))||(decide (xA≥4611686018427387904)) then
       some (.inl 62)
      else
       some (.inr ())
     else
      bif a1==16 then
       (bq a0 16 8).bind fun yA=>
       bif (decide (yA<0))||(decide (yA>4611686018427387904)) then
        some (.inl 62)
       else
        some (.inr ())
      else
       some (.inr ())
  : Option (Int ⊕ Unit))).bind fun oA => match oA with
  | .inl z=>
   some z
  | .inr _=>
   some 0
theorem o122 {a0:List Int} {a1:Int} {r0:Int} (hF:cb a0 a1=some r0) (L:List Res):Ok Tryz.prog 171 [SV.val K9 a0,SV.raw (.int .i64 a1)] L (SV.raw (.int .i64 r0)) L:=by
 unfold cb at hF
 refine okI 51 Tryz.func171 rfl rfl rfl fun F0=>?_
 refine bs hF fun kA xA hF=>sr<|a_ rfl<|nt<|sq<|Under.after (fun X=>∀(_:Unit),kA=(.inr ())→Under F0 51 [] (L) X) ?_ ?_
 ·intro _ bA
  replace bA:=bA.symm
  subst bA
  refine sr<|a_ rfl<|nt<|rc ?_
  cases osi hF
  exact rs Tryz.results171 (.tm rfl .nil) rfl rfl
 ·intro K hA
  refine sr<|m_ rfl<|nt<|bk<|sr<|b_ rfl<|a_ rfl<|nt<|it xA rfl (fun xA=>?_) (fun xA=>?_)
  ·refine bs xA fun gA dA xA=>sr<|m_ rfl<|ov (OpV.slH dA Tryz.underlying22 sz5 rfl rdV rfl) rfl<|ov (OpV.b2s Tryz.underlying22 Tryz.underlying5 Tryz.underlying9 rfl rdV) rfl<|ov (OpV.eqS Tryz.underlying9 rfl rdV rfl s9 (.inr rfl)) rfl<|nt<|it xA rfl (fun xA=>?_) (fun xA=>?_)
   ·refine sr<|a_ rfl<|nt<|rc<|Under.bR<|tr ?_
    cases osi xA
    cases osi hF
    exact rs Tryz.results171 (.tm rfl .nil) rfl rfl
   ·exact cs<|bN<|tn<|wr (hA () (osi xA).symm) rfl
  ·refine sr<|b_ rfl<|a_ rfl<|nt<|it xA rfl (fun xA=>?_) (fun xA=>?_)
   ·refine bs xA fun mA eA xA=>sr<|m_ rfl<|oS eA Tryz.underlying22 sz5 rfl<|oI kt5 rfl<|b_ rfl<|nt<|it xA rfl (fun xA=>?_) (fun xA=>?_)
    ·refine sr<|a_ rfl<|nt<|rc<|Under.bR<|tr ?_
     cases osi xA
     cases osi hF
     exact rs Tryz.results171 (.tm rfl .nil) rfl rfl
    ·exact cs<|bN<|tn<|wr (hA () (osi xA).symm) rfl
   ·refine sr<|b_ rfl<|a_ rfl<|nt<|it xA rfl (fun xA=>?_) (fun xA=>?_)
    ·refine bs xA fun nA cA xA=>sr<|m_ rfl<|oS cA Tryz.underlying22 sz5 rfl<|oI kt5 rfl<|b_ rfl<|nt<|it xA rfl (fun xA=>?_) (fun xA=>?_)
     ·refine sr<|a_ rfl<|nt<|rc<|Under.bR<|tr ?_
      cases osi xA
      cases osi hF
      exact rs Tryz.results171 (.tm rfl .nil) rfl rfl
     ·exact cs<|bN<|tn<|wr (hA () (osi xA).symm) rfl
    ·refine sr<|b_ rfl<|a_ rfl<|nt<|it xA rfl (fun xA=>?_) (fun xA=>?_)
     ·refine bs xA fun pA qA xA=>sr<|m_ rfl<|cx Tryz.call172 rfl (o121 qA _)<|b_ rfl<|nt<|it xA rfl (fun xA=>?_) (fun xA=>?_)
      ·refine sr<|a_ rfl<|nt<|rc<|Under.bR<|tr ?_
       cases osi xA
       cases osi hF
       exact rs Tryz.results171 (.tm rfl .nil) rfl rfl
      ·exact cs<|bN<|tn<|wr (hA () (osi xA).symm) rfl
     ·refine sr<|b_ rfl<|a_ rfl<|nt<|it xA rfl (fun xA=>?_) (fun xA=>?_)
      ·refine bs xA fun vA rA xA=>sr<|m_ rfl<|cx Tryz.call172 rfl (o121 rA _)<|a_ rfl<|ns<|mb rfl<|m_ rfl<|cN 40 ((decide (vA<0))||(decide (vA≥4611686018427387904))) ?_ (fun k=>?_)
       ·refine nt<|it xA rfl (fun xA=>?_) (fun xA=>?_)
        ·refine sr<|a_ rfl<|nt<|rc<|Under.bR<|tr ?_
         cases osi xA
         cases osi hF
         exact rs Tryz.results171 (.tm rfl .nil) rfl rfl
        ·exact cs<|bN<|tn<|wr (hA () (osi xA).symm) rfl
       ·refine by_ (t:=37) rfl (fun yA=>?_) (fun yA=>?_)
        ·exact sk_ yA rfl<|sk_ yA rfl<|pT yA rfl<|rf 2 (or_t (e:=decide (vA≥4611686018427387904)) yA) rfl k
        ·exact gc_ yA rfl<|m_ rfl<|gc_ yA rfl<|b_ rfl<|pF yA rfl<|rf 2 (or_f yA) rfl k
      ·refine sr<|b_ rfl<|a_ rfl<|nt<|it xA rfl (fun xA=>?_) (fun xA=>?_)
       ·refine bs xA fun oA wA xA=>sr<|m_ rfl<|cx Tryz.call172 rfl (o121 wA _)<|a_ rfl<|ns<|mb rfl<|m_ rfl<|cN 50 ((decide (oA<0))||(decide (oA>4611686018427387904))) ?_ (fun k=>?_)
        ·refine nt<|it xA rfl (fun xA=>?_) (fun xA=>?_)
         ·refine sr<|a_ rfl<|nt<|rc<|Under.bR<|tr ?_
          cases osi xA
          cases osi hF
          exact rs Tryz.results171 (.tm rfl .nil) rfl rfl
         ·exact cs<|bN<|tn<|wr (hA () (osi xA).symm) rfl
        ·refine by_ (t:=47) rfl (fun zA=>?_) (fun zA=>?_)
         ·exact sk_ zA rfl<|sk_ zA rfl<|pT zA rfl<|rf 2 (or_t (e:=decide (oA>4611686018427387904)) zA) rfl k
         ·exact gc_ zA rfl<|m_ rfl<|gc_ zA rfl<|b_ rfl<|pF zA rfl<|rf 2 (or_f zA) rfl k
       ·exact cs<|bN<|tn<|wr (hA () (osi xA).symm) rfl
noncomputable def ei (a0:List Int):Option (List Int):=
 (app [] a0).bind fun z1=>
 some z1
theorem o123 {a0:List Int} {r0:(List Int)} (hF:ei a0=some r0) (L:List Res):Ok Tryz.prog 173 [SV.val K9 a0] L (SV.val K9 r0) L:=by
 unfold ei at hF
 refine okI 8 Tryz.func173 rfl rfl rfl fun F0=>?_
 refine bs hF fun z1 h2 hF=>sr<|a_ rfl<|ns<|a_ rfl<|ns<|m_ rfl<|m_ rfl<|Under.ownNil (K:=kInt .u8) (e:=5)<|ap h2 Tryz.underlying22 AT5 rfl rfl rdV rfl fun v3=>a_ rfl<|nl<|fzO (t:=3) rfl<|tn<|sr<|m_ rfl<|a_ rfl<|nt<|rc ?_
 cases osi hF
 exact rs Tryz.results173 (.tm rfl .nil) rfl rfl
noncomputable def cn (a0:Int) (a1:Int):Option (List Int):=
 (((Loop.run (S:=((List Int)×Int)) (R:=(List Int)) (fun(yA,xA)=>
   bif decide (xA≥0) then
    bif decide (0≤(IntKind.wrap .i64 (8*xA))) then
    (app yA [IntKind.wrap .u8 (shrI .i64 a0 (IntKind.wrap .i64 (8*xA)))]).bind fun zA=>
    some (.next (zA,IntKind.wrap .i64 (xA - 1)))
    else none
   else
    some (.done yA)) ([],IntKind.wrap .i64 (a1 - 1))).bind fun hA=>
 some hA
  :Option (List Int))).bind fun bA=>
 some bA
theorem o124 {a0 a1:Int} {r0:(List Int)} (hF:cn a0 a1=some r0) (L:List Res):Ok Tryz.prog 86 [SV.raw (.int .i64 a0),SV.raw (.int .i64 a1)] L (SV.val K9 r0) L:=by
 unfold cn at hF
 refine okI 22 Tryz.func86 rfl rfl rfl fun F0=>?_
 refine bs hF fun zA bA hF=>sr<|a_ rfl<|ns<|a_ rfl<|nt<|sq<|afr (r:=zA) (fun zA=>[(5,.val K9 zA)]) (fun zA=>(L)) ?_ fun K vA=>?_
 ·refine sr<|m_ rfl<|a_ rfl<|nt<|rc ?_
  cases osi hF
  exact rs Tryz.results86 (.tm rfl .nil) rfl rfl
 ·refine bs bA fun rA oA bA=>sr<|mb rfl<|a_ rfl<|nt<|bk<|Under.ownNil (K:=kInt .u8) (e:=5)<|lp oA (C:=Value) (.slice none 0 0) (fun yA hA=>[(0,.raw (.int .i64 a0)),(5,.raw hA),(6,.raw (.int .i64 yA.2))]) (fun yA hA=>(.own K12 hA 5 yA.1)::L) rfl rfl fun yA hA wA xA kA=>?_
  obtain⟨gA,dA⟩:=yA
  dsimp only at xA⊢
  refine sq<|sr<|mb rfl<|nt<|it xA rfl (fun xA=>?_) (fun xA=>?_)
  ·exact gs xA fun eA xA=>bs xA fun mA cA xA=>ct<|sq<|bk<|rg<|m_ rfl<|m_ rfl<|mb rfl<|ov (OpV.sh rfl rfl (of_decide_eq_true eA) rfl) rfl<|oC (by kernel_rfl) Tryz.underlying5 rfl<|bF (ys:=[IntKind.wrap .u8 (shrI .i64 a0 (IntKind.wrap .i64 (8*dA)))]) Tryz.underlying22 ET5 (BldA.cons rfl rfl rdI (BldA.nil _)) rfl rfl<|ap cA Tryz.underlying22 AT5 rfl rfl rdV rfl fun qA=>a_ rfl<|nl<|bN<|tn<|rg<|mb rfl<|a_ rfl<|nl<|nx qA xA rfl rfl
  ·refine fzO (t:=5) rfl<|xt<|te ?_
   cases ai xA kA
   exact te<|bh<|tn<|wr (vA _ (osi bA).symm) rfl
noncomputable def dW (a0:List Int):Option (List Int):=
 (((Loop.run (S:=(Int×Int×Int)) (R:=(Int×Int)) (fun(xA,zA,yA)=>
   bif decide (yA<(a0.length:Int)) then
    (idx a0 yA).bind fun hA=>
    some (.next (Int.tmod (IntKind.wrap .i64 (xA+(IntKind.wrap .i64 hA))) 65521,Int.tmod (IntKind.wrap .i64 (zA+(Int.tmod (IntKind.wrap .i64 (xA+(IntKind.wrap .i64 hA))) 65521))) 65521,IntKind.wrap .i64 (yA+1)))
   else
    some (.done (xA,zA))) (1,0,0)).bind fun bA=>match bA with
  |(vA,oA)=>
   some (vA,oA)
  :Option (Int×Int))).bind fun kA=>match kA with
  |(dA,eA)=>
   (cn (IntKind.wrap .i64 ((IntKind.wrap .i64 (eA*65536))+dA)) 4).bind fun cA=>
   some cA
theorem o125 {a0:List Int} {r0:(List Int)} (hF:dW a0=some r0) (L:List Res):Ok Tryz.prog 87 [SV.val K9 a0] L (SV.val K9 r0) L:=by
 unfold dW at hF
 refine okI 29 Tryz.func87 rfl rfl rfl fun F0=>?_
 refine bs hF fun kA zA hF=>sr<|a_ rfl<|ns<|a_ rfl<|a_ rfl<|nt<|sq<|Under.after (fun X=>∀(hA:Int) (bA:Int),kA=(hA,bA)→Under F0 29 [(3,.raw (.int .i64 hA)),(4,.raw (.int .i64 bA))] (L) X) ?_ ?_
 ·intro hA bA vA
  replace vA:=vA.symm
  subst vA
  refine bs hF fun wA dA hF=>sr<|mb rfl<|mb rfl<|cx Tryz.call86 rfl (o124 dA _)<|a_ rfl<|nt<|rc ?_
  cases osi hF
  exact rs Tryz.results87 (.tm rfl .nil) rfl rfl
 ·intro K eA
  refine bs zA fun gA cA zA=>sr<|a_ rfl<|nt<|bk<|lp cA () (fun yA oA=>[(0,.val K9 a0),(3,.raw (.int .i64 yA.1)),(4,.raw (.int .i64 yA.2.1)),(5,.raw (.int .i64 yA.2.2))]) (fun yA oA=>L) rfl rfl fun yA oA mA xA qA=>?_
  obtain⟨nA,pA,tA⟩:=yA
  dsimp only at xA⊢
  refine sq<|sr<|m_ rfl<|m_ rfl<|oN Tryz.underlying22 rfl<|b_ rfl<|nt<|it xA rfl (fun xA=>?_) (fun xA=>?_)
  ·exact bs xA fun uA rA xA=>ct<|sq<|bk<|sr<|m_ rfl<|m_ rfl<|m_ rfl<|oS rA Tryz.underlying22 sz5 rfl<|oI kt5 rfl<|oC (by kernel_rfl) Tryz.underlying3 rfl<|b_ rfl<|ov (OpV.quo rfl rfl (by decide) rfl) rfl<|a_ rfl<|nt<|rg<|m_ rfl<|mb rfl<|ov (OpV.quo rfl rfl (by decide) rfl) rfl<|a_ rfl<|nl<|bN<|tn<|rg<|mb rfl<|a_ rfl<|nl<|nx () xA rfl rfl
  ·refine xt<|te ?_
   cases ai xA qA
   exact te<|bh<|tn<|wr (eA _ _ (osi zA).symm) rfl
noncomputable def da (a0:List Int) (a1:Int) (a2:ae):Option ae:=
 bif decide ((a0.length:Int)<(IntKind.wrap .i64 (a1+4))) then
  some ({({a2 with Place:=(a0.length:Int)}:ae) with Err:=67}:ae)
 else
  (sub a0 0 a1).bind fun x4=>
  (dW x4).bind fun y6=>
  (sub a0 a1 (IntKind.wrap .i64 (a1+4))).bind fun x8=>
  bif (strB x8) != (strB y6) then
   some ({({a2 with Place:=a1}:ae) with Err:=65}:ae)
  else
   ((bif decide ((a0.length:Int)>(IntKind.wrap .i64 (a1+4))) then
    some ({({a2 with Place:=IntKind.wrap .i64 (a1+4)}:ae) with Err:=66}:ae)
   else
    some a2
    :Option ae)).bind fun xA=>
   some xA
theorem o126 {a0:List Int} {a1:Int} {a2:ae} {r0:ae} (hF:da a0 a1 a2=some r0) (L:List Res):Ok Tryz.prog 174 [SV.val K9 a0,SV.raw (.int .i64 a1),SV.val be a2] L (SV.val be r0) L:=by
 unfold da at hF
 refine okI 45 Tryz.func174 rfl rfl rfl fun F0=>?_
 refine sr<|Under.bx (K:=be) rfl rdV rfl fun b1=>al ZT193 rfl fun b2=>nt<|sq<|sr<|m_ rfl<|oN Tryz.underlying22 rfl<|mb rfl<|b_ rfl<|nt<|it hF rfl (fun hF=>?_) (fun hF=>?_)
 ·refine sr<|m_ rfl<|oN Tryz.underlying22 rfl<|oM lM rfl<|f1<|sP (x':=({a2 with Place:=(a0.length:Int)}:ae)) .box (.fld .id fW) sz3k rfl rfl rdI rfl<|oM lN rfl<|sP (x':=({({a2 with Place:=(a0.length:Int)}:ae) with Err:=67}:ae)) .box (.fld .id fX) sz3k rfl rfl rdI rfl<|nl<|fz (t:=5) rfl<|tn<|sr<|oL kt193 rfl<|sP (x':=({({a2 with Place:=(a0.length:Int)}:ae) with Err:=67}:ae)) .box .id sz193k rfl rfl rdV rfl<|nl<|fz (t:=6) rfl<|tn<|rt ?_
  cases osi hF
  exact rs Tryz.results174 (.ce rfl kt193 .nil) rfl rfl
 ·refine bs hF fun x4 h5 hF=>bs hF fun y6 h7 hF=>bs hF fun x8 h9 hF=>ct<|sr<|m_ rfl<|m_ rfl<|ov (OpV.slH h5 Tryz.underlying22 sz5 rfl rdV rfl) rfl<|cx Tryz.call87 rfl (o125 h7 _)<|a_ rfl<|nt<|sq<|sq<|dw rfl (by kernel_rfl) fun F hF0=>mvq rfl rfl<|mvq rfl rfl<|mvq rfl rfl<|bnq rfl rfl rfl rfl<|oq (OpV.slLH h9 Tryz.underlying22 sz5 rfl rdV rfl rfl) rfl<|oq (OpV.b2s Tryz.underlying22 Tryz.underlying5 Tryz.underlying9 rfl rdV) rfl<|mvq rfl rfl<|oq (OpV.b2s Tryz.underlying22 Tryz.underlying5 Tryz.underlying9 rfl rdV) rfl<|oq (OpV.eqS Tryz.underlying9 rfl rdV rfl rdV (.inr rfl)) rfl<|nlq hF0<|tn<|it hF rfl (fun hF=>?_) (fun hF=>?_)
  ·refine sr<|m_ rfl<|oM lM rfl<|f1<|sP (x':=({a2 with Place:=a1}:ae)) .box (.fld .id fW) sz3k rfl rfl rdI rfl<|oM lN rfl<|sP (x':=({({a2 with Place:=a1}:ae) with Err:=65}:ae)) .box (.fld .id fX) sz3k rfl rfl rdI rfl<|nl<|fz (t:=5) rfl<|tn<|sr<|oL kt193 rfl<|sP (x':=({({a2 with Place:=a1}:ae) with Err:=65}:ae)) .box .id sz193k rfl rfl rdV rfl<|nl<|fz (t:=6) rfl<|tn<|rt ?_
   cases osi hF
   exact rs Tryz.results174 (.ce rfl kt193 .nil) rfl rfl
  ·refine bs hF fun xA yA hF=>ct<|sq<|afr (r:=xA) (fun xA=>[(5,.ptr be xA),(6,pb b2)]) (fun xA=>((.box be b2 193 (⟨false,(⟨(0:Int),(0:Int),(0:Int)⟩:ab),[],(0:Int),(0:Int)⟩:ae))::L)) ?_ fun K zA=>?_
   ·refine sr<|oL kt193 rfl<|sP (x':=xA) .box .id sz193k rfl rfl rdV rfl<|nl<|fz (t:=6) rfl<|tn<|rc ?_
    cases osi hF
    exact rs Tryz.results174 (.ce rfl kt193 .nil) rfl rfl
   ·refine sr<|m_ rfl<|oN Tryz.underlying22 rfl<|mb rfl<|b_ rfl<|nt<|it yA rfl (fun yA=>?_) (fun yA=>?_)
    ·exact rg<|mb rfl<|oM lM rfl<|f1<|sP (x':=({a2 with Place:=IntKind.wrap .i64 (a1+4)}:ae)) .box (.fld .id fW) sz3k rfl rfl rdI rfl<|oM lN rfl<|sP (x':=({({a2 with Place:=IntKind.wrap .i64 (a1+4)}:ae) with Err:=66}:ae)) .box (.fld .id fX) sz3k rfl rfl rdI rfl<|nl<|fz (t:=5) rfl<|tn<|wr (zA _ (osi yA).symm) rfl
    ·exact f1<|fz (t:=5) rfl<|ct<|wr (zA _ (osi yA).symm) rfl
noncomputable def ga (a0:List Int):Option ae:=
 (((Loop.run (S := (Int × Int)) (R := (Int ⊕ ae)) (fun (hA, yA) =>
   bif decide (yA<([4,5,6,8,16,24].length:Int)) then
    (idx [4,5,6,8,16,24] yA).bind fun oA=>
    bif decide ((a0.length:Int)<oA) then
     some (.done (.inr (⟨false,(⟨(0:Int),(0:Int),(0:Int)⟩:ab),[],(a0.length:Int),67⟩:ae)))
    else
     (cb a0 hA).bind fun bA=>
     bif bA != 0 then
      some (.done (.inr (⟨false,(⟨(0:Int),(0:Int),(0:Int)⟩:ab),[],hA,bA⟩:ae)))
     else
      (idx [4,5,6,8,16,24] yA).bind fun kA=>
      some (.next (kA,IntKind.wrap .i64 (yA+1)))
   else
    some (.done (.inl hA))) (0,0)).bind fun dA=>match dA with
  | .inl eA=>
   some (.inr eA)
  | .inr z=>
   some (.inl z)
  : Option (ae ⊕ Int))).bind fun vB => match vB with
  | .inl z=>
   some z
  | .inr oB=>
   (bq a0 8 8).bind fun cA=>
   (bq a0 16 8).bind fun qA=>
   (idx a0 5).bind fun rA=>
   (bq a0 6 2).bind fun kB=>
   (((Loop.run (S := (Int × Int × (List (List Int)))) (R := ((ae × Int) ⊕ ae)) (fun (xA, vA, zA) =>
     bif decide (vA<kB) then
      ((bif decide ((a0.length:Int)≥(IntKind.wrap .i64 (xA+2))) then
       (bq a0 xA 2).bind fun wA=>
       some (wA != 320)
      else
       some false
       :Option Bool)).bind fun gA=>
      bif gA then
       some (.done (.inr (⟨true,(⟨cA,qA,IntKind.wrap .i64 rA⟩:ab),zA,xA,64⟩:ae)))
      else
       bif decide ((a0.length:Int)<(IntKind.wrap .i64 ((IntKind.wrap .i64 (xA+2))+320))) then
        some (.done (.inr (⟨true,(⟨cA,qA,IntKind.wrap .i64 rA⟩:ab),zA,(a0.length:Int),67⟩:ae)))
       else
        (sub a0 (IntKind.wrap .i64 (xA+2)) (IntKind.wrap .i64 ((IntKind.wrap .i64 (xA+2))+320))).bind fun mA=>
        (ei mA).bind fun nA=>
        (app zA [nA]).bind fun pA=>
        some (.next (IntKind.wrap .i64 ((IntKind.wrap .i64 (xA+2))+320),IntKind.wrap .i64 (vA+1),pA))
     else
      some (.done (.inl ((⟨true,(⟨cA,qA,IntKind.wrap .i64 rA⟩:ab),zA,(0:Int),(0:Int)⟩:ae),xA)))) (oB,0,[])).bind fun tA=>match tA with
    | .inl (uA,xB)=>
     some (.inr (uA,xB))
    | .inr z=>
     some (.inl z)
    : Option (ae ⊕ (ae × Int)))).bind fun yB => match yB with
    | .inl z=>
     some z
    | .inr (zB,hB)=>
     (da a0 hB zB).bind fun bB=>
     some bB
theorem o127 {a0:List Int} {r0:ae} (hF:ga a0=some r0) (L:List Res):Ok Tryz.prog 109 [SV.val K9 a0] L (SV.val be r0) L:=by
 unfold ga at hF
 refine okI 107 Tryz.func109 rfl rfl rfl fun F0=>?_
 refine bs hF fun yC yB hF=>sr<|al ZT193 rfl fun b1=>ns<|al ZT193k rfl fun b2=>ns<|a_ rfl<|ns<|bF (ys:=[4,5,6,8,16,24]) Tryz.underlying68 ET3 (BldA.cons rfl rfl rdI (BldA.cons rfl rfl rdI (BldA.cons rfl rfl rdI (BldA.cons rfl rfl rdI (BldA.cons rfl rfl rdI (BldA.cons rfl rfl rdI (BldA.nil _))))))) rfl rfl<|a_ rfl<|nt<|sq<|Under.after (fun X=>∀(bB:Int),yC=(.inr bB)→Under F0 107 [(0,.val K9 a0),(2,pb b1),(3,pb b2),(4,.raw (.int .i64 bB))] ((.box be b1 193 (⟨false,(⟨(0:Int),(0:Int),(0:Int)⟩:ab),[],(0:Int),(0:Int)⟩:ae))::(.box dv b2 193 (⟨false,(⟨(0:Int),(0:Int),(0:Int)⟩:ab),.slice none 0 0,(0:Int),(0:Int)⟩:aq))::L) X) ?_ ?_
 ·intro bB gA
  replace gA:=gA.symm
  subst gA
  refine bs hF fun vA zC hF=>bs hF fun oA hC hF=>bs hF fun kA bC hF=>bs hF fun vC oC hF=>bs hF fun vB eA hF=>sr<|oM zP rfl<|f1<|sP (x':=(⟨true,(⟨(0:Int),(0:Int),(0:Int)⟩:ab),.slice none 0 0,(0:Int),(0:Int)⟩:aq)) .box (.fld .id kw) sz4k rfl rfl rdB rfl<|nt<|sq<|ph rfl<|gV [0,1,2,3,4,5,6,7] [[0],[44],[0],[46],[0],[48],[49],[50]] 2 (by kernel_rfl) rfl<|vm_ rfl<|Vq.v (fun G T hG=>cx Tryz.call172 rfl (o121 zC _)<|Vq.end rfl)<|vm_ rfl<|Vq.v (fun G T hG=>cx Tryz.call172 rfl (o121 hC _)<|Vq.end rfl)<|vm_ rfl<|vo (fun _=>OpV.ixS bC Tryz.underlying22 sz5 rfl rdV rfl) rfl<|vo (fun _=>OpV.ldI kt5 rfl) rfl<|vo (fun _=>OpV.conv (by kernel_rfl) Tryz.underlying3 rfl) rfl<|vn<|p1 8 rfl rfl<|ov (OpV.bst BT43 (Bld.cons (x':=(⟨vA,(0:Int),(0:Int)⟩:ab)) rfl rfl rdI (by intro q hq;simp only[List.mem_cons,List.not_mem_nil,or_false] at hq;rcases hq with rfl|rfl<;>rfl) (Bld.cons (x':=(⟨vA,oA,(0:Int)⟩:ab)) rfl rfl rdI ⟨rfl,(by intro q hq;simp only[List.mem_cons,List.not_mem_nil,or_false] at hq;rcases hq with rfl<;>rfl)⟩ (Bld.cons (x':=(⟨vA,oA,IntKind.wrap .i64 kA⟩:ab)) rfl rfl rdI ⟨rfl,⟨rfl,(fun q hq=>by simp at hq)⟩⟩ (Bld.nil _))))) rfl<|pn<|p1 9 rfl rfl<|oM zQ rfl<|pn<|p1 10 rfl rfl<|sP (x':=(⟨true,(⟨vA,oA,IntKind.wrap .i64 kA⟩:ab),.slice none 0 0,(0:Int),(0:Int)⟩:aq)) .box (.fld .id kx) sz43k rfl rfl rdV rfl<|pn<|pd rfl<|tn<|sr<|m_ rfl<|cx Tryz.call172 rfl (o121 oC _)<|a_ rfl<|nt<|sq<|Under.after (fun X=>∀(mA:ae) (nA:Int),vB=(.inr (mA,nA))→Under F0 107 [(0,.val K9 a0),(2,pb b1),(3,.ptr be mA),(4,.raw (.int .i64 nA))] ((.box be b1 193 (⟨false,(⟨(0:Int),(0:Int),(0:Int)⟩:ab),[],(0:Int),(0:Int)⟩:ae))::L) X) ?_ ?_
  ·intro mA nA pA
   replace pA:=pA.symm
   subst pA
   refine bs hF fun oB kB hF=>sr<|m_ rfl<|m_ rfl<|oL kt193 rfl<|cx Tryz.call174 rfl (o126 kB _)<|sP (x':=oB) .box .id sz193k rfl rfl rdV rfl<|nl<|fz (t:=2) rfl<|tn<|rc ?_
   cases osi hF
   exact rs Tryz.results109 (.ce rfl kt193 .nil) rfl rfl
  ·intro K dB
   refine bs eA fun kC eB eA=>sr<|a_ rfl<|nt<|bk<|Under.ownNil (K:=kSl K12) (e:=22)<|f2<|lp eB (C:=Value) (.slice none 0 0) (fun dA hA=>[(0,.val K9 a0),(2,pb b1),(3,pb b2),(4,.raw (.int .i64 dA.1)),(8,.raw (.int .i64 vC)),(9,.raw (.int .i64 dA.2.1))]) (fun dA hA=>(.box be b1 193 (⟨false,(⟨(0:Int),(0:Int),(0:Int)⟩:ab),[],(0:Int),(0:Int)⟩:ae))::(.own K9 hA 22 dA.2.2)::(.box dv b2 193 (⟨true,(⟨vA,oA,IntKind.wrap .i64 kA⟩:ab),hA,(0:Int),(0:Int)⟩:aq))::L) rfl rfl fun dA hA dC xA tA=>?_
   obtain⟨rA,eC,cA⟩:=dA
   dsimp only at xA⊢
   refine sq<|sr<|m_ rfl<|mb rfl<|nt<|it xA rfl (fun xA=>?_) (fun xA=>?_)
   ·refine bs xA fun cB bA xA=>ct<|sq<|bk<|sq<|sr<|m_ rfl<|oN Tryz.underlying22 rfl<|mb rfl<|b_ rfl<|m_ rfl<|jC 71 cB ?_ (fun k=>?_)
    ·refine nt<|it xA rfl (fun xA=>?_) (fun xA=>?_)
     ·refine sr<|m_ rfl<|oM lM rfl<|f2<|sP (x':=(⟨true,(⟨vA,oA,IntKind.wrap .i64 kA⟩:ab),hA,rA,(0:Int)⟩:aq)) .box (.fld .id dt) sz3k rfl rfl rdI rfl<|oM lN rfl<|sP (x':=(⟨true,(⟨vA,oA,IntKind.wrap .i64 kA⟩:ab),hA,rA,64⟩:aq)) .box (.fld .id du) sz3k rfl rfl rdI rfl<|nl<|f2<|Under.frzBO (fs:=bz) (⟨true,(⟨vA,oA,IntKind.wrap .i64 kA⟩:ab),cA,rA,64⟩:ae) (fun F hv=>⟨fun _ h=>h,fun _ h=>h,iB hv,fun _ h=>h,fun _ h=>h,trivial⟩)<|fz (t:=3) rfl<|tn<|sr<|oL kt193 rfl<|sP (x':=(⟨true,(⟨vA,oA,IntKind.wrap .i64 kA⟩:ab),cA,rA,64⟩:ae)) .box .id sz193k rfl rfl rdV rfl<|nl<|fz (t:=2) rfl<|tn<|rt<|Under.bR<|tr ?_
      cases ai xA tA
      refine tr<|Under.bR<|tr ?_
      cases osi eA
      cases osi hF
      exact rs Tryz.results109 (.ce rfl kt193 .nil) rfl rfl
     ·refine ct<|sq<|sr<|m_ rfl<|oN Tryz.underlying22 rfl<|mb rfl<|b_ rfl<|b_ rfl<|nt<|it xA rfl (fun xA=>?_) (fun xA=>?_)
      ·refine sr<|m_ rfl<|oN Tryz.underlying22 rfl<|oM lM rfl<|f2<|sP (x':=(⟨true,(⟨vA,oA,IntKind.wrap .i64 kA⟩:ab),hA,(a0.length:Int),(0:Int)⟩:aq)) .box (.fld .id dt) sz3k rfl rfl rdI rfl<|oM lN rfl<|sP (x':=(⟨true,(⟨vA,oA,IntKind.wrap .i64 kA⟩:ab),hA,(a0.length:Int),67⟩:aq)) .box (.fld .id du) sz3k rfl rfl rdI rfl<|nl<|f2<|Under.frzBO (fs:=bz) (⟨true,(⟨vA,oA,IntKind.wrap .i64 kA⟩:ab),cA,(a0.length:Int),67⟩:ae) (fun F hv=>⟨fun _ h=>h,fun _ h=>h,iB hv,fun _ h=>h,fun _ h=>h,trivial⟩)<|fz (t:=3) rfl<|tn<|sr<|oL kt193 rfl<|sP (x':=(⟨true,(⟨vA,oA,IntKind.wrap .i64 kA⟩:ab),cA,(a0.length:Int),67⟩:ae)) .box .id sz193k rfl rfl rdV rfl<|nl<|fz (t:=2) rfl<|tn<|rt<|Under.bR<|tr ?_
       cases ai xA tA
       refine tr<|Under.bR<|tr ?_
       cases osi eA
       cases osi hF
       exact rs Tryz.results109 (.ce rfl kt193 .nil) rfl rfl
      ·exact bs xA fun cC qB xA=>bs xA fun rB wB xA=>bs xA fun qC gB xA=>ct<|sq<|ph rfl<|gV [0,1,2,3,4,5,6,7,8,9,10] [[3],[87],[0],[4],[90],[4],[92],[93],[89,91,94],[95],[96]] 3 (by kernel_rfl) rfl<|vo (fun _=>OpV.fdM wM rfl) rfl<|Vq.v (fun G T hG=>f2<|lP .box (.fld .id ic) kt44k rfl rfl<|Under.rawR (t:=88) rfl<|f2<|f2<|Vq.end rfl)<|vm_ rfl<|vm_ rfl<|vb_ rfl<|vm_ rfl<|vb_ rfl<|vb_ rfl<|vo (fun _=>OpV.slLH qB Tryz.underlying22 sz5 rfl rdV rfl rfl) rfl<|Vq.v (fun G T hG=>cx Tryz.call173 rfl (o123 wB _)<|Vq.end rfl)<|Vq.v (fun G T hG=>bF (ys:=[rB]) Tryz.underlying44 ET22 (BldA.cons rfl rfl rdV (BldA.nil _)) rfl rfl<|Vq.end rfl)<|vn<|p1 11 rfl rfl<|f1<|ap gB Tryz.underlying44 AT22 rfl rfl rdV rfl fun zB=>pn<|p1 12 rfl rfl<|oM wM rfl<|pn<|p1 13 rfl rfl<|Under.ownCell fun mB=>f2<|sP (x':=(⟨true,(⟨vA,oA,IntKind.wrap .i64 kA⟩:ab),zB,(0:Int),(0:Int)⟩:aq)) .box (.fld .id ic) sz44k rfl rfl (fT mB) rfl<|pn<|pd rfl<|tn<|rg<|mb rfl<|b_ rfl<|a_ rfl<|nl<|bN<|tn<|rg<|mb rfl<|a_ rfl<|nl<|f1<|f2<|nx zB xA rfl rfl
    ·refine by_ (t:=66) rfl (fun zA=>?_) (fun zA=>?_)
     ·replace bA:=ctrue zA bA
      exact bs bA fun rC nB bA=>gc_ zA rfl<|m_ rfl<|gc_ zA rfl<|m_ rfl<|gc_ zA rfl<|cx Tryz.call172 rfl (o121 nB _)<|gc_ zA rfl<|b_ rfl<|pT zA rfl<|rf 4 (rbq bA) rfl k
     ·replace bA:=cfalse zA bA
      exact sk_ zA rfl<|sk_ zA rfl<|sk_ zA rfl<|sk_ zA rfl<|pF zA rfl<|rf 4 (rbq bA) rfl k
   ·refine f2<|f2<|Under.frzBO (fs:=bz) (⟨true,(⟨vA,oA,IntKind.wrap .i64 kA⟩:ab),cA,(0:Int),(0:Int)⟩:ae) (fun F hv=>⟨fun _ h=>h,fun _ h=>h,iB hv,fun _ h=>h,fun _ h=>h,trivial⟩)<|fz (t:=3) rfl<|xt<|te ?_
    cases ai xA tA
    exact te<|bh<|tn<|wr (dB _ _ (osi eA).symm) rfl
 ·intro K wC
  refine bs yB fun gC pB yB=>sr<|a_ rfl<|nt<|bk<|f1<|lp pB () (fun qA hB=>[(0,.val K9 a0),(2,pb b1),(3,pb b2),(4,.raw (.int .i64 qA.1)),(5,.val K8 [4,5,6,8,16,24]),(6,.raw (.int .i64 qA.2))]) (fun qA hB=>(.box be b1 193 (⟨false,(⟨(0:Int),(0:Int),(0:Int)⟩:ab),[],(0:Int),(0:Int)⟩:ae))::(.box dv b2 193 (⟨false,(⟨(0:Int),(0:Int),(0:Int)⟩:ab),.slice none 0 0,(0:Int),(0:Int)⟩:aq))::L) rfl rfl fun qA hB mC yA uA=>?_
  obtain⟨wA,nC⟩:=qA
  dsimp only at yA⊢
  refine sq<|sr<|m_ rfl<|m_ rfl<|oN Tryz.underlying68 rfl<|b_ rfl<|nt<|it yA rfl (fun yA=>?_) (fun yA=>?_)
  ·refine bs yA fun pC tB yA=>ct<|sq<|bk<|sq<|sr<|m_ rfl<|oN Tryz.underlying22 rfl<|m_ rfl<|m_ rfl<|oS tB Tryz.underlying68 sz3 rfl<|oI kt3 rfl<|b_ rfl<|nt<|it yA rfl (fun yA=>?_) (fun yA=>?_)
   ·refine sr<|m_ rfl<|oN Tryz.underlying22 rfl<|oM lM rfl<|f1<|sP (x':=(⟨false,(⟨(0:Int),(0:Int),(0:Int)⟩:ab),.slice none 0 0,(a0.length:Int),(0:Int)⟩:aq)) .box (.fld .id dt) sz3k rfl rfl rdI rfl<|oM lN rfl<|sP (x':=(⟨false,(⟨(0:Int),(0:Int),(0:Int)⟩:ab),.slice none 0 0,(a0.length:Int),67⟩:aq)) .box (.fld .id du) sz3k rfl rfl rdI rfl<|nl<|Under.cvB (fs:=bz) (⟨false,(⟨(0:Int),(0:Int),(0:Int)⟩:ab),[],(a0.length:Int),67⟩:ae) (fun F=>⟨fun _ h=>h,fun _ h=>h,nY,fun _ h=>h,fun _ h=>h,trivial⟩)<|fz (t:=3) rfl<|tn<|sr<|oL kt193 rfl<|sP (x':=(⟨false,(⟨(0:Int),(0:Int),(0:Int)⟩:ab),[],(a0.length:Int),67⟩:ae)) .box .id sz193k rfl rfl rdV rfl<|nl<|fz (t:=2) rfl<|tn<|rt<|Under.bR<|tr ?_
    cases ai yA uA
    refine tr<|Under.bR<|tr ?_
    cases osi yB
    cases osi hF
    exact rs Tryz.results109 (.ce rfl kt193 .nil) rfl rfl
   ·refine bs yA fun xB uB yA=>ct<|sr<|m_ rfl<|m_ rfl<|cx Tryz.call171 rfl (o122 uB _)<|a_ rfl<|nt<|sq<|sr<|mb rfl<|nt<|it yA rfl (fun yA=>?_) (fun yA=>?_)
    ·refine sr<|m_ rfl<|m_ rfl<|oM lM rfl<|f1<|sP (x':=(⟨false,(⟨(0:Int),(0:Int),(0:Int)⟩:ab),.slice none 0 0,wA,(0:Int)⟩:aq)) .box (.fld .id dt) sz3k rfl rfl rdI rfl<|oM lN rfl<|sP (x':=(⟨false,(⟨(0:Int),(0:Int),(0:Int)⟩:ab),.slice none 0 0,wA,xB⟩:aq)) .box (.fld .id du) sz3k rfl rfl rdI rfl<|nl<|Under.cvB (fs:=bz) (⟨false,(⟨(0:Int),(0:Int),(0:Int)⟩:ab),[],wA,xB⟩:ae) (fun F=>⟨fun _ h=>h,fun _ h=>h,nY,fun _ h=>h,fun _ h=>h,trivial⟩)<|fz (t:=3) rfl<|tn<|sr<|oL kt193 rfl<|sP (x':=(⟨false,(⟨(0:Int),(0:Int),(0:Int)⟩:ab),[],wA,xB⟩:ae)) .box .id sz193k rfl rfl rdV rfl<|nl<|fz (t:=2) rfl<|tn<|rt<|Under.bR<|tr ?_
     cases ai yA uA
     refine tr<|Under.bR<|tr ?_
     cases osi yB
     cases osi hF
     exact rs Tryz.results109 (.ce rfl kt193 .nil) rfl rfl
    ·exact bs yA fun tC xC yA=>ct<|rg<|m_ rfl<|m_ rfl<|oS xC Tryz.underlying68 sz3 rfl<|oI kt3 rfl<|a_ rfl<|nl<|bN<|tn<|rg<|mb rfl<|a_ rfl<|nl<|nx () yA rfl rfl
  ·refine xt<|te ?_
   cases ai yA uA
   exact te<|bh<|tn<|wr (wC _ (osi yB).symm) rfl
noncomputable def fj (a0:List Int):Option (ao×Int×Int):=
 (ga a0).bind fun y2=>
 bif y2.Err != 0 then
  some ((⟨(⟨(0:Int),(0:Int),(0:Int)⟩:ab),[]⟩:ao),y2.Place,y2.Err)
 else
  some ((⟨y2.Header,y2.Cells⟩:ao),0,0)
theorem o128 {a0:List Int} {r0:(ao×Int×Int)} (hF:fj a0=some r0) (L:List Res):Ok Tryz.prog 55 [SV.val K9 a0] L (SV.tup [SV.val aV r0.1,SV.raw (.int .i64 r0.2.1),SV.raw (.int .i64 r0.2.2)]) L:=by
 unfold fj at hF
 refine okI 21 Tryz.func55 rfl rfl rfl fun F0=>?_
 refine bs hF fun y2 h3 hF=>sr<|al ZT46 rfl fun b1=>a_ rfl<|a_ rfl<|ns<|m_ rfl<|cx Tryz.call109 rfl (o127 h3 _)<|al ZT193 rfl fun b4=>sP (x':=y2) .box .id sz193k rfl rfl rdV rfl<|nl<|fz (t:=5) rfl<|tn<|sq<|sr<|oF fb193k rfl<|oI kt3 rfl<|b_ rfl<|nt<|it hF rfl (fun hF=>?_) (fun hF=>?_)
 ·refine sq<|ph rfl<|Under.grpT (L:=L) [0,1,2,3,4,5,6] [[],[5],[12],[5],[14],[2,11],[13]] [⟨sk0 (.val aV (⟨(⟨(0:Int),(0:Int),(0:Int)⟩:ab),[]⟩:ao)),[],[],[]⟩,⟨sk0 (.ptr K10 y2.Place),[],[],[]⟩,⟨sk0 (.raw (.int .i64 y2.Place)),[],[],[]⟩,⟨sk0 (.ptr K10 y2.Err),[],[],[]⟩,⟨sk0 (.raw (.int .i64 y2.Err)),[],[],[]⟩,⟨sk0 (.raw undef),[],[],[]⟩,⟨sk0 (.raw (.int .i64 y2.Place)),[],[],[]⟩] [] (fun T:List Res=>(.box aV b1 46 (⟨(⟨(0:Int),(0:Int),(0:Int)⟩:ab),[]⟩:ao))::T) lf1 rfl (by kernel_rfl) rfl rfl (fun F hF0 xA=>?_)
  refine Tq.v (fun G T hG=>?_) ?_
  ·exact ov (OpV.bst BT46 (Bld.nil _)) rfl<|Tq.end undef rfl rfl
  refine Tq.v (fun G T hG=>?_) ?_
  ·exact oF fb193k1 rfl<|Tq.end undef rfl rfl
  refine Tq.v (fun G T hG=>?_) ?_
  ·exact oI kt3 rfl<|Tq.end undef rfl rfl
  refine Tq.v (fun G T hG=>?_) ?_
  ·exact oF fb193k rfl<|Tq.end undef rfl rfl
  refine Tq.v (fun G T hG=>?_) ?_
  ·exact oI kt3 rfl<|Tq.end undef rfl rfl
  refine Tq.st0 [] rfl (fun G T hG=>?_) ?_
  ·exact sP (x':=(⟨(⟨(0:Int),(0:Int),(0:Int)⟩:ab),[]⟩:ao)) .box .id sz46k rfl rfl rdV rfl<|Tq.end0 undef rfl
  refine Tq.v (fun G T hG=>?_) ?_
  ·exact a_ rfl<|Tq.end undef rfl rfl
  refine Tq.nil<|Under.le hF0<|p1 7 rfl rfl<|a_ rfl<|pn<|pd rfl<|fz (t:=2) rfl<|tn<|rt ?_
  cases osi hF
  exact rs Tryz.results55 (.ce rfl kt46 (.tm rfl (.tm rfl .nil))) rfl rfl
 ·refine ct<|sr<|oF fb193k2 rfl<|oL kt43 rfl<|oF fb193k3 rfl<|oL kt44 rfl<|ov (OpV.bst BT46 (Bld.cons (x':=(⟨y2.Header,[]⟩:ao)) rfl rfl rdV (by intro q hq;simp only[List.mem_cons,List.not_mem_nil,or_false] at hq;rcases hq with rfl<;>rfl) (Bld.cons (x':=(⟨y2.Header,y2.Cells⟩:ao)) rfl rfl rdV ⟨rfl,(fun q hq=>by simp at hq)⟩ (Bld.nil _)))) rfl<|sP (x':=(⟨y2.Header,y2.Cells⟩:ao)) .box .id sz46k rfl rfl rdV rfl<|a_ rfl<|a_ rfl<|nl<|fz (t:=2) rfl<|tn<|rc ?_
  cases osi hF
  exact rs Tryz.results55 (.ce rfl kt46 (.tm rfl (.tm rfl .nil))) rfl rfl
noncomputable def fG:Option (List Int):=
 some [1116352408,1899447441,3049323471,3921009573,961987163,1508970993,2453635748,2870763221,3624381080,310598401,607225278,1426881987,1925078388,2162078206,2614888103,3248222580,3835390401,4022224774,264347078,604807628,770255983,1249150122,1555081692,1996064986,2554220882,2821834349,2952996808,3210313671,3336571891,3584528711,113926993,338241895,666307205,773529912,1294757372,1396182291,1695183700,1986661051,2177026350,2456956037,2730485921,2820302411,3259730800,3345764771,3516065817,3600352804,4094571909,275423344,430227734,506948616,659060556,883997877,958139571,1322822218,1537002063,1747873779,1955562222,2024104815,2227730452,2361852424,2428436474,2756734187,3204031479,3329325298]
theorem o129 {r0:(List Int)} (hF:fG=some r0) (L:List Res):Ok Tryz.prog 251 [] L (SV.val K2 r0) L:=by
 unfold fG at hF
 refine okI 2 Tryz.func251 rfl rfl rfl fun F0=>?_
 refine sr<|al ZT319 rfl fun b1=>ns<|ov (OpV.bar (ys:=[1116352408,1899447441,3049323471,3921009573,961987163,1508970993,2453635748,2870763221,3624381080,310598401,607225278,1426881987,1925078388,2162078206,2614888103,3248222580,3835390401,4022224774,264347078,604807628,770255983,1249150122,1555081692,1996064986,2554220882,2821834349,2952996808,3210313671,3336571891,3584528711,113926993,338241895,666307205,773529912,1294757372,1396182291,1695183700,1986661051,2177026350,2456956037,2730485921,2820302411,3259730800,3345764771,3516065817,3600352804,4094571909,275423344,430227734,506948616,659060556,883997877,958139571,1322822218,1537002063,1747873779,1955562222,2024104815,2227730452,2361852424,2428436474,2756734187,3204031479,3329325298]) BTA319 (BldA.cons rfl rfl rdI (BldA.cons rfl rfl rdI (BldA.cons rfl rfl rdI (BldA.cons rfl rfl rdI (BldA.cons rfl rfl rdI (BldA.cons rfl rfl rdI (BldA.cons rfl rfl rdI (BldA.cons rfl rfl rdI (BldA.cons rfl rfl rdI (BldA.cons rfl rfl rdI (BldA.cons rfl rfl rdI (BldA.cons rfl rfl rdI (BldA.cons rfl rfl rdI (BldA.cons rfl rfl rdI (BldA.cons rfl rfl rdI (BldA.cons rfl rfl rdI (BldA.cons rfl rfl rdI (BldA.cons rfl rfl rdI (BldA.cons rfl rfl rdI (BldA.cons rfl rfl rdI (BldA.cons rfl rfl rdI (BldA.cons rfl rfl rdI (BldA.cons rfl rfl rdI (BldA.cons rfl rfl rdI (BldA.cons rfl rfl rdI (BldA.cons rfl rfl rdI (BldA.cons rfl rfl rdI (BldA.cons rfl rfl rdI (BldA.cons rfl rfl rdI (BldA.cons rfl rfl rdI (BldA.cons rfl rfl rdI (BldA.cons rfl rfl rdI (BldA.cons rfl rfl rdI (BldA.cons rfl rfl rdI (BldA.cons rfl rfl rdI (BldA.cons rfl rfl rdI (BldA.cons rfl rfl rdI (BldA.cons rfl rfl rdI (BldA.cons rfl rfl rdI (BldA.cons rfl rfl rdI (BldA.cons rfl rfl rdI (BldA.cons rfl rfl rdI (BldA.cons rfl rfl rdI (BldA.cons rfl rfl rdI (BldA.cons rfl rfl rdI (BldA.cons rfl rfl rdI (BldA.cons rfl rfl rdI (BldA.cons rfl rfl rdI (BldA.cons rfl rfl rdI (BldA.cons rfl rfl rdI (BldA.cons rfl rfl rdI (BldA.cons rfl rfl rdI (BldA.cons rfl rfl rdI (BldA.cons rfl rfl rdI (BldA.cons rfl rfl rdI (BldA.cons rfl rfl rdI (BldA.cons rfl rfl rdI (BldA.cons rfl rfl rdI (BldA.cons rfl rfl rdI (BldA.cons rfl rfl rdI (BldA.cons rfl rfl rdI (BldA.cons rfl rfl rdI (BldA.cons rfl rfl rdI (BldA.cons rfl rfl rdI (BldA.nil _)))))))))))))))))))))))))))))))))))))))))))))))))))))))))))))))))) rfl<|sP (x':=[1116352408,1899447441,3049323471,3921009573,961987163,1508970993,2453635748,2870763221,3624381080,310598401,607225278,1426881987,1925078388,2162078206,2614888103,3248222580,3835390401,4022224774,264347078,604807628,770255983,1249150122,1555081692,1996064986,2554220882,2821834349,2952996808,3210313671,3336571891,3584528711,113926993,338241895,666307205,773529912,1294757372,1396182291,1695183700,1986661051,2177026350,2456956037,2730485921,2820302411,3259730800,3345764771,3516065817,3600352804,4094571909,275423344,430227734,506948616,659060556,883997877,958139571,1322822218,1537002063,1747873779,1955562222,2024104815,2227730452,2361852424,2428436474,2756734187,3204031479,3329325298]) .box .id sz319k rfl rfl rdV rfl<|nl<|fz (t:=0) rfl<|tn<|rc ?_
 cases osi hF
 exact rs Tryz.results251 (.ce rfl kt319 .nil) rfl rfl
noncomputable def el (a0:List Int):Option (List Int):=
 bif mkB 0 (IntKind.wrap .i64 ((a0.length:Int)+72)) then
 (app (List.replicate (Int.toNat 0) (0:Int)) a0).bind fun z4=>
 (app z4 [128]).bind fun z7=>
 (((Loop.run (S:=(List Int)) (R:=(List Int)) (fun xA=>
   bif (Int.tmod (xA.length:Int) 64) != 56 then
    (app xA [0]).bind fun zA=>
    some (.next zA)
   else
    some (.done xA)) z7).bind fun hA=>
 some hA
  :Option (List Int))).bind fun oA=>
 (((Loop.run (S:=((List Int)×Int)) (R:=(List Int)) (fun(vA,yA)=>
   bif decide (yA<8) then
    bif decide (0≤(IntKind.wrap .i64 (56 - (IntKind.wrap .i64 (8*yA))))) then
    (app vA [IntKind.wrap .u8 (shrI .u64 (IntKind.wrap .u64 ((IntKind.wrap .u64 (a0.length:Int))*8)) (IntKind.wrap .i64 (56 - (IntKind.wrap .i64 (8*yA)))))]).bind fun bA=>
    some (.next (bA,IntKind.wrap .i64 (yA+1)))
    else none
   else
    some (.done vA)) (oA,0)).bind fun kA=>
 some kA
  :Option (List Int))).bind fun dA=>
 some dA
 else none
theorem o130 {a0:List Int} {r0:(List Int)} (hF:el a0=some r0) (L:List Res):Ok Tryz.prog 252 [SV.val K9 a0] L (SV.val K9 r0) L:=by
 unfold el at hF
 refine okI 41 Tryz.func252 rfl rfl rfl fun F0=>?_
 refine gs hF fun h2 hF=>bs hF fun z4 h5 hF=>bs hF fun z7 h8 hF=>bs hF fun uA eA hF=>sr<|a_ rfl<|ns<|m_ rfl<|oN Tryz.underlying22 rfl<|b_ rfl<|Under.mk h2 Tryz.underlying22 AT5 rfl rfl rfl fun v1=>a_ rfl<|ns<|m_ rfl<|m_ rfl<|ap h5 Tryz.underlying22 AT5 rfl rfl rdV rfl fun v6=>a_ rfl<|ns<|m_ rfl<|bF (ys:=[128]) Tryz.underlying22 ET5 (BldA.cons rfl rfl rdI (BldA.nil _)) rfl rfl<|ap h8 Tryz.underlying22 AT5 rfl rfl rdV rfl fun v9=>a_ rfl<|nt<|sq<|Under.after (fun X=>∀(cA:List Int) (kA:Value),uA=cA→Under F0 41 [(0,.val K9 a0),(3,.raw kA)] ((.own K12 kA 5 cA)::L) X) ?_ ?_
 ·intro cA kA vA
  replace vA:=vA.symm
  subst vA
  refine bs hF fun dA qA hF=>sr<|m_ rfl<|oN Tryz.underlying22 rfl<|oC (by kernel_rfl) Tryz.underlying71 rfl<|b_ rfl<|a_ rfl<|nt<|sq<|afr (r:=dA) (fun dA=>[(3,.val K9 dA)]) (fun dA=>(L)) ?_ fun K xB=>?_
  ·refine sr<|m_ rfl<|a_ rfl<|nt<|rc ?_
   cases osi hF
   exact rs Tryz.results252 (.tm rfl .nil) rfl rfl
  ·refine bs qA fun cB yB qA=>sr<|a_ rfl<|nt<|bk<|lp yB (C:=Value) kA (fun yA hA=>[(3,.raw hA),(4,.raw (.int .u64 (IntKind.wrap .u64 ((IntKind.wrap .u64 (a0.length:Int))*8)))),(5,.raw (.int .i64 yA.2))]) (fun yA hA=>(.own K12 hA 5 yA.1)::L) rfl rfl fun yA hA zB zA hB=>?_
   obtain⟨qB,bB⟩:=yA
   dsimp only at zA⊢
   refine sq<|sr<|mb rfl<|nt<|it zA rfl (fun zA=>?_) (fun zA=>?_)
   ·exact gs zA fun rA zA=>bs zA fun vB wA zA=>ct<|sq<|bk<|rg<|m_ rfl<|m_ rfl<|mb rfl<|b_ rfl<|ov (OpV.sh rfl rfl (of_decide_eq_true rA) rfl) rfl<|oC (by kernel_rfl) Tryz.underlying5 rfl<|bF (ys:=[IntKind.wrap .u8 (shrI .u64 (IntKind.wrap .u64 ((IntKind.wrap .u64 (a0.length:Int))*8)) (IntKind.wrap .i64 (56 - (IntKind.wrap .i64 (8*bB)))))]) Tryz.underlying22 ET5 (BldA.cons rfl rfl rdI (BldA.nil _)) rfl rfl<|ap wA Tryz.underlying22 AT5 rfl rfl rdV rfl fun gA=>a_ rfl<|nl<|bN<|tn<|rg<|mb rfl<|a_ rfl<|nl<|nx gA zA rfl rfl
   ·refine fzO (t:=3) rfl<|xt<|te ?_
    cases ai zA hB
    exact te<|bh<|tn<|wr (xB _ (osi qA).symm) rfl
 ·intro K oB
  refine bs eA fun kB mA eA=>bk<|lp mA (C:=Value) v9 (fun oA bA=>[(0,.val K9 a0),(3,.raw bA)]) (fun oA bA=>(.own K12 bA 5 oA)::L) rfl rfl fun oA bA dB xA nA=>?_
  refine sq<|sr<|m_ rfl<|ov (OpV.lenO Tryz.underlying22 rfl) rfl<|ov (OpV.quo rfl rfl (by decide) rfl) rfl<|b_ rfl<|nt<|it xA rfl (fun xA=>?_) (fun xA=>?_)
  ·exact bs xA fun eB pA xA=>ct<|bk<|rg<|m_ rfl<|bF (ys:=[0]) Tryz.underlying22 ET5 (BldA.cons rfl rfl rdI (BldA.nil _)) rfl rfl<|ap pA Tryz.underlying22 AT5 rfl rfl rdV rfl fun tA=>a_ rfl<|nl<|bN<|nx tA xA rfl rfl
  ·refine xt<|te ?_
   cases ai xA nA
   exact te<|bh<|tn<|wr (oB _ _ (osi eA).symm) rfl
noncomputable def bi (a0:Int) (a1:Int):Option Int:=
 bif decide (0≤a1) then
 bif decide (0≤(IntKind.wrap .i64 (32 - a1))) then
 some (orI .u32 (shrI .u32 a0 a1) (shlI .u32 a0 (IntKind.wrap .i64 (32 - a1))))
 else none
 else none
theorem o131 {a0 a1:Int} {r0:Int} (hF:bi a0 a1=some r0) (L:List Res):Ok Tryz.prog 256 [SV.raw (.int .u32 a0),SV.raw (.int .i64 a1)] L (SV.raw (.int .u32 r0)) L:=by
 unfold bi at hF
 refine okI 13 Tryz.func256 rfl rfl rfl fun F0=>?_
 refine gs hF fun h1 hF=>gs hF fun h2 hF=>sr<|a_ rfl<|nt<|sq<|dw rfl (by kernel_rfl) fun F hF0=>mvq rfl rfl<|mvq rfl rfl<|oq (OpV.sh rfl rfl (of_decide_eq_true h1) rfl) rfl<|mvq rfl rfl<|mvq rfl rfl<|bnq rfl rfl rfl rfl<|oq (OpV.sh rfl rfl (of_decide_eq_true h2) rfl) rfl<|bnq rfl rfl rfl rfl<|agq rfl rfl<|nlq hF0<|tn<|rc ?_
 cases osi hF
 exact rs Tryz.results256 (.tm rfl .nil) rfl rfl
noncomputable def ep (a0:List Int) (a1:List Int) (a2:List Int) (a3:Int):Option (List Int):=
 (((Loop.run (S:=(Int×(List Int))) (R:=(List Int)) (fun(yA,zA)=>
   bif decide (yA<64) then
    ((((bif decide (yA<16) then
     (((Loop.run (S:=(Int×(List Int))) (R:=(List Int)) (fun(eA,oA)=>
       bif decide (eA<4) then
        (idx oA yA).bind fun xB=>
        (idx a2 (IntKind.wrap .i64 ((IntKind.wrap .i64 (a3+(IntKind.wrap .i64 (4*yA))))+eA))).bind fun yB=>
        (idx oA yA).bind fun rC=>
        some (.next (IntKind.wrap .i64 (eA+1),List.set oA (Int.toNat yA) (orI .u32 (shlI .u32 xB 8) (IntKind.wrap .u32 yB))))
       else
        some (.done oA)) (0,zA)).bind fun zB=>
     some zB
      :Option (List Int))).bind fun hB=>
     some (.inl hB)
    else
     some (.inr ())
     : Option ((List Int) ⊕ Unit))).bind fun bB => match bB with
     | .inl x3755=>
      some x3755
     | .inr _=>
      (idx zA (IntKind.wrap .i64 (yA - 15))).bind fun cA=>
      (idx zA (IntKind.wrap .i64 (yA - 2))).bind fun qA=>
      (bi cA 7).bind fun vB=>
      (bi cA 18).bind fun oB=>
      (bi qA 17).bind fun kB=>
      (bi qA 19).bind fun dB=>
      (idx zA (IntKind.wrap .i64 (yA - 7))).bind fun eB=>
      (idx zA (IntKind.wrap .i64 (yA - 16))).bind fun cB=>
      (idx zA yA).bind fun wC=>
      some (List.set zA (Int.toNat yA) (IntKind.wrap .u32 ((IntKind.wrap .u32 ((IntKind.wrap .u32 ((xorI .u32 (xorI .u32 kB dB) (shrI .u32 qA 10))+eB))+(xorI .u32 (xorI .u32 vB oB) (shrI .u32 cA 3))))+cB)))
     :Option (List Int))).bind fun qB=>
    some (.next (IntKind.wrap .i64 (yA+1),qB))
   else
    some (.done zA)) (0,(List.replicate 64 (0:Int)))).bind fun rB=>
 some rB
  :Option (List Int))).bind fun wB=>
 (((Loop.run (S:=(Int×(List Int))) (R:=(List Int)) (fun(kA,xA)=>
   bif decide (kA<64) then
    (idx xA 0).bind fun bA=>
    (idx xA 4).bind fun hA=>
    (idx xA 7).bind fun rA=>
    (bi hA 6).bind fun wA=>
    (bi hA 11).bind fun gA=>
    (bi hA 25).bind fun mA=>
    (idx xA 5).bind fun nA=>
    (idx xA 6).bind fun pA=>
    (idx a1 kA).bind fun tA=>
    (idx wB kA).bind fun uA=>
    (bi bA 2).bind fun gB=>
    (bi bA 13).bind fun mB=>
    (bi bA 22).bind fun nB=>
    (idx xA 1).bind fun pB=>
    (idx xA 2).bind fun tB=>
    (idx xA 1).bind fun uB=>
    (idx xA 2).bind fun xC=>
    (idx xA 1).bind fun yC=>
    (idx xA 2).bind fun zC=>
    (idx xA 3).bind fun hC=>
    (idx xA 5).bind fun bC=>
    (idx xA 6).bind fun vC=>
    some (.next (IntKind.wrap .i64 (kA+1),[IntKind.wrap .u32 ((IntKind.wrap .u32 ((IntKind.wrap .u32 ((IntKind.wrap .u32 ((IntKind.wrap .u32 (rA+(xorI .u32 (xorI .u32 wA gA) mA)))+(xorI .u32 (andI .u32 hA nA) (andI .u32 (cplI .u32 hA) pA))))+tA))+uA))+(IntKind.wrap .u32 ((xorI .u32 (xorI .u32 gB mB) nB)+(xorI .u32 (xorI .u32 (andI .u32 bA pB) (andI .u32 bA tB)) (andI .u32 uB xC))))),bA,yC,zC,IntKind.wrap .u32 (hC+(IntKind.wrap .u32 ((IntKind.wrap .u32 ((IntKind.wrap .u32 ((IntKind.wrap .u32 (rA+(xorI .u32 (xorI .u32 wA gA) mA)))+(xorI .u32 (andI .u32 hA nA) (andI .u32 (cplI .u32 hA) pA))))+tA))+uA))),hA,bC,vC]))
   else
    some (.done xA)) (0,a0)).bind fun oC=>
 some oC
  :Option (List Int))).bind fun kC=>
 (((Loop.run (S:=(Int×(List Int))) (R:=(List Int)) (fun(vA,dA)=>
   bif decide (vA<8) then
    (idx dA vA).bind fun dC=>
    (idx kC vA).bind fun eC=>
    (idx dA vA).bind fun gC=>
    some (.next (IntKind.wrap .i64 (vA+1),List.set dA (Int.toNat vA) (IntKind.wrap .u32 (dC+eC))))
   else
    some (.done dA)) (0,a0)).bind fun cC=>
 some cC
  :Option (List Int))).bind fun qC=>
 some qC
theorem o132 {a0 a1 a2:List Int} {a3:Int} {r0:(List Int)} (hF:ep a0 a1 a2 a3=some r0) (L:List Res):Ok Tryz.prog 253 [SV.val K5 a0,SV.val K2 a1,SV.val K9 a2,SV.raw (.int .i64 a3)] L (SV.val K5 r0) L:=by
 unfold ep at hF
 refine okI 184 Tryz.func253 rfl rfl rfl fun F0=>?_
 refine bs hF fun eA oB hF=>sr<|Under.bx (K:=kArr 8 K11) rfl rdV rfl fun b1=>bX (K:=kArr 64 K11) rfl rdV rfl<|al ZT249 rfl fun b2=>ns<|al ZT319 rfl fun b3=>nt<|sq<|afr (r:=eA) (fun eA=>[(4,pb b1),(5,.ptr K2 a1),(8,pb b2),(9,.ptr K2 eA)]) (fun eA=>((.box K5 b1 249 a0)::(.box K5 b2 249 (List.replicate 8 (0:Int)))::L)) ?_ fun K wD=>?_
 ·refine bs hF fun cA kB hF=>sr<|lP .box .id kt249k rfl rfl<|al ZT249 rfl fun qB=>sP (x':=a0) .box .id sz249k rfl rfl rdV rfl<|nt<|sq<|afr (r:=cA) (fun cA=>[(4,pb b1),(8,pb b2),(16,.ptr K5 cA)]) (fun cA=>((.box K5 b1 249 a0)::(.box K5 b2 249 (List.replicate 8 (0:Int)))::L)) ?_ fun K gD=>?_
  ·refine bs hF fun qA dB hF=>sq<|afr (r:=qA) (fun qA=>[(4,.ptr K5 qA),(8,pb b2)]) (fun qA=>((.box K5 b2 249 (List.replicate 8 (0:Int)))::L)) ?_ fun K mD=>?_
   ·refine sr<|oL kt249 rfl<|sP (x':=qA) .box .id sz249k rfl rfl rdV rfl<|nl<|fz (t:=8) rfl<|tn<|rc ?_
    cases osi hF
    exact rs Tryz.results253 (.ce rfl kt249 .nil) rfl rfl
   ·refine bs dB fun pG nD dB=>sr<|a_ rfl<|nt<|bk<|lp nD () (fun rA rB=>[(4,pb b1),(8,pb b2),(16,.ptr K5 cA),(22,.raw (.int .i64 rA.1))]) (fun rA rB=>(.box K5 b1 249 rA.2)::(.box K5 b2 249 (List.replicate 8 (0:Int)))::L) rfl rfl fun rA rB tG zA pD=>?_
    obtain⟨tD,uD⟩:=rA
    dsimp only at zA⊢
    refine sq<|sr<|mb rfl<|nt<|it zA rfl (fun zA=>?_) (fun zA=>?_)
    ·exact bs zA fun xE wB zA=>bs zA fun yE zE zA=>bs zA fun uG gB zA=>ct<|sq<|bk<|ph rfl<|gV [0,1,2,3,4,5,6,7] [[22],[22],[4,175],[176],[22],[16,178],[179],[177,180]] 2 (by kernel_rfl) rfl<|vm_ rfl<|vm_ rfl<|Vq.v (fun G T hG=>oX .box .id wB Tryz.underlying249 sz142k rfl<|Vq.end rfl)<|Vq.v (fun G T hG=>lP .box (.ix .id wB) kt142k rfl rfl<|rI (t:=177) rfl<|Vq.end rfl)<|vm_ rfl<|vo (fun _=>OpV.ixA zE Tryz.underlying249 sz142 rfl rfl) rfl<|vo (fun _=>OpV.ldI kt142 rfl) rfl<|vb_ rfl<|vn<|p1 8 rfl rfl<|oX .box .id gB Tryz.underlying249 sz142k rfl<|pn<|p1 9 rfl rfl<|sP (x':=List.set uD (Int.toNat tD) (IntKind.wrap .u32 (xE+yE))) .box (.ix .id gB) sz142k rfl rfl rdI rfl<|pn<|pd rfl<|bN<|tn<|rg<|mb rfl<|a_ rfl<|nl<|nx () zA rfl rfl
    ·refine fz (t:=4) rfl<|xt<|te ?_
     cases ai zA pD
     exact te<|bh<|tn<|wr (mD _ (osi dB).symm) rfl
  ·refine bs kB fun xH hE kB=>sr<|a_ rfl<|nt<|bk<|f2<|f2<|lp hE () (fun wA mB=>[(4,pb b1),(5,.ptr K2 a1),(8,pb b2),(9,.ptr K2 eA),(16,pb qB),(17,.raw (.int .i64 wA.1))]) (fun wA mB=>(.box K5 b1 249 a0)::(.box K5 b2 249 (List.replicate 8 (0:Int)))::(.box K5 qB 249 wA.2)::L) rfl rfl fun wA mB yH xA bE=>?_
   obtain⟨zH,hH⟩:=wA
   dsimp only at xA⊢
   refine sq<|sr<|mb rfl<|nt<|it xA rfl (fun xA=>?_) (fun xA=>?_)
   ·exact bs xA fun kA nB xA=>bs xA fun bA pB xA=>bs xA fun nA tB xA=>bs xA fun pA vE xA=>bs xA fun tA oE xA=>bs xA fun uA kE xA=>bs xA fun xB uB xA=>bs xA fun yB xC xA=>bs xA fun zB dE xA=>bs xA fun hB eE xA=>bs xA fun yC cE xA=>bs xA fun zC qE xA=>bs xA fun hC rE xA=>bs xA fun bC vC xA=>bs xA fun oC kC xA=>bs xA fun dC eC xA=>bs xA fun cC qC xA=>bs xA fun rC wC xA=>bs xA fun gC mC xA=>bs xA fun nC pC xA=>bs xA fun tC uC xA=>bs xA fun xD yD xA=>ct<|sq<|bk<|sq<|ph rfl<|gV [0,1,2,3,4] [[16],[94],[16],[96],[95]] 3 (by kernel_rfl) rfl<|Vq.v (fun G T hG=>f2<|oX .box .id nB Tryz.underlying249 sz142k rfl<|f2<|f2<|Vq.end rfl)<|Vq.v (fun G T hG=>f2<|lP .box (.ix .id nB) kt142k rfl rfl<|rI (t:=95) rfl<|f2<|f2<|Vq.end rfl)<|Vq.v (fun G T hG=>f2<|oX .box .id pB Tryz.underlying249 sz142k rfl<|f2<|f2<|Vq.end rfl)<|Vq.v (fun G T hG=>f2<|lP .box (.ix .id pB) kt142k rfl rfl<|rI (t:=97) rfl<|f2<|f2<|Vq.end rfl)<|Vq.v (fun G T hG=>a_ rfl<|Vq.end rfl)<|vn<|p1 5 rfl rfl<|a_ rfl<|pn<|pd rfl<|tn<|sq<|ph rfl<|gV [0,1,2,3,4,5,6,7,8,9,10,11,12,13,14,15,16,17,18,19,20,21,22,23,24,25,26,27,28] [[16],[98],[19],[100],[19],[102],[101,103],[19],[105],[104,106],[99,107],[19],[16],[110],[109,111],[19],[113],[16],[115],[114,116],[112,117],[108,118],[17],[5,120],[121],[119,122],[17],[9,124],[125]] 3 (by kernel_rfl) rfl<|Vq.v (fun G T hG=>f2<|oX .box .id tB Tryz.underlying249 sz142k rfl<|f2<|f2<|Vq.end rfl)<|Vq.v (fun G T hG=>f2<|lP .box (.ix .id tB) kt142k rfl rfl<|rI (t:=99) rfl<|f2<|f2<|Vq.end rfl)<|vm_ rfl<|Vq.v (fun G T hG=>cx Tryz.call256 rfl (o131 vE _)<|Vq.end rfl)<|vm_ rfl<|Vq.v (fun G T hG=>cx Tryz.call256 rfl (o131 oE _)<|Vq.end rfl)<|vb_ rfl<|vm_ rfl<|Vq.v (fun G T hG=>cx Tryz.call256 rfl (o131 kE _)<|Vq.end rfl)<|vb_ rfl<|vb_ rfl<|vm_ rfl<|Vq.v (fun G T hG=>f2<|oX .box .id uB Tryz.underlying249 sz142k rfl<|f2<|f2<|Vq.end rfl)<|Vq.v (fun G T hG=>f2<|lP .box (.ix .id uB) kt142k rfl rfl<|rI (t:=111) rfl<|f2<|f2<|Vq.end rfl)<|vb_ rfl<|vm_ rfl<|vo (fun _=>OpV.cpl rfl) rfl<|Vq.v (fun G T hG=>f2<|oX .box .id xC Tryz.underlying249 sz142k rfl<|f2<|f2<|Vq.end rfl)<|Vq.v (fun G T hG=>f2<|lP .box (.ix .id xC) kt142k rfl rfl<|rI (t:=116) rfl<|f2<|f2<|Vq.end rfl)<|vb_ rfl<|vb_ rfl<|vb_ rfl<|vm_ rfl<|vo (fun _=>OpV.ixA dE Tryz.underlying319 sz142 rfl rfl) rfl<|vo (fun _=>OpV.ldI kt142 rfl) rfl<|vb_ rfl<|vm_ rfl<|vo (fun _=>OpV.ixA eE Tryz.underlying319 sz142 rfl rfl) rfl<|vo (fun _=>OpV.ldI kt142 rfl) rfl<|vn<|p1 29 rfl rfl<|b_ rfl<|pn<|p1 30 rfl rfl<|a_ rfl<|pn<|pd rfl<|tn<|sq<|ph rfl<|gV [0,1,2,3,4,5,6,7,8,9,10,11,12,13,14,15,16,17,18,19,20,21,22] [[18],[128],[18],[130],[129,131],[18],[133],[132,134],[18],[16],[137],[136,138],[18],[16],[141],[140,142],[139,143],[16],[145],[16],[147],[146,148],[144,149]] 3 (by kernel_rfl) rfl<|vm_ rfl<|Vq.v (fun G T hG=>cx Tryz.call256 rfl (o131 cE _)<|Vq.end rfl)<|vm_ rfl<|Vq.v (fun G T hG=>cx Tryz.call256 rfl (o131 qE _)<|Vq.end rfl)<|vb_ rfl<|vm_ rfl<|Vq.v (fun G T hG=>cx Tryz.call256 rfl (o131 rE _)<|Vq.end rfl)<|vb_ rfl<|vm_ rfl<|Vq.v (fun G T hG=>f2<|oX .box .id vC Tryz.underlying249 sz142k rfl<|f2<|f2<|Vq.end rfl)<|Vq.v (fun G T hG=>f2<|lP .box (.ix .id vC) kt142k rfl rfl<|rI (t:=138) rfl<|f2<|f2<|Vq.end rfl)<|vb_ rfl<|vm_ rfl<|Vq.v (fun G T hG=>f2<|oX .box .id kC Tryz.underlying249 sz142k rfl<|f2<|f2<|Vq.end rfl)<|Vq.v (fun G T hG=>f2<|lP .box (.ix .id kC) kt142k rfl rfl<|rI (t:=142) rfl<|f2<|f2<|Vq.end rfl)<|vb_ rfl<|vb_ rfl<|Vq.v (fun G T hG=>f2<|oX .box .id eC Tryz.underlying249 sz142k rfl<|f2<|f2<|Vq.end rfl)<|Vq.v (fun G T hG=>f2<|lP .box (.ix .id eC) kt142k rfl rfl<|rI (t:=146) rfl<|f2<|f2<|Vq.end rfl)<|Vq.v (fun G T hG=>f2<|oX .box .id qC Tryz.underlying249 sz142k rfl<|f2<|f2<|Vq.end rfl)<|Vq.v (fun G T hG=>f2<|lP .box (.ix .id qC) kt142k rfl rfl<|rI (t:=148) rfl<|f2<|f2<|Vq.end rfl)<|vb_ rfl<|vb_ rfl<|vn<|p1 23 rfl rfl<|b_ rfl<|pn<|p1 24 rfl rfl<|a_ rfl<|pn<|pd rfl<|tn<|rg<|m_ rfl<|mb rfl<|m_ rfl<|f2<|oX .box .id wC Tryz.underlying249 sz142k rfl<|lP .box (.ix .id wC) kt142k rfl rfl<|rI (t:=157) rfl<|oX .box .id mC Tryz.underlying249 sz142k rfl<|lP .box (.ix .id mC) kt142k rfl rfl<|rI (t:=159) rfl<|oX .box .id pC Tryz.underlying249 sz142k rfl<|lP .box (.ix .id pC) kt142k rfl rfl<|rI (t:=161) rfl<|mb rfl<|m_ rfl<|oX .box .id uC Tryz.underlying249 sz142k rfl<|lP .box (.ix .id uC) kt142k rfl rfl<|rI (t:=166) rfl<|oX .box .id yD Tryz.underlying249 sz142k rfl<|lP .box (.ix .id yD) kt142k rfl rfl<|rI (t:=168) rfl<|ov (OpV.bar (ys:=[IntKind.wrap .u32 ((IntKind.wrap .u32 ((IntKind.wrap .u32 ((IntKind.wrap .u32 ((IntKind.wrap .u32 (nA+(xorI .u32 (xorI .u32 pA tA) uA)))+(xorI .u32 (andI .u32 bA xB) (andI .u32 (cplI .u32 bA) yB))))+zB))+hB))+(IntKind.wrap .u32 ((xorI .u32 (xorI .u32 yC zC) hC)+(xorI .u32 (xorI .u32 (andI .u32 kA bC) (andI .u32 kA oC)) (andI .u32 dC cC))))),kA,rC,gC,IntKind.wrap .u32 (nC+(IntKind.wrap .u32 ((IntKind.wrap .u32 ((IntKind.wrap .u32 ((IntKind.wrap .u32 (nA+(xorI .u32 (xorI .u32 pA tA) uA)))+(xorI .u32 (andI .u32 bA xB) (andI .u32 (cplI .u32 bA) yB))))+zB))+hB))),bA,tC,xD]) BTA249 (BldA.cons rfl rfl rdI (BldA.cons rfl rfl rdI (BldA.cons rfl rfl rdI (BldA.cons rfl rfl rdI (BldA.cons rfl rfl rdI (BldA.cons rfl rfl rdI (BldA.cons rfl rfl rdI (BldA.cons rfl rfl rdI (BldA.nil _)))))))))) rfl<|sP (x':=[IntKind.wrap .u32 ((IntKind.wrap .u32 ((IntKind.wrap .u32 ((IntKind.wrap .u32 ((IntKind.wrap .u32 (nA+(xorI .u32 (xorI .u32 pA tA) uA)))+(xorI .u32 (andI .u32 bA xB) (andI .u32 (cplI .u32 bA) yB))))+zB))+hB))+(IntKind.wrap .u32 ((xorI .u32 (xorI .u32 yC zC) hC)+(xorI .u32 (xorI .u32 (andI .u32 kA bC) (andI .u32 kA oC)) (andI .u32 dC cC))))),kA,rC,gC,IntKind.wrap .u32 (nC+(IntKind.wrap .u32 ((IntKind.wrap .u32 ((IntKind.wrap .u32 ((IntKind.wrap .u32 (nA+(xorI .u32 (xorI .u32 pA tA) uA)))+(xorI .u32 (andI .u32 bA xB) (andI .u32 (cplI .u32 bA) yB))))+zB))+hB))),bA,tC,xD]) .box .id sz249k rfl rfl rdV rfl<|nl<|bN<|tn<|rg<|mb rfl<|a_ rfl<|nl<|f2<|f2<|nx () xA rfl rfl
   ·refine f2<|fz (t:=16) rfl<|xt<|te ?_
    cases ai xA bE
    exact te<|bh<|tn<|wr (gD _ (osi kB).symm) rfl
 ·refine bs oB fun bH wE oB=>sr<|a_ rfl<|nt<|bk<|f1<|f2<|lp wE () (fun gA zD=>[(2,.val K9 a2),(3,.raw (.int .i64 a3)),(4,pb b1),(5,.ptr K2 a1),(8,pb b2),(9,pb b3),(10,.raw (.int .i64 gA.1))]) (fun gA zD=>(.box K5 b1 249 a0)::(.box K5 b2 249 (List.replicate 8 (0:Int)))::(.box K2 b3 319 gA.2)::L) rfl rfl fun gA zD vH vA gE=>?_
  obtain⟨dA,hD⟩:=gA
  dsimp only at vA⊢
  refine sq<|sr<|mb rfl<|nt<|it vA rfl (fun vA=>?_) (fun vA=>?_)
  ·refine bs vA fun bB yA vA=>ct<|sq<|afr (r:=bB) (fun bB=>[(2,.val K9 a2),(3,.raw (.int .i64 a3)),(4,pb b1),(5,.ptr K2 a1),(8,pb b2),(9,pb b3),(10,.raw (.int .i64 dA))]) (fun bB=>((.box K5 b1 249 a0)::(.box K5 b2 249 (List.replicate 8 (0:Int)))::(.box K2 b3 319 bB)::L)) ?_ fun K bD=>?_
   ·exact rg<|mb rfl<|a_ rfl<|nl<|nx () vA rfl rfl
   ·refine bs yA fun mE oA yA=>bk<|sq<|Under.after (fun X=>∀(_:Unit),mE=(.inr ())→Under F0 184 [(2,.val K9 a2),(3,.raw (.int .i64 a3)),(4,pb b1),(5,.ptr K2 a1),(8,pb b2),(9,pb b3),(10,.raw (.int .i64 dA))] ((.box K5 b1 249 a0)::(.box K5 b2 249 (List.replicate 8 (0:Int)))::(.box K2 b3 319 hD)::L) X) ?_ ?_
    ·intro _ eB
     replace eB:=eB.symm
     subst eB
     exact bs yA fun nE vD yA=>bs yA fun pE oD yA=>bs yA fun tE uE yA=>bs yA fun xG yG yA=>bs yA fun zG bG yA=>bs yA fun vG oG yA=>bs yA fun kG kD yA=>bs yA fun dG dD yA=>bs yA fun oH eD yA=>sq<|ph rfl<|gV [0,1,2,3,4,5,6,7,8] [[10],[50],[9,51],[52],[10],[54],[9,55],[56],[53]] 3 (by kernel_rfl) rfl<|vm_ rfl<|vb_ rfl<|Vq.v (fun G T hG=>f2<|oX .box .id vD Tryz.underlying319 sz142k rfl<|f2<|f2<|Vq.end rfl)<|Vq.v (fun G T hG=>f2<|lP .box (.ix .id vD) kt142k rfl rfl<|rI (t:=53) rfl<|f2<|f2<|Vq.end rfl)<|vm_ rfl<|vb_ rfl<|Vq.v (fun G T hG=>f2<|oX .box .id oD Tryz.underlying319 sz142k rfl<|f2<|f2<|Vq.end rfl)<|Vq.v (fun G T hG=>f2<|lP .box (.ix .id oD) kt142k rfl rfl<|rI (t:=57) rfl<|f2<|f2<|Vq.end rfl)<|Vq.v (fun G T hG=>a_ rfl<|Vq.end rfl)<|vn<|p1 9 rfl rfl<|a_ rfl<|pn<|pd rfl<|tn<|sr<|m_ rfl<|cx Tryz.call256 rfl (o131 uE _)<|m_ rfl<|cx Tryz.call256 rfl (o131 yG _)<|b_ rfl<|m_ rfl<|ov (OpV.sh rfl rfl (by decide) rfl) rfl<|b_ rfl<|a_ rfl<|ns<|m_ rfl<|cx Tryz.call256 rfl (o131 bG _)<|m_ rfl<|cx Tryz.call256 rfl (o131 oG _)<|b_ rfl<|m_ rfl<|ov (OpV.sh rfl rfl (by decide) rfl) rfl<|b_ rfl<|a_ rfl<|nt<|ph rfl<|gV [0,1,2,3,4,5,6,7,8,9,10,11,12,13] [[10],[15],[10],[76],[9,77],[78],[75,79],[14],[80,81],[10],[83],[9,84],[85],[82,86]] 3 (by kernel_rfl) rfl<|vm_ rfl<|vm_ rfl<|vm_ rfl<|vb_ rfl<|Vq.v (fun G T hG=>f2<|oX .box .id kD Tryz.underlying319 sz142k rfl<|f2<|f2<|Vq.end rfl)<|Vq.v (fun G T hG=>f2<|lP .box (.ix .id kD) kt142k rfl rfl<|rI (t:=79) rfl<|f2<|f2<|Vq.end rfl)<|vb_ rfl<|vm_ rfl<|vb_ rfl<|vm_ rfl<|vb_ rfl<|Vq.v (fun G T hG=>f2<|oX .box .id dD Tryz.underlying319 sz142k rfl<|f2<|f2<|Vq.end rfl)<|Vq.v (fun G T hG=>f2<|lP .box (.ix .id dD) kt142k rfl rfl<|rI (t:=86) rfl<|f2<|f2<|Vq.end rfl)<|vb_ rfl<|vn<|p1 14 rfl rfl<|f2<|oX .box .id eD Tryz.underlying319 sz142k rfl<|pn<|p1 15 rfl rfl<|sP (x':=List.set hD (Int.toNat dA) (IntKind.wrap .u32 ((IntKind.wrap .u32 ((IntKind.wrap .u32 ((xorI .u32 (xorI .u32 zG vG) (shrI .u32 pE 10))+kG))+(xorI .u32 (xorI .u32 tE xG) (shrI .u32 nE 3))))+dG))) .box (.ix .id eD) sz142k rfl rfl rdI rfl<|pn<|pd rfl<|bN<|tn<|f2<|f2<|wr (bD _ (osi yA).symm) rfl
    ·intro K eG
     refine sr<|mb rfl<|nt<|it oA rfl (fun oA=>?_) (fun oA=>?_)
     ·refine bs oA fun vB cB oA=>sq<|afr (r:=vB) (fun vB=>[(2,.val K9 a2),(3,.raw (.int .i64 a3)),(4,pb b1),(5,.ptr K2 a1),(8,pb b2),(9,pb b3),(10,.raw (.int .i64 dA))]) (fun vB=>((.box K5 b1 249 a0)::(.box K5 b2 249 (List.replicate 8 (0:Int)))::(.box K2 b3 319 vB)::L)) ?_ fun K cG=>?_
      ·refine xt ?_
       cases osi oA
       exact te<|bh<|tn<|wr (bD _ (osi yA).symm) rfl
      ·refine bs cB fun kH qG cB=>sr<|a_ rfl<|nt<|bk<|lp qG () (fun mA cD=>[(2,.val K9 a2),(3,.raw (.int .i64 a3)),(4,pb b1),(5,.ptr K2 a1),(8,pb b2),(9,pb b3),(10,.raw (.int .i64 dA)),(11,.raw (.int .i64 mA.1))]) (fun mA cD=>(.box K5 b1 249 a0)::(.box K5 b2 249 (List.replicate 8 (0:Int)))::(.box K2 b3 319 mA.2)::L) rfl rfl fun mA cD dH hA rG=>?_
       obtain⟨eH,wG⟩:=mA
       dsimp only at hA⊢
       refine sq<|sr<|mb rfl<|nt<|it hA rfl (fun hA=>?_) (fun hA=>?_)
       ·exact bs hA fun gG qD hA=>bs hA fun mG nG hA=>bs hA fun cH rD hA=>ct<|sq<|bk<|ph rfl<|gV [0,1,2,3,4,5,6,7,8,9,10,11,12,13,14,15] [[10],[10],[9,34],[35],[36],[2],[3],[10],[40],[39,41],[11],[42,43],[38,44],[45],[46],[37,47]] 3 (by kernel_rfl) rfl<|vm_ rfl<|vm_ rfl<|Vq.v (fun G T hG=>f2<|oX .box .id qD Tryz.underlying319 sz142k rfl<|f2<|f2<|Vq.end rfl)<|Vq.v (fun G T hG=>f2<|lP .box (.ix .id qD) kt142k rfl rfl<|rI (t:=36) rfl<|f2<|f2<|Vq.end rfl)<|vo (fun _=>OpV.sh rfl rfl (by decide) rfl) rfl<|vm_ rfl<|vm_ rfl<|vm_ rfl<|vb_ rfl<|vb_ rfl<|vm_ rfl<|vb_ rfl<|vo (fun _=>OpV.ixS nG Tryz.underlying22 sz5 rfl rdV rfl) rfl<|vo (fun _=>OpV.ldI kt5 rfl) rfl<|vo (fun _=>OpV.conv (by kernel_rfl) Tryz.underlying142 rfl) rfl<|vb_ rfl<|vn<|p1 16 rfl rfl<|f2<|oX .box .id rD Tryz.underlying319 sz142k rfl<|pn<|p1 17 rfl rfl<|sP (x':=List.set wG (Int.toNat dA) (orI .u32 (shlI .u32 gG 8) (IntKind.wrap .u32 mG))) .box (.ix .id rD) sz142k rfl rfl rdI rfl<|pn<|pd rfl<|bN<|tn<|rg<|mb rfl<|a_ rfl<|nl<|f2<|f2<|nx () hA rfl rfl
       ·refine xt<|te ?_
        cases ai hA rG
        exact te<|bh<|tn<|wr (cG _ (osi cB).symm) rfl
     ·exact ct<|wr (eG () (osi oA).symm) rfl
  ·refine f2<|fz (t:=9) rfl<|xt<|te ?_
   cases ai vA gE
   exact te<|bh<|tn<|wr (wD _ (osi oB).symm) rfl
noncomputable def de (a0:List Int):Option (List Int):=
 (fG).bind fun y3=>
 (el a0).bind fun y6=>
 (((Loop.run (S:=(Int×(List Int))) (R:=(List Int)) (fun(xA,zA)=>
   bif decide (xA<(y6.length:Int)) then
    (ep zA y3 y6 xA).bind fun hA=>
    some (.next (IntKind.wrap .i64 (xA+64),hA))
   else
    some (.done zA)) (0,[1779033703,3144134277,1013904242,2773480762,1359893119,2600822924,528734635,1541459225])).bind fun bA=>
 some bA
  :Option (List Int))).bind fun oA=>
 (((Loop.run (S:=(Int×(List Int))) (R:=(List Int)) (fun(yA,vA)=>
   bif decide (yA<32) then
    (idx oA (IntKind.wrap .i64 (Int.tdiv yA 4))).bind fun kA=>
    bif decide (0≤(IntKind.wrap .i64 (24 - (IntKind.wrap .i64 (8*(Int.tmod yA 4)))))) then
    (idx vA yA).bind fun dA=>
    some (.next (IntKind.wrap .i64 (yA+1),List.set vA (Int.toNat yA) (IntKind.wrap .u8 (shrI .u32 kA (IntKind.wrap .i64 (24 - (IntKind.wrap .i64 (8*(Int.tmod yA 4)))))))))
    else none
   else
    some (.done vA)) (0,(List.replicate 32 (0:Int)))).bind fun eA=>
 some eA
  :Option (List Int))).bind fun cA=>
 some cA
theorem o133 {a0:List Int} {r0:(List Int)} (hF:de a0=some r0) (L:List Res):Ok Tryz.prog 237 [SV.val K9 a0] L (SV.val K6 r0) L:=by
 unfold de at hF
 refine okI 41 Tryz.func237 rfl rfl rfl fun F0=>?_
 refine bs hF fun y3 h4 hF=>bs hF fun y6 h7 hF=>bs hF fun bA eA hF=>sr<|al ZT179 rfl fun b1=>ns<|ov (OpV.bar (ys:=[1779033703,3144134277,1013904242,2773480762,1359893119,2600822924,528734635,1541459225]) BTA249 (BldA.cons rfl rfl rdI (BldA.cons rfl rfl rdI (BldA.cons rfl rfl rdI (BldA.cons rfl rfl rdI (BldA.cons rfl rfl rdI (BldA.cons rfl rfl rdI (BldA.cons rfl rfl rdI (BldA.cons rfl rfl rdI (BldA.nil _)))))))))) rfl<|al ZT249 rfl fun b2=>sP (x':=[1779033703,3144134277,1013904242,2773480762,1359893119,2600822924,528734635,1541459225]) .box .id sz249k rfl rfl rdV rfl<|ns<|cx Tryz.call251 rfl (o129 h4 _)<|al ZT319 rfl fun b5=>sP (x':=y3) .box .id sz319k rfl rfl rdV rfl<|nl<|fz (t:=4) rfl<|tn<|sr<|m_ rfl<|cx Tryz.call252 rfl (o130 h7 _)<|a_ rfl<|nt<|sq<|afr (r:=bA) (fun bA=>[(2,pb b1),(3,.ptr K5 bA)]) (fun bA=>((.box K6 b1 179 (List.replicate 32 (0:Int)))::L)) ?_ fun K pA=>?_
 ·refine bs hF fun vA cA hF=>sr<|al ZT179 rfl fun mA=>nt<|sq<|afr (r:=vA) (fun vA=>[(2,pb b1),(7,.ptr K6 vA)]) (fun vA=>((.box K6 b1 179 (List.replicate 32 (0:Int)))::L)) ?_ fun K tA=>?_
  ·refine sr<|oL kt179 rfl<|sP (x':=vA) .box .id sz179k rfl rfl rdV rfl<|nl<|fz (t:=2) rfl<|tn<|rc ?_
   cases osi hF
   exact rs Tryz.results237 (.ce rfl kt179 .nil) rfl rfl
  ·refine bs cA fun cB uA cA=>sr<|a_ rfl<|nt<|bk<|f1<|lp uA () (fun zA oA=>[(2,pb b1),(3,.ptr K5 bA),(7,pb mA),(8,.raw (.int .i64 zA.1))]) (fun zA oA=>(.box K6 b1 179 (List.replicate 32 (0:Int)))::(.box K6 mA 179 zA.2)::L) rfl rfl fun zA oA qB yA xB=>?_
   obtain⟨nA,yB⟩:=zA
   dsimp only at yA⊢
   refine sq<|sr<|mb rfl<|nt<|it yA rfl (fun yA=>?_) (fun yA=>?_)
   ·exact bs yA fun zB hB yA=>gs yA fun bB yA=>bs yA fun vB kA yA=>ct<|sq<|bk<|rg<|m_ rfl<|m_ rfl<|ov (OpV.quo rfl rfl (by decide) rfl) rfl<|ov (OpV.ixA hB Tryz.underlying249 sz142 rfl rfl) rfl<|oI kt142 rfl<|m_ rfl<|ov (OpV.quo rfl rfl (by decide) rfl) rfl<|b_ rfl<|b_ rfl<|ov (OpV.sh rfl rfl (of_decide_eq_true bB) rfl) rfl<|oC (by kernel_rfl) Tryz.underlying5 rfl<|f1<|oX .box .id kA Tryz.underlying179 sz5k rfl<|sP (x':=List.set yB (Int.toNat nA) (IntKind.wrap .u8 (shrI .u32 zB (IntKind.wrap .i64 (24 - (IntKind.wrap .i64 (8*(Int.tmod nA 4)))))))) .box (.ix .id kA) sz5k rfl rfl rdI rfl<|nl<|bN<|tn<|rg<|mb rfl<|a_ rfl<|nl<|f1<|nx () yA rfl rfl
   ·refine f1<|fz (t:=7) rfl<|xt<|te ?_
    cases ai yA xB
    exact te<|bh<|tn<|wr (tA _ (osi cA).symm) rfl
 ·refine bs eA fun oB qA eA=>sr<|a_ rfl<|nt<|bk<|f1<|lp qA () (fun hA dA=>[(2,pb b1),(3,pb b2),(4,.ptr K2 y3),(5,.val K9 y6),(6,.raw (.int .i64 hA.1))]) (fun hA dA=>(.box K6 b1 179 (List.replicate 32 (0:Int)))::(.box K5 b2 249 hA.2)::L) rfl rfl fun hA dA kB xA rA=>?_
  obtain⟨dB,eB⟩:=hA
  dsimp only at xA⊢
  refine sq<|sr<|m_ rfl<|m_ rfl<|oN Tryz.underlying22 rfl<|b_ rfl<|nt<|it xA rfl (fun xA=>?_) (fun xA=>?_)
  ·exact bs xA fun wA gA xA=>ct<|sq<|bk<|rg<|f1<|lP .box .id kt249k rfl rfl<|oL kt319 rfl<|m_ rfl<|m_ rfl<|cx Tryz.call253 rfl (o132 gA _)<|sP (x':=wA) .box .id sz249k rfl rfl rdV rfl<|nl<|bN<|tn<|rg<|mb rfl<|a_ rfl<|nl<|f1<|nx () xA rfl rfl
  ·refine f1<|fz (t:=3) rfl<|xt<|te ?_
   cases ai xA rA
   exact te<|bh<|tn<|wr (pA _ (osi eA).symm) rfl
noncomputable def cR (a0:List Int) (a1:Int):Option (List Int):=
 ((bif decide ((a0.length:Int)>64) then
  (de a0).bind fun zA=>
  some zA
 else
  some a0
  :Option (List Int))).bind fun x4=>
 (((Loop.run (S:=((List Int)×Int)) (R:=(List Int)) (fun(yA,xA)=>
   bif decide (xA<64) then
    ((bif decide (xA<(x4.length:Int)) then
     (idx x4 xA).bind fun hA=>
     some hA
    else
     some 0
     :Option Int)).bind fun bA=>
    (app yA [xorI .u8 bA a1]).bind fun vA=>
    some (.next (vA,IntKind.wrap .i64 (xA+1)))
   else
    some (.done yA)) ([],0)).bind fun oA=>
 some oA
  :Option (List Int))).bind fun kA=>
 some kA
theorem o134 {a0:List Int} {a1:Int} {r0:(List Int)} (hF:cR a0 a1=some r0) (L:List Res):OkX Tryz.prog 238 [SV.val K9 a0,SV.raw (.int .u8 a1)] L (fun y:Value=>SV.raw y) (fun y:Value=>(.own K12 y 5 r0)::L):=by
 unfold cR at hF
 refine OkX.intro 34 [(0,.val K9 a0),(1,.raw (.int .u8 a1))] Tryz.func238 rfl rfl rfl rfl fun F0=>?_
 refine bs hF fun x4 h6 hF=>sr<|a_ rfl<|nt<|sq<|afr (r:=x4) (fun x4=>[(0,.val K9 x4),(1,.raw (.int .u8 a1))]) (fun x4=>(L)) ?_ fun K k7=>?_
 ·refine bs hF fun uA dA hF=>sr<|a_ rfl<|nt<|sq<|Under.after (fun X=>∀(eA:List Int) (kA:Value),uA=eA→Under F0 34 [(6,.raw kA)] ((.own K12 kA 5 eA)::L) X) ?_ ?_
  ·intro eA kA vA
   replace vA:=vA.symm
   subst vA
   refine sr<|m_ rfl<|a_ rfl<|nt<|rc ?_
   cases osi hF
   exact Under.retsX kA Tryz.results238 (.tm rfl .nil) rfl rfl
  ·intro K xB
   refine bs dA fun yB cA dA=>sr<|a_ rfl<|nt<|bk<|Under.ownNil (K:=kInt .u8) (e:=5)<|lp cA (C:=Value) (.slice none 0 0) (fun hA zA=>[(0,.val K9 x4),(1,.raw (.int .u8 a1)),(6,.raw zA),(7,.raw (.int .i64 hA.2))]) (fun hA zA=>(.own K12 zA 5 hA.1)::L) rfl rfl fun hA zA zB xA qA=>?_
   obtain⟨rA,wA⟩:=hA
   dsimp only at xA⊢
   refine sq<|sr<|mb rfl<|nt<|it xA rfl (fun xA=>?_) (fun xA=>?_)
   ·refine bs xA fun bA yA xA=>ct<|sq<|bk<|sr<|a_ rfl<|nt<|sq<|afr (r:=bA) (fun bA=>[(0,.val K9 x4),(1,.raw (.int .u8 a1)),(6,.raw zA),(7,.raw (.int .i64 wA)),(8,.raw (.int .u8 bA))]) (fun bA=>((.own K12 zA 5 rA)::L)) ?_ fun K oA=>?_
    ·exact bs xA fun hB gA xA=>rg<|m_ rfl<|m_ rfl<|mb rfl<|bF (ys:=[xorI .u8 bA a1]) Tryz.underlying22 ET5 (BldA.cons rfl rfl rdI (BldA.nil _)) rfl rfl<|ap gA Tryz.underlying22 AT5 rfl rfl rdV rfl fun mA=>a_ rfl<|nl<|bN<|tn<|rg<|mb rfl<|a_ rfl<|nl<|nx mA xA rfl rfl
    ·refine sr<|m_ rfl<|m_ rfl<|oN Tryz.underlying22 rfl<|b_ rfl<|nt<|it yA rfl (fun yA=>?_) (fun yA=>?_)
     ·exact bs yA fun bB nA yA=>rg<|m_ rfl<|m_ rfl<|oS nA Tryz.underlying22 sz5 rfl<|oI kt5 rfl<|a_ rfl<|nt<|wr (oA _ (osi yA).symm) rfl
     ·exact ct<|wr (oA _ (osi yA).symm) rfl
   ·refine xt<|te ?_
    cases ai xA qA
    exact te<|bh<|tn<|wr (xB _ _ (osi dA).symm) rfl
 ·refine sr<|m_ rfl<|oN Tryz.underlying22 rfl<|b_ rfl<|nt<|it h6 rfl (fun h6=>?_) (fun h6=>?_)
  ·exact bs h6 fun pA tA h6=>sr<|m_ rfl<|cx Tryz.call237 rfl (o133 tA _)<|al ZT179 rfl fun vB=>sP (x':=pA) .box .id sz179k rfl rfl rdV rfl<|nl<|fz (t:=5) rfl<|tn<|rg<|ov (OpV.slA Tryz.underlying179 sz5 rfl) rfl<|a_ rfl<|nt<|wr (k7 _ (osi h6).symm) rfl
  ·exact ct<|wr (k7 _ (osi h6).symm) rfl
noncomputable def dN (a0:List Int) (a1:List Int):Option (List Int):=
 (cR a0 54).bind fun y2=>
 (app y2 a1).bind fun z5=>
 (de z5).bind fun y8=>
 (cR a0 92).bind fun xA=>
 (app xA y8).bind fun yA=>
 (de yA).bind fun zA=>
 some zA
theorem o135 {a0 a1:List Int} {r0:(List Int)} (hF:dN a0 a1=some r0) (L:List Res):Ok Tryz.prog 195 [SV.val K9 a0,SV.val K9 a1] L (SV.val K6 r0) L:=by
 unfold dN at hF
 refine okI 16 Tryz.func195 rfl rfl rfl fun F0=>?_
 refine bs hF fun y2 h3 hF=>sr<|al ZT179 rfl fun b1=>ns<|m_ rfl<|Under.callX Tryz.call238 rfl rfl (o134 h3 _) rfl ?_
 rintro v4
 refine bs hF fun z5 h6 hF=>bs hF fun y8 h9 hF=>bs hF fun yA zA hF=>bs hF fun kA hA hF=>bs hF fun bA vA hF=>m_ rfl<|ap h6 Tryz.underlying22 AT5 rfl rfl rdV rfl fun v7=>fzO (t:=9) rfl<|cx Tryz.call237 rfl (o133 h9 _)<|al ZT179 rfl fun dA=>sP (x':=y8) .box .id sz179k rfl rfl rdV rfl<|nl<|fz (t:=5) rfl<|tn<|sq<|ph rfl<|Under.grpT (L:=L) [0,1,2] [[0],[11],[5]] [⟨sk0 (.val K9 a0),[],[],[]⟩,⟨sk1 1 (fun u1=> .raw u1),[],[(0,tk1 1 (fun u1=> .own K12 u1 5 yA))],[]⟩,⟨sk0 (.val K9 y8),[],[],[]⟩] [] (fun T:List Res=>(.box K6 b1 179 (List.replicate 32 (0:Int)))::T) lf1 rfl (by kernel_rfl) rfl rfl (fun F hF0 xA=>?_)
 refine Tq.v (fun G T hG=>?_) ?_
 ·exact m_ rfl<|Tq.end undef rfl rfl
 refine Tq.st (.raw (xA 1)) [] rfl rfl (fun G T hG=>?_) ?_
 ·refine Under.callX Tryz.call238 rfl rfl (o134 zA _) rfl ?_
  rintro oA
  exact Tq.end oA rfl rfl
 refine Tq.v (fun G T hG=>?_) ?_
 ·exact ov (OpV.slA Tryz.underlying179 sz5 rfl) rfl<|Tq.end undef rfl rfl
 refine Tq.nil<|Under.le hF0<|p1 3 rfl rfl<|f1<|ap hA Tryz.underlying22 AT5 rfl rfl rdV rfl fun eA=>pn<|p1 4 rfl rfl<|fzO (t:=14) rfl<|cx Tryz.call237 rfl (o133 vA _)<|pn<|p1 5 rfl rfl<|sP (x':=bA) .box .id sz179k rfl rfl rdV rfl<|pn<|pd rfl<|fz (t:=4) rfl<|tn<|rc ?_
 cases osi hF
 exact rs Tryz.results195 (.ce rfl kt179 .nil) rfl rfl
noncomputable def fk (a0:List Int) (a1:List Int):Option (List Int):=
 (dN a0 a1).bind fun y2=>
 some y2
theorem o136 {a0 a1:List Int} {r0:(List Int)} (hF:fk a0 a1=some r0) (L:List Res):Ok Tryz.prog 144 [SV.val K9 a0,SV.val K9 a1] L (SV.val K6 r0) L:=by
 unfold fk at hF
 refine okI 8 Tryz.func144 rfl rfl rfl fun F0=>?_
 refine bs hF fun y2 h3 hF=>sr<|al ZT179 rfl fun b1=>ns<|m_ rfl<|m_ rfl<|cx Tryz.call195 rfl (o135 h3 _)<|sP (x':=y2) .box .id sz179k rfl rfl rdV rfl<|nl<|fz (t:=4) rfl<|tn<|rc ?_
 cases osi hF
 exact rs Tryz.results144 (.ce rfl kt179 .nil) rfl rfl
noncomputable def eu (a0:List Int) (a1:List Int) (a2:Int):Option ((List Int)×Int):=
 bif decide (a2<0) then
  some ([],2)
 else
  bif decide (a2>8160) then
   some ([],1)
  else
   (((Loop.run (S:=((List Int)×(List Int)×Int)) (R:=(List Int)) (fun(xA,hA,yA)=>
     bif decide ((xA.length:Int)<a2) then
      (app [] hA).bind fun bA=>
      (app bA a1).bind fun vA=>
      (app vA [IntKind.wrap .u8 yA]).bind fun oA=>
      (dN a0 oA).bind fun zA=>
      (app xA zA).bind fun kA=>
      some (.next (kA,zA,IntKind.wrap .i64 (yA+1)))
     else
      some (.done xA)) ([],[],1)).bind fun dA=>
   some dA
    :Option (List Int))).bind fun eA=>
   (sub eA 0 a2).bind fun cA=>
   bif decide (a2≤a2∧a2≤(eA.length:Int)) then
   some (cA,0)
   else none
theorem o137 {a0 a1:List Int} {a2:Int} {r0:((List Int)×Int)} (hF:eu a0 a1 a2=some r0) (L:List Res):Ok Tryz.prog 145 [SV.val K9 a0,SV.val K9 a1,SV.raw (.int .i64 a2)] L (SV.tup [SV.val K9 r0.1,SV.raw (.int .i64 r0.2)]) L:=by
 unfold eu at hF
 refine okI 41 Tryz.func145 rfl rfl rfl fun F0=>?_
 refine sr<|a_ rfl<|a_ rfl<|nt<|sq<|sr<|mb rfl<|nt<|it hF rfl (fun hF=>?_) (fun hF=>?_)
 ·refine sr<|a_ rfl<|a_ rfl<|nt<|rt<|tV (K:=kSl K12) (x:=[]) (t:=6) rfl rdN ?_
  cases osi hF
  exact rs Tryz.results145 (.tm rfl (.tm rfl .nil)) rfl rfl
 ·refine ct<|sq<|sr<|mb rfl<|nt<|it hF rfl (fun hF=>?_) (fun hF=>?_)
  ·refine sr<|a_ rfl<|a_ rfl<|nt<|rt<|tV (K:=kSl K12) (x:=[]) (t:=6) rfl rdN ?_
   cases osi hF
   exact rs Tryz.results145 (.tm rfl (.tm rfl .nil)) rfl rfl
  ·refine bs hF fun hA bA hF=>ct<|sr<|a_ rfl<|a_ rfl<|nt<|sq<|afr (r:=hA) (fun hA=>[(2,.raw (.int .i64 a2)),(8,.val K9 hA)]) (fun hA=>(L)) ?_ fun K mA=>?_
   ·refine bs hF fun qB nA hF=>gs hF fun pA hF=>sr<|m_ rfl<|m_ rfl<|m_ rfl<|ov (OpV.sl3 nA pA Tryz.underlying22 sz5 rfl rdV rfl rfl rfl) rfl<|a_ rfl<|a_ rfl<|nt<|rc ?_
    cases osi hF
    exact rs Tryz.results145 (.tm rfl (.tm rfl .nil)) rfl rfl
   ·refine bs bA fun tA vA bA=>sr<|a_ rfl<|nt<|bk<|Under.ownNil (K:=kInt .u8) (e:=5)<|tV (K:=kSl K12) (x:=[]) (t:=9) rfl rdN<|lp vA (C:=Value) (.slice none 0 0) (fun yA zA=>[(0,.val K9 a0),(1,.val K9 a1),(2,.raw (.int .i64 a2)),(8,.raw zA),(9,.val K9 yA.2.1),(10,.raw (.int .i64 yA.2.2))]) (fun yA zA=>(.own K12 zA 5 yA.1)::L) rfl rfl fun yA zA uA xA oA=>?_
    obtain⟨xB,yB,kA⟩:=yA
    dsimp only at xA⊢
    refine sq<|sr<|m_ rfl<|ov (OpV.lenO Tryz.underlying22 rfl) rfl<|mb rfl<|nt<|it xA rfl (fun xA=>?_) (fun xA=>?_)
    ·exact bs xA fun zB dA xA=>bs xA fun hB eA xA=>bs xA fun bB cA xA=>bs xA fun qA rA xA=>bs xA fun vB wA xA=>ct<|sq<|bk<|sr<|m_ rfl<|bO (ys:=[]) Tryz.underlying22 ET5 (BldA.nil _) rfl rfl fun oB=>m_ rfl<|ap dA Tryz.underlying22 AT5 rfl rfl rdV rfl fun kB=>m_ rfl<|ap eA Tryz.underlying22 AT5 rfl rfl rdV rfl fun dB=>m_ rfl<|oC (by kernel_rfl) Tryz.underlying5 rfl<|bF (ys:=[IntKind.wrap .u8 kA]) Tryz.underlying22 ET5 (BldA.cons rfl rfl rdI (BldA.nil _)) rfl rfl<|ap cA Tryz.underlying22 AT5 rfl rfl rdV rfl fun eB=>fzO (t:=31) rfl<|cx Tryz.call195 rfl (o135 rA _)<|al ZT179 rfl fun cB=>sP (x':=qA) .box .id sz179k rfl rfl rdV rfl<|nl<|fz (t:=11) rfl<|tn<|sr<|ov (OpV.slA Tryz.underlying179 sz5 rfl) rfl<|a_ rfl<|nt<|rg<|m_ rfl<|m_ rfl<|ap wA Tryz.underlying22 AT5 rfl rfl rdV rfl fun gA=>a_ rfl<|nl<|bN<|tn<|rg<|mb rfl<|a_ rfl<|nl<|nx gA xA rfl rfl
    ·refine fzO (t:=8) rfl<|xt<|te ?_
     cases ai xA oA
     exact te<|bh<|tn<|wr (mA _ (osi bA).symm) rfl
noncomputable def cT (a0:List Int) (a1:List Int) (a2:List Int) (a3:Int):Option ((List Int)×Int):=
 (fk a1 a0).bind fun y1=>
 (eu y1 a2 a3).bind fun y4=>
 some (y4.1,y4.2)
theorem o138 {a0 a1 a2:List Int} {a3:Int} {r0:((List Int)×Int)} (hF:cT a0 a1 a2 a3=some r0) (L:List Res):Ok Tryz.prog 88 [SV.val K9 a0,SV.val K9 a1,SV.val K9 a2,SV.raw (.int .i64 a3)] L (SV.tup [SV.val K9 r0.1,SV.raw (.int .i64 r0.2)]) L:=by
 unfold cT at hF
 refine okI 20 Tryz.func88 rfl rfl rfl fun F0=>?_
 refine bs hF fun y1 h2 hF=>bs hF fun y4 h5 hF=>sr<|a_ rfl<|a_ rfl<|ns<|m_ rfl<|m_ rfl<|cx Tryz.call144 rfl (o136 h2 _)<|al ZT179 rfl fun b3=>sP (x':=y1) .box .id sz179k rfl rfl rdV rfl<|nl<|fz (t:=10) rfl<|tn<|sr<|ov (OpV.slA Tryz.underlying179 sz5 rfl) rfl<|m_ rfl<|m_ rfl<|cx Tryz.call145 rfl (o137 h5 _)<|oE rfl<|oE rfl<|a_ rfl<|a_ rfl<|nt<|rc ?_
 cases osi hF
 exact rs Tryz.results88 (.tm rfl (.tm rfl .nil)) rfl rfl
noncomputable def fM (a0:List Int) (a1:Int):Option ((List Int)×Int):=
 bif (((a0.length:Int) != 32)||(decide (a1<0)))||(decide (a1>4611686018427387904)) then
  some ([],2)
 else
  (((Loop.run (S:=((List Int)×Int)) (R:=(List Int)) (fun(yA,xA)=>
    bif decide (xA≥0) then
     bif decide (0≤(IntKind.wrap .u64 xA)) then
     (app yA [IntKind.wrap .u8 (shrI .i64 a1 (IntKind.wrap .u64 xA))]).bind fun hA=>
     some (.next (hA,IntKind.wrap .i64 (xA - 8)))
     else none
    else
     some (.done yA)) ([],56)).bind fun bA=>
  some bA
   :Option (List Int))).bind fun vA=>
  bif decide (0<[99,104,117,114,110,32,104,111,112].length) then
  (cT a0 vA [99,104,117,114,110,32,104,111,112] 32).bind fun zA=>
  some (zA.1,zA.2)
  else none
theorem o139 {a0:List Int} {a1:Int} {r0:((List Int)×Int)} (hF:fM a0 a1=some r0) (L:List Res):Ok Tryz.prog 33 [SV.val K9 a0,SV.raw (.int .i64 a1)] L (SV.tup [SV.val K9 r0.1,SV.raw (.int .i64 r0.2)]) L:=by
 unfold fM at hF
 refine okI 38 Tryz.func33 rfl rfl rfl fun F0=>?_
 refine sr<|a_ rfl<|a_ rfl<|nt<|sq<|sr<|m_ rfl<|oN Tryz.underlying22 rfl<|b_ rfl<|m_ rfl<|cN 14 (((a0.length:Int) != 32)||(decide (a1<0))) ?_ (fun k=>?_)
 ·refine m_ rfl<|cN 18 ((((a0.length:Int) != 32)||(decide (a1<0)))||(decide (a1>4611686018427387904))) ?_ (fun k=>?_)
  ·refine nt<|it hF rfl (fun hF=>?_) (fun hF=>?_)
   ·refine sr<|a_ rfl<|a_ rfl<|nt<|rt<|tV (K:=kSl K12) (x:=[]) (t:=4) rfl rdN ?_
    cases osi hF
    exact rs Tryz.results33 (.tm rfl (.tm rfl .nil)) rfl rfl
   ·refine bs hF fun zA bA hF=>ct<|sr<|a_ rfl<|nt<|sq<|afr (r:=zA) (fun zA=>[(0,.val K9 a0),(6,.val K9 zA)]) (fun zA=>(L)) ?_ fun K vA=>?_
    ·refine gs hF fun oA hF=>bs hF fun gA kA hF=>sr<|m_ rfl<|m_ rfl<|bO (ys:=[99,104,117,114,110,32,104,111,112]) Tryz.underlying22 ET5 (BldA.cons rfl rfl rdI (BldA.cons rfl rfl rdI (BldA.cons rfl rfl rdI (BldA.cons rfl rfl rdI (BldA.cons rfl rfl rdI (BldA.cons rfl rfl rdI (BldA.cons rfl rfl rdI (BldA.cons rfl rfl rdI (BldA.cons rfl rfl rdI (BldA.nil _)))))))))) rfl rfl fun mA=>Under.cvS Tryz.underlying22 Tryz.underlying5 (of_decide_eq_true oA) rfl rfl<|cx Tryz.call88 rfl (o138 kA _)<|oE rfl<|oE rfl<|a_ rfl<|a_ rfl<|nt<|rc ?_
     cases osi hF
     exact rs Tryz.results33 (.tm rfl (.tm rfl .nil)) rfl rfl
    ·refine bs bA fun nA dA bA=>sr<|a_ rfl<|nt<|bk<|Under.ownNil (K:=kInt .u8) (e:=5)<|lp dA (C:=Value) (.slice none 0 0) (fun yA hA=>[(0,.val K9 a0),(1,.raw (.int .i64 a1)),(6,.raw hA),(7,.raw (.int .i64 yA.2))]) (fun yA hA=>(.own K12 hA 5 yA.1)::L) rfl rfl fun yA hA pA xA eA=>?_
     obtain⟨tA,cA⟩:=yA
     dsimp only at xA⊢
     refine sq<|sr<|mb rfl<|nt<|it xA rfl (fun xA=>?_) (fun xA=>?_)
     ·exact gs xA fun qA xA=>bs xA fun uA rA xA=>ct<|sq<|bk<|rg<|m_ rfl<|m_ rfl<|m_ rfl<|oC (by kernel_rfl) Tryz.underlying74 rfl<|ov (OpV.sh rfl rfl (of_decide_eq_true qA) rfl) rfl<|oC (by kernel_rfl) Tryz.underlying5 rfl<|bF (ys:=[IntKind.wrap .u8 (shrI .i64 a1 (IntKind.wrap .u64 cA))]) Tryz.underlying22 ET5 (BldA.cons rfl rfl rdI (BldA.nil _)) rfl rfl<|ap rA Tryz.underlying22 AT5 rfl rfl rdV rfl fun wA=>a_ rfl<|nl<|bN<|tn<|rg<|mb rfl<|a_ rfl<|nl<|nx wA xA rfl rfl
     ·refine fzO (t:=6) rfl<|xt<|te ?_
      cases ai xA eA
      exact te<|bh<|tn<|wr (vA _ (osi bA).symm) rfl
  ·refine by_ (t:=15) rfl (fun c4=>?_) (fun c4=>?_)
   ·exact sk_ c4 rfl<|sk_ c4 rfl<|pT c4 rfl<|rf 2 (or_t (e:=decide (a1>4611686018427387904)) c4) rfl k
   ·exact gc_ c4 rfl<|m_ rfl<|gc_ c4 rfl<|b_ rfl<|pF c4 rfl<|rf 2 (or_f c4) rfl k
 ·refine by_ (t:=11) rfl (fun c1=>?_) (fun c1=>?_)
  ·exact sk_ c1 rfl<|sk_ c1 rfl<|pT c1 rfl<|rf 2 (or_t (e:=decide (a1<0)) c1) rfl k
  ·exact gc_ c1 rfl<|m_ rfl<|gc_ c1 rfl<|b_ rfl<|pF c1 rfl<|rf 2 (or_f c1) rfl k
noncomputable def df (a0:List Int) (a1:Int):Option Bool:=
 (((Loop.run (S := Int) (R := (Unit ⊕ Bool)) (fun xA =>
   bif decide (xA<(a0.length:Int)) then
    (idx a0 xA).bind fun yA=>
    bif yA != 0 then
     some (.done (.inr false))
    else
     some (.next (IntKind.wrap .i64 (xA+1)))
   else
    some (.done (.inl ()))) a1).bind fun zA=>match zA with
  | .inl _=>
   some (.inr ())
  | .inr z=>
   some (.inl z)
  : Option (Bool ⊕ Unit))).bind fun hA => match hA with
  | .inl z=>
   some z
  | .inr _=>
   some true
theorem o140 {a0:List Int} {a1:Int} {r0:Bool} (hF:df a0 a1=some r0) (L:List Res):Ok Tryz.prog 196 [SV.val K9 a0,SV.raw (.int .i64 a1)] L (SV.raw (.bool r0)) L:=by
 unfold df at hF
 refine okI 16 Tryz.func196 rfl rfl rfl fun F0=>?_
 refine bs hF fun oA yA hF=>sr<|a_ rfl<|nt<|sq<|Under.after (fun X=>∀(_:Unit),oA=(.inr ())→Under F0 16 [] (L) X) ?_ ?_
 ·intro _ zA
  replace zA:=zA.symm
  subst zA
  refine sr<|a_ rfl<|nt<|rc ?_
  cases osi hF
  exact rs Tryz.results196 (.tm rfl .nil) rfl rfl
 ·intro K kA
  refine bs yA fun cA dA yA=>bk<|lp dA () (fun hA bA=>[(0,.val K9 a0),(1,.raw (.int .i64 hA))]) (fun hA bA=>L) rfl rfl fun hA bA qA xA vA=>?_
  refine sq<|sr<|m_ rfl<|m_ rfl<|oN Tryz.underlying22 rfl<|b_ rfl<|nt<|it xA rfl (fun xA=>?_) (fun xA=>?_)
  ·refine bs xA fun rA eA xA=>ct<|sq<|bk<|sr<|m_ rfl<|m_ rfl<|oS eA Tryz.underlying22 sz5 rfl<|oI kt5 rfl<|b_ rfl<|nt<|it xA rfl (fun xA=>?_) (fun xA=>?_)
   ·refine sr<|a_ rfl<|nt<|rc<|Under.bR<|tr ?_
    cases ai xA vA
    refine tr<|Under.bR<|tr ?_
    cases osi yA
    cases osi hF
    exact rs Tryz.results196 (.tm rfl .nil) rfl rfl
   ·exact cs<|bN<|tn<|rg<|mb rfl<|a_ rfl<|nl<|nx () xA rfl rfl
  ·refine xt<|te ?_
   cases ai xA vA
   exact te<|bh<|tn<|wr (kA () (osi yA).symm) rfl
noncomputable def fm (a0:List Int):Option ((List Int)×Bool×Int):=
 bif (a0.length:Int) != 320 then
  some ([],false,50)
 else
  (idx a0 0).bind fun x2=>
  bif decide (x2>1) then
   some ([],false,52)
  else
   (idx a0 0).bind fun x5=>
   bif x5==0 then
    some ([],false,0)
   else
    (idx a0 1).bind fun x8=>
    bif decide (x8>48) then
     some ([],false,53)
    else
     (idx a0 1).bind fun xA=>
     (df a0 (IntKind.wrap .i64 (2+(IntKind.wrap .i64 xA)))).bind fun yA=>
     bif !yA then
      some ([],false,51)
     else
      (idx a0 1).bind fun zA=>
      (sub a0 2 (IntKind.wrap .i64 (2+(IntKind.wrap .i64 zA)))).bind fun hA=>
      (app [] hA).bind fun bA=>
      some (bA,true,0)
theorem o141 {a0:List Int} {r0:((List Int)×Bool×Int)} (hF:fm a0=some r0) (L:List Res):Ok Tryz.prog 153 [SV.val K9 a0] L (SV.tup [SV.val K9 r0.1,SV.raw (.bool r0.2.1),SV.raw (.int .i64 r0.2.2)]) L:=by
 unfold fm at hF
 refine okI 42 Tryz.func153 rfl rfl rfl fun F0=>?_
 refine sr<|a_ rfl<|a_ rfl<|a_ rfl<|nt<|sq<|bk<|sr<|m_ rfl<|oN Tryz.underlying22 rfl<|b_ rfl<|a_ rfl<|nt<|it hF rfl (fun hF=>?_) (fun hF=>?_)
 ·refine sr<|a_ rfl<|a_ rfl<|a_ rfl<|nt<|rc<|Under.bR<|tr<|tV (K:=kSl K12) (x:=[]) (t:=2) rfl rdN ?_
  cases osi hF
  exact rs Tryz.results153 (.tm rfl (.tm rfl (.tm rfl .nil))) rfl rfl
 ·refine bs hF fun x2 h3 hF=>sr<|m_ rfl<|oS h3 Tryz.underlying22 sz5 rfl<|oI kt5 rfl<|b_ rfl<|a_ rfl<|nt<|it hF rfl (fun hF=>?_) (fun hF=>?_)
  ·refine sr<|a_ rfl<|a_ rfl<|a_ rfl<|nt<|rc<|Under.bR<|tr<|tV (K:=kSl K12) (x:=[]) (t:=2) rfl rdN ?_
   cases osi hF
   exact rs Tryz.results153 (.tm rfl (.tm rfl (.tm rfl .nil))) rfl rfl
  ·refine bs hF fun x5 h6 hF=>sr<|m_ rfl<|oS h6 Tryz.underlying22 sz5 rfl<|oI kt5 rfl<|b_ rfl<|a_ rfl<|nt<|it hF rfl (fun hF=>?_) (fun hF=>?_)
   ·refine sr<|a_ rfl<|a_ rfl<|a_ rfl<|nt<|rc<|Under.bR<|tr<|tV (K:=kSl K12) (x:=[]) (t:=2) rfl rdN ?_
    cases osi hF
    exact rs Tryz.results153 (.tm rfl (.tm rfl (.tm rfl .nil))) rfl rfl
   ·refine bs hF fun x8 h9 hF=>sr<|m_ rfl<|oS h9 Tryz.underlying22 sz5 rfl<|oI kt5 rfl<|b_ rfl<|a_ rfl<|nt<|it hF rfl (fun hF=>?_) (fun hF=>?_)
    ·refine sr<|a_ rfl<|a_ rfl<|a_ rfl<|nt<|rc<|Under.bR<|tr<|tV (K:=kSl K12) (x:=[]) (t:=2) rfl rdN ?_
     cases osi hF
     exact rs Tryz.results153 (.tm rfl (.tm rfl (.tm rfl .nil))) rfl rfl
    ·refine bs hF fun vA xA hF=>bs hF fun oA yA hF=>sr<|m_ rfl<|m_ rfl<|oS xA Tryz.underlying22 sz5 rfl<|oI kt5 rfl<|oC (by kernel_rfl) Tryz.underlying3 rfl<|b_ rfl<|cx Tryz.call196 rfl (o140 yA _)<|ov (OpV.not rfl) rfl<|a_ rfl<|nt<|it hF rfl (fun hF=>?_) (fun hF=>?_)
     ·refine sr<|a_ rfl<|a_ rfl<|a_ rfl<|nt<|rc<|Under.bR<|tr<|tV (K:=kSl K12) (x:=[]) (t:=2) rfl rdN ?_
      cases osi hF
      exact rs Tryz.results153 (.tm rfl (.tm rfl (.tm rfl .nil))) rfl rfl
     ·refine bs hF fun kA zA hF=>bs hF fun dA hA hF=>bs hF fun eA bA hF=>cs<|bN<|tn<|sr<|bO (ys:=[]) Tryz.underlying22 ET5 (BldA.nil _) rfl rfl fun cA=>m_ rfl<|m_ rfl<|oS zA Tryz.underlying22 sz5 rfl<|oI kt5 rfl<|oC (by kernel_rfl) Tryz.underlying3 rfl<|b_ rfl<|ov (OpV.slLH hA Tryz.underlying22 sz5 rfl rdV rfl rfl) rfl<|ap bA Tryz.underlying22 AT5 rfl rfl rdV rfl fun qA=>a_ rfl<|a_ rfl<|a_ rfl<|nl<|fzO (t:=2) rfl<|tn<|rc ?_
      cases osi hF
      exact rs Tryz.results153 (.tm rfl (.tm rfl (.tm rfl .nil))) rfl rfl
noncomputable def cU (a0:Int):Option Int:=
 bif (decide (a0<1))||(decide (a0>8)) then
  some 0
 else
  some (IntKind.wrap .i64 (82+(IntKind.wrap .i64 (34*(IntKind.wrap .i64 (a0 - 1))))))
theorem o142 {a0:Int} {r0:Int} (hF:cU a0=some r0) (L:List Res):Ok Tryz.prog 112 [SV.raw (.int .i64 a0)] L (SV.raw (.int .i64 r0)) L:=by
 unfold cU at hF
 refine okI 13 Tryz.func112 rfl rfl rfl fun F0=>?_
 refine sr<|a_ rfl<|nt<|sq<|sr<|mb rfl<|m_ rfl<|cN 8 ((decide (a0<1))||(decide (a0>8))) ?_ (fun k=>?_)
 ·refine nt<|it hF rfl (fun hF=>?_) (fun hF=>?_)
  ·refine sr<|a_ rfl<|nt<|rt ?_
   cases osi hF
   exact rs Tryz.results112 (.tm rfl .nil) rfl rfl
  ·refine ct<|sr<|mb rfl<|b_ rfl<|b_ rfl<|a_ rfl<|nt<|rc ?_
   cases osi hF
   exact rs Tryz.results112 (.tm rfl .nil) rfl rfl
 ·refine by_ (t:=5) rfl (fun c1=>?_) (fun c1=>?_)
  ·exact sk_ c1 rfl<|sk_ c1 rfl<|pT c1 rfl<|rf 2 (or_t (e:=decide (a0>8)) c1) rfl k
  ·exact gc_ c1 rfl<|m_ rfl<|gc_ c1 rfl<|b_ rfl<|pF c1 rfl<|rf 2 (or_f c1) rfl k
noncomputable def fN (a0:List Int) (a1:Int):Option ((List Int)×Int):=
 bif (a0.length:Int) != 320 then
  some ([],50)
 else
  bif (decide (a1<0))||(decide (a1>320)) then
   some ([],2)
  else
   (df a0 a1).bind fun y6=>
   bif !y6 then
    some ([],51)
   else
    (sub a0 0 a1).bind fun xA=>
    (app [] xA).bind fun yA=>
    some (yA,0)
theorem o143 {a0:List Int} {a1:Int} {r0:((List Int)×Int)} (hF:fN a0 a1=some r0) (L:List Res):Ok Tryz.prog 146 [SV.val K9 a0,SV.raw (.int .i64 a1)] L (SV.tup [SV.val K9 r0.1,SV.raw (.int .i64 r0.2)]) L:=by
 unfold fN at hF
 refine okI 27 Tryz.func146 rfl rfl rfl fun F0=>?_
 refine sr<|a_ rfl<|a_ rfl<|nt<|sq<|bk<|sr<|m_ rfl<|oN Tryz.underlying22 rfl<|b_ rfl<|a_ rfl<|nt<|it hF rfl (fun hF=>?_) (fun hF=>?_)
 ·refine sr<|a_ rfl<|a_ rfl<|nt<|rc<|Under.bR<|tr<|tV (K:=kSl K12) (x:=[]) (t:=4) rfl rdN ?_
  cases osi hF
  exact rs Tryz.results146 (.tm rfl (.tm rfl .nil)) rfl rfl
 ·refine sr<|mb rfl<|m_ rfl<|cN 16 ((decide (a1<0))||(decide (a1>320))) ?_ (fun k=>?_)
  ·refine a_ rfl<|nt<|it hF rfl (fun hF=>?_) (fun hF=>?_)
   ·refine sr<|a_ rfl<|a_ rfl<|nt<|rc<|Under.bR<|tr<|tV (K:=kSl K12) (x:=[]) (t:=4) rfl rdN ?_
    cases osi hF
    exact rs Tryz.results146 (.tm rfl (.tm rfl .nil)) rfl rfl
   ·refine bs hF fun y6 h7 hF=>sr<|m_ rfl<|m_ rfl<|cx Tryz.call196 rfl (o140 h7 _)<|ov (OpV.not rfl) rfl<|a_ rfl<|nt<|it hF rfl (fun hF=>?_) (fun hF=>?_)
    ·refine sr<|a_ rfl<|a_ rfl<|nt<|rc<|Under.bR<|tr<|tV (K:=kSl K12) (x:=[]) (t:=4) rfl rdN ?_
     cases osi hF
     exact rs Tryz.results146 (.tm rfl (.tm rfl .nil)) rfl rfl
    ·refine bs hF fun zA xA hF=>bs hF fun hA yA hF=>cs<|bN<|tn<|sr<|bO (ys:=[]) Tryz.underlying22 ET5 (BldA.nil _) rfl rfl fun v9=>m_ rfl<|m_ rfl<|ov (OpV.slH xA Tryz.underlying22 sz5 rfl rdV rfl) rfl<|ap yA Tryz.underlying22 AT5 rfl rfl rdV rfl fun bA=>a_ rfl<|a_ rfl<|nl<|fzO (t:=4) rfl<|tn<|rc ?_
     cases osi hF
     exact rs Tryz.results146 (.tm rfl (.tm rfl .nil)) rfl rfl
  ·refine by_ (t:=13) rfl (fun c2=>?_) (fun c2=>?_)
   ·exact sk_ c2 rfl<|sk_ c2 rfl<|pT c2 rfl<|rf 2 (or_t (e:=decide (a1>320)) c2) rfl k
   ·exact gc_ c2 rfl<|m_ rfl<|gc_ c2 rfl<|b_ rfl<|pF c2 rfl<|rf 2 (or_f c2) rfl k
noncomputable def ey (a0:Int) (a1:List Int):Option ((List Int)×Bool):=
 bif a0==1 then
  (fm a1).bind fun y1=>
  some (y1.1,y1.2.1&&(y1.2.2==0))
 else
  (cU (IntKind.wrap .i64 (a0 - 1))).bind fun y7=>
  (fN a1 y7).bind fun y9=>
  bif y9.2 != 0 then
   some ([],false)
  else
   (((Loop.run (S := Int) (R := (Unit ⊕ ((List Int) × Bool))) (fun xA =>
     bif decide (xA<(y9.1.length:Int)) then
      (idx y9.1 xA).bind fun yA=>
      bif yA != 0 then
       some (.done (.inr (y9.1,true)))
      else
       some (.next (IntKind.wrap .i64 (xA+1)))
     else
      some (.done (.inl ()))) 0).bind fun zA=>match zA with
    | .inl _=>
     some (.inr ())
    | .inr z=>
     some (.inl z)
    : Option (((List Int) × Bool) ⊕ Unit))).bind fun hA => match hA with
    | .inl z=>
     some z
    | .inr _=>
     some ([],false)
theorem o144 {a0:Int} {a1:List Int} {r0:((List Int)×Bool)} (hF:ey a0 a1=some r0) (L:List Res):Ok Tryz.prog 94 [SV.raw (.int .i64 a0),SV.val K9 a1] L (SV.tup [SV.val K9 r0.1,SV.raw (.bool r0.2)]) L:=by
 unfold ey at hF
 refine okI 48 Tryz.func94 rfl rfl rfl fun F0=>?_
 refine sr<|a_ rfl<|a_ rfl<|nt<|sq<|sr<|mb rfl<|nt<|it hF rfl (fun hF=>?_) (fun hF=>?_)
 ·refine bs hF fun y1 h2 hF=>sr<|m_ rfl<|cx Tryz.call153 rfl (o141 h2 _)<|m_ rfl<|oE rfl<|oE rfl<|oE rfl<|a_ rfl<|a_ rfl<|a_ rfl<|ns<|m_ rfl<|m_ rfl<|m_ rfl<|cN 25 (y1.2.1&&(y1.2.2==0)) ?_ (fun k=>?_)
  ·refine a_ rfl<|a_ rfl<|nt<|rt ?_
   cases osi hF
   exact rs Tryz.results94 (.tm rfl (.tm rfl .nil)) rfl rfl
  ·refine by_ (t:=22) rfl (fun c3=>?_) (fun c3=>?_)
   ·exact gc_ c3 rfl<|m_ rfl<|gc_ c3 rfl<|b_ rfl<|pT c3 rfl<|rf 2 (iV c3) rfl k
   ·exact sk_ c3 rfl<|sk_ c3 rfl<|pF c3 rfl<|rf 2 (iW (e:=y1.2.2==0) c3) rfl k
 ·refine bs hF fun y7 h8 hF=>bs hF fun y9 oA hF=>ct<|sr<|m_ rfl<|mb rfl<|cx Tryz.call112 rfl (o142 h8 _)<|cx Tryz.call146 rfl (o143 oA _)<|m_ rfl<|oE rfl<|oE rfl<|a_ rfl<|a_ rfl<|nt<|sq<|sr<|mb rfl<|nt<|it hF rfl (fun hF=>?_) (fun hF=>?_)
  ·refine sr<|a_ rfl<|a_ rfl<|nt<|rt<|tV (K:=kSl K12) (x:=[]) (t:=4) rfl rdN ?_
   cases osi hF
   exact rs Tryz.results94 (.tm rfl (.tm rfl .nil)) rfl rfl
  ·refine bs hF fun kA yA hF=>ct<|sq<|Under.after (fun X=>∀(_:Unit),kA=(.inr ())→Under F0 48 [] (L) X) ?_ ?_
   ·intro _ zA
    replace zA:=zA.symm
    subst zA
    refine sr<|a_ rfl<|a_ rfl<|nt<|rc<|tV (K:=kSl K12) (x:=[]) (t:=4) rfl rdN ?_
    cases osi hF
    exact rs Tryz.results94 (.tm rfl (.tm rfl .nil)) rfl rfl
   ·intro K dA
    refine bs yA fun qA eA yA=>sr<|a_ rfl<|nt<|bk<|lp eA () (fun hA bA=>[(9,.val K9 y9.1),(11,.raw (.int .i64 hA))]) (fun hA bA=>L) rfl rfl fun hA bA rA xA vA=>?_
    refine sq<|sr<|m_ rfl<|m_ rfl<|oN Tryz.underlying22 rfl<|b_ rfl<|nt<|it xA rfl (fun xA=>?_) (fun xA=>?_)
    ·refine bs xA fun wA cA xA=>ct<|sq<|bk<|sr<|m_ rfl<|m_ rfl<|oS cA Tryz.underlying22 sz5 rfl<|oI kt5 rfl<|b_ rfl<|nt<|it xA rfl (fun xA=>?_) (fun xA=>?_)
     ·refine sr<|m_ rfl<|a_ rfl<|a_ rfl<|nt<|rc<|Under.bR<|tr ?_
      cases ai xA vA
      refine tr<|Under.bR<|tr ?_
      cases osi yA
      cases osi hF
      exact rs Tryz.results94 (.tm rfl (.tm rfl .nil)) rfl rfl
     ·exact cs<|bN<|tn<|rg<|mb rfl<|a_ rfl<|nl<|nx () xA rfl rfl
    ·refine xt<|te ?_
     cases ai xA vA
     exact te<|bh<|tn<|wr (dA () (osi yA).symm) rfl
noncomputable def gZ (a0:List Int) (a1:List Int):Option ((List Int)×Int):=
 bif (a0.length:Int) != 32 then
  some ([],2)
 else
  bif decide (0<[99,104,117,114,110,32,98,97,99,107].length) then
  (cT a0 a1 [99,104,117,114,110,32,98,97,99,107] 32).bind fun y4=>
  some (y4.1,y4.2)
  else none
theorem o145 {a0 a1:List Int} {r0:((List Int)×Int)} (hF:gZ a0 a1=some r0) (L:List Res):Ok Tryz.prog 154 [SV.val K9 a0,SV.val K4 a1] L (SV.tup [SV.val K9 r0.1,SV.raw (.int .i64 r0.2)]) L:=by
 unfold gZ at hF
 refine okI 16 Tryz.func154 rfl rfl rfl fun F0=>?_
 refine sr<|bX (K:=kArr 16 K12) rfl rdV rfl<|a_ rfl<|a_ rfl<|nt<|sq<|sr<|m_ rfl<|oN Tryz.underlying22 rfl<|b_ rfl<|nt<|it hF rfl (fun hF=>?_) (fun hF=>?_)
 ·refine sr<|a_ rfl<|a_ rfl<|nt<|rt<|tV (K:=kSl K12) (x:=[]) (t:=4) rfl rdN ?_
  cases osi hF
  exact rs Tryz.results154 (.tm rfl (.tm rfl .nil)) rfl rfl
 ·refine gs hF fun h3 hF=>bs hF fun y4 h5 hF=>ct<|sr<|m_ rfl<|ov (OpV.slA Tryz.underlying64 sz5 rfl) rfl<|bO (ys:=[99,104,117,114,110,32,98,97,99,107]) Tryz.underlying22 ET5 (BldA.cons rfl rfl rdI (BldA.cons rfl rfl rdI (BldA.cons rfl rfl rdI (BldA.cons rfl rfl rdI (BldA.cons rfl rfl rdI (BldA.cons rfl rfl rdI (BldA.cons rfl rfl rdI (BldA.cons rfl rfl rdI (BldA.cons rfl rfl rdI (BldA.cons rfl rfl rdI (BldA.nil _))))))))))) rfl rfl fun v2=>Under.cvS Tryz.underlying22 Tryz.underlying5 (of_decide_eq_true h3) rfl rfl<|cx Tryz.call88 rfl (o138 h5 _)<|oE rfl<|oE rfl<|a_ rfl<|a_ rfl<|nt<|rc ?_
  cases osi hF
  exact rs Tryz.results154 (.tm rfl (.tm rfl .nil)) rfl rfl
noncomputable def eF (a0:List Int) (a1:List Int):Option (an×Int):=
 bif (a0.length:Int) != 32 then
  some ((⟨(List.replicate 16 (0:Int)),(List.replicate 32 (0:Int)),(List.replicate 32 (0:Int))⟩:an),2)
 else
  bif decide (0<[99,104,117,114,110].length) then
  (cT a0 a1 [99,104,117,114,110] 80).bind fun y6=>
  (((Loop.run (S:=(Int×an)) (R:=an) (fun(xA,yA)=>
    bif decide (xA<80) then
     ((bif decide (xA<16) then
      (idx y6.1 xA).bind fun zA=>
      (idx yA.Box xA).bind fun dA=>
      some ({yA with Box:=List.set yA.Box (Int.toNat xA) zA}:an)
     else
      bif decide (xA<48) then
       (idx y6.1 xA).bind fun hA=>
       (idx yA.Mac (IntKind.wrap .i64 (xA - 16))).bind fun eA=>
       some ({yA with Mac:=List.set yA.Mac (Int.toNat (IntKind.wrap .i64 (xA - 16))) hA}:an)
      else
       (idx y6.1 xA).bind fun bA=>
       (idx yA.Replay (IntKind.wrap .i64 (xA - 48))).bind fun cA=>
       some ({yA with Replay:=List.set yA.Replay (Int.toNat (IntKind.wrap .i64 (xA - 48))) bA}:an)
      :Option an)).bind fun vA=>
     some (.next (IntKind.wrap .i64 (xA+1),vA))
    else
     some (.done yA)) (0,(⟨(List.replicate 16 (0:Int)),(List.replicate 32 (0:Int)),(List.replicate 32 (0:Int))⟩:an))).bind fun oA=>
  some oA
   :Option an)).bind fun kA=>
  some (kA,0)
  else none
theorem o146 {a0 a1:List Int} {r0:(an×Int)} (hF:eF a0 a1=some r0) (L:List Res):Ok Tryz.prog 147 [SV.val K9 a0,SV.val K4 a1] L (SV.tup [SV.val bS r0.1,SV.raw (.int .i64 r0.2)]) L:=by
 unfold eF at hF
 refine okI 56 Tryz.func147 rfl rfl rfl fun F0=>?_
 refine sr<|bX (K:=kArr 16 K12) rfl rdV rfl<|al ZT181 rfl fun b1=>a_ rfl<|ns<|al ZT181 rfl fun b2=>nt<|sq<|sr<|m_ rfl<|oN Tryz.underlying22 rfl<|b_ rfl<|nt<|it hF rfl (fun hF=>?_) (fun hF=>?_)
 ·refine fz (t:=6) rfl<|sr<|oL kt181 rfl<|sP (x':=(⟨(List.replicate 16 (0:Int)),(List.replicate 32 (0:Int)),(List.replicate 32 (0:Int))⟩:an)) .box .id sz181k rfl rfl rdV rfl<|a_ rfl<|nl<|fz (t:=4) rfl<|tn<|rt ?_
  cases osi hF
  exact rs Tryz.results147 (.ce rfl kt181 (.tm rfl .nil)) rfl rfl
 ·refine gs hF fun h5 hF=>bs hF fun y6 h7 hF=>bs hF fun hA kA hF=>ct<|sr<|m_ rfl<|ov (OpV.slA Tryz.underlying64 sz5 rfl) rfl<|bO (ys:=[99,104,117,114,110]) Tryz.underlying22 ET5 (BldA.cons rfl rfl rdI (BldA.cons rfl rfl rdI (BldA.cons rfl rfl rdI (BldA.cons rfl rfl rdI (BldA.cons rfl rfl rdI (BldA.nil _)))))) rfl rfl fun v4=>Under.cvS Tryz.underlying22 Tryz.underlying5 (of_decide_eq_true h5) rfl rfl<|cx Tryz.call88 rfl (o138 h7 _)<|m_ rfl<|oE rfl<|oE rfl<|a_ rfl<|a_ rfl<|nt<|sq<|afr (r:=hA) (fun hA=>[(4,pb b1),(6,.ptr bS hA)]) (fun hA=>((.box bS b1 181 (⟨(List.replicate 16 (0:Int)),(List.replicate 32 (0:Int)),(List.replicate 32 (0:Int))⟩:an))::L)) ?_ fun K wA=>?_
  ·refine sr<|oL kt181 rfl<|sP (x':=hA) .box .id sz181k rfl rfl rdV rfl<|a_ rfl<|nl<|fz (t:=4) rfl<|tn<|rc ?_
   cases osi hF
   exact rs Tryz.results147 (.ce rfl kt181 (.tm rfl .nil)) rfl rfl
  ·refine bs kA fun zB gA kA=>sr<|a_ rfl<|nt<|bk<|f1<|lp gA () (fun bA eA=>[(4,pb b1),(6,pb b2),(7,.val K9 y6.1),(9,.raw (.int .i64 bA.1))]) (fun bA eA=>(.box bS b1 181 (⟨(List.replicate 16 (0:Int)),(List.replicate 32 (0:Int)),(List.replicate 32 (0:Int))⟩:an))::(.box bS b2 181 bA.2)::L) rfl rfl fun bA eA hB yA mA=>?_
   obtain⟨vA,zA⟩:=bA
   dsimp only at yA⊢
   refine sq<|sr<|mb rfl<|nt<|it yA rfl (fun yA=>?_) (fun yA=>?_)
   ·refine bs yA fun oA xA yA=>ct<|sq<|afr (r:=oA) (fun oA=>[(4,pb b1),(6,pb b2),(7,.val K9 y6.1),(9,.raw (.int .i64 vA))]) (fun oA=>((.box bS b1 181 (⟨(List.replicate 16 (0:Int)),(List.replicate 32 (0:Int)),(List.replicate 32 (0:Int))⟩:an))::(.box bS b2 181 oA)::L)) ?_ fun K dA=>?_
    ·exact rg<|mb rfl<|a_ rfl<|nl<|nx () yA rfl rfl
    ·refine bk<|bk<|sr<|mb rfl<|a_ rfl<|nt<|it xA rfl (fun xA=>?_) (fun xA=>?_)
     ·exact bs xA fun nA pA xA=>bs xA fun bB cA xA=>rg<|m_ rfl<|m_ rfl<|m_ rfl<|oS pA Tryz.underlying22 sz5 rfl<|oI kt5 rfl<|oM zR rfl<|f1<|oX .box (.fld .id j8) cA Tryz.underlying64 sz5k rfl<|sP (x':=({zA with Box:=List.set zA.Box (Int.toNat vA) nA}:an)) .box (.ix (.fld .id j8) cA) sz5k rfl rfl rdI rfl<|nl<|bN<|bN<|tn<|f1<|wr (dA _ (osi xA).symm) rfl
     ·refine sr<|mb rfl<|a_ rfl<|nt<|it xA rfl (fun xA=>?_) (fun xA=>?_)
      ·exact bs xA fun tA uA xA=>bs xA fun vB qA xA=>rg<|mb rfl<|m_ rfl<|m_ rfl<|oS uA Tryz.underlying22 sz5 rfl<|oI kt5 rfl<|oM zS rfl<|f1<|oX .box (.fld .id j9) qA Tryz.underlying179 sz5k rfl<|sP (x':=({zA with Mac:=List.set zA.Mac (Int.toNat (IntKind.wrap .i64 (vA - 16))) tA}:an)) .box (.ix (.fld .id j9) qA) sz5k rfl rfl rdI rfl<|nl<|bN<|bN<|tn<|f1<|wr (dA _ (osi xA).symm) rfl
      ·exact bs xA fun xB yB xA=>bs xA fun oB rA xA=>rg<|mb rfl<|m_ rfl<|m_ rfl<|oS yB Tryz.underlying22 sz5 rfl<|oI kt5 rfl<|oM zT rfl<|f1<|oX .box (.fld .id ka) rA Tryz.underlying179 sz5k rfl<|sP (x':=({zA with Replay:=List.set zA.Replay (Int.toNat (IntKind.wrap .i64 (vA - 48))) xB}:an)) .box (.ix (.fld .id ka) rA) sz5k rfl rfl rdI rfl<|nl<|bN<|bN<|tn<|f1<|wr (dA _ (osi xA).symm) rfl
   ·refine f1<|fz (t:=6) rfl<|xt<|te ?_
    cases ai yA mA
    exact te<|bh<|tn<|wr (wA _ (osi kA).symm) rfl
noncomputable def dO (a0:Int):Option Int:=
 bif decide (a0≥128) then
  some (xorI .u8 (shlI .u8 a0 1) 27)
 else
  some (shlI .u8 a0 1)
theorem o147 {a0:Int} {r0:Int} (hF:dO a0=some r0) (L:List Res):Ok Tryz.prog 239 [SV.raw (.int .u8 a0)] L (SV.raw (.int .u8 r0)) L:=by
 unfold dO at hF
 refine okI 10 Tryz.func239 rfl rfl rfl fun F0=>?_
 refine sr<|a_ rfl<|nt<|sq<|sr<|mb rfl<|nt<|it hF rfl (fun hF=>?_) (fun hF=>?_)
 ·refine sr<|m_ rfl<|ov (OpV.sh rfl rfl (by decide) rfl) rfl<|b_ rfl<|a_ rfl<|nt<|rt ?_
  cases osi hF
  exact rs Tryz.results239 (.tm rfl .nil) rfl rfl
 ·refine ct<|sr<|m_ rfl<|ov (OpV.sh rfl rfl (by decide) rfl) rfl<|a_ rfl<|nt<|rc ?_
  cases osi hF
  exact rs Tryz.results239 (.tm rfl .nil) rfl rfl
end Go.Proofs.YtobbmodjdkcdcaaGreatDoor

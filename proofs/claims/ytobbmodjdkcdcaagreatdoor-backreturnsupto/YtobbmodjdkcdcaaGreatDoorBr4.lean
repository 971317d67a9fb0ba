import Derived.Test.YtobbmodjdkcdcaaGreatDoorBr3
set_option linter.unusedVariables false
set_option linter.unusedSimpArgs false
set_option maxRecDepth 20000
namespace Go.Proofs.YtobbmodjdkcdcaaGreatDoor
open Go Go.Sim Go.ChangeShapes Go.WideShapes Go.ChangeAt Go.RowKit
set_option linter.unusedSectionVars false
variable [Fu]
noncomputable def jF (a0:List Int) (a1:List Int):Option ((List Int)×(List Int)×Int):=
 (lf a0).bind fun y1=>
 bif (!y1.2)||((a1.length:Int) != y1.1) then
  some ([],[],2)
 else
  (app [] a0).bind fun z8=>
  bif mkB (a0.length:Int) (a0.length:Int) then
  (((Loop.run (S := ((List Int) × (List Int) × (List (List Int)) × Int)) (R := (((List Int) × (List (List Int))) ⊕ ((List Int) × (List Int) × Int))) (fun (kA, yA, bA, zA) =>
    bif decide (zA<(a1.length:Int)) then
     (((idx a1 zA).bind fun vA=>
     bif (decide (vA<0))||(decide (vA≥(IntKind.wrap .i64 (y1.1 - zA)))) then
      some (.inl ([],[],2))
     else
      (((Loop.run (S:=(Int×Int)) (R:=(Int×Int)) (fun(oA,hA)=>
        (idx yA hA).bind fun eA=>
        bif decide (oA≥eA) then
         (idx yA hA).bind fun cA=>
         some (.next (IntKind.wrap .i64 (oA - cA),IntKind.wrap .i64 (hA+1)))
        else
         some (.done (oA,hA))) (vA,0)).bind fun qA=>match qA with
       |(rA,wA)=>
        some (rA,wA)
       :Option (Int×Int))).bind fun gA=>match gA with
       |(mA,xA)=>
        (idx yA xA).bind fun nA=>
        (idx yA xA).bind fun mB=>
        (app kA [xA]).bind fun pA=>
        (idx bA xA).bind fun tA=>
        (app tA [mA]).bind fun uA=>
        some (.inr (pA,List.set yA (Int.toNat xA) (IntKind.wrap .i64 (nA - 1)),List.set bA (Int.toNat xA) uA))
      : Option (((List Int) × (List Int) × Int) ⊕ ((List Int) × (List Int) × (List (List Int)))))).bind fun xB => match xB with
      | .inl z=>
       some (.done (.inr z))
      | .inr (yB,zB,hB)=>
       some (.next (yB,zB,hB,IntKind.wrap .i64 (zA+1)))
    else
     some (.done (.inl (kA,bA)))) ([],z8,List.replicate (Int.toNat (a0.length:Int)) ([]:List Int),0)).bind fun bB=>match bB with
   | .inl (vB,oB)=>
    some (.inr (vB,oB))
   | .inr z=>
    some (.inl z)
   : Option (((List Int) × (List Int) × Int) ⊕ ((List Int) × (List (List Int)))))).bind fun eB => match eB with
   | .inl z=>
    some z
   | .inr (cB,kB)=>
    (((Loop.run (S:=((List Int)×Int)) (R:=(List Int)) (fun(dB,dA)=>
      bif decide (dA<(kB.length:Int)) then
       (idx kB dA).bind fun qB=>
       (app dB qB).bind fun rB=>
       some (.next (rB,IntKind.wrap .i64 (dA+1)))
      else
       some (.done dB)) ([],0)).bind fun wB=>
    some wB
     :Option (List Int))).bind fun gB=>
    some (cB,gB,0)
  else none
theorem o88 {a0 a1:List Int} {r0:((List Int)×(List Int)×Int)} (hF:jF a0 a1=some r0) (L:List Res):Ok Tryz.prog 143 [SV.val K8 a0,SV.val K8 a1] L (SV.tup [SV.val K8 r0.1,SV.val K8 r0.2.1,SV.raw (.int .i64 r0.2.2)]) L:=by
 unfold jF at hF
 refine okI 98 Tryz.func143 rfl rfl rfl fun F0=>?_
 refine bs hF fun y1 h2 hF=>sr<|a_ rfl<|a_ rfl<|a_ rfl<|ns<|m_ rfl<|cx Tryz.call194 rfl (o87 h2 _)<|m_ rfl<|oE rfl<|oE rfl<|a_ rfl<|a_ rfl<|nt<|sq<|sr<|m_ rfl<|ov (OpV.not rfl) rfl<|m_ rfl<|jC 28 ((!y1.2)||((a1.length:Int) != y1.1)) ?_ (fun k=>?_)
 ·refine nt<|it hF rfl (fun hF=>?_) (fun hF=>?_)
  ·refine sr<|a_ rfl<|a_ rfl<|a_ rfl<|nt<|rt<|tV (K:=kSl K10) (x:=[]) (t:=4) rfl rdN<|tV (K:=kSl K10) (x:=[]) (t:=5) rfl rdN ?_
   cases osi hF
   exact rs Tryz.results143 (.tm rfl (.tm rfl (.tm rfl .nil))) rfl rfl
  ·refine bs hF fun z8 h9 hF=>gs hF fun tD hF=>bs hF fun nC eB hF=>ct<|sr<|bO (ys:=[]) Tryz.underlying68 ET3 (BldA.nil _) rfl rfl fun v7=>m_ rfl<|ap h9 Tryz.underlying68 AT3 rfl rfl rdV rfl fun rB=>a_ rfl<|ns<|m_ rfl<|oN Tryz.underlying68 rfl<|Under.mk tD Tryz.underlying164 AT68k rfl rfl rfl fun wB=>Under.rowsRep (KT:=kInt .i64) (TT:=3)<|a_ rfl<|nt<|sq<|Under.after (fun X=>∀(wA:List Int) (gA:List (List Int)),nC=(.inr (wA,gA))→Under F0 98 [(4,.val K8 wA),(5,.raw (.slice none 0 0)),(10,.val (kSl K8) gA)] (L) X) ?_ ?_
   ·intro wA gA mA
    replace mA:=mA.symm
    subst mA
    refine bs hF fun cB uB hF=>sq<|afr (r:=cB) (fun cB=>[(4,.val K8 wA),(5,.val K8 cB)]) (fun cB=>(L)) ?_ fun K pC=>?_
    ·refine sr<|m_ rfl<|m_ rfl<|a_ rfl<|a_ rfl<|a_ rfl<|nt<|rc ?_
     cases osi hF
     exact rs Tryz.results143 (.tm rfl (.tm rfl (.tm rfl .nil))) rfl rfl
    ·refine bs uB fun uD tC uB=>sr<|m_ rfl<|oN Tryz.underlying164 rfl<|m_ rfl<|nt<|bk<|Under.ownNil (K:=kInt .i64) (e:=3)<|lp tC (C:=Value) (.slice none 0 0) (fun nA qB=>[(4,.val K8 wA),(5,.raw qB),(86,.val (kSl K8) gA),(87,.raw (.int .i64 (gA.length:Int))),(88,.raw (.int .i64 nA.2))]) (fun nA qB=>(.own K10 qB 3 nA.1)::L) rfl rfl fun nA qB xE oA uC=>?_
     obtain⟨yE,zE⟩:=nA
     dsimp only at oA⊢
     refine sr<|b_ rfl<|nt<|sq<|it oA rfl (fun oA=>?_) (fun oA=>?_)
     ·exact bs oA fun hE xD oA=>bs oA fun bE yD oA=>ct<|sq<|bk<|sr<|oS xD Tryz.underlying164 sz68 rfl<|oL kt68 rfl<|a_ rfl<|nt<|rg<|m_ rfl<|m_ rfl<|ap yD Tryz.underlying68 AT3 rfl rfl rdV rfl fun zD=>a_ rfl<|nl<|bN<|tn<|rg<|b_ rfl<|m_ rfl<|nl<|nx zD oA rfl rfl
     ·refine fzO (t:=5) rfl<|xt<|te ?_
      cases ai oA uC
      exact te<|bh<|tn<|wr (pC _ (osi uB).symm) rfl
   ·intro K hD
    refine bs eB fun bD xC eB=>sr<|m_ rfl<|oN Tryz.underlying68 rfl<|m_ rfl<|nt<|bk<|Under.ownNil (K:=kInt .i64) (e:=3)<|f1<|f2<|f2<|lp xC (C:=Value) (.slice none 0 0) (fun vA bA=>[(4,.raw bA),(5,.raw (.slice none 0 0)),(7,.raw (.int .i64 y1.1)),(9,.raw rB),(10,.raw wB),(35,.val K8 a1),(36,.raw (.int .i64 (a1.length:Int))),(37,.raw (.int .i64 vA.2.2.2))]) (fun vA bA=>(.own K10 bA 3 vA.1)::(.own K10 rB 3 vA.2.1)::(.any (jK kRaw K10 ms mt 68 3 wB vA.2.2.1))::L) rfl rfl fun vA bA vD hA gB=>?_
    obtain⟨mB,pA,nB,eA⟩:=vA
    dsimp only at hA⊢
    refine sr<|b_ rfl<|nt<|sq<|it hA rfl (fun hA=>?_) (fun hA=>?_)
    ·refine bs hA fun yC xA hA=>ct<|sq<|Under.after (fun X=>∀(tA:List Int) (uA:List Int) (xB:List (List Int)) (qA:Value),yC=(.inr (tA,uA,xB))→Under F0 98 [(4,.raw qA),(5,.raw (.slice none 0 0)),(7,.raw (.int .i64 y1.1)),(9,.raw rB),(10,.raw wB),(35,.val K8 a1),(36,.raw (.int .i64 (a1.length:Int))),(37,.raw (.int .i64 eA))] ((.own K10 qA 3 tA)::(.own K10 rB 3 uA)::(.any (jK kRaw K10 ms mt 68 3 wB xB))::L) X) ?_ ?_
     ·intro tA uA xB qA yB
      replace yB:=yB.symm
      subst yB
      exact rg<|b_ rfl<|m_ rfl<|nl<|nx qA hA rfl rfl
     ·intro K zC
      refine bs xA fun zB hC xA=>bk<|sr<|m_ rfl<|oS hC Tryz.underlying68 sz3 rfl<|oI kt3 rfl<|a_ rfl<|a_ rfl<|nt<|sq<|sr<|mb rfl<|m_ rfl<|nK 50 ((decide (zB<0))||(decide (zB≥(IntKind.wrap .i64 (y1.1 - eA))))) ?_ (fun k=>?_)
      ·refine nt<|it xA rfl (fun xA=>?_) (fun xA=>?_)
       ·refine dr<|dr<|dr<|sr<|a_ rfl<|a_ rfl<|a_ rfl<|nt<|rt<|Under.bR<|tr ?_
        cases osi xA
        cases ai hA gB
        refine tr<|Under.bR<|tr ?_
        cases osi eB
        refine tV (K:=kSl K10) (x:=[]) (t:=4) rfl rdN<|tV (K:=kSl K10) (x:=[]) (t:=5) rfl rdN ?_
        cases osi hF
        exact rs Tryz.results143 (.tm rfl (.tm rfl (.tm rfl .nil))) rfl rfl
       ·refine bs xA fun bC hB xA=>ct<|sr<|a_ rfl<|nt<|sq<|Under.after (fun X=>∀(rA:Int) (kA:Int),bC=(rA,kA)→Under F0 98 [(4,.raw bA),(5,.raw (.slice none 0 0)),(7,.raw (.int .i64 y1.1)),(9,.raw rB),(10,.raw wB),(12,.raw (.int .i64 rA)),(13,.raw (.int .i64 kA)),(35,.val K8 a1),(36,.raw (.int .i64 (a1.length:Int))),(37,.raw (.int .i64 eA))] ((.own K10 bA 3 mB)::(.own K10 rB 3 pA)::(.any (jK kRaw K10 ms mt 68 3 wB nB))::L) X) ?_ ?_
        ·intro rA kA bB
         replace bB:=bB.symm
         subst bB
         exact bs xA fun vC vB xA=>bs xA fun oD oB xA=>bs xA fun kD oC xA=>bs xA fun dD kC xA=>bs xA fun dC eC xA=>sr<|m_ rfl<|m_ rfl<|f1<|ov (OpV.ixO vB Tryz.underlying68 sz3k rfl rfl) rfl<|lP (.own vB) (.ix .id vB) kt3k rfl rfl<|rI (t:=68) rfl<|b_ rfl<|ov (OpV.ixO oB Tryz.underlying68 sz3k rfl rfl) rfl<|sP (x':=List.set pA (Int.toNat kA) (IntKind.wrap .i64 (vC - 1))) (.own oB) (.ix .id oB) sz3k rfl rfl rdI rfl<|ns<|m_ rfl<|m_ rfl<|bF (ys:=[kA]) Tryz.underlying68 ET3 (BldA.cons rfl rfl rdI (BldA.nil _)) rfl rfl<|f1<|ap oC Tryz.underlying68 AT3 rfl rfl rdV rfl fun eD=>a_ rfl<|nt<|rg<|m_ rfl<|m_ rfl<|m_ rfl<|m_ rfl<|f2<|Under.rowTake si kC fun cD cC l1646 qD dA qC=>ov (OpV.ixO dA Tryz.underlying164 sz68k1 rfl rfl) rfl<|lP (.own dA) (.ix .id dA) kt68k rfl rfl<|Under.rawR (t:=80) rfl<|m_ rfl<|bF (ys:=[rA]) Tryz.underlying68 ET3 (BldA.cons rfl rfl rdI (BldA.nil _)) rfl rfl<|f1<|ap eC Tryz.underlying68 AT3 rfl rfl rdV rfl fun pB=>f1<|ov (OpV.ixO dA Tryz.underlying164 sz68k1 rfl rfl) rfl<|f1<|Under.ownCell fun rC=>f1<|sP (x':=List.set cC (Int.toNat kA) pB) (.own dA) (.ix .id dA) sz68k1 rfl rfl (fT rC) rfl<|Under.back (fun F w h=>qC dC pB F w _ h)<|nl<|bN<|tn<|f2<|f2<|wr (zC _ _ _ _ (osi xA).symm) rfl
        ·intro K wC
         refine bs hB fun rD gC hB=>bk<|lp gC () (fun cA tB=>[(4,.raw bA),(5,.raw (.slice none 0 0)),(7,.raw (.int .i64 y1.1)),(9,.raw rB),(10,.raw wB),(12,.raw (.int .i64 cA.1)),(13,.raw (.int .i64 cA.2)),(35,.val K8 a1),(36,.raw (.int .i64 (a1.length:Int))),(37,.raw (.int .i64 eA))]) (fun cA tB=>(.own K10 bA 3 mB)::(.own K10 rB 3 pA)::(.any (jK kRaw K10 ms mt 68 3 wB nB))::L) rfl rfl fun cA tB wD zA mC=>?_
         obtain⟨gD,mD⟩:=cA
         dsimp only at zA⊢
         refine bs zA fun nD kB zA=>sq<|sr<|m_ rfl<|m_ rfl<|m_ rfl<|f1<|ov (OpV.ixO kB Tryz.underlying68 sz3k rfl rfl) rfl<|lP (.own kB) (.ix .id kB) kt3k rfl rfl<|rI (t:=55) rfl<|b_ rfl<|nt<|it zA rfl (fun zA=>?_) (fun zA=>?_)
         ·exact bs zA fun pD dB zA=>ct<|sq<|bk<|rg<|m_ rfl<|m_ rfl<|m_ rfl<|ov (OpV.ixO dB Tryz.underlying68 sz3k rfl rfl) rfl<|lP (.own dB) (.ix .id dB) kt3k rfl rfl<|rI (t:=63) rfl<|b_ rfl<|a_ rfl<|nl<|bN<|tn<|rg<|mb rfl<|a_ rfl<|nl<|f2<|f1<|f2<|nx () zA rfl rfl
         ·refine xt<|te ?_
          cases ai zA mC
          exact te<|bh<|tn<|f2<|f1<|f2<|wr (wC _ _ (osi hB).symm) rfl
      ·refine by_ (t:=44) rfl (fun yA=>?_) (fun yA=>?_)
       ·exact sk_ yA rfl<|sk_ yA rfl<|sk_ yA rfl<|sk_ yA rfl<|sk_ yA rfl<|pT yA rfl<|rf 5 (or_t (e:=decide (zB≥(IntKind.wrap .i64 (y1.1 - eA)))) yA) rfl k
       ·exact gc_ yA rfl<|m_ rfl<|gc_ yA rfl<|m_ rfl<|gc_ yA rfl<|m_ rfl<|gc_ yA rfl<|b_ rfl<|gc_ yA rfl<|b_ rfl<|pF yA rfl<|rf 5 (or_f yA) rfl k
    ·refine fzO (t:=4) rfl<|dr<|Under.manyPlain (KB:=kSl K10) xh si rfl xi<|fzO (t:=10) rfl<|xt<|te ?_
     cases ai hA gB
     exact te<|bh<|tn<|wr (hD _ _ (osi eB).symm) rfl
 ·refine by_ (t:=23) rfl (fun c3=>?_) (fun c3=>?_)
  ·exact sk_ c3 rfl<|sk_ c3 rfl<|sk_ c3 rfl<|sk_ c3 rfl<|pT c3 rfl<|rf 4 (or_t (e:=(a1.length:Int) != y1.1) c3) rfl k
  ·exact gc_ c3 rfl<|m_ rfl<|gc_ c3 rfl<|oN Tryz.underlying68 rfl<|gc_ c3 rfl<|m_ rfl<|gc_ c3 rfl<|b_ rfl<|pF c3 rfl<|rf 4 (or_f c3) rfl k
noncomputable def lh (a0:List Int) (a1:Int) (a2:Int):Option (bU×(List Int)×(List Int)×(List (List Int))×Int):=
 (kZ a1 a2).bind fun y2=>
 bif y2.2 != 0 then
  some ((⟨(⟨[],[],[]⟩:aQ),[],[]⟩:bU),[],[],[],y2.2)
 else
  (jQ a0 a2).bind fun y5=>
  bif y5.2 != 0 then
   some ((⟨(⟨[],[],[]⟩:aQ),[],[]⟩:bU),[],[],[],y5.2)
  else
   (kg a1).bind fun y9=>
   (lU y5.1.Braid y9).bind fun dA=>
   bif dA.2.2 != 0 then
    some ((⟨(⟨[],[],[]⟩:aQ),[],[]⟩:bU),[],[],[],dA.2.2)
   else
    (((Loop.run (S := ((List (List Int)) × Int × Int × (List Int))) (R := (((List (List Int)) × (List Int)) ⊕ (bU × (List Int) × (List Int) × (List (List Int)) × Int))) (fun (vA, oA, xA, kA) =>
      bif decide (xA<(y2.1.length:Int)) then
       (idx y2.1 xA).bind fun yA=>
       (app kA [oA]).bind fun eA=>
       (idx y5.1.Chunks xA).bind fun cA=>
       (lb yA).bind fun qA=>
       (lU cA qA).bind fun zA=>
       bif zA.2.2 != 0 then
        some (.done (.inr ((⟨(⟨[],[],[]⟩:aQ),[],[]⟩:bU),[],[],[],zA.2.2)))
       else
        (mF yA zA.1).bind fun hA=>
        bif hA.2 != 0 then
         some (.done (.inr ((⟨(⟨[],[],[]⟩:aQ),[],[]⟩:bU),[],[],[],hA.2)))
        else
         (app vA [hA.1]).bind fun rA=>
         some (.next (rA,IntKind.wrap .i64 (oA+yA),IntKind.wrap .i64 (xA+1),eA))
      else
       some (.done (.inl (vA,kA)))) ([],0,0,[])).bind fun wA=>match wA with
     | .inl (gA,mA)=>
      some (.inr (gA,mA))
     | .inr z=>
      some (.inl z)
     : Option ((bU × (List Int) × (List Int) × (List (List Int)) × Int) ⊕ ((List (List Int)) × (List Int))))).bind fun nA => match nA with
     | .inl z=>
      some z
     | .inr (pA,tA)=>
      (jF y2.1 dA.1).bind fun bA=>
      some ((⟨y5.1,y2.1,tA⟩:bU),bA.1,bA.2.1,pA,bA.2.2)
theorem o89 {a0:List Int} {a1 a2:Int} {r0:(bU×(List Int)×(List Int)×(List (List Int))×Int)} (hF:lh a0 a1 a2=some r0) (L:List Res):Ok Tryz.prog 85 [SV.val K9 a0,SV.raw (.int .i64 a1),SV.raw (.int .i64 a2)] L (SV.tup [SV.val gw r0.1,SV.val K8 r0.2.1,SV.val K8 r0.2.2.1,SV.val (kSl K8) r0.2.2.2.1,SV.raw (.int .i64 r0.2.2.2.2)]) L:=by
 unfold lh at hF
 refine okI 118 Tryz.func85 rfl rfl rfl fun F0=>?_
 refine bs hF fun y2 h3 hF=>sr<|al ZT163k rfl fun b1=>a_ rfl<|a_ rfl<|a_ rfl<|a_ rfl<|ns<|m_ rfl<|m_ rfl<|cx Tryz.call138 rfl (o70 h3 _)<|m_ rfl<|oE rfl<|oE rfl<|oM tf rfl<|sP (x':=(⟨(⟨[],[],[]⟩:aQ),y2.1,.slice none 0 0⟩:bp)) .box (.fld .id iw) sz68k rfl rfl rdV rfl<|a_ rfl<|nt<|sq<|sr<|mb rfl<|nt<|it hF rfl (fun hF=>?_) (fun hF=>?_)
 ·refine sr<|ov (OpV.bst eg (Bld.nil _)) rfl<|m_ rfl<|sP (x':=(⟨(⟨[],[],[]⟩:aQ),[],.slice none 0 0⟩:bp)) .box .id sz163k rfl rfl rdV rfl<|a_ rfl<|a_ rfl<|a_ rfl<|a_ rfl<|nl<|Under.cvB (fs:=eM) (⟨(⟨[],[],[]⟩:aQ),[],[]⟩:bU) (fun F=>⟨fun _ h=>h,fun _ h=>h,nY,trivial⟩)<|fz (t:=6) rfl<|tn<|rt<|tV (K:=kSl K10) (x:=[]) (t:=7) rfl rdN<|tV (K:=kSl K10) (x:=[]) (t:=8) rfl rdN<|tV (K:=kSl K8) (x:=[]) (t:=9) rfl rdN ?_
  cases osi hF
  exact rs Tryz.results85 (.ce rfl kt163 (.tm rfl (.tm rfl (.tm rfl (.tm rfl .nil))))) rfl rfl
 ·refine bs hF fun y5 h6 hF=>ct<|sr<|m_ rfl<|m_ rfl<|cx Tryz.call22 rfl (o43 h6 _)<|m_ rfl<|oE rfl<|oE rfl<|oM th rfl<|sP (x':=(⟨y5.1,y2.1,.slice none 0 0⟩:bp)) .box (.fld .id iy) sz51k rfl rfl rdV rfl<|a_ rfl<|nt<|sq<|sr<|mb rfl<|nt<|it hF rfl (fun hF=>?_) (fun hF=>?_)
  ·refine sr<|ov (OpV.bst eg (Bld.nil _)) rfl<|m_ rfl<|sP (x':=(⟨(⟨[],[],[]⟩:aQ),[],.slice none 0 0⟩:bp)) .box .id sz163k rfl rfl rdV rfl<|a_ rfl<|a_ rfl<|a_ rfl<|a_ rfl<|nl<|Under.cvB (fs:=eM) (⟨(⟨[],[],[]⟩:aQ),[],[]⟩:bU) (fun F=>⟨fun _ h=>h,fun _ h=>h,nY,trivial⟩)<|fz (t:=6) rfl<|tn<|rt<|tV (K:=kSl K10) (x:=[]) (t:=7) rfl rdN<|tV (K:=kSl K10) (x:=[]) (t:=8) rfl rdN<|tV (K:=kSl K8) (x:=[]) (t:=9) rfl rdN ?_
   cases osi hF
   exact rs Tryz.results85 (.ce rfl kt163 (.tm rfl (.tm rfl (.tm rfl (.tm rfl .nil))))) rfl rfl
  ·refine bs hF fun y9 oB hF=>bs hF fun vB kB hF=>ct<|sq<|ph rfl<|gV [0,1,2,3,4] [[6],[43],[44],[1],[46]] 1 (by kernel_rfl) rfl<|vo (fun _=>OpV.fdM th rfl) rfl<|vo (fun _=>OpV.fdM AG rfl) rfl<|Vq.v (fun G T hG=>lP .box (.fld (.fld .id iy) qP) kt22k1 rfl rfl<|Vq.end rfl)<|vm_ rfl<|Vq.v (fun G T hG=>cx Tryz.call140 rfl (o71 oB _)<|Vq.end rfl)<|vn<|p1 5 rfl rfl<|cx Tryz.call139 rfl (o83 kB _)<|pn<|p1 6 rfl rfl<|m_ rfl<|pn<|gV [7,8,9,10,11] [[42],[42],[42],[49],[50]] 1 (by kernel_rfl) rfl<|vo (fun _=>OpV.extr rfl rfl) rfl<|vo (fun _=>OpV.extr rfl rfl) rfl<|vo (fun _=>OpV.extr rfl rfl) rfl<|Vq.v (fun G T hG=>a_ rfl<|Vq.end rfl)<|Vq.v (fun G T hG=>a_ rfl<|Vq.end rfl)<|vn<|p1 12 rfl rfl<|a_ rfl<|pn<|pd rfl<|tn<|sq<|sr<|mb rfl<|nt<|it hF rfl (fun hF=>?_) (fun hF=>?_)
   ·refine sr<|ov (OpV.bst eg (Bld.nil _)) rfl<|m_ rfl<|sP (x':=(⟨(⟨[],[],[]⟩:aQ),[],.slice none 0 0⟩:bp)) .box .id sz163k rfl rfl rdV rfl<|a_ rfl<|a_ rfl<|a_ rfl<|a_ rfl<|nl<|Under.cvB (fs:=eM) (⟨(⟨[],[],[]⟩:aQ),[],[]⟩:bU) (fun F=>⟨fun _ h=>h,fun _ h=>h,nY,trivial⟩)<|fz (t:=6) rfl<|tn<|rt<|tV (K:=kSl K10) (x:=[]) (t:=7) rfl rdN<|tV (K:=kSl K10) (x:=[]) (t:=8) rfl rdN<|tV (K:=kSl K8) (x:=[]) (t:=9) rfl rdN ?_
    cases osi hF
    exact rs Tryz.results85 (.ce rfl kt163 (.tm rfl (.tm rfl (.tm rfl (.tm rfl .nil))))) rfl rfl
   ·refine bs hF fun cA hA hF=>ct<|sr<|a_ rfl<|nt<|sq<|Under.after (fun X=>∀(vA:List (List Int)) (bA:List Int) (oA:Value),cA=(.inr (vA,bA))→Under F0 118 [(6,pb b1),(9,.val (kSl K8) vA),(11,.val K8 vB.1)] ((.own K10 oA 3 bA)::(.box gx b1 163 (⟨y5.1,y2.1,oA⟩:bp))::L) X) ?_ ?_
    ·intro vA bA oA kA
     replace kA:=kA.symm
     subst kA
     refine bs hF fun dB qA hF=>sr<|oM tf rfl<|f1<|lP .box (.fld .id iw) kt68k1 rfl rfl<|m_ rfl<|cx Tryz.call143 rfl (o88 qA _)<|m_ rfl<|oE rfl<|oE rfl<|oE rfl<|a_ rfl<|a_ rfl<|a_ rfl<|ns<|f1<|Under.frzBO (fs:=eM) (⟨y5.1,y2.1,bA⟩:bU) (fun F hv=>⟨fun _ h=>h,fun _ h=>h,iB hv,trivial⟩)<|lP .box .id kt163k rfl rfl<|m_ rfl<|m_ rfl<|m_ rfl<|m_ rfl<|sP (x':=(⟨y5.1,y2.1,bA⟩:bU)) .box .id sz163k1 rfl rfl rdV rfl<|a_ rfl<|a_ rfl<|a_ rfl<|a_ rfl<|nl<|fz (t:=6) rfl<|tn<|rc ?_
     cases osi hF
     exact rs Tryz.results85 (.ce rfl kt163 (.tm rfl (.tm rfl (.tm rfl (.tm rfl .nil))))) rfl rfl
    ·intro K rA
     refine bs hA fun eB wA hA=>sr<|oM tf rfl<|lP .box (.fld .id iw) kt68k1 rfl rfl<|oN Tryz.underlying68 rfl<|m_ rfl<|nt<|bk<|Under.ownNil (K:=kSl K10) (e:=68)<|Under.ownNil (K:=kInt .i64) (e:=3)<|f2<|f1<|f2<|lp wA (C:=(Value×Value)) ((.slice none 0 0),(.slice none 0 0)) (fun yA zA=>[(6,pb b1),(9,.raw zA.1),(11,.val K8 vB.1),(13,.raw (.int .i64 yA.2.1)),(57,.val K8 y2.1),(58,.raw (.int .i64 (y2.1.length:Int))),(59,.raw (.int .i64 yA.2.2.1))]) (fun yA zA=>(.own K8 zA.1 68 yA.1)::(.own K10 zA.2 3 yA.2.2.2)::(.box gx b1 163 (⟨y5.1,y2.1,zA.2⟩:bp))::L) rfl rfl fun yA zA cB xA dA=>?_
     obtain⟨qB,gA,rB,wB⟩:=yA
     obtain⟨gB,mB⟩:=zA
     dsimp only at xA⊢
     refine sr<|b_ rfl<|nt<|sq<|it xA rfl (fun xA=>?_) (fun xA=>?_)
     ·refine bs xA fun nB mA xA=>bs xA fun pB nA xA=>bs xA fun tB pA xA=>bs xA fun uB tA xA=>bs xA fun xC uA xA=>ct<|sq<|bk<|sr<|m_ rfl<|oS mA Tryz.underlying68 sz3 rfl<|oI kt3 rfl<|a_ rfl<|a_ rfl<|ns<|oM wK rfl<|f2<|lP .box (.fld .id jZ) kt68k rfl rfl<|Under.rawR (t:=65) rfl<|m_ rfl<|bF (ys:=[gA]) Tryz.underlying68 ET3 (BldA.cons rfl rfl rdI (BldA.nil _)) rfl rfl<|f2<|ap nA Tryz.underlying68 AT3 rfl rfl rdV rfl fun eA=>oM wK rfl<|Under.ownCell fun xB=>f1<|sP (x':=(⟨y5.1,y2.1,eA⟩:bp)) .box (.fld .id jZ) sz68k1 rfl rfl (fT xB) rfl<|ns<|m_ rfl<|mb rfl<|a_ rfl<|nt<|sq<|ph rfl<|gV [0,1,2,3,4,5,6,7] [[6],[74],[75],[14],[76,77],[78],[15],[80]] 3 (by kernel_rfl) rfl<|vo (fun _=>OpV.fdM th rfl) rfl<|vo (fun _=>OpV.fdM vS rfl) rfl<|Vq.v (fun G T hG=>lP .box (.fld (.fld .id iy) qQ) kt44k1 rfl rfl<|Vq.end rfl)<|vm_ rfl<|vo (fun _=>OpV.ixS pA Tryz.underlying44 sz22 rfl rdV rfl) rfl<|vo (fun _=>OpV.ld kt22 rfl) rfl<|vm_ rfl<|Vq.v (fun G T hG=>cx Tryz.call141 rfl (o84 tA _)<|Vq.end rfl)<|vn<|p1 8 rfl rfl<|cx Tryz.call139 rfl (o83 uA _)<|pn<|p1 9 rfl rfl<|m_ rfl<|pn<|gV [10,11,12,13,14] [[73],[73],[73],[83],[84]] 3 (by kernel_rfl) rfl<|vo (fun _=>OpV.extr rfl rfl) rfl<|vo (fun _=>OpV.extr rfl rfl) rfl<|vo (fun _=>OpV.extr rfl rfl) rfl<|Vq.v (fun G T hG=>a_ rfl<|Vq.end rfl)<|Vq.v (fun G T hG=>a_ rfl<|Vq.end rfl)<|vn<|p1 15 rfl rfl<|a_ rfl<|pn<|pd rfl<|tn<|sq<|sr<|mb rfl<|nt<|it xA rfl (fun xA=>?_) (fun xA=>?_)
      ·refine f2<|dr<|sr<|ov (OpV.bst eg (Bld.nil _)) rfl<|m_ rfl<|sP (x':=(⟨(⟨[],[],[]⟩:aQ),[],.slice none 0 0⟩:bp)) .box .id sz163k rfl rfl rdV rfl<|a_ rfl<|a_ rfl<|a_ rfl<|a_ rfl<|nl<|Under.cvB (fs:=eM) (⟨(⟨[],[],[]⟩:aQ),[],[]⟩:bU) (fun F=>⟨fun _ h=>h,fun _ h=>h,nY,trivial⟩)<|fz (t:=6) rfl<|dr<|tn<|rt<|Under.bR<|tr ?_
       cases ai xA dA
       refine tr<|Under.bR<|tr ?_
       cases osi hA
       refine tV (K:=kSl K10) (x:=[]) (t:=7) rfl rdN<|tV (K:=kSl K10) (x:=[]) (t:=8) rfl rdN<|tV (K:=kSl K8) (x:=[]) (t:=9) rfl rdN ?_
       cases osi hF
       exact rs Tryz.results85 (.ce rfl kt163 (.tm rfl (.tm rfl (.tm rfl (.tm rfl .nil))))) rfl rfl
      ·refine bs xA fun yB zB xA=>ct<|sr<|m_ rfl<|m_ rfl<|cx Tryz.call142 rfl (o86 zB _)<|m_ rfl<|oE rfl<|oE rfl<|a_ rfl<|a_ rfl<|nt<|sq<|sr<|mb rfl<|nt<|it xA rfl (fun xA=>?_) (fun xA=>?_)
       ·refine f2<|dr<|sr<|ov (OpV.bst eg (Bld.nil _)) rfl<|m_ rfl<|sP (x':=(⟨(⟨[],[],[]⟩:aQ),[],.slice none 0 0⟩:bp)) .box .id sz163k rfl rfl rdV rfl<|a_ rfl<|a_ rfl<|a_ rfl<|a_ rfl<|nl<|Under.cvB (fs:=eM) (⟨(⟨[],[],[]⟩:aQ),[],[]⟩:bU) (fun F=>⟨fun _ h=>h,fun _ h=>h,nY,trivial⟩)<|fz (t:=6) rfl<|dr<|tn<|rt<|Under.bR<|tr ?_
        cases ai xA dA
        refine tr<|Under.bR<|tr ?_
        cases osi hA
        refine tV (K:=kSl K10) (x:=[]) (t:=7) rfl rdN<|tV (K:=kSl K10) (x:=[]) (t:=8) rfl rdN<|tV (K:=kSl K8) (x:=[]) (t:=9) rfl rdN ?_
        cases osi hF
        exact rs Tryz.results85 (.ce rfl kt163 (.tm rfl (.tm rfl (.tm rfl (.tm rfl .nil))))) rfl rfl
       ·exact bs xA fun yC hB xA=>ct<|rg<|m_ rfl<|m_ rfl<|bF (ys:=[yB.1]) Tryz.underlying164 ET68 (BldA.cons rfl rfl rdV (BldA.nil _)) rfl rfl<|f2<|ap hB Tryz.underlying164 AT68 rfl rfl rdV rfl fun bB=>a_ rfl<|nl<|bN<|tn<|rg<|b_ rfl<|m_ rfl<|nl<|f1<|f2<|f2<|Under.next _ (bB,eA) xA (s7 rfl rfl rfl rfl rfl rfl rfl) rfl
     ·refine fzO (t:=9) rfl<|xt<|te ?_
      cases ai xA dA
      exact te<|bh<|tn<|wr (rA _ _ _ (osi hA).symm) rfl
noncomputable def iO (a0:List Int) (a1:Int) (a2:Int):Option ((List Int)×Int):=
 (lh a0 a1 a2).bind fun y1=>
 bif y1.2.2.2.2 != 0 then
  some ([],y1.2.2.2.2)
 else
  bif mkB (y1.1.sizes.length:Int) (y1.1.sizes.length:Int) then
  bif mkB a1 a1 then
  (((Loop.run (S:=((List Int)×(List Int)×Int)) (R:=(List Int)) (fun(zA,hA,yA)=>
    bif decide (yA<(y1.2.1.length:Int)) then
     (idx y1.2.1 yA).bind fun xA=>
     (idx y1.1.starts xA).bind fun bA=>
     (idx y1.2.2.2.1 xA).bind fun vA=>
     (idx zA xA).bind fun oA=>
     (idx vA oA).bind fun kA=>
     (idx hA yA).bind fun cA=>
     (idx zA xA).bind fun dA=>
     (idx zA xA).bind fun qA=>
     some (.next (List.set zA (Int.toNat xA) (IntKind.wrap .i64 (dA+1)),List.set hA (Int.toNat yA) (IntKind.wrap .i64 (bA+kA)),IntKind.wrap .i64 (yA+1)))
    else
     some (.done hA)) (List.replicate (Int.toNat (y1.1.sizes.length:Int)) (0:Int),List.replicate (Int.toNat a1) (0:Int),0)).bind fun eA=>
  some eA
   :Option (List Int))).bind fun rA=>
  some (rA,0)
  else none
  else none
theorem o90 {a0:List Int} {a1 a2:Int} {r0:((List Int)×Int)} (hF:iO a0 a1 a2=some r0) (L:List Res):Ok Tryz.prog 29 [SV.val K9 a0,SV.raw (.int .i64 a1),SV.raw (.int .i64 a2)] L (SV.tup [SV.val K8 r0.1,SV.raw (.int .i64 r0.2)]) L:=by
 unfold iO at hF
 refine okI 70 Tryz.func29 rfl rfl rfl fun F0=>?_
 refine bs hF fun y1 h2 hF=>sr<|a_ rfl<|a_ rfl<|ns<|m_ rfl<|m_ rfl<|m_ rfl<|cx Tryz.call85 rfl (o89 h2 _)<|m_ rfl<|oE rfl<|oE rfl<|oE rfl<|oE rfl<|oE rfl<|al ZT163 rfl fun b3=>sP (x':=y1.1) .box .id sz163k1 rfl rfl rdV rfl<|a_ rfl<|a_ rfl<|a_ rfl<|a_ rfl<|nl<|fz (t:=8) rfl<|tn<|sq<|sr<|mb rfl<|nt<|it hF rfl (fun hF=>?_) (fun hF=>?_)
 ·refine sr<|m_ rfl<|a_ rfl<|a_ rfl<|nt<|rt<|tV (K:=kSl K10) (x:=[]) (t:=6) rfl rdN ?_
  cases osi hF
  exact rs Tryz.results29 (.tm rfl (.tm rfl .nil)) rfl rfl
 ·refine gs hF fun h6 hF=>gs hF fun h9 hF=>bs hF fun kA dA hF=>ct<|sr<|oF fb163k rfl<|oL kt68 rfl<|oN Tryz.underlying68 rfl<|Under.mk h6 Tryz.underlying68 AT3 rfl rfl rfl fun v5=>a_ rfl<|ns<|m_ rfl<|Under.mk h9 Tryz.underlying68 AT3 rfl rfl rfl fun v8=>a_ rfl<|nt<|sq<|afr (r:=kA) (fun kA=>[(14,.val K8 kA)]) (fun kA=>(L)) ?_ fun K zB=>?_
  ·refine sr<|m_ rfl<|a_ rfl<|a_ rfl<|nt<|rc ?_
   cases osi hF
   exact rs Tryz.results29 (.tm rfl (.tm rfl .nil)) rfl rfl
  ·refine bs dA fun hB eA dA=>sr<|m_ rfl<|oN Tryz.underlying68 rfl<|m_ rfl<|nt<|bk<|f1<|lp eA () (fun yA oA=>[(8,.ptr gw y1.1),(11,.val (kSl K8) y1.2.2.2.1),(13,.raw v5),(14,.raw v8),(36,.val K8 y1.2.1),(37,.raw (.int .i64 (y1.2.1.length:Int))),(38,.raw (.int .i64 yA.2.2))]) (fun yA oA=>(.own K10 v5 3 yA.1)::(.own K10 v8 3 yA.2.1)::L) rfl rfl fun yA oA bB xA cA=>?_
   obtain⟨qA,rA,wA⟩:=yA
   dsimp only at xA⊢
   refine sr<|b_ rfl<|nt<|sq<|it xA rfl (fun xA=>?_) (fun xA=>?_)
   ·exact bs xA fun gA mA xA=>bs xA fun nA pA xA=>bs xA fun vB tA xA=>bs xA fun oB zA xA=>bs xA fun uA xB xA=>bs xA fun kB hA xA=>bs xA fun yB bA xA=>bs xA fun dB vA xA=>ct<|sq<|bk<|sr<|m_ rfl<|oS mA Tryz.underlying68 sz3 rfl<|oI kt3 rfl<|a_ rfl<|a_ rfl<|nt<|sq<|ph rfl<|gV [0,1,2,3,4,5,6,7,8,9,10,11,12,13,14,15,16,17] [[14],[15],[8],[45],[16],[46,47],[48],[11],[16],[50,51],[52],[13],[16],[54,55],[56],[53,57],[58],[49,59]] 2 (by kernel_rfl) rfl<|vm_ rfl<|vm_ rfl<|vo (fun _=>OpV.fd fb163k1 rfl rfl) rfl<|vo (fun _=>OpV.ld kt68 rfl) rfl<|vm_ rfl<|vo (fun _=>OpV.ixS pA Tryz.underlying68 sz3 rfl rdV rfl) rfl<|vo (fun _=>OpV.ldI kt3 rfl) rfl<|vm_ rfl<|vm_ rfl<|vo (fun _=>OpV.ixS tA Tryz.underlying164 sz68 rfl rdV rfl) rfl<|vo (fun _=>OpV.ld kt68 rfl) rfl<|vm_ rfl<|vm_ rfl<|Vq.v (fun G T hG=>ov (OpV.ixO zA Tryz.underlying68 sz3k rfl rfl) rfl<|Vq.end rfl)<|Vq.v (fun G T hG=>lP (.own zA) (.ix .id zA) kt3k rfl rfl<|rI (t:=57) rfl<|Vq.end rfl)<|vo (fun _=>OpV.ixS xB Tryz.underlying68 sz3 rfl rdV rfl) rfl<|vo (fun _=>OpV.ldI kt3 rfl) rfl<|vb_ rfl<|vn<|p1 18 rfl rfl<|f1<|ov (OpV.ixO hA Tryz.underlying68 sz3k rfl rfl) rfl<|pn<|p1 19 rfl rfl<|sP (x':=List.set rA (Int.toNat wA) (IntKind.wrap .i64 (nA+uA))) (.own hA) (.ix .id hA) sz3k rfl rfl rdI rfl<|pn<|pd rfl<|tn<|rg<|m_ rfl<|m_ rfl<|f1<|ov (OpV.ixO bA Tryz.underlying68 sz3k rfl rfl) rfl<|lP (.own bA) (.ix .id bA) kt3k rfl rfl<|rI (t:=65) rfl<|b_ rfl<|ov (OpV.ixO vA Tryz.underlying68 sz3k rfl rfl) rfl<|sP (x':=List.set qA (Int.toNat gA) (IntKind.wrap .i64 (yB+1))) (.own vA) (.ix .id vA) sz3k rfl rfl rdI rfl<|nl<|bN<|tn<|rg<|b_ rfl<|m_ rfl<|nl<|nx () xA rfl rfl
   ·refine dr<|fzO (t:=14) rfl<|xt<|te ?_
    cases ai xA cA
    exact te<|bh<|tn<|wr (zB _ (osi dA).symm) rfl
noncomputable def mK (a0:List Int):Option Bool:=
 bif mkB (a0.length:Int) (a0.length:Int) then
 (((Loop.run (S := ((List Bool) × Int)) (R := (Unit ⊕ Bool)) (fun (yA, zA) =>
   bif decide (zA<(a0.length:Int)) then
    (idx a0 zA).bind fun xA=>
    ((bif (decide (xA<0))||(decide (xA≥(a0.length:Int))) then
     some true
    else
     (idx yA xA).bind fun hA=>
     some hA
     :Option Bool)).bind fun bA=>
    bif bA then
     some (.done (.inr false))
    else
     (idx yA xA).bind fun oA=>
     some (.next (List.set yA (Int.toNat xA) true,IntKind.wrap .i64 (zA+1)))
   else
    some (.done (.inl ()))) (List.replicate (Int.toNat (a0.length:Int)) false,0)).bind fun vA=>match vA with
  | .inl _=>
   some (.inr ())
  | .inr z=>
   some (.inl z)
  : Option (Bool ⊕ Unit))).bind fun kA => match kA with
  | .inl z=>
   some z
  | .inr _=>
   some true
 else none
theorem o91 {a0:List Int} {r0:Bool} (hF:mK a0=some r0) (L:List Res):Ok Tryz.prog 185 [SV.val K8 a0] L (SV.raw (.bool r0)) L:=by
 unfold mK at hF
 refine okI 33 Tryz.func185 rfl rfl rfl fun F0=>?_
 refine gs hF fun h2 hF=>bs hF fun mA qA hF=>sr<|a_ rfl<|ns<|m_ rfl<|oN Tryz.underlying68 rfl<|Under.mk h2 Tryz.underlying106 AT4 rfl rfl rfl fun v1=>a_ rfl<|nt<|sq<|Under.after (fun X=>∀(_:Unit),mA=(.inr ())→Under F0 33 [] (L) X) ?_ ?_
 ·intro _ oA
  replace oA:=oA.symm
  subst oA
  refine sr<|a_ rfl<|nt<|rc ?_
  cases osi hF
  exact rs Tryz.results185 (.tm rfl .nil) rfl rfl
 ·intro K nA
  refine bs qA fun pA rA qA=>sr<|m_ rfl<|oN Tryz.underlying68 rfl<|m_ rfl<|nt<|bk<|lp rA () (fun bA eA=>[(0,.val K8 a0),(3,.raw v1),(9,.val K8 a0),(10,.raw (.int .i64 (a0.length:Int))),(11,.raw (.int .i64 bA.2))]) (fun bA eA=>(.own jJ v1 4 bA.1)::L) rfl rfl fun bA eA tA xA cA=>?_
  obtain⟨uA,zB⟩:=bA
  dsimp only at xA⊢
  refine sr<|b_ rfl<|nt<|sq<|it xA rfl (fun xA=>?_) (fun xA=>?_)
  ·refine bs xA fun vA wA xA=>ct<|sq<|bk<|sr<|oS wA Tryz.underlying68 sz3 rfl<|oI kt3 rfl<|a_ rfl<|nt<|sq<|sr<|mb rfl<|m_ rfl<|jC 22 ((decide (vA<0))||(decide (vA≥(a0.length:Int)))) ?_ (fun k=>?_)
   ·refine bs xA fun gA hA xA=>m_ rfl<|jC 28 gA ?_ (fun k=>?_)
    ·refine nt<|it xA rfl (fun xA=>?_) (fun xA=>?_)
     ·refine dr<|sr<|a_ rfl<|nt<|rt<|Under.bR<|tr ?_
      cases ai xA cA
      refine tr<|Under.bR<|tr ?_
      cases osi qA
      cases osi hF
      exact rs Tryz.results185 (.tm rfl .nil) rfl rfl
     ·exact bs xA fun xB kA xA=>ct<|rg<|m_ rfl<|m_ rfl<|ov (OpV.ixO kA Tryz.underlying106 sz4k rfl rfl) rfl<|sP (x':=List.set uA (Int.toNat vA) true) (.own kA) (.ix .id kA) sz4k rfl rfl rdB rfl<|nl<|bN<|tn<|rg<|b_ rfl<|m_ rfl<|nl<|nx () xA rfl rfl
    ·refine by_ (t:=23) rfl (fun yA=>?_) (fun yA=>?_)
     ·replace hA:=ctrue yA hA
      exact sk_ yA rfl<|sk_ yA rfl<|sk_ yA rfl<|sk_ yA rfl<|pT yA rfl<|rf 4 (rbq hA) rfl k
     ·replace hA:=cfalse yA hA
      exact bs hA fun yB dA hA=>gc_ yA rfl<|m_ rfl<|gc_ yA rfl<|m_ rfl<|gc_ yA rfl<|ov (OpV.ixO dA Tryz.underlying106 sz4k rfl rfl) rfl<|gc_ yA rfl<|lP (.own dA) (.ix .id dA) kt4k rfl rfl<|Under.rawB (t:=27) rfl<|pF yA rfl<|rf 5 (rbq hA) rfl k
   ·refine by_ (t:=17) rfl (fun zA=>?_) (fun zA=>?_)
    ·exact sk_ zA rfl<|sk_ zA rfl<|sk_ zA rfl<|sk_ zA rfl<|pT zA rfl<|rf 4 (or_t (e:=decide (vA≥(a0.length:Int))) zA) rfl k
    ·exact gc_ zA rfl<|m_ rfl<|gc_ zA rfl<|m_ rfl<|gc_ zA rfl<|oN Tryz.underlying68 rfl<|gc_ zA rfl<|b_ rfl<|pF zA rfl<|rf 4 (or_f zA) rfl k
  ·refine dr<|xt<|te ?_
   cases ai xA cA
   exact te<|bh<|tn<|wr (nA () (osi qA).symm) rfl
noncomputable def li (a0:List Int) (a1:List (List Int)):Option (List (List Int)):=
 bif mkB 0 (a0.length:Int) then
 (((Loop.run (S:=((List (List Int))×Int)) (R:=(List (List Int))) (fun(yA,xA)=>
   bif decide (xA<(a0.length:Int)) then
    (idx a0 xA).bind fun zA=>
    (idx a1 zA).bind fun hA=>
    (app yA [hA]).bind fun bA=>
    some (.next (bA,IntKind.wrap .i64 (xA+1)))
   else
    some (.done yA)) (List.replicate (Int.toNat 0) ([]:List Int),0)).bind fun vA=>
 some vA
  :Option (List (List Int)))).bind fun oA=>
 some oA
 else none
theorem o92 {a0:List Int} {a1:List (List Int)} {r0:(List (List Int))} (hF:li a0 a1=some r0) (L:List Res):Ok Tryz.prog 186 [SV.val K8 a0,SV.val K1 a1] L (SV.val K1 r0) L:=by
 unfold li at hF
 refine okI 26 Tryz.func186 rfl rfl rfl fun F0=>?_
 refine gs hF fun h2 hF=>bs hF fun zA bA hF=>sr<|a_ rfl<|ns<|m_ rfl<|oN Tryz.underlying68 rfl<|Under.mk h2 Tryz.underlying44 AT22 rfl rfl rfl fun v1=>a_ rfl<|nt<|sq<|afr (r:=zA) (fun zA=>[(5,.val K1 zA)]) (fun zA=>(L)) ?_ fun K vA=>?_
 ·refine sr<|m_ rfl<|a_ rfl<|nt<|rc ?_
  cases osi hF
  exact rs Tryz.results186 (.tm rfl .nil) rfl rfl
 ·refine bs bA fun wA oA bA=>sr<|m_ rfl<|oN Tryz.underlying68 rfl<|m_ rfl<|nt<|bk<|lp oA (C:=Value) v1 (fun yA hA=>[(1,.val K1 a1),(5,.raw hA),(11,.val K8 a0),(12,.raw (.int .i64 (a0.length:Int))),(13,.raw (.int .i64 yA.2))]) (fun yA hA=>(.own K9 hA 22 yA.1)::L) rfl rfl fun yA hA gA xA kA=>?_
  obtain⟨mA,nA⟩:=yA
  dsimp only at xA⊢
  refine sr<|b_ rfl<|nt<|sq<|it xA rfl (fun xA=>?_) (fun xA=>?_)
  ·exact bs xA fun pA dA xA=>bs xA fun eA cA xA=>bs xA fun tA qA xA=>ct<|sq<|bk<|sr<|oS dA Tryz.underlying68 sz3 rfl<|oI kt3 rfl<|a_ rfl<|nt<|rg<|m_ rfl<|m_ rfl<|m_ rfl<|oS cA Tryz.underlying44 sz22 rfl<|oL kt22 rfl<|bF (ys:=[eA]) Tryz.underlying44 ET22 (BldA.cons rfl rfl rdV (BldA.nil _)) rfl rfl<|ap qA Tryz.underlying44 AT22 rfl rfl rdV rfl fun rA=>a_ rfl<|nl<|bN<|tn<|rg<|b_ rfl<|m_ rfl<|nl<|nx rA xA rfl rfl
  ·refine fzO (t:=5) rfl<|xt<|te ?_
   cases ai xA kA
   exact te<|bh<|tn<|wr (vA _ (osi bA).symm) rfl
noncomputable def lV (a0:List Int) (a1:List (List Int)):Option ((List (List Int))×Int):=
 ((bif (a0.length:Int) != (a1.length:Int) then
  some true
 else
  (mK a0).bind fun y4=>
  some (!y4)
  :Option Bool)).bind fun x3=>
 bif x3 then
  some ([],110)
 else
  (li a0 a1).bind fun y7=>
  some (y7,0)
theorem o93 {a0:List Int} {a1:List (List Int)} {r0:((List (List Int))×Int)} (hF:lV a0 a1=some r0) (L:List Res):Ok Tryz.prog 122 [SV.val K8 a0,SV.val K1 a1] L (SV.tup [SV.val K1 r0.1,SV.raw (.int .i64 r0.2)]) L:=by
 unfold lV at hF
 refine okI 19 Tryz.func122 rfl rfl rfl fun F0=>?_
 refine bs hF fun x3 h2 hF=>sr<|a_ rfl<|a_ rfl<|nt<|sq<|sr<|m_ rfl<|oN Tryz.underlying68 rfl<|m_ rfl<|oN Tryz.underlying44 rfl<|b_ rfl<|m_ rfl<|bt 15 x3 ?_ (fun k=>?_)
 ·refine nt<|it hF rfl (fun hF=>?_) (fun hF=>?_)
  ·refine sr<|a_ rfl<|a_ rfl<|nt<|rt<|tV (K:=kSl K9) (x:=[]) (t:=4) rfl rdN ?_
   cases osi hF
   exact rs Tryz.results122 (.tm rfl (.tm rfl .nil)) rfl rfl
  ·refine bs hF fun y7 h8 hF=>ct<|sr<|m_ rfl<|m_ rfl<|cx Tryz.call186 rfl (o92 h8 _)<|a_ rfl<|a_ rfl<|nt<|rc ?_
   cases osi hF
   exact rs Tryz.results122 (.tm rfl (.tm rfl .nil)) rfl rfl
 ·refine by_ (t:=11) rfl (fun c1=>?_) (fun c1=>?_)
  ·replace h2:=ctrue c1 h2
   exact sk_ c1 rfl<|sk_ c1 rfl<|sk_ c1 rfl<|pT c1 rfl<|rf 3 (rbq h2) rfl k
  ·replace h2:=cfalse c1 h2
   exact bs h2 fun y4 h5 h2=>gc_ c1 rfl<|m_ rfl<|gc_ c1 rfl<|cx Tryz.call185 rfl (o91 h5 _)<|gc_ c1 rfl<|ov (OpV.not rfl) rfl<|pF c1 rfl<|rf 3 (rbq h2) rfl k
noncomputable def je (a0:List Int) (a1:Int) (a2:List (List Int)):Option ((List (List Int))×Int):=
 (iO a0 (a2.length:Int) a1).bind fun y1=>
 bif y1.2 != 0 then
  some ([],y1.2)
 else
  (lV y1.1 a2).bind fun y4=>
  some (y4.1,y4.2)
theorem o94 {a0:List Int} {a1:Int} {a2:List (List Int)} {r0:((List (List Int))×Int)} (hF:je a0 a1 a2=some r0) (L:List Res):Ok Tryz.prog 66 [SV.val K9 a0,SV.raw (.int .i64 a1),SV.val K1 a2] L (SV.tup [SV.val K1 r0.1,SV.raw (.int .i64 r0.2)]) L:=by
 unfold je at hF
 refine okI 26 Tryz.func66 rfl rfl rfl fun F0=>?_
 refine bs hF fun y1 h2 hF=>sr<|a_ rfl<|a_ rfl<|ns<|m_ rfl<|m_ rfl<|oN Tryz.underlying44 rfl<|m_ rfl<|cx Tryz.call29 rfl (o90 h2 _)<|m_ rfl<|oE rfl<|oE rfl<|a_ rfl<|a_ rfl<|nt<|sq<|sr<|mb rfl<|nt<|it hF rfl (fun hF=>?_) (fun hF=>?_)
 ·refine sr<|m_ rfl<|a_ rfl<|a_ rfl<|nt<|rt<|tV (K:=kSl K9) (x:=[]) (t:=6) rfl rdN ?_
  cases osi hF
  exact rs Tryz.results66 (.tm rfl (.tm rfl .nil)) rfl rfl
 ·refine bs hF fun y4 h5 hF=>ct<|sr<|m_ rfl<|m_ rfl<|cx Tryz.call122 rfl (o93 h5 _)<|oE rfl<|oE rfl<|a_ rfl<|a_ rfl<|nt<|rc ?_
  cases osi hF
  exact rs Tryz.results66 (.tm rfl (.tm rfl .nil)) rfl rfl
noncomputable def dc (a0:List (List Int)):Option (List (List Int)):=
 (app [] a0).bind fun z5=>
 some z5
theorem o95 {a0:List (List Int)} {r0:(List (List Int))} (hF:dc a0=some r0) (L:List Res):OkX Tryz.prog 77 [SV.val K0 a0] L (fun y:Value=>SV.raw y) (fun y:Value=>(.own K4 y 64 r0)::L):=by
 unfold dc at hF
 refine OkX.intro 8 [(0,.val K0 a0)] Tryz.func77 rfl rfl rfl rfl fun F0=>?_
 refine sr<|a_ rfl<|nt<|sq<|sr<|m_ rfl<|Under.eqNil Tryz.underlying85 rfl rfl fun b1 h2=>nt<|Under.conde rfl (fun h9=>?_) (fun _=>?_)
 ·replace hF:(some [])=some r0:=by rw[h2 h9] at hF;simpa[app,room] using hF
  refine sr<|a_ rfl<|nt<|rt<|Under.ownNil (K:=kArr 16 K12) (e:=64) ?_
  cases osi hF
  exact Under.retsX (.slice none 0 0) Tryz.results77 (.tm rfl .nil) rfl rfl
 ·refine bs hF fun z5 h6 hF=>ct<|sr<|bO (ys:=[]) Tryz.underlying85 ET64 (BldA.nil _) rfl rfl fun v4=>m_ rfl<|ap h6 Tryz.underlying85 AT64 rfl rfl rdV rfl fun v7=>a_ rfl<|nt<|rc ?_
  cases osi hF
  exact Under.retsX v7 Tryz.results77 (.tm rfl .nil) rfl rfl
noncomputable def lW (a0:ah) (a1:Int) (a2:List (List Int)) (a3:Int):Option (ah×Int):=
 ((bif (decide (a3<0))||(decide (a3>4096)) then
  some true
 else
  (fJ a0 8 4096).bind fun y8=>
  some (y8 != 0)
  :Option Bool)).bind fun x7=>
 bif x7 then
  some ((⟨(0:Int),[]⟩:ah),2)
 else
  ((bif decide (a1<0) then
   some true
  else
   (jj a1 a0.Newest 8).bind fun tB=>
   some (!tB)
   :Option Bool)).bind fun uB=>
  bif uB then
   some ((⟨(0:Int),[]⟩:ah),161)
  else
   (((Loop.run (S:=(Int×(List ((List Int)×Int)))) (R:=(List ((List Int)×Int))) (fun(bA,cA)=>
     bif decide (bA<(a2.length:Int)) then
      (idx a2 bA).bind fun pA=>
      some (.next (IntKind.wrap .i64 (bA+1),mset pA bA cA))
     else
      some (.done cA)) (0,[])).bind fun tA=>
   some tA
    :Option (List ((List Int)×Int)))).bind fun xC=>
   (fI a0).bind fun yC=>
   rQ (S:=(List ((List Int)×Int))) yC (fun(zC:(List Int)×Int) nA=>
     some (mdel zC.1 nA)) (fun nA=>
     (fZ a0).bind fun hC=>
     bif decide ((IntKind.wrap .i64 (hC+(nA.length:Int)))>a3) then
      some ((⟨(0:Int),[]⟩:ah),160)
     else
      rQ (S:=(List (List Int))) nA (fun(uA:(List Int)×Int) zA=>
       (app zA [uA.1]).bind fun xB=>
       some xB) (fun zA=>
       (Loop.run (S:=(Int×(List aA)×Bool)) (R:=((List aA)×Bool)) (fun(yA,hA,mode_)=>
         bif mode_ then
          bif decide (yA<(a0.Epochs.length:Int)) then
           (idx a0.Epochs yA).bind fun qA=>
           ((some ()
            :Option Unit)).bind fun _=>
           (dc qA.Tags).bind fun yB=>
           (app hA [(⟨qA.Number,yB⟩:aA)]).bind fun zB=>
           some (.next (IntKind.wrap .i64 (yA+1),zB,true))
          else
           some (.done (hA,true))
         else
          bif decide (yA<(a0.Epochs.length:Int)) then
           (idx a0.Epochs yA).bind fun xA=>
           bif decide (xA.Number≥a1) then
            bif decide (xA.Number>a1) then
             (app hA [(⟨a1,zA⟩:aA)]).bind fun hB=>
             (dc xA.Tags).bind fun bB=>
             (app hB [(⟨xA.Number,bB⟩:aA)]).bind fun vB=>
             some (.next (IntKind.wrap .i64 (yA+1),vB,true))
            else
             (app zA xA.Tags).bind fun rA=>
             (dc (({xA with Tags:=rA}:aA).Tags)).bind fun oB=>
             (app hA [(⟨({xA with Tags:=rA}:aA).Number,oB⟩:aA)]).bind fun kB=>
             some (.next (IntKind.wrap .i64 (yA+1),kB,true))
           else
            (dc xA.Tags).bind fun dB=>
            (app hA [(⟨xA.Number,dB⟩:aA)]).bind fun eB=>
            some (.next (IntKind.wrap .i64 (yA+1),eB,false))
          else
           some (.done (hA,false))) (0,[],(zA.length:Int)==0)).bind fun cB=>match cB with
        |(kA,mode_)=>
         bif mode_ then
          ((some ()
           :Option Unit)).bind fun _=>
          (((Loop.run (S:=((List aA)×Int)) (R:=ah) (fun(dA,vA)=>
            bif decide (vA<(kA.length:Int)) then
             (idx dA vA).bind fun wA=>
             (w6 wA.Tags).bind fun qB=>
             some (.next (List.set dA (Int.toNat vA) ({wA with Tags:=qB}:aA),IntKind.wrap .i64 (vA+1)))
            else
             some (.done (⟨a0.Newest,dA⟩:ah))) (kA,0)).bind fun rB=>
          some rB
           :Option ah)).bind fun wB=>
          some (wB,0)
         else
          (((app kA [(⟨a1,zA⟩:aA)]).bind fun gB=>
          some gB
           :Option (List aA))).bind fun gA=>
          (((Loop.run (S:=((List aA)×Int)) (R:=ah) (fun(eA,oA)=>
            bif decide (oA<(gA.length:Int)) then
             (idx eA oA).bind fun mA=>
             (w6 mA.Tags).bind fun mB=>
             some (.next (List.set eA (Int.toNat oA) ({mA with Tags:=mB}:aA),IntKind.wrap .i64 (oA+1)))
            else
             some (.done (⟨a0.Newest,eA⟩:ah))) (gA,0)).bind fun nB=>
          some nB
           :Option ah)).bind fun pB=>
          some (pB,0)) []) xC
theorem o96 {a0:ah} {a1:Int} {a2:List (List Int)} {a3:Int} {r0:(ah×Int)} (hF:lW a0 a1 a2 a3=some r0) (L:List Res):Ok Tryz.prog 67 [SV.val am a0,SV.raw (.int .i64 a1),SV.val K0 a2,SV.raw (.int .i64 a3)] L (SV.tup [SV.val am r0.1,SV.raw (.int .i64 r0.2)]) L:=by
 unfold lW at hF
 refine okI 155 Tryz.func67 rfl rfl rfl fun F0=>?_
 refine sr<|bX (K:=am) rfl rdV rfl<|al ZT27 rfl fun b1=>a_ rfl<|nt<|sq<|sr<|mb rfl<|m_ rfl<|cN 27 ((decide (a3<0))||(decide (a3>4096))) ?_ (fun k=>?_)
 ·refine bs hF fun x7 h6 hF=>m_ rfl<|bt 32 x7 ?_ (fun k=>?_)
  ·refine nt<|it hF rfl (fun hF=>?_) (fun hF=>?_)
   ·refine sr<|ov (OpV.bst BT27 (Bld.nil _)) rfl<|sP (x':=(⟨(0:Int),[]⟩:ah)) .box .id sz27k rfl rfl rdV rfl<|a_ rfl<|nl<|fz (t:=8) rfl<|tn<|rt ?_
    cases osi hF
    exact rs Tryz.results67 (.ce rfl kt27 (.tm rfl .nil)) rfl rfl
   ·refine bs hF fun wH eB hF=>ct<|sq<|sr<|mb rfl<|m_ rfl<|nK 42 wH ?_ (fun k=>?_)
    ·refine nt<|it hF rfl (fun hF=>?_) (fun hF=>?_)
     ·refine sr<|ov (OpV.bst BT27 (Bld.nil _)) rfl<|sP (x':=(⟨(0:Int),[]⟩:ah)) .box .id sz27k rfl rfl rdV rfl<|a_ rfl<|nl<|fz (t:=8) rfl<|tn<|rt ?_
      cases osi hF
      exact rs Tryz.results67 (.ce rfl kt27 (.tm rfl .nil)) rfl rfl
     ·refine bs hF fun mC pC hF=>ct<|sr<|Under.mkm K4 K10 rfl fun zC=>a_ rfl<|nt<|sq<|afr (r:=mC) (fun mC=>[(1,.raw (.int .i64 a1)),(3,.raw (.int .i64 a3)),(4,.ptr am a0),(8,pb b1),(10,.raw (.map (some zC)))]) (fun mC=>((.box am b1 27 (⟨(0:Int),[]⟩:ah))::(.mp K4 K10 zC mC)::L)) ?_ fun K gH=>?_
      ·refine bs hF fun wJ mH hF=>sq<|sr<|oL kt27 rfl<|cx Tryz.call124 rfl (o4 mH _)<|Under.rng Tryz.underlying155 rfl rfl fun nH=>nt<|bk<|Under.loopM (S:=(List ((List Int)×Int))) (C:=Unit) () (fun(bB:(List ((List Int)×Int))) (hC:Unit)=>[(1,.raw (.int .i64 a1)),(3,.raw (.int .i64 a3)),(4,.ptr am a0),(8,pb b1),(10,.raw (.map (some zC))),(58,pb nH)]) (fun(bB:(List ((List Int)×Int))) (hC:Unit)=>(.box am b1 27 (⟨(0:Int),[]⟩:ah))::(.mp K4 K10 zC bB)::L) hF (s6 rfl rfl rfl rfl rfl rfl) rfl (fun bB hC l50 gJ kH dH=>?_)
       try dsimp only at kH
       try dsimp only at dH
       try dsimp only
       refine sr<|Under.nxt rfl rfl (fun pH=>?_) (fun nC l71 eH=>?_)
       ·refine oE rfl<|nt<|sq<|Under.condF rfl<|f2<|Under.frzM (t:=10) rfl<|xt<|te ?_
        have hF:=kH pH
        refine bs hF fun mJ tH hF=>dr<|te<|bh<|tn<|sq<|sr<|oL kt27 rfl<|cx Tryz.call24 rfl (o3 tH _)<|m_ rfl<|ov (OpV.lenM Tryz.underlying155 rfl) rfl<|b_ rfl<|mb rfl<|nt<|it hF rfl (fun hF=>?_) (fun hF=>?_)
        ·refine sr<|ov (OpV.bst BT27 (Bld.nil _)) rfl<|sP (x':=(⟨(0:Int),[]⟩:ah)) .box .id sz27k rfl rfl rdV rfl<|a_ rfl<|nl<|fz (t:=8) rfl<|tn<|rt ?_
         cases osi hF
         exact rs Tryz.results67 (.ce rfl kt27 (.tm rfl .nil)) rfl rfl
        ·refine ct<|sr<|a_ rfl<|nt<|sq<|sr<|m_ rfl<|Under.rng Tryz.underlying155 rfl rfl fun uH=>nt<|bk<|Under.ownNil (K:=kArr 16 K12) (e:=64)<|f2<|f1<|f2<|Under.loopM (S:=(List (List Int))) (C:=Value) (.slice none 0 0) (fun(wA:(List (List Int))) (oA:Value)=>[(1,.raw (.int .i64 a1)),(4,.ptr am a0),(8,pb b1),(14,.raw oA),(74,pb uH)]) (fun(wA:(List (List Int))) (oA:Value)=>(.own K4 oA 64 wA)::(.box am b1 27 (⟨(0:Int),[]⟩:ah))::L) hF (s5 rfl rfl rfl rfl rfl) rfl (fun wA oA l78 nJ cH qH=>?_)
         try dsimp only at cH
         try dsimp only at qH
         try dsimp only
         refine sr<|Under.nxt rfl rfl (fun tC=>?_) (fun vB l107 bC=>?_)
         ·refine oE rfl<|nt<|sq<|Under.condF rfl<|xt<|te ?_
          have hF:=cH tC
          refine bs hF fun xI uC hF=>dr<|te<|bh<|tn<|sr<|oF fb27k rfl<|oI kt2 rfl<|ov (OpV.bst jX (Bld.cons (x':=(⟨a0.Newest,.slice none 0 0⟩:aF)) rfl rfl rdI (by intro q hq;simp only[List.mem_cons,List.not_mem_nil,or_false] at hq;rcases hq with rfl<;>rfl) (Bld.nil _))) rfl<|al ZT27k rfl fun hA=>sP (x':=(⟨a0.Newest,.slice none 0 0⟩:aF)) .box .id sz27k1 rfl rfl rdV rfl<|ns<|m_ rfl<|f1<|ov (OpV.lenO Tryz.underlying85 rfl) rfl<|b_ rfl<|a_ rfl<|nt<|sq<|sr<|oF fb27k1 rfl<|oL kt25 rfl<|oN Tryz.underlying25 rfl<|m_ rfl<|nt<|bk<|Under.manyNil (KR:=aH) (KT:=kArr 16 K12) (mk:=cK) (tg:=cQ) (TE:=152) (TT:=64)<|f2<|f1<|f3<|f3<|Under.modeD (b:=(wA.length:Int)==0)<|lp uC (C:=Value) (.slice none 0 0) (fun gA zA=>[(1,.raw (.int .i64 a1)),(8,pb b1),(14,.raw oA),(16,pb hA),(17,.raw (.bool gA.2.2)),(90,.val (kSl bc) a0.Epochs),(91,.raw (.int .i64 (a0.Epochs.length:Int))),(92,.raw (.int .i64 gA.1))]) (fun gA zA=>bif gA.2.2 then((.box am b1 27 (⟨(0:Int),[]⟩:ah))::(.any (jK aH K4 cK cQ 152 64 zA gA.2.1))::(.box bw hA 27 (⟨a0.Newest,zA⟩:aF))::L) else((.own K4 oA 64 wA)::(.box am b1 27 (⟨(0:Int),[]⟩:ah))::(.any (jK aH K4 cK cQ 152 64 zA gA.2.1))::(.box bw hA 27 (⟨a0.Newest,zA⟩:aF))::L)) rfl rfl fun gA zA yI xA vC=>?_
          obtain⟨xD,pA,mode_⟩:=gA
          cases mode_
          ·try dsimp only[cond_true,cond_false] at xA
           try dsimp only[cond_true,cond_false]
           refine sr<|b_ rfl<|nt<|sq<|it xA rfl (fun xA=>?_) (fun xA=>?_)
           ·refine bs xA fun yA yD xA=>ct<|sq<|bk<|sr<|oS yD Tryz.underlying25 sz152 rfl<|oL kt152 rfl<|al ZT152 rfl fun zI=>sP (x':=yA) .box .id sz152k rfl rfl rdV rfl<|nt<|sq<|sr<|m_ rfl<|ov (OpV.not rfl) rfl<|m_ rfl<|gc (rfl:(true:Bool)=true) rfl rfl<|oM wL rfl<|gc (rfl:(true:Bool)=true) rfl rfl<|lP .box (.fld .id mu) kt2k rfl rfl<|rI (t:=100) rfl<|gc (rfl:(true:Bool)=true) rfl rfl<|m_ rfl<|gc (rfl:(true:Bool)=true) rfl rfl<|b_ rfl<|ov (pkT (rfl:(true:Bool)=true) rfl rfl) rfl<|nt<|it xA rfl (fun xA=>?_) (fun xA=>?_)
            ·refine sr<|a_ rfl<|ns<|oM wL rfl<|lP .box (.fld .id mu) kt2k rfl rfl<|rI (t:=105) rfl<|mb rfl<|nt<|it xA rfl (fun xA=>?_) (fun xA=>?_)
             ·refine bs xA fun zD hD xA=>bs xA fun cB bD xA=>bs xA fun hI vD xA=>fz (t:=19) rfl<|rg<|oM fB rfl<|f3<|lP .box (.fld .id aR) kt25k rfl rfl<|Under.rawR (t:=109) rfl<|m_ rfl<|m_ rfl<|f1<|Under.ownCell fun oD=>ov (OpV.bst dF (Bld.cons (x':=(⟨a1,.slice none 0 0⟩:au)) rfl rfl rdI (by intro q hq;simp only[List.mem_cons,List.not_mem_nil,or_false] at hq;rcases hq with rfl<;>rfl) (Bld.cons (x':=(⟨a1,oA⟩:au)) rfl rfl (fT oD) ⟨rfl,(fun q hq=>by simp at hq)⟩ (Bld.nil _)))) rfl<|bF (ys:=[(⟨a1,oA⟩:au)]) Tryz.underlying25 ET152k (BldA.cons rfl rfl rdV (BldA.nil _)) rfl rfl<|f3<|Under.manyPush (x:=(⟨a1,wA⟩:aA)) bL bP hD Tryz.underlying25 (by kernel_rfl) AT152k rfl rfl (.sl rdV) rfl fun oB=>oM fB rfl<|Under.manyCell bL bP fun kD=>f1<|sP (x':=(⟨a0.Newest,oB⟩:aF)) .box (.fld .id aR) sz25k rfl rfl (fT kD) rfl<|nt<|ph rfl<|Under.grpT (L:=L) [0,1,2,3,4,5,6,7,8] [[16],[121],[19],[123],[19],[125],[126],[124,127],[128]] [⟨sk0 (.raw (.pointer (some ⟨hA,0+1,none⟩))),[],[],[]⟩,⟨sk0 (.raw oB),[],[],[]⟩,⟨sk0 (.ptr K10 yA.Number),[],[],[]⟩,⟨sk0 (.raw (.int .i64 yA.Number)),[],[],[]⟩,⟨sk0 (.ptr K0 yA.Tags),[],[],[]⟩,⟨sk0 (.val K0 yA.Tags),[],[],[]⟩,⟨sk1 6 (fun u6=> .raw u6),[],[(0,tk1 6 (fun u6=> .own K4 u6 64 cB))],[]⟩,⟨sk1 6 (fun u6=> .val aH (⟨yA.Number,u6⟩:au)),[],[],[0]⟩,⟨sk1 6 (fun u6=> .val (kSl aH) [(⟨yA.Number,u6⟩:au)]),[],[],[]⟩] [] (fun T:List Res=>(.box bw hA 27 (⟨a0.Newest,oB⟩:aF))::(.any (jK aH K4 cK cQ 152 64 oB zD))::(.box am b1 27 (⟨(0:Int),[]⟩:ah))::T) lf3 rfl (by kernel_rfl) rfl rfl (fun F hF0 eA=>?_)
              refine Tq.v (fun G T hG=>?_) ?_
              ·exact oM fB rfl<|Tq.end undef rfl rfl
              refine Tq.v (fun G T hG=>?_) ?_
              ·exact lP .box (.fld .id aR) kt25k rfl rfl<|Under.rawR (t:=122) rfl<|Tq.end undef rfl rfl
              refine Tq.v (fun G T hG=>?_) ?_
              ·exact oF fb152k1 rfl<|Tq.end undef rfl rfl
              refine Tq.v (fun G T hG=>?_) ?_
              ·exact oI kt2 rfl<|Tq.end undef rfl rfl
              refine Tq.v (fun G T hG=>?_) ?_
              ·exact oF fb152k rfl<|Tq.end undef rfl rfl
              refine Tq.v (fun G T hG=>?_) ?_
              ·exact oL kt85 rfl<|Tq.end undef rfl rfl
              refine Tq.st (.raw (eA 6)) [] rfl rfl (fun G T hG=>?_) ?_
              ·refine Under.callX Tryz.call77 rfl rfl (o95 bD _) rfl ?_
               rintro dD
               exact Tq.end dD rfl rfl
              refine Tq.r1 (.val aH (⟨yA.Number,(eA 6)⟩:au)) [.own K4 (eA 6) 64 cB] rfl rfl (fun G T hG=>?_) ?_
              ·exact Under.ownCell fun eD=>ov (OpV.bst dF (Bld.cons (x':=(⟨yA.Number,.slice none 0 0⟩:au)) rfl rfl rdI (by intro q hq;simp only[List.mem_cons,List.not_mem_nil,or_false] at hq;rcases hq with rfl<;>rfl) (Bld.cons (x':=(⟨yA.Number,(eA 6)⟩:au)) rfl rfl (fT eD) ⟨rfl,(fun q hq=>by simp at hq)⟩ (Bld.nil _)))) rfl<|Tq.end undef rfl rfl
              refine Tq.st (.val (kSl aH) [(⟨yA.Number,(eA 6)⟩:au)]) [] rfl rfl (fun G T hG=>?_) ?_
              ·exact bF (ys:=[(⟨yA.Number,(eA 6)⟩:au)]) Tryz.underlying25 ET152k (BldA.cons rfl rfl rdV (BldA.nil _)) rfl rfl<|Tq.end undef rfl rfl
              exact Tq.nil<|Under.le hF0<|p1 9 rfl rfl<|f3<|f2<|Under.manyPush (x:=(⟨yA.Number,cB⟩:aA)) bL bP vD Tryz.underlying25 (by kernel_rfl) AT152k rfl rfl (.sl rdV) rfl fun oC=>pn<|p1 10 rfl rfl<|oM fB rfl<|pn<|p1 11 rfl rfl<|Under.manyCell bL bP fun cD=>f1<|sP (x':=(⟨a0.Newest,oC⟩:aF)) .box (.fld .id aR) sz25k rfl rfl (fT cD) rfl<|pn<|pd rfl<|bN<|tn<|rg<|b_ rfl<|m_ rfl<|nl<|f1<|f2<|nx oC xA rfl rfl
             ·refine bs xA fun vA qD xA=>bs xA fun qB rD xA=>bs xA fun bI wD xA=>rg<|m_ rfl<|oM nc rfl<|lP .box (.fld .id iI) kt85k rfl rfl<|f1<|ap qD Tryz.underlying85 AT64 rfl rfl rdV rfl fun vI=>oM nc rfl<|fzO (t:=119) rfl<|sP (x':=({yA with Tags:=vA}:aA)) .box (.fld .id iI) sz85k rfl rfl rdV rfl<|nl<|fz (t:=19) rfl<|tn<|ph rfl<|Under.grpT (L:=L) [0,1,2,3,4,5,6,7,8] [[16],[121],[19],[123],[19],[125],[126],[124,127],[128]] [⟨sk0 (.raw (.pointer (some ⟨hA,0+1,none⟩))),[],[],[]⟩,⟨sk0 (.raw zA),[],[],[]⟩,⟨sk0 (.ptr K10 (({yA with Tags:=vA}:aA).Number)),[],[],[]⟩,⟨sk0 (.raw (.int .i64 (({yA with Tags:=vA}:aA).Number))),[],[],[]⟩,⟨sk0 (.ptr K0 (({yA with Tags:=vA}:aA).Tags)),[],[],[]⟩,⟨sk0 (.val K0 (({yA with Tags:=vA}:aA).Tags)),[],[],[]⟩,⟨sk1 6 (fun u6=> .raw u6),[],[(0,tk1 6 (fun u6=> .own K4 u6 64 qB))],[]⟩,⟨sk1 6 (fun u6=> .val aH (⟨({yA with Tags:=vA}:aA).Number,u6⟩:au)),[],[],[0]⟩,⟨sk1 6 (fun u6=> .val (kSl aH) [(⟨({yA with Tags:=vA}:aA).Number,u6⟩:au)]),[],[],[]⟩] [] (fun T:List Res=>(.box am b1 27 (⟨(0:Int),[]⟩:ah))::(.any (jK aH K4 cK cQ 152 64 zA pA))::(.box bw hA 27 (⟨a0.Newest,zA⟩:aF))::T) lf3 rfl (by kernel_rfl) rfl rfl (fun F hF0 cA=>?_)
              refine Tq.v (fun G T hG=>?_) ?_
              ·exact oM fB rfl<|Tq.end undef rfl rfl
              refine Tq.v (fun G T hG=>?_) ?_
              ·exact f2<|lP .box (.fld .id aR) kt25k rfl rfl<|Under.rawR (t:=122) rfl<|f2<|f2<|Tq.end undef rfl rfl
              refine Tq.v (fun G T hG=>?_) ?_
              ·exact oF fb152k1 rfl<|Tq.end undef rfl rfl
              refine Tq.v (fun G T hG=>?_) ?_
              ·exact oI kt2 rfl<|Tq.end undef rfl rfl
              refine Tq.v (fun G T hG=>?_) ?_
              ·exact oF fb152k rfl<|Tq.end undef rfl rfl
              refine Tq.v (fun G T hG=>?_) ?_
              ·exact oL kt85 rfl<|Tq.end undef rfl rfl
              refine Tq.st (.raw (cA 6)) [] rfl rfl (fun G T hG=>?_) ?_
              ·refine Under.callX Tryz.call77 rfl rfl (o95 rD _) rfl ?_
               rintro gD
               exact Tq.end gD rfl rfl
              refine Tq.r1 (.val aH (⟨({yA with Tags:=vA}:aA).Number,(cA 6)⟩:au)) [.own K4 (cA 6) 64 qB] rfl rfl (fun G T hG=>?_) ?_
              ·exact Under.ownCell fun mD=>ov (OpV.bst dF (Bld.cons (x':=(⟨({yA with Tags:=vA}:aA).Number,.slice none 0 0⟩:au)) rfl rfl rdI (by intro q hq;simp only[List.mem_cons,List.not_mem_nil,or_false] at hq;rcases hq with rfl<;>rfl) (Bld.cons (x':=(⟨({yA with Tags:=vA}:aA).Number,(cA 6)⟩:au)) rfl rfl (fT mD) ⟨rfl,(fun q hq=>by simp at hq)⟩ (Bld.nil _)))) rfl<|Tq.end undef rfl rfl
              refine Tq.st (.val (kSl aH) [(⟨({yA with Tags:=vA}:aA).Number,(cA 6)⟩:au)]) [] rfl rfl (fun G T hG=>?_) ?_
              ·exact bF (ys:=[(⟨({yA with Tags:=vA}:aA).Number,(cA 6)⟩:au)]) Tryz.underlying25 ET152k (BldA.cons rfl rfl rdV (BldA.nil _)) rfl rfl<|Tq.end undef rfl rfl
              exact Tq.nil<|Under.le hF0<|p1 9 rfl rfl<|f3<|f2<|Under.manyPush (x:=(⟨({yA with Tags:=vA}:aA).Number,qB⟩:aA)) bL bP wD Tryz.underlying25 (by kernel_rfl) AT152k rfl rfl (.sl rdV) rfl fun kC=>pn<|p1 10 rfl rfl<|oM fB rfl<|pn<|p1 11 rfl rfl<|Under.manyCell bL bP fun nD=>f2<|sP (x':=(⟨a0.Newest,kC⟩:aF)) .box (.fld .id aR) sz25k rfl rfl (fT nD) rfl<|pn<|pd rfl<|bN<|tn<|rg<|b_ rfl<|m_ rfl<|nl<|f1<|f2<|nx kC xA rfl rfl
            ·refine bs xA fun rB pD xA=>bs xA fun kI tD xA=>fz (t:=19) rfl<|ct<|ph rfl<|Under.grpT (L:=L) [0,1,2,3,4,5,6,7,8] [[16],[121],[19],[123],[19],[125],[126],[124,127],[128]] [⟨sk0 (.raw (.pointer (some ⟨hA,0+1,none⟩))),[],[],[]⟩,⟨sk0 (.raw zA),[],[],[]⟩,⟨sk0 (.ptr K10 yA.Number),[],[],[]⟩,⟨sk0 (.raw (.int .i64 yA.Number)),[],[],[]⟩,⟨sk0 (.ptr K0 yA.Tags),[],[],[]⟩,⟨sk0 (.val K0 yA.Tags),[],[],[]⟩,⟨sk1 6 (fun u6=> .raw u6),[],[(0,tk1 6 (fun u6=> .own K4 u6 64 rB))],[]⟩,⟨sk1 6 (fun u6=> .val aH (⟨yA.Number,u6⟩:au)),[],[],[0]⟩,⟨sk1 6 (fun u6=> .val (kSl aH) [(⟨yA.Number,u6⟩:au)]),[],[],[]⟩] [] (fun T:List Res=>(.own K4 oA 64 wA)::(.box am b1 27 (⟨(0:Int),[]⟩:ah))::(.any (jK aH K4 cK cQ 152 64 zA pA))::(.box bw hA 27 (⟨a0.Newest,zA⟩:aF))::T) lf4 rfl (by kernel_rfl) rfl rfl (fun F hF0 qA=>?_)
             refine Tq.v (fun G T hG=>?_) ?_
             ·exact oM fB rfl<|Tq.end undef rfl rfl
             refine Tq.v (fun G T hG=>?_) ?_
             ·exact f3<|lP .box (.fld .id aR) kt25k rfl rfl<|Under.rawR (t:=122) rfl<|f3<|f3<|f3<|Tq.end undef rfl rfl
             refine Tq.v (fun G T hG=>?_) ?_
             ·exact oF fb152k1 rfl<|Tq.end undef rfl rfl
             refine Tq.v (fun G T hG=>?_) ?_
             ·exact oI kt2 rfl<|Tq.end undef rfl rfl
             refine Tq.v (fun G T hG=>?_) ?_
             ·exact oF fb152k rfl<|Tq.end undef rfl rfl
             refine Tq.v (fun G T hG=>?_) ?_
             ·exact oL kt85 rfl<|Tq.end undef rfl rfl
             refine Tq.st (.raw (qA 6)) [] rfl rfl (fun G T hG=>?_) ?_
             ·refine Under.callX Tryz.call77 rfl rfl (o95 pD _) rfl ?_
              rintro uD
              exact Tq.end uD rfl rfl
             refine Tq.r1 (.val aH (⟨yA.Number,(qA 6)⟩:au)) [.own K4 (qA 6) 64 rB] rfl rfl (fun G T hG=>?_) ?_
             ·exact Under.ownCell fun xE=>ov (OpV.bst dF (Bld.cons (x':=(⟨yA.Number,.slice none 0 0⟩:au)) rfl rfl rdI (by intro q hq;simp only[List.mem_cons,List.not_mem_nil,or_false] at hq;rcases hq with rfl<;>rfl) (Bld.cons (x':=(⟨yA.Number,(qA 6)⟩:au)) rfl rfl (fT xE) ⟨rfl,(fun q hq=>by simp at hq)⟩ (Bld.nil _)))) rfl<|Tq.end undef rfl rfl
             refine Tq.st (.val (kSl aH) [(⟨yA.Number,(qA 6)⟩:au)]) [] rfl rfl (fun G T hG=>?_) ?_
             ·exact bF (ys:=[(⟨yA.Number,(qA 6)⟩:au)]) Tryz.underlying25 ET152k (BldA.cons rfl rfl rdV (BldA.nil _)) rfl rfl<|Tq.end undef rfl rfl
             exact Tq.nil<|Under.le hF0<|p1 9 rfl rfl<|f4<|f3<|Under.manyPush (x:=(⟨yA.Number,rB⟩:aA)) bL bP tD Tryz.underlying25 (by kernel_rfl) AT152k rfl rfl (.sl rdV) rfl fun dC=>pn<|p1 10 rfl rfl<|oM fB rfl<|pn<|p1 11 rfl rfl<|Under.manyCell bL bP fun yE=>f3<|sP (x':=(⟨a0.Newest,dC⟩:aF)) .box (.fld .id aR) sz25k rfl rfl (fT yE) rfl<|pn<|pd rfl<|bN<|tn<|rg<|b_ rfl<|m_ rfl<|nl<|f1<|f3<|f3<|nx dC xA rfl rfl
           ·refine xt<|te ?_
            cases ai xA vC
            try dsimp only[cond_true,cond_false] at hF
            refine bs hF fun zE wB hF=>te<|bh<|tn<|sq<|Under.after (fun X=>∀(kB:List aA) (tA:Value),zE=kB→Under F0 155 [(8,pb b1),(16,pb hA)] ((.box am b1 27 (⟨(0:Int),[]⟩:ah))::(.any (jK aH K4 cK cQ 152 64 tA kB))::(.box bw hA 27 (⟨a0.Newest,tA⟩:aF))::L) X) ?_ ?_
            ·intro kB tA gB
             replace gB:=gB.symm
             subst gB
             refine bs hF fun uA mB hF=>sq<|afr (r:=uA) (fun uA=>[(8,pb b1),(16,.ptr am uA)]) (fun uA=>((.box am b1 27 (⟨(0:Int),[]⟩:ah))::L)) ?_ fun K hE=>?_
             ·refine sr<|oL kt27 rfl<|sP (x':=uA) .box .id sz27k rfl rfl rdV rfl<|a_ rfl<|nl<|fz (t:=8) rfl<|tn<|rc ?_
              cases osi hF
              exact rs Tryz.results67 (.ce rfl kt27 (.tm rfl .nil)) rfl rfl
             ·refine bs mB fun dI bE mB=>sr<|oM fB rfl<|f2<|lP .box (.fld .id aR) kt25k rfl rfl<|Under.rawR (t:=144) rfl<|f2<|Under.lenMany bL bP Tryz.underlying25 rfl rfl<|m_ rfl<|nt<|bk<|f1<|f2<|f2<|lp bE () (fun xB eC=>[(8,pb b1),(16,pb hA),(144,.raw tA),(145,.raw (.int .i64 (kB.length:Int))),(146,.raw (.int .i64 xB.2))]) (fun xB eC=>(.any (jK aH K4 cK cQ 152 64 tA xB.1))::(.box am b1 27 (⟨(0:Int),[]⟩:ah))::(.box bw hA 27 (⟨a0.Newest,tA⟩:aF))::L) rfl rfl fun xB eC eI kA vE=>?_
              obtain⟨kE,cI⟩:=xB
              dsimp only at kA⊢
              refine sr<|b_ rfl<|nt<|sq<|it kA rfl (fun kA=>?_) (fun kA=>?_)
              ·exact bs kA fun cC dE kA=>bs kA fun eE cE kA=>ct<|sq<|bk<|sr<|Under.manyTake bL bP dE fun qE qI l477 wI nB rE=>ov (OpV.ixO nB Tryz.underlying25 sz152k1 rfl rfl) rfl<|lP (.own nB) (.ix .id nB) kt152k rfl rfl<|al ZT152k rfl fun gI=>sP (x':=(⟨cC.Number,qE⟩:au)) .box .id sz152k1 rfl rfl rdV rfl<|nt<|rg<|oM nc rfl<|lP .box (.fld .id kF) kt85k1 rfl rfl<|Under.rawR (t:=151) rfl<|f2<|cx Tryz.call125 rfl (mV cE _)<|nl<|f1<|dr<|f1<|Under.back (fun F w h=>rE ({cC with Tags:=eE}:aA) rfl F w _ h)<|bN<|tn<|rg<|b_ rfl<|m_ rfl<|nl<|nx () kA rfl rfl
              ·refine Under.manyPlain (KB:=bc) bL bP rfl nu<|f2<|f1<|Under.frzBO (fs:=dh) (⟨a0.Newest,kE⟩:ah) (fun F hv=>⟨fun _ h=>h,iB hv,trivial⟩)<|fz (t:=16) rfl<|xt<|te ?_
               cases ai kA vE
               exact te<|bh<|tn<|wr (hE _ (osi mB).symm) rfl
            ·intro K wE
             exact bs wB fun mI gE wB=>sr<|m_ rfl<|ov (OpV.not rfl) rfl<|nt<|Under.condT rfl<|rg<|oM fB rfl<|f3<|lP .box (.fld .id aR) kt25k rfl rfl<|Under.rawR (t:=136) rfl<|m_ rfl<|m_ rfl<|f1<|Under.ownCell fun mE=>ov (OpV.bst dF (Bld.cons (x':=(⟨a1,.slice none 0 0⟩:au)) rfl rfl rdI (by intro q hq;simp only[List.mem_cons,List.not_mem_nil,or_false] at hq;rcases hq with rfl<;>rfl) (Bld.cons (x':=(⟨a1,oA⟩:au)) rfl rfl (fT mE) ⟨rfl,(fun q hq=>by simp at hq)⟩ (Bld.nil _)))) rfl<|bF (ys:=[(⟨a1,oA⟩:au)]) Tryz.underlying25 ET152k (BldA.cons rfl rfl rdV (BldA.nil _)) rfl rfl<|f3<|Under.manyPush (x:=(⟨a1,wA⟩:aA)) bL bP gE Tryz.underlying25 (by kernel_rfl) AT152k rfl rfl (.sl rdV) rfl fun nE=>oM fB rfl<|Under.manyCell bL bP fun pE=>f1<|sP (x':=(⟨a0.Newest,nE⟩:aF)) .box (.fld .id aR) sz25k rfl rfl (fT pE) rfl<|nt<|f1<|f2<|wr (wE _ _ (osi wB).symm) rfl
          ·try dsimp only[cond_true,cond_false] at xA
           try dsimp only[cond_true,cond_false]
           refine sr<|b_ rfl<|nt<|sq<|it xA rfl (fun xA=>?_) (fun xA=>?_)
           ·refine bs xA fun bA tE xA=>bs xA fun uE xG xA=>ct<|sq<|bk<|sr<|oS tE Tryz.underlying25 sz152 rfl<|oL kt152 rfl<|al ZT152 rfl fun nI=>sP (x':=bA) .box .id sz152k rfl rfl rdV rfl<|nt<|sq<|Under.after (fun X=>∀(_:Unit),uE=()→Under F0 155 [(1,.raw (.int .i64 a1)),(8,pb b1),(14,.raw oA),(16,pb hA),(17,.raw (.bool true)),(19,.ptr bc bA),(90,.val (kSl bc) a0.Epochs),(91,.raw (.int .i64 (a0.Epochs.length:Int))),(92,.raw (.int .i64 xD))] ((.box am b1 27 (⟨(0:Int),[]⟩:ah))::(.any (jK aH K4 cK cQ 152 64 zA pA))::(.box bw hA 27 (⟨a0.Newest,zA⟩:aF))::L) X) ?_ ?_
            ·intro _ pB
             replace pB:=pB.symm
             subst pB
             refine bs xA fun tB yG xA=>bs xA fun pI zG xA=>ph rfl<|Under.grpT (L:=L) [0,1,2,3,4,5,6,7,8] [[16],[121],[19],[123],[19],[125],[126],[124,127],[128]] [⟨sk0 (.raw (.pointer (some ⟨hA,0+1,none⟩))),[],[],[]⟩,⟨sk0 (.raw zA),[],[],[]⟩,⟨sk0 (.ptr K10 bA.Number),[],[],[]⟩,⟨sk0 (.raw (.int .i64 bA.Number)),[],[],[]⟩,⟨sk0 (.ptr K0 bA.Tags),[],[],[]⟩,⟨sk0 (.val K0 bA.Tags),[],[],[]⟩,⟨sk1 6 (fun u6=> .raw u6),[],[(0,tk1 6 (fun u6=> .own K4 u6 64 tB))],[]⟩,⟨sk1 6 (fun u6=> .val aH (⟨bA.Number,u6⟩:au)),[],[],[0]⟩,⟨sk1 6 (fun u6=> .val (kSl aH) [(⟨bA.Number,u6⟩:au)]),[],[],[]⟩] [] (fun T:List Res=>(.box am b1 27 (⟨(0:Int),[]⟩:ah))::(.any (jK aH K4 cK cQ 152 64 zA pA))::(.box bw hA 27 (⟨a0.Newest,zA⟩:aF))::T) lf3 rfl (by kernel_rfl) rfl rfl (fun F hF0 rA=>?_)
             refine Tq.v (fun G T hG=>?_) ?_
             ·exact oM fB rfl<|Tq.end undef rfl rfl
             refine Tq.v (fun G T hG=>?_) ?_
             ·exact f2<|lP .box (.fld .id aR) kt25k rfl rfl<|Under.rawR (t:=122) rfl<|f2<|f2<|Tq.end undef rfl rfl
             refine Tq.v (fun G T hG=>?_) ?_
             ·exact oF fb152k1 rfl<|Tq.end undef rfl rfl
             refine Tq.v (fun G T hG=>?_) ?_
             ·exact oI kt2 rfl<|Tq.end undef rfl rfl
             refine Tq.v (fun G T hG=>?_) ?_
             ·exact oF fb152k rfl<|Tq.end undef rfl rfl
             refine Tq.v (fun G T hG=>?_) ?_
             ·exact oL kt85 rfl<|Tq.end undef rfl rfl
             refine Tq.st (.raw (rA 6)) [] rfl rfl (fun G T hG=>?_) ?_
             ·refine Under.callX Tryz.call77 rfl rfl (o95 yG _) rfl ?_
              rintro bG
              exact Tq.end bG rfl rfl
             refine Tq.r1 (.val aH (⟨bA.Number,(rA 6)⟩:au)) [.own K4 (rA 6) 64 tB] rfl rfl (fun G T hG=>?_) ?_
             ·exact Under.ownCell fun vG=>ov (OpV.bst dF (Bld.cons (x':=(⟨bA.Number,.slice none 0 0⟩:au)) rfl rfl rdI (by intro q hq;simp only[List.mem_cons,List.not_mem_nil,or_false] at hq;rcases hq with rfl<;>rfl) (Bld.cons (x':=(⟨bA.Number,(rA 6)⟩:au)) rfl rfl (fT vG) ⟨rfl,(fun q hq=>by simp at hq)⟩ (Bld.nil _)))) rfl<|Tq.end undef rfl rfl
             refine Tq.st (.val (kSl aH) [(⟨bA.Number,(rA 6)⟩:au)]) [] rfl rfl (fun G T hG=>?_) ?_
             ·exact bF (ys:=[(⟨bA.Number,(rA 6)⟩:au)]) Tryz.underlying25 ET152k (BldA.cons rfl rfl rdV (BldA.nil _)) rfl rfl<|Tq.end undef rfl rfl
             exact Tq.nil<|Under.le hF0<|p1 9 rfl rfl<|f3<|f2<|Under.manyPush (x:=(⟨bA.Number,tB⟩:aA)) bL bP zG Tryz.underlying25 (by kernel_rfl) AT152k rfl rfl (.sl rdV) rfl fun qC=>pn<|p1 10 rfl rfl<|oM fB rfl<|pn<|p1 11 rfl rfl<|Under.manyCell bL bP fun oG=>f2<|sP (x':=(⟨a0.Newest,qC⟩:aF)) .box (.fld .id aR) sz25k rfl rfl (fT oG) rfl<|pn<|pd rfl<|bN<|tn<|rg<|b_ rfl<|m_ rfl<|nl<|f1<|f2<|nx qC xA rfl rfl
            ·intro K kG
             exact sr<|m_ rfl<|ov (OpV.not rfl) rfl<|m_ rfl<|sk (rfl:(false:Bool)=false) rfl rfl rfl<|sk (rfl:(false:Bool)=false) rfl rfl rfl<|sk (rfl:(false:Bool)=false) rfl rfl rfl<|sk (rfl:(false:Bool)=false) rfl rfl rfl<|ov (pkF (rfl:(false:Bool)=false) rfl rfl) rfl<|nt<|Under.condF rfl<|fz (t:=19) rfl<|ct<|wr (kG () (osi xG).symm) rfl
           ·refine xt<|te ?_
            cases ai xA vC
            try dsimp only[cond_true,cond_false] at hF
            refine bs hF fun dG eG hF=>te<|bh<|tn<|sq<|Under.after (fun X=>∀(_:Unit),dG=()→Under F0 155 [(8,pb b1),(16,pb hA)] ((.box am b1 27 (⟨(0:Int),[]⟩:ah))::(.any (jK aH K4 cK cQ 152 64 zA pA))::(.box bw hA 27 (⟨a0.Newest,zA⟩:aF))::L) X) ?_ ?_
            ·intro _ uB
             replace uB:=uB.symm
             subst uB
             refine bs hF fun yB xC hF=>sq<|afr (r:=yB) (fun yB=>[(8,pb b1),(16,.ptr am yB)]) (fun yB=>((.box am b1 27 (⟨(0:Int),[]⟩:ah))::L)) ?_ fun K cG=>?_
             ·refine sr<|oL kt27 rfl<|sP (x':=yB) .box .id sz27k rfl rfl rdV rfl<|a_ rfl<|nl<|fz (t:=8) rfl<|tn<|rc ?_
              cases osi hF
              exact rs Tryz.results67 (.ce rfl kt27 (.tm rfl .nil)) rfl rfl
             ·refine bs xC fun tI qG xC=>sr<|oM fB rfl<|f2<|lP .box (.fld .id aR) kt25k rfl rfl<|Under.rawR (t:=144) rfl<|f2<|Under.lenMany bL bP Tryz.underlying25 rfl rfl<|m_ rfl<|nt<|bk<|f1<|f2<|f2<|lp qG () (fun zB rC=>[(8,pb b1),(16,pb hA),(144,.raw zA),(145,.raw (.int .i64 (pA.length:Int))),(146,.raw (.int .i64 zB.2))]) (fun zB rC=>(.any (jK aH K4 cK cQ 152 64 zA zB.1))::(.box am b1 27 (⟨(0:Int),[]⟩:ah))::(.box bw hA 27 (⟨a0.Newest,zA⟩:aF))::L) rfl rfl fun zB rC uI dA rG=>?_
              obtain⟨wG,xJ⟩:=zB
              dsimp only at dA⊢
              refine sr<|b_ rfl<|nt<|sq<|it dA rfl (fun dA=>?_) (fun dA=>?_)
              ·exact bs dA fun wC gG dA=>bs dA fun mG nG dA=>ct<|sq<|bk<|sr<|Under.manyTake bL bP gG fun pG yJ l633 zJ yC tG=>ov (OpV.ixO yC Tryz.underlying25 sz152k1 rfl rfl) rfl<|lP (.own yC) (.ix .id yC) kt152k rfl rfl<|al ZT152k rfl fun hJ=>sP (x':=(⟨wC.Number,pG⟩:au)) .box .id sz152k1 rfl rfl rdV rfl<|nt<|rg<|oM nc rfl<|lP .box (.fld .id kF) kt85k1 rfl rfl<|Under.rawR (t:=151) rfl<|f2<|cx Tryz.call125 rfl (mV nG _)<|nl<|f1<|dr<|f1<|Under.back (fun F w h=>tG ({wC with Tags:=mG}:aA) rfl F w _ h)<|bN<|tn<|rg<|b_ rfl<|m_ rfl<|nl<|nx () dA rfl rfl
              ·refine Under.manyPlain (KB:=bc) bL bP rfl nu<|f2<|f1<|Under.frzBO (fs:=dh) (⟨a0.Newest,wG⟩:ah) (fun F hv=>⟨fun _ h=>h,iB hv,trivial⟩)<|fz (t:=16) rfl<|xt<|te ?_
               cases ai dA rG
               exact te<|bh<|tn<|wr (cG _ (osi xC).symm) rfl
            ·intro K uG
             exact sr<|m_ rfl<|ov (OpV.not rfl) rfl<|nt<|Under.condF rfl<|ct<|wr (uG () (osi eG).symm) rfl
         ·obtain⟨bJ,dB⟩:=qH vB l107 bC
          have h108k:=dB
          refine bs dB fun xH yH dB=>oE rfl<|nt<|sq<|Under.condT rfl<|ct<|bk<|sr<|Under.ent rfl rfl<|oE rfl<|al ZT64 rfl fun vJ=>sP (x':=vB.1) .box .id sz64k rfl rfl rdV rfl<|nl<|fz (t:=15) rfl<|tn<|rg<|m_ rfl<|oL kt64 rfl<|bF (ys:=[vB.1]) Tryz.underlying85 ET64 (BldA.cons rfl rfl rdV (BldA.nil _)) rfl rfl<|f1<|ap yH Tryz.underlying85 AT64 rfl rfl rdV rfl fun zH=>a_ rfl<|nl<|bN<|f2<|f1<|f2<|tn<|Under.nextM (cur':=some vB) xH zH bC ?_ dB ?_ ?_
          ·exact h108k
          ·exact(s5 rfl rfl rfl rfl rfl)
          ·rfl
       ·obtain⟨pJ,rH⟩:=dH nC l71 eH
        have h72k:=rH
        refine oE rfl<|nt<|sq<|Under.condT rfl<|ct<|bk<|sr<|Under.ent rfl rfl<|oE rfl<|al ZT64 rfl fun oJ=>sP (x':=nC.1) .box .id sz64k rfl rfl rdV rfl<|nl<|fz (t:=13) rfl<|tn<|rg<|m_ rfl<|oL kt64 rfl<|f2<|Under.mdel key64 Tryz.underlying155 rfl rfl rdV<|nl<|bN<|f2<|f2<|tn<|Under.nextM (cur':=some nC) (mdel nC.1 bB) () eH ?_ rH ?_ ?_
        ·exact h72k
        ·exact(s6 rfl rfl rfl rfl rfl rfl)
        ·rfl
      ·refine bs pC fun kJ hH pC=>sr<|m_ rfl<|oN Tryz.underlying85 rfl<|m_ rfl<|nt<|bk<|f1<|lp hH () (fun hB gC=>[(1,.raw (.int .i64 a1)),(3,.raw (.int .i64 a3)),(4,.ptr am a0),(8,pb b1),(10,.raw (.map (some zC))),(45,.val K0 a2),(46,.raw (.int .i64 (a2.length:Int))),(47,.raw (.int .i64 hB.1))]) (fun hB gC=>(.box am b1 27 (⟨(0:Int),[]⟩:ah))::(.mp K4 K10 zC hB.2)::L) rfl rfl fun hB gC dJ mA bH=>?_
       obtain⟨eJ,cJ⟩:=hB
       dsimp only at mA⊢
       refine sr<|b_ rfl<|nt<|sq<|it mA rfl (fun mA=>?_) (fun mA=>?_)
       ·exact bs mA fun vH oH mA=>ct<|sq<|bk<|sr<|m_ rfl<|oS oH Tryz.underlying85 sz64 rfl<|oL kt64 rfl<|al ZT64 rfl fun qJ=>a_ rfl<|sP (x':=vH) .box .id sz64k rfl rfl rdV rfl<|nl<|fz (t:=12) rfl<|tn<|rg<|m_ rfl<|oL kt64 rfl<|m_ rfl<|f1<|Under.mup key64 Tryz.underlying155 rfl rfl rdV rfl rdI<|nl<|bN<|tn<|rg<|b_ rfl<|m_ rfl<|nl<|f1<|nx () mA rfl rfl
       ·refine xt<|te ?_
        cases ai mA bH
        exact te<|bh<|tn<|wr (gH _ (osi pC).symm) rfl
    ·refine by_ (t:=36) rfl (fun nA=>?_) (fun nA=>?_)
     ·replace eB:=ctrue nA eB
      exact sk_ nA rfl<|sk_ nA rfl<|sk_ nA rfl<|sk_ nA rfl<|sk_ nA rfl<|pT nA rfl<|rf 5 (rbq eB) rfl k
     ·replace eB:=cfalse nA eB
      exact bs eB fun tJ rJ eB=>gc_ nA rfl<|m_ rfl<|gc_ nA rfl<|oF fb27k rfl<|gc_ nA rfl<|oI kt2 rfl<|gc_ nA rfl<|cx Tryz.call123 rfl (o5 rJ _)<|gc_ nA rfl<|ov (OpV.not rfl) rfl<|pF nA rfl<|rf 5 (rbq eB) rfl k
  ·refine by_ (t:=28) rfl (fun c5=>?_) (fun c5=>?_)
   ·replace h6:=ctrue c5 h6
    exact sk_ c5 rfl<|sk_ c5 rfl<|sk_ c5 rfl<|pT c5 rfl<|rf 3 (rbq h6) rfl k
   ·replace h6:=cfalse c5 h6
    exact bs h6 fun y8 h9 h6=>gc_ c5 rfl<|oL kt27 rfl<|gc_ c5 rfl<|cx Tryz.call73 rfl (o9 h9 _)<|gc_ c5 rfl<|b_ rfl<|pF c5 rfl<|rf 3 (rbq h6) rfl k
 ·refine by_ (t:=24) rfl (fun c2=>?_) (fun c2=>?_)
  ·exact sk_ c2 rfl<|sk_ c2 rfl<|pT c2 rfl<|rf 2 (or_t (e:=decide (a3>4096)) c2) rfl k
  ·exact gc_ c2 rfl<|m_ rfl<|gc_ c2 rfl<|b_ rfl<|pF c2 rfl<|rf 2 (or_f c2) rfl k
noncomputable def jR (a0:ab):Option Bool:=
 some ((((((decide (a0.Left≥0))&&(decide (a0.Left≤8)))&&(decide (a0.Round≥0)))&&(decide (a0.Round≤4611686018427387903)))&&(decide (a0.Epoch≥0)))&&(decide (a0.Epoch≤4611686018427387904)))
theorem o97 {a0:ab} {r0:Bool} (hF:jR a0=some r0) (L:List Res):Ok Tryz.prog 127 [SV.val bu a0] L (SV.raw (.bool r0)) L:=by
 unfold jR at hF
 refine okI 31 Tryz.func127 rfl rfl rfl fun F0=>?_
 refine sr<|bX (K:=bu) rfl rdV rfl<|a_ rfl<|ns<|oF fb43k rfl<|oI kt3 rfl<|b_ rfl<|m_ rfl<|bt 10 ((decide (a0.Left≥0))&&(decide (a0.Left≤8))) ?_ (fun k=>?_)
 ·refine m_ rfl<|bt 15 (((decide (a0.Left≥0))&&(decide (a0.Left≤8)))&&(decide (a0.Round≥0))) ?_ (fun k=>?_)
  ·refine m_ rfl<|bt 20 ((((decide (a0.Left≥0))&&(decide (a0.Left≤8)))&&(decide (a0.Round≥0)))&&(decide (a0.Round≤4611686018427387903))) ?_ (fun k=>?_)
   ·refine m_ rfl<|bt 25 (((((decide (a0.Left≥0))&&(decide (a0.Left≤8)))&&(decide (a0.Round≥0)))&&(decide (a0.Round≤4611686018427387903)))&&(decide (a0.Epoch≥0))) ?_ (fun k=>?_)
    ·refine m_ rfl<|bt 30 ((((((decide (a0.Left≥0))&&(decide (a0.Left≤8)))&&(decide (a0.Round≥0)))&&(decide (a0.Round≤4611686018427387903)))&&(decide (a0.Epoch≥0)))&&(decide (a0.Epoch≤4611686018427387904))) ?_ (fun k=>?_)
     ·refine a_ rfl<|nt<|rc ?_
      cases osi hF
      exact rs Tryz.results127 (.tm rfl .nil) rfl rfl
     ·refine by_ (t:=26) rfl (fun xA=>?_) (fun xA=>?_)
      ·exact gc_ xA rfl<|oF fb43k2 rfl<|gc_ xA rfl<|oI kt2 rfl<|gc_ xA rfl<|b_ rfl<|pT xA rfl<|rf 3 (iV xA) rfl k
      ·exact sk_ xA rfl<|sk_ xA rfl<|sk_ xA rfl<|pF xA rfl<|rf 3 (iW (e:=decide (a0.Epoch≤4611686018427387904)) xA) rfl k
    ·refine by_ (t:=21) rfl (fun yA=>?_) (fun yA=>?_)
     ·exact gc_ yA rfl<|oF fb43k2 rfl<|gc_ yA rfl<|oI kt2 rfl<|gc_ yA rfl<|b_ rfl<|pT yA rfl<|rf 3 (iV yA) rfl k
     ·exact sk_ yA rfl<|sk_ yA rfl<|sk_ yA rfl<|pF yA rfl<|rf 3 (iW (e:=decide (a0.Epoch≥0)) yA) rfl k
   ·refine by_ (t:=16) rfl (fun c7=>?_) (fun c7=>?_)
    ·exact gc_ c7 rfl<|oF fb43k1 rfl<|gc_ c7 rfl<|oI kt2 rfl<|gc_ c7 rfl<|b_ rfl<|pT c7 rfl<|rf 3 (iV c7) rfl k
    ·exact sk_ c7 rfl<|sk_ c7 rfl<|sk_ c7 rfl<|pF c7 rfl<|rf 3 (iW (e:=decide (a0.Round≤4611686018427387903)) c7) rfl k
  ·refine by_ (t:=11) rfl (fun c4=>?_) (fun c4=>?_)
   ·exact gc_ c4 rfl<|oF fb43k1 rfl<|gc_ c4 rfl<|oI kt2 rfl<|gc_ c4 rfl<|b_ rfl<|pT c4 rfl<|rf 3 (iV c4) rfl k
   ·exact sk_ c4 rfl<|sk_ c4 rfl<|sk_ c4 rfl<|pF c4 rfl<|rf 3 (iW (e:=decide (a0.Round≥0)) c4) rfl k
 ·refine by_ (t:=6) rfl (fun c1=>?_) (fun c1=>?_)
  ·exact gc_ c1 rfl<|oF fb43k rfl<|gc_ c1 rfl<|oI kt3 rfl<|gc_ c1 rfl<|b_ rfl<|pT c1 rfl<|rf 3 (iV c1) rfl k
  ·exact sk_ c1 rfl<|sk_ c1 rfl<|sk_ c1 rfl<|pF c1 rfl<|rf 3 (iW (e:=decide (a0.Left≤8)) c1) rfl k
noncomputable def cz (a0:List Int) (a1:Int) (a2:Int):Option (List Int):=
 (((Loop.run (S:=((List Int)×Int)) (R:=(List Int)) (fun(yA,xA)=>
   bif decide (xA≥0) then
    bif decide (0≤(IntKind.wrap .i64 (8*xA))) then
    (app yA [IntKind.wrap .u8 (shrI .u64 a1 (IntKind.wrap .i64 (8*xA)))]).bind fun zA=>
    some (.next (zA,IntKind.wrap .i64 (xA - 1)))
    else none
   else
    some (.done yA)) (a0,IntKind.wrap .i64 (a2 - 1))).bind fun hA=>
 some hA
  :Option (List Int))).bind fun bA=>
 some bA
theorem o98 {a0:List Int} {a1 a2:Int} {w0:Value} {r0:(List Int)} (hF:cz a0 a1 a2=some r0) (L:List Res):OkX Tryz.prog 128 [SV.raw w0,SV.raw (.int .u64 a1),SV.raw (.int .i64 a2)] ((.own K12 w0 5 a0)::L) (fun y:Value=>SV.raw y) (fun y:Value=>(.own K12 y 5 r0)::L):=by
 unfold cz at hF
 refine OkX.intro 23 [(0,.raw w0),(1,.raw (.int .u64 a1)),(2,.raw (.int .i64 a2))] Tryz.func128 rfl rfl rfl rfl fun F0=>?_
 refine bs hF fun kA bA hF=>sr<|a_ rfl<|nt<|sq<|Under.after (fun X=>∀(vA:List Int) (zA:Value),kA=vA→Under F0 23 [(0,.raw zA)] ((.own K12 zA 5 vA)::L) X) ?_ ?_
 ·intro vA zA oA
  replace oA:=oA.symm
  subst oA
  refine sr<|m_ rfl<|a_ rfl<|nt<|rc ?_
  cases osi hF
  exact Under.retsX zA Tryz.results128 (.tm rfl .nil) rfl rfl
 ·intro K dA
  refine bs bA fun mA eA bA=>sr<|mb rfl<|a_ rfl<|nt<|bk<|lp eA (C:=Value) w0 (fun yA hA=>[(0,.raw hA),(1,.raw (.int .u64 a1)),(7,.raw (.int .i64 yA.2))]) (fun yA hA=>(.own K12 hA 5 yA.1)::L) rfl rfl fun yA hA nA xA cA=>?_
  obtain⟨pA,qA⟩:=yA
  dsimp only at xA⊢
  refine sq<|sr<|mb rfl<|nt<|it xA rfl (fun xA=>?_) (fun xA=>?_)
  ·exact gs xA fun rA xA=>bs xA fun tA wA xA=>ct<|sq<|bk<|rg<|m_ rfl<|m_ rfl<|mb rfl<|ov (OpV.sh rfl rfl (of_decide_eq_true rA) rfl) rfl<|oC (by kernel_rfl) Tryz.underlying5 rfl<|bF (ys:=[IntKind.wrap .u8 (shrI .u64 a1 (IntKind.wrap .i64 (8*qA)))]) Tryz.underlying22 ET5 (BldA.cons rfl rfl rdI (BldA.nil _)) rfl rfl<|ap wA Tryz.underlying22 AT5 rfl rfl rdV rfl fun gA=>a_ rfl<|nl<|bN<|tn<|rg<|mb rfl<|a_ rfl<|nl<|nx gA xA rfl rfl
  ·refine xt<|te ?_
   cases ai xA cA
   exact te<|bh<|tn<|wr (dA _ _ (osi bA).symm) rfl
noncomputable def cZ (a0:List Int) (a1:Int) (a2:Int):Option (List Int):=
 (((Loop.run (S:=((List Int)×Int)) (R:=(List Int)) (fun(yA,xA)=>
   bif decide (xA≥0) then
    bif decide (0≤(IntKind.wrap .i64 (8*xA))) then
    (app yA [IntKind.wrap .u8 (shrI .u64 a1 (IntKind.wrap .i64 (8*xA)))]).bind fun zA=>
    some (.next (zA,IntKind.wrap .i64 (xA - 1)))
    else none
   else
    some (.done yA)) (a0,IntKind.wrap .i64 (a2 - 1))).bind fun hA=>
 some hA
  :Option (List Int))).bind fun bA=>
 some bA
theorem o99 {a0:List Int} {a1 a2:Int} {w0:Value} {r0:(List Int)} (hF:cZ a0 a1 a2=some r0) (L:List Res):Ok Tryz.prog 128 [SV.raw w0,SV.raw (.int .u64 a1),SV.raw (.int .i64 a2)] ((.own K12 w0 5 a0)::L) (SV.val K9 r0) L:=by
 unfold cZ at hF
 refine okI 23 Tryz.func128 rfl rfl rfl fun F0=>?_
 refine bs hF fun zA bA hF=>sr<|a_ rfl<|nt<|sq<|afr (r:=zA) (fun zA=>[(0,.val K9 zA)]) (fun zA=>(L)) ?_ fun K vA=>?_
 ·refine sr<|m_ rfl<|a_ rfl<|nt<|rc ?_
  cases osi hF
  exact rs Tryz.results128 (.tm rfl .nil) rfl rfl
 ·refine bs bA fun rA oA bA=>sr<|mb rfl<|a_ rfl<|nt<|bk<|lp oA (C:=Value) w0 (fun yA hA=>[(0,.raw hA),(1,.raw (.int .u64 a1)),(7,.raw (.int .i64 yA.2))]) (fun yA hA=>(.own K12 hA 5 yA.1)::L) rfl rfl fun yA hA wA xA kA=>?_
  obtain⟨gA,dA⟩:=yA
  dsimp only at xA⊢
  refine sq<|sr<|mb rfl<|nt<|it xA rfl (fun xA=>?_) (fun xA=>?_)
  ·exact gs xA fun eA xA=>bs xA fun mA cA xA=>ct<|sq<|bk<|rg<|m_ rfl<|m_ rfl<|mb rfl<|ov (OpV.sh rfl rfl (of_decide_eq_true eA) rfl) rfl<|oC (by kernel_rfl) Tryz.underlying5 rfl<|bF (ys:=[IntKind.wrap .u8 (shrI .u64 a1 (IntKind.wrap .i64 (8*dA)))]) Tryz.underlying22 ET5 (BldA.cons rfl rfl rdI (BldA.nil _)) rfl rfl<|ap cA Tryz.underlying22 AT5 rfl rfl rdV rfl fun qA=>a_ rfl<|nl<|bN<|tn<|rg<|mb rfl<|a_ rfl<|nl<|nx qA xA rfl rfl
  ·refine fzO (t:=0) rfl<|xt<|te ?_
   cases ai xA kA
   exact te<|bh<|tn<|wr (vA _ (osi bA).symm) rfl
noncomputable def gX (a0:ao):Option ((List Int)×Int):=
 (jR a0.Header).bind fun y1=>
 bif !y1 then
  some ([],62)
 else
  bif decide ((a0.Cells.length:Int)>256) then
   some ([],63)
  else
   bif mkB 0 (IntKind.wrap .i64 ((IntKind.wrap .i64 (24+(IntKind.wrap .i64 ((a0.Cells.length:Int)*322))))+4)) then
   (app (List.replicate (Int.toNat 0) (0:Int)) [67,72,82,78]).bind fun z8=>
   (app z8 [1,IntKind.wrap .u8 a0.Header.Left]).bind fun dA=>
   (cz dA (IntKind.wrap .u64 (a0.Cells.length:Int)) 2).bind fun eA=>
   (cz eA (IntKind.wrap .u64 a0.Header.Round) 8).bind fun cA=>
   (cz cA (IntKind.wrap .u64 a0.Header.Epoch) 8).bind fun qA=>
   (((Loop.run (S := ((List Int) × Int)) (R := ((List Int) ⊕ ((List Int) × Int))) (fun (yA, xA) =>
     bif decide (xA<(a0.Cells.length:Int)) then
      (idx a0.Cells xA).bind fun zA=>
      bif (zA.length:Int) != 320 then
       some (.done (.inr ([],64)))
      else
       (cz yA 320 2).bind fun hA=>
       (app hA zA).bind fun bA=>
       some (.next (bA,IntKind.wrap .i64 (xA+1)))
     else
      some (.done (.inl yA))) (qA,0)).bind fun vA=>match vA with
    | .inl oA=>
     some (.inr oA)
    | .inr z=>
     some (.inl z)
    : Option (((List Int) × Int) ⊕ (List Int)))).bind fun rA => match rA with
    | .inl z=>
     some z
    | .inr kA=>
     (fe (⟨1,(0:Int)⟩:ak) kA).bind fun wA=>
     (dK wA).bind fun gA=>
     (cZ kA (IntKind.wrap .u64 gA) 4).bind fun mA=>
     some (mA,0)
   else none
theorem o100 {a0:ao} {r0:((List Int)×Int)} (hF:gX a0=some r0) (L:List Res):Ok Tryz.prog 68 [SV.val aV a0] L (SV.tup [SV.val K9 r0.1,SV.raw (.int .i64 r0.2)]) L:=by
 unfold gX at hF
 refine okI 74 Tryz.func68 rfl rfl rfl fun F0=>?_
 refine bs hF fun y1 h2 hF=>sr<|bX (K:=aV) rfl rdV rfl<|a_ rfl<|a_ rfl<|nt<|sq<|bk<|sr<|oF fb46k rfl<|oL kt43 rfl<|cx Tryz.call127 rfl (o97 h2 _)<|ov (OpV.not rfl) rfl<|a_ rfl<|nt<|it hF rfl (fun hF=>?_) (fun hF=>?_)
 ·refine sr<|a_ rfl<|a_ rfl<|nt<|rc<|Under.bR<|tr<|tV (K:=kSl K12) (x:=[]) (t:=2) rfl rdN ?_
  cases osi hF
  exact rs Tryz.results68 (.tm rfl (.tm rfl .nil)) rfl rfl
 ·refine sr<|oF fb46k1 rfl<|oL kt44 rfl<|oN Tryz.underlying44 rfl<|b_ rfl<|a_ rfl<|nt<|it hF rfl (fun hF=>?_) (fun hF=>?_)
  ·refine sr<|a_ rfl<|a_ rfl<|nt<|rc<|Under.bR<|tr<|tV (K:=kSl K12) (x:=[]) (t:=2) rfl rdN ?_
   cases osi hF
   exact rs Tryz.results68 (.tm rfl (.tm rfl .nil)) rfl rfl
  ·refine gs hF fun h6 hF=>bs hF fun z8 h9 hF=>bs hF fun qB wA hF=>bs hF fun rB gA hF=>cs<|bN<|tn<|sr<|oF fb46k1 rfl<|oL kt44 rfl<|oN Tryz.underlying44 rfl<|b_ rfl<|b_ rfl<|b_ rfl<|Under.mk h6 Tryz.underlying22 AT5 rfl rfl rfl fun v5=>a_ rfl<|ns<|m_ rfl<|Under.appG h9 Tryz.underlying22 (by kernel_rfl) AT5 rfl rfl (.str s9) rfl fun wB=>a_ rfl<|ns<|m_ rfl<|oF fb46k rfl<|oF fb43k rfl<|oI kt3 rfl<|oC (by kernel_rfl) Tryz.underlying5 rfl<|bF (ys:=[1,IntKind.wrap .u8 a0.Header.Left]) Tryz.underlying22 ET5 (BldA.cons rfl rfl rdI (BldA.cons rfl rfl rdI (BldA.nil _))) rfl rfl<|ap wA Tryz.underlying22 AT5 rfl rfl rdV rfl fun gB=>a_ rfl<|ns<|m_ rfl<|oF fb46k1 rfl<|oL kt44 rfl<|oN Tryz.underlying44 rfl<|oC (by kernel_rfl) Tryz.underlying71 rfl<|Under.callX Tryz.call128 rfl rfl (o98 gA _) rfl ?_
   rintro mB
   refine bs hF fun nB mA hF=>a_ rfl<|ns<|m_ rfl<|oF fb46k rfl<|oF fb43k1 rfl<|oI kt2 rfl<|oC (by kernel_rfl) Tryz.underlying71 rfl<|Under.callX Tryz.call128 rfl rfl (o98 mA _) rfl ?_
   rintro pB
   refine bs hF fun tB nA hF=>a_ rfl<|ns<|m_ rfl<|oF fb46k rfl<|oF fb43k2 rfl<|oI kt2 rfl<|oC (by kernel_rfl) Tryz.underlying71 rfl<|Under.callX Tryz.call128 rfl rfl (o98 nA _) rfl ?_
   rintro pA
   refine bs hF fun tA vA hF=>a_ rfl<|nt<|sq<|Under.after (fun X=>∀(oA:List Int) (kA:Value),tA=(.inr oA)→Under F0 74 [(4,.raw kA)] ((.own K12 kA 5 oA)::L) X) ?_ ?_
   ·intro oA kA hA
    replace hA:=hA.symm
    subst hA
    refine bs hF fun uB uA hF=>bs hF fun xC xB hF=>bs hF fun yC yB hF=>sr<|m_ rfl<|ov (OpV.bst BT144 (Bld.cons (x':=(⟨1,(0:Int)⟩:ak)) rfl rfl rdI (by intro q hq;simp only[List.mem_cons,List.not_mem_nil,or_false] at hq;rcases hq with rfl<;>rfl) (Bld.nil _))) rfl<|m_ rfl<|ca Tryz.call129 rfl rfl (Ok.lend (fun L=>o16 uA L) ⟨.inl rfl,⟨.inr ⟨rfl,rfl⟩,trivial⟩⟩ (SvF.val (Free.st2 Free.int Free.int))) rfl<|cx Tryz.call130 rfl (o15 xB _)<|oC (by kernel_rfl) Tryz.underlying71 rfl<|cx Tryz.call128 rfl (o99 yB _)<|a_ rfl<|a_ rfl<|nt<|rc ?_
    cases osi hF
    exact rs Tryz.results68 (.tm rfl (.tm rfl .nil)) rfl rfl
   ·intro K zB
    refine bs vA fun hB dA vA=>sr<|oF fb46k1 rfl<|oL kt44 rfl<|oN Tryz.underlying44 rfl<|m_ rfl<|nt<|bk<|lp dA (C:=Value) pA (fun yA zA=>[(4,.raw zA),(52,.val K1 a0.Cells),(53,.raw (.int .i64 (a0.Cells.length:Int))),(54,.raw (.int .i64 yA.2))]) (fun yA zA=>(.own K12 zA 5 yA.1)::L) rfl rfl fun yA zA bB xA bA=>?_
    obtain⟨vB,oB⟩:=yA
    dsimp only at xA⊢
    refine sr<|b_ rfl<|nt<|sq<|it xA rfl (fun xA=>?_) (fun xA=>?_)
    ·refine bs xA fun kB eA xA=>ct<|sq<|bk<|sr<|oS eA Tryz.underlying44 sz22 rfl<|oL kt22 rfl<|a_ rfl<|nt<|sq<|sr<|m_ rfl<|oN Tryz.underlying22 rfl<|b_ rfl<|nt<|it xA rfl (fun xA=>?_) (fun xA=>?_)
     ·refine dr<|sr<|a_ rfl<|a_ rfl<|nt<|rt<|Under.bR<|tr ?_
      cases ai xA bA
      refine tr<|Under.bR<|tr ?_
      cases osi vA
      refine tV (K:=kSl K12) (x:=[]) (t:=2) rfl rdN ?_
      cases osi hF
      exact rs Tryz.results68 (.tm rfl (.tm rfl .nil)) rfl rfl
     ·refine bs xA fun dB cA xA=>ct<|sr<|m_ rfl<|Under.callX Tryz.call128 rfl rfl (o98 cA _) rfl ?_
      rintro eB
      exact bs xA fun cB qA xA=>a_ rfl<|nt<|rg<|m_ rfl<|m_ rfl<|ap qA Tryz.underlying22 AT5 rfl rfl rdV rfl fun rA=>a_ rfl<|nl<|bN<|tn<|rg<|b_ rfl<|m_ rfl<|nl<|nx rA xA rfl rfl
    ·refine xt<|te ?_
     cases ai xA bA
     exact te<|bh<|tn<|wr (zB _ _ (osi vA).symm) rfl
noncomputable def mL (a0:aB) (a1:aL) (a2:List Int) (a3:List Int):Option aO:=
 (kV a0 a1 a2).bind fun y2=>
 bif y2.2.2.2 != 0 then
  (dq a1 y2.2.2.2 y2.2.2.1).bind fun y6=>
  some y6
 else
  (lQ a0 y2.2.1 y2.1).bind fun y9=>
  bif y9.2.2 != 0 then
   (dq a1 y9.2.2 0).bind fun eA=>
   some eA
  else
   (jE a0 y9.1 a3).bind fun xA=>
   bif xA.2.2 != 0 then
    (dq a1 xA.2.2 0).bind fun cA=>
    some cA
   else
    (je a3 a0.Chunks xA.1).bind fun yA=>
    bif yA.2 != 0 then
     (dq a1 yA.2 0).bind fun qA=>
     some qA
    else
     (((Loop.run (S:=((List (List Int))×Int)) (R:=(List (List Int))) (fun(dA,zA)=>
       bif decide (zA<(y9.1.length:Int)) then
        (idx y9.1 zA).bind fun hA=>
        (app dA [hA.Replay]).bind fun bA=>
        some (.next (bA,IntKind.wrap .i64 (zA+1)))
       else
        some (.done dA)) ([],0)).bind fun vA=>
     some vA
      :Option (List (List Int)))).bind fun rA=>
     (lW y2.2.1 y2.1.Header.Epoch rA a0.Room).bind fun oA=>
     bif oA.2 != 0 then
      (dq a1 oA.2 0).bind fun wA=>
      some wA
     else
      (gX (⟨(⟨y2.1.Header.Round,y2.1.Header.Epoch,IntKind.wrap .i64 (a0.Left - 1)⟩:ab),yA.1⟩:ao)).bind fun kA=>
      bif kA.2 != 0 then
       (dq a1 kA.2 0).bind fun gA=>
       some gA
      else
       some (⟨kA.1,(⟨IntKind.wrap .i64 (y2.1.Header.Round+1),oA.1⟩:aL),({({y9.2.1 with Noise:=xA.2.1}:av) with Out:=(yA.1.length:Int)}:av),(0:Int),(0:Int)⟩:aO)
theorem o101 {a0:aB} {a1:aL} {a2 a3:List Int} {r0:aO} (hF:mL a0 a1 a2 a3=some r0) (L:List Res):Ok Tryz.prog 18 [SV.val aJ a0,SV.val bT a1,SV.val K9 a2,SV.val K9 a3] L (SV.val aT r0) L:=by
 unfold mL at hF
 refine okI 138 Tryz.func18 rfl rfl rfl fun F0=>?_
 refine bs hF fun y2 h3 hF=>sr<|bX (K:=aJ) rfl rdV rfl<|bX (K:=bT) rfl rdV rfl<|al ZT37 rfl fun b1=>ns<|oL kt24 rfl<|oL kt29 rfl<|m_ rfl<|cx Tryz.call63 rfl (o24 h3 _)<|m_ rfl<|oE rfl<|oE rfl<|oE rfl<|oE rfl<|al ZT46 rfl fun b4=>al ZT27 rfl fun b5=>f1<|sP (x':=y2.1) .box .id sz46k rfl rfl rdV rfl<|f1<|sP (x':=y2.2.1) .box .id sz27k rfl rfl rdV rfl<|a_ rfl<|a_ rfl<|nl<|f1<|fz (t:=9) rfl<|tn<|sq<|sr<|mb rfl<|nt<|it hF rfl (fun hF=>?_) (fun hF=>?_)
 ·refine bs hF fun y6 h7 hF=>dr<|sr<|oL kt29 rfl<|m_ rfl<|m_ rfl<|cx Tryz.call64 rfl (o27 h7 _)<|sP (x':=y6) .box .id sz37k rfl rfl rdV rfl<|nl<|fz (t:=8) rfl<|tn<|rt ?_
  cases osi hF
  exact rs Tryz.results18 (.ce rfl kt37 .nil) rfl rfl
 ·refine bs hF fun y9 nA hF=>ct<|sr<|oL kt24 rfl<|lP .box .id kt27k rfl rfl<|oL kt46 rfl<|cx Tryz.call26 rfl (o41 nA _)<|m_ rfl<|oE rfl<|oE rfl<|oE rfl<|al ZT34 rfl fun kA=>a_ rfl<|sP (x':=y9.2.1) .box .id sz34k rfl rfl rdV rfl<|a_ rfl<|nt<|sq<|sr<|mb rfl<|nt<|it hF rfl (fun hF=>?_) (fun hF=>?_)
  ·refine bs hF fun pA tA hF=>dr<|dr<|sr<|oL kt29 rfl<|m_ rfl<|cx Tryz.call64 rfl (o27 tA _)<|sP (x':=pA) .box .id sz37k rfl rfl rdV rfl<|nl<|fz (t:=8) rfl<|tn<|rt ?_
   cases osi hF
   exact rs Tryz.results18 (.ce rfl kt37 .nil) rfl rfl
  ·refine bs hF fun hA uA hF=>ct<|sr<|oL kt24 rfl<|m_ rfl<|m_ rfl<|cx Tryz.call65 rfl (o69 uA _)<|m_ rfl<|oE rfl<|oE rfl<|oE rfl<|a_ rfl<|a_ rfl<|a_ rfl<|nt<|sq<|sr<|mb rfl<|nt<|it hF rfl (fun hF=>?_) (fun hF=>?_)
   ·refine bs hF fun xB yB hF=>dr<|dr<|sr<|oL kt29 rfl<|m_ rfl<|cx Tryz.call64 rfl (o27 yB _)<|sP (x':=xB) .box .id sz37k rfl rfl rdV rfl<|nl<|fz (t:=8) rfl<|tn<|rt ?_
    cases osi hF
    exact rs Tryz.results18 (.ce rfl kt37 .nil) rfl rfl
   ·refine bs hF fun bA zB hF=>ct<|sr<|m_ rfl<|oF fb24k7 rfl<|oI kt3 rfl<|m_ rfl<|cx Tryz.call66 rfl (o94 zB _)<|m_ rfl<|oE rfl<|oE rfl<|a_ rfl<|a_ rfl<|nt<|sq<|sr<|mb rfl<|nt<|it hF rfl (fun hF=>?_) (fun hF=>?_)
    ·refine bs hF fun hB bB hF=>dr<|dr<|sr<|oL kt29 rfl<|m_ rfl<|cx Tryz.call64 rfl (o27 bB _)<|sP (x':=hB) .box .id sz37k rfl rfl rdV rfl<|nl<|fz (t:=8) rfl<|tn<|rt ?_
     cases osi hF
     exact rs Tryz.results18 (.ce rfl kt37 .nil) rfl rfl
    ·refine bs hF fun dA cA hF=>ct<|sr<|a_ rfl<|nt<|sq<|afr (r:=dA) (fun dA=>[(4,.ptr aJ a0),(5,.ptr bT a1),(8,pb b1),(9,.ptr aV y2.1),(10,pb b5),(14,pb kA),(15,.val K1 bA.1),(16,.raw (.int .i64 hA.2.1)),(17,.val K0 dA)]) (fun dA=>((.box aT b1 37 (⟨[],(⟨(0:Int),(⟨(0:Int),[]⟩:ah)⟩:aL),(⟨(0:Int),(0:Int),(0:Int),(0:Int),(0:Int)⟩:av),(0:Int),(0:Int)⟩:aO))::(.box am b5 27 y2.2.1)::(.box dm kA 34 y9.2.1)::L)) ?_ fun K vB=>?_
     ·refine bs hF fun vA oB hF=>sr<|f1<|lP .box .id kt27k rfl rfl<|oF fb46k rfl<|oF fb43k2 rfl<|oI kt2 rfl<|m_ rfl<|oF fb24k3 rfl<|oI kt3 rfl<|cx Tryz.call67 rfl (o96 oB _)<|m_ rfl<|oE rfl<|oE rfl<|sP (x':=vA.1) .box .id sz27k rfl rfl rdV rfl<|a_ rfl<|nl<|fz (t:=10) rfl<|tn<|sq<|sr<|mb rfl<|nt<|it hF rfl (fun hF=>?_) (fun hF=>?_)
      ·refine bs hF fun kB dB hF=>f1<|dr<|sr<|oL kt29 rfl<|m_ rfl<|cx Tryz.call64 rfl (o27 dB _)<|sP (x':=kB) .box .id sz37k rfl rfl rdV rfl<|nl<|fz (t:=8) rfl<|tn<|rt ?_
       cases osi hF
       exact rs Tryz.results18 (.ce rfl kt37 .nil) rfl rfl
      ·refine bs hF fun eA eB hF=>ct<|sr<|oF fb46k rfl<|oF fb43k1 rfl<|oI kt2 rfl<|oF fb46k rfl<|oF fb43k2 rfl<|oI kt2 rfl<|oF fb24k1 rfl<|oI kt3 rfl<|b_ rfl<|ov (OpV.bst BT43 (Bld.cons (x':=(⟨y2.1.Header.Round,(0:Int),(0:Int)⟩:ab)) rfl rfl rdI (by intro q hq;simp only[List.mem_cons,List.not_mem_nil,or_false] at hq;rcases hq with rfl|rfl<;>rfl) (Bld.cons (x':=(⟨y2.1.Header.Round,y2.1.Header.Epoch,(0:Int)⟩:ab)) rfl rfl rdI ⟨rfl,(by intro q hq;simp only[List.mem_cons,List.not_mem_nil,or_false] at hq;rcases hq with rfl<;>rfl)⟩ (Bld.cons (x':=(⟨y2.1.Header.Round,y2.1.Header.Epoch,IntKind.wrap .i64 (a0.Left - 1)⟩:ab)) rfl rfl rdI ⟨rfl,⟨rfl,(fun q hq=>by simp at hq)⟩⟩ (Bld.nil _))))) rfl<|m_ rfl<|ov (OpV.bst BT46 (Bld.cons (x':=(⟨(⟨y2.1.Header.Round,y2.1.Header.Epoch,IntKind.wrap .i64 (a0.Left - 1)⟩:ab),[]⟩:ao)) rfl rfl rdV (by intro q hq;simp only[List.mem_cons,List.not_mem_nil,or_false] at hq;rcases hq with rfl<;>rfl) (Bld.cons (x':=(⟨(⟨y2.1.Header.Round,y2.1.Header.Epoch,IntKind.wrap .i64 (a0.Left - 1)⟩:ab),bA.1⟩:ao)) rfl rfl rdV ⟨rfl,(fun q hq=>by simp at hq)⟩ (Bld.nil _)))) rfl<|cx Tryz.call68 rfl (o100 eB _)<|m_ rfl<|oE rfl<|oE rfl<|a_ rfl<|a_ rfl<|nt<|sq<|sr<|mb rfl<|nt<|it hF rfl (fun hF=>?_) (fun hF=>?_)
       ·refine bs hF fun cB qB hF=>f1<|dr<|sr<|oL kt29 rfl<|m_ rfl<|cx Tryz.call64 rfl (o27 qB _)<|sP (x':=cB) .box .id sz37k rfl rfl rdV rfl<|nl<|fz (t:=8) rfl<|tn<|rt ?_
        cases osi hF
        exact rs Tryz.results18 (.ce rfl kt37 .nil) rfl rfl
       ·refine ct<|sr<|m_ rfl<|m_ rfl<|oN Tryz.underlying44 rfl<|oM AH rfl<|f1<|sP (x':=({y9.2.1 with Noise:=hA.2.1}:av)) .box (.fld .id qp) sz3k rfl rfl rdI rfl<|oM AI rfl<|sP (x':=({({y9.2.1 with Noise:=hA.2.1}:av) with Out:=(bA.1.length:Int)}:av)) .box (.fld .id qq) sz3k rfl rfl rdI rfl<|nl<|fz (t:=14) rfl<|tn<|sr<|m_ rfl<|oF fb46k rfl<|oF fb43k1 rfl<|oI kt2 rfl<|b_ rfl<|oL kt27 rfl<|ov (OpV.bst BT29 (Bld.cons (x':=(⟨IntKind.wrap .i64 (y2.1.Header.Round+1),(⟨(0:Int),[]⟩:ah)⟩:aL)) rfl rfl rdI (by intro q hq;simp only[List.mem_cons,List.not_mem_nil,or_false] at hq;rcases hq with rfl<;>rfl) (Bld.cons (x':=(⟨IntKind.wrap .i64 (y2.1.Header.Round+1),vA.1⟩:aL)) rfl rfl rdV ⟨rfl,(fun q hq=>by simp at hq)⟩ (Bld.nil _)))) rfl<|oL kt34 rfl<|ov (OpV.bst BT37 (Bld.cons (x':=(⟨eA.1,(⟨(0:Int),(⟨(0:Int),[]⟩:ah)⟩:aL),(⟨(0:Int),(0:Int),(0:Int),(0:Int),(0:Int)⟩:av),(0:Int),(0:Int)⟩:aO)) rfl rfl rdV (by intro q hq;simp only[List.mem_cons,List.not_mem_nil,or_false] at hq;rcases hq with rfl|rfl|rfl|rfl<;>rfl) (Bld.cons (x':=(⟨eA.1,(⟨IntKind.wrap .i64 (y2.1.Header.Round+1),vA.1⟩:aL),(⟨(0:Int),(0:Int),(0:Int),(0:Int),(0:Int)⟩:av),(0:Int),(0:Int)⟩:aO)) rfl rfl rdV ⟨rfl,(by intro q hq;simp only[List.mem_cons,List.not_mem_nil,or_false] at hq;rcases hq with rfl|rfl|rfl<;>rfl)⟩ (Bld.cons (x':=(⟨eA.1,(⟨IntKind.wrap .i64 (y2.1.Header.Round+1),vA.1⟩:aL),({({y9.2.1 with Noise:=hA.2.1}:av) with Out:=(bA.1.length:Int)}:av),(0:Int),(0:Int)⟩:aO)) rfl rfl rdV ⟨rfl,⟨rfl,(by intro q hq;simp only[List.mem_cons,List.not_mem_nil,or_false] at hq;rcases hq with rfl|rfl<;>rfl)⟩⟩ (Bld.nil _))))) rfl<|sP (x':=(⟨eA.1,(⟨IntKind.wrap .i64 (y2.1.Header.Round+1),vA.1⟩:aL),({({y9.2.1 with Noise:=hA.2.1}:av) with Out:=(bA.1.length:Int)}:av),(0:Int),(0:Int)⟩:aO)) .box .id sz37k rfl rfl rdV rfl<|nl<|fz (t:=8) rfl<|tn<|rc ?_
        cases osi hF
        exact rs Tryz.results18 (.ce rfl kt37 .nil) rfl rfl
     ·refine bs cA fun rB qA cA=>sr<|m_ rfl<|oN Tryz.underlying59 rfl<|m_ rfl<|nt<|bk<|Under.ownNil (K:=kArr 16 K12) (e:=64)<|f1<|f2<|f3<|f3<|lp qA (C:=Value) (.slice none 0 0) (fun yA zA=>[(4,.ptr aJ a0),(5,.ptr bT a1),(8,pb b1),(9,.ptr aV y2.1),(10,pb b5),(14,pb kA),(15,.val K1 bA.1),(16,.raw (.int .i64 hA.2.1)),(17,.raw zA),(75,.val (kSl dn) y9.1),(76,.raw (.int .i64 (y9.1.length:Int))),(77,.raw (.int .i64 yA.2))]) (fun yA zA=>(.own K4 zA 64 yA.1)::(.box aT b1 37 (⟨[],(⟨(0:Int),(⟨(0:Int),[]⟩:ah)⟩:aL),(⟨(0:Int),(0:Int),(0:Int),(0:Int),(0:Int)⟩:av),(0:Int),(0:Int)⟩:aO))::(.box am b5 27 y2.2.1)::(.box dm kA 34 y9.2.1)::L) rfl rfl fun yA zA wB xA rA=>?_
      obtain⟨nB,pB⟩:=yA
      dsimp only at xA⊢
      refine sr<|b_ rfl<|nt<|sq<|it xA rfl (fun xA=>?_) (fun xA=>?_)
      ·exact bs xA fun oA wA xA=>bs xA fun gB gA xA=>ct<|sq<|bk<|sr<|oS wA Tryz.underlying59 sz66 rfl<|oL kt66 rfl<|al ZT66 rfl fun mB=>sP (x':=oA) .box .id sz66k rfl rfl rdV rfl<|nl<|fz (t:=19) rfl<|tn<|rg<|m_ rfl<|oF fb66k1 rfl<|oL kt64 rfl<|bF (ys:=[oA.Replay]) Tryz.underlying85 ET64 (BldA.cons rfl rfl rdV (BldA.nil _)) rfl rfl<|ap gA Tryz.underlying85 AT64 rfl rfl rdV rfl fun mA=>a_ rfl<|nl<|bN<|tn<|rg<|b_ rfl<|m_ rfl<|nl<|nx mA xA rfl rfl
      ·refine fzO (t:=17) rfl<|xt<|te ?_
       cases ai xA rA
       exact te<|bh<|tn<|wr (vB _ (osi cA).symm) rfl
noncomputable def lj (a0:aB) (a1:ah) (a2:ao):Option (List Int):=
 (gK a0.Master a2.Header.Epoch).bind fun y1=>
 bif y1.2 != 0 then
  some []
 else
  (((Loop.run (S:=Unit) (R:=Unit) (fun _=>
    bif decide (0<(a2.Cells.length:Int)) then
     (idx a2.Cells 0).bind fun xA=>
     none
    else
     some (.done ())) ()).bind fun _=>
  some ()
   :Option Unit)).bind fun _=>
  some []
theorem o102 {a0:aB} {a1:ah} {a2:ao} {r0:(List Int)} (hF:lj a0 a1 a2=some r0) (L:List Res):Ok Tryz.prog 92 [SV.val aJ a0,SV.val am a1,SV.val aV a2] L (SV.val K8 r0) L:=by
 unfold lj at hF
 refine okI 76 Tryz.func92 rfl rfl rfl fun F0=>?_
 refine bs hF fun y1 h2 hF=>sr<|bX (K:=aJ) rfl rdV rfl<|bX (K:=am) rfl rdV rfl<|bX (K:=aV) rfl rdV rfl<|a_ rfl<|ns<|oF fb24k rfl<|oL kt22 rfl<|oF fb46k rfl<|oF fb43k2 rfl<|oI kt2 rfl<|cx Tryz.call48 rfl (o40 h2 _)<|m_ rfl<|oE rfl<|oE rfl<|a_ rfl<|a_ rfl<|nt<|sq<|sr<|mb rfl<|nt<|it hF rfl (fun hF=>?_) (fun hF=>?_)
 ·refine sr<|a_ rfl<|nt<|rt<|tV (K:=kSl K10) (x:=[]) (t:=6) rfl rdN ?_
  cases osi hF
  exact rs Tryz.results92 (.tm rfl .nil) rfl rfl
 ·refine bs hF fun vA yA hF=>ct<|sr<|a_ rfl<|ns<|Under.mkm K4 K10 rfl fun b4=>a_ rfl<|nt<|sq<|Under.after (fun X=>∀(_:Unit),vA=()→Under F0 76 [(9,.raw (.slice none 0 0))] (L) X) ?_ ?_
  ·intro _ zA
   replace zA:=zA.symm
   subst zA
   refine sr<|m_ rfl<|a_ rfl<|nt<|rc<|tV (K:=kSl K10) (x:=[]) (t:=6) rfl rdN ?_
   cases osi hF
   exact rs Tryz.results92 (.tm rfl .nil) rfl rfl
  ·intro K oA
   refine bs yA fun cA kA yA=>sr<|oF fb46k1 rfl<|oL kt44 rfl<|oN Tryz.underlying44 rfl<|m_ rfl<|nt<|bk<|lp kA () (fun hA bA=>[(3,.ptr aJ a0),(4,.ptr am a1),(7,.val K9 y1.1),(9,.raw (.slice none 0 0)),(10,.raw (.map (some b4))),(30,.val K1 a2.Cells),(31,.raw (.int .i64 (a2.Cells.length:Int))),(32,.raw (.int .i64 0))]) (fun hA bA=>(.mp K4 K10 b4 [])::L) rfl rfl fun hA bA qA xA dA=>?_
   refine sr<|b_ rfl<|nt<|sq<|it xA rfl (fun xA=>?_) (fun xA=>?_)
   ·refine bs xA fun rA eA xA=>ct<|sq<|bk<|sr<|m_ rfl<|oS eA Tryz.underlying44 sz22 rfl<|oL kt22 rfl<|a_ rfl<|a_ rfl<|ns<|m_ rfl<|oF fb24k1 rfl<|oI kt3 rfl<|m_ rfl ?_
    cases xA
   ·refine dr<|xt<|te ?_
    cases ai xA dA
    exact te<|bh<|tn<|wr (oA () (osi yA).symm) rfl
end Go.Proofs.YtobbmodjdkcdcaaGreatDoor

import Derived.Test.YtobbmodjdkcdcaaGreatDoorBr6
set_option linter.unusedVariables false
set_option linter.unusedSimpArgs false
set_option maxRecDepth 20000
namespace Go.Proofs.YtobbmodjdkcdcaaGreatDoor
open Go Go.Sim Go.ChangeShapes Go.WideShapes Go.ChangeAt Go.RowKit
set_option linter.unusedSectionVars false
variable [Fu]
noncomputable def fo (a0:List Int):Option (List Int):=
 (((Loop.run (S:=(Int×(List Int))) (R:=(List Int)) (fun(bA,kA)=>
   bif decide (bA<16) then
    (idx a0 bA).bind fun mA=>
    (idx kA bA).bind fun dB=>
    some (.next (IntKind.wrap .i64 (bA+1),List.set kA (Int.toNat bA) mA))
   else
    some (.done kA)) (0,(List.replicate 176 (0:Int)))).bind fun nA=>
 some nA
  :Option (List Int))).bind fun eB=>
 (((Loop.run (S:=(Int×Int×(List Int))) (R:=(List Int)) (fun(dA,xA,yA)=>
   bif decide (xA<176) then
    (idx yA (IntKind.wrap .i64 (xA - 4))).bind fun qA=>
    (idx yA (IntKind.wrap .i64 (xA - 3))).bind fun rA=>
    (idx yA (IntKind.wrap .i64 (xA - 2))).bind fun wA=>
    (idx yA (IntKind.wrap .i64 (xA - 1))).bind fun gA=>
    ((bif (Int.tmod xA 16)==0 then
     (idx ig rA).bind fun pA=>
     (idx ig wA).bind fun tA=>
     (idx ig gA).bind fun uA=>
     (idx ig qA).bind fun xB=>
     (dO dA).bind fun yB=>
     some (yB,xorI .u8 pA dA,tA,uA,xB)
    else
     some (dA,qA,rA,wA,gA)
     :Option (Int×Int×Int×Int×Int))).bind fun zB=>match zB with
     |(hB,zA,vA,eA,bB)=>
      (idx yA (IntKind.wrap .i64 (xA - 16))).bind fun hA=>
      (idx yA xA).bind fun cB=>
      (idx (List.set yA (Int.toNat xA) (xorI .u8 hA zA)) (IntKind.wrap .i64 (xA - 15))).bind fun oA=>
      (idx (List.set yA (Int.toNat xA) (xorI .u8 hA zA)) (IntKind.wrap .i64 (xA+1))).bind fun qB=>
      (idx (List.set (List.set yA (Int.toNat xA) (xorI .u8 hA zA)) (Int.toNat (IntKind.wrap .i64 (xA+1))) (xorI .u8 oA vA)) (IntKind.wrap .i64 (xA - 14))).bind fun cA=>
      (idx (List.set (List.set yA (Int.toNat xA) (xorI .u8 hA zA)) (Int.toNat (IntKind.wrap .i64 (xA+1))) (xorI .u8 oA vA)) (IntKind.wrap .i64 (xA+2))).bind fun rB=>
      (idx (List.set (List.set (List.set yA (Int.toNat xA) (xorI .u8 hA zA)) (Int.toNat (IntKind.wrap .i64 (xA+1))) (xorI .u8 oA vA)) (Int.toNat (IntKind.wrap .i64 (xA+2))) (xorI .u8 cA eA)) (IntKind.wrap .i64 (xA - 13))).bind fun vB=>
      (idx (List.set (List.set (List.set yA (Int.toNat xA) (xorI .u8 hA zA)) (Int.toNat (IntKind.wrap .i64 (xA+1))) (xorI .u8 oA vA)) (Int.toNat (IntKind.wrap .i64 (xA+2))) (xorI .u8 cA eA)) (IntKind.wrap .i64 (xA+3))).bind fun wB=>
      some (.next (hB,IntKind.wrap .i64 (xA+4),List.set (List.set (List.set (List.set yA (Int.toNat xA) (xorI .u8 hA zA)) (Int.toNat (IntKind.wrap .i64 (xA+1))) (xorI .u8 oA vA)) (Int.toNat (IntKind.wrap .i64 (xA+2))) (xorI .u8 cA eA)) (Int.toNat (IntKind.wrap .i64 (xA+3))) (xorI .u8 vB bB)))
   else
    some (.done yA)) (1,16,eB)).bind fun oB=>
 some oB
  :Option (List Int))).bind fun kB=>
 some kB
theorem o148 {a0:List Int} {r0:(List Int)} (hF:fo a0=some r0) (L:List Res):Ok Tryz.prog 197 [SV.val K4 a0] L (SV.val K3 r0) L:=by
 unfold fo at hF
 refine okI 93 Tryz.func197 rfl rfl rfl fun F0=>?_
 refine bs hF fun gB mB hF=>sr<|bX (K:=kArr 16 K12) rfl rdV rfl<|al ZT279 rfl fun b1=>ns<|al ZT279 rfl fun b2=>nt<|sq<|afr (r:=gB) (fun gB=>[(2,pb b1),(3,pb b2)]) (fun gB=>((.box K3 b1 279 (List.replicate 176 (0:Int)))::(.box K3 b2 279 gB)::L)) ?_ fun K rC=>?_
 ·refine bs hF fun kA wA hF=>sr<|a_ rfl<|nt<|sq<|afr (r:=kA) (fun kA=>[(2,pb b1),(3,.ptr K3 kA)]) (fun kA=>((.box K3 b1 279 (List.replicate 176 (0:Int)))::L)) ?_ fun K nB=>?_
  ·refine sr<|oL kt279 rfl<|sP (x':=kA) .box .id sz279k rfl rfl rdV rfl<|nl<|fz (t:=2) rfl<|tn<|rc ?_
   cases osi hF
   exact rs Tryz.results197 (.ce rfl kt279 .nil) rfl rfl
  ·refine bs wA fun wC pB wA=>sr<|a_ rfl<|nt<|bk<|lp pB () (fun vA pA=>[(2,pb b1),(3,pb b2),(5,.raw (.int .u8 vA.1)),(6,.raw (.int .i64 vA.2.1))]) (fun vA pA=>(.box K3 b1 279 (List.replicate 176 (0:Int)))::(.box K3 b2 279 vA.2.2)::L) rfl rfl fun vA pA gC xA tB=>?_
   obtain⟨mC,zA,dA⟩:=vA
   dsimp only at xA⊢
   refine sq<|sr<|mb rfl<|nt<|it xA rfl (fun xA=>?_) (fun xA=>?_)
   ·refine bs xA fun nC tA xA=>bs xA fun pC uA xA=>bs xA fun tC xB xA=>bs xA fun uC yB xA=>bs xA fun uB yA xA=>ct<|sq<|bk<|sq<|ph rfl<|gV [0,1,2,3,4,5,6,7,8,9,10,11,12,13,14,15,16,17,18] [[6],[25],[3,26],[27],[6],[29],[3,30],[31],[6],[33],[3,34],[35],[6],[37],[3,38],[39],[28],[32],[36]] 2 (by kernel_rfl) rfl<|vm_ rfl<|vb_ rfl<|Vq.v (fun G T hG=>f1<|oX .box .id tA Tryz.underlying279 sz5k rfl<|f1<|Vq.end rfl)<|Vq.v (fun G T hG=>f1<|lP .box (.ix .id tA) kt5k rfl rfl<|rI (t:=28) rfl<|f1<|Vq.end rfl)<|vm_ rfl<|vb_ rfl<|Vq.v (fun G T hG=>f1<|oX .box .id uA Tryz.underlying279 sz5k rfl<|f1<|Vq.end rfl)<|Vq.v (fun G T hG=>f1<|lP .box (.ix .id uA) kt5k rfl rfl<|rI (t:=32) rfl<|f1<|Vq.end rfl)<|vm_ rfl<|vb_ rfl<|Vq.v (fun G T hG=>f1<|oX .box .id xB Tryz.underlying279 sz5k rfl<|f1<|Vq.end rfl)<|Vq.v (fun G T hG=>f1<|lP .box (.ix .id xB) kt5k rfl rfl<|rI (t:=36) rfl<|f1<|Vq.end rfl)<|vm_ rfl<|vb_ rfl<|Vq.v (fun G T hG=>f1<|oX .box .id yB Tryz.underlying279 sz5k rfl<|f1<|Vq.end rfl)<|Vq.v (fun G T hG=>f1<|lP .box (.ix .id yB) kt5k rfl rfl<|rI (t:=40) rfl<|f1<|Vq.end rfl)<|Vq.v (fun G T hG=>a_ rfl<|Vq.end rfl)<|Vq.v (fun G T hG=>a_ rfl<|Vq.end rfl)<|Vq.v (fun G T hG=>a_ rfl<|Vq.end rfl)<|vn<|p1 19 rfl rfl<|a_ rfl<|pn<|pd rfl<|tn<|sq<|Under.after (fun X=>∀(gA:Int) (bA:Int) (oA:Int) (eA:Int) (qA:Int),uB=(gA,bA,oA,eA,qA)→Under F0 93 [(2,pb b1),(3,pb b2),(5,.raw (.int .u8 gA)),(6,.raw (.int .i64 zA)),(7,.raw (.int .u8 bA)),(8,.raw (.int .u8 oA)),(9,.raw (.int .u8 eA)),(10,.raw (.int .u8 qA))] ((.box K3 b1 279 (List.replicate 176 (0:Int)))::(.box K3 b2 279 dA)::L) X) ?_ ?_
    ·intro gA bA oA eA qA mA
     replace mA:=mA.symm
     subst mA
     exact bs xA fun rA zB xA=>bs xA fun xD hB xA=>bs xA fun nA bB xA=>bs xA fun yD vB xA=>bs xA fun oB kB xA=>bs xA fun zD dB xA=>bs xA fun xC eB xA=>bs xA fun hD cB xA=>sr<|m_ rfl<|mb rfl<|f1<|oX .box .id zB Tryz.underlying279 sz5k rfl<|lP .box (.ix .id zB) kt5k rfl rfl<|rI (t:=61) rfl<|mb rfl<|oX .box .id hB Tryz.underlying279 sz5k rfl<|sP (x':=List.set dA (Int.toNat zA) (xorI .u8 rA bA)) .box (.ix .id hB) sz5k rfl rfl rdI rfl<|ns<|mb rfl<|mb rfl<|oX .box .id bB Tryz.underlying279 sz5k rfl<|lP .box (.ix .id bB) kt5k rfl rfl<|rI (t:=70) rfl<|mb rfl<|oX .box .id vB Tryz.underlying279 sz5k rfl<|sP (x':=List.set (List.set dA (Int.toNat zA) (xorI .u8 rA bA)) (Int.toNat (IntKind.wrap .i64 (zA+1))) (xorI .u8 nA oA)) .box (.ix .id vB) sz5k rfl rfl rdI rfl<|ns<|mb rfl<|mb rfl<|oX .box .id kB Tryz.underlying279 sz5k rfl<|lP .box (.ix .id kB) kt5k rfl rfl<|rI (t:=79) rfl<|mb rfl<|oX .box .id dB Tryz.underlying279 sz5k rfl<|sP (x':=List.set (List.set (List.set dA (Int.toNat zA) (xorI .u8 rA bA)) (Int.toNat (IntKind.wrap .i64 (zA+1))) (xorI .u8 nA oA)) (Int.toNat (IntKind.wrap .i64 (zA+2))) (xorI .u8 oB eA)) .box (.ix .id dB) sz5k rfl rfl rdI rfl<|nt<|rg<|mb rfl<|mb rfl<|oX .box .id eB Tryz.underlying279 sz5k rfl<|lP .box (.ix .id eB) kt5k rfl rfl<|rI (t:=88) rfl<|mb rfl<|oX .box .id cB Tryz.underlying279 sz5k rfl<|sP (x':=List.set (List.set (List.set (List.set dA (Int.toNat zA) (xorI .u8 rA bA)) (Int.toNat (IntKind.wrap .i64 (zA+1))) (xorI .u8 nA oA)) (Int.toNat (IntKind.wrap .i64 (zA+2))) (xorI .u8 oB eA)) (Int.toNat (IntKind.wrap .i64 (zA+3))) (xorI .u8 xC qA)) .box (.ix .id cB) sz5k rfl rfl rdI rfl<|nl<|bN<|tn<|rg<|mb rfl<|a_ rfl<|nl<|f1<|nx () xA rfl rfl
    ·intro K qB
     refine sr<|m_ rfl<|ov (OpV.quo rfl rfl (by decide) rfl) rfl<|b_ rfl<|nt<|it yA rfl (fun yA=>?_) (fun yA=>?_)
     ·exact bs yA fun bD yC yA=>bs yA fun vD zC yA=>bs yA fun oD hC yA=>bs yA fun kD bC yA=>bs yA fun dD vC yA=>sr<|m_ rfl<|a_ rfl<|nt<|sq<|dw rfl (by kernel_rfl) fun F hF0=>mvq rfl rfl<|oq (OpV.ixStr yC Tryz.underlying9 rfl ou rfl) rfl<|mvq rfl rfl<|bnq rfl rfl rfl rfl<|mvq rfl rfl<|oq (OpV.ixStr zC Tryz.underlying9 rfl ou rfl) rfl<|mvq rfl rfl<|oq (OpV.ixStr hC Tryz.underlying9 rfl ou rfl) rfl<|agq rfl rfl<|agq rfl rfl<|agq rfl rfl<|nlq hF0<|tn<|sr<|m_ rfl<|ov (OpV.ixStr bC Tryz.underlying9 rfl ou rfl) rfl<|a_ rfl<|nt<|rg<|m_ rfl<|cx Tryz.call239 rfl (o147 vC _)<|a_ rfl<|nt<|wr (qB _ _ _ _ _ (osi yA).symm) rfl
     ·exact ct<|wr (qB _ _ _ _ _ (osi yA).symm) rfl
   ·refine f1<|fz (t:=3) rfl<|xt<|te ?_
    cases ai xA tB
    exact te<|bh<|tn<|wr (nB _ (osi wA).symm) rfl
 ·refine bs mB fun eD oC mB=>sr<|a_ rfl<|nt<|bk<|f1<|lp oC () (fun cA rB=>[(1,.ptr K4 a0),(2,pb b1),(3,pb b2),(4,.raw (.int .i64 cA.1))]) (fun cA rB=>(.box K3 b1 279 (List.replicate 176 (0:Int)))::(.box K3 b2 279 cA.2)::L) rfl rfl fun cA rB cD hA kC=>?_
  obtain⟨dC,eC⟩:=cA
  dsimp only at hA⊢
  refine sq<|sr<|mb rfl<|nt<|it hA rfl (fun hA=>?_) (fun hA=>?_)
  ·exact bs hA fun cC qC hA=>bs hA fun qD wB hA=>ct<|sq<|bk<|rg<|m_ rfl<|m_ rfl<|ov (OpV.ixA qC Tryz.underlying64 sz5 rfl rfl) rfl<|oI kt5 rfl<|f1<|oX .box .id wB Tryz.underlying279 sz5k rfl<|sP (x':=List.set eC (Int.toNat dC) cC) .box (.ix .id wB) sz5k rfl rfl rdI rfl<|nl<|bN<|tn<|rg<|mb rfl<|a_ rfl<|nl<|f1<|nx () hA rfl rfl
  ·refine xt<|te ?_
   cases ai hA kC
   exact te<|bh<|tn<|wr (rC _ (osi mB).symm) rfl
noncomputable def db (a0:List Int) (a1:List Int) (a2:Int):Option (List Int):=
 (((Loop.run (S:=(Int×(List Int))) (R:=(List Int)) (fun(xA,yA)=>
   bif decide (xA<16) then
    (idx yA xA).bind fun zA=>
    (idx a1 (IntKind.wrap .i64 ((IntKind.wrap .i64 (16*a2))+xA))).bind fun hA=>
    (idx yA xA).bind fun oA=>
    some (.next (IntKind.wrap .i64 (xA+1),List.set yA (Int.toNat xA) (xorI .u8 zA hA)))
   else
    some (.done yA)) (0,a0)).bind fun bA=>
 some bA
  :Option (List Int))).bind fun vA=>
 some vA
theorem o149 {a0 a1:List Int} {a2:Int} {r0:(List Int)} (hF:db a0 a1 a2=some r0) (L:List Res):Ok Tryz.prog 240 [SV.val K4 a0,SV.val K3 a1,SV.raw (.int .i64 a2)] L (SV.val K4 r0) L:=by
 unfold db at hF
 refine okI 24 Tryz.func240 rfl rfl rfl fun F0=>?_
 refine bs hF fun yA hA hF=>sr<|Under.bx (K:=kArr 16 K12) rfl rdV rfl fun b1=>bX (K:=kArr 176 K12) rfl rdV rfl<|al ZT64 rfl fun b2=>nt<|sq<|afr (r:=yA) (fun yA=>[(3,.ptr K4 yA),(6,pb b2)]) (fun yA=>((.box K4 b2 64 (List.replicate 16 (0:Int)))::L)) ?_ fun K kA=>?_
 ·refine sr<|oL kt64 rfl<|sP (x':=yA) .box .id sz64k rfl rfl rdV rfl<|nl<|fz (t:=6) rfl<|tn<|rc ?_
  cases osi hF
  exact rs Tryz.results240 (.ce rfl kt64 .nil) rfl rfl
 ·refine bs hA fun mA dA hA=>sr<|a_ rfl<|nt<|bk<|f1<|lp dA () (fun zA bA=>[(2,.raw (.int .i64 a2)),(3,pb b1),(4,.ptr K3 a1),(6,pb b2),(7,.raw (.int .i64 zA.1))]) (fun zA bA=>(.box K4 b1 64 zA.2)::(.box K4 b2 64 (List.replicate 16 (0:Int)))::L) rfl rfl fun zA bA nA xA eA=>?_
  obtain⟨cA,qA⟩:=zA
  dsimp only at xA⊢
  refine sq<|sr<|mb rfl<|nt<|it xA rfl (fun xA=>?_) (fun xA=>?_)
  ·exact bs xA fun rA vA xA=>bs xA fun wA gA xA=>bs xA fun pA oA xA=>ct<|sq<|bk<|ph rfl<|gV [0,1,2,3,4,5,6,7,8] [[7],[3,12],[13],[2],[15],[7],[16,17],[4,18],[19]] 2 (by kernel_rfl) rfl<|vm_ rfl<|Vq.v (fun G T hG=>oX .box .id vA Tryz.underlying64 sz5k rfl<|Vq.end rfl)<|Vq.v (fun G T hG=>lP .box (.ix .id vA) kt5k rfl rfl<|rI (t:=14) rfl<|Vq.end rfl)<|vm_ rfl<|vb_ rfl<|vm_ rfl<|vb_ rfl<|vo (fun _=>OpV.ixA gA Tryz.underlying279 sz5 rfl rfl) rfl<|vo (fun _=>OpV.ldI kt5 rfl) rfl<|vn<|p1 9 rfl rfl<|b_ rfl<|pn<|p1 10 rfl rfl<|oX .box .id oA Tryz.underlying64 sz5k rfl<|pn<|p1 11 rfl rfl<|sP (x':=List.set qA (Int.toNat cA) (xorI .u8 rA wA)) .box (.ix .id oA) sz5k rfl rfl rdI rfl<|pn<|pd rfl<|bN<|tn<|rg<|mb rfl<|a_ rfl<|nl<|nx () xA rfl rfl
  ·refine fz (t:=3) rfl<|xt<|te ?_
   cases ai xA eA
   exact te<|bh<|tn<|wr (kA _ (osi hA).symm) rfl
noncomputable def dP (a0:List Int):Option (List Int):=
 (((Loop.run (S:=(Int×(List Int))) (R:=(List Int)) (fun(xA,hA)=>
   bif decide (xA<16) then
    (((idx a0 xA).bind fun bA=>
    (idx a0 (IntKind.wrap .i64 (xA+1))).bind fun vA=>
    (idx a0 (IntKind.wrap .i64 (xA+2))).bind fun oA=>
    (idx a0 (IntKind.wrap .i64 (xA+3))).bind fun kA=>
    (Loop.run (S:=(Int×(List Int))) (R:=(List Int)) (fun(yA,zA)=>
      bif decide (yA<4) then
       (idx a0 (IntKind.wrap .i64 (xA+yA))).bind fun dA=>
       (idx a0 (IntKind.wrap .i64 (xA+yA))).bind fun eA=>
       (idx a0 (IntKind.wrap .i64 (xA+(Int.tmod (IntKind.wrap .i64 (yA+1)) 4)))).bind fun cA=>
       (dO (xorI .u8 eA cA)).bind fun qA=>
       (idx zA (IntKind.wrap .i64 (xA+yA))).bind fun nA=>
       some (.next (IntKind.wrap .i64 (yA+1),List.set zA (Int.toNat (IntKind.wrap .i64 (xA+yA))) (xorI .u8 (xorI .u8 dA (xorI .u8 (xorI .u8 (xorI .u8 bA vA) oA) kA)) qA)))
      else
       some (.done zA)) (0,hA)).bind fun rA=>
    some rA
     :Option (List Int))).bind fun wA=>
    some (.next (IntKind.wrap .i64 (xA+4),wA))
   else
    some (.done hA)) (0,(List.replicate 16 (0:Int)))).bind fun gA=>
 some gA
  :Option (List Int))).bind fun mA=>
 some mA
theorem o150 {a0:List Int} {r0:(List Int)} (hF:dP a0=some r0) (L:List Res):Ok Tryz.prog 241 [SV.val K4 a0] L (SV.val K4 r0) L:=by
 unfold dP at hF
 refine okI 60 Tryz.func241 rfl rfl rfl fun F0=>?_
 refine bs hF fun oA gA hF=>sr<|bX (K:=kArr 16 K12) rfl rdV rfl<|al ZT64 rfl fun b1=>ns<|al ZT64 rfl fun b2=>nt<|sq<|afr (r:=oA) (fun oA=>[(2,pb b1),(3,.ptr K4 oA)]) (fun oA=>((.box K4 b1 64 (List.replicate 16 (0:Int)))::L)) ?_ fun K qB=>?_
 ·refine sr<|oL kt64 rfl<|sP (x':=oA) .box .id sz64k rfl rfl rdV rfl<|nl<|fz (t:=2) rfl<|tn<|rc ?_
  cases osi hF
  exact rs Tryz.results241 (.ce rfl kt64 .nil) rfl rfl
 ·refine bs gA fun uB rB gA=>sr<|a_ rfl<|nt<|bk<|f1<|lp rB () (fun zA kA=>[(1,.ptr K4 a0),(2,pb b1),(3,pb b2),(4,.raw (.int .i64 zA.1))]) (fun zA kA=>(.box K4 b1 64 (List.replicate 16 (0:Int)))::(.box K4 b2 64 zA.2)::L) rfl rfl fun zA kA xC hA wB=>?_
  obtain⟨mA,yC⟩:=zA
  dsimp only at hA⊢
  refine sq<|sr<|mb rfl<|nt<|it hA rfl (fun hA=>?_) (fun hA=>?_)
  ·refine bs hA fun vA yA hA=>ct<|sq<|afr (r:=vA) (fun vA=>[(1,.ptr K4 a0),(2,pb b1),(3,pb b2),(4,.raw (.int .i64 mA))]) (fun vA=>((.box K4 b1 64 (List.replicate 16 (0:Int)))::(.box K4 b2 64 vA)::L)) ?_ fun K nA=>?_
   ·exact rg<|mb rfl<|a_ rfl<|nl<|nx () hA rfl rfl
   ·refine bs yA fun dA pA yA=>bs yA fun eA tA yA=>bs yA fun cA uA yA=>bs yA fun qA xB yA=>bs yA fun gB yB yA=>bk<|sq<|dw rfl (by kernel_rfl) fun F hF0=>mvq rfl rfl<|oq (OpV.ixA pA Tryz.underlying64 sz5 rfl rfl) rfl<|oq (OpV.ldI kt5 rfl) rfl<|mvq rfl rfl<|bnq rfl rfl rfl rfl<|oq (OpV.ixA tA Tryz.underlying64 sz5 rfl rfl) rfl<|oq (OpV.ldI kt5 rfl) rfl<|bnq rfl rfl rfl rfl<|mvq rfl rfl<|bnq rfl rfl rfl rfl<|oq (OpV.ixA uA Tryz.underlying64 sz5 rfl rfl) rfl<|oq (OpV.ldI kt5 rfl) rfl<|bnq rfl rfl rfl rfl<|mvq rfl rfl<|bnq rfl rfl rfl rfl<|oq (OpV.ixA xB Tryz.underlying64 sz5 rfl rfl) rfl<|oq (OpV.ldI kt5 rfl) rfl<|bnq rfl rfl rfl rfl<|agq rfl rfl<|nlq hF0<|tn<|sr<|a_ rfl<|nt<|bk<|lp yB () (fun bA rA=>[(1,.ptr K4 a0),(2,pb b1),(3,pb b2),(4,.raw (.int .i64 mA)),(5,.raw (.int .u8 (xorI .u8 (xorI .u8 (xorI .u8 dA eA) cA) qA))),(6,.raw (.int .i64 bA.1))]) (fun bA rA=>(.box K4 b1 64 (List.replicate 16 (0:Int)))::(.box K4 b2 64 bA.2)::L) rfl rfl fun bA rA mB xA zB=>?_
    obtain⟨hB,bB⟩:=bA
    dsimp only at xA⊢
    refine sq<|sr<|mb rfl<|nt<|it xA rfl (fun xA=>?_) (fun xA=>?_)
    ·exact bs xA fun vB oB xA=>bs xA fun nB kB xA=>bs xA fun pB dB xA=>bs xA fun eB cB xA=>bs xA fun tB wA xA=>ct<|sq<|bk<|ph rfl<|gV [0,1,2,3,4,5,6,7,8,9,10,11,12,13,14,15,16,17,18,19,20,21,22,23,24] [[4],[6],[33,34],[4],[6],[36,37],[1,38],[39],[5],[40,41],[4],[6],[43,44],[1,45],[46],[4],[6],[49],[50],[48,51],[1,52],[53],[47,54],[55],[42,56]] 2 (by kernel_rfl) rfl<|vm_ rfl<|vm_ rfl<|vb_ rfl<|vm_ rfl<|vm_ rfl<|vb_ rfl<|vo (fun _=>OpV.ixA oB Tryz.underlying64 sz5 rfl rfl) rfl<|vo (fun _=>OpV.ldI kt5 rfl) rfl<|vm_ rfl<|vb_ rfl<|vm_ rfl<|vm_ rfl<|vb_ rfl<|vo (fun _=>OpV.ixA kB Tryz.underlying64 sz5 rfl rfl) rfl<|vo (fun _=>OpV.ldI kt5 rfl) rfl<|vm_ rfl<|vm_ rfl<|vb_ rfl<|vo (fun _=>OpV.quo rfl rfl (by decide) rfl) rfl<|vb_ rfl<|vo (fun _=>OpV.ixA dB Tryz.underlying64 sz5 rfl rfl) rfl<|vo (fun _=>OpV.ldI kt5 rfl) rfl<|vb_ rfl<|Vq.v (fun G T hG=>cx Tryz.call239 rfl (o147 cB _)<|Vq.end rfl)<|vb_ rfl<|vn<|p1 25 rfl rfl<|f1<|oX .box .id wA Tryz.underlying64 sz5k rfl<|pn<|p1 26 rfl rfl<|sP (x':=List.set bB (Int.toNat (IntKind.wrap .i64 (mA+hB))) (xorI .u8 (xorI .u8 vB (xorI .u8 (xorI .u8 (xorI .u8 dA eA) cA) qA)) eB)) .box (.ix .id wA) sz5k rfl rfl rdI rfl<|pn<|pd rfl<|bN<|tn<|rg<|mb rfl<|a_ rfl<|nl<|f1<|nx () xA rfl rfl
    ·refine xt<|te ?_
     cases ai xA zB
     exact te<|bh<|bN<|tn<|wr (nA _ (osi yA).symm) rfl
  ·refine f1<|fz (t:=3) rfl<|xt<|te ?_
   cases ai hA wB
   exact te<|bh<|tn<|wr (qB _ (osi gA).symm) rfl
noncomputable def dX (a0:List Int) (a1:List Int):Option (List Int):=
 (db a1 a0 0).bind fun y3=>
 (((Loop.run (S:=(Int×(List Int))) (R:=(List Int)) (fun(yA,hA)=>
   bif decide (yA≤10) then
    (((((Loop.run (S:=(Int×(List Int))) (R:=(List Int)) (fun(xA,zA)=>
      bif decide (xA<16) then
       (idx hA (Int.tmod (IntKind.wrap .i64 (xA+(IntKind.wrap .i64 (4*(Int.tmod xA 4))))) 16)).bind fun vA=>
       (idx ig vA).bind fun oA=>
       (idx zA xA).bind fun gA=>
       some (.next (IntKind.wrap .i64 (xA+1),List.set zA (Int.toNat xA) oA))
      else
       some (.done zA)) (0,(List.replicate 16 (0:Int)))).bind fun kA=>
    some kA
     :Option (List Int))).bind fun bA=>
    ((bif decide (yA<10) then
     (dP bA).bind fun dA=>
     some dA
    else
     some bA
     :Option (List Int))).bind fun eA=>
    (db eA a0 yA).bind fun cA=>
    some cA
     :Option (List Int))).bind fun qA=>
    some (.next (IntKind.wrap .i64 (yA+1),qA))
   else
    some (.done hA)) (1,y3)).bind fun rA=>
 some rA
  :Option (List Int))).bind fun wA=>
 some wA
theorem o151 {a0 a1:List Int} {r0:(List Int)} (hF:dX a0 a1=some r0) (L:List Res):Ok Tryz.prog 198 [SV.val K3 a0,SV.val K4 a1] L (SV.val K4 r0) L:=by
 unfold dX at hF
 refine okI 40 Tryz.func198 rfl rfl rfl fun F0=>?_
 refine bs hF fun y3 h4 hF=>bs hF fun cA uA hF=>sr<|bX (K:=kArr 176 K12) rfl rdV rfl<|Under.bx (K:=kArr 16 K12) rfl rdV rfl fun b1=>al ZT64 rfl fun b2=>ns<|f1<|lP .box .id kt64k rfl rfl<|oL kt279 rfl<|cx Tryz.call240 rfl (o149 h4 _)<|sP (x':=y3) .box .id sz64k rfl rfl rdV rfl<|nt<|sq<|afr (r:=cA) (fun cA=>[(3,.ptr K4 cA),(4,pb b2)]) (fun cA=>((.box K4 b2 64 (List.replicate 16 (0:Int)))::L)) ?_ fun K gB=>?_
 ·refine sr<|oL kt64 rfl<|sP (x':=cA) .box .id sz64k rfl rfl rdV rfl<|nl<|fz (t:=4) rfl<|tn<|rc ?_
  cases osi hF
  exact rs Tryz.results198 (.ce rfl kt64 .nil) rfl rfl
 ·refine bs uA fun mB xB uA=>sr<|a_ rfl<|nt<|bk<|lp xB () (fun bA rA=>[(2,.ptr K3 a0),(3,pb b1),(4,pb b2),(5,.raw (.int .i64 bA.1))]) (fun bA rA=>(.box K4 b1 64 bA.2)::(.box K4 b2 64 (List.replicate 16 (0:Int)))::L) rfl rfl fun bA rA nB yA yB=>?_
  obtain⟨kA,wA⟩:=bA
  dsimp only at yA⊢
  refine sq<|sr<|mb rfl<|nt<|it yA rfl (fun yA=>?_) (fun yA=>?_)
  ·refine bs yA fun dA zA yA=>ct<|sq<|afr (r:=dA) (fun dA=>[(2,.ptr K3 a0),(3,pb b1),(4,pb b2),(5,.raw (.int .i64 kA))]) (fun dA=>((.box K4 b1 64 dA)::(.box K4 b2 64 (List.replicate 16 (0:Int)))::L)) ?_ fun K zB=>?_
   ·exact rg<|mb rfl<|a_ rfl<|nl<|nx () yA rfl rfl
   ·refine bs zA fun vA qA zA=>bk<|sr<|al ZT64 rfl fun gA=>nt<|sq<|afr (r:=vA) (fun vA=>[(2,.ptr K3 a0),(3,pb b1),(4,pb b2),(5,.raw (.int .i64 kA)),(6,.ptr K4 vA)]) (fun vA=>((.box K4 b1 64 wA)::(.box K4 b2 64 (List.replicate 16 (0:Int)))::L)) ?_ fun K hB=>?_
    ·refine bs zA fun eA hA zA=>sr<|oL kt64 rfl<|sP (x':=vA) .box .id sz64k rfl rfl rdV rfl<|nt<|sq<|afr (r:=eA) (fun eA=>[(2,.ptr K3 a0),(3,pb b1),(4,pb b2),(5,.raw (.int .i64 kA))]) (fun eA=>((.box K4 b1 64 eA)::(.box K4 b2 64 (List.replicate 16 (0:Int)))::L)) ?_ fun K mA=>?_
     ·exact bs zA fun bB vB zA=>rg<|lP .box .id kt64k rfl rfl<|oL kt279 rfl<|m_ rfl<|cx Tryz.call240 rfl (o149 vB _)<|sP (x':=bB) .box .id sz64k rfl rfl rdV rfl<|nl<|bN<|tn<|wr (zB _ (osi zA).symm) rfl
     ·refine sr<|mb rfl<|nt<|it hA rfl (fun hA=>?_) (fun hA=>?_)
      ·exact bs hA fun oB kB hA=>rg<|lP .box .id kt64k rfl rfl<|cx Tryz.call241 rfl (o150 kB _)<|sP (x':=oB) .box .id sz64k rfl rfl rdV rfl<|nt<|wr (mA _ (osi hA).symm) rfl
      ·exact ct<|wr (mA _ (osi hA).symm) rfl
    ·refine bs qA fun pB dB qA=>sr<|a_ rfl<|nt<|bk<|f2<|f2<|lp dB () (fun oA nA=>[(2,.ptr K3 a0),(3,pb b1),(4,pb b2),(5,.raw (.int .i64 kA)),(6,pb gA),(7,.raw (.int .i64 oA.1))]) (fun oA nA=>(.box K4 b1 64 wA)::(.box K4 b2 64 (List.replicate 16 (0:Int)))::(.box K4 gA 64 oA.2)::L) rfl rfl fun oA nA tB xA eB=>?_
     obtain⟨cB,qB⟩:=oA
     dsimp only at xA⊢
     refine sq<|sr<|mb rfl<|nt<|it xA rfl (fun xA=>?_) (fun xA=>?_)
     ·exact bs xA fun uB pA xA=>bs xA fun rB wB xA=>bs xA fun xC tA xA=>ct<|sq<|bk<|rg<|m_ rfl<|m_ rfl<|m_ rfl<|ov (OpV.quo rfl rfl (by decide) rfl) rfl<|b_ rfl<|b_ rfl<|ov (OpV.quo rfl rfl (by decide) rfl) rfl<|oX .box .id pA Tryz.underlying64 sz5k rfl<|lP .box (.ix .id pA) kt5k rfl rfl<|rI (t:=27) rfl<|ov (OpV.ixStr wB Tryz.underlying9 rfl ou rfl) rfl<|f2<|oX .box .id tA Tryz.underlying64 sz5k rfl<|sP (x':=List.set qB (Int.toNat cB) rB) .box (.ix .id tA) sz5k rfl rfl rdI rfl<|nl<|bN<|tn<|rg<|mb rfl<|a_ rfl<|nl<|f2<|f2<|nx () xA rfl rfl
     ·refine f2<|fz (t:=6) rfl<|xt<|te ?_
      cases ai xA eB
      exact te<|bh<|tn<|wr (hB _ (osi qA).symm) rfl
  ·refine fz (t:=3) rfl<|xt<|te ?_
   cases ai yA yB
   exact te<|bh<|tn<|wr (gB _ (osi uA).symm) rfl
noncomputable def dY (a0:List Int):Option (List Int):=
 (((Loop.run (S := (Int × (List Int))) (R := ((List Int) ⊕ (List Int))) (fun (xA, yA) =>
   bif decide (xA≥0) then
    (idx yA xA).bind fun zA=>
    (idx yA xA).bind fun kA=>
    (idx (List.set yA (Int.toNat xA) (IntKind.wrap .u8 (zA+1))) xA).bind fun hA=>
    bif hA != 0 then
     some (.done (.inr (List.set yA (Int.toNat xA) (IntKind.wrap .u8 (zA+1)))))
    else
     some (.next (IntKind.wrap .i64 (xA - 1),List.set yA (Int.toNat xA) (IntKind.wrap .u8 (zA+1))))
   else
    some (.done (.inl yA))) (15,a0)).bind fun bA=>match bA with
  | .inl vA=>
   some (.inr vA)
  | .inr z=>
   some (.inl z)
  : Option ((List Int) ⊕ (List Int)))).bind fun oA => match oA with
  | .inl z=>
   some z
  | .inr x41=>
   some x41
theorem o152 {a0:List Int} {r0:(List Int)} (hF:dY a0=some r0) (L:List Res):Ok Tryz.prog 199 [SV.val K4 a0] L (SV.val K4 r0) L:=by
 unfold dY at hF
 refine okI 19 Tryz.func199 rfl rfl rfl fun F0=>?_
 refine bs hF fun wA zA hF=>sr<|Under.bx (K:=kArr 16 K12) rfl rdV rfl fun b1=>al ZT64 rfl fun b2=>nt<|sq<|Under.after (fun X=>∀(hA:List Int),wA=(.inr hA)→Under F0 19 [(1,.ptr K4 hA),(2,pb b2)] ((.box K4 b2 64 (List.replicate 16 (0:Int)))::L) X) ?_ ?_
 ·intro hA bA
  replace bA:=bA.symm
  subst bA
  refine sr<|oL kt64 rfl<|sP (x':=hA) .box .id sz64k rfl rfl rdV rfl<|nl<|fz (t:=2) rfl<|tn<|rc ?_
  cases osi hF
  exact rs Tryz.results199 (.ce rfl kt64 .nil) rfl rfl
 ·intro K gA
  refine bs zA fun nA mA zA=>sr<|a_ rfl<|nt<|bk<|f1<|lp mA () (fun yA vA=>[(1,pb b1),(2,pb b2),(3,.raw (.int .i64 yA.1))]) (fun yA vA=>(.box K4 b1 64 yA.2)::(.box K4 b2 64 (List.replicate 16 (0:Int)))::L) rfl rfl fun yA vA pA xA oA=>?_
  obtain⟨kA,dA⟩:=yA
  dsimp only at xA⊢
  refine sq<|sr<|mb rfl<|nt<|it xA rfl (fun xA=>?_) (fun xA=>?_)
  ·refine bs xA fun eA cA xA=>bs xA fun tA qA xA=>bs xA fun uA rA xA=>ct<|sq<|bk<|sr<|m_ rfl<|oX .box .id cA Tryz.underlying64 sz5k rfl<|lP .box (.ix .id cA) kt5k rfl rfl<|rI (t:=10) rfl<|b_ rfl<|oX .box .id qA Tryz.underlying64 sz5k rfl<|sP (x':=List.set dA (Int.toNat kA) (IntKind.wrap .u8 (eA+1))) .box (.ix .id qA) sz5k rfl rfl rdI rfl<|ns<|m_ rfl<|oX .box .id rA Tryz.underlying64 sz5k rfl<|lP .box (.ix .id rA) kt5k rfl rfl<|rI (t:=15) rfl<|b_ rfl<|nt<|it xA rfl (fun xA=>?_) (fun xA=>?_)
   ·refine fz (t:=1) rfl<|sr<|oL kt64 rfl<|sP (x':=List.set dA (Int.toNat kA) (IntKind.wrap .u8 (eA+1))) .box .id sz64k rfl rfl rdV rfl<|nl<|fz (t:=2) rfl<|tn<|rc<|Under.bR<|tr ?_
    cases ai xA oA
    refine tr<|Under.bR<|tr ?_
    cases osi zA
    cases osi hF
    exact rs Tryz.results199 (.ce rfl kt64 .nil) rfl rfl
   ·exact cs<|bN<|tn<|rg<|mb rfl<|a_ rfl<|nl<|nx () xA rfl rfl
  ·refine fz (t:=1) rfl<|xt<|te ?_
   cases ai xA oA
   exact te<|bh<|tn<|wr (gA _ (osi zA).symm) rfl
noncomputable def fp (a0:List Int) (a1:List Int) (a2:List Int):Option (List Int):=
 (fo a0).bind fun y2=>
 bif mkB 0 (a2.length:Int) then
 (((Loop.run (S:=((List Int)×Int×(List Int)×(List Int))) (R:=(List Int)) (fun(zA,xA,yA,bA)=>
   bif decide (xA<(a2.length:Int)) then
    ((bif (Int.tmod xA 16)==0 then
     (dX y2 yA).bind fun vA=>
     (dY yA).bind fun oA=>
     some (oA,vA)
    else
     some (yA,bA)
     :Option ((List Int)×(List Int)))).bind fun kA=>match kA with
     |(dA,hA)=>
      (idx a2 xA).bind fun eA=>
      (idx hA (Int.tmod xA 16)).bind fun cA=>
      (app zA [xorI .u8 eA cA]).bind fun qA=>
      some (.next (qA,IntKind.wrap .i64 (xA+1),dA,hA))
   else
    some (.done zA)) (List.replicate (Int.toNat 0) (0:Int),0,a1,(List.replicate 16 (0:Int)))).bind fun rA=>
 some rA
  :Option (List Int))).bind fun wA=>
 some wA
 else none
theorem o153 {a0 a1 a2:List Int} {r0:(List Int)} (hF:fp a0 a1 a2=some r0) (L:List Res):Ok Tryz.prog 149 [SV.val K4 a0,SV.val K4 a1,SV.val K9 a2] L (SV.val K9 r0) L:=by
 unfold fp at hF
 refine okI 43 Tryz.func149 rfl rfl rfl fun F0=>?_
 refine bs hF fun y2 h3 hF=>gs hF fun h6 hF=>bs hF fun bA vA hF=>sr<|bX (K:=kArr 16 K12) rfl rdV rfl<|Under.bx (K:=kArr 16 K12) rfl rdV rfl fun b1=>a_ rfl<|ns<|oL kt64 rfl<|cx Tryz.call197 rfl (o148 h3 _)<|al ZT279 rfl fun b4=>sP (x':=y2) .box .id sz279k rfl rfl rdV rfl<|nl<|fz (t:=7) rfl<|tn<|sr<|m_ rfl<|oN Tryz.underlying22 rfl<|Under.mk h6 Tryz.underlying22 AT5 rfl rfl rfl fun v5=>a_ rfl<|ns<|al ZT64 rfl fun b8=>nt<|sq<|afr (r:=bA) (fun bA=>[(8,.val K9 bA)]) (fun bA=>(L)) ?_ fun K qA=>?_
 ·refine sr<|m_ rfl<|a_ rfl<|nt<|rc ?_
  cases osi hF
  exact rs Tryz.results149 (.tm rfl .nil) rfl rfl
 ·refine bs vA fun oB rA vA=>sr<|a_ rfl<|nt<|bk<|f2<|f2<|lp rA (C:=Value) v5 (fun zA hA=>[(2,.val K9 a2),(4,pb b1),(7,.ptr K3 y2),(8,.raw hA),(9,pb b8),(10,.raw (.int .i64 zA.2.1))]) (fun zA hA=>(.own K12 hA 5 zA.1)::(.box K4 b1 64 zA.2.2.1)::(.box K4 b8 64 zA.2.2.2)::L) rfl rfl fun zA hA kB xA wA=>?_
  obtain⟨gA,mA,dB,eB⟩:=zA
  dsimp only at xA⊢
  refine sq<|sr<|m_ rfl<|m_ rfl<|oN Tryz.underlying22 rfl<|b_ rfl<|nt<|it xA rfl (fun xA=>?_) (fun xA=>?_)
  ·refine bs xA fun nA yA xA=>ct<|sq<|bk<|sq<|Under.after (fun X=>∀(oA:List Int) (kA:List Int),nA=(oA,kA)→Under F0 43 [(2,.val K9 a2),(4,pb b1),(7,.ptr K3 y2),(8,.raw hA),(9,pb b8),(10,.raw (.int .i64 mA))] ((.own K12 hA 5 gA)::(.box K4 b1 64 oA)::(.box K4 b8 64 kA)::L) X) ?_ ?_
   ·intro oA kA dA
    replace dA:=dA.symm
    subst dA
    exact bs xA fun pA tA xA=>bs xA fun uA eA xA=>bs xA fun cB xB xA=>ph rfl<|gV [0,1,2,3,4,5,6,7,8,9,10] [[8],[2],[10],[31,32],[33],[10],[35],[9,36],[37],[34,38],[39]] 3 (by kernel_rfl) rfl<|vm_ rfl<|vm_ rfl<|vm_ rfl<|vo (fun _=>OpV.ixS tA Tryz.underlying22 sz5 rfl rdV rfl) rfl<|vo (fun _=>OpV.ldI kt5 rfl) rfl<|vm_ rfl<|vo (fun _=>OpV.quo rfl rfl (by decide) rfl) rfl<|Vq.v (fun G T hG=>f2<|oX .box .id eA Tryz.underlying64 sz5k rfl<|f2<|f2<|Vq.end rfl)<|Vq.v (fun G T hG=>f2<|lP .box (.ix .id eA) kt5k rfl rfl<|rI (t:=38) rfl<|f2<|f2<|Vq.end rfl)<|vb_ rfl<|Vq.v (fun G T hG=>bF (ys:=[xorI .u8 pA uA]) Tryz.underlying22 ET5 (BldA.cons rfl rfl rdI (BldA.nil _)) rfl rfl<|Vq.end rfl)<|vn<|p1 11 rfl rfl<|ap xB Tryz.underlying22 AT5 rfl rfl rdV rfl fun yB=>pn<|p1 12 rfl rfl<|a_ rfl<|pn<|pd rfl<|bN<|tn<|rg<|mb rfl<|a_ rfl<|nl<|nx yB xA rfl rfl
   ·intro K cA
    refine sr<|m_ rfl<|ov (OpV.quo rfl rfl (by decide) rfl) rfl<|b_ rfl<|nt<|it yA rfl (fun yA=>?_) (fun yA=>?_)
    ·exact bs yA fun zB hB yA=>bs yA fun bB vB yA=>sr<|oL kt279 rfl<|f1<|lP .box .id kt64k rfl rfl<|cx Tryz.call198 rfl (o151 hB _)<|f2<|sP (x':=zB) .box .id sz64k rfl rfl rdV rfl<|nt<|rg<|f1<|lP .box .id kt64k rfl rfl<|cx Tryz.call199 rfl (o152 vB _)<|sP (x':=bB) .box .id sz64k rfl rfl rdV rfl<|nt<|f2<|wr (cA _ _ (osi yA).symm) rfl
    ·exact ct<|wr (cA _ _ (osi yA).symm) rfl
  ·refine f1<|dr<|f1<|dr<|fzO (t:=8) rfl<|xt<|te ?_
   cases ai xA wA
   exact te<|bh<|tn<|wr (qA _ (osi vA).symm) rfl
noncomputable def fq (a0:List Int) (a1:List Int):Option (List Int):=
 (dN a0 a1).bind fun y2=>
 (((Loop.run (S:=(Int×(List Int))) (R:=(List Int)) (fun(xA,yA)=>
   bif decide (xA<16) then
    (idx y2 xA).bind fun zA=>
    (idx yA xA).bind fun vA=>
    some (.next (IntKind.wrap .i64 (xA+1),List.set yA (Int.toNat xA) zA))
   else
    some (.done yA)) (0,(List.replicate 16 (0:Int)))).bind fun hA=>
 some hA
  :Option (List Int))).bind fun bA=>
 some bA
theorem o154 {a0 a1:List Int} {r0:(List Int)} (hF:fq a0 a1=some r0) (L:List Res):Ok Tryz.prog 150 [SV.val K6 a0,SV.val K9 a1] L (SV.val K4 r0) L:=by
 unfold fq at hF
 refine okI 21 Tryz.func150 rfl rfl rfl fun F0=>?_
 refine bs hF fun y2 h3 hF=>bs hF fun yA hA hF=>sr<|bX (K:=kArr 32 K12) rfl rdV rfl<|al ZT64 rfl fun b1=>ns<|ov (OpV.slA Tryz.underlying179 sz5 rfl) rfl<|m_ rfl<|cx Tryz.call195 rfl (o135 h3 _)<|al ZT179 rfl fun b4=>sP (x':=y2) .box .id sz179k rfl rfl rdV rfl<|nl<|fz (t:=5) rfl<|tn<|sr<|al ZT64 rfl fun b5=>nt<|sq<|afr (r:=yA) (fun yA=>[(4,pb b1),(6,.ptr K4 yA)]) (fun yA=>((.box K4 b1 64 (List.replicate 16 (0:Int)))::L)) ?_ fun K oA=>?_
 ·refine sr<|oL kt64 rfl<|sP (x':=yA) .box .id sz64k rfl rfl rdV rfl<|nl<|fz (t:=4) rfl<|tn<|rc ?_
  cases osi hF
  exact rs Tryz.results150 (.ce rfl kt64 .nil) rfl rfl
 ·refine bs hA fun wA kA hA=>sr<|a_ rfl<|nt<|bk<|f1<|lp kA () (fun zA bA=>[(4,pb b1),(5,.ptr K6 y2),(6,pb b5),(7,.raw (.int .i64 zA.1))]) (fun zA bA=>(.box K4 b1 64 (List.replicate 16 (0:Int)))::(.box K4 b5 64 zA.2)::L) rfl rfl fun zA bA gA xA dA=>?_
  obtain⟨eA,cA⟩:=zA
  dsimp only at xA⊢
  refine sq<|sr<|mb rfl<|nt<|it xA rfl (fun xA=>?_) (fun xA=>?_)
  ·exact bs xA fun qA rA xA=>bs xA fun mA vA xA=>ct<|sq<|bk<|rg<|m_ rfl<|m_ rfl<|ov (OpV.ixA rA Tryz.underlying179 sz5 rfl rfl) rfl<|oI kt5 rfl<|f1<|oX .box .id vA Tryz.underlying64 sz5k rfl<|sP (x':=List.set cA (Int.toNat eA) qA) .box (.ix .id vA) sz5k rfl rfl rdI rfl<|nl<|bN<|tn<|rg<|mb rfl<|a_ rfl<|nl<|f1<|nx () xA rfl rfl
  ·refine f1<|fz (t:=6) rfl<|xt<|te ?_
   cases ai xA dA
   exact te<|bh<|tn<|wr (oA _ (osi hA).symm) rfl
noncomputable def fO (a0:an) (a1:Int) (a2:List Int) (a3:List Int):Option (List Int):=
 (app [IntKind.wrap .u8 a1] a2).bind fun z3=>
 (app z3 a3).bind fun z6=>
 (fq a0.Mac z6).bind fun y9=>
 some y9
theorem o155 {a0:an} {a1:Int} {a2 a3:List Int} {r0:(List Int)} (hF:fO a0 a1 a2 a3=some r0) (L:List Res):Ok Tryz.prog 148 [SV.val bS a0,SV.raw (.int .i64 a1),SV.val K4 a2,SV.val K9 a3] L (SV.val K4 r0) L:=by
 unfold fO at hF
 refine okI 23 Tryz.func148 rfl rfl rfl fun F0=>?_
 refine bs hF fun z3 h4 hF=>bs hF fun z6 h7 hF=>bs hF fun y9 xA hF=>sr<|bX (K:=bS) rfl rdV rfl<|bX (K:=kArr 16 K12) rfl rdV rfl<|al ZT64 rfl fun b1=>ns<|m_ rfl<|oC (by kernel_rfl) Tryz.underlying5 rfl<|bO (ys:=[IntKind.wrap .u8 a1]) Tryz.underlying22 ET5 (BldA.cons rfl rfl rdI (BldA.nil _)) rfl rfl fun v2=>a_ rfl<|ns<|m_ rfl<|ov (OpV.slA Tryz.underlying64 sz5 rfl) rfl<|ap h4 Tryz.underlying22 AT5 rfl rfl rdV rfl fun v5=>a_ rfl<|ns<|m_ rfl<|m_ rfl<|ap h7 Tryz.underlying22 AT5 rfl rfl rdV rfl fun v8=>a_ rfl<|nl<|fzO (t:=9) rfl<|tn<|sr<|oF fb181k1 rfl<|oL kt179 rfl<|m_ rfl<|cx Tryz.call150 rfl (o154 xA _)<|sP (x':=y9) .box .id sz64k rfl rfl rdV rfl<|nl<|fz (t:=8) rfl<|tn<|rc ?_
 cases osi hF
 exact rs Tryz.results148 (.ce rfl kt64 .nil) rfl rfl
noncomputable def gb (a0:List Int) (a1:List Int) (a2:Int) (a3:List Int):Option (List Int):=
 (eF a0 a1).bind fun y1=>
 (fp y1.1.Box (List.replicate 16 (0:Int)) a3).bind fun y4=>
 (fO y1.1 a2 a1 y4).bind fun y6=>
 bif mkB 0 (IntKind.wrap .i64 (32+(y4.length:Int))) then
 (app (List.replicate (Int.toNat 0) (0:Int)) a1).bind fun xA=>
 (app xA y6).bind fun yA=>
 (app yA y4).bind fun zA=>
 some zA
 else none
theorem o156 {a0 a1:List Int} {a2:Int} {a3:List Int} {r0:(List Int)} (hF:gb a0 a1 a2 a3=some r0) (L:List Res):Ok Tryz.prog 200 [SV.val K9 a0,SV.val K4 a1,SV.raw (.int .i64 a2),SV.val K9 a3] L (SV.val K9 r0) L:=by
 unfold gb at hF
 refine okI 43 Tryz.func200 rfl rfl rfl fun F0=>?_
 refine bs hF fun y1 h2 hF=>bs hF fun y4 h5 hF=>bs hF fun y6 h7 hF=>gs hF fun xA hF=>bs hF fun bA yA hF=>bs hF fun vA zA hF=>bs hF fun oA hA hF=>sr<|bX (K:=kArr 16 K12) rfl rdV rfl<|a_ rfl<|ns<|m_ rfl<|oL kt64 rfl<|cx Tryz.call147 rfl (o146 h2 _)<|m_ rfl<|oE rfl<|oE rfl<|al ZT181 rfl fun b3=>sP (x':=y1.1) .box .id sz181k rfl rfl rdV rfl<|a_ rfl<|nl<|fz (t:=9) rfl<|tn<|sr<|oF fb181k rfl<|oL kt64 rfl<|ov (OpV.bar (ys:=(List.replicate 16 (0:Int))) BTA64 (BldA.nil _)) rfl<|m_ rfl<|cx Tryz.call149 rfl (o153 h5 _)<|a_ rfl<|ns<|oL kt181 rfl<|m_ rfl<|oL kt64 rfl<|m_ rfl<|cx Tryz.call148 rfl (o155 h7 _)<|al ZT64 rfl fun b8=>sP (x':=y6) .box .id sz64k rfl rfl rdV rfl<|nl<|fz (t:=12) rfl<|tn<|sr<|m_ rfl<|oN Tryz.underlying22 rfl<|b_ rfl<|Under.mk xA Tryz.underlying22 AT5 rfl rfl rfl fun v9=>a_ rfl<|ns<|m_ rfl<|ov (OpV.slA Tryz.underlying64 sz5 rfl) rfl<|ap yA Tryz.underlying22 AT5 rfl rfl rdV rfl fun kA=>a_ rfl<|ns<|m_ rfl<|ov (OpV.slA Tryz.underlying64 sz5 rfl) rfl<|ap zA Tryz.underlying22 AT5 rfl rfl rdV rfl fun dA=>a_ rfl<|ns<|m_ rfl<|m_ rfl<|ap hA Tryz.underlying22 AT5 rfl rfl rdV rfl fun eA=>a_ rfl<|nl<|fzO (t:=8) rfl<|tn<|rc ?_
 cases osi hF
 exact rs Tryz.results200 (.tm rfl .nil) rfl rfl
noncomputable def ft (a0:List Int) (a1:List Int) (a2:Int) (a3:List Int):Option ((List Int)×Int):=
 ((bif (a0.length:Int) != 32 then
  some true
 else
  (cU a2).bind fun y4=>
  some (y4==0)
  :Option Bool)).bind fun x3=>
 bif x3 then
  some ([],2)
 else
  (cU a2).bind fun y7=>
  bif decide ((a3.length:Int)>(IntKind.wrap .i64 (y7 - 34))) then
   some ([],1)
  else
   (cU a2).bind fun xA=>
   bif mkB (IntKind.wrap .i64 (xA - 32)) (IntKind.wrap .i64 (xA - 32)) then
   (idx (List.replicate (Int.toNat (IntKind.wrap .i64 (xA - 32))) (0:Int)) 0).bind fun kA=>
   (idx (List.set (List.replicate (Int.toNat (IntKind.wrap .i64 (xA - 32))) (0:Int)) (Int.toNat 0) (IntKind.wrap .u8 (IntKind.wrap .i64 (Int.tdiv (a3.length:Int) 256)))) 1).bind fun dA=>
   (((Loop.run (S:=((List Int)×Int)) (R:=(List Int)) (fun(zA,yA)=>
     bif decide (yA<(a3.length:Int)) then
      (idx a3 yA).bind fun hA=>
      (idx zA (IntKind.wrap .i64 (2+yA))).bind fun eA=>
      some (.next (List.set zA (Int.toNat (IntKind.wrap .i64 (2+yA))) hA,IntKind.wrap .i64 (yA+1)))
     else
      some (.done zA)) (List.set (List.set (List.replicate (Int.toNat (IntKind.wrap .i64 (xA - 32))) (0:Int)) (Int.toNat 0) (IntKind.wrap .u8 (IntKind.wrap .i64 (Int.tdiv (a3.length:Int) 256)))) (Int.toNat 1) (IntKind.wrap .u8 (Int.tmod (a3.length:Int) 256)),0)).bind fun bA=>
   some bA
    :Option (List Int))).bind fun vA=>
   (gb a0 a1 a2 vA).bind fun oA=>
   some (oA,0)
   else none
theorem o157 {a0 a1:List Int} {a2:Int} {a3:List Int} {r0:((List Int)×Int)} (hF:ft a0 a1 a2 a3=some r0) (L:List Res):Ok Tryz.prog 155 [SV.val K9 a0,SV.val K4 a1,SV.raw (.int .i64 a2),SV.val K9 a3] L (SV.tup [SV.val K9 r0.1,SV.raw (.int .i64 r0.2)]) L:=by
 unfold ft at hF
 refine okI 61 Tryz.func155 rfl rfl rfl fun F0=>?_
 refine bs hF fun x3 h2 hF=>sr<|bX (K:=kArr 16 K12) rfl rdV rfl<|a_ rfl<|a_ rfl<|nt<|sq<|sr<|m_ rfl<|oN Tryz.underlying22 rfl<|b_ rfl<|m_ rfl<|bt 19 x3 ?_ (fun k=>?_)
 ·refine nt<|it hF rfl (fun hF=>?_) (fun hF=>?_)
  ·refine sr<|a_ rfl<|a_ rfl<|nt<|rt<|tV (K:=kSl K12) (x:=[]) (t:=8) rfl rdN ?_
   cases osi hF
   exact rs Tryz.results155 (.tm rfl (.tm rfl .nil)) rfl rfl
  ·refine bs hF fun y7 h8 hF=>ct<|sq<|sr<|m_ rfl<|oN Tryz.underlying22 rfl<|m_ rfl<|cx Tryz.call112 rfl (o142 h8 _)<|b_ rfl<|b_ rfl<|nt<|it hF rfl (fun hF=>?_) (fun hF=>?_)
   ·refine sr<|a_ rfl<|a_ rfl<|nt<|rt<|tV (K:=kSl K12) (x:=[]) (t:=8) rfl rdN ?_
    cases osi hF
    exact rs Tryz.results155 (.tm rfl (.tm rfl .nil)) rfl rfl
   ·refine bs hF fun kA cA hF=>gs hF fun qA hF=>bs hF fun xB hA hF=>bs hF fun yB bA hF=>bs hF fun zA vA hF=>ct<|sr<|m_ rfl<|cx Tryz.call112 rfl (o142 cA _)<|b_ rfl<|Under.mk qA Tryz.underlying22 AT5 rfl rfl rfl fun dA=>a_ rfl<|ns<|m_ rfl<|m_ rfl<|oN Tryz.underlying22 rfl<|ov (OpV.quo rfl rfl (by decide) rfl) rfl<|oC (by kernel_rfl) Tryz.underlying5 rfl<|ov (OpV.ixO hA Tryz.underlying22 sz5k rfl rfl) rfl<|sP (x':=List.set (List.replicate (Int.toNat (IntKind.wrap .i64 (kA - 32))) (0:Int)) (Int.toNat 0) (IntKind.wrap .u8 (IntKind.wrap .i64 (Int.tdiv (a3.length:Int) 256)))) (.own hA) (.ix .id hA) sz5k rfl rfl rdI rfl<|ns<|m_ rfl<|m_ rfl<|oN Tryz.underlying22 rfl<|ov (OpV.quo rfl rfl (by decide) rfl) rfl<|oC (by kernel_rfl) Tryz.underlying5 rfl<|ov (OpV.ixO bA Tryz.underlying22 sz5k rfl rfl) rfl<|sP (x':=List.set (List.set (List.replicate (Int.toNat (IntKind.wrap .i64 (kA - 32))) (0:Int)) (Int.toNat 0) (IntKind.wrap .u8 (IntKind.wrap .i64 (Int.tdiv (a3.length:Int) 256)))) (Int.toNat 1) (IntKind.wrap .u8 (Int.tmod (a3.length:Int) 256))) (.own bA) (.ix .id bA) sz5k rfl rfl rdI rfl<|nt<|sq<|afr (r:=zA) (fun zA=>[(0,.val K9 a0),(2,.raw (.int .i64 a2)),(5,.ptr K4 a1),(10,.val K9 zA)]) (fun zA=>(L)) ?_ fun K rA=>?_
    ·refine bs hF fun zB wA hF=>sr<|m_ rfl<|oL kt64 rfl<|m_ rfl<|m_ rfl<|cx Tryz.call200 rfl (o156 wA _)<|a_ rfl<|a_ rfl<|nt<|rc ?_
     cases osi hF
     exact rs Tryz.results155 (.tm rfl (.tm rfl .nil)) rfl rfl
    ·refine bs vA fun hB gA vA=>sr<|a_ rfl<|nt<|bk<|lp gA () (fun yA eA=>[(0,.val K9 a0),(2,.raw (.int .i64 a2)),(3,.val K9 a3),(5,.ptr K4 a1),(10,.raw dA),(11,.raw (.int .i64 yA.2))]) (fun yA eA=>(.own K12 dA 5 yA.1)::L) rfl rfl fun yA eA bB xA mA=>?_
     obtain⟨nA,pA⟩:=yA
     dsimp only at xA⊢
     refine sq<|sr<|m_ rfl<|m_ rfl<|oN Tryz.underlying22 rfl<|b_ rfl<|nt<|it xA rfl (fun xA=>?_) (fun xA=>?_)
     ·exact bs xA fun tA uA xA=>bs xA fun vB oA xA=>ct<|sq<|bk<|rg<|m_ rfl<|mb rfl<|m_ rfl<|m_ rfl<|oS uA Tryz.underlying22 sz5 rfl<|oI kt5 rfl<|ov (OpV.ixO oA Tryz.underlying22 sz5k rfl rfl) rfl<|sP (x':=List.set nA (Int.toNat (IntKind.wrap .i64 (2+pA))) tA) (.own oA) (.ix .id oA) sz5k rfl rfl rdI rfl<|nl<|bN<|tn<|rg<|mb rfl<|a_ rfl<|nl<|nx () xA rfl rfl
     ·refine fzO (t:=10) rfl<|xt<|te ?_
      cases ai xA mA
      exact te<|bh<|tn<|wr (rA _ (osi vA).symm) rfl
 ·refine by_ (t:=15) rfl (fun c1=>?_) (fun c1=>?_)
  ·replace h2:=ctrue c1 h2
   exact sk_ c1 rfl<|sk_ c1 rfl<|sk_ c1 rfl<|pT c1 rfl<|rf 3 (rbq h2) rfl k
  ·replace h2:=cfalse c1 h2
   exact bs h2 fun y4 h5 h2=>gc_ c1 rfl<|m_ rfl<|gc_ c1 rfl<|cx Tryz.call112 rfl (o142 h5 _)<|gc_ c1 rfl<|b_ rfl<|pF c1 rfl<|rf 3 (rbq h2) rfl k
noncomputable def fu (a0:List Int) (a1:List Int) (a2:Int) (a3:List Int):Option ((List Int)×Int):=
 (gZ a0 a1).bind fun y1=>
 bif y1.2 != 0 then
  some ([],y1.2)
 else
  (ft y1.1 a1 a2 a3).bind fun y4=>
  some (y4.1,y4.2)
theorem o158 {a0 a1:List Int} {a2:Int} {a3:List Int} {r0:((List Int)×Int)} (hF:fu a0 a1 a2 a3=some r0) (L:List Res):Ok Tryz.prog 95 [SV.val K9 a0,SV.val K4 a1,SV.raw (.int .i64 a2),SV.val K9 a3] L (SV.tup [SV.val K9 r0.1,SV.raw (.int .i64 r0.2)]) L:=by
 unfold fu at hF
 refine okI 28 Tryz.func95 rfl rfl rfl fun F0=>?_
 refine bs hF fun y1 h2 hF=>sr<|bX (K:=kArr 16 K12) rfl rdV rfl<|a_ rfl<|a_ rfl<|ns<|m_ rfl<|oL kt64 rfl<|cx Tryz.call154 rfl (o145 h2 _)<|m_ rfl<|oE rfl<|oE rfl<|a_ rfl<|a_ rfl<|nt<|sq<|sr<|mb rfl<|nt<|it hF rfl (fun hF=>?_) (fun hF=>?_)
 ·refine sr<|m_ rfl<|a_ rfl<|a_ rfl<|nt<|rt<|tV (K:=kSl K12) (x:=[]) (t:=8) rfl rdN ?_
  cases osi hF
  exact rs Tryz.results95 (.tm rfl (.tm rfl .nil)) rfl rfl
 ·refine bs hF fun y4 h5 hF=>ct<|sr<|m_ rfl<|oL kt64 rfl<|m_ rfl<|m_ rfl<|cx Tryz.call155 rfl (o157 h5 _)<|oE rfl<|oE rfl<|a_ rfl<|a_ rfl<|nt<|rc ?_
  cases osi hF
  exact rs Tryz.results95 (.tm rfl (.tm rfl .nil)) rfl rfl
noncomputable def gd (a0:Int) (a1:Int):Option (List Int):=
 (((Loop.run (S:=((List Int)×Int)) (R:=(List Int)) (fun(yA,xA)=>
   bif decide (xA≥0) then
    bif decide (0≤(IntKind.wrap .i64 (8*xA))) then
    (app yA [IntKind.wrap .u8 (shrI .i64 a0 (IntKind.wrap .i64 (8*xA)))]).bind fun zA=>
    some (.next (zA,IntKind.wrap .i64 (xA - 1)))
    else none
   else
    some (.done yA)) ([],IntKind.wrap .i64 (a1 - 1))).bind fun hA=>
 some hA
  :Option (List Int))).bind fun bA=>
 some bA
theorem o159 {a0 a1:Int} {r0:(List Int)} (hF:gd a0 a1=some r0) (L:List Res):OkX Tryz.prog 86 [SV.raw (.int .i64 a0),SV.raw (.int .i64 a1)] L (fun y:Value=>SV.raw y) (fun y:Value=>(.own K12 y 5 r0)::L):=by
 unfold gd at hF
 refine OkX.intro 22 [(0,.raw (.int .i64 a0)),(1,.raw (.int .i64 a1))] Tryz.func86 rfl rfl rfl rfl fun F0=>?_
 refine bs hF fun kA bA hF=>sr<|a_ rfl<|ns<|a_ rfl<|nt<|sq<|Under.after (fun X=>∀(vA:List Int) (zA:Value),kA=vA→Under F0 22 [(5,.raw zA)] ((.own K12 zA 5 vA)::L) X) ?_ ?_
 ·intro vA zA oA
  replace oA:=oA.symm
  subst oA
  refine sr<|m_ rfl<|a_ rfl<|nt<|rc ?_
  cases osi hF
  exact Under.retsX zA Tryz.results86 (.tm rfl .nil) rfl rfl
 ·intro K dA
  refine bs bA fun mA eA bA=>sr<|mb rfl<|a_ rfl<|nt<|bk<|Under.ownNil (K:=kInt .u8) (e:=5)<|lp eA (C:=Value) (.slice none 0 0) (fun yA hA=>[(0,.raw (.int .i64 a0)),(5,.raw hA),(6,.raw (.int .i64 yA.2))]) (fun yA hA=>(.own K12 hA 5 yA.1)::L) rfl rfl fun yA hA nA xA cA=>?_
  obtain⟨pA,qA⟩:=yA
  dsimp only at xA⊢
  refine sq<|sr<|mb rfl<|nt<|it xA rfl (fun xA=>?_) (fun xA=>?_)
  ·exact gs xA fun rA xA=>bs xA fun tA wA xA=>ct<|sq<|bk<|rg<|m_ rfl<|m_ rfl<|mb rfl<|ov (OpV.sh rfl rfl (of_decide_eq_true rA) rfl) rfl<|oC (by kernel_rfl) Tryz.underlying5 rfl<|bF (ys:=[IntKind.wrap .u8 (shrI .i64 a0 (IntKind.wrap .i64 (8*qA)))]) Tryz.underlying22 ET5 (BldA.cons rfl rfl rdI (BldA.nil _)) rfl rfl<|ap wA Tryz.underlying22 AT5 rfl rfl rdV rfl fun gA=>a_ rfl<|nl<|bN<|tn<|rg<|mb rfl<|a_ rfl<|nl<|nx gA xA rfl rfl
  ·refine xt<|te ?_
   cases ai xA cA
   exact te<|bh<|tn<|wr (dA _ _ (osi bA).symm) rfl
noncomputable def fv (a0:List Int):Option (List Int):=
 (((Loop.run (S:=(Int×Int×Int)) (R:=(Int×Int)) (fun(xA,zA,yA)=>
   bif decide (yA<(a0.length:Int)) then
    (idx a0 yA).bind fun hA=>
    some (.next (Int.tmod (IntKind.wrap .i64 (xA+(IntKind.wrap .i64 hA))) 65521,Int.tmod (IntKind.wrap .i64 (zA+(Int.tmod (IntKind.wrap .i64 (xA+(IntKind.wrap .i64 hA))) 65521))) 65521,IntKind.wrap .i64 (yA+1)))
   else
    some (.done (xA,zA))) (1,0,0)).bind fun bA=>match bA with
  |(vA,oA)=>
   some (vA,oA)
  :Option (Int×Int))).bind fun kA=>match kA with
  |(dA,eA)=>
   (gd (IntKind.wrap .i64 ((IntKind.wrap .i64 (eA*65536))+dA)) 4).bind fun cA=>
   some cA
theorem o160 {a0:List Int} {r0:(List Int)} (hF:fv a0=some r0) (L:List Res):OkX Tryz.prog 87 [SV.val K9 a0] L (fun y:Value=>SV.raw y) (fun y:Value=>(.own K12 y 5 r0)::L):=by
 unfold fv at hF
 refine OkX.intro 29 [(0,.val K9 a0)] Tryz.func87 rfl rfl rfl rfl fun F0=>?_
 refine bs hF fun kA zA hF=>sr<|a_ rfl<|ns<|a_ rfl<|a_ rfl<|nt<|sq<|Under.after (fun X=>∀(hA:Int) (bA:Int),kA=(hA,bA)→Under F0 29 [(3,.raw (.int .i64 hA)),(4,.raw (.int .i64 bA))] (L) X) ?_ ?_
 ·intro hA bA vA
  replace vA:=vA.symm
  subst vA
  refine bs hF fun gA dA hF=>sr<|mb rfl<|mb rfl<|Under.callX Tryz.call86 rfl rfl (o159 dA _) rfl ?_
  rintro eA
  refine a_ rfl<|nt<|rc ?_
  cases osi hF
  exact Under.retsX eA Tryz.results87 (.tm rfl .nil) rfl rfl
 ·intro K cA
  refine bs zA fun mA qA zA=>sr<|a_ rfl<|nt<|bk<|lp qA () (fun yA oA=>[(0,.val K9 a0),(3,.raw (.int .i64 yA.1)),(4,.raw (.int .i64 yA.2.1)),(5,.raw (.int .i64 yA.2.2))]) (fun yA oA=>L) rfl rfl fun yA oA nA xA rA=>?_
  obtain⟨pA,tA,uA⟩:=yA
  dsimp only at xA⊢
  refine sq<|sr<|m_ rfl<|m_ rfl<|oN Tryz.underlying22 rfl<|b_ rfl<|nt<|it xA rfl (fun xA=>?_) (fun xA=>?_)
  ·exact bs xA fun xB wA xA=>ct<|sq<|bk<|sr<|m_ rfl<|m_ rfl<|m_ rfl<|oS wA Tryz.underlying22 sz5 rfl<|oI kt5 rfl<|oC (by kernel_rfl) Tryz.underlying3 rfl<|b_ rfl<|ov (OpV.quo rfl rfl (by decide) rfl) rfl<|a_ rfl<|nt<|rg<|m_ rfl<|mb rfl<|ov (OpV.quo rfl rfl (by decide) rfl) rfl<|a_ rfl<|nl<|bN<|tn<|rg<|mb rfl<|a_ rfl<|nl<|nx () xA rfl rfl
  ·refine xt<|te ?_
   cases ai xA rA
   exact te<|bh<|tn<|wr (cA _ _ (osi zA).symm) rfl
noncomputable def fw (a0:ao):Option ((List Int)×Int):=
 bif (((((decide (a0.Header.Left<0))||(decide (a0.Header.Left>8)))||(decide (a0.Header.Round<0)))||(decide (a0.Header.Round≥4611686018427387904)))||(decide (a0.Header.Epoch<0)))||(decide (a0.Header.Epoch>4611686018427387904)) then
  some ([],62)
 else
  bif decide ((a0.Cells.length:Int)>256) then
   some ([],63)
  else
   (cn (a0.Cells.length:Int) 2).bind fun wA=>
   (app [67,72,82,78,1,IntKind.wrap .u8 a0.Header.Left] wA).bind fun gA=>
   (cn a0.Header.Round 8).bind fun mA=>
   (app gA mA).bind fun nA=>
   (cn a0.Header.Epoch 8).bind fun pA=>
   (app nA pA).bind fun tA=>
   (((Loop.run (S := ((List Int) × Int)) (R := ((List Int) ⊕ ((List Int) × Int))) (fun (yA, xA) =>
     bif decide (xA<(a0.Cells.length:Int)) then
      (idx a0.Cells xA).bind fun hA=>
      bif (hA.length:Int) != 320 then
       some (.done (.inr ([],64)))
      else
       (cn 320 2).bind fun bA=>
       (app yA bA).bind fun vA=>
       (idx a0.Cells xA).bind fun oA=>
       (app vA oA).bind fun kA=>
       some (.next (kA,IntKind.wrap .i64 (xA+1)))
     else
      some (.done (.inl yA))) (tA,0)).bind fun dA=>match dA with
    | .inl eA=>
     some (.inr eA)
    | .inr z=>
     some (.inl z)
    : Option (((List Int) × Int) ⊕ (List Int)))).bind fun cA => match cA with
    | .inl z=>
     some z
    | .inr zA=>
     (fv zA).bind fun qA=>
     (app zA qA).bind fun rA=>
     some (rA,0)
theorem o161 {a0:ao} {r0:((List Int)×Int)} (hF:fw a0=some r0) (L:List Res):Ok Tryz.prog 31 [SV.val aV a0] L (SV.tup [SV.val K9 r0.1,SV.raw (.int .i64 r0.2)]) L:=by
 unfold fw at hF
 refine okI 91 Tryz.func31 rfl rfl rfl fun F0=>?_
 refine sr<|bX (K:=aV) rfl rdV rfl<|a_ rfl<|a_ rfl<|ns<|oF fb46k rfl<|oL kt43 rfl<|al ZT43 rfl fun b1=>sP (x':=a0.Header) .box .id sz43k rfl rfl rdV rfl<|nl<|fz (t:=4) rfl<|tn<|sq<|sr<|oF fb43k rfl<|oI kt3 rfl<|b_ rfl<|m_ rfl<|bt 17 ((decide (a0.Header.Left<0))||(decide (a0.Header.Left>8))) ?_ (fun k=>?_)
 ·refine m_ rfl<|bt 22 (((decide (a0.Header.Left<0))||(decide (a0.Header.Left>8)))||(decide (a0.Header.Round<0))) ?_ (fun k=>?_)
  ·refine m_ rfl<|bt 27 ((((decide (a0.Header.Left<0))||(decide (a0.Header.Left>8)))||(decide (a0.Header.Round<0)))||(decide (a0.Header.Round≥4611686018427387904))) ?_ (fun k=>?_)
   ·refine m_ rfl<|bt 32 (((((decide (a0.Header.Left<0))||(decide (a0.Header.Left>8)))||(decide (a0.Header.Round<0)))||(decide (a0.Header.Round≥4611686018427387904)))||(decide (a0.Header.Epoch<0))) ?_ (fun k=>?_)
    ·refine m_ rfl<|bt 37 ((((((decide (a0.Header.Left<0))||(decide (a0.Header.Left>8)))||(decide (a0.Header.Round<0)))||(decide (a0.Header.Round≥4611686018427387904)))||(decide (a0.Header.Epoch<0)))||(decide (a0.Header.Epoch>4611686018427387904))) ?_ (fun k=>?_)
     ·refine nt<|it hF rfl (fun hF=>?_) (fun hF=>?_)
      ·refine sr<|a_ rfl<|a_ rfl<|nt<|rt<|tV (K:=kSl K12) (x:=[]) (t:=2) rfl rdN ?_
       cases osi hF
       exact rs Tryz.results31 (.tm rfl (.tm rfl .nil)) rfl rfl
      ·refine ct<|sq<|sr<|oF fb46k1 rfl<|oL kt44 rfl<|oN Tryz.underlying44 rfl<|b_ rfl<|nt<|it hF rfl (fun hF=>?_) (fun hF=>?_)
       ·refine sr<|a_ rfl<|a_ rfl<|nt<|rt<|tV (K:=kSl K12) (x:=[]) (t:=2) rfl rdN ?_
        cases osi hF
        exact rs Tryz.results31 (.tm rfl (.tm rfl .nil)) rfl rfl
       ·refine bs hF fun zC yB hF=>bs hF fun hC zB hF=>bs hF fun bC hB hF=>bs hF fun vC bB hF=>bs hF fun kC vB hF=>bs hF fun dC oB hF=>bs hF fun cA bA hF=>ct<|sr<|oF fb43k rfl<|oI kt3 rfl<|oC (by kernel_rfl) Tryz.underlying5 rfl<|bO (ys:=[67,72,82,78,1,IntKind.wrap .u8 a0.Header.Left]) Tryz.underlying22 ET5 (BldA.cons rfl rfl rdI (BldA.cons rfl rfl rdI (BldA.cons rfl rfl rdI (BldA.cons rfl rfl rdI (BldA.cons rfl rfl rdI (BldA.cons rfl rfl rdI (BldA.nil _))))))) rfl rfl fun eC=>a_ rfl<|ns<|m_ rfl<|oF fb46k1 rfl<|oL kt44 rfl<|oN Tryz.underlying44 rfl<|cx Tryz.call86 rfl (o124 yB _)<|ap zB Tryz.underlying22 AT5 rfl rfl rdV rfl fun cC=>a_ rfl<|ns<|m_ rfl<|oF fb43k1 rfl<|oI kt2 rfl<|cx Tryz.call86 rfl (o124 hB _)<|ap bB Tryz.underlying22 AT5 rfl rfl rdV rfl fun qC=>a_ rfl<|ns<|m_ rfl<|oF fb43k2 rfl<|oI kt2 rfl<|cx Tryz.call86 rfl (o124 vB _)<|ap oB Tryz.underlying22 AT5 rfl rfl rdV rfl fun kB=>a_ rfl<|nt<|sq<|Under.after (fun X=>∀(oA:List Int) (kA:Value),cA=(.inr oA)→Under F0 91 [(5,.raw kA)] ((.own K12 kA 5 oA)::L) X) ?_ ?_
        ·intro oA kA dA
         replace dA:=dA.symm
         subst dA
         refine bs hF fun dB qA hF=>sr<|m_ rfl<|Under.callX Tryz.call87 rfl rfl (OkX.lend (fun L=>o160 qA L) ⟨.inr ⟨rfl,rfl⟩,trivial⟩ (fun _=>SvF.raw) (fun _ _ _ _ h=>pj Free.int h)) rfl ?_
         rintro eB
         refine bs hF fun cB rA hF=>f1<|fzO (t:=87) rfl<|a_ rfl<|ns<|m_ rfl<|m_ rfl<|ap rA Tryz.underlying22 AT5 rfl rfl rdV rfl fun qB=>a_ rfl<|a_ rfl<|nl<|fzO (t:=2) rfl<|tn<|rc ?_
         cases osi hF
         exact rs Tryz.results31 (.tm rfl (.tm rfl .nil)) rfl rfl
        ·intro K wA
         refine bs bA fun rB gA bA=>sr<|a_ rfl<|nt<|bk<|lp gA (C:=Value) kB (fun yA vA=>[(1,.ptr aV a0),(5,.raw vA),(6,.raw (.int .i64 yA.2))]) (fun yA vA=>(.own K12 vA 5 yA.1)::L) rfl rfl fun yA vA wB xA eA=>?_
         obtain⟨gB,mB⟩:=yA
         dsimp only at xA⊢
         refine sq<|sr<|m_ rfl<|oF fb46k1 rfl<|oL kt44 rfl<|oN Tryz.underlying44 rfl<|b_ rfl<|nt<|it xA rfl (fun xA=>?_) (fun xA=>?_)
         ·refine bs xA fun nB mA xA=>ct<|sq<|bk<|sq<|sr<|oF fb46k1 rfl<|oL kt44 rfl<|m_ rfl<|oS mA Tryz.underlying44 sz22 rfl<|oL kt22 rfl<|oN Tryz.underlying22 rfl<|b_ rfl<|nt<|it xA rfl (fun xA=>?_) (fun xA=>?_)
          ·refine dr<|sr<|a_ rfl<|a_ rfl<|nt<|rt<|Under.bR<|tr ?_
           cases ai xA eA
           refine tr<|Under.bR<|tr ?_
           cases osi bA
           refine tV (K:=kSl K12) (x:=[]) (t:=2) rfl rdN ?_
           cases osi hF
           exact rs Tryz.results31 (.tm rfl (.tm rfl .nil)) rfl rfl
          ·exact bs xA fun pB nA xA=>bs xA fun tB pA xA=>bs xA fun uB tA xA=>bs xA fun xC uA xA=>ct<|sr<|m_ rfl<|cx Tryz.call86 rfl (o124 nA _)<|ap pA Tryz.underlying22 AT5 rfl rfl rdV rfl fun yC=>a_ rfl<|nt<|rg<|m_ rfl<|oF fb46k1 rfl<|oL kt44 rfl<|m_ rfl<|oS tA Tryz.underlying44 sz22 rfl<|oL kt22 rfl<|ap uA Tryz.underlying22 AT5 rfl rfl rdV rfl fun xB=>a_ rfl<|nl<|bN<|tn<|rg<|mb rfl<|a_ rfl<|nl<|nx xB xA rfl rfl
         ·refine xt<|te ?_
          cases ai xA eA
          exact te<|bh<|tn<|wr (wA _ _ (osi bA).symm) rfl
     ·refine by_ (t:=33) rfl (fun zA=>?_) (fun zA=>?_)
      ·exact sk_ zA rfl<|sk_ zA rfl<|sk_ zA rfl<|pT zA rfl<|rf 3 (or_t (e:=decide (a0.Header.Epoch>4611686018427387904)) zA) rfl k
      ·exact gc_ zA rfl<|oF fb43k2 rfl<|gc_ zA rfl<|oI kt2 rfl<|gc_ zA rfl<|b_ rfl<|pF zA rfl<|rf 3 (or_f zA) rfl k
    ·refine by_ (t:=28) rfl (fun hA=>?_) (fun hA=>?_)
     ·exact sk_ hA rfl<|sk_ hA rfl<|sk_ hA rfl<|pT hA rfl<|rf 3 (or_t (e:=decide (a0.Header.Epoch<0)) hA) rfl k
     ·exact gc_ hA rfl<|oF fb43k2 rfl<|gc_ hA rfl<|oI kt2 rfl<|gc_ hA rfl<|b_ rfl<|pF hA rfl<|rf 3 (or_f hA) rfl k
   ·refine by_ (t:=23) rfl (fun c8=>?_) (fun c8=>?_)
    ·exact sk_ c8 rfl<|sk_ c8 rfl<|sk_ c8 rfl<|pT c8 rfl<|rf 3 (or_t (e:=decide (a0.Header.Round≥4611686018427387904)) c8) rfl k
    ·exact gc_ c8 rfl<|oF fb43k1 rfl<|gc_ c8 rfl<|oI kt2 rfl<|gc_ c8 rfl<|b_ rfl<|pF c8 rfl<|rf 3 (or_f c8) rfl k
  ·refine by_ (t:=18) rfl (fun c5=>?_) (fun c5=>?_)
   ·exact sk_ c5 rfl<|sk_ c5 rfl<|sk_ c5 rfl<|pT c5 rfl<|rf 3 (or_t (e:=decide (a0.Header.Round<0)) c5) rfl k
   ·exact gc_ c5 rfl<|oF fb43k1 rfl<|gc_ c5 rfl<|oI kt2 rfl<|gc_ c5 rfl<|b_ rfl<|pF c5 rfl<|rf 3 (or_f c5) rfl k
 ·refine by_ (t:=13) rfl (fun c2=>?_) (fun c2=>?_)
  ·exact sk_ c2 rfl<|sk_ c2 rfl<|sk_ c2 rfl<|pT c2 rfl<|rf 3 (or_t (e:=decide (a0.Header.Left>8)) c2) rfl k
  ·exact gc_ c2 rfl<|oF fb43k rfl<|gc_ c2 rfl<|oI kt3 rfl<|gc_ c2 rfl<|b_ rfl<|pF c2 rfl<|rf 3 (or_f c2) rfl k
noncomputable def eK (a0:aB) (a1:aK) (a2:List Int):Option ((List Int)×Int×Int):=
 (dM a0).bind fun y1=>
 bif !y1 then
  some ([],0,210)
 else
  (eZ a1).bind fun y4=>
  bif (y4 != 0)||(a1.Header.Left != (IntKind.wrap .i64 (a0.Left - 1))) then
   some ([],0,290)
  else
   (fj a2).bind fun bA=>
   bif bA.2.2 != 0 then
    some ([],bA.2.1,bA.2.2)
   else
    bif bA.1.Header.Left != a1.Header.Left then
     some ([],0,212)
    else
     bif bA.1.Header.Round != a1.Header.Round then
      some ([],0,211)
     else
      bif bA.1.Header.Epoch != a1.Header.Epoch then
       some ([],0,161)
      else
       bif (bA.1.Cells.length:Int) != (a1.From.length:Int) then
        some ([],0,63)
       else
        (fM a0.Master a1.Header.Epoch).bind fun bB=>
        bif bB.2 != 0 then
         some ([],0,bB.2)
        else
         (((Loop.run (S := (Int × (List (List Int)))) (R := (ao ⊕ ((List Int) × Int × Int))) (fun (yA, vA) =>
           bif decide (yA<a1.Count) then
            ((bif mkB 320 320 then
            (((Loop.run (S := ((List Int) × Int)) (R := ((List Int) ⊕ ((List Int) × Int × Int))) (fun (xA, zA) =>
              bif decide (zA<(a1.From.length:Int)) then
               (((idx a1.From zA).bind fun dA=>
               bif dA != yA then
                some (.inr xA)
               else
                (idx bA.1.Cells zA).bind fun eA=>
                (ey a0.Left eA).bind fun oA=>
                bif !oA.2 then
                 some (.inr xA)
                else
                 (idx a1.Nonces yA).bind fun cA=>
                 (fu bB.1 cA a0.Left oA.1).bind fun hA=>
                 bif hA.2 != 0 then
                  some (.inl ([],0,hA.2))
                 else
                  some (.inr (over xA 0 (List.length xA) hA.1))
                : Option (((List Int) × Int × Int) ⊕ (List Int)))).bind fun qA => match qA with
                | .inl z=>
                 some (.done (.inr z))
                | .inr rA=>
                 some (.next (rA,IntKind.wrap .i64 (zA+1)))
              else
               some (.done (.inl xA))) (List.replicate (Int.toNat 320) (0:Int),0)).bind fun wA=>match wA with
             | .inl gA=>
              some (.inr gA)
             | .inr z=>
              some (.inl z)
             : Option (((List Int) × Int × Int) ⊕ (List Int)))).bind fun mA => match mA with
             | .inl z=>
              some (.inl z)
             | .inr nA=>
              (app vA [nA]).bind fun pA=>
              some (.inr pA)
            else none
             : Option (((List Int) × Int × Int) ⊕ (List (List Int))))).bind fun tA => match tA with
             | .inl z=>
              some (.done (.inr z))
             | .inr uA=>
              some (.next (IntKind.wrap .i64 (yA+1),uA))
           else
            some (.done (.inl (⟨(⟨a1.Header.Round,a1.Header.Epoch,a0.Left⟩:ab),vA⟩:ao)))) (0,[])).bind fun xB=>match xB with
          | .inl yB=>
           some (.inr yB)
          | .inr z=>
           some (.inl z)
          : Option (((List Int) × Int × Int) ⊕ ao))).bind fun zB => match zB with
          | .inl z=>
           some z
          | .inr hB=>
           (fw hB).bind fun kA=>
           some (kA.1,0,kA.2)
theorem o162 {a0:aB} {a1:aK} {a2:List Int} {r0:((List Int)×Int×Int)} (hF:eK a0 a1 a2=some r0) (L:List Res):Ok Tryz.prog 46 [SV.val aJ a0,SV.val aI a1,SV.val K9 a2] L (SV.tup [SV.val K9 r0.1,SV.raw (.int .i64 r0.2.1),SV.raw (.int .i64 r0.2.2)]) L:=by
 unfold eK at hF
 refine okI 163 Tryz.func46 rfl rfl rfl fun F0=>?_
 refine bs hF fun y1 h2 hF=>sr<|bX (K:=aJ) rfl rdV rfl<|bX (K:=aI) rfl rdV rfl<|a_ rfl<|a_ rfl<|a_ rfl<|nt<|sq<|sr<|oL kt24 rfl<|cx Tryz.call93 rfl (o119 h2 _)<|ov (OpV.not rfl) rfl<|nt<|it hF rfl (fun hF=>?_) (fun hF=>?_)
 ·refine sr<|a_ rfl<|a_ rfl<|a_ rfl<|nt<|rt<|tV (K:=kSl K12) (x:=[]) (t:=6) rfl rdN ?_
  cases osi hF
  exact rs Tryz.results46 (.tm rfl (.tm rfl (.tm rfl .nil))) rfl rfl
 ·refine bs hF fun y4 h5 hF=>ct<|sq<|sr<|oL kt87 rfl<|cx Tryz.call44 rfl (o120 h5 _)<|b_ rfl<|m_ rfl<|yk 36 ((y4 != 0)||(a1.Header.Left != (IntKind.wrap .i64 (a0.Left - 1)))) ?_ (fun k=>?_)
  ·refine nt<|it hF rfl (fun hF=>?_) (fun hF=>?_)
   ·refine sr<|a_ rfl<|a_ rfl<|a_ rfl<|nt<|rt<|tV (K:=kSl K12) (x:=[]) (t:=6) rfl rdN ?_
    cases osi hF
    exact rs Tryz.results46 (.tm rfl (.tm rfl (.tm rfl .nil))) rfl rfl
   ·refine bs hF fun oB xD hF=>ct<|sr<|m_ rfl<|cx Tryz.call55 rfl (o128 xD _)<|m_ rfl<|oE rfl<|oE rfl<|oE rfl<|al ZT46 rfl fun zD=>sP (x':=oB.1) .box .id sz46k rfl rfl rdV rfl<|a_ rfl<|a_ rfl<|nl<|fz (t:=9) rfl<|tn<|sq<|sr<|mb rfl<|nt<|it hF rfl (fun hF=>?_) (fun hF=>?_)
    ·refine sr<|m_ rfl<|m_ rfl<|a_ rfl<|a_ rfl<|a_ rfl<|nt<|rt<|tV (K:=kSl K12) (x:=[]) (t:=6) rfl rdN ?_
     cases osi hF
     exact rs Tryz.results46 (.tm rfl (.tm rfl (.tm rfl .nil))) rfl rfl
    ·refine ct<|sq<|sr<|oF fb46k rfl<|oF fb43k rfl<|oI kt3 rfl<|oF fb87k1 rfl<|oF fb43k rfl<|oI kt3 rfl<|b_ rfl<|nt<|it hF rfl (fun hF=>?_) (fun hF=>?_)
     ·refine sr<|a_ rfl<|a_ rfl<|a_ rfl<|nt<|rt<|tV (K:=kSl K12) (x:=[]) (t:=6) rfl rdN ?_
      cases osi hF
      exact rs Tryz.results46 (.tm rfl (.tm rfl (.tm rfl .nil))) rfl rfl
     ·refine ct<|sq<|sr<|oF fb46k rfl<|oF fb43k1 rfl<|oI kt2 rfl<|oF fb87k1 rfl<|oF fb43k1 rfl<|oI kt2 rfl<|b_ rfl<|nt<|it hF rfl (fun hF=>?_) (fun hF=>?_)
      ·refine sr<|a_ rfl<|a_ rfl<|a_ rfl<|nt<|rt<|tV (K:=kSl K12) (x:=[]) (t:=6) rfl rdN ?_
       cases osi hF
       exact rs Tryz.results46 (.tm rfl (.tm rfl (.tm rfl .nil))) rfl rfl
      ·refine ct<|sq<|sr<|oF fb46k rfl<|oF fb43k2 rfl<|oI kt2 rfl<|oF fb87k1 rfl<|oF fb43k2 rfl<|oI kt2 rfl<|b_ rfl<|nt<|it hF rfl (fun hF=>?_) (fun hF=>?_)
       ·refine sr<|a_ rfl<|a_ rfl<|a_ rfl<|nt<|rt<|tV (K:=kSl K12) (x:=[]) (t:=6) rfl rdN ?_
        cases osi hF
        exact rs Tryz.results46 (.tm rfl (.tm rfl (.tm rfl .nil))) rfl rfl
       ·refine ct<|sq<|sr<|oF fb46k1 rfl<|oL kt44 rfl<|oN Tryz.underlying44 rfl<|oF fb87k2 rfl<|oL kt68 rfl<|oN Tryz.underlying68 rfl<|b_ rfl<|nt<|it hF rfl (fun hF=>?_) (fun hF=>?_)
        ·refine sr<|a_ rfl<|a_ rfl<|a_ rfl<|nt<|rt<|tV (K:=kSl K12) (x:=[]) (t:=6) rfl rdN ?_
         cases osi hF
         exact rs Tryz.results46 (.tm rfl (.tm rfl (.tm rfl .nil))) rfl rfl
        ·refine bs hF fun kB yD hF=>ct<|sr<|oF fb24k rfl<|oL kt22 rfl<|oF fb87k1 rfl<|oF fb43k2 rfl<|oI kt2 rfl<|cx Tryz.call33 rfl (o139 yD _)<|m_ rfl<|oE rfl<|oE rfl<|a_ rfl<|a_ rfl<|nt<|sq<|sr<|mb rfl<|nt<|it hF rfl (fun hF=>?_) (fun hF=>?_)
         ·refine sr<|m_ rfl<|a_ rfl<|a_ rfl<|a_ rfl<|nt<|rt<|tV (K:=kSl K12) (x:=[]) (t:=6) rfl rdN ?_
          cases osi hF
          exact rs Tryz.results46 (.tm rfl (.tm rfl (.tm rfl .nil))) rfl rfl
         ·refine bs hF fun dB kA hF=>ct<|sr<|oF fb87k1 rfl<|oF fb43k1 rfl<|oI kt2 rfl<|oF fb87k1 rfl<|oF fb43k2 rfl<|oI kt2 rfl<|oF fb24k1 rfl<|oI kt3 rfl<|ov (OpV.bst BT43 (Bld.cons (x':=(⟨a1.Header.Round,(0:Int),(0:Int)⟩:ab)) rfl rfl rdI (by intro q hq;simp only[List.mem_cons,List.not_mem_nil,or_false] at hq;rcases hq with rfl|rfl<;>rfl) (Bld.cons (x':=(⟨a1.Header.Round,a1.Header.Epoch,(0:Int)⟩:ab)) rfl rfl rdI ⟨rfl,(by intro q hq;simp only[List.mem_cons,List.not_mem_nil,or_false] at hq;rcases hq with rfl<;>rfl)⟩ (Bld.cons (x':=(⟨a1.Header.Round,a1.Header.Epoch,a0.Left⟩:ab)) rfl rfl rdI ⟨rfl,⟨rfl,(fun q hq=>by simp at hq)⟩⟩ (Bld.nil _))))) rfl<|ov (OpV.bst kK (Bld.cons (x':=(⟨(⟨a1.Header.Round,a1.Header.Epoch,a0.Left⟩:ab),.slice none 0 0⟩:aY)) rfl rfl rdV (by intro q hq;simp only[List.mem_cons,List.not_mem_nil,or_false] at hq;rcases hq with rfl<;>rfl) (Bld.nil _))) rfl<|al ZT46k rfl fun zB=>sP (x':=(⟨(⟨a1.Header.Round,a1.Header.Epoch,a0.Left⟩:ab),.slice none 0 0⟩:aY)) .box .id sz46k1 rfl rfl rdV rfl<|nt<|sq<|Under.after (fun X=>∀(gA:ao),dB=(.inr gA)→Under F0 163 [(13,.ptr aV gA)] (L) X) ?_ ?_
          ·intro gA mA
           replace mA:=mA.symm
           subst mA
           refine bs hF fun dC eB hF=>sr<|oL kt46 rfl<|cx Tryz.call31 rfl (o161 eB _)<|m_ rfl<|oE rfl<|oE rfl<|a_ rfl<|a_ rfl<|ns<|m_ rfl<|m_ rfl<|a_ rfl<|a_ rfl<|a_ rfl<|nt<|rc ?_
           cases osi hF
           exact rs Tryz.results46 (.tm rfl (.tm rfl (.tm rfl .nil))) rfl rfl
          ·intro K cB
           refine bs kA fun eC qB kA=>sr<|a_ rfl<|nt<|bk<|Under.ownNil (K:=kSl K12) (e:=22)<|lp qB (C:=Value) (.slice none 0 0) (fun vA yA=>[(3,.ptr aJ a0),(4,.ptr aI a1),(9,.ptr aV oB.1),(12,.val K9 kB.1),(13,pb zB),(14,.raw (.int .i64 vA.1))]) (fun vA yA=>(.own K9 yA 22 vA.2)::(.box cc zB 46 (⟨(⟨a1.Header.Round,a1.Header.Epoch,a0.Left⟩:ab),yA⟩:aY))::L) rfl rfl fun vA yA cC zA hB=>?_
           obtain⟨dA,eA⟩:=vA
           dsimp only at zA⊢
           refine sq<|sr<|m_ rfl<|oF fb87k rfl<|oI kt3 rfl<|b_ rfl<|nt<|it zA rfl (fun zA=>?_) (fun zA=>?_)
           ·refine bs zA fun rB bA zA=>ct<|sq<|Under.after (fun X=>∀(nA:List (List Int)) (cA:Value),rB=(.inr nA)→Under F0 163 [(3,.ptr aJ a0),(4,.ptr aI a1),(9,.ptr aV oB.1),(12,.val K9 kB.1),(13,pb zB),(14,.raw (.int .i64 dA))] ((.own K9 cA 22 nA)::(.box cc zB 46 (⟨(⟨a1.Header.Round,a1.Header.Epoch,a0.Left⟩:ab),cA⟩:aY))::L) X) ?_ ?_
            ·intro nA cA pA
             replace pA:=pA.symm
             subst pA
             exact rg<|mb rfl<|a_ rfl<|nl<|nx cA zA rfl rfl
            ·intro K wB
             refine gs bA fun gB bA=>bs bA fun mB qA bA=>bk<|sr<|Under.mk gB Tryz.underlying22 AT5 rfl rfl rfl fun rA=>a_ rfl<|nt<|sq<|Under.after (fun X=>∀(wA:List Int),mB=(.inr wA)→Under F0 163 [(3,.ptr aJ a0),(4,.ptr aI a1),(9,.ptr aV oB.1),(12,.val K9 kB.1),(13,pb zB),(14,.raw (.int .i64 dA)),(15,.val K9 wA)] ((.own K9 yA 22 eA)::(.box cc zB 46 (⟨(⟨a1.Header.Round,a1.Header.Epoch,a0.Left⟩:ab),yA⟩:aY))::L) X) ?_ ?_
             ·intro wA tA
              replace tA:=tA.symm
              subst tA
              exact bs bA fun qC nB bA=>rg<|oM qR rfl<|f1<|lP .box (.fld .id fi) kt44k rfl rfl<|Under.rawR (t:=151) rfl<|m_ rfl<|bF (ys:=[wA]) Tryz.underlying44 ET22 (BldA.cons rfl rfl rdV (BldA.nil _)) rfl rfl<|f1<|ap nB Tryz.underlying44 AT22 rfl rfl rdV rfl fun pB=>oM qR rfl<|Under.ownCell fun tB=>f1<|sP (x':=(⟨(⟨a1.Header.Round,a1.Header.Epoch,a0.Left⟩:ab),pB⟩:aY)) .box (.fld .id fi) sz44k rfl rfl (fT tB) rfl<|nl<|bN<|tn<|f1<|wr (wB _ _ (osi bA).symm) rfl
             ·intro K uB
              refine bs qA fun rC xC qA=>sr<|a_ rfl<|nt<|bk<|lp xC () (fun oA bB=>[(3,.ptr aJ a0),(4,.ptr aI a1),(9,.ptr aV oB.1),(12,.val K9 kB.1),(13,pb zB),(14,.raw (.int .i64 dA)),(15,.raw rA),(16,.raw (.int .i64 oA.2))]) (fun oA bB=>(.own K12 rA 5 oA.1)::(.own K9 yA 22 eA)::(.box cc zB 46 (⟨(⟨a1.Header.Round,a1.Header.Epoch,a0.Left⟩:ab),yA⟩:aY))::L) rfl rfl fun oA bB wC hA vB=>?_
              obtain⟨gC,yC⟩:=oA
              dsimp only at hA⊢
              refine sq<|sr<|m_ rfl<|oF fb87k2 rfl<|oL kt68 rfl<|oN Tryz.underlying68 rfl<|b_ rfl<|nt<|it hA rfl (fun hA=>?_) (fun hA=>?_)
              ·refine bs hA fun zC xA hA=>ct<|sq<|Under.after (fun X=>∀(uA:List Int),zC=(.inr uA)→Under F0 163 [(3,.ptr aJ a0),(4,.ptr aI a1),(9,.ptr aV oB.1),(12,.val K9 kB.1),(13,pb zB),(14,.raw (.int .i64 dA)),(15,.raw rA),(16,.raw (.int .i64 yC))] ((.own K12 rA 5 uA)::(.own K9 yA 22 eA)::(.box cc zB 46 (⟨(⟨a1.Header.Round,a1.Header.Epoch,a0.Left⟩:ab),yA⟩:aY))::L) X) ?_ ?_
               ·intro uA xB
                replace xB:=xB.symm
                subst xB
                exact rg<|mb rfl<|a_ rfl<|nl<|nx () hA rfl rfl
               ·intro K yB
                refine bs xA fun mC hC xA=>bk<|sq<|sr<|oF fb87k2 rfl<|oL kt68 rfl<|m_ rfl<|oS hC Tryz.underlying68 sz3 rfl<|oI kt3 rfl<|mb rfl<|nt<|it xA rfl (fun xA=>?_) (fun xA=>?_)
                ·exact xt<|te<|bh<|tn<|wr (yB _ (osi xA).symm) rfl
                ·refine bs xA fun nC bC xA=>bs xA fun pC vC xA=>ct<|sq<|ph rfl<|gV [0,1,2,3,4,5,6] [[3],[119],[9],[121],[16],[122,123],[124]] 3 (by kernel_rfl) rfl<|vo (fun _=>OpV.fd fb24k1 rfl rfl) rfl<|vo (fun _=>OpV.ldI kt3 rfl) rfl<|vo (fun _=>OpV.fd fb46k1 rfl rfl) rfl<|vo (fun _=>OpV.ld kt44 rfl) rfl<|vm_ rfl<|vo (fun _=>OpV.ixS bC Tryz.underlying44 sz22 rfl rdV rfl) rfl<|vo (fun _=>OpV.ld kt22 rfl) rfl<|vn<|p1 7 rfl rfl<|cx Tryz.call94 rfl (o144 vC _)<|pn<|p1 8 rfl rfl<|m_ rfl<|pn<|gV [9,10,11] [[118],[118],[127]] 3 (by kernel_rfl) rfl<|vo (fun _=>OpV.extr rfl rfl) rfl<|vo (fun _=>OpV.extr rfl rfl) rfl<|Vq.v (fun G T hG=>a_ rfl<|Vq.end rfl)<|vn<|p1 12 rfl rfl<|a_ rfl<|pn<|pd rfl<|tn<|sq<|sr<|m_ rfl<|ov (OpV.not rfl) rfl<|nt<|it xA rfl (fun xA=>?_) (fun xA=>?_)
                 ·exact xt<|te<|bh<|tn<|wr (yB _ (osi xA).symm) rfl
                 ·refine bs xA fun tC oC xA=>bs xA fun uC kC xA=>ct<|sq<|ph rfl<|gV [0,1,2,3,4,5,6,7,8] [[12],[4],[133],[14],[134,135],[136],[3],[138],[17]] 3 (by kernel_rfl) rfl<|vm_ rfl<|vo (fun _=>OpV.fd fb87k3 rfl rfl) rfl<|vo (fun _=>OpV.ld kt85 rfl) rfl<|vm_ rfl<|vo (fun _=>OpV.ixS oC Tryz.underlying85 sz64 rfl rdV rfl) rfl<|vo (fun _=>OpV.ld kt64 rfl) rfl<|vo (fun _=>OpV.fd fb24k1 rfl rfl) rfl<|vo (fun _=>OpV.ldI kt3 rfl) rfl<|vm_ rfl<|vn<|p1 9 rfl rfl<|cx Tryz.call95 rfl (o158 kC _)<|pn<|p1 10 rfl rfl<|m_ rfl<|pn<|gV [11,12,13] [[131],[131],[142]] 3 (by kernel_rfl) rfl<|vo (fun _=>OpV.extr rfl rfl) rfl<|vo (fun _=>OpV.extr rfl rfl) rfl<|Vq.v (fun G T hG=>a_ rfl<|Vq.end rfl)<|vn<|p1 14 rfl rfl<|a_ rfl<|pn<|pd rfl<|tn<|sq<|sr<|mb rfl<|nt<|it xA rfl (fun xA=>?_) (fun xA=>?_)
                  ·refine f2<|dr<|dr<|dr<|sr<|m_ rfl<|a_ rfl<|a_ rfl<|a_ rfl<|nt<|rt<|Under.bR<|tr ?_
                   cases osi xA
                   cases ai hA vB
                   refine tr<|Under.bR<|tr ?_
                   cases osi qA
                   refine Under.bR<|tr ?_
                   cases osi bA
                   cases ai zA hB
                   refine tr<|Under.bR<|tr ?_
                   cases osi kA
                   refine tV (K:=kSl K12) (x:=[]) (t:=6) rfl rdN ?_
                   cases osi hF
                   exact rs Tryz.results46 (.tm rfl (.tm rfl (.tm rfl .nil))) rfl rfl
                  ·exact ct<|rg<|m_ rfl<|m_ rfl<|Under.cpW Tryz.underlying22 sz5k rfl rfl (.sl rdV) rfl<|nl<|bN<|tn<|wr (yB _ (osi xA).symm) rfl
              ·refine fzO (t:=15) rfl<|xt<|te ?_
               cases ai hA vB
               exact te<|bh<|tn<|wr (uB _ (osi qA).symm) rfl
           ·refine Under.frzBO (fs:=gn) (⟨(⟨a1.Header.Round,a1.Header.Epoch,a0.Left⟩:ab),eA⟩:ao) (fun F hv=>⟨fun _ h=>h,iB hv,trivial⟩)<|fz (t:=13) rfl<|xt<|te ?_
            cases ai zA hB
            exact te<|bh<|tn<|wr (cB _ (osi kA).symm) rfl
  ·refine by_ (t:=28) rfl (fun c6=>?_) (fun c6=>?_)
   ·exact sk_ c6 rfl<|sk_ c6 rfl<|sk_ c6 rfl<|sk_ c6 rfl<|sk_ c6 rfl<|sk_ c6 rfl<|sk_ c6 rfl<|pT c6 rfl<|rf 7 (or_t (e:=a1.Header.Left != (IntKind.wrap .i64 (a0.Left - 1))) c6) rfl k
   ·exact gc_ c6 rfl<|oF fb87k1 rfl<|gc_ c6 rfl<|oF fb43k rfl<|gc_ c6 rfl<|oI kt3 rfl<|gc_ c6 rfl<|oF fb24k1 rfl<|gc_ c6 rfl<|oI kt3 rfl<|gc_ c6 rfl<|b_ rfl<|gc_ c6 rfl<|b_ rfl<|pF c6 rfl<|rf 7 (or_f c6) rfl k
noncomputable def cV (a0:cg):Option Bool:=
 (eY).bind fun y1=>
 bif !y1 then
  some false
 else
  (eK a0.C a0.M a0.Raw).bind fun y4=>
  (gh a0.C a0.M a0.Raw).bind fun y6=>
  some ((((strB y6.1)==(strB y4.1))&&(y6.2.1==y4.2.1))&&(y6.2.2==y4.2.2))
theorem o163 {a0:cg} {r0:Bool} (hF:cV a0=some r0) (L:List Res):Ok Tryz.prog 11 [SV.val eS a0] L (SV.raw (.bool r0)) L:=by
 unfold cV at hF
 refine okI 48 Tryz.func11 rfl rfl rfl fun F0=>?_
 refine bs hF fun y1 h2 hF=>sr<|bX (K:=eS) rfl rdV rfl<|a_ rfl<|nt<|sq<|sr<|cx Tryz.call40 rfl (o117 h2 _)<|ov (OpV.not rfl) rfl<|nt<|it hF rfl (fun hF=>?_) (fun hF=>?_)
 ·refine sr<|a_ rfl<|nt<|rt ?_
  cases osi hF
  exact rs Tryz.results11 (.tm rfl .nil) rfl rfl
 ·refine bs hF fun y4 h5 hF=>bs hF fun y6 h7 hF=>ct<|sr<|oF fb96k rfl<|oL kt24 rfl<|oF fb96k1 rfl<|oL kt87 rfl<|oF fb96k2 rfl<|oL kt22 rfl<|cx Tryz.call46 rfl (o162 h5 _)<|m_ rfl<|oE rfl<|oE rfl<|oE rfl<|a_ rfl<|a_ rfl<|a_ rfl<|ns<|oF fb96k rfl<|oL kt24 rfl<|oF fb96k1 rfl<|oL kt87 rfl<|oF fb96k2 rfl<|oL kt22 rfl<|cx Tryz.call47 rfl (o116 h7 _)<|m_ rfl<|oE rfl<|oE rfl<|oE rfl<|a_ rfl<|a_ rfl<|a_ rfl<|ns<|m_ rfl<|ov (OpV.b2s Tryz.underlying22 Tryz.underlying5 Tryz.underlying9 rfl rdV) rfl<|m_ rfl<|ov (OpV.b2s Tryz.underlying22 Tryz.underlying5 Tryz.underlying9 rfl rdV) rfl<|ov (OpV.eqS Tryz.underlying9 rfl rdV rfl rdV (.inl rfl)) rfl<|m_ rfl<|bt 42 (((strB y6.1)==(strB y4.1))&&(y6.2.1==y4.2.1)) ?_ (fun k=>?_)
  ·refine m_ rfl<|bt 47 ((((strB y6.1)==(strB y4.1))&&(y6.2.1==y4.2.1))&&(y6.2.2==y4.2.2)) ?_ (fun k=>?_)
   ·refine a_ rfl<|nt<|rc ?_
    cases osi hF
    exact rs Tryz.results11 (.tm rfl .nil) rfl rfl
   ·refine by_ (t:=43) rfl (fun xA=>?_) (fun xA=>?_)
    ·exact gc_ xA rfl<|m_ rfl<|gc_ xA rfl<|m_ rfl<|gc_ xA rfl<|b_ rfl<|pT xA rfl<|rf 3 (iV xA) rfl k
    ·exact sk_ xA rfl<|sk_ xA rfl<|sk_ xA rfl<|pF xA rfl<|rf 3 (iW (e:=y6.2.2==y4.2.2) xA) rfl k
  ·refine by_ (t:=38) rfl (fun c8=>?_) (fun c8=>?_)
   ·exact gc_ c8 rfl<|m_ rfl<|gc_ c8 rfl<|m_ rfl<|gc_ c8 rfl<|b_ rfl<|pT c8 rfl<|rf 3 (iV c8) rfl k
   ·exact sk_ c8 rfl<|sk_ c8 rfl<|sk_ c8 rfl<|pF c8 rfl<|rf 3 (iW (e:=y6.2.1==y4.2.1) c8) rfl k
end Go.Proofs.YtobbmodjdkcdcaaGreatDoor

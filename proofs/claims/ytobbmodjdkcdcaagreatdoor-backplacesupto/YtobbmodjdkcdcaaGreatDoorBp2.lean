import Derived.Test.YtobbmodjdkcdcaaGreatDoorBp1
set_option linter.unusedVariables false
set_option linter.unusedSimpArgs false
set_option maxRecDepth 20000
namespace Go.Proofs.YtobbmodjdkcdcaaGreatDoor
open Go Go.Sim Go.ChangeShapes Go.WideShapes Go.ChangeAt Go.RowKit
set_option linter.unusedSectionVars false
variable [Fu]
noncomputable def dN (a0:List Int) (a1:List Int):Option (List Int):=
 (((Loop.run (S:=(Int×(List Int))) (R:=(List Int)) (fun(yA,eA)=>
   bif decide (yA<16) then
    (idx a1 (IntKind.wrap .i64 (4*yA))).bind fun zB=>
    (idx a1 (IntKind.wrap .i64 ((IntKind.wrap .i64 (4*yA))+1))).bind fun hB=>
    (idx a1 (IntKind.wrap .i64 ((IntKind.wrap .i64 (4*yA))+2))).bind fun bB=>
    (idx a1 (IntKind.wrap .i64 ((IntKind.wrap .i64 (4*yA))+3))).bind fun vB=>
    (idx eA yA).bind fun vC=>
    some (.next (IntKind.wrap .i64 (yA+1),List.set eA (Int.toNat yA) (orI .u32 (orI .u32 (orI .u32 (shlI .u32 (IntKind.wrap .u32 zB) 24) (shlI .u32 (IntKind.wrap .u32 hB) 16)) (shlI .u32 (IntKind.wrap .u32 bB) 8)) (IntKind.wrap .u32 vB))))
   else
    some (.done eA)) (0,(List.replicate 64 (0:Int)))).bind fun oB=>
 some oB
  :Option (List Int))).bind fun oC=>
 (((Loop.run (S:=(Int×(List Int))) (R:=(List Int)) (fun(zA,bA)=>
   bif decide (zA<64) then
    (idx bA (IntKind.wrap .i64 (zA - 15))).bind fun cA=>
    (idx bA (IntKind.wrap .i64 (zA - 2))).bind fun qA=>
    (aY cA (-7)).bind fun kB=>
    (aY cA (-18)).bind fun dB=>
    (aY qA (-17)).bind fun eB=>
    (aY qA (-19)).bind fun cB=>
    (idx bA (IntKind.wrap .i64 (zA - 7))).bind fun qB=>
    (idx bA (IntKind.wrap .i64 (zA - 16))).bind fun rB=>
    (idx bA zA).bind fun kC=>
    some (.next (IntKind.wrap .i64 (zA+1),List.set bA (Int.toNat zA) (IntKind.wrap .u32 ((IntKind.wrap .u32 ((IntKind.wrap .u32 ((xorI .u32 (xorI .u32 eB cB) (shrI .u32 qA 10))+qB))+(xorI .u32 (xorI .u32 kB dB) (shrI .u32 cA 3))))+rB))))
   else
    some (.done bA)) (16,oC)).bind fun wB=>
 some wB
  :Option (List Int))).bind fun gB=>
 (((Loop.run (S:=(Int×(List Int))) (R:=(List Int)) (fun(kA,xA)=>
   bif decide (kA<64) then
    (idx xA 0).bind fun vA=>
    (idx xA 1).bind fun rA=>
    (idx xA 2).bind fun wA=>
    (idx xA 4).bind fun hA=>
    (idx xA 5).bind fun gA=>
    (idx xA 6).bind fun mA=>
    (aY hA (-6)).bind fun nA=>
    (aY hA (-11)).bind fun pA=>
    (aY hA (-25)).bind fun tA=>
    (aY vA (-2)).bind fun mB=>
    (aY vA (-13)).bind fun nB=>
    (aY vA (-22)).bind fun pB=>
    (idx xA 7).bind fun uA=>
    (idx glob0 kA).bind fun xB=>
    (idx gB kA).bind fun yB=>
    (idx xA 3).bind fun tB=>
    some (.next (IntKind.wrap .i64 (kA+1),[IntKind.wrap .u32 ((IntKind.wrap .u32 ((IntKind.wrap .u32 ((IntKind.wrap .u32 ((IntKind.wrap .u32 (uA+(xorI .u32 (xorI .u32 nA pA) tA)))+(xorI .u32 (andI .u32 hA gA) (andI .u32 (cplI .u32 hA) mA))))+xB))+yB))+(IntKind.wrap .u32 ((xorI .u32 (xorI .u32 mB nB) pB)+(xorI .u32 (xorI .u32 (andI .u32 vA rA) (andI .u32 vA wA)) (andI .u32 rA wA))))),vA,rA,wA,IntKind.wrap .u32 (tB+(IntKind.wrap .u32 ((IntKind.wrap .u32 ((IntKind.wrap .u32 ((IntKind.wrap .u32 (uA+(xorI .u32 (xorI .u32 nA pA) tA)))+(xorI .u32 (andI .u32 hA gA) (andI .u32 (cplI .u32 hA) mA))))+xB))+yB))),hA,gA,mA]))
   else
    some (.done xA)) (0,a0)).bind fun uB=>
 some uB
  :Option (List Int))).bind fun xC=>
 (((Loop.run (S:=(Int×(List Int))) (R:=(List Int)) (fun(oA,dA)=>
   bif decide (oA<8) then
    (idx dA oA).bind fun yC=>
    (idx xC oA).bind fun zC=>
    (idx dA oA).bind fun dC=>
    some (.next (IntKind.wrap .i64 (oA+1),List.set dA (Int.toNat oA) (IntKind.wrap .u32 (yC+zC))))
   else
    some (.done dA)) (0,a0)).bind fun hC=>
 some hC
  :Option (List Int))).bind fun bC=>
 some bC
theorem o31 {a0 a1:List Int} {r0:(List Int)} (hF:dN a0 a1=some r0) (L:List Res):Ok Tryz.prog 213 [SV.val K3 a0,SV.val (kArr 64 K10) a1] L (SV.val K3 r0) L:=by
 unfold dN at hF
 refine okI 197 Tryz.func213 rfl rfl rfl fun F0=>?_
 refine bs hF fun qC rC hF=>sr<|Under.bx (K:=kArr 8 K9) rfl rdV rfl fun b1=>bX (K:=kArr 64 K10) rfl rdV rfl<|al ZT250 rfl fun b2=>ns<|al ZT319 rfl fun b3=>nt<|sq<|afr (r:=qC) (fun qC=>[(2,pb b1),(4,pb b2),(5,pb b3)]) (fun qC=>((.box K3 b1 250 a0)::(.box K3 b2 250 (List.replicate 8 (0:Int)))::(.box (kArr 64 K9) b3 319 qC)::L)) ?_ fun K yG=>?_
 ·refine bs hF fun cA hB hF=>sq<|afr (r:=cA) (fun cA=>[(2,pb b1),(4,pb b2),(5,.ptr (kArr 64 K9) cA)]) (fun cA=>((.box K3 b1 250 a0)::(.box K3 b2 250 (List.replicate 8 (0:Int)))::L)) ?_ fun K wC=>?_
  ·refine bs hF fun qA bB hF=>sr<|lP .box .id kt250k rfl rfl<|al ZT250 rfl fun oB=>sP (x':=a0) .box .id sz250k rfl rfl rdV rfl<|nt<|sq<|afr (r:=qA) (fun qA=>[(2,pb b1),(4,pb b2),(12,.ptr K3 qA)]) (fun qA=>((.box K3 b1 250 a0)::(.box K3 b2 250 (List.replicate 8 (0:Int)))::L)) ?_ fun K gC=>?_
   ·refine bs hF fun rA vB hF=>sq<|afr (r:=rA) (fun rA=>[(2,.ptr K3 rA),(4,pb b2)]) (fun rA=>((.box K3 b2 250 (List.replicate 8 (0:Int)))::L)) ?_ fun K mC=>?_
    ·refine sr<|oL kt250 rfl<|sP (x':=rA) .box .id sz250k rfl rfl rdV rfl<|nl<|fz (t:=4) rfl<|tn<|rc ?_
     cases osi hF
     exact rs Tryz.results213 (.ce rfl kt250 .nil) rfl rfl
    ·refine bs vB fun zG nC vB=>sr<|m_ rfl<|nt<|bk<|lp nC () (fun wA kB=>[(2,pb b1),(4,pb b2),(12,.ptr K3 qA),(184,.raw (.int .i64 wA.1))]) (fun wA kB=>(.box K3 b1 250 wA.2)::(.box K3 b2 250 (List.replicate 8 (0:Int)))::L) rfl rfl fun wA kB bG hA pC=>?_
     obtain⟨tC,uC⟩:=wA
     dsimp only at hA⊢
     refine sr<|b_ rfl<|nt<|sq<|it hA rfl (fun hA=>?_) (fun hA=>?_)
     ·exact bs hA fun xD dB hA=>bs hA fun yD zD hA=>bs hA fun vG eB hA=>ct<|sq<|bk<|sr<|m_ rfl<|a_ rfl<|nt<|ph rfl<|gV [0,1,2,3,4,5] [[24],[2,187],[188],[24],[12,190],[191]] 2 (by kernel_rfl) rfl<|vm_ rfl<|Vq.v (fun G T hG=>oX .box .id dB Tryz.underlying250 sz142k rfl<|Vq.end rfl)<|Vq.v (fun G T hG=>lP .box (.ix .id dB) kt142k rfl rfl<|rI (t:=189) rfl<|Vq.end rfl)<|vm_ rfl<|vo (fun _=>OpV.ixA zD Tryz.underlying250 sz142 rfl rfl) rfl<|vo (fun _=>OpV.ldI kt142 rfl) rfl<|vn<|p1 6 rfl rfl<|b_ rfl<|pn<|p1 7 rfl rfl<|oX .box .id eB Tryz.underlying250 sz142k rfl<|pn<|p1 8 rfl rfl<|sP (x':=List.set uC (Int.toNat tC) (IntKind.wrap .u32 (xD+yD))) .box (.ix .id eB) sz142k rfl rfl rdI rfl<|pn<|pd rfl<|bN<|tn<|rg<|b_ rfl<|m_ rfl<|nl<|nx () hA rfl rfl
     ·refine fz (t:=2) rfl<|xt<|te ?_
      cases aj hA pC
      exact te<|bh<|tn<|wr (mC _ (osi vB).symm) rfl
   ·refine bs bB fun oG hD bB=>sr<|m_ rfl<|nt<|bk<|f2<|f2<|lp hD () (fun gA cB=>[(2,pb b1),(4,pb b2),(5,.ptr (kArr 64 K9) cA),(12,pb oB),(104,.raw (.int .i64 gA.1))]) (fun gA cB=>(.box K3 b1 250 a0)::(.box K3 b2 250 (List.replicate 8 (0:Int)))::(.box K3 oB 250 gA.2)::L) rfl rfl fun gA cB kG xA bD=>?_
    obtain⟨dG,eG⟩:=gA
    dsimp only at xA⊢
    refine sr<|b_ rfl<|nt<|sq<|it xA rfl (fun xA=>?_) (fun xA=>?_)
    ·exact bs xA fun vA qB xA=>bs xA fun oA rB xA=>bs xA fun kA wB xA=>bs xA fun bA gB xA=>bs xA fun dA mB xA=>bs xA fun eA nB xA=>bs xA fun pA vD xA=>bs xA fun tA oD xA=>bs xA fun uA kD xA=>bs xA fun pB dD xA=>bs xA fun tB eD xA=>bs xA fun uB cD xA=>bs xA fun xB xC xA=>bs xA fun yB qD xA=>bs xA fun zB rD xA=>bs xA fun yC zC xA=>ct<|sq<|bk<|sr<|m_ rfl<|a_ rfl<|nt<|sq<|ph rfl<|gV [0,1,2,3,4,5,6,7,8,9,10,11,12,13,14,15,16] [[12],[107],[12],[109],[12],[111],[12],[113],[12],[115],[12],[117],[108],[110],[112],[114],[116]] 3 (by kernel_rfl) rfl<|Vq.v (fun G T hG=>f2<|oX .box .id qB Tryz.underlying250 sz142k rfl<|f2<|f2<|Vq.end rfl)<|Vq.v (fun G T hG=>f2<|lP .box (.ix .id qB) kt142k rfl rfl<|rI (t:=108) rfl<|f2<|f2<|Vq.end rfl)<|Vq.v (fun G T hG=>f2<|oX .box .id rB Tryz.underlying250 sz142k rfl<|f2<|f2<|Vq.end rfl)<|Vq.v (fun G T hG=>f2<|lP .box (.ix .id rB) kt142k rfl rfl<|rI (t:=110) rfl<|f2<|f2<|Vq.end rfl)<|Vq.v (fun G T hG=>f2<|oX .box .id wB Tryz.underlying250 sz142k rfl<|f2<|f2<|Vq.end rfl)<|Vq.v (fun G T hG=>f2<|lP .box (.ix .id wB) kt142k rfl rfl<|rI (t:=112) rfl<|f2<|f2<|Vq.end rfl)<|Vq.v (fun G T hG=>f2<|oX .box .id gB Tryz.underlying250 sz142k rfl<|f2<|f2<|Vq.end rfl)<|Vq.v (fun G T hG=>f2<|lP .box (.ix .id gB) kt142k rfl rfl<|rI (t:=114) rfl<|f2<|f2<|Vq.end rfl)<|Vq.v (fun G T hG=>f2<|oX .box .id mB Tryz.underlying250 sz142k rfl<|f2<|f2<|Vq.end rfl)<|Vq.v (fun G T hG=>f2<|lP .box (.ix .id mB) kt142k rfl rfl<|rI (t:=116) rfl<|f2<|f2<|Vq.end rfl)<|Vq.v (fun G T hG=>f2<|oX .box .id nB Tryz.underlying250 sz142k rfl<|f2<|f2<|Vq.end rfl)<|Vq.v (fun G T hG=>f2<|lP .box (.ix .id nB) kt142k rfl rfl<|rI (t:=118) rfl<|f2<|f2<|Vq.end rfl)<|Vq.v (fun G T hG=>a_ rfl<|Vq.end rfl)<|Vq.v (fun G T hG=>a_ rfl<|Vq.end rfl)<|Vq.v (fun G T hG=>a_ rfl<|Vq.end rfl)<|Vq.v (fun G T hG=>a_ rfl<|Vq.end rfl)<|Vq.v (fun G T hG=>a_ rfl<|Vq.end rfl)<|vn<|p1 17 rfl rfl<|a_ rfl<|pn<|pd rfl<|tn<|sr<|m_ rfl<|cx Tryz.call243 rfl (o30 vD _)<|m_ rfl<|cx Tryz.call243 rfl (o30 oD _)<|b_ rfl<|m_ rfl<|cx Tryz.call243 rfl (o30 kD _)<|b_ rfl<|a_ rfl<|ns<|m_ rfl<|cx Tryz.call243 rfl (o30 dD _)<|m_ rfl<|cx Tryz.call243 rfl (o30 eD _)<|b_ rfl<|m_ rfl<|cx Tryz.call243 rfl (o30 cD _)<|b_ rfl<|a_ rfl<|nt<|sq<|ph rfl<|gV [0,1,2,3,4,5,6,7,8,9,10,11,12,13,14,15,16,17,18,19] [[12],[135],[20],[136,137],[17],[18],[139,140],[17],[142],[19],[143,144],[141,145],[138,146],[13],[148],[149],[147,150],[13],[5,152],[153]] 3 (by kernel_rfl) rfl<|Vq.v (fun G T hG=>f2<|oX .box .id xC Tryz.underlying250 sz142k rfl<|f2<|f2<|Vq.end rfl)<|Vq.v (fun G T hG=>f2<|lP .box (.ix .id xC) kt142k rfl rfl<|rI (t:=136) rfl<|f2<|f2<|Vq.end rfl)<|vm_ rfl<|vb_ rfl<|vm_ rfl<|vm_ rfl<|vb_ rfl<|vm_ rfl<|vo (fun _=>OpV.cpl rfl) rfl<|vm_ rfl<|vb_ rfl<|vb_ rfl<|vb_ rfl<|vm_ rfl<|vo (fun _=>OpV.ixA qD Tryz.underlying319 sz142 rfl rfl) rfl<|vo (fun _=>OpV.ldI kt142 rfl) rfl<|vb_ rfl<|vm_ rfl<|vo (fun _=>OpV.ixA rD Tryz.underlying319 sz142 rfl rfl) rfl<|vo (fun _=>OpV.ldI kt142 rfl) rfl<|vn<|p1 20 rfl rfl<|b_ rfl<|pn<|p1 21 rfl rfl<|a_ rfl<|pn<|pd rfl<|tn<|sr<|m_ rfl<|m_ rfl<|mb rfl<|m_ rfl<|mb rfl<|b_ rfl<|m_ rfl<|mb rfl<|b_ rfl<|b_ rfl<|a_ rfl<|nt<|rg<|m_ rfl<|mb rfl<|m_ rfl<|m_ rfl<|m_ rfl<|f2<|oX .box .id zC Tryz.underlying250 sz142k rfl<|lP .box (.ix .id zC) kt142k rfl rfl<|rI (t:=176) rfl<|mb rfl<|m_ rfl<|m_ rfl<|m_ rfl<|ov (OpV.bar (ys:=[IntKind.wrap .u32 ((IntKind.wrap .u32 ((IntKind.wrap .u32 ((IntKind.wrap .u32 ((IntKind.wrap .u32 (xB+(xorI .u32 (xorI .u32 pA tA) uA)))+(xorI .u32 (andI .u32 bA dA) (andI .u32 (cplI .u32 bA) eA))))+yB))+zB))+(IntKind.wrap .u32 ((xorI .u32 (xorI .u32 pB tB) uB)+(xorI .u32 (xorI .u32 (andI .u32 vA oA) (andI .u32 vA kA)) (andI .u32 oA kA))))),vA,oA,kA,IntKind.wrap .u32 (yC+(IntKind.wrap .u32 ((IntKind.wrap .u32 ((IntKind.wrap .u32 ((IntKind.wrap .u32 (xB+(xorI .u32 (xorI .u32 pA tA) uA)))+(xorI .u32 (andI .u32 bA dA) (andI .u32 (cplI .u32 bA) eA))))+yB))+zB))),bA,dA,eA]) BTA250 (BldA.cons rfl rfl rdI (BldA.cons rfl rfl rdI (BldA.cons rfl rfl rdI (BldA.cons rfl rfl rdI (BldA.cons rfl rfl rdI (BldA.cons rfl rfl rdI (BldA.cons rfl rfl rdI (BldA.cons rfl rfl rdI (BldA.nil _)))))))))) rfl<|sP (x':=[IntKind.wrap .u32 ((IntKind.wrap .u32 ((IntKind.wrap .u32 ((IntKind.wrap .u32 ((IntKind.wrap .u32 (xB+(xorI .u32 (xorI .u32 pA tA) uA)))+(xorI .u32 (andI .u32 bA dA) (andI .u32 (cplI .u32 bA) eA))))+yB))+zB))+(IntKind.wrap .u32 ((xorI .u32 (xorI .u32 pB tB) uB)+(xorI .u32 (xorI .u32 (andI .u32 vA oA) (andI .u32 vA kA)) (andI .u32 oA kA))))),vA,oA,kA,IntKind.wrap .u32 (yC+(IntKind.wrap .u32 ((IntKind.wrap .u32 ((IntKind.wrap .u32 ((IntKind.wrap .u32 (xB+(xorI .u32 (xorI .u32 pA tA) uA)))+(xorI .u32 (andI .u32 bA dA) (andI .u32 (cplI .u32 bA) eA))))+yB))+zB))),bA,dA,eA]) .box .id sz250k rfl rfl rdV rfl<|nl<|bN<|tn<|rg<|b_ rfl<|m_ rfl<|nl<|f2<|f2<|nx () xA rfl rfl
    ·refine f2<|fz (t:=12) rfl<|xt<|te ?_
     cases aj xA bD
     exact te<|bh<|tn<|wr (gC _ (osi bB).symm) rfl
  ·refine bs hB fun cG wD hB=>sr<|a_ rfl<|nt<|bk<|lp wD () (fun mA hC=>[(2,pb b1),(4,pb b2),(5,pb b3),(7,.raw (.int .i64 mA.1))]) (fun mA hC=>(.box K3 b1 250 a0)::(.box K3 b2 250 (List.replicate 8 (0:Int)))::(.box (kArr 64 K9) b3 319 mA.2)::L) rfl rfl fun mA hC qG yA gD=>?_
   obtain⟨mD,nD⟩:=mA
   dsimp only at yA⊢
   refine sq<|sr<|mb rfl<|nt<|it yA rfl (fun yA=>?_) (fun yA=>?_)
   ·exact bs yA fun pD bC yA=>bs yA fun tD vC yA=>bs yA fun uD xE yA=>bs yA fun yE zE yA=>bs yA fun hE bE yA=>bs yA fun vE oE yA=>bs yA fun kE oC yA=>bs yA fun dE kC yA=>bs yA fun rG dC yA=>ct<|sq<|bk<|sq<|ph rfl<|gV [0,1,2,3,4,5,6,7,8] [[7],[64],[5,65],[66],[7],[68],[5,69],[70],[67]] 3 (by kernel_rfl) rfl<|vm_ rfl<|vb_ rfl<|Vq.v (fun G T hG=>f2<|oX .box .id bC Tryz.underlying319 sz142k rfl<|f2<|f2<|Vq.end rfl)<|Vq.v (fun G T hG=>f2<|lP .box (.ix .id bC) kt142k rfl rfl<|rI (t:=67) rfl<|f2<|f2<|Vq.end rfl)<|vm_ rfl<|vb_ rfl<|Vq.v (fun G T hG=>f2<|oX .box .id vC Tryz.underlying319 sz142k rfl<|f2<|f2<|Vq.end rfl)<|Vq.v (fun G T hG=>f2<|lP .box (.ix .id vC) kt142k rfl rfl<|rI (t:=71) rfl<|f2<|f2<|Vq.end rfl)<|Vq.v (fun G T hG=>a_ rfl<|Vq.end rfl)<|vn<|p1 9 rfl rfl<|a_ rfl<|pn<|pd rfl<|tn<|sr<|m_ rfl<|cx Tryz.call243 rfl (o30 xE _)<|m_ rfl<|cx Tryz.call243 rfl (o30 zE _)<|b_ rfl<|m_ rfl<|ov (OpV.sh rfl rfl (by decide) rfl) rfl<|b_ rfl<|a_ rfl<|ns<|m_ rfl<|cx Tryz.call243 rfl (o30 bE _)<|m_ rfl<|cx Tryz.call243 rfl (o30 oE _)<|b_ rfl<|m_ rfl<|ov (OpV.sh rfl rfl (by decide) rfl) rfl<|b_ rfl<|a_ rfl<|nt<|ph rfl<|gV [0,1,2,3,4,5,6,7,8,9,10,11,12,13] [[7],[11],[7],[90],[5,91],[92],[89,93],[10],[94,95],[7],[97],[5,98],[99],[96,100]] 3 (by kernel_rfl) rfl<|vm_ rfl<|vm_ rfl<|vm_ rfl<|vb_ rfl<|Vq.v (fun G T hG=>f2<|oX .box .id oC Tryz.underlying319 sz142k rfl<|f2<|f2<|Vq.end rfl)<|Vq.v (fun G T hG=>f2<|lP .box (.ix .id oC) kt142k rfl rfl<|rI (t:=93) rfl<|f2<|f2<|Vq.end rfl)<|vb_ rfl<|vm_ rfl<|vb_ rfl<|vm_ rfl<|vb_ rfl<|Vq.v (fun G T hG=>f2<|oX .box .id kC Tryz.underlying319 sz142k rfl<|f2<|f2<|Vq.end rfl)<|Vq.v (fun G T hG=>f2<|lP .box (.ix .id kC) kt142k rfl rfl<|rI (t:=100) rfl<|f2<|f2<|Vq.end rfl)<|vb_ rfl<|vn<|p1 14 rfl rfl<|f2<|oX .box .id dC Tryz.underlying319 sz142k rfl<|pn<|p1 15 rfl rfl<|sP (x':=List.set nD (Int.toNat mD) (IntKind.wrap .u32 ((IntKind.wrap .u32 ((IntKind.wrap .u32 ((xorI .u32 (xorI .u32 hE vE) (shrI .u32 tD 10))+kE))+(xorI .u32 (xorI .u32 uD yE) (shrI .u32 pD 3))))+dE))) .box (.ix .id dC) sz142k rfl rfl rdI rfl<|pn<|pd rfl<|bN<|tn<|rg<|mb rfl<|a_ rfl<|nl<|f2<|f2<|nx () yA rfl rfl
   ·refine f2<|fz (t:=5) rfl<|xt<|te ?_
    cases aj yA gD
    exact te<|bh<|tn<|wr (wC _ (osi hB).symm) rfl
 ·refine bs rC fun wG eE rC=>sr<|m_ rfl<|nt<|bk<|f1<|f2<|lp eE () (fun nA eC=>[(2,pb b1),(3,.ptr (kArr 64 K10) a1),(4,pb b2),(5,pb b3),(25,.raw (.int .i64 nA.1))]) (fun nA eC=>(.box K3 b1 250 a0)::(.box K3 b2 250 (List.replicate 8 (0:Int)))::(.box (kArr 64 K9) b3 319 nA.2)::L) rfl rfl fun nA eC gG zA cE=>?_
  obtain⟨qE,rE⟩:=nA
  dsimp only at zA⊢
  refine sr<|b_ rfl<|nt<|sq<|it zA rfl (fun zA=>?_) (fun zA=>?_)
  ·exact bs zA fun wE gE zA=>bs zA fun mE nE zA=>bs zA fun pE tE zA=>bs zA fun uE xG zA=>bs zA fun mG cC zA=>ct<|sq<|bk<|sr<|m_ rfl<|a_ rfl<|nt<|ph rfl<|gV [0,1,2,3,4,5,6,7,8,9,10,11,12,13,14,15,16,17,18,19,20,21,22,23,24,25,26,27,28,29] [[6],[6],[29],[3,30],[31],[32],[33],[6],[35],[36],[3,37],[38],[39],[40],[34,41],[6],[43],[44],[3,45],[46],[47],[48],[42,49],[6],[51],[52],[3,53],[54],[55],[50,56]] 3 (by kernel_rfl) rfl<|vm_ rfl<|vm_ rfl<|vb_ rfl<|vo (fun _=>OpV.ixA gE Tryz.underlying251 sz5 rfl rfl) rfl<|vo (fun _=>OpV.ldI kt5 rfl) rfl<|vo (fun _=>OpV.conv (by kernel_rfl) Tryz.underlying142 rfl) rfl<|vo (fun _=>OpV.sh rfl rfl (by decide) rfl) rfl<|vm_ rfl<|vb_ rfl<|vb_ rfl<|vo (fun _=>OpV.ixA nE Tryz.underlying251 sz5 rfl rfl) rfl<|vo (fun _=>OpV.ldI kt5 rfl) rfl<|vo (fun _=>OpV.conv (by kernel_rfl) Tryz.underlying142 rfl) rfl<|vo (fun _=>OpV.sh rfl rfl (by decide) rfl) rfl<|vb_ rfl<|vm_ rfl<|vb_ rfl<|vb_ rfl<|vo (fun _=>OpV.ixA tE Tryz.underlying251 sz5 rfl rfl) rfl<|vo (fun _=>OpV.ldI kt5 rfl) rfl<|vo (fun _=>OpV.conv (by kernel_rfl) Tryz.underlying142 rfl) rfl<|vo (fun _=>OpV.sh rfl rfl (by decide) rfl) rfl<|vb_ rfl<|vm_ rfl<|vb_ rfl<|vb_ rfl<|vo (fun _=>OpV.ixA xG Tryz.underlying251 sz5 rfl rfl) rfl<|vo (fun _=>OpV.ldI kt5 rfl) rfl<|vo (fun _=>OpV.conv (by kernel_rfl) Tryz.underlying142 rfl) rfl<|vb_ rfl<|vn<|p1 30 rfl rfl<|f2<|oX .box .id cC Tryz.underlying319 sz142k rfl<|pn<|p1 31 rfl rfl<|sP (x':=List.set rE (Int.toNat qE) (orI .u32 (orI .u32 (orI .u32 (shlI .u32 (IntKind.wrap .u32 wE) 24) (shlI .u32 (IntKind.wrap .u32 mE) 16)) (shlI .u32 (IntKind.wrap .u32 pE) 8)) (IntKind.wrap .u32 uE))) .box (.ix .id cC) sz142k rfl rfl rdI rfl<|pn<|pd rfl<|bN<|tn<|rg<|b_ rfl<|m_ rfl<|nl<|f2<|f2<|nx () zA rfl rfl
  ·refine xt<|te ?_
   cases aj zA cE
   exact te<|bh<|tn<|wr (yG _ (osi rC).symm) rfl
noncomputable def cF (a0:aq) (a1:List Int):Option aq:=
 ((bif decide (a0.n<64) then
  (iM).bind fun hA=>
  some ({a0 with words:=hA}:aq)
 else
  some a0
  :Option aq)).bind fun x5=>
 (((Loop.run (S:=((List Int)×aq)) (R:=aq) (fun(yA,xA)=>
   bif decide ((yA.length:Int)>0) then
    bif decide ((0:Int)≤(Int.tmod xA.n 64)∧(Int.tmod xA.n 64:Int)≤64∧(64:Int)≤64) then
    bif decide ((Int.toNat (Int.tmod xA.n 64))≤(Int.toNat 64)∧(Int.toNat 64)≤64) then
    (sub yA ((min (List.length yA) ((Int.toNat 64) - (Int.toNat (Int.tmod xA.n 64))):Nat):Int) (yA.length:Int)).bind fun zA=>
    bif (Int.tmod (({({xA with tail:=over xA.tail (Int.toNat (Int.tmod xA.n 64)) (Int.toNat 64) yA}:aq) with n:=IntKind.wrap .u64 ((({xA with tail:=over xA.tail (Int.toNat (Int.tmod xA.n 64)) (Int.toNat 64) yA}:aq).n)+(IntKind.wrap .u64 ((min (List.length yA) ((Int.toNat 64) - (Int.toNat (Int.tmod xA.n 64))):Nat):Int)))}:aq).n) 64)==0 then
     (dN (({({xA with tail:=over xA.tail (Int.toNat (Int.tmod xA.n 64)) (Int.toNat 64) yA}:aq) with n:=IntKind.wrap .u64 ((({xA with tail:=over xA.tail (Int.toNat (Int.tmod xA.n 64)) (Int.toNat 64) yA}:aq).n)+(IntKind.wrap .u64 ((min (List.length yA) ((Int.toNat 64) - (Int.toNat (Int.tmod xA.n 64))):Nat):Int)))}:aq).words) (({({xA with tail:=over xA.tail (Int.toNat (Int.tmod xA.n 64)) (Int.toNat 64) yA}:aq) with n:=IntKind.wrap .u64 ((({xA with tail:=over xA.tail (Int.toNat (Int.tmod xA.n 64)) (Int.toNat 64) yA}:aq).n)+(IntKind.wrap .u64 ((min (List.length yA) ((Int.toNat 64) - (Int.toNat (Int.tmod xA.n 64))):Nat):Int)))}:aq).tail)).bind fun bA=>
     some (.next (zA,({({({xA with tail:=over xA.tail (Int.toNat (Int.tmod xA.n 64)) (Int.toNat 64) yA}:aq) with n:=IntKind.wrap .u64 ((({xA with tail:=over xA.tail (Int.toNat (Int.tmod xA.n 64)) (Int.toNat 64) yA}:aq).n)+(IntKind.wrap .u64 ((min (List.length yA) ((Int.toNat 64) - (Int.toNat (Int.tmod xA.n 64))):Nat):Int)))}:aq) with words:=bA}:aq)))
    else
     some (.next (zA,({({xA with tail:=over xA.tail (Int.toNat (Int.tmod xA.n 64)) (Int.toNat 64) yA}:aq) with n:=IntKind.wrap .u64 ((({xA with tail:=over xA.tail (Int.toNat (Int.tmod xA.n 64)) (Int.toNat 64) yA}:aq).n)+(IntKind.wrap .u64 ((min (List.length yA) ((Int.toNat 64) - (Int.toNat (Int.tmod xA.n 64))):Nat):Int)))}:aq)))
    else none
    else none
   else
    some (.done xA)) (a1,x5)).bind fun vA=>
 some vA
  :Option aq)).bind fun oA=>
 some oA
theorem o32 {a0:aq} {a1:List Int} {r0:aq} (hF:cF a0 a1=some r0) (L:List Res):Ok Tryz.prog 168 [SV.val bu a0,SV.val K7 a1] L (SV.val bu r0) L:=by
 unfold cF at hF
 refine okI 41 Tryz.func168 rfl rfl rfl fun F0=>?_
 refine bs hF fun x5 h7 hF=>sr<|Under.bx (K:=bu) rfl rdV rfl fun b1=>al ZT253 rfl fun b2=>nt<|sq<|afr (r:=x5) (fun x5=>[(1,.val K7 a1),(2,pb b1),(4,pb b2)]) (fun x5=>((.box bu b1 253 x5)::(.box bu b2 253 (⟨(List.replicate 8 (0:Int)),(List.replicate 64 (0:Int)),(0:Int)⟩:aq))::L)) ?_ fun K k8=>?_
 ·refine bs hF fun hA kA hF=>sq<|afr (r:=hA) (fun hA=>[(2,.ptr bu hA),(4,pb b2)]) (fun hA=>((.box bu b2 253 (⟨(List.replicate 8 (0:Int)),(List.replicate 64 (0:Int)),(0:Int)⟩:aq))::L)) ?_ fun K eA=>?_
  ·refine sr<|oL kt253 rfl<|sP (x':=hA) .box .id sz253k rfl rfl rdV rfl<|nl<|fz (t:=4) rfl<|tn<|rc ?_
   cases osi hF
   exact rs Tryz.results168 (.ce rfl kt253 .nil) rfl rfl
  ·refine bs kA fun pA cA kA=>bk<|lp cA () (fun bA dA=>[(1,.val K7 bA.1),(2,pb b1),(4,pb b2)]) (fun bA dA=>(.box bu b1 253 bA.2)::(.box bu b2 253 (⟨(List.replicate 8 (0:Int)),(List.replicate 64 (0:Int)),(0:Int)⟩:aq))::L) rfl rfl fun bA dA tA yA qA=>?_
   obtain⟨zA,xA⟩:=bA
   dsimp only at yA⊢
   refine sq<|sr<|m_ rfl<|oN Tryz.underlying22 rfl<|b_ rfl<|nt<|it yA rfl (fun yA=>?_) (fun yA=>?_)
   ·refine gs yA fun vA yA=>ct<|bk<|sr<|oM ua rfl<|oM lA rfl<|lP .box (.fld .id eh) kt71k rfl rfl<|rI (t:=16) rfl<|ov (OpV.quo rfl rfl (by decide) rfl) rfl ?_
    replace vA:(0:Int)≤(Int.tmod xA.n 64)∧(Int.tmod xA.n 64:Int)≤64∧(64:Int)≤64:=of_decide_eq_true vA
    refine gs yA fun oA yA=>ov (OpV.slP (l:=Int.tmod xA.n 64) (h:=64) Tryz.underlying251 sz5k rfl rfl rfl (And.left vA) (And.left (And.right vA)) (And.right (And.right vA))) rfl<|m_ rfl ?_
    replace oA:(Int.toNat (Int.tmod xA.n 64))≤(Int.toNat 64)∧(Int.toNat 64)≤64:=of_decide_eq_true oA
    refine bs yA fun uA rA yA=>Under.cpB (x':=({xA with tail:=over xA.tail (Int.toNat (Int.tmod xA.n 64)) (Int.toNat 64) zA}:aq)) .box (.fld .id kz) (And.left oA) (And.right oA) (na (And.right oA)) Tryz.underlying22 sz5k rfl rfl (.sl rdV) rfl rfl<|a_ rfl<|ns<|oM lA rfl<|lP .box (.fld .id eh) kt71k rfl rfl<|rI (t:=22) rfl<|m_ rfl<|oC (by kernel_rfl) Tryz.underlying71 rfl<|b_ rfl<|oM lA rfl<|sP (x':=({({xA with tail:=over xA.tail (Int.toNat (Int.tmod xA.n 64)) (Int.toNat 64) zA}:aq) with n:=IntKind.wrap .u64 ((({xA with tail:=over xA.tail (Int.toNat (Int.tmod xA.n 64)) (Int.toNat 64) zA}:aq).n)+(IntKind.wrap .u64 ((min (List.length zA) ((Int.toNat 64) - (Int.toNat (Int.tmod xA.n 64))):Nat):Int)))}:aq)) .box (.fld .id eh) sz71k rfl rfl rdI rfl<|ns<|m_ rfl<|m_ rfl<|ov (OpV.slL rA Tryz.underlying22 sz5 rfl rdV rfl) rfl<|a_ rfl<|ns<|oM lA rfl<|lP .box (.fld .id eh) kt71k rfl rfl<|rI (t:=31) rfl<|ov (OpV.quo rfl rfl (by decide) rfl) rfl<|b_ rfl<|nt<|it yA rfl (fun yA=>?_) (fun yA=>?_)
    ·exact bs yA fun wA gA yA=>rg<|oM q9 rfl<|lP .box (.fld .id iV) kt250k rfl rfl<|oM ua rfl<|lP .box (.fld .id kz) kt251k rfl rfl<|cx Tryz.call213 rfl (o31 gA _)<|oM q9 rfl<|sP (x':=({({({xA with tail:=over xA.tail (Int.toNat (Int.tmod xA.n 64)) (Int.toNat 64) zA}:aq) with n:=IntKind.wrap .u64 ((({xA with tail:=over xA.tail (Int.toNat (Int.tmod xA.n 64)) (Int.toNat 64) zA}:aq).n)+(IntKind.wrap .u64 ((min (List.length zA) ((Int.toNat 64) - (Int.toNat (Int.tmod xA.n 64))):Nat):Int)))}:aq) with words:=wA}:aq)) .box (.fld .id iV) sz250k rfl rfl rdV rfl<|nl<|bN<|nx () yA rfl rfl
    ·exact cs<|bN<|nx () yA rfl rfl
   ·refine fz (t:=2) rfl<|xt<|te ?_
    cases aj yA qA
    exact te<|bh<|tn<|wr (eA _ (osi kA).symm) rfl
 ·refine sr<|oM lA rfl<|f1<|lP .box (.fld .id eh) kt71k rfl rfl<|rI (t:=7) rfl<|b_ rfl<|nt<|it h7 rfl (fun h7=>?_) (fun h7=>?_)
  ·exact bs h7 fun mA nA h7=>rg<|cx Tryz.call212 rfl (o29 nA _)<|oM q9 rfl<|sP (x':=({a0 with words:=mA}:aq)) .box (.fld .id iV) sz250k rfl rfl rdV rfl<|nt<|wr (k8 _ (osi h7).symm) rfl
  ·exact ct<|wr (k8 _ (osi h7).symm) rfl
noncomputable def dq (a0:aq):Option (List Int):=
 bif mkB (IntKind.wrap .u64 (1+(Int.tmod (IntKind.wrap .u64 (119 - (Int.tmod a0.n 64))) 64))) 72 then
 (idx (List.replicate (Int.toNat (IntKind.wrap .u64 (1+(Int.tmod (IntKind.wrap .u64 (119 - (Int.tmod a0.n 64))) 64)))) (0:Int)) 0).bind fun x6=>
 (((Loop.run (S:=((List Int)×Int)) (R:=(List Int)) (fun(bA,hA)=>
   bif decide (hA≥0) then
    bif decide (0≤hA) then
    (app bA [IntKind.wrap .u8 (shrI .u64 (shlI .u64 a0.n 3) hA)]).bind fun vA=>
    some (.next (vA,IntKind.wrap .i64 (hA - 8)))
    else none
   else
    some (.done bA)) (List.set (List.replicate (Int.toNat (IntKind.wrap .u64 (1+(Int.tmod (IntKind.wrap .u64 (119 - (Int.tmod a0.n 64))) 64)))) (0:Int)) (Int.toNat 0) 128,56)).bind fun oA=>
 some oA
  :Option (List Int))).bind fun dA=>
 (cF a0 dA).bind fun eA=>
 (((Loop.run (S:=(Int×(List Int))) (R:=(List Int)) (fun(xA,zA)=>
   bif decide (xA<8) then
    (idx eA.words xA).bind fun yA=>
    (idx zA (IntKind.wrap .i64 (4*xA))).bind fun cA=>
    (idx (List.set zA (Int.toNat (IntKind.wrap .i64 (4*xA))) (IntKind.wrap .u8 (shrI .u32 yA 24))) (IntKind.wrap .i64 ((IntKind.wrap .i64 (4*xA))+1))).bind fun qA=>
    (idx (List.set (List.set zA (Int.toNat (IntKind.wrap .i64 (4*xA))) (IntKind.wrap .u8 (shrI .u32 yA 24))) (Int.toNat (IntKind.wrap .i64 ((IntKind.wrap .i64 (4*xA))+1))) (IntKind.wrap .u8 (shrI .u32 yA 16))) (IntKind.wrap .i64 ((IntKind.wrap .i64 (4*xA))+2))).bind fun rA=>
    (idx (List.set (List.set (List.set zA (Int.toNat (IntKind.wrap .i64 (4*xA))) (IntKind.wrap .u8 (shrI .u32 yA 24))) (Int.toNat (IntKind.wrap .i64 ((IntKind.wrap .i64 (4*xA))+1))) (IntKind.wrap .u8 (shrI .u32 yA 16))) (Int.toNat (IntKind.wrap .i64 ((IntKind.wrap .i64 (4*xA))+2))) (IntKind.wrap .u8 (shrI .u32 yA 8))) (IntKind.wrap .i64 ((IntKind.wrap .i64 (4*xA))+3))).bind fun wA=>
    some (.next (IntKind.wrap .i64 (xA+1),List.set (List.set (List.set (List.set zA (Int.toNat (IntKind.wrap .i64 (4*xA))) (IntKind.wrap .u8 (shrI .u32 yA 24))) (Int.toNat (IntKind.wrap .i64 ((IntKind.wrap .i64 (4*xA))+1))) (IntKind.wrap .u8 (shrI .u32 yA 16))) (Int.toNat (IntKind.wrap .i64 ((IntKind.wrap .i64 (4*xA))+2))) (IntKind.wrap .u8 (shrI .u32 yA 8))) (Int.toNat (IntKind.wrap .i64 ((IntKind.wrap .i64 (4*xA))+3))) (IntKind.wrap .u8 yA)))
   else
    some (.done zA)) (0,(List.replicate 32 (0:Int)))).bind fun kA=>
 some kA
  :Option (List Int))).bind fun gA=>
 some gA
 else none
theorem o33 {a0:aq} {r0:(List Int)} (hF:dq a0=some r0) (L:List Res):Ok Tryz.prog 169 [SV.val bu a0] L (SV.val K4 r0) L:=by
 unfold dq at hF
 refine okI 68 Tryz.func169 rfl rfl rfl fun F0=>?_
 refine gs hF fun h4 hF=>bs hF fun x6 h7 hF=>bs hF fun mA nA hF=>sr<|Under.bx (K:=bu) rfl rdV rfl fun b1=>al ZT179 rfl fun b2=>ns<|oM lA rfl<|f1<|lP .box (.fld .id eh) kt71k rfl rfl<|rI (t:=10) rfl<|a_ rfl<|ns<|m_ rfl<|ov (OpV.quo rfl rfl (by decide) rfl) rfl<|b_ rfl<|ov (OpV.quo rfl rfl (by decide) rfl) rfl<|b_ rfl<|Under.mk h4 Tryz.underlying22 AT5 rfl rfl rfl fun v3=>a_ rfl<|ns<|m_ rfl<|ov (OpV.ixO h7 Tryz.underlying22 sz5k rfl rfl) rfl<|sP (x':=List.set (List.replicate (Int.toNat (IntKind.wrap .u64 (1+(Int.tmod (IntKind.wrap .u64 (119 - (Int.tmod a0.n 64))) 64)))) (0:Int)) (Int.toNat 0) 128) (.own h7) (.ix .id h7) sz5k rfl rfl rdI rfl<|nt<|sq<|afr (r:=mA) (fun mA=>[(1,pb b1),(2,pb b2),(4,.val K7 mA)]) (fun mA=>((.box bu b1 253 a0)::(.box K4 b2 179 (List.replicate 32 (0:Int)))::L)) ?_ fun K eB=>?_
 ·refine bs hF fun kB cB hF=>bs hF fun eA dA hF=>sr<|lP .box .id kt253k rfl rfl<|m_ rfl<|cx Tryz.call168 rfl (o32 cB _)<|sP (x':=kB) .box .id sz253k rfl rfl rdV rfl<|nl<|fz (t:=1) rfl<|tn<|sr<|al ZT179 rfl fun dB=>nt<|sq<|afr (r:=eA) (fun eA=>[(2,pb b2),(6,.ptr K4 eA)]) (fun eA=>((.box K4 b2 179 (List.replicate 32 (0:Int)))::L)) ?_ fun K pA=>?_
  ·refine sr<|oL kt179 rfl<|sP (x':=eA) .box .id sz179k rfl rfl rdV rfl<|nl<|fz (t:=2) rfl<|tn<|rc ?_
   cases osi hF
   exact rs Tryz.results169 (.ce rfl kt179 .nil) rfl rfl
  ·refine bs dA fun qB tA dA=>sr<|oF fb253k rfl<|oL kt250 rfl<|m_ rfl<|nt<|bk<|f1<|lp tA () (fun bA cA=>[(2,pb b2),(6,pb dB),(35,.val K3 kB.words),(36,.raw (.int .i64 bA.1))]) (fun bA cA=>(.box K4 b2 179 (List.replicate 32 (0:Int)))::(.box K4 dB 179 bA.2)::L) rfl rfl fun bA cA rB xA uA=>?_
   obtain⟨yA,oA⟩:=bA
   dsimp only at xA⊢
   refine sr<|b_ rfl<|nt<|sq<|it xA rfl (fun xA=>?_) (fun xA=>?_)
   ·exact bs xA fun zA xB xA=>bs xA fun wB qA xA=>bs xA fun gB rA xA=>bs xA fun mB wA xA=>bs xA fun nB gA xA=>ct<|sq<|bk<|sr<|m_ rfl<|ov (OpV.ixVI xB Tryz.underlying250 kt142 rfl rfl) rfl<|a_ rfl<|a_ rfl<|nt<|rg<|mb rfl<|mb rfl<|b_ rfl<|mb rfl<|b_ rfl<|mb rfl<|b_ rfl<|m_ rfl<|ov (OpV.sh rfl rfl (by decide) rfl) rfl<|oC (by kernel_rfl) Tryz.underlying5 rfl<|m_ rfl<|ov (OpV.sh rfl rfl (by decide) rfl) rfl<|oC (by kernel_rfl) Tryz.underlying5 rfl<|m_ rfl<|ov (OpV.sh rfl rfl (by decide) rfl) rfl<|oC (by kernel_rfl) Tryz.underlying5 rfl<|m_ rfl<|oC (by kernel_rfl) Tryz.underlying5 rfl<|f1<|oX .box .id qA Tryz.underlying179 sz5k rfl<|sP (x':=List.set oA (Int.toNat (IntKind.wrap .i64 (4*yA))) (IntKind.wrap .u8 (shrI .u32 zA 24))) .box (.ix .id qA) sz5k rfl rfl rdI rfl<|oX .box .id rA Tryz.underlying179 sz5k rfl<|sP (x':=List.set (List.set oA (Int.toNat (IntKind.wrap .i64 (4*yA))) (IntKind.wrap .u8 (shrI .u32 zA 24))) (Int.toNat (IntKind.wrap .i64 ((IntKind.wrap .i64 (4*yA))+1))) (IntKind.wrap .u8 (shrI .u32 zA 16))) .box (.ix .id rA) sz5k rfl rfl rdI rfl<|oX .box .id wA Tryz.underlying179 sz5k rfl<|sP (x':=List.set (List.set (List.set oA (Int.toNat (IntKind.wrap .i64 (4*yA))) (IntKind.wrap .u8 (shrI .u32 zA 24))) (Int.toNat (IntKind.wrap .i64 ((IntKind.wrap .i64 (4*yA))+1))) (IntKind.wrap .u8 (shrI .u32 zA 16))) (Int.toNat (IntKind.wrap .i64 ((IntKind.wrap .i64 (4*yA))+2))) (IntKind.wrap .u8 (shrI .u32 zA 8))) .box (.ix .id wA) sz5k rfl rfl rdI rfl<|oX .box .id gA Tryz.underlying179 sz5k rfl<|sP (x':=List.set (List.set (List.set (List.set oA (Int.toNat (IntKind.wrap .i64 (4*yA))) (IntKind.wrap .u8 (shrI .u32 zA 24))) (Int.toNat (IntKind.wrap .i64 ((IntKind.wrap .i64 (4*yA))+1))) (IntKind.wrap .u8 (shrI .u32 zA 16))) (Int.toNat (IntKind.wrap .i64 ((IntKind.wrap .i64 (4*yA))+2))) (IntKind.wrap .u8 (shrI .u32 zA 8))) (Int.toNat (IntKind.wrap .i64 ((IntKind.wrap .i64 (4*yA))+3))) (IntKind.wrap .u8 zA)) .box (.ix .id gA) sz5k rfl rfl rdI rfl<|nl<|bN<|tn<|rg<|b_ rfl<|m_ rfl<|nl<|f1<|nx () xA rfl rfl
   ·refine f1<|fz (t:=6) rfl<|xt<|te ?_
    cases aj xA uA
    exact te<|bh<|tn<|wr (pA _ (osi dA).symm) rfl
 ·refine bs nA fun pB yB nA=>sr<|a_ rfl<|nt<|bk<|lp yB (C:=Value) v3 (fun vA kA=>[(1,pb b1),(2,pb b2),(3,.raw (.int .u64 a0.n)),(4,.raw kA),(5,.raw (.int .i64 vA.2))]) (fun vA kA=>(.own K10 kA 5 vA.1)::(.box bu b1 253 a0)::(.box K4 b2 179 (List.replicate 32 (0:Int)))::L) rfl rfl fun vA kA tB hA zB=>?_
  obtain⟨uB,hB⟩:=vA
  dsimp only at hA⊢
  refine sq<|sr<|mb rfl<|nt<|it hA rfl (fun hA=>?_) (fun hA=>?_)
  ·exact gs hA fun bB hA=>bs hA fun xC vB hA=>ct<|sq<|bk<|rg<|m_ rfl<|m_ rfl<|ov (OpV.sh rfl rfl (by decide) rfl) rfl<|m_ rfl<|ov (OpV.sh rfl rfl (of_decide_eq_true bB) rfl) rfl<|oC (by kernel_rfl) Tryz.underlying5 rfl<|bF (ys:=[IntKind.wrap .u8 (shrI .u64 (shlI .u64 a0.n 3) hB)]) Tryz.underlying22 ET5 (BldA.cons rfl rfl rdI (BldA.nil _)) rfl rfl<|ap vB Tryz.underlying22 AT5 rfl rfl rdV rfl fun oB=>a_ rfl<|nl<|bN<|tn<|rg<|mb rfl<|a_ rfl<|nl<|nx oB hA rfl rfl
  ·refine fzO (t:=4) rfl<|xt<|te ?_
   cases aj hA zB
   exact te<|bh<|tn<|wr (eB _ (osi nA).symm) rfl
noncomputable def gW (a0:List Int):Option (List Int):=
 (i8).bind fun y2=>
 (cF y2 a0).bind fun y4=>
 (dq y4).bind fun y6=>
 some y6
theorem o34 {a0:List Int} {r0:(List Int)} (hF:gW a0=some r0) (L:List Res):Ok Tryz.prog 210 [SV.val K7 a0] L (SV.val K4 r0) L:=by
 unfold gW at hF
 refine okI 7 Tryz.func210 rfl rfl rfl fun F0=>?_
 refine bs hF fun y2 h3 hF=>bs hF fun y4 h5 hF=>bs hF fun y6 h7 hF=>sr<|al ZT179 rfl fun b1=>ns<|cx Tryz.call211 rfl (o28 h3 _)<|m_ rfl<|cx Tryz.call168 rfl (o32 h5 _)<|cx Tryz.call169 rfl (o33 h7 _)<|sP (x':=y6) .box .id sz179k rfl rfl rdV rfl<|nl<|fz (t:=2) rfl<|tn<|rc ?_
 cases osi hF
 exact rs Tryz.results210 (.ce rfl kt179 .nil) rfl rfl
noncomputable def fB (a0:List Int) (a1:Int):Option aq:=
 ((bif decide ((a0.length:Int)>64) then
  (gW a0).bind fun zA=>
  some zA
 else
  some a0
  :Option (List Int))).bind fun x6=>
 bif decide ((Int.toNat 0)≤(Int.toNat 64)∧(Int.toNat 64)≤64) then
 (((Loop.run (S:=(Int×(List Int))) (R:=(List Int)) (fun(xA,yA)=>
   bif decide (xA<64) then
    (idx yA xA).bind fun hA=>
    (idx yA xA).bind fun dA=>
    some (.next (IntKind.wrap .i64 (xA+1),List.set yA (Int.toNat xA) (xorI .u8 hA a1)))
   else
    some (.done yA)) (0,over (List.replicate 64 (0:Int)) (Int.toNat 0) (Int.toNat 64) x6)).bind fun bA=>
 some bA
  :Option (List Int))).bind fun vA=>
 (i8).bind fun oA=>
 (cF oA vA).bind fun kA=>
 some kA
 else none
theorem o35 {a0:List Int} {a1:Int} {r0:aq} (hF:fB a0 a1=some r0) (L:List Res):Ok Tryz.prog 167 [SV.val K7 a0,SV.raw (.int .u8 a1)] L (SV.val bu r0) L:=by
 unfold fB at hF
 refine okI 30 Tryz.func167 rfl rfl rfl fun F0=>?_
 refine bs hF fun x6 h8 hF=>sr<|al ZT253 rfl fun b1=>ns<|al ZT251 rfl fun b2=>nt<|sq<|afr (r:=x6) (fun x6=>[(0,.val K7 x6),(1,.raw (.int .u8 a1)),(4,pb b1),(5,pb b2)]) (fun x6=>((.box bu b1 253 (⟨(List.replicate 8 (0:Int)),(List.replicate 64 (0:Int)),(0:Int)⟩:aq))::(.box (kArr 64 K10) b2 251 (List.replicate 64 (0:Int)))::L)) ?_ fun K k9=>?_
 ·refine gs hF fun yA hF=>sr<|ov (OpV.slP (l:=0) (h:=64) Tryz.underlying251 sz5k rfl rfl rfl (by decide) (by decide) (by decide)) rfl<|m_ rfl ?_
  replace yA:(Int.toNat 0)≤(Int.toNat 64)∧(Int.toNat 64)≤64:=of_decide_eq_true yA
  refine bs hF fun hA bA hF=>f1<|Under.cpB (x':=over (List.replicate 64 (0:Int)) (Int.toNat 0) (Int.toNat 64) x6) .box .id (And.left yA) (And.right yA) (na (And.right yA)) Tryz.underlying22 sz5k rfl rfl (.sl rdV) rfl rfl<|nt<|sq<|afr (r:=hA) (fun hA=>[(4,pb b1),(5,.ptr (kArr 64 K10) hA)]) (fun hA=>((.box bu b1 253 (⟨(List.replicate 8 (0:Int)),(List.replicate 64 (0:Int)),(0:Int)⟩:aq))::L)) ?_ fun K dA=>?_
  ·refine bs hF fun uA eA hF=>bs hF fun cA qA hF=>sq<|ph rfl<|gV [0,1] [[],[5]] 1 (by kernel_rfl) rfl<|Vq.v (fun G T hG=>cx Tryz.call211 rfl (o28 eA _)<|Vq.end rfl)<|vo (fun _=>OpV.slA Tryz.underlying251 sz5 rfl) rfl<|vn<|p1 2 rfl rfl<|cx Tryz.call168 rfl (o32 qA _)<|pn<|p1 3 rfl rfl<|sP (x':=cA) .box .id sz253k rfl rfl rdV rfl<|pn<|pd rfl<|fz (t:=4) rfl<|tn<|rc ?_
   cases osi hF
   exact rs Tryz.results167 (.ce rfl kt253 .nil) rfl rfl
  ·refine bs bA fun xB rA bA=>sr<|m_ rfl<|nt<|bk<|f1<|lp rA () (fun zA vA=>[(1,.raw (.int .u8 a1)),(4,pb b1),(5,pb b2),(17,.raw (.int .i64 zA.1))]) (fun zA vA=>(.box bu b1 253 (⟨(List.replicate 8 (0:Int)),(List.replicate 64 (0:Int)),(0:Int)⟩:aq))::(.box (kArr 64 K10) b2 251 zA.2)::L) rfl rfl fun zA vA yB xA wA=>?_
   obtain⟨gA,mA⟩:=zA
   dsimp only at xA⊢
   refine sr<|b_ rfl<|nt<|sq<|it xA rfl (fun xA=>?_) (fun xA=>?_)
   ·exact bs xA fun nA oA xA=>bs xA fun zB kA xA=>ct<|sq<|bk<|sr<|m_ rfl<|a_ rfl<|nt<|rg<|m_ rfl<|f1<|oX .box .id oA Tryz.underlying251 sz5k rfl<|lP .box (.ix .id oA) kt5k rfl rfl<|rI (t:=22) rfl<|mb rfl<|oX .box .id kA Tryz.underlying251 sz5k rfl<|sP (x':=List.set mA (Int.toNat gA) (xorI .u8 nA a1)) .box (.ix .id kA) sz5k rfl rfl rdI rfl<|nl<|bN<|tn<|rg<|b_ rfl<|m_ rfl<|nl<|f1<|nx () xA rfl rfl
   ·refine f1<|fz (t:=5) rfl<|xt<|te ?_
    cases aj xA wA
    exact te<|bh<|tn<|wr (dA _ (osi bA).symm) rfl
 ·refine sr<|m_ rfl<|oN Tryz.underlying22 rfl<|b_ rfl<|nt<|it h8 rfl (fun h8=>?_) (fun h8=>?_)
  ·exact bs h8 fun pA tA h8=>sr<|m_ rfl<|cx Tryz.call210 rfl (o34 tA _)<|al ZT179 rfl fun hB=>sP (x':=pA) .box .id sz179k rfl rfl rdV rfl<|nl<|fz (t:=6) rfl<|tn<|rg<|ov (OpV.slA Tryz.underlying179 sz5 rfl) rfl<|a_ rfl<|nt<|f1<|wr (k9 _ (osi h8).symm) rfl
  ·exact ct<|f1<|wr (k9 _ (osi h8).symm) rfl
noncomputable def f8 (a0:List Int) (a1:List Int):Option (List Int):=
 (fB a0 54).bind fun y2=>
 (cF y2 a1).bind fun y4=>
 (dq y4).bind fun y6=>
 (fB a0 92).bind fun xA=>
 (cF xA y6).bind fun yA=>
 (dq yA).bind fun zA=>
 some zA
theorem o36 {a0 a1:List Int} {r0:(List Int)} (hF:f8 a0 a1=some r0) (L:List Res):Ok Tryz.prog 104 [SV.val K7 a0,SV.val K7 a1] L (SV.val K4 r0) L:=by
 unfold f8 at hF
 refine okI 16 Tryz.func104 rfl rfl rfl fun F0=>?_
 refine bs hF fun y2 h3 hF=>bs hF fun y4 h5 hF=>bs hF fun y6 h7 hF=>bs hF fun bA xA hF=>bs hF fun vA yA hF=>bs hF fun zA hA hF=>sr<|al ZT179 rfl fun b1=>ns<|m_ rfl<|cx Tryz.call167 rfl (o35 h3 _)<|m_ rfl<|cx Tryz.call168 rfl (o32 h5 _)<|cx Tryz.call169 rfl (o33 h7 _)<|al ZT179 rfl fun b8=>sP (x':=y6) .box .id sz179k rfl rfl rdV rfl<|nl<|fz (t:=5) rfl<|tn<|sq<|ph rfl<|gV [0,1,2] [[0],[11],[5]] 1 (by kernel_rfl) rfl<|vm_ rfl<|Vq.v (fun G T hG=>cx Tryz.call167 rfl (o35 xA _)<|Vq.end rfl)<|vo (fun _=>OpV.slA Tryz.underlying179 sz5 rfl) rfl<|vn<|p1 3 rfl rfl<|cx Tryz.call168 rfl (o32 yA _)<|pn<|p1 4 rfl rfl<|cx Tryz.call169 rfl (o33 hA _)<|pn<|p1 5 rfl rfl<|sP (x':=zA) .box .id sz179k rfl rfl rdV rfl<|pn<|pd rfl<|fz (t:=4) rfl<|tn<|rc ?_
 cases osi hF
 exact rs Tryz.results104 (.ce rfl kt179 .nil) rfl rfl
noncomputable def ij (a0:List Int) (a1:List Int):Option (List Int):=
 (f8 a0 a1).bind fun y2=>
 some y2
theorem o37 {a0 a1:List Int} {r0:(List Int)} (hF:ij a0 a1=some r0) (L:List Res):Ok Tryz.prog 158 [SV.val K7 a0,SV.val K7 a1] L (SV.val K4 r0) L:=by
 unfold ij at hF
 refine okI 8 Tryz.func158 rfl rfl rfl fun F0=>?_
 refine bs hF fun y2 h3 hF=>sr<|al ZT179 rfl fun b1=>ns<|m_ rfl<|m_ rfl<|cx Tryz.call104 rfl (o36 h3 _)<|sP (x':=y2) .box .id sz179k rfl rfl rdV rfl<|nl<|fz (t:=4) rfl<|tn<|rc ?_
 cases osi hF
 exact rs Tryz.results158 (.ce rfl kt179 .nil) rfl rfl
noncomputable def gi (a0:List Int) (a1:List Int) (a2:Int):Option ((List Int)×Int):=
 bif decide (a2<0) then
  some ([],2)
 else
  bif decide (a2>8160) then
   some ([],1)
  else
   bif mkB 0 (IntKind.wrap .i64 (a2+32)) then
   (((Loop.run (S:=((List Int)×(List Int)×Int)) (R:=(List Int)) (fun(xA,yA,zA)=>
     bif decide ((xA.length:Int)<a2) then
      bif mkB 0 (IntKind.wrap .i64 ((IntKind.wrap .i64 ((yA.length:Int)+(a1.length:Int)))+1)) then
      (app (List.replicate (Int.toNat 0) (0:Int)) yA).bind fun bA=>
      (app bA a1).bind fun vA=>
      (app vA [IntKind.wrap .u8 zA]).bind fun oA=>
      (f8 a0 oA).bind fun hA=>
      (app xA hA).bind fun kA=>
      some (.next (kA,hA,IntKind.wrap .i64 (zA+1)))
      else none
     else
      some (.done xA)) (List.replicate (Int.toNat 0) (0:Int),[],1)).bind fun dA=>
   some dA
    :Option (List Int))).bind fun eA=>
   (sub eA 0 a2).bind fun cA=>
   some (cA,0)
   else none
theorem o38 {a0 a1:List Int} {a2:Int} {r0:((List Int)×Int)} (hF:gi a0 a1 a2=some r0) (L:List Res):Ok Tryz.prog 159 [SV.val K7 a0,SV.val K7 a1,SV.raw (.int .i64 a2)] L (SV.tup [SV.val K7 r0.1,SV.raw (.int .i64 r0.2)]) L:=by
 unfold gi at hF
 refine okI 54 Tryz.func159 rfl rfl rfl fun F0=>?_
 refine sr<|a_ rfl<|a_ rfl<|nt<|sq<|sr<|mb rfl<|nt<|it hF rfl (fun hF=>?_) (fun hF=>?_)
 ·refine sr<|a_ rfl<|a_ rfl<|nt<|rt<|tV (K:=kSl K10) (x:=[]) (t:=6) rfl rdN ?_
  cases osi hF
  exact rs Tryz.results159 (.tm rfl (.tm rfl .nil)) rfl rfl
 ·refine ct<|sq<|sr<|mb rfl<|nt<|it hF rfl (fun hF=>?_) (fun hF=>?_)
  ·refine sr<|a_ rfl<|a_ rfl<|nt<|rt<|tV (K:=kSl K10) (x:=[]) (t:=6) rfl rdN ?_
   cases osi hF
   exact rs Tryz.results159 (.tm rfl (.tm rfl .nil)) rfl rfl
  ·refine gs hF fun h4 hF=>bs hF fun hA bA hF=>ct<|sr<|mb rfl<|Under.mk h4 Tryz.underlying22 AT5 rfl rfl rfl fun v3=>a_ rfl<|ns<|a_ rfl<|nt<|sq<|afr (r:=hA) (fun hA=>[(2,.raw (.int .i64 a2)),(8,.val K7 hA)]) (fun hA=>(L)) ?_ fun K pA=>?_
   ·refine bs hF fun qB vA hF=>sr<|m_ rfl<|m_ rfl<|ov (OpV.slH vA Tryz.underlying22 sz5 rfl rdV rfl) rfl<|a_ rfl<|a_ rfl<|nt<|rc ?_
    cases osi hF
    exact rs Tryz.results159 (.tm rfl (.tm rfl .nil)) rfl rfl
   ·refine bs bA fun tA oA bA=>sr<|a_ rfl<|nt<|bk<|tV (K:=kSl K10) (x:=[]) (t:=9) rfl rdN<|lp oA (C:=Value) v3 (fun yA zA=>[(0,.val K7 a0),(1,.val K7 a1),(2,.raw (.int .i64 a2)),(8,.raw zA),(9,.val K7 yA.2.1),(10,.raw (.int .i64 yA.2.2))]) (fun yA zA=>(.own K10 zA 5 yA.1)::L) rfl rfl fun yA zA uA xA kA=>?_
    obtain⟨xB,yB,dA⟩:=yA
    dsimp only at xA⊢
    refine sq<|sr<|m_ rfl<|ov (OpV.lenO Tryz.underlying22 rfl) rfl<|mb rfl<|nt<|it xA rfl (fun xA=>?_) (fun xA=>?_)
    ·exact gs xA fun eA xA=>bs xA fun zB cA xA=>bs xA fun hB qA xA=>bs xA fun bB rA xA=>bs xA fun wA gA xA=>bs xA fun vB mA xA=>ct<|sq<|bk<|sr<|m_ rfl<|oN Tryz.underlying22 rfl<|m_ rfl<|oN Tryz.underlying22 rfl<|b_ rfl<|b_ rfl<|Under.mk eA Tryz.underlying22 AT5 rfl rfl rfl fun oB=>a_ rfl<|ns<|m_ rfl<|m_ rfl<|ap cA Tryz.underlying22 AT5 rfl rfl rdV rfl fun kB=>a_ rfl<|ns<|m_ rfl<|m_ rfl<|ap qA Tryz.underlying22 AT5 rfl rfl rdV rfl fun dB=>a_ rfl<|ns<|m_ rfl<|m_ rfl<|oC (by kernel_rfl) Tryz.underlying5 rfl<|bF (ys:=[IntKind.wrap .u8 dA]) Tryz.underlying22 ET5 (BldA.cons rfl rfl rdI (BldA.nil _)) rfl rfl<|ap rA Tryz.underlying22 AT5 rfl rfl rdV rfl fun eB=>a_ rfl<|nl<|fzO (t:=11) rfl<|tn<|sr<|m_ rfl<|m_ rfl<|cx Tryz.call104 rfl (o36 gA _)<|al ZT179 rfl fun cB=>sP (x':=wA) .box .id sz179k rfl rfl rdV rfl<|nl<|fz (t:=12) rfl<|tn<|sr<|ov (OpV.slA Tryz.underlying179 sz5 rfl) rfl<|a_ rfl<|nt<|rg<|m_ rfl<|m_ rfl<|ap mA Tryz.underlying22 AT5 rfl rfl rdV rfl fun nA=>a_ rfl<|nl<|bN<|tn<|rg<|mb rfl<|a_ rfl<|nl<|nx nA xA rfl rfl
    ·refine fzO (t:=8) rfl<|xt<|te ?_
     cases aj xA kA
     exact te<|bh<|tn<|wr (pA _ (osi bA).symm) rfl
noncomputable def eP (a0:List Int) (a1:List Int) (a2:List Int) (a3:Int):Option ((List Int)×Int):=
 (ij a1 a0).bind fun y1=>
 (gi y1 a2 a3).bind fun y4=>
 some (y4.1,y4.2)
theorem o39 {a0 a1 a2:List Int} {a3:Int} {r0:((List Int)×Int)} (hF:eP a0 a1 a2 a3=some r0) (L:List Res):Ok Tryz.prog 97 [SV.val K7 a0,SV.val K7 a1,SV.val K7 a2,SV.raw (.int .i64 a3)] L (SV.tup [SV.val K7 r0.1,SV.raw (.int .i64 r0.2)]) L:=by
 unfold eP at hF
 refine okI 20 Tryz.func97 rfl rfl rfl fun F0=>?_
 refine bs hF fun y1 h2 hF=>bs hF fun y4 h5 hF=>sr<|a_ rfl<|a_ rfl<|ns<|m_ rfl<|m_ rfl<|cx Tryz.call158 rfl (o37 h2 _)<|al ZT179 rfl fun b3=>sP (x':=y1) .box .id sz179k rfl rfl rdV rfl<|nl<|fz (t:=10) rfl<|tn<|sr<|ov (OpV.slA Tryz.underlying179 sz5 rfl) rfl<|m_ rfl<|m_ rfl<|cx Tryz.call159 rfl (o38 h5 _)<|oE rfl<|oE rfl<|a_ rfl<|a_ rfl<|nt<|rc ?_
 cases osi hF
 exact rs Tryz.results97 (.tm rfl (.tm rfl .nil)) rfl rfl
noncomputable def eL (a0:List Int) (a1:Int):Option ((List Int)×Int):=
 bif (((a0.length:Int) != 32)||(decide (a1<0)))||(decide (a1>4611686018427387904)) then
  some ([],2)
 else
  bif mkB 8 8 then
  (((Loop.run (S:=((List Int)×Int)) (R:=(List Int)) (fun(yA,xA)=>
    bif decide (xA<((List.replicate (Int.toNat 8) (0:Int)).length:Int)) then
     bif decide (0≤(IntKind.wrap .i64 (56 - (IntKind.wrap .i64 (8*xA))))) then
     (idx yA xA).bind fun vA=>
     some (.next (List.set yA (Int.toNat xA) (IntKind.wrap .u8 (shrI .i64 a1 (IntKind.wrap .i64 (56 - (IntKind.wrap .i64 (8*xA)))))),IntKind.wrap .i64 (xA+1)))
     else none
    else
     some (.done yA)) (List.replicate (Int.toNat 8) (0:Int),0)).bind fun hA=>
  some hA
   :Option (List Int))).bind fun bA=>
  bif decide (0<[99,104,117,114,110,32,104,111,112].length) then
  (eP a0 bA [99,104,117,114,110,32,104,111,112] 32).bind fun zA=>
  some (zA.1,zA.2)
  else none
  else none
theorem o40 {a0:List Int} {a1:Int} {r0:((List Int)×Int)} (hF:eL a0 a1=some r0) (L:List Res):Ok Tryz.prog 48 [SV.val K7 a0,SV.raw (.int .i64 a1)] L (SV.tup [SV.val K7 r0.1,SV.raw (.int .i64 r0.2)]) L:=by
 unfold eL at hF
 refine okI 42 Tryz.func48 rfl rfl rfl fun F0=>?_
 refine sr<|a_ rfl<|a_ rfl<|nt<|sq<|sr<|m_ rfl<|oN Tryz.underlying22 rfl<|b_ rfl<|m_ rfl<|cr 14 (((a0.length:Int) != 32)||(decide (a1<0))) ?_ (fun k=>?_)
 ·refine m_ rfl<|cr 18 ((((a0.length:Int) != 32)||(decide (a1<0)))||(decide (a1>4611686018427387904))) ?_ (fun k=>?_)
  ·refine nt<|it hF rfl (fun hF=>?_) (fun hF=>?_)
   ·refine sr<|a_ rfl<|a_ rfl<|nt<|rt<|tV (K:=kSl K10) (x:=[]) (t:=4) rfl rdN ?_
    cases osi hF
    exact rs Tryz.results48 (.tm rfl (.tm rfl .nil)) rfl rfl
   ·refine gs hF fun h9 hF=>bs hF fun zA hA hF=>ct<|sr<|Under.mk h9 Tryz.underlying22 AT5 rfl rfl rfl fun v8=>a_ rfl<|nt<|sq<|afr (r:=zA) (fun zA=>[(0,.val K7 a0),(6,.val K7 zA)]) (fun zA=>(L)) ?_ fun K kA=>?_
    ·refine gs hF fun dA hF=>bs hF fun gA eA hF=>sr<|m_ rfl<|m_ rfl<|bO (ys:=[99,104,117,114,110,32,104,111,112]) Tryz.underlying22 ET5 (BldA.cons rfl rfl rdI (BldA.cons rfl rfl rdI (BldA.cons rfl rfl rdI (BldA.cons rfl rfl rdI (BldA.cons rfl rfl rdI (BldA.cons rfl rfl rdI (BldA.cons rfl rfl rdI (BldA.cons rfl rfl rdI (BldA.cons rfl rfl rdI (BldA.nil _)))))))))) rfl rfl fun mA=>Under.cvS Tryz.underlying22 Tryz.underlying5 (of_decide_eq_true dA) rfl rfl<|cx Tryz.call97 rfl (o39 eA _)<|oE rfl<|oE rfl<|a_ rfl<|a_ rfl<|nt<|rc ?_
     cases osi hF
     exact rs Tryz.results48 (.tm rfl (.tm rfl .nil)) rfl rfl
    ·refine bs hA fun nA cA hA=>sr<|m_ rfl<|ov (OpV.lenO Tryz.underlying22 rfl) rfl<|m_ rfl<|nt<|bk<|lp cA () (fun yA vA=>[(0,.val K7 a0),(1,.raw (.int .i64 a1)),(6,.raw v8),(21,.raw (.int .i64 ((List.replicate (Int.toNat 8) (0:Int)).length:Int))),(22,.raw (.int .i64 yA.2))]) (fun yA vA=>(.own K10 v8 5 yA.1)::L) rfl rfl fun yA vA pA xA qA=>?_
     obtain⟨rA,oA⟩:=yA
     dsimp only at xA⊢
     refine sr<|b_ rfl<|nt<|sq<|it xA rfl (fun xA=>?_) (fun xA=>?_)
     ·exact gs xA fun wA xA=>bs xA fun tA bA xA=>ct<|sq<|bk<|sr<|m_ rfl<|a_ rfl<|nt<|rg<|m_ rfl<|m_ rfl<|m_ rfl<|mb rfl<|b_ rfl<|ov (OpV.sh rfl rfl (of_decide_eq_true wA) rfl) rfl<|oC (by kernel_rfl) Tryz.underlying5 rfl<|ov (OpV.ixO bA Tryz.underlying22 sz5k rfl rfl) rfl<|sP (x':=List.set rA (Int.toNat oA) (IntKind.wrap .u8 (shrI .i64 a1 (IntKind.wrap .i64 (56 - (IntKind.wrap .i64 (8*oA))))))) (.own bA) (.ix .id bA) sz5k rfl rfl rdI rfl<|nl<|bN<|tn<|rg<|b_ rfl<|m_ rfl<|nl<|nx () xA rfl rfl
     ·refine fzO (t:=6) rfl<|xt<|te ?_
      cases aj xA qA
      exact te<|bh<|tn<|wr (kA _ (osi hA).symm) rfl
  ·refine by_ (t:=15) rfl (fun c4=>?_) (fun c4=>?_)
   ·exact sk_ c4 rfl<|sk_ c4 rfl<|pT c4 rfl<|rf 2 (or_t (e:=decide (a1>4611686018427387904)) c4) rfl k
   ·exact gc_ c4 rfl<|m_ rfl<|gc_ c4 rfl<|b_ rfl<|pF c4 rfl<|rf 2 (or_f c4) rfl k
 ·refine by_ (t:=11) rfl (fun c1=>?_) (fun c1=>?_)
  ·exact sk_ c1 rfl<|sk_ c1 rfl<|pT c1 rfl<|rf 2 (or_t (e:=decide (a1<0)) c1) rfl k
  ·exact gc_ c1 rfl<|m_ rfl<|gc_ c1 rfl<|b_ rfl<|pF c1 rfl<|rf 2 (or_f c1) rfl k
noncomputable def cK (a0:Int):Option Int:=
 bif (decide (a0<1))||(decide (a0>8)) then
  some 0
 else
  some (IntKind.wrap .i64 (48+(IntKind.wrap .i64 (34*a0))))
theorem o41 {a0:Int} {r0:Int} (hF:cK a0=some r0) (L:List Res):Ok Tryz.prog 79 [SV.raw (.int .i64 a0)] L (SV.raw (.int .i64 r0)) L:=by
 unfold cK at hF
 refine okI 12 Tryz.func79 rfl rfl rfl fun F0=>?_
 refine sr<|a_ rfl<|nt<|sq<|sr<|mb rfl<|m_ rfl<|cr 8 ((decide (a0<1))||(decide (a0>8))) ?_ (fun k=>?_)
 ·refine nt<|it hF rfl (fun hF=>?_) (fun hF=>?_)
  ·refine sr<|a_ rfl<|nt<|rt ?_
   cases osi hF
   exact rs Tryz.results79 (.tm rfl .nil) rfl rfl
  ·refine ct<|sr<|mb rfl<|b_ rfl<|a_ rfl<|nt<|rc ?_
   cases osi hF
   exact rs Tryz.results79 (.tm rfl .nil) rfl rfl
 ·refine by_ (t:=5) rfl (fun c1=>?_) (fun c1=>?_)
  ·exact sk_ c1 rfl<|sk_ c1 rfl<|pT c1 rfl<|rf 2 (or_t (e:=decide (a0>8)) c1) rfl k
  ·exact gc_ c1 rfl<|m_ rfl<|gc_ c1 rfl<|b_ rfl<|pF c1 rfl<|rf 2 (or_f c1) rfl k
noncomputable def el (a0:List Int):Option Bool:=
 (((Loop.run (S := Int) (R := (Unit ⊕ Bool)) (fun xA =>
   bif decide (xA<(a0.length:Int)) then
    (idx a0 xA).bind fun yA=>
    bif yA != 0 then
     some (.done (.inr false))
    else
     some (.next (IntKind.wrap .i64 (xA+1)))
   else
    some (.done (.inl ()))) 0).bind fun zA=>match zA with
  | .inl _=>
   some (.inr ())
  | .inr z=>
   some (.inl z)
  : Option (Bool ⊕ Unit))).bind fun hA => match hA with
  | .inl z=>
   some z
  | .inr _=>
   some true
theorem o42 {a0:List Int} {r0:Bool} (hF:el a0=some r0) (L:List Res):Ok Tryz.prog 160 [SV.val K7 a0] L (SV.raw (.bool r0)) L:=by
 unfold el at hF
 refine okI 14 Tryz.func160 rfl rfl rfl fun F0=>?_
 refine bs hF fun oA yA hF=>sr<|a_ rfl<|nt<|sq<|Under.after (fun X=>∀(_:Unit),oA=(.inr ())→Under F0 14 [] (L) X) ?_ ?_
 ·intro _ zA
  replace zA:=zA.symm
  subst zA
  refine sr<|a_ rfl<|nt<|rc ?_
  cases osi hF
  exact rs Tryz.results160 (.tm rfl .nil) rfl rfl
 ·intro K kA
  refine bs yA fun cA dA yA=>sr<|m_ rfl<|oN Tryz.underlying22 rfl<|m_ rfl<|nt<|bk<|lp dA () (fun hA bA=>[(5,.val K7 a0),(6,.raw (.int .i64 (a0.length:Int))),(7,.raw (.int .i64 hA))]) (fun hA bA=>L) rfl rfl fun hA bA qA xA vA=>?_
  refine sr<|b_ rfl<|nt<|sq<|it xA rfl (fun xA=>?_) (fun xA=>?_)
  ·refine bs xA fun rA eA xA=>ct<|sq<|bk<|sr<|oS eA Tryz.underlying22 sz5 rfl<|oI kt5 rfl<|a_ rfl<|ns<|mb rfl<|nt<|it xA rfl (fun xA=>?_) (fun xA=>?_)
   ·refine sr<|a_ rfl<|nt<|rc<|Under.bR<|tr ?_
    cases aj xA vA
    refine tr<|Under.bR<|tr ?_
    cases osi yA
    cases osi hF
    exact rs Tryz.results160 (.tm rfl .nil) rfl rfl
   ·exact cs<|bN<|tn<|rg<|b_ rfl<|m_ rfl<|nl<|nx () xA rfl rfl
  ·refine xt<|te ?_
   cases aj xA vA
   exact te<|bh<|tn<|wr (kA () (osi yA).symm) rfl
noncomputable def fW (a0:List Int) (a1:Int):Option ((List Int)×Int):=
 bif (a0.length:Int) != 320 then
  some ([],50)
 else
  bif (decide (a1<0))||(decide (a1>320)) then
   some ([],2)
  else
   (sub a0 a1 (a0.length:Int)).bind fun x6=>
   (el x6).bind fun y8=>
   bif !y8 then
    some ([],51)
   else
    (sub a0 0 a1).bind fun xA=>
    (app [] xA).bind fun yA=>
    some (yA,0)
theorem o43 {a0:List Int} {a1:Int} {r0:((List Int)×Int)} (hF:fW a0 a1=some r0) (L:List Res):Ok Tryz.prog 98 [SV.val K7 a0,SV.raw (.int .i64 a1)] L (SV.tup [SV.val K7 r0.1,SV.raw (.int .i64 r0.2)]) L:=by
 unfold fW at hF
 refine okI 27 Tryz.func98 rfl rfl rfl fun F0=>?_
 refine sr<|a_ rfl<|a_ rfl<|nt<|sq<|bk<|sr<|m_ rfl<|oN Tryz.underlying22 rfl<|b_ rfl<|a_ rfl<|nt<|it hF rfl (fun hF=>?_) (fun hF=>?_)
 ·refine sr<|a_ rfl<|a_ rfl<|nt<|rc<|Under.bR<|tr<|tV (K:=kSl K10) (x:=[]) (t:=4) rfl rdN ?_
  cases osi hF
  exact rs Tryz.results98 (.tm rfl (.tm rfl .nil)) rfl rfl
 ·refine sr<|mb rfl<|m_ rfl<|cr 16 ((decide (a1<0))||(decide (a1>320))) ?_ (fun k=>?_)
  ·refine a_ rfl<|nt<|it hF rfl (fun hF=>?_) (fun hF=>?_)
   ·refine sr<|a_ rfl<|a_ rfl<|nt<|rc<|Under.bR<|tr<|tV (K:=kSl K10) (x:=[]) (t:=4) rfl rdN ?_
    cases osi hF
    exact rs Tryz.results98 (.tm rfl (.tm rfl .nil)) rfl rfl
   ·refine bs hF fun x6 h7 hF=>bs hF fun y8 h9 hF=>sr<|m_ rfl<|m_ rfl<|ov (OpV.slL h7 Tryz.underlying22 sz5 rfl rdV rfl) rfl<|cx Tryz.call160 rfl (o42 h9 _)<|ov (OpV.not rfl) rfl<|a_ rfl<|nt<|it hF rfl (fun hF=>?_) (fun hF=>?_)
    ·refine sr<|a_ rfl<|a_ rfl<|nt<|rc<|Under.bR<|tr<|tV (K:=kSl K10) (x:=[]) (t:=4) rfl rdN ?_
     cases osi hF
     exact rs Tryz.results98 (.tm rfl (.tm rfl .nil)) rfl rfl
    ·refine bs hF fun zA xA hF=>bs hF fun hA yA hF=>cs<|bN<|tn<|sr<|m_ rfl<|m_ rfl<|ov (OpV.slH xA Tryz.underlying22 sz5 rfl rdV rfl) rfl<|Under.ownNil (K:=kInt .u8) (e:=5)<|ap yA Tryz.underlying22 AT5 rfl rfl rdV rfl fun bA=>a_ rfl<|a_ rfl<|nl<|fzO (t:=4) rfl<|tn<|rc ?_
     cases osi hF
     exact rs Tryz.results98 (.tm rfl (.tm rfl .nil)) rfl rfl
  ·refine by_ (t:=13) rfl (fun c2=>?_) (fun c2=>?_)
   ·exact sk_ c2 rfl<|sk_ c2 rfl<|pT c2 rfl<|rf 2 (or_t (e:=decide (a1>320)) c2) rfl k
   ·exact gc_ c2 rfl<|m_ rfl<|gc_ c2 rfl<|b_ rfl<|pF c2 rfl<|rf 2 (or_f c2) rfl k
noncomputable def eu (a0:List Int) (a1:List Int):Option (aT×Int):=
 bif (a0.length:Int) != 32 then
  some ((⟨(List.replicate 16 (0:Int)),(List.replicate 32 (0:Int)),(List.replicate 32 (0:Int))⟩:aT),2)
 else
  bif decide (0<[99,104,117,114,110].length) then
  (eP a0 a1 [99,104,117,114,110] 80).bind fun y5=>
  bif y5.2 != 0 then
   some ((⟨(List.replicate 16 (0:Int)),(List.replicate 32 (0:Int)),(List.replicate 32 (0:Int))⟩:aT),y5.2)
  else
   (sub y5.1 0 16).bind fun x9=>
   bif decide (16≤x9.length) then
   (sub y5.1 16 48).bind fun xA=>
   bif decide (32≤xA.length) then
   (sub y5.1 48 (y5.1.length:Int)).bind fun yA=>
   bif decide (32≤yA.length) then
   some ((⟨List.take 16 x9,List.take 32 xA,List.take 32 yA⟩:aT),0)
   else none
   else none
   else none
  else none
theorem o44 {a0 a1:List Int} {r0:(aT×Int)} (hF:eu a0 a1=some r0) (L:List Res):Ok Tryz.prog 99 [SV.val K7 a0,SV.val K2 a1] L (SV.tup [SV.val dF r0.1,SV.raw (.int .i64 r0.2)]) L:=by
 unfold eu at hF
 refine okI 37 Tryz.func99 rfl rfl rfl fun F0=>?_
 refine sr<|bX (K:=kArr 16 K10) rfl rdV rfl<|al ZT181 rfl fun b1=>a_ rfl<|nt<|sq<|sr<|m_ rfl<|oN Tryz.underlying22 rfl<|b_ rfl<|nt<|it hF rfl (fun hF=>?_) (fun hF=>?_)
 ·refine sr<|ov (OpV.bst BT181 (Bld.nil _)) rfl<|sP (x':=(⟨(List.replicate 16 (0:Int)),(List.replicate 32 (0:Int)),(List.replicate 32 (0:Int))⟩:aT)) .box .id sz181k rfl rfl rdV rfl<|a_ rfl<|nl<|fz (t:=4) rfl<|tn<|rt ?_
  cases osi hF
  exact rs Tryz.results99 (.ce rfl kt181 (.tm rfl .nil)) rfl rfl
 ·refine gs hF fun h4 hF=>bs hF fun y5 h6 hF=>ct<|sr<|m_ rfl<|ov (OpV.slA Tryz.underlying64 sz5 rfl) rfl<|bO (ys:=[99,104,117,114,110]) Tryz.underlying22 ET5 (BldA.cons rfl rfl rdI (BldA.cons rfl rfl rdI (BldA.cons rfl rfl rdI (BldA.cons rfl rfl rdI (BldA.cons rfl rfl rdI (BldA.nil _)))))) rfl rfl fun v3=>Under.cvS Tryz.underlying22 Tryz.underlying5 (of_decide_eq_true h4) rfl rfl<|cx Tryz.call97 rfl (o39 h6 _)<|m_ rfl<|oE rfl<|oE rfl<|a_ rfl<|a_ rfl<|nt<|sq<|sr<|mb rfl<|nt<|it hF rfl (fun hF=>?_) (fun hF=>?_)
  ·refine sr<|ov (OpV.bst BT181 (Bld.nil _)) rfl<|m_ rfl<|sP (x':=(⟨(List.replicate 16 (0:Int)),(List.replicate 32 (0:Int)),(List.replicate 32 (0:Int))⟩:aT)) .box .id sz181k rfl rfl rdV rfl<|a_ rfl<|nl<|fz (t:=4) rfl<|tn<|rt ?_
   cases osi hF
   exact rs Tryz.results99 (.ce rfl kt181 (.tm rfl .nil)) rfl rfl
  ·refine bs hF fun x9 zA hF=>gs hF fun hA hF=>bs hF fun xA bA hF=>gs hF fun vA hF=>bs hF fun yA oA hF=>gs hF fun kA hF=>ct<|sq<|ph rfl<|gV [0,1,2,3,4,5,6,7,8,9,10,11] [[6],[24],[25],[26],[6],[28],[29],[30],[6],[32],[33],[34]] 1 (by kernel_rfl) rfl<|vm_ rfl<|vo (fun _=>OpV.slH zA Tryz.underlying22 sz5 rfl rdV rfl) rfl<|Vq.v (fun G T hG=>ov (OpV.s2a (of_decide_eq_true hA) rfl Tryz.underlying64 rfl rdV) rfl<|Vq.end rfl)<|vo (fun _=>OpV.ld kt64 rfl) rfl<|vm_ rfl<|vo (fun _=>OpV.slLH bA Tryz.underlying22 sz5 rfl rdV rfl rfl) rfl<|Vq.v (fun G T hG=>ov (OpV.s2a (of_decide_eq_true vA) rfl Tryz.underlying179 rfl rdV) rfl<|Vq.end rfl)<|vo (fun _=>OpV.ld kt179 rfl) rfl<|vm_ rfl<|vo (fun _=>OpV.slL oA Tryz.underlying22 sz5 rfl rdV rfl) rfl<|Vq.v (fun G T hG=>ov (OpV.s2a (of_decide_eq_true kA) rfl Tryz.underlying179 rfl rdV) rfl<|Vq.end rfl)<|vo (fun _=>OpV.ld kt179 rfl) rfl<|vn<|p1 12 rfl rfl<|ov (OpV.bst BT181 (Bld.cons (x':=(⟨List.take 16 x9,(List.replicate 32 (0:Int)),(List.replicate 32 (0:Int))⟩:aT)) rfl rfl rdV (by intro q hq;simp only[List.mem_cons,List.not_mem_nil,or_false] at hq;rcases hq with rfl|rfl<;>rfl) (Bld.cons (x':=(⟨List.take 16 x9,List.take 32 xA,(List.replicate 32 (0:Int))⟩:aT)) rfl rfl rdV ⟨rfl,(by intro q hq;simp only[List.mem_cons,List.not_mem_nil,or_false] at hq;rcases hq with rfl<;>rfl)⟩ (Bld.cons (x':=(⟨List.take 16 x9,List.take 32 xA,List.take 32 yA⟩:aT)) rfl rfl rdV ⟨rfl,⟨rfl,(fun q hq=>by simp at hq)⟩⟩ (Bld.nil _))))) rfl<|pn<|p1 13 rfl rfl<|sP (x':=(⟨List.take 16 x9,List.take 32 xA,List.take 32 yA⟩:aT)) .box .id sz181k rfl rfl rdV rfl<|pn<|p1 14 rfl rfl<|a_ rfl<|pn<|pd rfl<|fz (t:=4) rfl<|tn<|rc ?_
   cases osi hF
   exact rs Tryz.results99 (.ce rfl kt181 (.tm rfl .nil)) rfl rfl
noncomputable def ey (a0:aT) (a1:Int) (a2:List Int) (a3:List Int):Option (List Int):=
 (app [IntKind.wrap .u8 a1] a2).bind fun z2=>
 (app z2 a3).bind fun z6=>
 (f8 a0.Mac z6).bind fun y9=>
 (sub y9 0 16).bind fun xA=>
 some xA
theorem o45 {a0:aT} {a1:Int} {a2 a3:List Int} {r0:(List Int)} (hF:ey a0 a1 a2 a3=some r0) (L:List Res):Ok Tryz.prog 101 [SV.val dF a0,SV.raw (.int .i64 a1),SV.val K2 a2,SV.val K7 a3] L (SV.val K7 r0) L:=by
 unfold ey at hF
 refine okI 23 Tryz.func101 rfl rfl rfl fun F0=>?_
 refine bs hF fun z2 h3 hF=>bs hF fun z6 h7 hF=>bs hF fun y9 yA hF=>sr<|bX (K:=dF) rfl rdV rfl<|bX (K:=kArr 16 K10) rfl rdV rfl<|a_ rfl<|ns<|m_ rfl<|oC (by kernel_rfl) Tryz.underlying5 rfl<|bO (ys:=[IntKind.wrap .u8 a1]) Tryz.underlying22 ET5 (BldA.cons rfl rfl rdI (BldA.nil _)) rfl rfl fun v1=>ov (OpV.slA Tryz.underlying64 sz5 rfl) rfl<|ap h3 Tryz.underlying22 AT5 rfl rfl rdV rfl fun v4=>a_ rfl<|nt<|sq<|ph rfl<|Under.grpT (L:=L) [0,1,2,3,4,5,6] [[4],[16],[9],[3],[18,19],[17,20],[]] [⟨sk0 (.ptr K4 a0.Mac),[],[],[]⟩,⟨sk0 (.val K7 a0.Mac),[],[],[]⟩,⟨sk0 (.raw v4),[],[],[]⟩,⟨sk0 (.val K7 a3),[],[],[]⟩,⟨sk1 4 (fun u4=> .raw u4),[0],[(1,tk1 4 (fun u4=> .own K10 u4 5 z6))],[]⟩,⟨sk0 (.val K4 y9),[1],[],[]⟩,⟨sk1 6 (fun u6=> .raw (.pointer (some ⟨(vblk u6),0,none⟩))),[],[(2,tk1 6 (fun u6=> .box K4 (vblk u6) 179 (List.replicate 32 (0:Int))))],[]⟩] [(0,.own K10 v4 5 z2)] (fun T:List Res=>T) lf0 rfl (by kernel_rfl) rfl rfl (fun F hF0 xA=>?_)
 refine Tq.v (fun G T hG=>?_) ?_
 ·exact oF fb181k rfl<|Tq.end undef rfl rfl
 refine Tq.v (fun G T hG=>?_) ?_
 ·exact ov (OpV.slA Tryz.underlying179 sz5 rfl) rfl<|Tq.end undef rfl rfl
 refine Tq.v (fun G T hG=>?_) ?_
 ·exact m_ rfl<|Tq.end undef rfl rfl
 refine Tq.v (fun G T hG=>?_) ?_
 ·exact m_ rfl<|Tq.end undef rfl rfl
 refine Tq.st (.raw (xA 4)) [.own K10 v4 5 z2] rfl rfl (fun G T hG=>?_) ?_
 ·exact ap h7 Tryz.underlying22 AT5 rfl rfl rdV rfl fun v8=>Tq.end v8 rfl rfl
 refine Tq.st (.val K4 y9) [.own K10 (xA 4) 5 z6] rfl rfl (fun G T hG=>?_) ?_
 ·exact fzO (t:=20) rfl<|cx Tryz.call104 rfl (o36 yA _)<|Tq.end undef rfl rfl
 refine Tq.st (.raw (.pointer (some ⟨(vblk (xA 6)),0,none⟩))) [] rfl rfl (fun G T hG=>?_) ?_
 ·exact al ZT179 rfl fun zA=>Tq.end (.pointer (some ⟨zA,0,none⟩)) rfl rfl
 refine bs hF fun bA hA hF=>Tq.nil<|Under.le hF0<|p1 7 rfl rfl<|sP (x':=y9) .box .id sz179k rfl rfl rdV rfl<|pn<|pd rfl<|fz (t:=10) rfl<|tn<|sr<|ov (OpV.slF hA Tryz.underlying179 sz5 rfl rfl rfl) rfl<|a_ rfl<|nt<|rc ?_
 cases osi hF
 exact rs Tryz.results101 (.tm rfl .nil) rfl rfl
noncomputable def iq (a0:List Int) (a1:List Int):Option Bool:=
 bif (a0.length:Int) != (a1.length:Int) then
  some false
 else
  (((Loop.run (S:=(Int×Int)) (R:=Int) (fun(yA,xA)=>
    bif decide (xA<(a0.length:Int)) then
     (idx a0 xA).bind fun zA=>
     (idx a1 xA).bind fun hA=>
     some (.next (orI .u8 yA (xorI .u8 zA hA),IntKind.wrap .i64 (xA+1)))
    else
     some (.done yA)) (0,0)).bind fun bA=>
  some bA
   :Option Int)).bind fun vA=>
  some (vA==0)
theorem o46 {a0 a1:List Int} {r0:Bool} (hF:iq a0 a1=some r0) (L:List Res):Ok Tryz.prog 100 [SV.val K7 a0,SV.val K7 a1] L (SV.raw (.bool r0)) L:=by
 unfold iq at hF
 refine okI 31 Tryz.func100 rfl rfl rfl fun F0=>?_
 refine sr<|a_ rfl<|nt<|sq<|sr<|m_ rfl<|oN Tryz.underlying22 rfl<|m_ rfl<|oN Tryz.underlying22 rfl<|b_ rfl<|nt<|it hF rfl (fun hF=>?_) (fun hF=>?_)
 ·refine sr<|a_ rfl<|nt<|rt ?_
  cases osi hF
  exact rs Tryz.results100 (.tm rfl .nil) rfl rfl
 ·refine bs hF fun zA hA hF=>ct<|sr<|a_ rfl<|nt<|sq<|afr (r:=zA) (fun zA=>[(5,.raw (.int .u8 zA))]) (fun zA=>(L)) ?_ fun K vA=>?_
  ·refine sr<|mb rfl<|a_ rfl<|nt<|rc ?_
   cases osi hF
   exact rs Tryz.results100 (.tm rfl .nil) rfl rfl
  ·refine bs hA fun cA oA hA=>sr<|m_ rfl<|oN Tryz.underlying22 rfl<|m_ rfl<|nt<|bk<|lp oA () (fun yA bA=>[(0,.val K7 a0),(1,.val K7 a1),(5,.raw (.int .u8 yA.1)),(13,.raw (.int .i64 (a0.length:Int))),(14,.raw (.int .i64 yA.2))]) (fun yA bA=>L) rfl rfl fun yA bA qA xA kA=>?_
   obtain⟨rA,wA⟩:=yA
   dsimp only at xA⊢
   refine sr<|b_ rfl<|nt<|sq<|it xA rfl (fun xA=>?_) (fun xA=>?_)
   ·exact bs xA fun gA dA xA=>bs xA fun mA eA xA=>ct<|sq<|bk<|sr<|m_ rfl<|a_ rfl<|nt<|dw rfl (by kernel_rfl) fun F hF0=>mvq rfl rfl<|mvq rfl rfl<|mvq rfl rfl<|oq (OpV.ixS dA Tryz.underlying22 sz5 rfl rdV rfl) rfl<|oq (OpV.ldI kt5 rfl) rfl<|mvq rfl rfl<|mvq rfl rfl<|oq (OpV.ixS eA Tryz.underlying22 sz5 rfl rdV rfl) rfl<|oq (OpV.ldI kt5 rfl) rfl<|bnq rfl rfl rfl rfl<|bnq rfl rfl rfl rfl<|agq rfl rfl<|nlq hF0<|bN<|tn<|rg<|b_ rfl<|m_ rfl<|nl<|nx () xA rfl rfl
   ·refine xt<|te ?_
    cases aj xA kA
    exact te<|bh<|tn<|wr (vA _ (osi hA).symm) rfl
noncomputable def dh (a0:Int) (a1:Int):Option Int:=
 (((Loop.run (S:=(Int×Int×Int×Int)) (R:=Int) (fun(xA,zA,yA,hA)=>
   bif decide (hA<8) then
    ((((bif (andI .u8 zA 1)==1 then
     some (xorI .u8 yA xA)
    else
     some yA
     :Option Int)).bind fun bA=>
    bif (andI .u8 xA 128) != 0 then
     some (xorI .u8 (shlI .u8 xA 1) 27,bA)
    else
     some (shlI .u8 xA 1,bA)
     :Option (Int×Int))).bind fun vA=>match vA with
     |(oA,kA)=>
      some (.next (oA,shrI .u8 zA 1,kA,IntKind.wrap .i64 (hA+1)))
   else
    some (.done yA)) (a0,a1,0,0)).bind fun dA=>
 some dA
  :Option Int)).bind fun eA=>
 some eA
theorem o47 {a0 a1:Int} {r0:Int} (hF:dh a0 a1=some r0) (L:List Res):Ok Tryz.prog 202 [SV.raw (.int .u8 a0),SV.raw (.int .u8 a1)] L (SV.raw (.int .u8 r0)) L:=by
 unfold dh at hF
 refine okI 27 Tryz.func202 rfl rfl rfl fun F0=>?_
 refine bs hF fun bA oA hF=>sr<|a_ rfl<|ns<|a_ rfl<|nt<|sq<|afr (r:=bA) (fun bA=>[(5,.raw (.int .u8 bA))]) (fun bA=>(L)) ?_ fun K mA=>?_
 ·refine sr<|m_ rfl<|a_ rfl<|nt<|rc ?_
  cases osi hF
  exact rs Tryz.results202 (.tm rfl .nil) rfl rfl
 ·refine bs oA fun xB nA oA=>sr<|m_ rfl<|nt<|bk<|lp nA () (fun yA cA=>[(0,.raw (.int .u8 yA.1)),(1,.raw (.int .u8 yA.2.1)),(5,.raw (.int .u8 yA.2.2.1)),(7,.raw (.int .i64 yA.2.2.2))]) (fun yA cA=>L) rfl rfl fun yA cA yB xA pA=>?_
  obtain⟨tA,qA,zB,rA⟩:=yA
  dsimp only at xA⊢
  refine sr<|b_ rfl<|nt<|sq<|it xA rfl (fun xA=>?_) (fun xA=>?_)
  ·refine bs xA fun uA zA xA=>ct<|sq<|Under.after (fun X=>∀(kA:Int) (dA:Int),uA=(kA,dA)→Under F0 27 [(0,.raw (.int .u8 kA)),(1,.raw (.int .u8 (shrI .u8 qA 1))),(5,.raw (.int .u8 dA)),(7,.raw (.int .i64 rA))] (L) X) ?_ ?_
   ·intro kA dA eA
    replace eA:=eA.symm
    subst eA
    exact rg<|b_ rfl<|m_ rfl<|nl<|nx () xA rfl rfl
   ·intro K wA
    refine bs zA fun vA hA zA=>bk<|sq<|afr (r:=vA) (fun vA=>[(0,.raw (.int .u8 tA)),(1,.raw (.int .u8 qA)),(5,.raw (.int .u8 vA)),(7,.raw (.int .i64 rA))]) (fun vA=>(L)) ?_ fun K gA=>?_
    ·refine sr<|m_ rfl<|ov (OpV.sh rfl rfl (by decide) rfl) rfl<|a_ rfl<|ns<|mb rfl<|a_ rfl<|ns<|m_ rfl<|ov (OpV.sh rfl rfl (by decide) rfl) rfl<|a_ rfl<|ns<|mb rfl<|nt<|it zA rfl (fun zA=>?_) (fun zA=>?_)
     ·exact rg<|mb rfl<|a_ rfl<|nl<|bN<|tn<|wr (wA _ _ (osi zA).symm) rfl
     ·exact cs<|bN<|tn<|wr (wA _ _ (osi zA).symm) rfl
    ·refine sr<|mb rfl<|b_ rfl<|nt<|it hA rfl (fun hA=>?_) (fun hA=>?_)
     ·exact rg<|m_ rfl<|mb rfl<|a_ rfl<|nt<|wr (gA _ (osi hA).symm) rfl
     ·exact ct<|wr (gA _ (osi hA).symm) rfl
  ·refine xt<|te ?_
   cases aj xA pA
   exact te<|bh<|tn<|wr (mA _ (osi oA).symm) rfl
noncomputable def ir (a0:Int):Option Int:=
 (((Loop.run (S:=(Int×Int×Int)) (R:=Int) (fun(xA,yA,zA)=>
   bif decide (zA<7) then
    (dh yA yA).bind fun hA=>
    (dh xA hA).bind fun bA=>
    some (.next (bA,hA,IntKind.wrap .i64 (zA+1)))
   else
    some (.done xA)) (1,a0,0)).bind fun vA=>
 some vA
  :Option Int)).bind fun oA=>
 some oA
theorem o48 {a0:Int} {r0:Int} (hF:ir a0=some r0) (L:List Res):Ok Tryz.prog 203 [SV.raw (.int .u8 a0)] L (SV.raw (.int .u8 r0)) L:=by
 unfold ir at hF
 refine okI 16 Tryz.func203 rfl rfl rfl fun F0=>?_
 refine bs hF fun zA hA hF=>sr<|a_ rfl<|ns<|m_ rfl<|a_ rfl<|a_ rfl<|nt<|sq<|afr (r:=zA) (fun zA=>[(3,.raw (.int .u8 zA))]) (fun zA=>(L)) ?_ fun K vA=>?_
 ·refine sr<|m_ rfl<|a_ rfl<|nt<|rc ?_
  cases osi hF
  exact rs Tryz.results203 (.tm rfl .nil) rfl rfl
 ·refine bs hA fun cA oA hA=>sr<|m_ rfl<|nt<|bk<|lp oA () (fun yA bA=>[(3,.raw (.int .u8 yA.1)),(4,.raw (.int .u8 yA.2.1)),(6,.raw (.int .i64 yA.2.2))]) (fun yA bA=>L) rfl rfl fun yA bA qA xA kA=>?_
  obtain⟨rA,wA,gA⟩:=yA
  dsimp only at xA⊢
  refine sr<|b_ rfl<|nt<|sq<|it xA rfl (fun xA=>?_) (fun xA=>?_)
  ·exact bs xA fun mA dA xA=>bs xA fun nA eA xA=>ct<|sq<|bk<|sr<|m_ rfl<|m_ rfl<|cx Tryz.call202 rfl (o47 dA _)<|a_ rfl<|nt<|rg<|m_ rfl<|m_ rfl<|cx Tryz.call202 rfl (o47 eA _)<|a_ rfl<|nl<|bN<|tn<|rg<|b_ rfl<|m_ rfl<|nl<|nx () xA rfl rfl
  ·refine xt<|te ?_
   cases aj xA kA
   exact te<|bh<|tn<|wr (vA _ (osi hA).symm) rfl
noncomputable def di (a0:Int) (a1:Int):Option Int:=
 bif decide (0≤a1) then
 bif decide (0≤(IntKind.wrap .i64 (8 - a1))) then
 some (orI .u8 (shlI .u8 a0 a1) (shrI .u8 a0 (IntKind.wrap .i64 (8 - a1))))
 else none
 else none
theorem o49 {a0 a1:Int} {r0:Int} (hF:di a0 a1=some r0) (L:List Res):Ok Tryz.prog 204 [SV.raw (.int .u8 a0),SV.raw (.int .i64 a1)] L (SV.raw (.int .u8 r0)) L:=by
 unfold di at hF
 refine okI 13 Tryz.func204 rfl rfl rfl fun F0=>?_
 refine gs hF fun h1 hF=>gs hF fun h2 hF=>sr<|a_ rfl<|nt<|sq<|dw rfl (by kernel_rfl) fun F hF0=>mvq rfl rfl<|mvq rfl rfl<|oq (OpV.sh rfl rfl (of_decide_eq_true h1) rfl) rfl<|mvq rfl rfl<|mvq rfl rfl<|bnq rfl rfl rfl rfl<|oq (OpV.sh rfl rfl (of_decide_eq_true h2) rfl) rfl<|bnq rfl rfl rfl rfl<|agq rfl rfl<|nlq hF0<|tn<|rc ?_
 cases osi hF
 exact rs Tryz.results204 (.tm rfl .nil) rfl rfl
noncomputable def bY (a0:Int):Option Int:=
 (ir a0).bind fun y1=>
 (di y1 1).bind fun y3=>
 (di y1 2).bind fun y5=>
 (di y1 3).bind fun y7=>
 (di y1 4).bind fun y9=>
 some (xorI .u8 (xorI .u8 (xorI .u8 (xorI .u8 (xorI .u8 y1 y3) y5) y7) y9) 99)
theorem o50 {a0:Int} {r0:Int} (hF:bY a0=some r0) (L:List Res):Ok Tryz.prog 163 [SV.raw (.int .u8 a0)] L (SV.raw (.int .u8 r0)) L:=by
 unfold bY at hF
 refine okI 20 Tryz.func163 rfl rfl rfl fun F0=>?_
 refine bs hF fun y1 h2 hF=>bs hF fun y3 h4 hF=>bs hF fun y5 h6 hF=>bs hF fun y7 h8 hF=>bs hF fun y9 xA hF=>sr<|a_ rfl<|ns<|m_ rfl<|cx Tryz.call203 rfl (o48 h2 _)<|a_ rfl<|ns<|m_ rfl<|m_ rfl<|cx Tryz.call204 rfl (o49 h4 _)<|b_ rfl<|m_ rfl<|cx Tryz.call204 rfl (o49 h6 _)<|b_ rfl<|m_ rfl<|cx Tryz.call204 rfl (o49 h8 _)<|b_ rfl<|m_ rfl<|cx Tryz.call204 rfl (o49 xA _)<|b_ rfl<|b_ rfl<|a_ rfl<|nt<|rc ?_
 cases osi hF
 exact rs Tryz.results163 (.tm rfl .nil) rfl rfl
noncomputable def iu (a0:List Int):Option aF:=
 (((Loop.run (S:=(Int×(List (List Int)))) (R:=(List (List Int))) (fun(hA,kA)=>
   bif decide (hA<4) then
    (idx kA hA).bind fun qA=>
    (sub a0 (IntKind.wrap .i64 (4*hA)) 16).bind fun rA=>
    bif decide ((Int.toNat 0)≤(Int.toNat 4)∧(Int.toNat 4)≤4) then
    some (.next (IntKind.wrap .i64 (hA+1),List.set kA (Int.toNat hA) (over qA (Int.toNat 0) (Int.toNat 4) rA)))
    else none
   else
    some (.done kA)) (0,(List.replicate 44 (List.replicate 4 (0:Int))))).bind fun wA=>
 some wA
  :Option (List (List Int)))).bind fun xC=>
 (((Loop.run (S:=(Int×Int×(List (List Int)))) (R:=(List (List Int))) (fun(dA,yA,eA)=>
   bif decide (yA<44) then
    (((idx eA (IntKind.wrap .i64 (yA - 1))).bind fun bA=>
    ((bif (Int.tmod yA 4)==0 then
     (idx bA 1).bind fun gA=>
     (bY gA).bind fun mA=>
     (idx bA 2).bind fun nA=>
     (bY nA).bind fun pA=>
     (idx bA 3).bind fun tA=>
     (bY tA).bind fun uA=>
     (idx bA 0).bind fun xB=>
     (bY xB).bind fun yB=>
     (dh 2 dA).bind fun zB=>
     some (zB,[xorI .u8 mA dA,pA,uA,yB])
    else
     some (dA,bA)
     :Option (Int×(List Int)))).bind fun hB=>match hB with
     |(bB,vB)=>
      (Loop.run (S:=(Int×(List (List Int)))) (R:=(List (List Int))) (fun(zA,vA)=>
       bif decide (zA<4) then
        (idx vA (IntKind.wrap .i64 (yA - 4))).bind fun oB=>
        (idx oB zA).bind fun kB=>
        (idx vB zA).bind fun dB=>
        (idx vA yA).bind fun cA=>
        (idx cA zA).bind fun uB=>
        some (.next (IntKind.wrap .i64 (zA+1),List.set vA (Int.toNat yA) (List.set cA (Int.toNat zA) (xorI .u8 kB dB))))
       else
        some (.done vA)) (0,eA)).bind fun eB=>
      some (bB,eB)
     :Option (Int×(List (List Int))))).bind fun cB=>match cB with
     |(qB,rB)=>
      some (.next (qB,IntKind.wrap .i64 (yA+1),rB))
   else
    some (.done eA)) (1,4,xC)).bind fun wB=>
 some wB
  :Option (List (List Int)))).bind fun pB=>
 (((Loop.run (S:=(Int×aF)) (R:=aF) (fun(xA,oA)=>
   bif decide (xA<44) then
    (idx pB xA).bind fun gB=>
    (idx oA.keys (IntKind.wrap .i64 (Int.tdiv xA 4))).bind fun mB=>
    bif decide ((0:Int)≤(IntKind.wrap .i64 ((Int.tmod xA 4)*4))∧(IntKind.wrap .i64 ((Int.tmod xA 4)*4):Int)≤16∧(16:Int)≤16) then
    bif decide ((Int.toNat (IntKind.wrap .i64 ((Int.tmod xA 4)*4)))≤(Int.toNat 16)∧(Int.toNat 16)≤16) then
    some (.next (IntKind.wrap .i64 (xA+1),({oA with keys:=List.set oA.keys (Int.toNat (IntKind.wrap .i64 (Int.tdiv xA 4))) (over mB (Int.toNat (IntKind.wrap .i64 ((Int.tmod xA 4)*4))) (Int.toNat 16) gB)}:aF)))
    else none
    else none
   else
    some (.done oA)) (0,(⟨(List.replicate 11 (List.replicate 16 (0:Int)))⟩:aF))).bind fun nB=>
 some nB
  :Option aF)).bind fun tB=>
 some tB
theorem o51 {a0:List Int} {r0:aF} (hF:iu a0=some r0) (L:List Res):Ok Tryz.prog 162 [SV.val K2 a0] L (SV.val ar r0) L:=by
 unfold iu at hF
 refine okI 86 Tryz.func162 rfl rfl rfl fun F0=>?_
 refine bs hF fun xE yE hF=>sr<|bX (K:=kArr 16 K10) rfl rdV rfl<|al ZT243 rfl fun b1=>ns<|al ZT284 rfl fun b2=>nt<|sq<|afr (r:=xE) (fun xE=>[(2,pb b1),(3,pb b2)]) (fun xE=>((.box ar b1 243 (⟨(List.replicate 11 (List.replicate 16 (0:Int)))⟩:aF))::(.box (kArr 44 K5) b2 284 xE)::L)) ?_ fun K yG=>?_
 ·refine bs hF fun pA oC hF=>sr<|a_ rfl<|nt<|sq<|afr (r:=pA) (fun pA=>[(2,pb b1),(3,.ptr (kArr 44 K5) pA)]) (fun pA=>((.box ar b1 243 (⟨(List.replicate 11 (List.replicate 16 (0:Int)))⟩:aF))::L)) ?_ fun K zE=>?_
  ·refine bs hF fun tA kC hF=>sr<|al ZT243 rfl fun dC=>nt<|sq<|afr (r:=tA) (fun tA=>[(2,pb b1),(9,.ptr ar tA)]) (fun tA=>((.box ar b1 243 (⟨(List.replicate 11 (List.replicate 16 (0:Int)))⟩:aF))::L)) ?_ fun K hE=>?_
   ·refine sr<|oL kt243 rfl<|sP (x':=tA) .box .id sz243k rfl rfl rdV rfl<|nl<|fz (t:=2) rfl<|tn<|rc ?_
    cases osi hF
    exact rs Tryz.results162 (.ce rfl kt243 .nil) rfl rfl
   ·refine bs kC fun bE eC kC=>sr<|oL kt284 rfl<|m_ rfl<|nt<|bk<|f1<|lp eC () (fun dA vB=>[(2,pb b1),(9,pb dC),(69,.val (kArr 44 K5) pA),(70,.raw (.int .i64 dA.1))]) (fun dA vB=>(.box ar b1 243 (⟨(List.replicate 11 (List.replicate 16 (0:Int)))⟩:aF))::(.box ar dC 243 dA.2)::L) rfl rfl fun dA vB vE zA cC=>?_
    obtain⟨oA,oB⟩:=dA
    dsimp only at zA⊢
    refine sr<|b_ rfl<|nt<|sq<|it zA rfl (fun zA=>?_) (fun zA=>?_)
    ·refine bs zA fun kB qC zA=>bs zA fun rC dB zA=>gs zA fun eA zA=>ct<|sq<|bk<|sr<|m_ rfl<|ov (OpV.ixV qC Tryz.underlying284 kt283 rfl rfl) rfl<|al ZT283 rfl fun oE=>a_ rfl<|sP (x':=kB) .box .id sz283k rfl rfl rdV rfl<|nl<|fz (t:=11) rfl<|tn ?_
     replace eA:(0:Int)≤(IntKind.wrap .i64 ((Int.tmod oA 4)*4))∧(IntKind.wrap .i64 ((Int.tmod oA 4)*4):Int)≤16∧(16:Int)≤16:=of_decide_eq_true eA
     obtain⟨cA,zA⟩:=gsome zA
     replace cA:(Int.toNat (IntKind.wrap .i64 ((Int.tmod oA 4)*4)))≤(Int.toNat 16)∧(Int.toNat 16)≤16:=of_decide_eq_true cA
     exact ph rfl<|gV [0,1,2,3,4,5,6,7,8] [[10],[74],[9],[75,76],[10],[78],[79],[77,80],[11]] 2 (by kernel_rfl) rfl<|vm_ rfl<|vo (fun _=>OpV.quo rfl rfl (by decide) rfl) rfl<|vo (fun _=>OpV.fdM wV rfl) rfl<|Vq.v (fun G T hG=>f1<|oX .box (.fld .id iE) dB Tryz.underlying241 sz240k rfl<|f1<|Vq.end rfl)<|vm_ rfl<|vo (fun _=>OpV.quo rfl rfl (by decide) rfl) rfl<|vb_ rfl<|Vq.v (fun G T hG=>ov (OpV.slP (l:=IntKind.wrap .i64 ((Int.tmod oA 4)*4)) (h:=16) Tryz.underlying240 sz5k rfl rfl rfl (And.left eA) (And.left (And.right eA)) (And.right (And.right eA))) rfl<|Vq.end rfl)<|vo (fun _=>OpV.slA Tryz.underlying283 sz5 rfl) rfl<|vn<|p1 9 rfl rfl<|f1<|Under.cpB (x':=({oB with keys:=List.set oB.keys (Int.toNat (IntKind.wrap .i64 (Int.tdiv oA 4))) (over rC (Int.toNat (IntKind.wrap .i64 ((Int.tmod oA 4)*4))) (Int.toNat 16) kB)}:aF)) .box (.ix (.fld .id iE) dB) (And.left cA) (And.right cA) (na (And.right cA)) Tryz.underlying22 sz5k rfl rfl (.sl rdV) rfl rfl<|pn<|pd rfl<|bN<|tn<|rg<|b_ rfl<|m_ rfl<|nl<|f1<|nx () zA rfl rfl
    ·refine f1<|fz (t:=9) rfl<|xt<|te ?_
     cases aj zA cC
     exact te<|bh<|tn<|wr (hE _ (osi kC).symm) rfl
  ·refine bs oC fun kE wC oC=>sr<|a_ rfl<|nt<|bk<|lp wC () (fun kA eB=>[(2,pb b1),(3,pb b2),(5,.raw (.int .u8 kA.1)),(6,.raw (.int .i64 kA.2.1))]) (fun kA eB=>(.box ar b1 243 (⟨(List.replicate 11 (List.replicate 16 (0:Int)))⟩:aF))::(.box (kArr 44 K5) b2 284 kA.2.2)::L) rfl rfl fun kA eB dE bA gC=>?_
   obtain⟨cB,gA,mC⟩:=kA
   dsimp only at bA⊢
   refine sq<|sr<|mb rfl<|nt<|it bA rfl (fun bA=>?_) (fun bA=>?_)
   ·refine bs bA fun nC vA bA=>ct<|sq<|Under.after (fun X=>∀(uA:Int) (xB:List (List Int)),nC=(uA,xB)→Under F0 86 [(2,pb b1),(3,pb b2),(5,.raw (.int .u8 uA)),(6,.raw (.int .i64 gA))] ((.box ar b1 243 (⟨(List.replicate 11 (List.replicate 16 (0:Int)))⟩:aF))::(.box (kArr 44 K5) b2 284 xB)::L) X) ?_ ?_
    ·intro uA xB yB
     replace yB:=yB.symm
     subst yB
     exact rg<|mb rfl<|a_ rfl<|nl<|nx () bA rfl rfl
    ·intro K pC
     refine bs vA fun tC qB vA=>bs vA fun uC xA vA=>bk<|sr<|mb rfl<|f1<|oX .box .id qB Tryz.underlying284 sz283k rfl<|lP .box (.ix .id qB) kt283k rfl rfl<|al ZT283 rfl fun eE=>sP (x':=tC) .box .id sz283k rfl rfl rdV rfl<|nt<|sq<|Under.after (fun X=>∀(mA:Int) (nA:List Int),uC=(mA,nA)→Under F0 86 [(2,pb b1),(3,pb b2),(5,.raw (.int .u8 mA)),(6,.raw (.int .i64 gA)),(7,.ptr K5 nA)] ((.box ar b1 243 (⟨(List.replicate 11 (List.replicate 16 (0:Int)))⟩:aF))::(.box (kArr 44 K5) b2 284 mC)::L) X) ?_ ?_
     ·intro mA nA zB
      replace zB:=zB.symm
      subst zB
      refine bs vA fun cE xD vA=>sr<|m_ rfl<|nt<|bk<|lp xD () (fun qA rB=>[(2,pb b1),(3,pb b2),(5,.raw (.int .u8 mA)),(6,.raw (.int .i64 gA)),(7,.ptr K5 nA),(51,.raw (.int .i64 qA.1))]) (fun qA rB=>(.box ar b1 243 (⟨(List.replicate 11 (List.replicate 16 (0:Int)))⟩:aF))::(.box (kArr 44 K5) b2 284 qA.2)::L) rfl rfl fun qA rB qE yA yD=>?_
      obtain⟨zD,hD⟩:=qA
      dsimp only at yA⊢
      refine sr<|b_ rfl<|nt<|sq<|it yA rfl (fun yA=>?_) (fun yA=>?_)
      ·exact bs yA fun rE hB yA=>bs yA fun bD wB yA=>bs yA fun vD oD yA=>bs yA fun kD bB yA=>bs yA fun wE gB yA=>ct<|sq<|bk<|sr<|m_ rfl<|a_ rfl<|nt<|ph rfl<|gV [0,1,2,3,4,5,6,7,8,9,10,11,12] [[6],[8],[6],[56],[8],[3,57],[58,59],[60],[8],[7,62],[63],[61,64],[3,54]] 2 (by kernel_rfl) rfl<|vm_ rfl<|vm_ rfl<|vm_ rfl<|vb_ rfl<|vm_ rfl<|Vq.v (fun G T hG=>f1<|oX .box .id hB Tryz.underlying284 sz283k rfl<|f1<|Vq.end rfl)<|Vq.v (fun G T hG=>f1<|oX .box (.ix .id hB) wB Tryz.underlying283 sz5k rfl<|f1<|Vq.end rfl)<|Vq.v (fun G T hG=>f1<|lP .box (.ix (.ix .id hB) wB) kt5k rfl rfl<|rI (t:=61) rfl<|f1<|Vq.end rfl)<|vm_ rfl<|vo (fun _=>OpV.ixA oD Tryz.underlying283 sz5 rfl rfl) rfl<|vo (fun _=>OpV.ldI kt5 rfl) rfl<|vb_ rfl<|Vq.v (fun G T hG=>f1<|oX .box .id bB Tryz.underlying284 sz283k rfl<|f1<|Vq.end rfl)<|vn<|p1 13 rfl rfl<|f1<|oX .box (.ix .id bB) gB Tryz.underlying283 sz5k rfl<|pn<|p1 14 rfl rfl<|sP (x':=List.set hD (Int.toNat gA) (List.set kD (Int.toNat zD) (xorI .u8 bD vD))) .box (.ix (.ix .id bB) gB) sz5k rfl rfl rdI rfl<|pn<|pd rfl<|bN<|tn<|rg<|b_ rfl<|m_ rfl<|nl<|f1<|nx () yA rfl rfl
      ·refine xt<|te ?_
       cases aj yA yD
       exact te<|bh<|bN<|tn<|wr (pC _ _ (osi vA).symm) rfl
     ·intro K mB
      refine sr<|m_ rfl<|ov (OpV.quo rfl rfl (by decide) rfl) rfl<|b_ rfl<|nt<|it xA rfl (fun xA=>?_) (fun xA=>?_)
      ·exact bs xA fun gE nB xA=>bs xA fun pB dD xA=>bs xA fun mE tB xA=>bs xA fun uB eD xA=>bs xA fun nE xC xA=>bs xA fun yC cD xA=>bs xA fun pE zC xA=>bs xA fun hC qD xA=>bs xA fun tE rD xA=>sq<|ph rfl<|gV [0,1,2,3,4,5,6,7,8,9,10,11,12,13] [[7],[34],[35],[5],[36,37],[7],[39],[40],[7],[42],[43],[7],[45],[46]] 3 (by kernel_rfl) rfl<|Vq.v (fun G T hG=>oX .box .id nB Tryz.underlying283 sz5k rfl<|Vq.end rfl)<|Vq.v (fun G T hG=>lP .box (.ix .id nB) kt5k rfl rfl<|rI (t:=35) rfl<|Vq.end rfl)<|Vq.v (fun G T hG=>cx Tryz.call163 rfl (o50 dD _)<|Vq.end rfl)<|vm_ rfl<|vb_ rfl<|Vq.v (fun G T hG=>oX .box .id tB Tryz.underlying283 sz5k rfl<|Vq.end rfl)<|Vq.v (fun G T hG=>lP .box (.ix .id tB) kt5k rfl rfl<|rI (t:=40) rfl<|Vq.end rfl)<|Vq.v (fun G T hG=>cx Tryz.call163 rfl (o50 eD _)<|Vq.end rfl)<|Vq.v (fun G T hG=>oX .box .id xC Tryz.underlying283 sz5k rfl<|Vq.end rfl)<|Vq.v (fun G T hG=>lP .box (.ix .id xC) kt5k rfl rfl<|rI (t:=43) rfl<|Vq.end rfl)<|Vq.v (fun G T hG=>cx Tryz.call163 rfl (o50 cD _)<|Vq.end rfl)<|Vq.v (fun G T hG=>oX .box .id zC Tryz.underlying283 sz5k rfl<|Vq.end rfl)<|Vq.v (fun G T hG=>lP .box (.ix .id zC) kt5k rfl rfl<|rI (t:=46) rfl<|Vq.end rfl)<|Vq.v (fun G T hG=>cx Tryz.call163 rfl (o50 qD _)<|Vq.end rfl)<|vn<|p1 14 rfl rfl<|ov (OpV.bar (ys:=[xorI .u8 pB cB,uB,yC,hC]) BTA283 (BldA.cons rfl rfl rdI (BldA.cons rfl rfl rdI (BldA.cons rfl rfl rdI (BldA.cons rfl rfl rdI (BldA.nil _)))))) rfl<|pn<|p1 15 rfl rfl<|sP (x':=[xorI .u8 pB cB,uB,yC,hC]) .box .id sz283k rfl rfl rdV rfl<|pn<|pd rfl<|fz (t:=7) rfl<|tn<|rg<|m_ rfl<|cx Tryz.call202 rfl (o47 rD _)<|a_ rfl<|nt<|f1<|wr (mB _ _ (osi xA).symm) rfl
      ·exact fz (t:=7) rfl<|ct<|f1<|wr (mB _ _ (osi xA).symm) rfl
   ·refine f1<|fz (t:=3) rfl<|xt<|te ?_
    cases aj bA gC
    exact te<|bh<|tn<|wr (zE _ (osi oC).symm) rfl
 ·refine bs yE fun uE wD yE=>sr<|m_ rfl<|nt<|bk<|f1<|lp wD () (fun rA bC=>[(1,.ptr K2 a0),(2,pb b1),(3,pb b2),(12,.raw (.int .i64 rA.1))]) (fun rA bC=>(.box ar b1 243 (⟨(List.replicate 11 (List.replicate 16 (0:Int)))⟩:aF))::(.box (kArr 44 K5) b2 284 rA.2)::L) rfl rfl fun rA bC xG hA gD=>?_
  obtain⟨mD,nD⟩:=rA
  dsimp only at hA⊢
  refine sr<|b_ rfl<|nt<|sq<|it hA rfl (fun hA=>?_) (fun hA=>?_)
  ·refine bs hA fun pD vC hA=>bs hA fun tD uD hA=>gs hA fun wA hA=>ct<|sq<|bk<|sr<|m_ rfl<|a_ rfl<|nl<|tn ?_
   replace wA:(Int.toNat 0)≤(Int.toNat 4)∧(Int.toNat 4)≤4:=of_decide_eq_true wA
   exact ph rfl<|gV [0,1,2,3,4,5] [[4],[3,15],[16],[4],[18],[1,19]] 2 (by kernel_rfl) rfl<|vm_ rfl<|Vq.v (fun G T hG=>f1<|oX .box .id vC Tryz.underlying284 sz283k rfl<|f1<|Vq.end rfl)<|Vq.v (fun G T hG=>ov (OpV.slP (l:=0) (h:=4) Tryz.underlying283 sz5k rfl rfl rfl (by decide) (by decide) (by decide)) rfl<|Vq.end rfl)<|vm_ rfl<|vb_ rfl<|Vq.v (fun G T hG=>ov (OpV.slF uD Tryz.underlying64 sz5 rfl rfl rfl) rfl<|Vq.end rfl)<|vn<|p1 6 rfl rfl<|f1<|Under.cpB (x':=List.set nD (Int.toNat mD) (over pD (Int.toNat 0) (Int.toNat 4) tD)) .box (.ix .id vC) (And.left wA) (And.right wA) (na (And.right wA)) Tryz.underlying22 sz5k rfl rfl (.sl rdV) rfl rfl<|pn<|pd rfl<|bN<|tn<|rg<|b_ rfl<|m_ rfl<|nl<|f1<|nx () hA rfl rfl
  ·refine xt<|te ?_
   cases aj hA gD
   exact te<|bh<|tn<|wr (yG _ (osi yE).symm) rfl
noncomputable def cj (a0:List Int) (a1:List Int):Option (List Int):=
 (((Loop.run (S:=(Int×(List Int))) (R:=(List Int)) (fun(xA,yA)=>
   bif decide (xA<16) then
    (idx yA xA).bind fun zA=>
    (idx a1 xA).bind fun hA=>
    (idx yA xA).bind fun oA=>
    some (.next (IntKind.wrap .i64 (xA+1),List.set yA (Int.toNat xA) (xorI .u8 zA hA)))
   else
    some (.done yA)) (0,a0)).bind fun bA=>
 some bA
  :Option (List Int))).bind fun vA=>
 some vA
theorem o52 {a0 a1:List Int} {r0:(List Int)} (hF:cj a0 a1=some r0) (L:List Res):Ok Tryz.prog 205 [SV.val K2 a0,SV.val K2 a1] L (SV.val K2 r0) L:=by
 unfold cj at hF
 refine okI 19 Tryz.func205 rfl rfl rfl fun F0=>?_
 refine bs hF fun yA hA hF=>sr<|Under.bx (K:=kArr 16 K10) rfl rdV rfl fun b1=>bX (K:=kArr 16 K10) rfl rdV rfl<|al ZT240 rfl fun b2=>nt<|sq<|afr (r:=yA) (fun yA=>[(2,.ptr K2 yA),(4,pb b2)]) (fun yA=>((.box K2 b2 240 (List.replicate 16 (0:Int)))::L)) ?_ fun K kA=>?_
 ·refine sr<|oL kt240 rfl<|sP (x':=yA) .box .id sz240k rfl rfl rdV rfl<|nl<|fz (t:=4) rfl<|tn<|rc ?_
  cases osi hF
  exact rs Tryz.results205 (.ce rfl kt240 .nil) rfl rfl
 ·refine bs hA fun mA dA hA=>sr<|m_ rfl<|nt<|bk<|f1<|lp dA () (fun zA bA=>[(2,pb b1),(3,.ptr K2 a1),(4,pb b2),(6,.raw (.int .i64 zA.1))]) (fun zA bA=>(.box K2 b1 240 zA.2)::(.box K2 b2 240 (List.replicate 16 (0:Int)))::L) rfl rfl fun zA bA nA xA eA=>?_
  obtain⟨cA,qA⟩:=zA
  dsimp only at xA⊢
  refine sr<|b_ rfl<|nt<|sq<|it xA rfl (fun xA=>?_) (fun xA=>?_)
  ·exact bs xA fun rA vA xA=>bs xA fun wA gA xA=>bs xA fun pA oA xA=>ct<|sq<|bk<|sr<|m_ rfl<|a_ rfl<|nt<|ph rfl<|gV [0,1,2,3,4,5] [[5],[2,9],[10],[5],[3,12],[13]] 2 (by kernel_rfl) rfl<|vm_ rfl<|Vq.v (fun G T hG=>oX .box .id vA Tryz.underlying240 sz5k rfl<|Vq.end rfl)<|Vq.v (fun G T hG=>lP .box (.ix .id vA) kt5k rfl rfl<|rI (t:=11) rfl<|Vq.end rfl)<|vm_ rfl<|vo (fun _=>OpV.ixA gA Tryz.underlying240 sz5 rfl rfl) rfl<|vo (fun _=>OpV.ldI kt5 rfl) rfl<|vn<|p1 6 rfl rfl<|b_ rfl<|pn<|p1 7 rfl rfl<|oX .box .id oA Tryz.underlying240 sz5k rfl<|pn<|p1 8 rfl rfl<|sP (x':=List.set qA (Int.toNat cA) (xorI .u8 rA wA)) .box (.ix .id oA) sz5k rfl rfl rdI rfl<|pn<|pd rfl<|bN<|tn<|rg<|b_ rfl<|m_ rfl<|nl<|nx () xA rfl rfl
  ·refine fz (t:=2) rfl<|xt<|te ?_
   cases aj xA eA
   exact te<|bh<|tn<|wr (kA _ (osi hA).symm) rfl
noncomputable def fo (a0:Int) (a1:List Int):Option Int:=
 (idx a1 a0).bind fun x1=>
 some x1
theorem o53 {a0:Int} {a1:List Int} {r0:Int} (hF:fo a0 a1=some r0) (L:List Res):Ok Tryz.prog 164 [SV.raw (.int .u8 a0),SV.ptr (kArr 256 K10) a1] L (SV.raw (.int .u8 r0)) L:=by
 unfold fo at hF
 refine okI 7 Tryz.func164 rfl rfl rfl fun F0=>?_
 refine bs hF fun x1 h2 hF=>sr<|a_ rfl<|ns<|m_ rfl<|ov (OpV.ixA h2 Tryz.underlying246 sz5 rfl rfl) rfl<|oI kt5 rfl<|a_ rfl<|nt<|rc ?_
 cases osi hF
 exact rs Tryz.results164 (.tm rfl .nil) rfl rfl
noncomputable def bW (a0:List Int) (a1:List Int):Option (List Int):=
 (((Loop.run (S:=(Int×(List Int))) (R:=(List Int)) (fun(xA,yA)=>
   bif decide (xA<16) then
    (idx yA xA).bind fun zA=>
    (fo zA a1).bind fun hA=>
    (idx yA xA).bind fun oA=>
    some (.next (IntKind.wrap .i64 (xA+1),List.set yA (Int.toNat xA) hA))
   else
    some (.done yA)) (0,a0)).bind fun bA=>
 some bA
  :Option (List Int))).bind fun vA=>
 some vA
theorem o54 {a0 a1:List Int} {r0:(List Int)} (hF:bW a0 a1=some r0) (L:List Res):Ok Tryz.prog 206 [SV.val K2 a0,SV.fn 164 [.ptr (kArr 256 K10) a1]] L (SV.val K2 r0) L:=by
 unfold bW at hF
 refine okI 18 Tryz.func206 rfl rfl rfl fun F0=>?_
 refine bs hF fun yA hA hF=>sr<|Under.bx (K:=kArr 16 K10) rfl rdV rfl fun b1=>al ZT240 rfl fun b2=>nt<|sq<|afr (r:=yA) (fun yA=>[(2,.ptr K2 yA),(4,pb b2)]) (fun yA=>((.box K2 b2 240 (List.replicate 16 (0:Int)))::L)) ?_ fun K kA=>?_
 ·refine sr<|oL kt240 rfl<|sP (x':=yA) .box .id sz240k rfl rfl rdV rfl<|nl<|fz (t:=4) rfl<|tn<|rc ?_
  cases osi hF
  exact rs Tryz.results206 (.ce rfl kt240 .nil) rfl rfl
 ·refine bs hA fun gA dA hA=>sr<|m_ rfl<|nt<|bk<|f1<|lp dA () (fun zA bA=>[(1,.fn 164 [.ptr (kArr 256 K10) a1]),(2,pb b1),(4,pb b2),(6,.raw (.int .i64 zA.1))]) (fun zA bA=>(.box K2 b1 240 zA.2)::(.box K2 b2 240 (List.replicate 16 (0:Int)))::L) rfl rfl fun zA bA mA xA eA=>?_
  obtain⟨cA,qA⟩:=zA
  dsimp only at xA⊢
  refine sr<|b_ rfl<|nt<|sq<|it xA rfl (fun xA=>?_) (fun xA=>?_)
  ·exact bs xA fun nA vA xA=>bs xA fun rA wA xA=>bs xA fun pA oA xA=>ct<|sq<|bk<|sr<|m_ rfl<|a_ rfl<|nt<|rg<|m_ rfl<|m_ rfl<|m_ rfl<|oX .box .id vA Tryz.underlying240 sz5k rfl<|lP .box (.ix .id vA) kt5k rfl rfl<|rI (t:=13) rfl<|Under.callC Tryz.call164 rfl rfl (o53 wA _) rfl<|oX .box .id oA Tryz.underlying240 sz5k rfl<|sP (x':=List.set qA (Int.toNat cA) rA) .box (.ix .id oA) sz5k rfl rfl rdI rfl<|nl<|bN<|tn<|rg<|b_ rfl<|m_ rfl<|nl<|nx () xA rfl rfl
  ·refine fz (t:=2) rfl<|xt<|te ?_
   cases aj xA eA
   exact te<|bh<|tn<|wr (kA _ (osi hA).symm) rfl
noncomputable def cV (a0:List Int) (a1:Int):Option (List Int):=
 (((Loop.run (S:=(Int×(List Int))) (R:=(List Int)) (fun(xA,hA)=>
   bif decide (xA<4) then
    (((Loop.run (S:=(Int×(List Int))) (R:=(List Int)) (fun(yA,zA)=>
      bif decide (yA<4) then
       (idx a0 (IntKind.wrap .i64 ((IntKind.wrap .i64 (4*(Int.tmod (IntKind.wrap .i64 (yA+(IntKind.wrap .i64 (xA*a1)))) 4)))+xA))).bind fun bA=>
       (idx zA (IntKind.wrap .i64 ((IntKind.wrap .i64 (4*yA))+xA))).bind fun eA=>
       some (.next (IntKind.wrap .i64 (yA+1),List.set zA (Int.toNat (IntKind.wrap .i64 ((IntKind.wrap .i64 (4*yA))+xA))) bA))
      else
       some (.done zA)) (0,hA)).bind fun vA=>
    some vA
     :Option (List Int))).bind fun oA=>
    some (.next (IntKind.wrap .i64 (xA+1),oA))
   else
    some (.done hA)) (0,(List.replicate 16 (0:Int)))).bind fun kA=>
 some kA
  :Option (List Int))).bind fun dA=>
 some dA
theorem o55 {a0:List Int} {a1:Int} {r0:(List Int)} (hF:cV a0 a1=some r0) (L:List Res):Ok Tryz.prog 207 [SV.val K2 a0,SV.raw (.int .i64 a1)] L (SV.val K2 r0) L:=by
 unfold cV at hF
 refine okI 33 Tryz.func207 rfl rfl rfl fun F0=>?_
 refine bs hF fun zA kA hF=>sr<|bX (K:=kArr 16 K10) rfl rdV rfl<|al ZT240 rfl fun b1=>ns<|al ZT240 rfl fun b2=>nt<|sq<|afr (r:=zA) (fun zA=>[(4,pb b1),(5,.ptr K2 zA)]) (fun zA=>((.box K2 b1 240 (List.replicate 16 (0:Int)))::L)) ?_ fun K rA=>?_
 ·refine sr<|oL kt240 rfl<|sP (x':=zA) .box .id sz240k rfl rfl rdV rfl<|nl<|fz (t:=4) rfl<|tn<|rc ?_
  cases osi hF
  exact rs Tryz.results207 (.ce rfl kt240 .nil) rfl rfl
 ·refine bs kA fun zB wA kA=>sr<|m_ rfl<|nt<|bk<|f1<|lp wA () (fun hA eA=>[(1,.raw (.int .i64 a1)),(2,.ptr K2 a0),(4,pb b1),(5,pb b2),(8,.raw (.int .i64 hA.1))]) (fun hA eA=>(.box K2 b1 240 (List.replicate 16 (0:Int)))::(.box K2 b2 240 hA.2)::L) rfl rfl fun hA eA hB yA gA=>?_
  obtain⟨vA,bB⟩:=hA
  dsimp only at yA⊢
  refine sr<|b_ rfl<|nt<|sq<|it yA rfl (fun yA=>?_) (fun yA=>?_)
  ·refine bs yA fun oA dA yA=>ct<|sq<|afr (r:=oA) (fun oA=>[(1,.raw (.int .i64 a1)),(2,.ptr K2 a0),(4,pb b1),(5,pb b2),(8,.raw (.int .i64 vA))]) (fun oA=>((.box K2 b1 240 (List.replicate 16 (0:Int)))::(.box K2 b2 240 oA)::L)) ?_ fun K mA=>?_
   ·exact rg<|b_ rfl<|m_ rfl<|nl<|nx () yA rfl rfl
   ·refine bs dA fun vB nA dA=>bk<|sr<|m_ rfl<|a_ rfl<|ns<|m_ rfl<|nt<|bk<|lp nA () (fun bA cA=>[(1,.raw (.int .i64 a1)),(2,.ptr K2 a0),(4,pb b1),(5,pb b2),(6,.raw (.int .i64 vA)),(8,.raw (.int .i64 vA)),(11,.raw (.int .i64 bA.1))]) (fun bA cA=>(.box K2 b1 240 (List.replicate 16 (0:Int)))::(.box K2 b2 240 bA.2)::L) rfl rfl fun bA cA oB xA pA=>?_
    obtain⟨tA,uA⟩:=bA
    dsimp only at xA⊢
    refine sr<|b_ rfl<|nt<|sq<|it xA rfl (fun xA=>?_) (fun xA=>?_)
    ·exact bs xA fun xB yB xA=>bs xA fun kB qA xA=>ct<|sq<|bk<|sr<|m_ rfl<|a_ rfl<|nt<|rg<|mb rfl<|mb rfl<|m_ rfl<|m_ rfl<|mb rfl<|b_ rfl<|ov (OpV.quo rfl rfl (by decide) rfl) rfl<|b_ rfl<|mb rfl<|ov (OpV.ixA yB Tryz.underlying240 sz5 rfl rfl) rfl<|oI kt5 rfl<|f1<|oX .box .id qA Tryz.underlying240 sz5k rfl<|sP (x':=List.set uA (Int.toNat (IntKind.wrap .i64 ((IntKind.wrap .i64 (4*tA))+vA))) xB) .box (.ix .id qA) sz5k rfl rfl rdI rfl<|nl<|bN<|tn<|rg<|b_ rfl<|m_ rfl<|nl<|f1<|nx () xA rfl rfl
    ·refine xt<|te ?_
     cases aj xA pA
     exact te<|bh<|bN<|tn<|wr (mA _ (osi dA).symm) rfl
  ·refine f1<|fz (t:=5) rfl<|xt<|te ?_
   cases aj yA gA
   exact te<|bh<|tn<|wr (rA _ (osi kA).symm) rfl
noncomputable def ik (a0:List Int) (a1:List Int):Option (List Int):=
 (((Loop.run (S:=(Int×(List Int))) (R:=(List Int)) (fun(xA,hA)=>
   bif decide (xA<4) then
    (((Loop.run (S:=(Int×(List Int))) (R:=(List Int)) (fun(yA,zA)=>
      bif decide (yA<4) then
       (idx zA xA).bind fun bA=>
       (idx a1 (Int.tmod (IntKind.wrap .i64 ((IntKind.wrap .i64 (yA - xA))+4)) 4)).bind fun vA=>
       (idx a0 yA).bind fun oA=>
       (dh vA oA).bind fun kA=>
       (idx zA xA).bind fun rA=>
       some (.next (IntKind.wrap .i64 (yA+1),List.set zA (Int.toNat xA) (xorI .u8 bA kA)))
      else
       some (.done zA)) (0,hA)).bind fun dA=>
    some dA
     :Option (List Int))).bind fun eA=>
    some (.next (IntKind.wrap .i64 (xA+1),eA))
   else
    some (.done hA)) (0,(List.replicate 4 (0:Int)))).bind fun cA=>
 some cA
  :Option (List Int))).bind fun qA=>
 some qA
theorem o56 {a0 a1:List Int} {r0:(List Int)} (hF:ik a0 a1=some r0) (L:List Res):Ok Tryz.prog 242 [SV.val K5 a0,SV.val K5 a1] L (SV.val K5 r0) L:=by
 unfold ik at hF
 refine okI 33 Tryz.func242 rfl rfl rfl fun F0=>?_
 refine bs hF fun hA dA hF=>sr<|bX (K:=kArr 4 K10) rfl rdV rfl<|bX (K:=kArr 4 K10) rfl rdV rfl<|al ZT283 rfl fun b1=>ns<|al ZT283 rfl fun b2=>nt<|sq<|afr (r:=hA) (fun hA=>[(4,pb b1),(5,.ptr K5 hA)]) (fun hA=>((.box K5 b1 283 (List.replicate 4 (0:Int)))::L)) ?_ fun K wA=>?_
 ·refine sr<|oL kt283 rfl<|sP (x':=hA) .box .id sz283k rfl rfl rdV rfl<|nl<|fz (t:=4) rfl<|tn<|rc ?_
  cases osi hF
  exact rs Tryz.results242 (.ce rfl kt283 .nil) rfl rfl
 ·refine bs dA fun vB gA dA=>sr<|m_ rfl<|nt<|bk<|f1<|lp gA () (fun yA kA=>[(2,.ptr K5 a0),(3,.ptr K5 a1),(4,pb b1),(5,pb b2),(8,.raw (.int .i64 yA.1))]) (fun yA kA=>(.box K5 b1 283 (List.replicate 4 (0:Int)))::(.box K5 b2 283 yA.2)::L) rfl rfl fun yA kA oB zA mA=>?_
  obtain⟨vA,kB⟩:=yA
  dsimp only at zA⊢
  refine sr<|b_ rfl<|nt<|sq<|it zA rfl (fun zA=>?_) (fun zA=>?_)
  ·refine bs zA fun oA eA zA=>ct<|sq<|afr (r:=oA) (fun oA=>[(2,.ptr K5 a0),(3,.ptr K5 a1),(4,pb b1),(5,pb b2),(8,.raw (.int .i64 vA))]) (fun oA=>((.box K5 b1 283 (List.replicate 4 (0:Int)))::(.box K5 b2 283 oA)::L)) ?_ fun K nA=>?_
   ·exact rg<|b_ rfl<|m_ rfl<|nl<|nx () zA rfl rfl
   ·refine bs eA fun dB pA eA=>bk<|sr<|m_ rfl<|a_ rfl<|ns<|m_ rfl<|nt<|bk<|lp pA () (fun bA cA=>[(2,.ptr K5 a0),(3,.ptr K5 a1),(4,pb b1),(5,pb b2),(6,.raw (.int .i64 vA)),(8,.raw (.int .i64 vA)),(11,.raw (.int .i64 bA.1))]) (fun bA cA=>(.box K5 b1 283 (List.replicate 4 (0:Int)))::(.box K5 b2 283 bA.2)::L) rfl rfl fun bA cA eB xA tA=>?_
    obtain⟨cB,uA⟩:=bA
    dsimp only at xA⊢
    refine sr<|b_ rfl<|nt<|sq<|it xA rfl (fun xA=>?_) (fun xA=>?_)
    ·exact bs xA fun xB qA xA=>bs xA fun qB yB xA=>bs xA fun rB zB xA=>bs xA fun hB bB xA=>bs xA fun wB rA xA=>ct<|sq<|bk<|sr<|m_ rfl<|a_ rfl<|nt<|ph rfl<|gV [0,1,2,3,4,5,6,7,8,9,10,11,12,13] [[6],[5,14],[15],[7],[6],[17,18],[19],[20],[3,21],[22],[7],[2,24],[25],[23,26]] 2 (by kernel_rfl) rfl<|vm_ rfl<|Vq.v (fun G T hG=>f1<|oX .box .id qA Tryz.underlying283 sz5k rfl<|f1<|Vq.end rfl)<|Vq.v (fun G T hG=>f1<|lP .box (.ix .id qA) kt5k rfl rfl<|rI (t:=16) rfl<|f1<|Vq.end rfl)<|vm_ rfl<|vm_ rfl<|vb_ rfl<|vb_ rfl<|vo (fun _=>OpV.quo rfl rfl (by decide) rfl) rfl<|vo (fun _=>OpV.ixA yB Tryz.underlying283 sz5 rfl rfl) rfl<|vo (fun _=>OpV.ldI kt5 rfl) rfl<|vm_ rfl<|vo (fun _=>OpV.ixA zB Tryz.underlying283 sz5 rfl rfl) rfl<|vo (fun _=>OpV.ldI kt5 rfl) rfl<|Vq.v (fun G T hG=>cx Tryz.call202 rfl (o47 bB _)<|Vq.end rfl)<|vn<|p1 14 rfl rfl<|b_ rfl<|pn<|p1 15 rfl rfl<|f1<|oX .box .id rA Tryz.underlying283 sz5k rfl<|pn<|p1 16 rfl rfl<|sP (x':=List.set uA (Int.toNat vA) (xorI .u8 xB hB)) .box (.ix .id rA) sz5k rfl rfl rdI rfl<|pn<|pd rfl<|bN<|tn<|rg<|b_ rfl<|m_ rfl<|nl<|f1<|nx () xA rfl rfl
    ·refine xt<|te ?_
     cases aj xA tA
     exact te<|bh<|bN<|tn<|wr (nA _ (osi eA).symm) rfl
  ·refine f1<|fz (t:=5) rfl<|xt<|te ?_
   cases aj zA mA
   exact te<|bh<|tn<|wr (wA _ (osi dA).symm) rfl
noncomputable def fp (a0:List Int):Option (List Int):=
 (ik a0 [2,3,1,1]).bind fun y2=>
 some y2
theorem o57 {a0:List Int} {r0:(List Int)} (hF:fp a0=some r0) (L:List Res):Ok Tryz.prog 209 [SV.val K5 a0] L (SV.val K5 r0) L:=by
 unfold fp at hF
 refine okI 6 Tryz.func209 rfl rfl rfl fun F0=>?_
 refine bs hF fun y2 h3 hF=>sr<|bX (K:=kArr 4 K10) rfl rdV rfl<|al ZT283 rfl fun b1=>ns<|oL kt283 rfl<|ov (OpV.bar (ys:=[2,3,1,1]) BTA283 (BldA.cons rfl rfl rdI (BldA.cons rfl rfl rdI (BldA.cons rfl rfl rdI (BldA.cons rfl rfl rdI (BldA.nil _)))))) rfl<|cx Tryz.call242 rfl (o56 h3 _)<|sP (x':=y2) .box .id sz283k rfl rfl rdV rfl<|nl<|fz (t:=2) rfl<|tn<|rc ?_
 cases osi hF
 exact rs Tryz.results209 (.ce rfl kt283 .nil) rfl rfl
end Go.Proofs.YtobbmodjdkcdcaaGreatDoor

import Derived.Test.YtobbmodjdkcdcaaGreatDoorBr1
set_option linter.unusedVariables false
set_option linter.unusedSimpArgs false
set_option maxRecDepth 20000
namespace Go.Proofs.YtobbmodjdkcdcaaGreatDoor
open Go Go.Sim Go.ChangeShapes Go.WideShapes Go.ChangeAt Go.RowKit
set_option linter.unusedSectionVars false
variable [Fu]
noncomputable def eX (a0:List Int) (a1:List Int):Option (List Int):=
 (((Loop.run (S:=(Int×(List Int))) (R:=(List Int)) (fun(yA,eA)=>
   bif decide (yA<16) then
    (idx a1 (IntKind.wrap .i64 (4*yA))).bind fun zB=>
    (idx a1 (IntKind.wrap .i64 ((IntKind.wrap .i64 (4*yA))+1))).bind fun hB=>
    (idx a1 (IntKind.wrap .i64 ((IntKind.wrap .i64 (4*yA))+2))).bind fun bB=>
    (idx a1 (IntKind.wrap .i64 ((IntKind.wrap .i64 (4*yA))+3))).bind fun vB=>
    (idx eA yA).bind fun vC=>
    some (.next (IntKind.wrap .i64 (yA+1),List.set eA (Int.toNat yA) (orI .u32 (orI .u32 (orI .u32 (shlI .u32 (IntKind.wrap .u32 zB) 24) (shlI .u32 (IntKind.wrap .u32 hB) 16)) (shlI .u32 (IntKind.wrap .u32 bB) 8)) (IntKind.wrap .u32 vB))))
   else
    some (.done eA)) (0,(List.replicate 64 (0:Int)))).bind fun oB=>
 some oB
  :Option (List Int))).bind fun oC=>
 (((Loop.run (S:=(Int×(List Int))) (R:=(List Int)) (fun(zA,bA)=>
   bif decide (zA<64) then
    (idx bA (IntKind.wrap .i64 (zA - 15))).bind fun cA=>
    (idx bA (IntKind.wrap .i64 (zA - 2))).bind fun qA=>
    (bf cA (-7)).bind fun kB=>
    (bf cA (-18)).bind fun dB=>
    (bf qA (-17)).bind fun eB=>
    (bf qA (-19)).bind fun cB=>
    (idx bA (IntKind.wrap .i64 (zA - 7))).bind fun qB=>
    (idx bA (IntKind.wrap .i64 (zA - 16))).bind fun rB=>
    (idx bA zA).bind fun kC=>
    some (.next (IntKind.wrap .i64 (zA+1),List.set bA (Int.toNat zA) (IntKind.wrap .u32 ((IntKind.wrap .u32 ((IntKind.wrap .u32 ((xorI .u32 (xorI .u32 eB cB) (shrI .u32 qA 10))+qB))+(xorI .u32 (xorI .u32 kB dB) (shrI .u32 cA 3))))+rB))))
   else
    some (.done bA)) (16,oC)).bind fun wB=>
 some wB
  :Option (List Int))).bind fun gB=>
 (((Loop.run (S:=(Int×(List Int))) (R:=(List Int)) (fun(kA,xA)=>
   bif decide (kA<64) then
    (idx xA 0).bind fun vA=>
    (idx xA 1).bind fun rA=>
    (idx xA 2).bind fun wA=>
    (idx xA 4).bind fun hA=>
    (idx xA 5).bind fun gA=>
    (idx xA 6).bind fun mA=>
    (bf hA (-6)).bind fun nA=>
    (bf hA (-11)).bind fun pA=>
    (bf hA (-25)).bind fun tA=>
    (bf vA (-2)).bind fun mB=>
    (bf vA (-13)).bind fun nB=>
    (bf vA (-22)).bind fun pB=>
    (idx xA 7).bind fun uA=>
    (idx glob0 kA).bind fun xB=>
    (idx gB kA).bind fun yB=>
    (idx xA 3).bind fun tB=>
    some (.next (IntKind.wrap .i64 (kA+1),[IntKind.wrap .u32 ((IntKind.wrap .u32 ((IntKind.wrap .u32 ((IntKind.wrap .u32 ((IntKind.wrap .u32 (uA+(xorI .u32 (xorI .u32 nA pA) tA)))+(xorI .u32 (andI .u32 hA gA) (andI .u32 (cplI .u32 hA) mA))))+xB))+yB))+(IntKind.wrap .u32 ((xorI .u32 (xorI .u32 mB nB) pB)+(xorI .u32 (xorI .u32 (andI .u32 vA rA) (andI .u32 vA wA)) (andI .u32 rA wA))))),vA,rA,wA,IntKind.wrap .u32 (tB+(IntKind.wrap .u32 ((IntKind.wrap .u32 ((IntKind.wrap .u32 ((IntKind.wrap .u32 (uA+(xorI .u32 (xorI .u32 nA pA) tA)))+(xorI .u32 (andI .u32 hA gA) (andI .u32 (cplI .u32 hA) mA))))+xB))+yB))),hA,gA,mA]))
   else
    some (.done xA)) (0,a0)).bind fun uB=>
 some uB
  :Option (List Int))).bind fun xC=>
 (((Loop.run (S:=(Int×(List Int))) (R:=(List Int)) (fun(oA,dA)=>
   bif decide (oA<8) then
    (idx dA oA).bind fun yC=>
    (idx xC oA).bind fun zC=>
    (idx dA oA).bind fun dC=>
    some (.next (IntKind.wrap .i64 (oA+1),List.set dA (Int.toNat oA) (IntKind.wrap .u32 (yC+zC))))
   else
    some (.done dA)) (0,a0)).bind fun hC=>
 some hC
  :Option (List Int))).bind fun bC=>
 some bC
theorem o31 {a0 a1:List Int} {r0:(List Int)} (hF:eX a0 a1=some r0) (L:List Res):Ok Tryz.prog 213 [SV.val K5 a0,SV.val (kArr 64 K12) a1] L (SV.val K5 r0) L:=by
 unfold eX at hF
 refine okI 197 Tryz.func213 rfl rfl rfl fun F0=>?_
 refine bs hF fun qC rC hF=>sr<|Under.bx (K:=kArr 8 K11) rfl rdV rfl fun b1=>bX (K:=kArr 64 K12) rfl rdV rfl<|al ZT250 rfl fun b2=>ns<|al ZT319 rfl fun b3=>nt<|sq<|afr (r:=qC) (fun qC=>[(2,pb b1),(4,pb b2),(5,pb b3)]) (fun qC=>((.box K5 b1 250 a0)::(.box K5 b2 250 (List.replicate 8 (0:Int)))::(.box K2 b3 319 qC)::L)) ?_ fun K yG=>?_
 ·refine bs hF fun cA hB hF=>sq<|afr (r:=cA) (fun cA=>[(2,pb b1),(4,pb b2),(5,.ptr K2 cA)]) (fun cA=>((.box K5 b1 250 a0)::(.box K5 b2 250 (List.replicate 8 (0:Int)))::L)) ?_ fun K wC=>?_
  ·refine bs hF fun qA bB hF=>sr<|lP .box .id kt250k rfl rfl<|al ZT250 rfl fun oB=>sP (x':=a0) .box .id sz250k rfl rfl rdV rfl<|nt<|sq<|afr (r:=qA) (fun qA=>[(2,pb b1),(4,pb b2),(12,.ptr K5 qA)]) (fun qA=>((.box K5 b1 250 a0)::(.box K5 b2 250 (List.replicate 8 (0:Int)))::L)) ?_ fun K gC=>?_
   ·refine bs hF fun rA vB hF=>sq<|afr (r:=rA) (fun rA=>[(2,.ptr K5 rA),(4,pb b2)]) (fun rA=>((.box K5 b2 250 (List.replicate 8 (0:Int)))::L)) ?_ fun K mC=>?_
    ·refine sr<|oL kt250 rfl<|sP (x':=rA) .box .id sz250k rfl rfl rdV rfl<|nl<|fz (t:=4) rfl<|tn<|rc ?_
     cases osi hF
     exact rs Tryz.results213 (.ce rfl kt250 .nil) rfl rfl
    ·refine bs vB fun zG nC vB=>sr<|m_ rfl<|nt<|bk<|lp nC () (fun wA kB=>[(2,pb b1),(4,pb b2),(12,.ptr K5 qA),(184,.raw (.int .i64 wA.1))]) (fun wA kB=>(.box K5 b1 250 wA.2)::(.box K5 b2 250 (List.replicate 8 (0:Int)))::L) rfl rfl fun wA kB bG hA pC=>?_
     obtain⟨tC,uC⟩:=wA
     dsimp only at hA⊢
     refine sr<|b_ rfl<|nt<|sq<|it hA rfl (fun hA=>?_) (fun hA=>?_)
     ·exact bs hA fun xD dB hA=>bs hA fun yD zD hA=>bs hA fun vG eB hA=>ct<|sq<|bk<|sr<|m_ rfl<|a_ rfl<|nt<|ph rfl<|gV [0,1,2,3,4,5] [[24],[2,187],[188],[24],[12,190],[191]] 2 (by kernel_rfl) rfl<|vm_ rfl<|Vq.v (fun G T hG=>oX .box .id dB Tryz.underlying250 sz142k rfl<|Vq.end rfl)<|Vq.v (fun G T hG=>lP .box (.ix .id dB) kt142k rfl rfl<|rI (t:=189) rfl<|Vq.end rfl)<|vm_ rfl<|vo (fun _=>OpV.ixA zD Tryz.underlying250 sz142 rfl rfl) rfl<|vo (fun _=>OpV.ldI kt142 rfl) rfl<|vn<|p1 6 rfl rfl<|b_ rfl<|pn<|p1 7 rfl rfl<|oX .box .id eB Tryz.underlying250 sz142k rfl<|pn<|p1 8 rfl rfl<|sP (x':=List.set uC (Int.toNat tC) (IntKind.wrap .u32 (xD+yD))) .box (.ix .id eB) sz142k rfl rfl rdI rfl<|pn<|pd rfl<|bN<|tn<|rg<|b_ rfl<|m_ rfl<|nl<|nx () hA rfl rfl
     ·refine fz (t:=2) rfl<|xt<|te ?_
      cases ai hA pC
      exact te<|bh<|tn<|wr (mC _ (osi vB).symm) rfl
   ·refine bs bB fun oG hD bB=>sr<|m_ rfl<|nt<|bk<|f2<|f2<|lp hD () (fun gA cB=>[(2,pb b1),(4,pb b2),(5,.ptr K2 cA),(12,pb oB),(104,.raw (.int .i64 gA.1))]) (fun gA cB=>(.box K5 b1 250 a0)::(.box K5 b2 250 (List.replicate 8 (0:Int)))::(.box K5 oB 250 gA.2)::L) rfl rfl fun gA cB kG xA bD=>?_
    obtain⟨dG,eG⟩:=gA
    dsimp only at xA⊢
    refine sr<|b_ rfl<|nt<|sq<|it xA rfl (fun xA=>?_) (fun xA=>?_)
    ·exact bs xA fun vA qB xA=>bs xA fun oA rB xA=>bs xA fun kA wB xA=>bs xA fun bA gB xA=>bs xA fun dA mB xA=>bs xA fun eA nB xA=>bs xA fun pA vD xA=>bs xA fun tA oD xA=>bs xA fun uA kD xA=>bs xA fun pB dD xA=>bs xA fun tB eD xA=>bs xA fun uB cD xA=>bs xA fun xB xC xA=>bs xA fun yB qD xA=>bs xA fun zB rD xA=>bs xA fun yC zC xA=>ct<|sq<|bk<|sr<|m_ rfl<|a_ rfl<|nt<|sq<|ph rfl<|gV [0,1,2,3,4,5,6,7,8,9,10,11,12,13,14,15,16] [[12],[107],[12],[109],[12],[111],[12],[113],[12],[115],[12],[117],[108],[110],[112],[114],[116]] 3 (by kernel_rfl) rfl<|Vq.v (fun G T hG=>f2<|oX .box .id qB Tryz.underlying250 sz142k rfl<|f2<|f2<|Vq.end rfl)<|Vq.v (fun G T hG=>f2<|lP .box (.ix .id qB) kt142k rfl rfl<|rI (t:=108) rfl<|f2<|f2<|Vq.end rfl)<|Vq.v (fun G T hG=>f2<|oX .box .id rB Tryz.underlying250 sz142k rfl<|f2<|f2<|Vq.end rfl)<|Vq.v (fun G T hG=>f2<|lP .box (.ix .id rB) kt142k rfl rfl<|rI (t:=110) rfl<|f2<|f2<|Vq.end rfl)<|Vq.v (fun G T hG=>f2<|oX .box .id wB Tryz.underlying250 sz142k rfl<|f2<|f2<|Vq.end rfl)<|Vq.v (fun G T hG=>f2<|lP .box (.ix .id wB) kt142k rfl rfl<|rI (t:=112) rfl<|f2<|f2<|Vq.end rfl)<|Vq.v (fun G T hG=>f2<|oX .box .id gB Tryz.underlying250 sz142k rfl<|f2<|f2<|Vq.end rfl)<|Vq.v (fun G T hG=>f2<|lP .box (.ix .id gB) kt142k rfl rfl<|rI (t:=114) rfl<|f2<|f2<|Vq.end rfl)<|Vq.v (fun G T hG=>f2<|oX .box .id mB Tryz.underlying250 sz142k rfl<|f2<|f2<|Vq.end rfl)<|Vq.v (fun G T hG=>f2<|lP .box (.ix .id mB) kt142k rfl rfl<|rI (t:=116) rfl<|f2<|f2<|Vq.end rfl)<|Vq.v (fun G T hG=>f2<|oX .box .id nB Tryz.underlying250 sz142k rfl<|f2<|f2<|Vq.end rfl)<|Vq.v (fun G T hG=>f2<|lP .box (.ix .id nB) kt142k rfl rfl<|rI (t:=118) rfl<|f2<|f2<|Vq.end rfl)<|Vq.v (fun G T hG=>a_ rfl<|Vq.end rfl)<|Vq.v (fun G T hG=>a_ rfl<|Vq.end rfl)<|Vq.v (fun G T hG=>a_ rfl<|Vq.end rfl)<|Vq.v (fun G T hG=>a_ rfl<|Vq.end rfl)<|Vq.v (fun G T hG=>a_ rfl<|Vq.end rfl)<|vn<|p1 17 rfl rfl<|a_ rfl<|pn<|pd rfl<|tn<|sr<|m_ rfl<|cx Tryz.call243 rfl (o30 vD _)<|m_ rfl<|cx Tryz.call243 rfl (o30 oD _)<|b_ rfl<|m_ rfl<|cx Tryz.call243 rfl (o30 kD _)<|b_ rfl<|a_ rfl<|ns<|m_ rfl<|cx Tryz.call243 rfl (o30 dD _)<|m_ rfl<|cx Tryz.call243 rfl (o30 eD _)<|b_ rfl<|m_ rfl<|cx Tryz.call243 rfl (o30 cD _)<|b_ rfl<|a_ rfl<|nt<|sq<|ph rfl<|gV [0,1,2,3,4,5,6,7,8,9,10,11,12,13,14,15,16,17,18,19] [[12],[135],[20],[136,137],[17],[18],[139,140],[17],[142],[19],[143,144],[141,145],[138,146],[13],[148],[149],[147,150],[13],[5,152],[153]] 3 (by kernel_rfl) rfl<|Vq.v (fun G T hG=>f2<|oX .box .id xC Tryz.underlying250 sz142k rfl<|f2<|f2<|Vq.end rfl)<|Vq.v (fun G T hG=>f2<|lP .box (.ix .id xC) kt142k rfl rfl<|rI (t:=136) rfl<|f2<|f2<|Vq.end rfl)<|vm_ rfl<|vb_ rfl<|vm_ rfl<|vm_ rfl<|vb_ rfl<|vm_ rfl<|vo (fun _=>OpV.cpl rfl) rfl<|vm_ rfl<|vb_ rfl<|vb_ rfl<|vb_ rfl<|vm_ rfl<|vo (fun _=>OpV.ixA qD Tryz.underlying319 sz142 rfl rfl) rfl<|vo (fun _=>OpV.ldI kt142 rfl) rfl<|vb_ rfl<|vm_ rfl<|vo (fun _=>OpV.ixA rD Tryz.underlying319 sz142 rfl rfl) rfl<|vo (fun _=>OpV.ldI kt142 rfl) rfl<|vn<|p1 20 rfl rfl<|b_ rfl<|pn<|p1 21 rfl rfl<|a_ rfl<|pn<|pd rfl<|tn<|sr<|m_ rfl<|m_ rfl<|mb rfl<|m_ rfl<|mb rfl<|b_ rfl<|m_ rfl<|mb rfl<|b_ rfl<|b_ rfl<|a_ rfl<|nt<|rg<|m_ rfl<|mb rfl<|m_ rfl<|m_ rfl<|m_ rfl<|f2<|oX .box .id zC Tryz.underlying250 sz142k rfl<|lP .box (.ix .id zC) kt142k rfl rfl<|rI (t:=176) rfl<|mb rfl<|m_ rfl<|m_ rfl<|m_ rfl<|ov (OpV.bar (ys:=[IntKind.wrap .u32 ((IntKind.wrap .u32 ((IntKind.wrap .u32 ((IntKind.wrap .u32 ((IntKind.wrap .u32 (xB+(xorI .u32 (xorI .u32 pA tA) uA)))+(xorI .u32 (andI .u32 bA dA) (andI .u32 (cplI .u32 bA) eA))))+yB))+zB))+(IntKind.wrap .u32 ((xorI .u32 (xorI .u32 pB tB) uB)+(xorI .u32 (xorI .u32 (andI .u32 vA oA) (andI .u32 vA kA)) (andI .u32 oA kA))))),vA,oA,kA,IntKind.wrap .u32 (yC+(IntKind.wrap .u32 ((IntKind.wrap .u32 ((IntKind.wrap .u32 ((IntKind.wrap .u32 (xB+(xorI .u32 (xorI .u32 pA tA) uA)))+(xorI .u32 (andI .u32 bA dA) (andI .u32 (cplI .u32 bA) eA))))+yB))+zB))),bA,dA,eA]) BTA250 (BldA.cons rfl rfl rdI (BldA.cons rfl rfl rdI (BldA.cons rfl rfl rdI (BldA.cons rfl rfl rdI (BldA.cons rfl rfl rdI (BldA.cons rfl rfl rdI (BldA.cons rfl rfl rdI (BldA.cons rfl rfl rdI (BldA.nil _)))))))))) rfl<|sP (x':=[IntKind.wrap .u32 ((IntKind.wrap .u32 ((IntKind.wrap .u32 ((IntKind.wrap .u32 ((IntKind.wrap .u32 (xB+(xorI .u32 (xorI .u32 pA tA) uA)))+(xorI .u32 (andI .u32 bA dA) (andI .u32 (cplI .u32 bA) eA))))+yB))+zB))+(IntKind.wrap .u32 ((xorI .u32 (xorI .u32 pB tB) uB)+(xorI .u32 (xorI .u32 (andI .u32 vA oA) (andI .u32 vA kA)) (andI .u32 oA kA))))),vA,oA,kA,IntKind.wrap .u32 (yC+(IntKind.wrap .u32 ((IntKind.wrap .u32 ((IntKind.wrap .u32 ((IntKind.wrap .u32 (xB+(xorI .u32 (xorI .u32 pA tA) uA)))+(xorI .u32 (andI .u32 bA dA) (andI .u32 (cplI .u32 bA) eA))))+yB))+zB))),bA,dA,eA]) .box .id sz250k rfl rfl rdV rfl<|nl<|bN<|tn<|rg<|b_ rfl<|m_ rfl<|nl<|f2<|f2<|nx () xA rfl rfl
    ·refine f2<|fz (t:=12) rfl<|xt<|te ?_
     cases ai xA bD
     exact te<|bh<|tn<|wr (gC _ (osi bB).symm) rfl
  ·refine bs hB fun cG wD hB=>sr<|a_ rfl<|nt<|bk<|lp wD () (fun mA hC=>[(2,pb b1),(4,pb b2),(5,pb b3),(7,.raw (.int .i64 mA.1))]) (fun mA hC=>(.box K5 b1 250 a0)::(.box K5 b2 250 (List.replicate 8 (0:Int)))::(.box K2 b3 319 mA.2)::L) rfl rfl fun mA hC qG yA gD=>?_
   obtain⟨mD,nD⟩:=mA
   dsimp only at yA⊢
   refine sq<|sr<|mb rfl<|nt<|it yA rfl (fun yA=>?_) (fun yA=>?_)
   ·exact bs yA fun pD bC yA=>bs yA fun tD vC yA=>bs yA fun uD xE yA=>bs yA fun yE zE yA=>bs yA fun hE bE yA=>bs yA fun vE oE yA=>bs yA fun kE oC yA=>bs yA fun dE kC yA=>bs yA fun rG dC yA=>ct<|sq<|bk<|sq<|ph rfl<|gV [0,1,2,3,4,5,6,7,8] [[7],[64],[5,65],[66],[7],[68],[5,69],[70],[67]] 3 (by kernel_rfl) rfl<|vm_ rfl<|vb_ rfl<|Vq.v (fun G T hG=>f2<|oX .box .id bC Tryz.underlying319 sz142k rfl<|f2<|f2<|Vq.end rfl)<|Vq.v (fun G T hG=>f2<|lP .box (.ix .id bC) kt142k rfl rfl<|rI (t:=67) rfl<|f2<|f2<|Vq.end rfl)<|vm_ rfl<|vb_ rfl<|Vq.v (fun G T hG=>f2<|oX .box .id vC Tryz.underlying319 sz142k rfl<|f2<|f2<|Vq.end rfl)<|Vq.v (fun G T hG=>f2<|lP .box (.ix .id vC) kt142k rfl rfl<|rI (t:=71) rfl<|f2<|f2<|Vq.end rfl)<|Vq.v (fun G T hG=>a_ rfl<|Vq.end rfl)<|vn<|p1 9 rfl rfl<|a_ rfl<|pn<|pd rfl<|tn<|sr<|m_ rfl<|cx Tryz.call243 rfl (o30 xE _)<|m_ rfl<|cx Tryz.call243 rfl (o30 zE _)<|b_ rfl<|m_ rfl<|ov (OpV.sh rfl rfl (by decide) rfl) rfl<|b_ rfl<|a_ rfl<|ns<|m_ rfl<|cx Tryz.call243 rfl (o30 bE _)<|m_ rfl<|cx Tryz.call243 rfl (o30 oE _)<|b_ rfl<|m_ rfl<|ov (OpV.sh rfl rfl (by decide) rfl) rfl<|b_ rfl<|a_ rfl<|nt<|ph rfl<|gV [0,1,2,3,4,5,6,7,8,9,10,11,12,13] [[7],[11],[7],[90],[5,91],[92],[89,93],[10],[94,95],[7],[97],[5,98],[99],[96,100]] 3 (by kernel_rfl) rfl<|vm_ rfl<|vm_ rfl<|vm_ rfl<|vb_ rfl<|Vq.v (fun G T hG=>f2<|oX .box .id oC Tryz.underlying319 sz142k rfl<|f2<|f2<|Vq.end rfl)<|Vq.v (fun G T hG=>f2<|lP .box (.ix .id oC) kt142k rfl rfl<|rI (t:=93) rfl<|f2<|f2<|Vq.end rfl)<|vb_ rfl<|vm_ rfl<|vb_ rfl<|vm_ rfl<|vb_ rfl<|Vq.v (fun G T hG=>f2<|oX .box .id kC Tryz.underlying319 sz142k rfl<|f2<|f2<|Vq.end rfl)<|Vq.v (fun G T hG=>f2<|lP .box (.ix .id kC) kt142k rfl rfl<|rI (t:=100) rfl<|f2<|f2<|Vq.end rfl)<|vb_ rfl<|vn<|p1 14 rfl rfl<|f2<|oX .box .id dC Tryz.underlying319 sz142k rfl<|pn<|p1 15 rfl rfl<|sP (x':=List.set nD (Int.toNat mD) (IntKind.wrap .u32 ((IntKind.wrap .u32 ((IntKind.wrap .u32 ((xorI .u32 (xorI .u32 hE vE) (shrI .u32 tD 10))+kE))+(xorI .u32 (xorI .u32 uD yE) (shrI .u32 pD 3))))+dE))) .box (.ix .id dC) sz142k rfl rfl rdI rfl<|pn<|pd rfl<|bN<|tn<|rg<|mb rfl<|a_ rfl<|nl<|f2<|f2<|nx () yA rfl rfl
   ·refine f2<|fz (t:=5) rfl<|xt<|te ?_
    cases ai yA gD
    exact te<|bh<|tn<|wr (wC _ (osi hB).symm) rfl
 ·refine bs rC fun wG eE rC=>sr<|m_ rfl<|nt<|bk<|f1<|f2<|lp eE () (fun nA eC=>[(2,pb b1),(3,.ptr (kArr 64 K12) a1),(4,pb b2),(5,pb b3),(25,.raw (.int .i64 nA.1))]) (fun nA eC=>(.box K5 b1 250 a0)::(.box K5 b2 250 (List.replicate 8 (0:Int)))::(.box K2 b3 319 nA.2)::L) rfl rfl fun nA eC gG zA cE=>?_
  obtain⟨qE,rE⟩:=nA
  dsimp only at zA⊢
  refine sr<|b_ rfl<|nt<|sq<|it zA rfl (fun zA=>?_) (fun zA=>?_)
  ·exact bs zA fun wE gE zA=>bs zA fun mE nE zA=>bs zA fun pE tE zA=>bs zA fun uE xG zA=>bs zA fun mG cC zA=>ct<|sq<|bk<|sr<|m_ rfl<|a_ rfl<|nt<|ph rfl<|gV [0,1,2,3,4,5,6,7,8,9,10,11,12,13,14,15,16,17,18,19,20,21,22,23,24,25,26,27,28,29] [[6],[6],[29],[3,30],[31],[32],[33],[6],[35],[36],[3,37],[38],[39],[40],[34,41],[6],[43],[44],[3,45],[46],[47],[48],[42,49],[6],[51],[52],[3,53],[54],[55],[50,56]] 3 (by kernel_rfl) rfl<|vm_ rfl<|vm_ rfl<|vb_ rfl<|vo (fun _=>OpV.ixA gE Tryz.underlying251 sz5 rfl rfl) rfl<|vo (fun _=>OpV.ldI kt5 rfl) rfl<|vo (fun _=>OpV.conv (by kernel_rfl) Tryz.underlying142 rfl) rfl<|vo (fun _=>OpV.sh rfl rfl (by decide) rfl) rfl<|vm_ rfl<|vb_ rfl<|vb_ rfl<|vo (fun _=>OpV.ixA nE Tryz.underlying251 sz5 rfl rfl) rfl<|vo (fun _=>OpV.ldI kt5 rfl) rfl<|vo (fun _=>OpV.conv (by kernel_rfl) Tryz.underlying142 rfl) rfl<|vo (fun _=>OpV.sh rfl rfl (by decide) rfl) rfl<|vb_ rfl<|vm_ rfl<|vb_ rfl<|vb_ rfl<|vo (fun _=>OpV.ixA tE Tryz.underlying251 sz5 rfl rfl) rfl<|vo (fun _=>OpV.ldI kt5 rfl) rfl<|vo (fun _=>OpV.conv (by kernel_rfl) Tryz.underlying142 rfl) rfl<|vo (fun _=>OpV.sh rfl rfl (by decide) rfl) rfl<|vb_ rfl<|vm_ rfl<|vb_ rfl<|vb_ rfl<|vo (fun _=>OpV.ixA xG Tryz.underlying251 sz5 rfl rfl) rfl<|vo (fun _=>OpV.ldI kt5 rfl) rfl<|vo (fun _=>OpV.conv (by kernel_rfl) Tryz.underlying142 rfl) rfl<|vb_ rfl<|vn<|p1 30 rfl rfl<|f2<|oX .box .id cC Tryz.underlying319 sz142k rfl<|pn<|p1 31 rfl rfl<|sP (x':=List.set rE (Int.toNat qE) (orI .u32 (orI .u32 (orI .u32 (shlI .u32 (IntKind.wrap .u32 wE) 24) (shlI .u32 (IntKind.wrap .u32 mE) 16)) (shlI .u32 (IntKind.wrap .u32 pE) 8)) (IntKind.wrap .u32 uE))) .box (.ix .id cC) sz142k rfl rfl rdI rfl<|pn<|pd rfl<|bN<|tn<|rg<|b_ rfl<|m_ rfl<|nl<|f2<|f2<|nx () zA rfl rfl
  ·refine xt<|te ?_
   cases ai zA cE
   exact te<|bh<|tn<|wr (yG _ (osi rC).symm) rfl
noncomputable def cX (a0:az) (a1:List Int):Option az:=
 ((bif decide (a0.n<64) then
  (jP).bind fun hA=>
  some ({a0 with words:=hA}:az)
 else
  some a0
  :Option az)).bind fun x5=>
 (((Loop.run (S:=((List Int)×az)) (R:=az) (fun(yA,xA)=>
   bif decide ((yA.length:Int)>0) then
    bif decide ((0:Int)≤(Int.tmod xA.n 64)∧(Int.tmod xA.n 64:Int)≤64∧(64:Int)≤64) then
    bif decide ((Int.toNat (Int.tmod xA.n 64))≤(Int.toNat 64)∧(Int.toNat 64)≤64) then
    (sub yA ((min (List.length yA) ((Int.toNat 64) - (Int.toNat (Int.tmod xA.n 64))):Nat):Int) (yA.length:Int)).bind fun zA=>
    bif (Int.tmod (({({xA with tail:=over xA.tail (Int.toNat (Int.tmod xA.n 64)) (Int.toNat 64) yA}:az) with n:=IntKind.wrap .u64 ((({xA with tail:=over xA.tail (Int.toNat (Int.tmod xA.n 64)) (Int.toNat 64) yA}:az).n)+(IntKind.wrap .u64 ((min (List.length yA) ((Int.toNat 64) - (Int.toNat (Int.tmod xA.n 64))):Nat):Int)))}:az).n) 64)==0 then
     (eX (({({xA with tail:=over xA.tail (Int.toNat (Int.tmod xA.n 64)) (Int.toNat 64) yA}:az) with n:=IntKind.wrap .u64 ((({xA with tail:=over xA.tail (Int.toNat (Int.tmod xA.n 64)) (Int.toNat 64) yA}:az).n)+(IntKind.wrap .u64 ((min (List.length yA) ((Int.toNat 64) - (Int.toNat (Int.tmod xA.n 64))):Nat):Int)))}:az).words) (({({xA with tail:=over xA.tail (Int.toNat (Int.tmod xA.n 64)) (Int.toNat 64) yA}:az) with n:=IntKind.wrap .u64 ((({xA with tail:=over xA.tail (Int.toNat (Int.tmod xA.n 64)) (Int.toNat 64) yA}:az).n)+(IntKind.wrap .u64 ((min (List.length yA) ((Int.toNat 64) - (Int.toNat (Int.tmod xA.n 64))):Nat):Int)))}:az).tail)).bind fun bA=>
     some (.next (zA,({({({xA with tail:=over xA.tail (Int.toNat (Int.tmod xA.n 64)) (Int.toNat 64) yA}:az) with n:=IntKind.wrap .u64 ((({xA with tail:=over xA.tail (Int.toNat (Int.tmod xA.n 64)) (Int.toNat 64) yA}:az).n)+(IntKind.wrap .u64 ((min (List.length yA) ((Int.toNat 64) - (Int.toNat (Int.tmod xA.n 64))):Nat):Int)))}:az) with words:=bA}:az)))
    else
     some (.next (zA,({({xA with tail:=over xA.tail (Int.toNat (Int.tmod xA.n 64)) (Int.toNat 64) yA}:az) with n:=IntKind.wrap .u64 ((({xA with tail:=over xA.tail (Int.toNat (Int.tmod xA.n 64)) (Int.toNat 64) yA}:az).n)+(IntKind.wrap .u64 ((min (List.length yA) ((Int.toNat 64) - (Int.toNat (Int.tmod xA.n 64))):Nat):Int)))}:az)))
    else none
    else none
   else
    some (.done xA)) (a1,x5)).bind fun vA=>
 some vA
  :Option az)).bind fun oA=>
 some oA
theorem o32 {a0:az} {a1:List Int} {r0:az} (hF:cX a0 a1=some r0) (L:List Res):Ok Tryz.prog 168 [SV.val bY a0,SV.val K9 a1] L (SV.val bY r0) L:=by
 unfold cX at hF
 refine okI 41 Tryz.func168 rfl rfl rfl fun F0=>?_
 refine bs hF fun x5 h7 hF=>sr<|Under.bx (K:=bY) rfl rdV rfl fun b1=>al ZT253 rfl fun b2=>nt<|sq<|afr (r:=x5) (fun x5=>[(1,.val K9 a1),(2,pb b1),(4,pb b2)]) (fun x5=>((.box bY b1 253 x5)::(.box bY b2 253 (⟨(List.replicate 8 (0:Int)),(List.replicate 64 (0:Int)),(0:Int)⟩:az))::L)) ?_ fun K k8=>?_
 ·refine bs hF fun hA kA hF=>sq<|afr (r:=hA) (fun hA=>[(2,.ptr bY hA),(4,pb b2)]) (fun hA=>((.box bY b2 253 (⟨(List.replicate 8 (0:Int)),(List.replicate 64 (0:Int)),(0:Int)⟩:az))::L)) ?_ fun K eA=>?_
  ·refine sr<|oL kt253 rfl<|sP (x':=hA) .box .id sz253k rfl rfl rdV rfl<|nl<|fz (t:=4) rfl<|tn<|rc ?_
   cases osi hF
   exact rs Tryz.results168 (.ce rfl kt253 .nil) rfl rfl
  ·refine bs kA fun pA cA kA=>bk<|lp cA () (fun bA dA=>[(1,.val K9 bA.1),(2,pb b1),(4,pb b2)]) (fun bA dA=>(.box bY b1 253 bA.2)::(.box bY b2 253 (⟨(List.replicate 8 (0:Int)),(List.replicate 64 (0:Int)),(0:Int)⟩:az))::L) rfl rfl fun bA dA tA yA qA=>?_
   obtain⟨zA,xA⟩:=bA
   dsimp only at yA⊢
   refine sq<|sr<|m_ rfl<|oN Tryz.underlying22 rfl<|b_ rfl<|nt<|it yA rfl (fun yA=>?_) (fun yA=>?_)
   ·refine gs yA fun vA yA=>ct<|bk<|sr<|oM wF rfl<|oM nd rfl<|lP .box (.fld .id fH) kt71k rfl rfl<|rI (t:=16) rfl<|ov (OpV.quo rfl rfl (by decide) rfl) rfl ?_
    replace vA:(0:Int)≤(Int.tmod xA.n 64)∧(Int.tmod xA.n 64:Int)≤64∧(64:Int)≤64:=of_decide_eq_true vA
    refine gs yA fun oA yA=>ov (OpV.slP (l:=Int.tmod xA.n 64) (h:=64) Tryz.underlying251 sz5k rfl rfl rfl (And.left vA) (And.left (And.right vA)) (And.right (And.right vA))) rfl<|m_ rfl ?_
    replace oA:(Int.toNat (Int.tmod xA.n 64))≤(Int.toNat 64)∧(Int.toNat 64)≤64:=of_decide_eq_true oA
    refine bs yA fun uA rA yA=>Under.cpB (x':=({xA with tail:=over xA.tail (Int.toNat (Int.tmod xA.n 64)) (Int.toNat 64) zA}:az)) .box (.fld .id mr) (And.left oA) (And.right oA) (pP (And.right oA)) Tryz.underlying22 sz5k rfl rfl (.sl rdV) rfl rfl<|a_ rfl<|ns<|oM nd rfl<|lP .box (.fld .id fH) kt71k rfl rfl<|rI (t:=22) rfl<|m_ rfl<|oC (by kernel_rfl) Tryz.underlying71 rfl<|b_ rfl<|oM nd rfl<|sP (x':=({({xA with tail:=over xA.tail (Int.toNat (Int.tmod xA.n 64)) (Int.toNat 64) zA}:az) with n:=IntKind.wrap .u64 ((({xA with tail:=over xA.tail (Int.toNat (Int.tmod xA.n 64)) (Int.toNat 64) zA}:az).n)+(IntKind.wrap .u64 ((min (List.length zA) ((Int.toNat 64) - (Int.toNat (Int.tmod xA.n 64))):Nat):Int)))}:az)) .box (.fld .id fH) sz71k rfl rfl rdI rfl<|ns<|m_ rfl<|m_ rfl<|ov (OpV.slL rA Tryz.underlying22 sz5 rfl rdV rfl) rfl<|a_ rfl<|ns<|oM nd rfl<|lP .box (.fld .id fH) kt71k rfl rfl<|rI (t:=31) rfl<|ov (OpV.quo rfl rfl (by decide) rfl) rfl<|b_ rfl<|nt<|it yA rfl (fun yA=>?_) (fun yA=>?_)
    ·exact bs yA fun wA gA yA=>rg<|oM td rfl<|lP .box (.fld .id jY) kt250k rfl rfl<|oM wF rfl<|lP .box (.fld .id mr) kt251k rfl rfl<|cx Tryz.call213 rfl (o31 gA _)<|oM td rfl<|sP (x':=({({({xA with tail:=over xA.tail (Int.toNat (Int.tmod xA.n 64)) (Int.toNat 64) zA}:az) with n:=IntKind.wrap .u64 ((({xA with tail:=over xA.tail (Int.toNat (Int.tmod xA.n 64)) (Int.toNat 64) zA}:az).n)+(IntKind.wrap .u64 ((min (List.length zA) ((Int.toNat 64) - (Int.toNat (Int.tmod xA.n 64))):Nat):Int)))}:az) with words:=wA}:az)) .box (.fld .id jY) sz250k rfl rfl rdV rfl<|nl<|bN<|nx () yA rfl rfl
    ·exact cs<|bN<|nx () yA rfl rfl
   ·refine fz (t:=2) rfl<|xt<|te ?_
    cases ai yA qA
    exact te<|bh<|tn<|wr (eA _ (osi kA).symm) rfl
 ·refine sr<|oM nd rfl<|f1<|lP .box (.fld .id fH) kt71k rfl rfl<|rI (t:=7) rfl<|b_ rfl<|nt<|it h7 rfl (fun h7=>?_) (fun h7=>?_)
  ·exact bs h7 fun mA nA h7=>rg<|cx Tryz.call212 rfl (o29 nA _)<|oM td rfl<|sP (x':=({a0 with words:=mA}:az)) .box (.fld .id jY) sz250k rfl rfl rdV rfl<|nt<|wr (k8 _ (osi h7).symm) rfl
  ·exact ct<|wr (k8 _ (osi h7).symm) rfl
noncomputable def ee (a0:az):Option (List Int):=
 bif mkB (IntKind.wrap .u64 (1+(Int.tmod (IntKind.wrap .u64 (119 - (Int.tmod a0.n 64))) 64))) 72 then
 (idx (List.replicate (Int.toNat (IntKind.wrap .u64 (1+(Int.tmod (IntKind.wrap .u64 (119 - (Int.tmod a0.n 64))) 64)))) (0:Int)) 0).bind fun x6=>
 (((Loop.run (S:=((List Int)×Int)) (R:=(List Int)) (fun(bA,hA)=>
   bif decide (hA≥0) then
    bif decide (0≤hA) then
    (app bA [IntKind.wrap .u8 (shrI .u64 (shlI .u64 a0.n 3) hA)]).bind fun vA=>
    some (.next (vA,IntKind.wrap .i64 (hA - 8)))
    else none
   else
    some (.done bA)) (List.set (List.replicate (Int.toNat (IntKind.wrap .u64 (1+(Int.tmod (IntKind.wrap .u64 (119 - (Int.tmod a0.n 64))) 64)))) (0:Int)) (Int.toNat 0) 128,56)).bind fun oA=>
 some oA
  :Option (List Int))).bind fun dA=>
 (cX a0 dA).bind fun eA=>
 (((Loop.run (S:=(Int×(List Int))) (R:=(List Int)) (fun(xA,zA)=>
   bif decide (xA<8) then
    (idx eA.words xA).bind fun yA=>
    (idx zA (IntKind.wrap .i64 (4*xA))).bind fun cA=>
    (idx (List.set zA (Int.toNat (IntKind.wrap .i64 (4*xA))) (IntKind.wrap .u8 (shrI .u32 yA 24))) (IntKind.wrap .i64 ((IntKind.wrap .i64 (4*xA))+1))).bind fun qA=>
    (idx (List.set (List.set zA (Int.toNat (IntKind.wrap .i64 (4*xA))) (IntKind.wrap .u8 (shrI .u32 yA 24))) (Int.toNat (IntKind.wrap .i64 ((IntKind.wrap .i64 (4*xA))+1))) (IntKind.wrap .u8 (shrI .u32 yA 16))) (IntKind.wrap .i64 ((IntKind.wrap .i64 (4*xA))+2))).bind fun rA=>
    (idx (List.set (List.set (List.set zA (Int.toNat (IntKind.wrap .i64 (4*xA))) (IntKind.wrap .u8 (shrI .u32 yA 24))) (Int.toNat (IntKind.wrap .i64 ((IntKind.wrap .i64 (4*xA))+1))) (IntKind.wrap .u8 (shrI .u32 yA 16))) (Int.toNat (IntKind.wrap .i64 ((IntKind.wrap .i64 (4*xA))+2))) (IntKind.wrap .u8 (shrI .u32 yA 8))) (IntKind.wrap .i64 ((IntKind.wrap .i64 (4*xA))+3))).bind fun wA=>
    some (.next (IntKind.wrap .i64 (xA+1),List.set (List.set (List.set (List.set zA (Int.toNat (IntKind.wrap .i64 (4*xA))) (IntKind.wrap .u8 (shrI .u32 yA 24))) (Int.toNat (IntKind.wrap .i64 ((IntKind.wrap .i64 (4*xA))+1))) (IntKind.wrap .u8 (shrI .u32 yA 16))) (Int.toNat (IntKind.wrap .i64 ((IntKind.wrap .i64 (4*xA))+2))) (IntKind.wrap .u8 (shrI .u32 yA 8))) (Int.toNat (IntKind.wrap .i64 ((IntKind.wrap .i64 (4*xA))+3))) (IntKind.wrap .u8 yA)))
   else
    some (.done zA)) (0,(List.replicate 32 (0:Int)))).bind fun kA=>
 some kA
  :Option (List Int))).bind fun gA=>
 some gA
 else none
theorem o33 {a0:az} {r0:(List Int)} (hF:ee a0=some r0) (L:List Res):Ok Tryz.prog 169 [SV.val bY a0] L (SV.val K6 r0) L:=by
 unfold ee at hF
 refine okI 68 Tryz.func169 rfl rfl rfl fun F0=>?_
 refine gs hF fun h4 hF=>bs hF fun x6 h7 hF=>bs hF fun mA nA hF=>sr<|Under.bx (K:=bY) rfl rdV rfl fun b1=>al ZT179 rfl fun b2=>ns<|oM nd rfl<|f1<|lP .box (.fld .id fH) kt71k rfl rfl<|rI (t:=10) rfl<|a_ rfl<|ns<|m_ rfl<|ov (OpV.quo rfl rfl (by decide) rfl) rfl<|b_ rfl<|ov (OpV.quo rfl rfl (by decide) rfl) rfl<|b_ rfl<|Under.mk h4 Tryz.underlying22 AT5 rfl rfl rfl fun v3=>a_ rfl<|ns<|m_ rfl<|ov (OpV.ixO h7 Tryz.underlying22 sz5k rfl rfl) rfl<|sP (x':=List.set (List.replicate (Int.toNat (IntKind.wrap .u64 (1+(Int.tmod (IntKind.wrap .u64 (119 - (Int.tmod a0.n 64))) 64)))) (0:Int)) (Int.toNat 0) 128) (.own h7) (.ix .id h7) sz5k rfl rfl rdI rfl<|nt<|sq<|afr (r:=mA) (fun mA=>[(1,pb b1),(2,pb b2),(4,.val K9 mA)]) (fun mA=>((.box bY b1 253 a0)::(.box K6 b2 179 (List.replicate 32 (0:Int)))::L)) ?_ fun K eB=>?_
 ·refine bs hF fun kB cB hF=>bs hF fun eA dA hF=>sr<|lP .box .id kt253k rfl rfl<|m_ rfl<|cx Tryz.call168 rfl (o32 cB _)<|sP (x':=kB) .box .id sz253k rfl rfl rdV rfl<|nl<|fz (t:=1) rfl<|tn<|sr<|al ZT179 rfl fun dB=>nt<|sq<|afr (r:=eA) (fun eA=>[(2,pb b2),(6,.ptr K6 eA)]) (fun eA=>((.box K6 b2 179 (List.replicate 32 (0:Int)))::L)) ?_ fun K pA=>?_
  ·refine sr<|oL kt179 rfl<|sP (x':=eA) .box .id sz179k rfl rfl rdV rfl<|nl<|fz (t:=2) rfl<|tn<|rc ?_
   cases osi hF
   exact rs Tryz.results169 (.ce rfl kt179 .nil) rfl rfl
  ·refine bs dA fun qB tA dA=>sr<|oF fb253k rfl<|oL kt250 rfl<|m_ rfl<|nt<|bk<|f1<|lp tA () (fun bA cA=>[(2,pb b2),(6,pb dB),(35,.val K5 kB.words),(36,.raw (.int .i64 bA.1))]) (fun bA cA=>(.box K6 b2 179 (List.replicate 32 (0:Int)))::(.box K6 dB 179 bA.2)::L) rfl rfl fun bA cA rB xA uA=>?_
   obtain⟨yA,oA⟩:=bA
   dsimp only at xA⊢
   refine sr<|b_ rfl<|nt<|sq<|it xA rfl (fun xA=>?_) (fun xA=>?_)
   ·exact bs xA fun zA xB xA=>bs xA fun wB qA xA=>bs xA fun gB rA xA=>bs xA fun mB wA xA=>bs xA fun nB gA xA=>ct<|sq<|bk<|sr<|m_ rfl<|ov (OpV.ixVI xB Tryz.underlying250 kt142 rfl rfl) rfl<|a_ rfl<|a_ rfl<|nt<|rg<|mb rfl<|mb rfl<|b_ rfl<|mb rfl<|b_ rfl<|mb rfl<|b_ rfl<|m_ rfl<|ov (OpV.sh rfl rfl (by decide) rfl) rfl<|oC (by kernel_rfl) Tryz.underlying5 rfl<|m_ rfl<|ov (OpV.sh rfl rfl (by decide) rfl) rfl<|oC (by kernel_rfl) Tryz.underlying5 rfl<|m_ rfl<|ov (OpV.sh rfl rfl (by decide) rfl) rfl<|oC (by kernel_rfl) Tryz.underlying5 rfl<|m_ rfl<|oC (by kernel_rfl) Tryz.underlying5 rfl<|f1<|oX .box .id qA Tryz.underlying179 sz5k rfl<|sP (x':=List.set oA (Int.toNat (IntKind.wrap .i64 (4*yA))) (IntKind.wrap .u8 (shrI .u32 zA 24))) .box (.ix .id qA) sz5k rfl rfl rdI rfl<|oX .box .id rA Tryz.underlying179 sz5k rfl<|sP (x':=List.set (List.set oA (Int.toNat (IntKind.wrap .i64 (4*yA))) (IntKind.wrap .u8 (shrI .u32 zA 24))) (Int.toNat (IntKind.wrap .i64 ((IntKind.wrap .i64 (4*yA))+1))) (IntKind.wrap .u8 (shrI .u32 zA 16))) .box (.ix .id rA) sz5k rfl rfl rdI rfl<|oX .box .id wA Tryz.underlying179 sz5k rfl<|sP (x':=List.set (List.set (List.set oA (Int.toNat (IntKind.wrap .i64 (4*yA))) (IntKind.wrap .u8 (shrI .u32 zA 24))) (Int.toNat (IntKind.wrap .i64 ((IntKind.wrap .i64 (4*yA))+1))) (IntKind.wrap .u8 (shrI .u32 zA 16))) (Int.toNat (IntKind.wrap .i64 ((IntKind.wrap .i64 (4*yA))+2))) (IntKind.wrap .u8 (shrI .u32 zA 8))) .box (.ix .id wA) sz5k rfl rfl rdI rfl<|oX .box .id gA Tryz.underlying179 sz5k rfl<|sP (x':=List.set (List.set (List.set (List.set oA (Int.toNat (IntKind.wrap .i64 (4*yA))) (IntKind.wrap .u8 (shrI .u32 zA 24))) (Int.toNat (IntKind.wrap .i64 ((IntKind.wrap .i64 (4*yA))+1))) (IntKind.wrap .u8 (shrI .u32 zA 16))) (Int.toNat (IntKind.wrap .i64 ((IntKind.wrap .i64 (4*yA))+2))) (IntKind.wrap .u8 (shrI .u32 zA 8))) (Int.toNat (IntKind.wrap .i64 ((IntKind.wrap .i64 (4*yA))+3))) (IntKind.wrap .u8 zA)) .box (.ix .id gA) sz5k rfl rfl rdI rfl<|nl<|bN<|tn<|rg<|b_ rfl<|m_ rfl<|nl<|f1<|nx () xA rfl rfl
   ·refine f1<|fz (t:=6) rfl<|xt<|te ?_
    cases ai xA uA
    exact te<|bh<|tn<|wr (pA _ (osi dA).symm) rfl
 ·refine bs nA fun pB yB nA=>sr<|a_ rfl<|nt<|bk<|lp yB (C:=Value) v3 (fun vA kA=>[(1,pb b1),(2,pb b2),(3,.raw (.int .u64 a0.n)),(4,.raw kA),(5,.raw (.int .i64 vA.2))]) (fun vA kA=>(.own K12 kA 5 vA.1)::(.box bY b1 253 a0)::(.box K6 b2 179 (List.replicate 32 (0:Int)))::L) rfl rfl fun vA kA tB hA zB=>?_
  obtain⟨uB,hB⟩:=vA
  dsimp only at hA⊢
  refine sq<|sr<|mb rfl<|nt<|it hA rfl (fun hA=>?_) (fun hA=>?_)
  ·exact gs hA fun bB hA=>bs hA fun xC vB hA=>ct<|sq<|bk<|rg<|m_ rfl<|m_ rfl<|ov (OpV.sh rfl rfl (by decide) rfl) rfl<|m_ rfl<|ov (OpV.sh rfl rfl (of_decide_eq_true bB) rfl) rfl<|oC (by kernel_rfl) Tryz.underlying5 rfl<|bF (ys:=[IntKind.wrap .u8 (shrI .u64 (shlI .u64 a0.n 3) hB)]) Tryz.underlying22 ET5 (BldA.cons rfl rfl rdI (BldA.nil _)) rfl rfl<|ap vB Tryz.underlying22 AT5 rfl rfl rdV rfl fun oB=>a_ rfl<|nl<|bN<|tn<|rg<|mb rfl<|a_ rfl<|nl<|nx oB hA rfl rfl
  ·refine fzO (t:=4) rfl<|xt<|te ?_
   cases ai hA zB
   exact te<|bh<|tn<|wr (eB _ (osi nA).symm) rfl
noncomputable def i9 (a0:List Int):Option (List Int):=
 (ke).bind fun y2=>
 (cX y2 a0).bind fun y4=>
 (ee y4).bind fun y6=>
 some y6
theorem o34 {a0:List Int} {r0:(List Int)} (hF:i9 a0=some r0) (L:List Res):Ok Tryz.prog 210 [SV.val K9 a0] L (SV.val K6 r0) L:=by
 unfold i9 at hF
 refine okI 7 Tryz.func210 rfl rfl rfl fun F0=>?_
 refine bs hF fun y2 h3 hF=>bs hF fun y4 h5 hF=>bs hF fun y6 h7 hF=>sr<|al ZT179 rfl fun b1=>ns<|cx Tryz.call211 rfl (o28 h3 _)<|m_ rfl<|cx Tryz.call168 rfl (o32 h5 _)<|cx Tryz.call169 rfl (o33 h7 _)<|sP (x':=y6) .box .id sz179k rfl rfl rdV rfl<|nl<|fz (t:=2) rfl<|tn<|rc ?_
 cases osi hF
 exact rs Tryz.results210 (.ce rfl kt179 .nil) rfl rfl
noncomputable def gT (a0:List Int) (a1:Int):Option az:=
 ((bif decide ((a0.length:Int)>64) then
  (i9 a0).bind fun zA=>
  some zA
 else
  some a0
  :Option (List Int))).bind fun x6=>
 bif decide ((Int.toNat 0)≤(Int.toNat 64)∧(Int.toNat 64)≤64) then
 (((Loop.run (S:=(Int×(List Int))) (R:=(List Int)) (fun(xA,yA)=>
   bif decide (xA<64) then
    (idx yA xA).bind fun hA=>
    (idx yA xA).bind fun dA=>
    some (.next (IntKind.wrap .i64 (xA+1),List.set yA (Int.toNat xA) (xorI .u8 hA a1)))
   else
    some (.done yA)) (0,over (List.replicate 64 (0:Int)) (Int.toNat 0) (Int.toNat 64) x6)).bind fun bA=>
 some bA
  :Option (List Int))).bind fun vA=>
 (ke).bind fun oA=>
 (cX oA vA).bind fun kA=>
 some kA
 else none
theorem o35 {a0:List Int} {a1:Int} {r0:az} (hF:gT a0 a1=some r0) (L:List Res):Ok Tryz.prog 167 [SV.val K9 a0,SV.raw (.int .u8 a1)] L (SV.val bY r0) L:=by
 unfold gT at hF
 refine okI 30 Tryz.func167 rfl rfl rfl fun F0=>?_
 refine bs hF fun x6 h8 hF=>sr<|al ZT253 rfl fun b1=>ns<|al ZT251 rfl fun b2=>nt<|sq<|afr (r:=x6) (fun x6=>[(0,.val K9 x6),(1,.raw (.int .u8 a1)),(4,pb b1),(5,pb b2)]) (fun x6=>((.box bY b1 253 (⟨(List.replicate 8 (0:Int)),(List.replicate 64 (0:Int)),(0:Int)⟩:az))::(.box (kArr 64 K12) b2 251 (List.replicate 64 (0:Int)))::L)) ?_ fun K k9=>?_
 ·refine gs hF fun yA hF=>sr<|ov (OpV.slP (l:=0) (h:=64) Tryz.underlying251 sz5k rfl rfl rfl (by decide) (by decide) (by decide)) rfl<|m_ rfl ?_
  replace yA:(Int.toNat 0)≤(Int.toNat 64)∧(Int.toNat 64)≤64:=of_decide_eq_true yA
  refine bs hF fun hA bA hF=>f1<|Under.cpB (x':=over (List.replicate 64 (0:Int)) (Int.toNat 0) (Int.toNat 64) x6) .box .id (And.left yA) (And.right yA) (pP (And.right yA)) Tryz.underlying22 sz5k rfl rfl (.sl rdV) rfl rfl<|nt<|sq<|afr (r:=hA) (fun hA=>[(4,pb b1),(5,.ptr (kArr 64 K12) hA)]) (fun hA=>((.box bY b1 253 (⟨(List.replicate 8 (0:Int)),(List.replicate 64 (0:Int)),(0:Int)⟩:az))::L)) ?_ fun K dA=>?_
  ·refine bs hF fun uA eA hF=>bs hF fun cA qA hF=>sq<|ph rfl<|gV [0,1] [[],[5]] 1 (by kernel_rfl) rfl<|Vq.v (fun G T hG=>cx Tryz.call211 rfl (o28 eA _)<|Vq.end rfl)<|vo (fun _=>OpV.slA Tryz.underlying251 sz5 rfl) rfl<|vn<|p1 2 rfl rfl<|cx Tryz.call168 rfl (o32 qA _)<|pn<|p1 3 rfl rfl<|sP (x':=cA) .box .id sz253k rfl rfl rdV rfl<|pn<|pd rfl<|fz (t:=4) rfl<|tn<|rc ?_
   cases osi hF
   exact rs Tryz.results167 (.ce rfl kt253 .nil) rfl rfl
  ·refine bs bA fun xB rA bA=>sr<|m_ rfl<|nt<|bk<|f1<|lp rA () (fun zA vA=>[(1,.raw (.int .u8 a1)),(4,pb b1),(5,pb b2),(17,.raw (.int .i64 zA.1))]) (fun zA vA=>(.box bY b1 253 (⟨(List.replicate 8 (0:Int)),(List.replicate 64 (0:Int)),(0:Int)⟩:az))::(.box (kArr 64 K12) b2 251 zA.2)::L) rfl rfl fun zA vA yB xA wA=>?_
   obtain⟨gA,mA⟩:=zA
   dsimp only at xA⊢
   refine sr<|b_ rfl<|nt<|sq<|it xA rfl (fun xA=>?_) (fun xA=>?_)
   ·exact bs xA fun nA oA xA=>bs xA fun zB kA xA=>ct<|sq<|bk<|sr<|m_ rfl<|a_ rfl<|nt<|rg<|m_ rfl<|f1<|oX .box .id oA Tryz.underlying251 sz5k rfl<|lP .box (.ix .id oA) kt5k rfl rfl<|rI (t:=22) rfl<|mb rfl<|oX .box .id kA Tryz.underlying251 sz5k rfl<|sP (x':=List.set mA (Int.toNat gA) (xorI .u8 nA a1)) .box (.ix .id kA) sz5k rfl rfl rdI rfl<|nl<|bN<|tn<|rg<|b_ rfl<|m_ rfl<|nl<|f1<|nx () xA rfl rfl
   ·refine f1<|fz (t:=5) rfl<|xt<|te ?_
    cases ai xA wA
    exact te<|bh<|tn<|wr (dA _ (osi bA).symm) rfl
 ·refine sr<|m_ rfl<|oN Tryz.underlying22 rfl<|b_ rfl<|nt<|it h8 rfl (fun h8=>?_) (fun h8=>?_)
  ·exact bs h8 fun pA tA h8=>sr<|m_ rfl<|cx Tryz.call210 rfl (o34 tA _)<|al ZT179 rfl fun hB=>sP (x':=pA) .box .id sz179k rfl rfl rdV rfl<|nl<|fz (t:=6) rfl<|tn<|rg<|ov (OpV.slA Tryz.underlying179 sz5 rfl) rfl<|a_ rfl<|nt<|f1<|wr (k9 _ (osi h8).symm) rfl
  ·exact ct<|f1<|wr (k9 _ (osi h8).symm) rfl
noncomputable def ja (a0:List Int) (a1:List Int):Option (List Int):=
 (gT a0 54).bind fun y2=>
 (cX y2 a1).bind fun y4=>
 (ee y4).bind fun y6=>
 (gT a0 92).bind fun xA=>
 (cX xA y6).bind fun yA=>
 (ee yA).bind fun zA=>
 some zA
theorem o36 {a0 a1:List Int} {r0:(List Int)} (hF:ja a0 a1=some r0) (L:List Res):Ok Tryz.prog 104 [SV.val K9 a0,SV.val K9 a1] L (SV.val K6 r0) L:=by
 unfold ja at hF
 refine okI 16 Tryz.func104 rfl rfl rfl fun F0=>?_
 refine bs hF fun y2 h3 hF=>bs hF fun y4 h5 hF=>bs hF fun y6 h7 hF=>bs hF fun bA xA hF=>bs hF fun vA yA hF=>bs hF fun zA hA hF=>sr<|al ZT179 rfl fun b1=>ns<|m_ rfl<|cx Tryz.call167 rfl (o35 h3 _)<|m_ rfl<|cx Tryz.call168 rfl (o32 h5 _)<|cx Tryz.call169 rfl (o33 h7 _)<|al ZT179 rfl fun b8=>sP (x':=y6) .box .id sz179k rfl rfl rdV rfl<|nl<|fz (t:=5) rfl<|tn<|sq<|ph rfl<|gV [0,1,2] [[0],[11],[5]] 1 (by kernel_rfl) rfl<|vm_ rfl<|Vq.v (fun G T hG=>cx Tryz.call167 rfl (o35 xA _)<|Vq.end rfl)<|vo (fun _=>OpV.slA Tryz.underlying179 sz5 rfl) rfl<|vn<|p1 3 rfl rfl<|cx Tryz.call168 rfl (o32 yA _)<|pn<|p1 4 rfl rfl<|cx Tryz.call169 rfl (o33 hA _)<|pn<|p1 5 rfl rfl<|sP (x':=zA) .box .id sz179k rfl rfl rdV rfl<|pn<|pd rfl<|fz (t:=4) rfl<|tn<|rc ?_
 cases osi hF
 exact rs Tryz.results104 (.ce rfl kt179 .nil) rfl rfl
noncomputable def jl (a0:List Int) (a1:List Int):Option (List Int):=
 (ja a0 a1).bind fun y2=>
 some y2
theorem o37 {a0 a1:List Int} {r0:(List Int)} (hF:jl a0 a1=some r0) (L:List Res):Ok Tryz.prog 158 [SV.val K9 a0,SV.val K9 a1] L (SV.val K6 r0) L:=by
 unfold jl at hF
 refine okI 8 Tryz.func158 rfl rfl rfl fun F0=>?_
 refine bs hF fun y2 h3 hF=>sr<|al ZT179 rfl fun b1=>ns<|m_ rfl<|m_ rfl<|cx Tryz.call104 rfl (o36 h3 _)<|sP (x':=y2) .box .id sz179k rfl rfl rdV rfl<|nl<|fz (t:=4) rfl<|tn<|rc ?_
 cases osi hF
 exact rs Tryz.results158 (.ce rfl kt179 .nil) rfl rfl
noncomputable def iK (a0:List Int) (a1:List Int) (a2:Int):Option ((List Int)×Int):=
 bif decide (a2<0) then
  some ([],2)
 else
  bif decide (a2>8160) then
   some ([],1)
  else
   bif mkB 0 (IntKind.wrap .i64 (a2+32)) then
   (((Loop.run (S:=((List Int)×(List Int)×Int)) (R:=(List Int)) (fun(xA,yA,zA)=>
     bif decide ((xA.length:Int)<a2) then
      bif mkB 0 (IntKind.wrap .i64 ((IntKind.wrap .i64 ((yA.length:Int)+(a1.length:Int)))+1)) then
      (app (List.replicate (Int.toNat 0) (0:Int)) yA).bind fun bA=>
      (app bA a1).bind fun vA=>
      (app vA [IntKind.wrap .u8 zA]).bind fun oA=>
      (ja a0 oA).bind fun hA=>
      (app xA hA).bind fun kA=>
      some (.next (kA,hA,IntKind.wrap .i64 (zA+1)))
      else none
     else
      some (.done xA)) (List.replicate (Int.toNat 0) (0:Int),[],1)).bind fun dA=>
   some dA
    :Option (List Int))).bind fun eA=>
   (sub eA 0 a2).bind fun cA=>
   some (cA,0)
   else none
theorem o38 {a0 a1:List Int} {a2:Int} {r0:((List Int)×Int)} (hF:iK a0 a1 a2=some r0) (L:List Res):Ok Tryz.prog 159 [SV.val K9 a0,SV.val K9 a1,SV.raw (.int .i64 a2)] L (SV.tup [SV.val K9 r0.1,SV.raw (.int .i64 r0.2)]) L:=by
 unfold iK at hF
 refine okI 54 Tryz.func159 rfl rfl rfl fun F0=>?_
 refine sr<|a_ rfl<|a_ rfl<|nt<|sq<|sr<|mb rfl<|nt<|it hF rfl (fun hF=>?_) (fun hF=>?_)
 ·refine sr<|a_ rfl<|a_ rfl<|nt<|rt<|tV (K:=kSl K12) (x:=[]) (t:=6) rfl rdN ?_
  cases osi hF
  exact rs Tryz.results159 (.tm rfl (.tm rfl .nil)) rfl rfl
 ·refine ct<|sq<|sr<|mb rfl<|nt<|it hF rfl (fun hF=>?_) (fun hF=>?_)
  ·refine sr<|a_ rfl<|a_ rfl<|nt<|rt<|tV (K:=kSl K12) (x:=[]) (t:=6) rfl rdN ?_
   cases osi hF
   exact rs Tryz.results159 (.tm rfl (.tm rfl .nil)) rfl rfl
  ·refine gs hF fun h4 hF=>bs hF fun hA bA hF=>ct<|sr<|mb rfl<|Under.mk h4 Tryz.underlying22 AT5 rfl rfl rfl fun v3=>a_ rfl<|ns<|a_ rfl<|nt<|sq<|afr (r:=hA) (fun hA=>[(2,.raw (.int .i64 a2)),(8,.val K9 hA)]) (fun hA=>(L)) ?_ fun K pA=>?_
   ·refine bs hF fun qB vA hF=>sr<|m_ rfl<|m_ rfl<|ov (OpV.slH vA Tryz.underlying22 sz5 rfl rdV rfl) rfl<|a_ rfl<|a_ rfl<|nt<|rc ?_
    cases osi hF
    exact rs Tryz.results159 (.tm rfl (.tm rfl .nil)) rfl rfl
   ·refine bs bA fun tA oA bA=>sr<|a_ rfl<|nt<|bk<|tV (K:=kSl K12) (x:=[]) (t:=9) rfl rdN<|lp oA (C:=Value) v3 (fun yA zA=>[(0,.val K9 a0),(1,.val K9 a1),(2,.raw (.int .i64 a2)),(8,.raw zA),(9,.val K9 yA.2.1),(10,.raw (.int .i64 yA.2.2))]) (fun yA zA=>(.own K12 zA 5 yA.1)::L) rfl rfl fun yA zA uA xA kA=>?_
    obtain⟨xB,yB,dA⟩:=yA
    dsimp only at xA⊢
    refine sq<|sr<|m_ rfl<|ov (OpV.lenO Tryz.underlying22 rfl) rfl<|mb rfl<|nt<|it xA rfl (fun xA=>?_) (fun xA=>?_)
    ·exact gs xA fun eA xA=>bs xA fun zB cA xA=>bs xA fun hB qA xA=>bs xA fun bB rA xA=>bs xA fun wA gA xA=>bs xA fun vB mA xA=>ct<|sq<|bk<|sr<|m_ rfl<|oN Tryz.underlying22 rfl<|m_ rfl<|oN Tryz.underlying22 rfl<|b_ rfl<|b_ rfl<|Under.mk eA Tryz.underlying22 AT5 rfl rfl rfl fun oB=>a_ rfl<|ns<|m_ rfl<|m_ rfl<|ap cA Tryz.underlying22 AT5 rfl rfl rdV rfl fun kB=>a_ rfl<|ns<|m_ rfl<|m_ rfl<|ap qA Tryz.underlying22 AT5 rfl rfl rdV rfl fun dB=>a_ rfl<|ns<|m_ rfl<|m_ rfl<|oC (by kernel_rfl) Tryz.underlying5 rfl<|bF (ys:=[IntKind.wrap .u8 dA]) Tryz.underlying22 ET5 (BldA.cons rfl rfl rdI (BldA.nil _)) rfl rfl<|ap rA Tryz.underlying22 AT5 rfl rfl rdV rfl fun eB=>a_ rfl<|nl<|fzO (t:=11) rfl<|tn<|sr<|m_ rfl<|m_ rfl<|cx Tryz.call104 rfl (o36 gA _)<|al ZT179 rfl fun cB=>sP (x':=wA) .box .id sz179k rfl rfl rdV rfl<|nl<|fz (t:=12) rfl<|tn<|sr<|ov (OpV.slA Tryz.underlying179 sz5 rfl) rfl<|a_ rfl<|nt<|rg<|m_ rfl<|m_ rfl<|ap mA Tryz.underlying22 AT5 rfl rfl rdV rfl fun nA=>a_ rfl<|nl<|bN<|tn<|rg<|mb rfl<|a_ rfl<|nl<|nx nA xA rfl rfl
    ·refine fzO (t:=8) rfl<|xt<|te ?_
     cases ai xA kA
     exact te<|bh<|tn<|wr (pA _ (osi bA).symm) rfl
noncomputable def f7 (a0:List Int) (a1:List Int) (a2:List Int) (a3:Int):Option ((List Int)×Int):=
 (jl a1 a0).bind fun y1=>
 (iK y1 a2 a3).bind fun y4=>
 some (y4.1,y4.2)
theorem o39 {a0 a1 a2:List Int} {a3:Int} {r0:((List Int)×Int)} (hF:f7 a0 a1 a2 a3=some r0) (L:List Res):Ok Tryz.prog 97 [SV.val K9 a0,SV.val K9 a1,SV.val K9 a2,SV.raw (.int .i64 a3)] L (SV.tup [SV.val K9 r0.1,SV.raw (.int .i64 r0.2)]) L:=by
 unfold f7 at hF
 refine okI 20 Tryz.func97 rfl rfl rfl fun F0=>?_
 refine bs hF fun y1 h2 hF=>bs hF fun y4 h5 hF=>sr<|a_ rfl<|a_ rfl<|ns<|m_ rfl<|m_ rfl<|cx Tryz.call158 rfl (o37 h2 _)<|al ZT179 rfl fun b3=>sP (x':=y1) .box .id sz179k rfl rfl rdV rfl<|nl<|fz (t:=10) rfl<|tn<|sr<|ov (OpV.slA Tryz.underlying179 sz5 rfl) rfl<|m_ rfl<|m_ rfl<|cx Tryz.call159 rfl (o38 h5 _)<|oE rfl<|oE rfl<|a_ rfl<|a_ rfl<|nt<|rc ?_
 cases osi hF
 exact rs Tryz.results97 (.tm rfl (.tm rfl .nil)) rfl rfl
noncomputable def gK (a0:List Int) (a1:Int):Option ((List Int)×Int):=
 bif (((a0.length:Int) != 32)||(decide (a1<0)))||(decide (a1>4611686018427387904)) then
  some ([],2)
 else
  bif mkB 8 8 then
  (((Loop.run (S:=((List Int)×Int)) (R:=(List Int)) (fun(yA,xA)=>
    bif decide (xA<((List.replicate (Int.toNat 8) (0:Int)).length:Int)) then
     bif decide (0≤(IntKind.wrap .i64 (56 - (IntKind.wrap .i64 (8*xA))))) then
     (idx yA xA).bind fun vA=>
     some (.next (List.set yA (Int.toNat xA) (IntKind.wrap .u8 (shrI .i64 a1 (IntKind.wrap .i64 (56 - (IntKind.wrap .i64 (8*xA)))))),IntKind.wrap .i64 (xA+1)))
     else none
    else
     some (.done yA)) (List.replicate (Int.toNat 8) (0:Int),0)).bind fun hA=>
  some hA
   :Option (List Int))).bind fun bA=>
  bif decide (0<[99,104,117,114,110,32,104,111,112].length) then
  (f7 a0 bA [99,104,117,114,110,32,104,111,112] 32).bind fun zA=>
  some (zA.1,zA.2)
  else none
  else none
theorem o40 {a0:List Int} {a1:Int} {r0:((List Int)×Int)} (hF:gK a0 a1=some r0) (L:List Res):Ok Tryz.prog 48 [SV.val K9 a0,SV.raw (.int .i64 a1)] L (SV.tup [SV.val K9 r0.1,SV.raw (.int .i64 r0.2)]) L:=by
 unfold gK at hF
 refine okI 42 Tryz.func48 rfl rfl rfl fun F0=>?_
 refine sr<|a_ rfl<|a_ rfl<|nt<|sq<|sr<|m_ rfl<|oN Tryz.underlying22 rfl<|b_ rfl<|m_ rfl<|cN 14 (((a0.length:Int) != 32)||(decide (a1<0))) ?_ (fun k=>?_)
 ·refine m_ rfl<|cN 18 ((((a0.length:Int) != 32)||(decide (a1<0)))||(decide (a1>4611686018427387904))) ?_ (fun k=>?_)
  ·refine nt<|it hF rfl (fun hF=>?_) (fun hF=>?_)
   ·refine sr<|a_ rfl<|a_ rfl<|nt<|rt<|tV (K:=kSl K12) (x:=[]) (t:=4) rfl rdN ?_
    cases osi hF
    exact rs Tryz.results48 (.tm rfl (.tm rfl .nil)) rfl rfl
   ·refine gs hF fun h9 hF=>bs hF fun zA hA hF=>ct<|sr<|Under.mk h9 Tryz.underlying22 AT5 rfl rfl rfl fun v8=>a_ rfl<|nt<|sq<|afr (r:=zA) (fun zA=>[(0,.val K9 a0),(6,.val K9 zA)]) (fun zA=>(L)) ?_ fun K kA=>?_
    ·refine gs hF fun dA hF=>bs hF fun gA eA hF=>sr<|m_ rfl<|m_ rfl<|bO (ys:=[99,104,117,114,110,32,104,111,112]) Tryz.underlying22 ET5 (BldA.cons rfl rfl rdI (BldA.cons rfl rfl rdI (BldA.cons rfl rfl rdI (BldA.cons rfl rfl rdI (BldA.cons rfl rfl rdI (BldA.cons rfl rfl rdI (BldA.cons rfl rfl rdI (BldA.cons rfl rfl rdI (BldA.cons rfl rfl rdI (BldA.nil _)))))))))) rfl rfl fun mA=>Under.cvS Tryz.underlying22 Tryz.underlying5 (of_decide_eq_true dA) rfl rfl<|cx Tryz.call97 rfl (o39 eA _)<|oE rfl<|oE rfl<|a_ rfl<|a_ rfl<|nt<|rc ?_
     cases osi hF
     exact rs Tryz.results48 (.tm rfl (.tm rfl .nil)) rfl rfl
    ·refine bs hA fun nA cA hA=>sr<|m_ rfl<|ov (OpV.lenO Tryz.underlying22 rfl) rfl<|m_ rfl<|nt<|bk<|lp cA () (fun yA vA=>[(0,.val K9 a0),(1,.raw (.int .i64 a1)),(6,.raw v8),(21,.raw (.int .i64 ((List.replicate (Int.toNat 8) (0:Int)).length:Int))),(22,.raw (.int .i64 yA.2))]) (fun yA vA=>(.own K12 v8 5 yA.1)::L) rfl rfl fun yA vA pA xA qA=>?_
     obtain⟨rA,oA⟩:=yA
     dsimp only at xA⊢
     refine sr<|b_ rfl<|nt<|sq<|it xA rfl (fun xA=>?_) (fun xA=>?_)
     ·exact gs xA fun wA xA=>bs xA fun tA bA xA=>ct<|sq<|bk<|sr<|m_ rfl<|a_ rfl<|nt<|rg<|m_ rfl<|m_ rfl<|m_ rfl<|mb rfl<|b_ rfl<|ov (OpV.sh rfl rfl (of_decide_eq_true wA) rfl) rfl<|oC (by kernel_rfl) Tryz.underlying5 rfl<|ov (OpV.ixO bA Tryz.underlying22 sz5k rfl rfl) rfl<|sP (x':=List.set rA (Int.toNat oA) (IntKind.wrap .u8 (shrI .i64 a1 (IntKind.wrap .i64 (56 - (IntKind.wrap .i64 (8*oA))))))) (.own bA) (.ix .id bA) sz5k rfl rfl rdI rfl<|nl<|bN<|tn<|rg<|b_ rfl<|m_ rfl<|nl<|nx () xA rfl rfl
     ·refine fzO (t:=6) rfl<|xt<|te ?_
      cases ai xA qA
      exact te<|bh<|tn<|wr (kA _ (osi hA).symm) rfl
  ·refine by_ (t:=15) rfl (fun c4=>?_) (fun c4=>?_)
   ·exact sk_ c4 rfl<|sk_ c4 rfl<|pT c4 rfl<|rf 2 (or_t (e:=decide (a1>4611686018427387904)) c4) rfl k
   ·exact gc_ c4 rfl<|m_ rfl<|gc_ c4 rfl<|b_ rfl<|pF c4 rfl<|rf 2 (or_f c4) rfl k
 ·refine by_ (t:=11) rfl (fun c1=>?_) (fun c1=>?_)
  ·exact sk_ c1 rfl<|sk_ c1 rfl<|pT c1 rfl<|rf 2 (or_t (e:=decide (a1<0)) c1) rfl k
  ·exact gc_ c1 rfl<|m_ rfl<|gc_ c1 rfl<|b_ rfl<|pF c1 rfl<|rf 2 (or_f c1) rfl k
noncomputable def lQ (a0:aB) (a1:ah) (a2:ao):Option ((List dx)×av×Int):=
 (eR a0).bind fun y2=>
 bif !y2 then
  some ([],(⟨(0:Int),(0:Int),(0:Int),(0:Int),(0:Int)⟩:av),210)
 else
  (gK a0.Master a2.Header.Epoch).bind fun y5=>
  bif y5.2 != 0 then
   some ([],(⟨(0:Int),(0:Int),(0:Int),(0:Int),(0:Int)⟩:av),y5.2)
  else
   (((Loop.run (S:=Unit) (R:=Unit) (fun _=>
     bif decide (0<(a2.Cells.length:Int)) then
      (idx a2.Cells 0).bind fun xA=>
      none
     else
      some (.done ())) ()).bind fun _=>
   some ()
    :Option Unit)).bind fun _=>
   some ([],(⟨(a2.Cells.length:Int),(0:Int),(0:Int),(0:Int),(0:Int)⟩:av),0)
theorem o41 {a0:aB} {a1:ah} {a2:ao} {r0:((List dx)×av×Int)} (hF:lQ a0 a1 a2=some r0) (L:List Res):Ok Tryz.prog 26 [SV.val aJ a0,SV.val am a1,SV.val aV a2] L (SV.tup [SV.val (kSl dn) r0.1,SV.val dm r0.2.1,SV.raw (.int .i64 r0.2.2)]) L:=by
 unfold lQ at hF
 refine okI 92 Tryz.func26 rfl rfl rfl fun F0=>?_
 refine bs hF fun y2 h3 hF=>sr<|bX (K:=aJ) rfl rdV rfl<|bX (K:=am) rfl rdV rfl<|bX (K:=aV) rfl rdV rfl<|a_ rfl<|al ZT34 rfl fun b1=>a_ rfl<|nt<|sq<|sr<|oL kt24 rfl<|cx Tryz.call72 rfl (o2 h3 _)<|ov (OpV.not rfl) rfl<|nt<|it hF rfl (fun hF=>?_) (fun hF=>?_)
 ·refine sr<|ov (OpV.bst BT34 (Bld.nil _)) rfl<|a_ rfl<|sP (x':=(⟨(0:Int),(0:Int),(0:Int),(0:Int),(0:Int)⟩:av)) .box .id sz34k rfl rfl rdV rfl<|a_ rfl<|nl<|fz (t:=7) rfl<|tn<|rt<|tV (K:=kSl dn) (x:=[]) (t:=6) rfl rdN ?_
  cases osi hF
  exact rs Tryz.results26 (.tm rfl (.ce rfl kt34 (.tm rfl .nil))) rfl rfl
 ·refine bs hF fun y5 h6 hF=>ct<|sr<|oF fb24k rfl<|oL kt22 rfl<|oF fb46k rfl<|oF fb43k2 rfl<|oI kt2 rfl<|cx Tryz.call48 rfl (o40 h6 _)<|m_ rfl<|oE rfl<|oE rfl<|a_ rfl<|a_ rfl<|nt<|sq<|sr<|mb rfl<|nt<|it hF rfl (fun hF=>?_) (fun hF=>?_)
  ·refine sr<|ov (OpV.bst BT34 (Bld.nil _)) rfl<|m_ rfl<|a_ rfl<|sP (x':=(⟨(0:Int),(0:Int),(0:Int),(0:Int),(0:Int)⟩:av)) .box .id sz34k rfl rfl rdV rfl<|a_ rfl<|nl<|fz (t:=7) rfl<|tn<|rt<|tV (K:=kSl dn) (x:=[]) (t:=6) rfl rdN ?_
   cases osi hF
   exact rs Tryz.results26 (.tm rfl (.ce rfl kt34 (.tm rfl .nil))) rfl rfl
  ·refine bs hF fun vA yA hF=>ct<|sr<|oF fb46k1 rfl<|oL kt44 rfl<|oN Tryz.underlying44 rfl<|ov (OpV.bst BT34 (Bld.cons (x':=(⟨(a2.Cells.length:Int),(0:Int),(0:Int),(0:Int),(0:Int)⟩:av)) rfl rfl rdI (by intro q hq;simp only[List.mem_cons,List.not_mem_nil,or_false] at hq;rcases hq with rfl|rfl|rfl|rfl<;>rfl) (Bld.nil _))) rfl<|al ZT34 rfl fun b8=>sP (x':=(⟨(a2.Cells.length:Int),(0:Int),(0:Int),(0:Int),(0:Int)⟩:av)) .box .id sz34k rfl rfl rdV rfl<|ns<|Under.mkm K4 K10 rfl fun b9=>a_ rfl<|ns<|a_ rfl<|nt<|sq<|Under.after (fun X=>∀(_:Unit),vA=()→Under F0 92 [(7,pb b1),(11,.ptr dm (⟨(a2.Cells.length:Int),(0:Int),(0:Int),(0:Int),(0:Int)⟩:av)),(13,.raw (.slice none 0 0))] ((.box dm b1 34 (⟨(0:Int),(0:Int),(0:Int),(0:Int),(0:Int)⟩:av))::L) X) ?_ ?_
   ·intro _ zA
    replace zA:=zA.symm
    subst zA
    refine sq<|ph rfl<|gV [0,1,2] [[13],[11],[90]] 1 (by kernel_rfl) rfl<|vm_ rfl<|vo (fun _=>OpV.ld kt34 rfl) rfl<|Vq.v (fun G T hG=>a_ rfl<|Vq.end rfl)<|vn<|p1 3 rfl rfl<|sP (x':=(⟨(a2.Cells.length:Int),(0:Int),(0:Int),(0:Int),(0:Int)⟩:av)) .box .id sz34k rfl rfl rdV rfl<|pn<|p1 4 rfl rfl<|a_ rfl<|pn<|pd rfl<|fz (t:=7) rfl<|tn<|rc<|tV (K:=kSl dn) (x:=[]) (t:=6) rfl rdN ?_
    cases osi hF
    exact rs Tryz.results26 (.tm rfl (.ce rfl kt34 (.tm rfl .nil))) rfl rfl
   ·intro K oA
    refine bs yA fun cA kA yA=>sr<|oF fb46k1 rfl<|oL kt44 rfl<|oN Tryz.underlying44 rfl<|m_ rfl<|nt<|bk<|f1<|f2<|lp kA () (fun hA bA=>[(3,.ptr aJ a0),(4,.ptr am a1),(7,pb b1),(9,.val K9 y5.1),(11,pb b8),(12,.raw (.map (some b9))),(13,.raw (.slice none 0 0)),(41,.val K1 a2.Cells),(42,.raw (.int .i64 (a2.Cells.length:Int))),(43,.raw (.int .i64 0))]) (fun hA bA=>(.box dm b1 34 (⟨(0:Int),(0:Int),(0:Int),(0:Int),(0:Int)⟩:av))::(.box dm b8 34 (⟨(a2.Cells.length:Int),(0:Int),(0:Int),(0:Int),(0:Int)⟩:av))::(.mp K4 K10 b9 [])::L) rfl rfl fun hA bA qA xA dA=>?_
    refine sr<|b_ rfl<|nt<|sq<|it xA rfl (fun xA=>?_) (fun xA=>?_)
    ·refine bs xA fun rA eA xA=>ct<|sq<|bk<|sr<|oS eA Tryz.underlying44 sz22 rfl<|oL kt22 rfl<|a_ rfl<|ns<|m_ rfl<|oF fb24k1 rfl<|oI kt3 rfl<|m_ rfl ?_
     cases xA
    ·refine f1<|fz (t:=11) rfl<|f1<|dr<|xt<|te ?_
     cases ai xA dA
     exact te<|bh<|tn<|wr (oA () (osi yA).symm) rfl
noncomputable def iL (a0:List Int):Option (List Int):=
 (app [] a0).bind fun z5=>
 some z5
theorem o42 {a0:List Int} {r0:(List Int)} (hF:iL a0=some r0) (L:List Res):Ok Tryz.prog 74 [SV.val K9 a0] L (SV.val K9 r0) L:=by
 unfold iL at hF
 refine okI 8 Tryz.func74 rfl rfl rfl fun F0=>?_
 refine sr<|a_ rfl<|nt<|sq<|sr<|m_ rfl<|Under.eqNil Tryz.underlying22 rfl rfl fun b1 h2=>nt<|Under.conde rfl (fun h9=>?_) (fun _=>?_)
 ·replace hF:(some [])=some r0:=by rw[h2 h9] at hF;simpa[app,room] using hF
  refine sr<|a_ rfl<|nt<|rt<|tV (K:=kSl K12) (x:=[]) (t:=2) rfl rdN ?_
  cases osi hF
  exact rs Tryz.results74 (.tm rfl .nil) rfl rfl
 ·refine bs hF fun z5 h6 hF=>ct<|sr<|bO (ys:=[]) Tryz.underlying22 ET5 (BldA.nil _) rfl rfl fun v4=>m_ rfl<|ap h6 Tryz.underlying22 AT5 rfl rfl rdV rfl fun v7=>a_ rfl<|nl<|fzO (t:=2) rfl<|tn<|rc ?_
  cases osi hF
  exact rs Tryz.results74 (.tm rfl .nil) rfl rfl
noncomputable def jQ (a0:List Int) (a1:Int):Option (aQ×Int):=
 bif (decide (a1<1))||(decide (a1>64)) then
  some ((⟨[],[],[]⟩:aQ),2)
 else
  bif decide ((a0.length:Int)<18) then
   some ((⟨[],[],[]⟩:aQ),3)
  else
   (sub a0 18 (a0.length:Int)).bind fun x7=>
   (sub a0 0 18).bind fun kA=>
   (cj kA).bind fun dA=>
   (sub x7 0 (IntKind.wrap .i64 (Int.tdiv (x7.length:Int) 2))).bind fun eA=>
   (cj eA).bind fun cA=>
   (sub x7 (IntKind.wrap .i64 (Int.tdiv (x7.length:Int) 2)) (x7.length:Int)).bind fun zA=>
   bif decide (a1≠0) then
   (((Loop.run (S:=(Int×(List (List Int)))) (R:=aQ) (fun(xA,yA)=>
     bif decide (xA<a1) then
      (sub zA (IntKind.wrap .i64 (xA*(IntKind.wrap .i64 (Int.tdiv (zA.length:Int) a1)))) (IntKind.wrap .i64 ((IntKind.wrap .i64 (xA+1))*(IntKind.wrap .i64 (Int.tdiv (zA.length:Int) a1))))).bind fun hA=>
      (iL hA).bind fun bA=>
      (app yA [bA]).bind fun vA=>
      some (.next (IntKind.wrap .i64 (xA+1),vA))
     else
      some (.done (⟨dA,cA,yA⟩:aQ))) (0,[])).bind fun oA=>
   some oA
    :Option aQ)).bind fun qA=>
   some (qA,0)
   else none
theorem o43 {a0:List Int} {a1:Int} {r0:(aQ×Int)} (hF:jQ a0 a1=some r0) (L:List Res):Ok Tryz.prog 22 [SV.val K9 a0,SV.raw (.int .i64 a1)] L (SV.tup [SV.val dZ r0.1,SV.raw (.int .i64 r0.2)]) L:=by
 unfold jQ at hF
 refine okI 63 Tryz.func22 rfl rfl rfl fun F0=>?_
 refine sr<|al ZT51 rfl fun b1=>a_ rfl<|nt<|sq<|sr<|mb rfl<|m_ rfl<|cN 16 ((decide (a1<1))||(decide (a1>64))) ?_ (fun k=>?_)
 ·refine nt<|it hF rfl (fun hF=>?_) (fun hF=>?_)
  ·refine sr<|ov (OpV.bst BT51 (Bld.nil _)) rfl<|sP (x':=(⟨[],[],[]⟩:aQ)) .box .id sz51k rfl rfl rdV rfl<|a_ rfl<|nl<|fz (t:=4) rfl<|tn<|rt ?_
   cases osi hF
   exact rs Tryz.results22 (.ce rfl kt51 (.tm rfl .nil)) rfl rfl
  ·refine ct<|sq<|sr<|m_ rfl<|oN Tryz.underlying22 rfl<|b_ rfl<|nt<|it hF rfl (fun hF=>?_) (fun hF=>?_)
   ·refine sr<|ov (OpV.bst BT51 (Bld.nil _)) rfl<|sP (x':=(⟨[],[],[]⟩:aQ)) .box .id sz51k rfl rfl rdV rfl<|a_ rfl<|nl<|fz (t:=4) rfl<|tn<|rt ?_
    cases osi hF
    exact rs Tryz.results22 (.ce rfl kt51 (.tm rfl .nil)) rfl rfl
   ·refine bs hF fun x7 h8 hF=>bs hF fun tA uA hF=>bs hF fun zA xB hF=>bs hF fun yB zB hF=>bs hF fun hA hB hF=>ct<|sr<|m_ rfl<|ov (OpV.slL h8 Tryz.underlying22 sz5 rfl rdV rfl) rfl<|a_ rfl<|ns<|m_ rfl<|oN Tryz.underlying22 rfl<|ov (OpV.quo rfl rfl (by decide) rfl) rfl<|a_ rfl<|nt<|sq<|ph rfl<|Under.grpT (L:=L) [0,1,2,3,4,5,6,7,8] [[0],[27],[28],[6],[7],[30,31],[32],[29,33],[]] [⟨sk0 (.val K9 a0),[],[],[]⟩,⟨sk0 (.val K9 tA),[],[],[]⟩,⟨sk1 2 (fun u2=> .raw u2),[],[(0,tk1 2 (fun u2=> .own K12 u2 5 zA))],[]⟩,⟨sk0 (.val K9 x7),[],[],[]⟩,⟨sk0 (.raw (.int .i64 (IntKind.wrap .i64 (Int.tdiv (x7.length:Int) 2)))),[],[],[]⟩,⟨sk0 (.val K9 yB),[],[],[]⟩,⟨sk1 6 (fun u6=> .raw u6),[],[(1,tk1 6 (fun u6=> .own K12 u6 5 hA))],[]⟩,⟨sk0 (.val fy (⟨zA,hA,.slice none 0 0⟩:ci)),[0,1],[],[]⟩,⟨sk1 8 (fun u8=> .raw (.pointer (some ⟨(vblk u8),0,none⟩))),[],[(2,tk1 8 (fun u8=> .box fy (vblk u8) 51 (⟨[],[],.slice none 0 0⟩:ci)))],[]⟩] [] (fun T:List Res=>(.box dZ b1 51 (⟨[],[],[]⟩:aQ))::T) lf1 rfl (by kernel_rfl) rfl rfl (fun F hF0 vA=>?_)
    refine Tq.v (fun G T hG=>?_) ?_
    ·exact m_ rfl<|Tq.end undef rfl rfl
    refine Tq.v (fun G T hG=>?_) ?_
    ·exact ov (OpV.slH uA Tryz.underlying22 sz5 rfl rdV rfl) rfl<|Tq.end undef rfl rfl
    refine Tq.st (.raw (vA 2)) [] rfl rfl (fun G T hG=>?_) ?_
    ·refine Under.callX Tryz.call74 rfl rfl (o13 xB _) rfl ?_
     rintro bB
     exact Tq.end bB rfl rfl
    refine Tq.v (fun G T hG=>?_) ?_
    ·exact m_ rfl<|Tq.end undef rfl rfl
    refine Tq.v (fun G T hG=>?_) ?_
    ·exact m_ rfl<|Tq.end undef rfl rfl
    refine Tq.v (fun G T hG=>?_) ?_
    ·exact ov (OpV.slH zB Tryz.underlying22 sz5 rfl rdV rfl) rfl<|Tq.end undef rfl rfl
    refine Tq.st (.raw (vA 6)) [] rfl rfl (fun G T hG=>?_) ?_
    ·refine Under.callX Tryz.call74 rfl rfl (o13 hB _) rfl ?_
     rintro vB
     exact Tq.end vB rfl rfl
    refine Tq.st (.val fy (⟨zA,hA,.slice none 0 0⟩:ci)) [.own K12 (vA 2) 5 zA,.own K12 (vA 6) 5 hA] rfl rfl (fun G T hG=>?_) ?_
    ·exact fzO (t:=29) rfl<|fzO (t:=33) rfl<|ov (OpV.bst ol (Bld.cons (x':=(⟨zA,[],.slice none 0 0⟩:ci)) rfl rfl rdV (by intro q hq;simp only[List.mem_cons,List.not_mem_nil,or_false] at hq;rcases hq with rfl|rfl<;>rfl) (Bld.cons (x':=(⟨zA,hA,.slice none 0 0⟩:ci)) rfl rfl rdV ⟨rfl,(by intro q hq;simp only[List.mem_cons,List.not_mem_nil,or_false] at hq;rcases hq with rfl<;>rfl)⟩ (Bld.nil _)))) rfl<|Tq.end undef rfl rfl
    refine Tq.st (.raw (.pointer (some ⟨(vblk (vA 8)),0,none⟩))) [] rfl rfl (fun G T hG=>?_) ?_
    ·exact al ZT51k rfl fun oB=>Tq.end (.pointer (some ⟨oB,0,none⟩)) rfl rfl
    refine bs hF fun pA kB hF=>gs hF fun dB hF=>bs hF fun oA dA hF=>Tq.nil<|Under.le hF0<|p1 9 rfl rfl<|f1<|sP (x':=(⟨zA,hA,.slice none 0 0⟩:ci)) .box .id sz51k1 rfl rfl rdV rfl<|pn<|pd rfl<|tn<|sr<|m_ rfl<|m_ rfl<|ov (OpV.slL kB Tryz.underlying22 sz5 rfl rdV rfl) rfl<|a_ rfl<|ns<|m_ rfl<|oN Tryz.underlying22 rfl<|m_ rfl<|ov (OpV.quo rfl rfl (of_decide_eq_true dB) rfl) rfl<|a_ rfl<|nt<|sq<|afr (r:=oA) (fun oA=>[(4,pb b1),(8,.ptr dZ oA)]) (fun oA=>((.box dZ b1 51 (⟨[],[],[]⟩:aQ))::L)) ?_ fun K eB=>?_
    ·refine sr<|oL kt51 rfl<|sP (x':=oA) .box .id sz51k rfl rfl rdV rfl<|a_ rfl<|nl<|fz (t:=4) rfl<|tn<|rc ?_
     cases osi hF
     exact rs Tryz.results22 (.ce rfl kt51 (.tm rfl .nil)) rfl rfl
    ·refine bs dA fun cB eA dA=>sr<|m_ rfl<|m_ rfl<|nt<|bk<|Under.ownNil (K:=kSl K12) (e:=22)<|f2<|lp eA (C:=Value) (.slice none 0 0) (fun yA bA=>[(4,pb b1),(6,.val K9 pA),(8,.raw (.pointer (some ⟨(vblk (vA 8)),0,none⟩))),(9,.raw (.int .i64 (IntKind.wrap .i64 (Int.tdiv (pA.length:Int) a1)))),(42,.raw (.int .i64 a1)),(43,.raw (.int .i64 yA.1))]) (fun yA bA=>(.box dZ b1 51 (⟨[],[],[]⟩:aQ))::(.own K9 bA 22 yA.2)::(.box fy (vblk (vA 8)) 51 (⟨zA,hA,bA⟩:ci))::L) rfl rfl fun yA bA qB xA cA=>?_
     obtain⟨rB,qA⟩:=yA
     dsimp only at xA⊢
     refine sr<|b_ rfl<|nt<|sq<|it xA rfl (fun xA=>?_) (fun xA=>?_)
     ·exact bs xA fun wB rA xA=>bs xA fun wA gA xA=>bs xA fun gB mA xA=>ct<|sq<|bk<|sr<|m_ rfl<|a_ rfl<|nt<|ph rfl<|gV [0,1,2,3,4,5,6,7,8,9,10,11,12] [[8],[46],[6],[10],[9],[49,50],[10],[52],[9],[53,54],[48,51,55],[56],[57]] 3 (by kernel_rfl) rfl<|vo (fun _=>OpV.fdM vS rfl) rfl<|Vq.v (fun G T hG=>f2<|lP .box (.fld .id ky) kt44k rfl rfl<|Under.rawR (t:=47) rfl<|f2<|f2<|Vq.end rfl)<|vm_ rfl<|vm_ rfl<|vm_ rfl<|vb_ rfl<|vm_ rfl<|vb_ rfl<|vm_ rfl<|vb_ rfl<|vo (fun _=>OpV.slLH rA Tryz.underlying22 sz5 rfl rdV rfl rfl) rfl<|Vq.v (fun G T hG=>cx Tryz.call74 rfl (o42 gA _)<|Vq.end rfl)<|Vq.v (fun G T hG=>bF (ys:=[wA]) Tryz.underlying44 ET22 (BldA.cons rfl rfl rdV (BldA.nil _)) rfl rfl<|Vq.end rfl)<|vn<|p1 13 rfl rfl<|f1<|ap mA Tryz.underlying44 AT22 rfl rfl rdV rfl fun kA=>pn<|p1 14 rfl rfl<|oM vS rfl<|pn<|p1 15 rfl rfl<|Under.ownCell fun nA=>f2<|sP (x':=(⟨zA,hA,kA⟩:ci)) .box (.fld .id ky) sz44k rfl rfl (fT nA) rfl<|pn<|pd rfl<|bN<|tn<|rg<|b_ rfl<|m_ rfl<|nl<|f1<|f2<|nx kA xA rfl rfl
     ·refine f2<|f2<|Under.frzBO (fs:=gp) (⟨zA,hA,qA⟩:aQ) (fun F hv=>⟨fun _ h=>h,fun _ h=>h,iB hv,trivial⟩)<|fz (t:=8) rfl<|xt<|te ?_
      cases ai xA cA
      exact te<|bh<|tn<|wr (eB _ (osi dA).symm) rfl
 ·refine by_ (t:=13) rfl (fun c2=>?_) (fun c2=>?_)
  ·exact sk_ c2 rfl<|sk_ c2 rfl<|pT c2 rfl<|rf 2 (or_t (e:=decide (a1>64)) c2) rfl k
  ·exact gc_ c2 rfl<|m_ rfl<|gc_ c2 rfl<|b_ rfl<|pF c2 rfl<|rf 2 (or_f c2) rfl k
noncomputable def kW (a0:Int) (a1:Int) (a2:Int):Option ((List Int)×Int):=
 bif (((((decide (a0<0))||(decide (a0>a1)))||(decide (a1<1)))||(decide (a1>1000)))||(decide (a2<0)))||(decide (a2>16)) then
  some ([],2)
 else
  bif mkB 0 (IntKind.wrap .i64 (a2+1)) then
  (((Loop.run (S:=((List Int)×Int×Int)) (R:=(List Int)) (fun(yA,xA,zA)=>
    bif decide (xA≤a2) then
     ((bif decide (xA>0) then
      (idx yA (IntKind.wrap .i64 (xA - 1))).bind fun oA=>
      some (IntKind.wrap .i64 (zA+oA))
     else
      some zA
      :Option Int)).bind fun kA=>
     (app yA [kA]).bind fun dA=>
     bif decide (a1≠0) then
     some (.next (dA,IntKind.wrap .i64 (xA+1),IntKind.wrap .i64 (Int.tdiv (IntKind.wrap .i64 (zA*a0)) a1)))
     else none
    else
     some (.done yA)) (List.replicate (Int.toNat 0) (0:Int),0,4294967296)).bind fun eA=>
  some eA
   :Option (List Int))).bind fun cA=>
  bif mkB 0 (IntKind.wrap .i64 (a2+1)) then
  (((Loop.run (S:=((List Int)×Int)) (R:=(List Int)) (fun(bA,hA)=>
    bif decide (hA<(cA.length:Int)) then
     (idx cA hA).bind fun qA=>
     (idx cA a2).bind fun vA=>
     bif decide (vA≠0) then
     (app bA [IntKind.wrap .i64 (Int.tdiv (IntKind.wrap .i64 (65536*qA)) vA)]).bind fun rA=>
     some (.next (rA,IntKind.wrap .i64 (hA+1)))
     else none
    else
     some (.done bA)) (List.replicate (Int.toNat 0) (0:Int),0)).bind fun wA=>
  some wA
   :Option (List Int))).bind fun gA=>
  some (gA,0)
  else none
  else none
theorem o44 {a0 a1 a2:Int} {r0:((List Int)×Int)} (hF:kW a0 a1 a2=some r0) (L:List Res):Ok Tryz.prog 75 [SV.raw (.int .i64 a0),SV.raw (.int .i64 a1),SV.raw (.int .i64 a2)] L (SV.tup [SV.val K8 r0.1,SV.raw (.int .i64 r0.2)]) L:=by
 unfold kW at hF
 refine okI 86 Tryz.func75 rfl rfl rfl fun F0=>?_
 refine sr<|a_ rfl<|a_ rfl<|nt<|sq<|sr<|mb rfl<|m_ rfl<|bt 21 ((decide (a0<0))||(decide (a0>a1))) ?_ (fun k=>?_)
 ·refine m_ rfl<|cN 25 (((decide (a0<0))||(decide (a0>a1)))||(decide (a1<1))) ?_ (fun k=>?_)
  ·refine m_ rfl<|cN 29 ((((decide (a0<0))||(decide (a0>a1)))||(decide (a1<1)))||(decide (a1>1000))) ?_ (fun k=>?_)
   ·refine m_ rfl<|cN 33 (((((decide (a0<0))||(decide (a0>a1)))||(decide (a1<1)))||(decide (a1>1000)))||(decide (a2<0))) ?_ (fun k=>?_)
    ·refine m_ rfl<|cN 37 ((((((decide (a0<0))||(decide (a0>a1)))||(decide (a1<1)))||(decide (a1>1000)))||(decide (a2<0)))||(decide (a2>16))) ?_ (fun k=>?_)
     ·refine nt<|it hF rfl (fun hF=>?_) (fun hF=>?_)
      ·refine sr<|a_ rfl<|a_ rfl<|nt<|rt<|tV (K:=kSl K10) (x:=[]) (t:=6) rfl rdN ?_
       cases osi hF
       exact rs Tryz.results75 (.tm rfl (.tm rfl .nil)) rfl rfl
      ·refine gs hF fun pB hF=>bs hF fun qA mA hF=>ct<|sr<|mb rfl<|Under.mk pB Tryz.underlying68 AT3 rfl rfl rfl fun tB=>a_ rfl<|nt<|sq<|afr (r:=qA) (fun qA=>[(2,.raw (.int .i64 a2)),(8,.val K8 qA)]) (fun qA=>(L)) ?_ fun K nA=>?_
       ·refine gs hF fun pA hF=>bs hF fun kA rA hF=>sr<|mb rfl<|Under.mk pA Tryz.underlying68 AT3 rfl rfl rfl fun tA=>a_ rfl<|nt<|sq<|afr (r:=kA) (fun kA=>[(12,.val K8 kA)]) (fun kA=>(L)) ?_ fun K uA=>?_
        ·refine sr<|m_ rfl<|a_ rfl<|a_ rfl<|nt<|rc ?_
         cases osi hF
         exact rs Tryz.results75 (.tm rfl (.tm rfl .nil)) rfl rfl
        ·refine bs rA fun uB xB rA=>sr<|m_ rfl<|oN Tryz.underlying68 rfl<|m_ rfl<|nt<|bk<|lp xB (C:=Value) tA (fun vA dA=>[(2,.raw (.int .i64 a2)),(8,.val K8 qA),(12,.raw dA),(68,.val K8 qA),(69,.raw (.int .i64 (qA.length:Int))),(70,.raw (.int .i64 vA.2))]) (fun vA dA=>(.own K10 dA 3 vA.1)::L) rfl rfl fun vA dA xC xA yB=>?_
         obtain⟨yC,zC⟩:=vA
         dsimp only at xA⊢
         refine sr<|b_ rfl<|nt<|sq<|it xA rfl (fun xA=>?_) (fun xA=>?_)
         ·exact bs xA fun zB hB xA=>bs xA fun bB vB xA=>gs xA fun oB xA=>bs xA fun hC kB xA=>ct<|sq<|bk<|sr<|oS hB Tryz.underlying68 sz3 rfl<|oI kt3 rfl<|a_ rfl<|nt<|rg<|m_ rfl<|mb rfl<|m_ rfl<|m_ rfl<|oS vB Tryz.underlying68 sz3 rfl<|oI kt3 rfl<|ov (OpV.quo rfl rfl (of_decide_eq_true oB) rfl) rfl<|bF (ys:=[IntKind.wrap .i64 (Int.tdiv (IntKind.wrap .i64 (65536*zB)) bB)]) Tryz.underlying68 ET3 (BldA.cons rfl rfl rdI (BldA.nil _)) rfl rfl<|ap kB Tryz.underlying68 AT3 rfl rfl rdV rfl fun dB=>a_ rfl<|nl<|bN<|tn<|rg<|b_ rfl<|m_ rfl<|nl<|nx dB xA rfl rfl
         ·refine fzO (t:=12) rfl<|xt<|te ?_
          cases ai xA yB
          exact te<|bh<|tn<|wr (uA _ (osi rA).symm) rfl
       ·refine bs mA fun bC eB mA=>sr<|a_ rfl<|a_ rfl<|nt<|bk<|lp eB (C:=Value) tB (fun hA bA=>[(0,.raw (.int .i64 a0)),(1,.raw (.int .i64 a1)),(2,.raw (.int .i64 a2)),(8,.raw bA),(9,.raw (.int .i64 hA.2.1)),(10,.raw (.int .i64 hA.2.2))]) (fun hA bA=>(.own K10 bA 3 hA.1)::L) rfl rfl fun hA bA vC yA cB=>?_
        obtain⟨qB,rB,wB⟩:=hA
        dsimp only at yA⊢
        refine sq<|sr<|m_ rfl<|mb rfl<|nt<|it yA rfl (fun yA=>?_) (fun yA=>?_)
        ·refine bs yA fun oA zA yA=>ct<|sq<|bk<|sr<|m_ rfl<|a_ rfl<|nt<|sq<|afr (r:=oA) (fun oA=>[(0,.raw (.int .i64 a0)),(1,.raw (.int .i64 a1)),(2,.raw (.int .i64 a2)),(8,.raw bA),(9,.raw (.int .i64 rB)),(10,.raw (.int .i64 wB)),(11,.raw (.int .i64 oA))]) (fun oA=>((.own K10 bA 3 qB)::L)) ?_ fun K gA=>?_
         ·exact bs yA fun oC gB yA=>gs yA fun mB yA=>sr<|m_ rfl<|m_ rfl<|bF (ys:=[oA]) Tryz.underlying68 ET3 (BldA.cons rfl rfl rdI (BldA.nil _)) rfl rfl<|ap gB Tryz.underlying68 AT3 rfl rfl rdV rfl fun nB=>a_ rfl<|nt<|rg<|m_ rfl<|mb rfl<|m_ rfl<|ov (OpV.quo rfl rfl (of_decide_eq_true mB) rfl) rfl<|a_ rfl<|nl<|bN<|tn<|rg<|mb rfl<|a_ rfl<|nl<|nx nB yA rfl rfl
         ·refine sr<|mb rfl<|nt<|it zA rfl (fun zA=>?_) (fun zA=>?_)
          ·exact bs zA fun kC wA zA=>rg<|m_ rfl<|m_ rfl<|mb rfl<|ov (OpV.ixO wA Tryz.underlying68 sz3k rfl rfl) rfl<|lP (.own wA) (.ix .id wA) kt3k rfl rfl<|rI (t:=54) rfl<|b_ rfl<|a_ rfl<|nt<|wr (gA _ (osi zA).symm) rfl
          ·exact ct<|wr (gA _ (osi zA).symm) rfl
        ·refine fzO (t:=8) rfl<|xt<|te ?_
         cases ai yA cB
         exact te<|bh<|tn<|wr (nA _ (osi mA).symm) rfl
     ·refine by_ (t:=34) rfl (fun eA=>?_) (fun eA=>?_)
      ·exact sk_ eA rfl<|sk_ eA rfl<|pT eA rfl<|rf 2 (or_t (e:=decide (a2>16)) eA) rfl k
      ·exact gc_ eA rfl<|m_ rfl<|gc_ eA rfl<|b_ rfl<|pF eA rfl<|rf 2 (or_f eA) rfl k
    ·refine by_ (t:=30) rfl (fun cA=>?_) (fun cA=>?_)
     ·exact sk_ cA rfl<|sk_ cA rfl<|pT cA rfl<|rf 2 (or_t (e:=decide (a2<0)) cA) rfl k
     ·exact gc_ cA rfl<|m_ rfl<|gc_ cA rfl<|b_ rfl<|pF cA rfl<|rf 2 (or_f cA) rfl k
   ·refine by_ (t:=26) rfl (fun c7=>?_) (fun c7=>?_)
    ·exact sk_ c7 rfl<|sk_ c7 rfl<|pT c7 rfl<|rf 2 (or_t (e:=decide (a1>1000)) c7) rfl k
    ·exact gc_ c7 rfl<|m_ rfl<|gc_ c7 rfl<|b_ rfl<|pF c7 rfl<|rf 2 (or_f c7) rfl k
  ·refine by_ (t:=22) rfl (fun c4=>?_) (fun c4=>?_)
   ·exact sk_ c4 rfl<|sk_ c4 rfl<|pT c4 rfl<|rf 2 (or_t (e:=decide (a1<1)) c4) rfl k
   ·exact gc_ c4 rfl<|m_ rfl<|gc_ c4 rfl<|b_ rfl<|pF c4 rfl<|rf 2 (or_f c4) rfl k
 ·refine by_ (t:=17) rfl (fun c1=>?_) (fun c1=>?_)
  ·exact sk_ c1 rfl<|sk_ c1 rfl<|sk_ c1 rfl<|pT c1 rfl<|rf 3 (or_t (e:=decide (a0>a1)) c1) rfl k
  ·exact gc_ c1 rfl<|m_ rfl<|gc_ c1 rfl<|m_ rfl<|gc_ c1 rfl<|b_ rfl<|pF c1 rfl<|rf 3 (or_f c1) rfl k
noncomputable def kX (a0:List Int) (a1:Int) (a2:Int) (a3:Int):Option (Int×Int):=
 (kW a1 a2 a3).bind fun y1=>
 bif y1.2 != 0 then
  some (0,y1.2)
 else
  bif decide ((a0.length:Int)<18) then
   some (0,3)
  else
   (idx a0 0).bind fun x5=>
   (idx a0 1).bind fun x7=>
   (((Loop.run (S:=Int) (R:=Int) (fun xA=>
     (idx y1.1 xA).bind fun yA=>
     bif decide ((orI .i64 (shlI .i64 (IntKind.wrap .i64 x5) 8) (IntKind.wrap .i64 x7))≥yA) then
      some (.next (IntKind.wrap .i64 (xA+1)))
     else
      some (.done xA)) 0).bind fun zA=>
   some zA
    :Option Int)).bind fun hA=>
   some (hA,0)
theorem o45 {a0:List Int} {a1 a2 a3:Int} {r0:(Int×Int)} (hF:kX a0 a1 a2 a3=some r0) (L:List Res):Ok Tryz.prog 23 [SV.val K9 a0,SV.raw (.int .i64 a1),SV.raw (.int .i64 a2),SV.raw (.int .i64 a3)] L (SV.tup [SV.raw (.int .i64 r0.1),SV.raw (.int .i64 r0.2)]) L:=by
 unfold kX at hF
 refine okI 46 Tryz.func23 rfl rfl rfl fun F0=>?_
 refine bs hF fun y1 h2 hF=>sr<|a_ rfl<|a_ rfl<|ns<|m_ rfl<|m_ rfl<|m_ rfl<|cx Tryz.call75 rfl (o44 h2 _)<|m_ rfl<|oE rfl<|oE rfl<|a_ rfl<|a_ rfl<|nt<|sq<|sr<|mb rfl<|nt<|it hF rfl (fun hF=>?_) (fun hF=>?_)
 ·refine sr<|m_ rfl<|a_ rfl<|a_ rfl<|nt<|rt ?_
  cases osi hF
  exact rs Tryz.results23 (.tm rfl (.tm rfl .nil)) rfl rfl
 ·refine ct<|sq<|sr<|m_ rfl<|oN Tryz.underlying22 rfl<|b_ rfl<|nt<|it hF rfl (fun hF=>?_) (fun hF=>?_)
  ·refine sr<|a_ rfl<|a_ rfl<|nt<|rt ?_
   cases osi hF
   exact rs Tryz.results23 (.tm rfl (.tm rfl .nil)) rfl rfl
  ·refine bs hF fun x5 h6 hF=>bs hF fun x7 h8 hF=>bs hF fun yA zA hF=>ct<|sq<|dw rfl (by kernel_rfl) fun F hF0=>mvq rfl rfl<|oq (OpV.ixS h6 Tryz.underlying22 sz5 rfl rdV rfl) rfl<|oq (OpV.ldI kt5 rfl) rfl<|oq (OpV.conv (by kernel_rfl) Tryz.underlying3 rfl) rfl<|oq (OpV.sh rfl rfl (by decide) rfl) rfl<|mvq rfl rfl<|oq (OpV.ixS h8 Tryz.underlying22 sz5 rfl rdV rfl) rfl<|oq (OpV.ldI kt5 rfl) rfl<|oq (OpV.conv (by kernel_rfl) Tryz.underlying3 rfl) rfl<|bnq rfl rfl rfl rfl<|agq rfl rfl<|nlq hF0<|tn<|sr<|a_ rfl<|nt<|sq<|afr (r:=yA) (fun yA=>[(13,.raw (.int .i64 yA))]) (fun yA=>(L)) ?_ fun K vA=>?_
   ·refine sr<|m_ rfl<|a_ rfl<|a_ rfl<|nt<|rc ?_
    cases osi hF
    exact rs Tryz.results23 (.tm rfl (.tm rfl .nil)) rfl rfl
   ·refine bs zA fun eA oA zA=>bk<|lp oA () (fun hA bA=>[(10,.val K8 y1.1),(12,.raw (.int .i64 (orI .i64 (shlI .i64 (IntKind.wrap .i64 x5) 8) (IntKind.wrap .i64 x7)))),(13,.raw (.int .i64 hA))]) (fun hA bA=>L) rfl rfl fun hA bA cA xA kA=>?_
    refine bs xA fun qA dA xA=>sq<|sr<|m_ rfl<|m_ rfl<|m_ rfl<|oS dA Tryz.underlying68 sz3 rfl<|oI kt3 rfl<|b_ rfl<|nt<|it xA rfl (fun xA=>?_) (fun xA=>?_)
    ·exact ct<|bk<|rg<|mb rfl<|a_ rfl<|nl<|bN<|nx () xA rfl rfl
    ·refine xt<|te ?_
     cases ai xA kA
     exact te<|bh<|tn<|wr (vA _ (osi zA).symm) rfl
noncomputable def eP (a0:Int):Option Int:=
 bif (decide (a0<1))||(decide (a0>8)) then
  some 0
 else
  some (IntKind.wrap .i64 (48+(IntKind.wrap .i64 (34*a0))))
theorem o46 {a0:Int} {r0:Int} (hF:eP a0=some r0) (L:List Res):Ok Tryz.prog 79 [SV.raw (.int .i64 a0)] L (SV.raw (.int .i64 r0)) L:=by
 unfold eP at hF
 refine okI 12 Tryz.func79 rfl rfl rfl fun F0=>?_
 refine sr<|a_ rfl<|nt<|sq<|sr<|mb rfl<|m_ rfl<|cN 8 ((decide (a0<1))||(decide (a0>8))) ?_ (fun k=>?_)
 ·refine nt<|it hF rfl (fun hF=>?_) (fun hF=>?_)
  ·refine sr<|a_ rfl<|nt<|rt ?_
   cases osi hF
   exact rs Tryz.results79 (.tm rfl .nil) rfl rfl
  ·refine ct<|sr<|mb rfl<|b_ rfl<|a_ rfl<|nt<|rc ?_
   cases osi hF
   exact rs Tryz.results79 (.tm rfl .nil) rfl rfl
 ·refine by_ (t:=5) rfl (fun c1=>?_) (fun c1=>?_)
  ·exact sk_ c1 rfl<|sk_ c1 rfl<|pT c1 rfl<|rf 2 (or_t (e:=decide (a0>8)) c1) rfl k
  ·exact gc_ c1 rfl<|m_ rfl<|gc_ c1 rfl<|b_ rfl<|pF c1 rfl<|rf 2 (or_f c1) rfl k
noncomputable def dS (a0:Int) (a1:Int):Option Int:=
 (((Loop.run (S:=(Int×Int×Int×Int)) (R:=Int) (fun(xA,zA,yA,hA)=>
   bif decide (hA<8) then
    ((((bif (andI .u8 zA 1)==1 then
     some (xorI .u8 yA xA)
    else
     some yA
     :Option Int)).bind fun bA=>
    bif (andI .u8 xA 128) != 0 then
     some (xorI .u8 (shlI .u8 xA 1) 27,bA)
    else
     some (shlI .u8 xA 1,bA)
     :Option (Int×Int))).bind fun vA=>match vA with
     |(oA,kA)=>
      some (.next (oA,shrI .u8 zA 1,kA,IntKind.wrap .i64 (hA+1)))
   else
    some (.done yA)) (a0,a1,0,0)).bind fun dA=>
 some dA
  :Option Int)).bind fun eA=>
 some eA
theorem o47 {a0 a1:Int} {r0:Int} (hF:dS a0 a1=some r0) (L:List Res):Ok Tryz.prog 202 [SV.raw (.int .u8 a0),SV.raw (.int .u8 a1)] L (SV.raw (.int .u8 r0)) L:=by
 unfold dS at hF
 refine okI 27 Tryz.func202 rfl rfl rfl fun F0=>?_
 refine bs hF fun bA oA hF=>sr<|a_ rfl<|ns<|a_ rfl<|nt<|sq<|afr (r:=bA) (fun bA=>[(5,.raw (.int .u8 bA))]) (fun bA=>(L)) ?_ fun K mA=>?_
 ·refine sr<|m_ rfl<|a_ rfl<|nt<|rc ?_
  cases osi hF
  exact rs Tryz.results202 (.tm rfl .nil) rfl rfl
 ·refine bs oA fun xB nA oA=>sr<|m_ rfl<|nt<|bk<|lp nA () (fun yA cA=>[(0,.raw (.int .u8 yA.1)),(1,.raw (.int .u8 yA.2.1)),(5,.raw (.int .u8 yA.2.2.1)),(7,.raw (.int .i64 yA.2.2.2))]) (fun yA cA=>L) rfl rfl fun yA cA yB xA pA=>?_
  obtain⟨tA,qA,zB,rA⟩:=yA
  dsimp only at xA⊢
  refine sr<|b_ rfl<|nt<|sq<|it xA rfl (fun xA=>?_) (fun xA=>?_)
  ·refine bs xA fun uA zA xA=>ct<|sq<|Under.after (fun X=>∀(kA:Int) (dA:Int),uA=(kA,dA)→Under F0 27 [(0,.raw (.int .u8 kA)),(1,.raw (.int .u8 (shrI .u8 qA 1))),(5,.raw (.int .u8 dA)),(7,.raw (.int .i64 rA))] (L) X) ?_ ?_
   ·intro kA dA eA
    replace eA:=eA.symm
    subst eA
    exact rg<|b_ rfl<|m_ rfl<|nl<|nx () xA rfl rfl
   ·intro K wA
    refine bs zA fun vA hA zA=>bk<|sq<|afr (r:=vA) (fun vA=>[(0,.raw (.int .u8 tA)),(1,.raw (.int .u8 qA)),(5,.raw (.int .u8 vA)),(7,.raw (.int .i64 rA))]) (fun vA=>(L)) ?_ fun K gA=>?_
    ·refine sr<|m_ rfl<|ov (OpV.sh rfl rfl (by decide) rfl) rfl<|a_ rfl<|ns<|mb rfl<|a_ rfl<|ns<|m_ rfl<|ov (OpV.sh rfl rfl (by decide) rfl) rfl<|a_ rfl<|ns<|mb rfl<|nt<|it zA rfl (fun zA=>?_) (fun zA=>?_)
     ·exact rg<|mb rfl<|a_ rfl<|nl<|bN<|tn<|wr (wA _ _ (osi zA).symm) rfl
     ·exact cs<|bN<|tn<|wr (wA _ _ (osi zA).symm) rfl
    ·refine sr<|mb rfl<|b_ rfl<|nt<|it hA rfl (fun hA=>?_) (fun hA=>?_)
     ·exact rg<|m_ rfl<|mb rfl<|a_ rfl<|nt<|wr (gA _ (osi hA).symm) rfl
     ·exact ct<|wr (gA _ (osi hA).symm) rfl
  ·refine xt<|te ?_
   cases ai xA pA
   exact te<|bh<|tn<|wr (mA _ (osi oA).symm) rfl
noncomputable def jr (a0:Int):Option Int:=
 (((Loop.run (S:=(Int×Int×Int)) (R:=Int) (fun(xA,yA,zA)=>
   bif decide (zA<7) then
    (dS yA yA).bind fun hA=>
    (dS xA hA).bind fun bA=>
    some (.next (bA,hA,IntKind.wrap .i64 (zA+1)))
   else
    some (.done xA)) (1,a0,0)).bind fun vA=>
 some vA
  :Option Int)).bind fun oA=>
 some oA
theorem o48 {a0:Int} {r0:Int} (hF:jr a0=some r0) (L:List Res):Ok Tryz.prog 203 [SV.raw (.int .u8 a0)] L (SV.raw (.int .u8 r0)) L:=by
 unfold jr at hF
 refine okI 16 Tryz.func203 rfl rfl rfl fun F0=>?_
 refine bs hF fun zA hA hF=>sr<|a_ rfl<|ns<|m_ rfl<|a_ rfl<|a_ rfl<|nt<|sq<|afr (r:=zA) (fun zA=>[(3,.raw (.int .u8 zA))]) (fun zA=>(L)) ?_ fun K vA=>?_
 ·refine sr<|m_ rfl<|a_ rfl<|nt<|rc ?_
  cases osi hF
  exact rs Tryz.results203 (.tm rfl .nil) rfl rfl
 ·refine bs hA fun cA oA hA=>sr<|m_ rfl<|nt<|bk<|lp oA () (fun yA bA=>[(3,.raw (.int .u8 yA.1)),(4,.raw (.int .u8 yA.2.1)),(6,.raw (.int .i64 yA.2.2))]) (fun yA bA=>L) rfl rfl fun yA bA qA xA kA=>?_
  obtain⟨rA,wA,gA⟩:=yA
  dsimp only at xA⊢
  refine sr<|b_ rfl<|nt<|sq<|it xA rfl (fun xA=>?_) (fun xA=>?_)
  ·exact bs xA fun mA dA xA=>bs xA fun nA eA xA=>ct<|sq<|bk<|sr<|m_ rfl<|m_ rfl<|cx Tryz.call202 rfl (o47 dA _)<|a_ rfl<|nt<|rg<|m_ rfl<|m_ rfl<|cx Tryz.call202 rfl (o47 eA _)<|a_ rfl<|nl<|bN<|tn<|rg<|b_ rfl<|m_ rfl<|nl<|nx () xA rfl rfl
  ·refine xt<|te ?_
   cases ai xA kA
   exact te<|bh<|tn<|wr (vA _ (osi hA).symm) rfl
noncomputable def dT (a0:Int) (a1:Int):Option Int:=
 bif decide (0≤a1) then
 bif decide (0≤(IntKind.wrap .i64 (8 - a1))) then
 some (orI .u8 (shlI .u8 a0 a1) (shrI .u8 a0 (IntKind.wrap .i64 (8 - a1))))
 else none
 else none
theorem o49 {a0 a1:Int} {r0:Int} (hF:dT a0 a1=some r0) (L:List Res):Ok Tryz.prog 204 [SV.raw (.int .u8 a0),SV.raw (.int .i64 a1)] L (SV.raw (.int .u8 r0)) L:=by
 unfold dT at hF
 refine okI 13 Tryz.func204 rfl rfl rfl fun F0=>?_
 refine gs hF fun h1 hF=>gs hF fun h2 hF=>sr<|a_ rfl<|nt<|sq<|dw rfl (by kernel_rfl) fun F hF0=>mvq rfl rfl<|mvq rfl rfl<|oq (OpV.sh rfl rfl (of_decide_eq_true h1) rfl) rfl<|mvq rfl rfl<|mvq rfl rfl<|bnq rfl rfl rfl rfl<|oq (OpV.sh rfl rfl (of_decide_eq_true h2) rfl) rfl<|bnq rfl rfl rfl rfl<|agq rfl rfl<|nlq hF0<|tn<|rc ?_
 cases osi hF
 exact rs Tryz.results204 (.tm rfl .nil) rfl rfl
noncomputable def cq (a0:Int):Option Int:=
 (jr a0).bind fun y1=>
 (dT y1 1).bind fun y3=>
 (dT y1 2).bind fun y5=>
 (dT y1 3).bind fun y7=>
 (dT y1 4).bind fun y9=>
 some (xorI .u8 (xorI .u8 (xorI .u8 (xorI .u8 (xorI .u8 y1 y3) y5) y7) y9) 99)
theorem o50 {a0:Int} {r0:Int} (hF:cq a0=some r0) (L:List Res):Ok Tryz.prog 163 [SV.raw (.int .u8 a0)] L (SV.raw (.int .u8 r0)) L:=by
 unfold cq at hF
 refine okI 20 Tryz.func163 rfl rfl rfl fun F0=>?_
 refine bs hF fun y1 h2 hF=>bs hF fun y3 h4 hF=>bs hF fun y5 h6 hF=>bs hF fun y7 h8 hF=>bs hF fun y9 xA hF=>sr<|a_ rfl<|ns<|m_ rfl<|cx Tryz.call203 rfl (o48 h2 _)<|a_ rfl<|ns<|m_ rfl<|m_ rfl<|cx Tryz.call204 rfl (o49 h4 _)<|b_ rfl<|m_ rfl<|cx Tryz.call204 rfl (o49 h6 _)<|b_ rfl<|m_ rfl<|cx Tryz.call204 rfl (o49 h8 _)<|b_ rfl<|m_ rfl<|cx Tryz.call204 rfl (o49 xA _)<|b_ rfl<|b_ rfl<|a_ rfl<|nt<|rc ?_
 cases osi hF
 exact rs Tryz.results163 (.tm rfl .nil) rfl rfl
noncomputable def js (a0:List Int):Option aN:=
 (((Loop.run (S:=(Int×(List (List Int)))) (R:=(List (List Int))) (fun(hA,kA)=>
   bif decide (hA<4) then
    (idx kA hA).bind fun qA=>
    (sub a0 (IntKind.wrap .i64 (4*hA)) 16).bind fun rA=>
    bif decide ((Int.toNat 0)≤(Int.toNat 4)∧(Int.toNat 4)≤4) then
    some (.next (IntKind.wrap .i64 (hA+1),List.set kA (Int.toNat hA) (over qA (Int.toNat 0) (Int.toNat 4) rA)))
    else none
   else
    some (.done kA)) (0,(List.replicate 44 (List.replicate 4 (0:Int))))).bind fun wA=>
 some wA
  :Option (List (List Int)))).bind fun xC=>
 (((Loop.run (S:=(Int×Int×(List (List Int)))) (R:=(List (List Int))) (fun(dA,yA,eA)=>
   bif decide (yA<44) then
    (((idx eA (IntKind.wrap .i64 (yA - 1))).bind fun bA=>
    ((bif (Int.tmod yA 4)==0 then
     (idx bA 1).bind fun gA=>
     (cq gA).bind fun mA=>
     (idx bA 2).bind fun nA=>
     (cq nA).bind fun pA=>
     (idx bA 3).bind fun tA=>
     (cq tA).bind fun uA=>
     (idx bA 0).bind fun xB=>
     (cq xB).bind fun yB=>
     (dS 2 dA).bind fun zB=>
     some (zB,[xorI .u8 mA dA,pA,uA,yB])
    else
     some (dA,bA)
     :Option (Int×(List Int)))).bind fun hB=>match hB with
     |(bB,vB)=>
      (Loop.run (S:=(Int×(List (List Int)))) (R:=(List (List Int))) (fun(zA,vA)=>
       bif decide (zA<4) then
        (idx vA (IntKind.wrap .i64 (yA - 4))).bind fun oB=>
        (idx oB zA).bind fun kB=>
        (idx vB zA).bind fun dB=>
        (idx vA yA).bind fun cA=>
        (idx cA zA).bind fun uB=>
        some (.next (IntKind.wrap .i64 (zA+1),List.set vA (Int.toNat yA) (List.set cA (Int.toNat zA) (xorI .u8 kB dB))))
       else
        some (.done vA)) (0,eA)).bind fun eB=>
      some (bB,eB)
     :Option (Int×(List (List Int))))).bind fun cB=>match cB with
     |(qB,rB)=>
      some (.next (qB,IntKind.wrap .i64 (yA+1),rB))
   else
    some (.done eA)) (1,4,xC)).bind fun wB=>
 some wB
  :Option (List (List Int)))).bind fun pB=>
 (((Loop.run (S:=(Int×aN)) (R:=aN) (fun(xA,oA)=>
   bif decide (xA<44) then
    (idx pB xA).bind fun gB=>
    (idx oA.keys (IntKind.wrap .i64 (Int.tdiv xA 4))).bind fun mB=>
    bif decide ((0:Int)≤(IntKind.wrap .i64 ((Int.tmod xA 4)*4))∧(IntKind.wrap .i64 ((Int.tmod xA 4)*4):Int)≤16∧(16:Int)≤16) then
    bif decide ((Int.toNat (IntKind.wrap .i64 ((Int.tmod xA 4)*4)))≤(Int.toNat 16)∧(Int.toNat 16)≤16) then
    some (.next (IntKind.wrap .i64 (xA+1),({oA with keys:=List.set oA.keys (Int.toNat (IntKind.wrap .i64 (Int.tdiv xA 4))) (over mB (Int.toNat (IntKind.wrap .i64 ((Int.tmod xA 4)*4))) (Int.toNat 16) gB)}:aN)))
    else none
    else none
   else
    some (.done oA)) (0,(⟨(List.replicate 11 (List.replicate 16 (0:Int)))⟩:aN))).bind fun nB=>
 some nB
  :Option aN)).bind fun tB=>
 some tB
theorem o51 {a0:List Int} {r0:aN} (hF:js a0=some r0) (L:List Res):Ok Tryz.prog 162 [SV.val K4 a0] L (SV.val aC r0) L:=by
 unfold js at hF
 refine okI 86 Tryz.func162 rfl rfl rfl fun F0=>?_
 refine bs hF fun xE yE hF=>sr<|bX (K:=kArr 16 K12) rfl rdV rfl<|al ZT243 rfl fun b1=>ns<|al ZT284 rfl fun b2=>nt<|sq<|afr (r:=xE) (fun xE=>[(2,pb b1),(3,pb b2)]) (fun xE=>((.box aC b1 243 (⟨(List.replicate 11 (List.replicate 16 (0:Int)))⟩:aN))::(.box (kArr 44 K7) b2 284 xE)::L)) ?_ fun K yG=>?_
 ·refine bs hF fun pA oC hF=>sr<|a_ rfl<|nt<|sq<|afr (r:=pA) (fun pA=>[(2,pb b1),(3,.ptr (kArr 44 K7) pA)]) (fun pA=>((.box aC b1 243 (⟨(List.replicate 11 (List.replicate 16 (0:Int)))⟩:aN))::L)) ?_ fun K zE=>?_
  ·refine bs hF fun tA kC hF=>sr<|al ZT243 rfl fun dC=>nt<|sq<|afr (r:=tA) (fun tA=>[(2,pb b1),(9,.ptr aC tA)]) (fun tA=>((.box aC b1 243 (⟨(List.replicate 11 (List.replicate 16 (0:Int)))⟩:aN))::L)) ?_ fun K hE=>?_
   ·refine sr<|oL kt243 rfl<|sP (x':=tA) .box .id sz243k rfl rfl rdV rfl<|nl<|fz (t:=2) rfl<|tn<|rc ?_
    cases osi hF
    exact rs Tryz.results162 (.ce rfl kt243 .nil) rfl rfl
   ·refine bs kC fun bE eC kC=>sr<|oL kt284 rfl<|m_ rfl<|nt<|bk<|f1<|lp eC () (fun dA vB=>[(2,pb b1),(9,pb dC),(69,.val (kArr 44 K7) pA),(70,.raw (.int .i64 dA.1))]) (fun dA vB=>(.box aC b1 243 (⟨(List.replicate 11 (List.replicate 16 (0:Int)))⟩:aN))::(.box aC dC 243 dA.2)::L) rfl rfl fun dA vB vE zA cC=>?_
    obtain⟨oA,oB⟩:=dA
    dsimp only at zA⊢
    refine sr<|b_ rfl<|nt<|sq<|it zA rfl (fun zA=>?_) (fun zA=>?_)
    ·refine bs zA fun kB qC zA=>bs zA fun rC dB zA=>gs zA fun eA zA=>ct<|sq<|bk<|sr<|m_ rfl<|ov (OpV.ixV qC Tryz.underlying284 kt283 rfl rfl) rfl<|al ZT283 rfl fun oE=>a_ rfl<|sP (x':=kB) .box .id sz283k rfl rfl rdV rfl<|nl<|fz (t:=11) rfl<|tn ?_
     replace eA:(0:Int)≤(IntKind.wrap .i64 ((Int.tmod oA 4)*4))∧(IntKind.wrap .i64 ((Int.tmod oA 4)*4):Int)≤16∧(16:Int)≤16:=of_decide_eq_true eA
     obtain⟨cA,zA⟩:=gsome zA
     replace cA:(Int.toNat (IntKind.wrap .i64 ((Int.tmod oA 4)*4)))≤(Int.toNat 16)∧(Int.toNat 16)≤16:=of_decide_eq_true cA
     exact ph rfl<|gV [0,1,2,3,4,5,6,7,8] [[10],[74],[9],[75,76],[10],[78],[79],[77,80],[11]] 2 (by kernel_rfl) rfl<|vm_ rfl<|vo (fun _=>OpV.quo rfl rfl (by decide) rfl) rfl<|vo (fun _=>OpV.fdM zL rfl) rfl<|Vq.v (fun G T hG=>f1<|oX .box (.fld .id jI) dB Tryz.underlying241 sz240k rfl<|f1<|Vq.end rfl)<|vm_ rfl<|vo (fun _=>OpV.quo rfl rfl (by decide) rfl) rfl<|vb_ rfl<|Vq.v (fun G T hG=>ov (OpV.slP (l:=IntKind.wrap .i64 ((Int.tmod oA 4)*4)) (h:=16) Tryz.underlying240 sz5k rfl rfl rfl (And.left eA) (And.left (And.right eA)) (And.right (And.right eA))) rfl<|Vq.end rfl)<|vo (fun _=>OpV.slA Tryz.underlying283 sz5 rfl) rfl<|vn<|p1 9 rfl rfl<|f1<|Under.cpB (x':=({oB with keys:=List.set oB.keys (Int.toNat (IntKind.wrap .i64 (Int.tdiv oA 4))) (over rC (Int.toNat (IntKind.wrap .i64 ((Int.tmod oA 4)*4))) (Int.toNat 16) kB)}:aN)) .box (.ix (.fld .id jI) dB) (And.left cA) (And.right cA) (pP (And.right cA)) Tryz.underlying22 sz5k rfl rfl (.sl rdV) rfl rfl<|pn<|pd rfl<|bN<|tn<|rg<|b_ rfl<|m_ rfl<|nl<|f1<|nx () zA rfl rfl
    ·refine f1<|fz (t:=9) rfl<|xt<|te ?_
     cases ai zA cC
     exact te<|bh<|tn<|wr (hE _ (osi kC).symm) rfl
  ·refine bs oC fun kE wC oC=>sr<|a_ rfl<|nt<|bk<|lp wC () (fun kA eB=>[(2,pb b1),(3,pb b2),(5,.raw (.int .u8 kA.1)),(6,.raw (.int .i64 kA.2.1))]) (fun kA eB=>(.box aC b1 243 (⟨(List.replicate 11 (List.replicate 16 (0:Int)))⟩:aN))::(.box (kArr 44 K7) b2 284 kA.2.2)::L) rfl rfl fun kA eB dE bA gC=>?_
   obtain⟨cB,gA,mC⟩:=kA
   dsimp only at bA⊢
   refine sq<|sr<|mb rfl<|nt<|it bA rfl (fun bA=>?_) (fun bA=>?_)
   ·refine bs bA fun nC vA bA=>ct<|sq<|Under.after (fun X=>∀(uA:Int) (xB:List (List Int)),nC=(uA,xB)→Under F0 86 [(2,pb b1),(3,pb b2),(5,.raw (.int .u8 uA)),(6,.raw (.int .i64 gA))] ((.box aC b1 243 (⟨(List.replicate 11 (List.replicate 16 (0:Int)))⟩:aN))::(.box (kArr 44 K7) b2 284 xB)::L) X) ?_ ?_
    ·intro uA xB yB
     replace yB:=yB.symm
     subst yB
     exact rg<|mb rfl<|a_ rfl<|nl<|nx () bA rfl rfl
    ·intro K pC
     refine bs vA fun tC qB vA=>bs vA fun uC xA vA=>bk<|sr<|mb rfl<|f1<|oX .box .id qB Tryz.underlying284 sz283k rfl<|lP .box (.ix .id qB) kt283k rfl rfl<|al ZT283 rfl fun eE=>sP (x':=tC) .box .id sz283k rfl rfl rdV rfl<|nt<|sq<|Under.after (fun X=>∀(mA:Int) (nA:List Int),uC=(mA,nA)→Under F0 86 [(2,pb b1),(3,pb b2),(5,.raw (.int .u8 mA)),(6,.raw (.int .i64 gA)),(7,.ptr K7 nA)] ((.box aC b1 243 (⟨(List.replicate 11 (List.replicate 16 (0:Int)))⟩:aN))::(.box (kArr 44 K7) b2 284 mC)::L) X) ?_ ?_
     ·intro mA nA zB
      replace zB:=zB.symm
      subst zB
      refine bs vA fun cE xD vA=>sr<|m_ rfl<|nt<|bk<|lp xD () (fun qA rB=>[(2,pb b1),(3,pb b2),(5,.raw (.int .u8 mA)),(6,.raw (.int .i64 gA)),(7,.ptr K7 nA),(51,.raw (.int .i64 qA.1))]) (fun qA rB=>(.box aC b1 243 (⟨(List.replicate 11 (List.replicate 16 (0:Int)))⟩:aN))::(.box (kArr 44 K7) b2 284 qA.2)::L) rfl rfl fun qA rB qE yA yD=>?_
      obtain⟨zD,hD⟩:=qA
      dsimp only at yA⊢
      refine sr<|b_ rfl<|nt<|sq<|it yA rfl (fun yA=>?_) (fun yA=>?_)
      ·exact bs yA fun rE hB yA=>bs yA fun bD wB yA=>bs yA fun vD oD yA=>bs yA fun kD bB yA=>bs yA fun wE gB yA=>ct<|sq<|bk<|sr<|m_ rfl<|a_ rfl<|nt<|ph rfl<|gV [0,1,2,3,4,5,6,7,8,9,10,11,12] [[6],[8],[6],[56],[8],[3,57],[58,59],[60],[8],[7,62],[63],[61,64],[3,54]] 2 (by kernel_rfl) rfl<|vm_ rfl<|vm_ rfl<|vm_ rfl<|vb_ rfl<|vm_ rfl<|Vq.v (fun G T hG=>f1<|oX .box .id hB Tryz.underlying284 sz283k rfl<|f1<|Vq.end rfl)<|Vq.v (fun G T hG=>f1<|oX .box (.ix .id hB) wB Tryz.underlying283 sz5k rfl<|f1<|Vq.end rfl)<|Vq.v (fun G T hG=>f1<|lP .box (.ix (.ix .id hB) wB) kt5k rfl rfl<|rI (t:=61) rfl<|f1<|Vq.end rfl)<|vm_ rfl<|vo (fun _=>OpV.ixA oD Tryz.underlying283 sz5 rfl rfl) rfl<|vo (fun _=>OpV.ldI kt5 rfl) rfl<|vb_ rfl<|Vq.v (fun G T hG=>f1<|oX .box .id bB Tryz.underlying284 sz283k rfl<|f1<|Vq.end rfl)<|vn<|p1 13 rfl rfl<|f1<|oX .box (.ix .id bB) gB Tryz.underlying283 sz5k rfl<|pn<|p1 14 rfl rfl<|sP (x':=List.set hD (Int.toNat gA) (List.set kD (Int.toNat zD) (xorI .u8 bD vD))) .box (.ix (.ix .id bB) gB) sz5k rfl rfl rdI rfl<|pn<|pd rfl<|bN<|tn<|rg<|b_ rfl<|m_ rfl<|nl<|f1<|nx () yA rfl rfl
      ·refine xt<|te ?_
       cases ai yA yD
       exact te<|bh<|bN<|tn<|wr (pC _ _ (osi vA).symm) rfl
     ·intro K mB
      refine sr<|m_ rfl<|ov (OpV.quo rfl rfl (by decide) rfl) rfl<|b_ rfl<|nt<|it xA rfl (fun xA=>?_) (fun xA=>?_)
      ·exact bs xA fun gE nB xA=>bs xA fun pB dD xA=>bs xA fun mE tB xA=>bs xA fun uB eD xA=>bs xA fun nE xC xA=>bs xA fun yC cD xA=>bs xA fun pE zC xA=>bs xA fun hC qD xA=>bs xA fun tE rD xA=>sq<|ph rfl<|gV [0,1,2,3,4,5,6,7,8,9,10,11,12,13] [[7],[34],[35],[5],[36,37],[7],[39],[40],[7],[42],[43],[7],[45],[46]] 3 (by kernel_rfl) rfl<|Vq.v (fun G T hG=>oX .box .id nB Tryz.underlying283 sz5k rfl<|Vq.end rfl)<|Vq.v (fun G T hG=>lP .box (.ix .id nB) kt5k rfl rfl<|rI (t:=35) rfl<|Vq.end rfl)<|Vq.v (fun G T hG=>cx Tryz.call163 rfl (o50 dD _)<|Vq.end rfl)<|vm_ rfl<|vb_ rfl<|Vq.v (fun G T hG=>oX .box .id tB Tryz.underlying283 sz5k rfl<|Vq.end rfl)<|Vq.v (fun G T hG=>lP .box (.ix .id tB) kt5k rfl rfl<|rI (t:=40) rfl<|Vq.end rfl)<|Vq.v (fun G T hG=>cx Tryz.call163 rfl (o50 eD _)<|Vq.end rfl)<|Vq.v (fun G T hG=>oX .box .id xC Tryz.underlying283 sz5k rfl<|Vq.end rfl)<|Vq.v (fun G T hG=>lP .box (.ix .id xC) kt5k rfl rfl<|rI (t:=43) rfl<|Vq.end rfl)<|Vq.v (fun G T hG=>cx Tryz.call163 rfl (o50 cD _)<|Vq.end rfl)<|Vq.v (fun G T hG=>oX .box .id zC Tryz.underlying283 sz5k rfl<|Vq.end rfl)<|Vq.v (fun G T hG=>lP .box (.ix .id zC) kt5k rfl rfl<|rI (t:=46) rfl<|Vq.end rfl)<|Vq.v (fun G T hG=>cx Tryz.call163 rfl (o50 qD _)<|Vq.end rfl)<|vn<|p1 14 rfl rfl<|ov (OpV.bar (ys:=[xorI .u8 pB cB,uB,yC,hC]) BTA283 (BldA.cons rfl rfl rdI (BldA.cons rfl rfl rdI (BldA.cons rfl rfl rdI (BldA.cons rfl rfl rdI (BldA.nil _)))))) rfl<|pn<|p1 15 rfl rfl<|sP (x':=[xorI .u8 pB cB,uB,yC,hC]) .box .id sz283k rfl rfl rdV rfl<|pn<|pd rfl<|fz (t:=7) rfl<|tn<|rg<|m_ rfl<|cx Tryz.call202 rfl (o47 rD _)<|a_ rfl<|nt<|f1<|wr (mB _ _ (osi xA).symm) rfl
      ·exact fz (t:=7) rfl<|ct<|f1<|wr (mB _ _ (osi xA).symm) rfl
   ·refine f1<|fz (t:=3) rfl<|xt<|te ?_
    cases ai bA gC
    exact te<|bh<|tn<|wr (zE _ (osi oC).symm) rfl
 ·refine bs yE fun uE wD yE=>sr<|m_ rfl<|nt<|bk<|f1<|lp wD () (fun rA bC=>[(1,.ptr K4 a0),(2,pb b1),(3,pb b2),(12,.raw (.int .i64 rA.1))]) (fun rA bC=>(.box aC b1 243 (⟨(List.replicate 11 (List.replicate 16 (0:Int)))⟩:aN))::(.box (kArr 44 K7) b2 284 rA.2)::L) rfl rfl fun rA bC xG hA gD=>?_
  obtain⟨mD,nD⟩:=rA
  dsimp only at hA⊢
  refine sr<|b_ rfl<|nt<|sq<|it hA rfl (fun hA=>?_) (fun hA=>?_)
  ·refine bs hA fun pD vC hA=>bs hA fun tD uD hA=>gs hA fun wA hA=>ct<|sq<|bk<|sr<|m_ rfl<|a_ rfl<|nl<|tn ?_
   replace wA:(Int.toNat 0)≤(Int.toNat 4)∧(Int.toNat 4)≤4:=of_decide_eq_true wA
   exact ph rfl<|gV [0,1,2,3,4,5] [[4],[3,15],[16],[4],[18],[1,19]] 2 (by kernel_rfl) rfl<|vm_ rfl<|Vq.v (fun G T hG=>f1<|oX .box .id vC Tryz.underlying284 sz283k rfl<|f1<|Vq.end rfl)<|Vq.v (fun G T hG=>ov (OpV.slP (l:=0) (h:=4) Tryz.underlying283 sz5k rfl rfl rfl (by decide) (by decide) (by decide)) rfl<|Vq.end rfl)<|vm_ rfl<|vb_ rfl<|Vq.v (fun G T hG=>ov (OpV.slF uD Tryz.underlying64 sz5 rfl rfl rfl) rfl<|Vq.end rfl)<|vn<|p1 6 rfl rfl<|f1<|Under.cpB (x':=List.set nD (Int.toNat mD) (over pD (Int.toNat 0) (Int.toNat 4) tD)) .box (.ix .id vC) (And.left wA) (And.right wA) (pP (And.right wA)) Tryz.underlying22 sz5k rfl rfl (.sl rdV) rfl rfl<|pn<|pd rfl<|bN<|tn<|rg<|b_ rfl<|m_ rfl<|nl<|f1<|nx () hA rfl rfl
  ·refine xt<|te ?_
   cases ai hA gD
   exact te<|bh<|tn<|wr (yG _ (osi yE).symm) rfl
noncomputable def cL (a0:List Int) (a1:List Int):Option (List Int):=
 (((Loop.run (S:=(Int×(List Int))) (R:=(List Int)) (fun(xA,yA)=>
   bif decide (xA<16) then
    (idx yA xA).bind fun zA=>
    (idx a1 xA).bind fun hA=>
    (idx yA xA).bind fun oA=>
    some (.next (IntKind.wrap .i64 (xA+1),List.set yA (Int.toNat xA) (xorI .u8 zA hA)))
   else
    some (.done yA)) (0,a0)).bind fun bA=>
 some bA
  :Option (List Int))).bind fun vA=>
 some vA
theorem o52 {a0 a1:List Int} {r0:(List Int)} (hF:cL a0 a1=some r0) (L:List Res):Ok Tryz.prog 205 [SV.val K4 a0,SV.val K4 a1] L (SV.val K4 r0) L:=by
 unfold cL at hF
 refine okI 19 Tryz.func205 rfl rfl rfl fun F0=>?_
 refine bs hF fun yA hA hF=>sr<|Under.bx (K:=kArr 16 K12) rfl rdV rfl fun b1=>bX (K:=kArr 16 K12) rfl rdV rfl<|al ZT240 rfl fun b2=>nt<|sq<|afr (r:=yA) (fun yA=>[(2,.ptr K4 yA),(4,pb b2)]) (fun yA=>((.box K4 b2 240 (List.replicate 16 (0:Int)))::L)) ?_ fun K kA=>?_
 ·refine sr<|oL kt240 rfl<|sP (x':=yA) .box .id sz240k rfl rfl rdV rfl<|nl<|fz (t:=4) rfl<|tn<|rc ?_
  cases osi hF
  exact rs Tryz.results205 (.ce rfl kt240 .nil) rfl rfl
 ·refine bs hA fun mA dA hA=>sr<|m_ rfl<|nt<|bk<|f1<|lp dA () (fun zA bA=>[(2,pb b1),(3,.ptr K4 a1),(4,pb b2),(6,.raw (.int .i64 zA.1))]) (fun zA bA=>(.box K4 b1 240 zA.2)::(.box K4 b2 240 (List.replicate 16 (0:Int)))::L) rfl rfl fun zA bA nA xA eA=>?_
  obtain⟨cA,qA⟩:=zA
  dsimp only at xA⊢
  refine sr<|b_ rfl<|nt<|sq<|it xA rfl (fun xA=>?_) (fun xA=>?_)
  ·exact bs xA fun rA vA xA=>bs xA fun wA gA xA=>bs xA fun pA oA xA=>ct<|sq<|bk<|sr<|m_ rfl<|a_ rfl<|nt<|ph rfl<|gV [0,1,2,3,4,5] [[5],[2,9],[10],[5],[3,12],[13]] 2 (by kernel_rfl) rfl<|vm_ rfl<|Vq.v (fun G T hG=>oX .box .id vA Tryz.underlying240 sz5k rfl<|Vq.end rfl)<|Vq.v (fun G T hG=>lP .box (.ix .id vA) kt5k rfl rfl<|rI (t:=11) rfl<|Vq.end rfl)<|vm_ rfl<|vo (fun _=>OpV.ixA gA Tryz.underlying240 sz5 rfl rfl) rfl<|vo (fun _=>OpV.ldI kt5 rfl) rfl<|vn<|p1 6 rfl rfl<|b_ rfl<|pn<|p1 7 rfl rfl<|oX .box .id oA Tryz.underlying240 sz5k rfl<|pn<|p1 8 rfl rfl<|sP (x':=List.set qA (Int.toNat cA) (xorI .u8 rA wA)) .box (.ix .id oA) sz5k rfl rfl rdI rfl<|pn<|pd rfl<|bN<|tn<|rg<|b_ rfl<|m_ rfl<|nl<|nx () xA rfl rfl
  ·refine fz (t:=2) rfl<|xt<|te ?_
   cases ai xA eA
   exact te<|bh<|tn<|wr (kA _ (osi hA).symm) rfl
noncomputable def gL (a0:Int) (a1:List Int):Option Int:=
 (idx a1 a0).bind fun x1=>
 some x1
theorem o53 {a0:Int} {a1:List Int} {r0:Int} (hF:gL a0 a1=some r0) (L:List Res):Ok Tryz.prog 164 [SV.raw (.int .u8 a0),SV.ptr (kArr 256 K12) a1] L (SV.raw (.int .u8 r0)) L:=by
 unfold gL at hF
 refine okI 7 Tryz.func164 rfl rfl rfl fun F0=>?_
 refine bs hF fun x1 h2 hF=>sr<|a_ rfl<|ns<|m_ rfl<|ov (OpV.ixA h2 Tryz.underlying246 sz5 rfl rfl) rfl<|oI kt5 rfl<|a_ rfl<|nt<|rc ?_
 cases osi hF
 exact rs Tryz.results164 (.tm rfl .nil) rfl rfl
end Go.Proofs.YtobbmodjdkcdcaaGreatDoor

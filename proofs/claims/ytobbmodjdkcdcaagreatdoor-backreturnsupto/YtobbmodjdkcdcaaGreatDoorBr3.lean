import Derived.Test.YtobbmodjdkcdcaaGreatDoorBr2
set_option linter.unusedVariables false
set_option linter.unusedSimpArgs false
set_option maxRecDepth 20000
namespace Go.Proofs.YtobbmodjdkcdcaaGreatDoor
open Go Go.Sim Go.ChangeShapes Go.WideShapes Go.ChangeAt Go.RowKit
set_option linter.unusedSectionVars false
variable [Fu]
noncomputable def cp (a0:List Int) (a1:List Int):Option (List Int):=
 (((Loop.run (S:=(Int×(List Int))) (R:=(List Int)) (fun(xA,yA)=>
   bif decide (xA<16) then
    (idx yA xA).bind fun zA=>
    (gL zA a1).bind fun hA=>
    (idx yA xA).bind fun oA=>
    some (.next (IntKind.wrap .i64 (xA+1),List.set yA (Int.toNat xA) hA))
   else
    some (.done yA)) (0,a0)).bind fun bA=>
 some bA
  :Option (List Int))).bind fun vA=>
 some vA
theorem o54 {a0 a1:List Int} {r0:(List Int)} (hF:cp a0 a1=some r0) (L:List Res):Ok Tryz.prog 206 [SV.val K4 a0,SV.fn 164 [.ptr (kArr 256 K12) a1]] L (SV.val K4 r0) L:=by
 unfold cp at hF
 refine okI 18 Tryz.func206 rfl rfl rfl fun F0=>?_
 refine bs hF fun yA hA hF=>sr<|Under.bx (K:=kArr 16 K12) rfl rdV rfl fun b1=>al ZT240 rfl fun b2=>nt<|sq<|afr (r:=yA) (fun yA=>[(2,.ptr K4 yA),(4,pb b2)]) (fun yA=>((.box K4 b2 240 (List.replicate 16 (0:Int)))::L)) ?_ fun K kA=>?_
 ·refine sr<|oL kt240 rfl<|sP (x':=yA) .box .id sz240k rfl rfl rdV rfl<|nl<|fz (t:=4) rfl<|tn<|rc ?_
  cases osi hF
  exact rs Tryz.results206 (.ce rfl kt240 .nil) rfl rfl
 ·refine bs hA fun gA dA hA=>sr<|m_ rfl<|nt<|bk<|f1<|lp dA () (fun zA bA=>[(1,.fn 164 [.ptr (kArr 256 K12) a1]),(2,pb b1),(4,pb b2),(6,.raw (.int .i64 zA.1))]) (fun zA bA=>(.box K4 b1 240 zA.2)::(.box K4 b2 240 (List.replicate 16 (0:Int)))::L) rfl rfl fun zA bA mA xA eA=>?_
  obtain⟨cA,qA⟩:=zA
  dsimp only at xA⊢
  refine sr<|b_ rfl<|nt<|sq<|it xA rfl (fun xA=>?_) (fun xA=>?_)
  ·exact bs xA fun nA vA xA=>bs xA fun rA wA xA=>bs xA fun pA oA xA=>ct<|sq<|bk<|sr<|m_ rfl<|a_ rfl<|nt<|rg<|m_ rfl<|m_ rfl<|m_ rfl<|oX .box .id vA Tryz.underlying240 sz5k rfl<|lP .box (.ix .id vA) kt5k rfl rfl<|rI (t:=13) rfl<|Under.callC Tryz.call164 rfl rfl (o53 wA _) rfl<|oX .box .id oA Tryz.underlying240 sz5k rfl<|sP (x':=List.set qA (Int.toNat cA) rA) .box (.ix .id oA) sz5k rfl rfl rdI rfl<|nl<|bN<|tn<|rg<|b_ rfl<|m_ rfl<|nl<|nx () xA rfl rfl
  ·refine fz (t:=2) rfl<|xt<|te ?_
   cases ai xA eA
   exact te<|bh<|tn<|wr (kA _ (osi hA).symm) rfl
noncomputable def dj (a0:List Int) (a1:Int):Option (List Int):=
 (((Loop.run (S:=(Int×(List Int))) (R:=(List Int)) (fun(xA,hA)=>
   bif decide (xA<4) then
    (((Loop.run (S:=(Int×(List Int))) (R:=(List Int)) (fun(yA,zA)=>
      bif decide (yA<4) then
       (idx a0 (IntKind.wrap .i64 ((IntKind.wrap .i64 (4*(Int.tmod (IntKind.wrap .i64 (yA+(IntKind.wrap .i64 (xA*a1)))) 4)))+xA))).bind fun bA=>
       (idx zA (IntKind.wrap .i64 ((IntKind.wrap .i64 (4*yA))+xA))).bind fun eA=>
       some (.next (IntKind.wrap .i64 (yA+1),List.set zA (Int.toNat (IntKind.wrap .i64 ((IntKind.wrap .i64 (4*yA))+xA))) bA))
      else
       some (.done zA)) (0,hA)).bind fun vA=>
    some vA
     :Option (List Int))).bind fun oA=>
    some (.next (IntKind.wrap .i64 (xA+1),oA))
   else
    some (.done hA)) (0,(List.replicate 16 (0:Int)))).bind fun kA=>
 some kA
  :Option (List Int))).bind fun dA=>
 some dA
theorem o55 {a0:List Int} {a1:Int} {r0:(List Int)} (hF:dj a0 a1=some r0) (L:List Res):Ok Tryz.prog 207 [SV.val K4 a0,SV.raw (.int .i64 a1)] L (SV.val K4 r0) L:=by
 unfold dj at hF
 refine okI 33 Tryz.func207 rfl rfl rfl fun F0=>?_
 refine bs hF fun zA kA hF=>sr<|bX (K:=kArr 16 K12) rfl rdV rfl<|al ZT240 rfl fun b1=>ns<|al ZT240 rfl fun b2=>nt<|sq<|afr (r:=zA) (fun zA=>[(4,pb b1),(5,.ptr K4 zA)]) (fun zA=>((.box K4 b1 240 (List.replicate 16 (0:Int)))::L)) ?_ fun K rA=>?_
 ·refine sr<|oL kt240 rfl<|sP (x':=zA) .box .id sz240k rfl rfl rdV rfl<|nl<|fz (t:=4) rfl<|tn<|rc ?_
  cases osi hF
  exact rs Tryz.results207 (.ce rfl kt240 .nil) rfl rfl
 ·refine bs kA fun zB wA kA=>sr<|m_ rfl<|nt<|bk<|f1<|lp wA () (fun hA eA=>[(1,.raw (.int .i64 a1)),(2,.ptr K4 a0),(4,pb b1),(5,pb b2),(8,.raw (.int .i64 hA.1))]) (fun hA eA=>(.box K4 b1 240 (List.replicate 16 (0:Int)))::(.box K4 b2 240 hA.2)::L) rfl rfl fun hA eA hB yA gA=>?_
  obtain⟨vA,bB⟩:=hA
  dsimp only at yA⊢
  refine sr<|b_ rfl<|nt<|sq<|it yA rfl (fun yA=>?_) (fun yA=>?_)
  ·refine bs yA fun oA dA yA=>ct<|sq<|afr (r:=oA) (fun oA=>[(1,.raw (.int .i64 a1)),(2,.ptr K4 a0),(4,pb b1),(5,pb b2),(8,.raw (.int .i64 vA))]) (fun oA=>((.box K4 b1 240 (List.replicate 16 (0:Int)))::(.box K4 b2 240 oA)::L)) ?_ fun K mA=>?_
   ·exact rg<|b_ rfl<|m_ rfl<|nl<|nx () yA rfl rfl
   ·refine bs dA fun vB nA dA=>bk<|sr<|m_ rfl<|a_ rfl<|ns<|m_ rfl<|nt<|bk<|lp nA () (fun bA cA=>[(1,.raw (.int .i64 a1)),(2,.ptr K4 a0),(4,pb b1),(5,pb b2),(6,.raw (.int .i64 vA)),(8,.raw (.int .i64 vA)),(11,.raw (.int .i64 bA.1))]) (fun bA cA=>(.box K4 b1 240 (List.replicate 16 (0:Int)))::(.box K4 b2 240 bA.2)::L) rfl rfl fun bA cA oB xA pA=>?_
    obtain⟨tA,uA⟩:=bA
    dsimp only at xA⊢
    refine sr<|b_ rfl<|nt<|sq<|it xA rfl (fun xA=>?_) (fun xA=>?_)
    ·exact bs xA fun xB yB xA=>bs xA fun kB qA xA=>ct<|sq<|bk<|sr<|m_ rfl<|a_ rfl<|nt<|rg<|mb rfl<|mb rfl<|m_ rfl<|m_ rfl<|mb rfl<|b_ rfl<|ov (OpV.quo rfl rfl (by decide) rfl) rfl<|b_ rfl<|mb rfl<|ov (OpV.ixA yB Tryz.underlying240 sz5 rfl rfl) rfl<|oI kt5 rfl<|f1<|oX .box .id qA Tryz.underlying240 sz5k rfl<|sP (x':=List.set uA (Int.toNat (IntKind.wrap .i64 ((IntKind.wrap .i64 (4*tA))+vA))) xB) .box (.ix .id qA) sz5k rfl rfl rdI rfl<|nl<|bN<|tn<|rg<|b_ rfl<|m_ rfl<|nl<|f1<|nx () xA rfl rfl
    ·refine xt<|te ?_
     cases ai xA pA
     exact te<|bh<|bN<|tn<|wr (mA _ (osi dA).symm) rfl
  ·refine f1<|fz (t:=5) rfl<|xt<|te ?_
   cases ai yA gA
   exact te<|bh<|tn<|wr (rA _ (osi kA).symm) rfl
noncomputable def jm (a0:List Int) (a1:List Int):Option (List Int):=
 (((Loop.run (S:=(Int×(List Int))) (R:=(List Int)) (fun(xA,hA)=>
   bif decide (xA<4) then
    (((Loop.run (S:=(Int×(List Int))) (R:=(List Int)) (fun(yA,zA)=>
      bif decide (yA<4) then
       (idx zA xA).bind fun bA=>
       (idx a1 (Int.tmod (IntKind.wrap .i64 ((IntKind.wrap .i64 (yA - xA))+4)) 4)).bind fun vA=>
       (idx a0 yA).bind fun oA=>
       (dS vA oA).bind fun kA=>
       (idx zA xA).bind fun rA=>
       some (.next (IntKind.wrap .i64 (yA+1),List.set zA (Int.toNat xA) (xorI .u8 bA kA)))
      else
       some (.done zA)) (0,hA)).bind fun dA=>
    some dA
     :Option (List Int))).bind fun eA=>
    some (.next (IntKind.wrap .i64 (xA+1),eA))
   else
    some (.done hA)) (0,(List.replicate 4 (0:Int)))).bind fun cA=>
 some cA
  :Option (List Int))).bind fun qA=>
 some qA
theorem o56 {a0 a1:List Int} {r0:(List Int)} (hF:jm a0 a1=some r0) (L:List Res):Ok Tryz.prog 242 [SV.val K7 a0,SV.val K7 a1] L (SV.val K7 r0) L:=by
 unfold jm at hF
 refine okI 33 Tryz.func242 rfl rfl rfl fun F0=>?_
 refine bs hF fun hA dA hF=>sr<|bX (K:=kArr 4 K12) rfl rdV rfl<|bX (K:=kArr 4 K12) rfl rdV rfl<|al ZT283 rfl fun b1=>ns<|al ZT283 rfl fun b2=>nt<|sq<|afr (r:=hA) (fun hA=>[(4,pb b1),(5,.ptr K7 hA)]) (fun hA=>((.box K7 b1 283 (List.replicate 4 (0:Int)))::L)) ?_ fun K wA=>?_
 ·refine sr<|oL kt283 rfl<|sP (x':=hA) .box .id sz283k rfl rfl rdV rfl<|nl<|fz (t:=4) rfl<|tn<|rc ?_
  cases osi hF
  exact rs Tryz.results242 (.ce rfl kt283 .nil) rfl rfl
 ·refine bs dA fun vB gA dA=>sr<|m_ rfl<|nt<|bk<|f1<|lp gA () (fun yA kA=>[(2,.ptr K7 a0),(3,.ptr K7 a1),(4,pb b1),(5,pb b2),(8,.raw (.int .i64 yA.1))]) (fun yA kA=>(.box K7 b1 283 (List.replicate 4 (0:Int)))::(.box K7 b2 283 yA.2)::L) rfl rfl fun yA kA oB zA mA=>?_
  obtain⟨vA,kB⟩:=yA
  dsimp only at zA⊢
  refine sr<|b_ rfl<|nt<|sq<|it zA rfl (fun zA=>?_) (fun zA=>?_)
  ·refine bs zA fun oA eA zA=>ct<|sq<|afr (r:=oA) (fun oA=>[(2,.ptr K7 a0),(3,.ptr K7 a1),(4,pb b1),(5,pb b2),(8,.raw (.int .i64 vA))]) (fun oA=>((.box K7 b1 283 (List.replicate 4 (0:Int)))::(.box K7 b2 283 oA)::L)) ?_ fun K nA=>?_
   ·exact rg<|b_ rfl<|m_ rfl<|nl<|nx () zA rfl rfl
   ·refine bs eA fun dB pA eA=>bk<|sr<|m_ rfl<|a_ rfl<|ns<|m_ rfl<|nt<|bk<|lp pA () (fun bA cA=>[(2,.ptr K7 a0),(3,.ptr K7 a1),(4,pb b1),(5,pb b2),(6,.raw (.int .i64 vA)),(8,.raw (.int .i64 vA)),(11,.raw (.int .i64 bA.1))]) (fun bA cA=>(.box K7 b1 283 (List.replicate 4 (0:Int)))::(.box K7 b2 283 bA.2)::L) rfl rfl fun bA cA eB xA tA=>?_
    obtain⟨cB,uA⟩:=bA
    dsimp only at xA⊢
    refine sr<|b_ rfl<|nt<|sq<|it xA rfl (fun xA=>?_) (fun xA=>?_)
    ·exact bs xA fun xB qA xA=>bs xA fun qB yB xA=>bs xA fun rB zB xA=>bs xA fun hB bB xA=>bs xA fun wB rA xA=>ct<|sq<|bk<|sr<|m_ rfl<|a_ rfl<|nt<|ph rfl<|gV [0,1,2,3,4,5,6,7,8,9,10,11,12,13] [[6],[5,14],[15],[7],[6],[17,18],[19],[20],[3,21],[22],[7],[2,24],[25],[23,26]] 2 (by kernel_rfl) rfl<|vm_ rfl<|Vq.v (fun G T hG=>f1<|oX .box .id qA Tryz.underlying283 sz5k rfl<|f1<|Vq.end rfl)<|Vq.v (fun G T hG=>f1<|lP .box (.ix .id qA) kt5k rfl rfl<|rI (t:=16) rfl<|f1<|Vq.end rfl)<|vm_ rfl<|vm_ rfl<|vb_ rfl<|vb_ rfl<|vo (fun _=>OpV.quo rfl rfl (by decide) rfl) rfl<|vo (fun _=>OpV.ixA yB Tryz.underlying283 sz5 rfl rfl) rfl<|vo (fun _=>OpV.ldI kt5 rfl) rfl<|vm_ rfl<|vo (fun _=>OpV.ixA zB Tryz.underlying283 sz5 rfl rfl) rfl<|vo (fun _=>OpV.ldI kt5 rfl) rfl<|Vq.v (fun G T hG=>cx Tryz.call202 rfl (o47 bB _)<|Vq.end rfl)<|vn<|p1 14 rfl rfl<|b_ rfl<|pn<|p1 15 rfl rfl<|f1<|oX .box .id rA Tryz.underlying283 sz5k rfl<|pn<|p1 16 rfl rfl<|sP (x':=List.set uA (Int.toNat vA) (xorI .u8 xB hB)) .box (.ix .id rA) sz5k rfl rfl rdI rfl<|pn<|pd rfl<|bN<|tn<|rg<|b_ rfl<|m_ rfl<|nl<|f1<|nx () xA rfl rfl
    ·refine xt<|te ?_
     cases ai xA tA
     exact te<|bh<|bN<|tn<|wr (nA _ (osi eA).symm) rfl
  ·refine f1<|fz (t:=5) rfl<|xt<|te ?_
   cases ai zA mA
   exact te<|bh<|tn<|wr (wA _ (osi dA).symm) rfl
noncomputable def gM (a0:List Int):Option (List Int):=
 (jm a0 [2,3,1,1]).bind fun y2=>
 some y2
theorem o57 {a0:List Int} {r0:(List Int)} (hF:gM a0=some r0) (L:List Res):Ok Tryz.prog 209 [SV.val K7 a0] L (SV.val K7 r0) L:=by
 unfold gM at hF
 refine okI 6 Tryz.func209 rfl rfl rfl fun F0=>?_
 refine bs hF fun y2 h3 hF=>sr<|bX (K:=kArr 4 K12) rfl rdV rfl<|al ZT283 rfl fun b1=>ns<|oL kt283 rfl<|ov (OpV.bar (ys:=[2,3,1,1]) BTA283 (BldA.cons rfl rfl rdI (BldA.cons rfl rfl rdI (BldA.cons rfl rfl rdI (BldA.cons rfl rfl rdI (BldA.nil _)))))) rfl<|cx Tryz.call242 rfl (o56 h3 _)<|sP (x':=y2) .box .id sz283k rfl rfl rdV rfl<|nl<|fz (t:=2) rfl<|tn<|rc ?_
 cases osi hF
 exact rs Tryz.results209 (.ce rfl kt283 .nil) rfl rfl
noncomputable def aZ (a0:List Int):Option (List Int):=
 (((Loop.run (S:=(Int×(List Int))) (R:=(List Int)) (fun(xA,yA)=>
   bif decide (xA<16) then
    bif decide ((0:Int)≤xA∧(xA:Int)≤(IntKind.wrap .i64 (xA+4))∧(IntKind.wrap .i64 (xA+4):Int)≤16) then
    bif decide (0<4∧(Int.toNat xA)+4≤(Int.toNat (IntKind.wrap .i64 (xA+4)))∧(Int.toNat (IntKind.wrap .i64 (xA+4)))≤16) then
    (gM (List.take 4 (List.drop (Int.toNat xA) yA))).bind fun zA=>
    bif decide ((0:Int)≤xA∧(xA:Int)≤16∧(16:Int)≤16) then
    bif decide ((Int.toNat xA)≤(Int.toNat 16)∧(Int.toNat 16)≤16) then
    some (.next (IntKind.wrap .i64 (xA+4),over yA (Int.toNat xA) (Int.toNat 16) zA))
    else none
    else none
    else none
    else none
   else
    some (.done yA)) (0,a0)).bind fun hA=>
 some hA
  :Option (List Int))).bind fun bA=>
 some bA
theorem o58 {a0:List Int} {r0:(List Int)} (hF:aZ a0=some r0) (L:List Res):Ok Tryz.prog 208 [SV.val K4 a0,SV.raw (.func (.func 209) #[] #[])] L (SV.val K4 r0) L:=by
 unfold aZ at hF
 refine okI 24 Tryz.func208 rfl rfl rfl fun F0=>?_
 refine bs hF fun zA kA hF=>sr<|Under.bx (K:=kArr 16 K12) rfl rdV rfl fun b1=>al ZT240 rfl fun b2=>nt<|sq<|afr (r:=zA) (fun zA=>[(2,.ptr K4 zA),(4,pb b2)]) (fun zA=>((.box K4 b2 240 (List.replicate 16 (0:Int)))::L)) ?_ fun K qA=>?_
 ·refine sr<|oL kt240 rfl<|sP (x':=zA) .box .id sz240k rfl rfl rdV rfl<|nl<|fz (t:=4) rfl<|tn<|rc ?_
  cases osi hF
  exact rs Tryz.results208 (.ce rfl kt240 .nil) rfl rfl
 ·refine bs kA fun nA rA kA=>sr<|a_ rfl<|nt<|bk<|f1<|lp rA () (fun hA eA=>[(1,.raw (.func (.func 209) #[] #[])),(2,pb b1),(4,pb b2),(5,.raw (.int .i64 hA.1))]) (fun hA eA=>(.box K4 b1 240 hA.2)::(.box K4 b2 240 (List.replicate 16 (0:Int)))::L) rfl rfl fun hA eA pA xA wA=>?_
  obtain⟨yA,gA⟩:=hA
  dsimp only at xA⊢
  refine sq<|sr<|mb rfl<|nt<|it xA rfl (fun xA=>?_) (fun xA=>?_)
  ·refine gs xA fun bA xA=>ct<|sq<|bk<|sr<|m_ rfl<|m_ rfl<|mb rfl ?_
   replace bA:(0:Int)≤yA∧(yA:Int)≤(IntKind.wrap .i64 (yA+4))∧(IntKind.wrap .i64 (yA+4):Int)≤16:=of_decide_eq_true bA
   refine gs xA fun dA xA=>bs xA fun cA mA xA=>gs xA fun vA xA=>ov (OpV.slP (l:=yA) (h:=IntKind.wrap .i64 (yA+4)) Tryz.underlying240 sz5k rfl rfl rfl (And.left bA) (And.left (And.right bA)) (And.right (And.right bA))) rfl<|ov (OpV.s2aP dA Tryz.underlying283 rfl) rfl<|lP .box (.sub .id (And.left (And.right (of_decide_eq_true dA))|>fun a=>Nat.le_trans a (And.right (And.right (of_decide_eq_true dA))))) kt283k rfl rfl<|cx Tryz.call209 rfl (o57 mA _)<|al ZT283 rfl fun tA=>sP (x':=cA) .box .id sz283k rfl rfl rdV rfl<|nl<|fz (t:=6) rfl<|tn ?_
   replace vA:(0:Int)≤yA∧(yA:Int)≤16∧(16:Int)≤16:=of_decide_eq_true vA
   obtain⟨oA,xA⟩:=gsome xA
   replace oA:(Int.toNat yA)≤(Int.toNat 16)∧(Int.toNat 16)≤16:=of_decide_eq_true oA
   exact ph rfl<|gV [0,1,2] [[5],[2,19],[6]] 2 (by kernel_rfl) rfl<|vm_ rfl<|Vq.v (fun G T hG=>ov (OpV.slP (l:=yA) (h:=16) Tryz.underlying240 sz5k rfl rfl rfl (And.left vA) (And.left (And.right vA)) (And.right (And.right vA))) rfl<|Vq.end rfl)<|vo (fun _=>OpV.slA Tryz.underlying283 sz5 rfl) rfl<|vn<|p1 3 rfl rfl<|Under.cpB (x':=over gA (Int.toNat yA) (Int.toNat 16) cA) .box .id (And.left oA) (And.right oA) (pP (And.right oA)) Tryz.underlying22 sz5k rfl rfl (.sl rdV) rfl rfl<|pn<|pd rfl<|bN<|tn<|rg<|mb rfl<|a_ rfl<|nl<|nx () xA rfl rfl
  ·refine fz (t:=2) rfl<|xt<|te ?_
   cases ai xA wA
   exact te<|bh<|tn<|wr (qA _ (osi kA).symm) rfl
noncomputable def bd (a0:aN) (a1:List Int) (a2:List Int):Option (List Int):=
 (idx a0.keys 0).bind fun x2=>
 (cL a1 x2).bind fun y4=>
 (((Loop.run (S:=(Int×(List Int))) (R:=(List Int)) (fun(xA,yA)=>
   bif decide (xA≤10) then
    (cp yA a2).bind fun hA=>
    (dj hA 1).bind fun zA=>
    ((bif decide (xA<10) then
     (aZ zA).bind fun bA=>
     some bA
    else
     some zA
     :Option (List Int))).bind fun vA=>
    (idx a0.keys xA).bind fun oA=>
    (cL vA oA).bind fun kA=>
    some (.next (IntKind.wrap .i64 (xA+1),kA))
   else
    some (.done yA)) (1,y4)).bind fun dA=>
 some dA
  :Option (List Int))).bind fun eA=>
 some eA
theorem o59 {a0:aN} {a1 a2:List Int} {r0:(List Int)} (hF:bd a0 a1 a2=some r0) (L:List Res):Ok Tryz.prog 165 [SV.val aC a0,SV.val K4 a1,SV.fn 164 [.ptr (kArr 256 K12) a2]] L (SV.val K4 r0) L:=by
 unfold bd at hF
 refine okI 33 Tryz.func165 rfl rfl rfl fun F0=>?_
 refine bs hF fun x2 h3 hF=>bs hF fun y4 h5 hF=>bs hF fun zA vA hF=>sr<|bX (K:=aC) rfl rdV rfl<|bX (K:=kArr 16 K12) rfl rdV rfl<|al ZT64 rfl fun b1=>ns<|oL kt64 rfl<|oF fb243k rfl<|ov (OpV.ixA h3 Tryz.underlying241 sz240 rfl rfl) rfl<|oL kt240 rfl<|cx Tryz.call205 rfl (o52 h5 _)<|al ZT240 rfl fun b6=>sP (x':=y4) .box .id sz240k rfl rfl rdV rfl<|nt<|sq<|afr (r:=zA) (fun zA=>[(6,pb b1),(7,.ptr K4 zA)]) (fun zA=>((.box K4 b1 64 (List.replicate 16 (0:Int)))::L)) ?_ fun K dA=>?_
 ·refine sr<|oL kt240 rfl<|sP (x':=zA) .box .id sz64k rfl rfl rdV rfl<|nl<|fz (t:=6) rfl<|tn<|rc ?_
  cases osi hF
  exact rs Tryz.results165 (.ce rfl kt64 .nil) rfl rfl
 ·refine bs vA fun xB eA vA=>sr<|a_ rfl<|nt<|bk<|f1<|lp eA () (fun hA oA=>[(2,.fn 164 [.ptr (kArr 256 K12) a2]),(3,.ptr aC a0),(6,pb b1),(7,pb b6),(8,.raw (.int .i64 hA.1))]) (fun hA oA=>(.box K4 b1 64 (List.replicate 16 (0:Int)))::(.box K4 b6 240 hA.2)::L) rfl rfl fun hA oA yB xA cA=>?_
  obtain⟨qA,zB⟩:=hA
  dsimp only at xA⊢
  refine sq<|sr<|mb rfl<|nt<|it xA rfl (fun xA=>?_) (fun xA=>?_)
  ·refine bs xA fun hB rA xA=>bs xA fun wA gA xA=>bs xA fun bA yA xA=>ct<|sq<|bk<|sr<|f1<|lP .box .id kt240k rfl rfl<|m_ rfl<|cx Tryz.call206 rfl (o54 rA _)<|cx Tryz.call207 rfl (o55 gA _)<|sP (x':=wA) .box .id sz240k rfl rfl rdV rfl<|nt<|sq<|afr (r:=bA) (fun bA=>[(2,.fn 164 [.ptr (kArr 256 K12) a2]),(3,.ptr aC a0),(6,pb b1),(7,pb b6),(8,.raw (.int .i64 qA))]) (fun bA=>((.box K4 b1 64 (List.replicate 16 (0:Int)))::(.box K4 b6 240 bA)::L)) ?_ fun K kA=>?_
   ·exact bs xA fun bB mA xA=>bs xA fun nA pA xA=>ph rfl<|gV [0,1,2,3,4] [[7],[8],[3],[27,28],[29]] 2 (by kernel_rfl) rfl<|Vq.v (fun G T hG=>f1<|lP .box .id kt240k rfl rfl<|f1<|Vq.end rfl)<|vm_ rfl<|vo (fun _=>OpV.fd fb243k rfl rfl) rfl<|vo (fun _=>OpV.ixA mA Tryz.underlying241 sz240 rfl rfl) rfl<|vo (fun _=>OpV.ld kt240 rfl) rfl<|vn<|p1 5 rfl rfl<|cx Tryz.call205 rfl (o52 pA _)<|pn<|p1 6 rfl rfl<|f1<|sP (x':=nA) .box .id sz240k rfl rfl rdV rfl<|pn<|pd rfl<|bN<|tn<|rg<|mb rfl<|a_ rfl<|nl<|f1<|nx () xA rfl rfl
   ·refine sr<|mb rfl<|nt<|it yA rfl (fun yA=>?_) (fun yA=>?_)
    ·exact bs yA fun tA uA yA=>rg<|lP .box .id kt240k rfl rfl<|cx Tryz.call208 rfl (o58 uA _)<|sP (x':=tA) .box .id sz240k rfl rfl rdV rfl<|nt<|f1<|wr (kA _ (osi yA).symm) rfl
    ·exact ct<|f1<|wr (kA _ (osi yA).symm) rfl
  ·refine f1<|fz (t:=7) rfl<|xt<|te ?_
   cases ai xA cA
   exact te<|bh<|tn<|wr (dA _ (osi vA).symm) rfl
noncomputable def f8 (a0:List Int):Option (List Int):=
 (((Loop.run (S:=(Int×(List Int))) (R:=(List Int)) (fun(xA,yA)=>
   bif decide (xA≥0) then
    (idx yA xA).bind fun zA=>
    (idx yA xA).bind fun oA=>
    (idx (List.set yA (Int.toNat xA) (IntKind.wrap .u8 (zA+1))) xA).bind fun hA=>
    bif hA != 0 then
     some (.done (List.set yA (Int.toNat xA) (IntKind.wrap .u8 (zA+1))))
    else
     some (.next (IntKind.wrap .i64 (xA - 1),List.set yA (Int.toNat xA) (IntKind.wrap .u8 (zA+1))))
   else
    some (.done yA)) (15,a0)).bind fun bA=>
 some bA
  :Option (List Int))).bind fun vA=>
 some vA
theorem o60 {a0:List Int} {r0:(List Int)} (hF:f8 a0=some r0) (L:List Res):Ok Tryz.prog 166 [SV.val K4 a0] L (SV.val K4 r0) L:=by
 unfold f8 at hF
 refine okI 18 Tryz.func166 rfl rfl rfl fun F0=>?_
 refine bs hF fun yA hA hF=>sr<|Under.bx (K:=kArr 16 K12) rfl rdV rfl fun b1=>al ZT64 rfl fun b2=>nt<|sq<|afr (r:=yA) (fun yA=>[(1,.ptr K4 yA),(2,pb b2)]) (fun yA=>((.box K4 b2 64 (List.replicate 16 (0:Int)))::L)) ?_ fun K bA=>?_
 ·refine sr<|oL kt64 rfl<|sP (x':=yA) .box .id sz64k rfl rfl rdV rfl<|nl<|fz (t:=2) rfl<|tn<|rc ?_
  cases osi hF
  exact rs Tryz.results166 (.ce rfl kt64 .nil) rfl rfl
 ·refine bs hA fun gA cA hA=>sr<|a_ rfl<|nt<|bk<|f1<|lp cA () (fun zA vA=>[(1,pb b1),(2,pb b2),(3,.raw (.int .i64 zA.1))]) (fun zA vA=>(.box K4 b1 64 zA.2)::(.box K4 b2 64 (List.replicate 16 (0:Int)))::L) rfl rfl fun zA vA mA xA oA=>?_
  obtain⟨qA,rA⟩:=zA
  dsimp only at xA⊢
  refine sq<|sr<|mb rfl<|nt<|it xA rfl (fun xA=>?_) (fun xA=>?_)
  ·refine bs xA fun wA kA xA=>bs xA fun nA dA xA=>bs xA fun pA eA xA=>ct<|sq<|bk<|sr<|m_ rfl<|oX .box .id kA Tryz.underlying64 sz5k rfl<|lP .box (.ix .id kA) kt5k rfl rfl<|rI (t:=10) rfl<|b_ rfl<|oX .box .id dA Tryz.underlying64 sz5k rfl<|sP (x':=List.set rA (Int.toNat qA) (IntKind.wrap .u8 (wA+1))) .box (.ix .id dA) sz5k rfl rfl rdI rfl<|ns<|m_ rfl<|oX .box .id eA Tryz.underlying64 sz5k rfl<|lP .box (.ix .id eA) kt5k rfl rfl<|rI (t:=15) rfl<|b_ rfl<|nt<|it xA rfl (fun xA=>?_) (fun xA=>?_)
   ·refine fz (t:=1) rfl<|xt<|bm rfl<|te ?_
    cases ai xA oA
    exact te<|bh<|tn<|wr (bA _ (osi hA).symm) rfl
   ·exact cs<|bN<|tn<|rg<|mb rfl<|a_ rfl<|nl<|nx () xA rfl rfl
  ·refine fz (t:=1) rfl<|xt<|te ?_
   cases ai xA oA
   exact te<|bh<|tn<|wr (bA _ (osi hA).symm) rfl
noncomputable def cM (a0:List Int):Option (List Int):=
 (((Loop.run (S:=(Int×(List Int))) (R:=(List Int)) (fun(xA,yA)=>
   bif decide (xA<16) then
    (idx yA xA).bind fun zA=>
    (cq zA).bind fun hA=>
    (idx yA xA).bind fun oA=>
    some (.next (IntKind.wrap .i64 (xA+1),List.set yA (Int.toNat xA) hA))
   else
    some (.done yA)) (0,a0)).bind fun bA=>
 some bA
  :Option (List Int))).bind fun vA=>
 some vA
theorem o61 {a0:List Int} {r0:(List Int)} (hF:cM a0=some r0) (L:List Res):Ok Tryz.prog 206 [SV.val K4 a0,SV.raw (.func (.func 163) #[] #[])] L (SV.val K4 r0) L:=by
 unfold cM at hF
 refine okI 18 Tryz.func206 rfl rfl rfl fun F0=>?_
 refine bs hF fun yA hA hF=>sr<|Under.bx (K:=kArr 16 K12) rfl rdV rfl fun b1=>al ZT240 rfl fun b2=>nt<|sq<|afr (r:=yA) (fun yA=>[(2,.ptr K4 yA),(4,pb b2)]) (fun yA=>((.box K4 b2 240 (List.replicate 16 (0:Int)))::L)) ?_ fun K kA=>?_
 ·refine sr<|oL kt240 rfl<|sP (x':=yA) .box .id sz240k rfl rfl rdV rfl<|nl<|fz (t:=4) rfl<|tn<|rc ?_
  cases osi hF
  exact rs Tryz.results206 (.ce rfl kt240 .nil) rfl rfl
 ·refine bs hA fun gA dA hA=>sr<|m_ rfl<|nt<|bk<|f1<|lp dA () (fun zA bA=>[(1,.raw (.func (.func 163) #[] #[])),(2,pb b1),(4,pb b2),(6,.raw (.int .i64 zA.1))]) (fun zA bA=>(.box K4 b1 240 zA.2)::(.box K4 b2 240 (List.replicate 16 (0:Int)))::L) rfl rfl fun zA bA mA xA eA=>?_
  obtain⟨cA,qA⟩:=zA
  dsimp only at xA⊢
  refine sr<|b_ rfl<|nt<|sq<|it xA rfl (fun xA=>?_) (fun xA=>?_)
  ·exact bs xA fun nA vA xA=>bs xA fun rA wA xA=>bs xA fun pA oA xA=>ct<|sq<|bk<|sr<|m_ rfl<|a_ rfl<|nt<|rg<|m_ rfl<|m_ rfl<|m_ rfl<|oX .box .id vA Tryz.underlying240 sz5k rfl<|lP .box (.ix .id vA) kt5k rfl rfl<|rI (t:=13) rfl<|cx Tryz.call163 rfl (o50 wA _)<|oX .box .id oA Tryz.underlying240 sz5k rfl<|sP (x':=List.set qA (Int.toNat cA) rA) .box (.ix .id oA) sz5k rfl rfl rdI rfl<|nl<|bN<|tn<|rg<|b_ rfl<|m_ rfl<|nl<|nx () xA rfl rfl
  ·refine fz (t:=2) rfl<|xt<|te ?_
   cases ai xA eA
   exact te<|bh<|tn<|wr (kA _ (osi hA).symm) rfl
noncomputable def br (a0:aN) (a1:List Int):Option (List Int):=
 (idx a0.keys 0).bind fun x2=>
 (cL a1 x2).bind fun y4=>
 (((Loop.run (S:=(Int×(List Int))) (R:=(List Int)) (fun(xA,yA)=>
   bif decide (xA≤10) then
    (cM yA).bind fun hA=>
    (dj hA 1).bind fun zA=>
    ((bif decide (xA<10) then
     (aZ zA).bind fun bA=>
     some bA
    else
     some zA
     :Option (List Int))).bind fun vA=>
    (idx a0.keys xA).bind fun oA=>
    (cL vA oA).bind fun kA=>
    some (.next (IntKind.wrap .i64 (xA+1),kA))
   else
    some (.done yA)) (1,y4)).bind fun dA=>
 some dA
  :Option (List Int))).bind fun eA=>
 some eA
theorem o62 {a0:aN} {a1:List Int} {r0:(List Int)} (hF:br a0 a1=some r0) (L:List Res):Ok Tryz.prog 165 [SV.val aC a0,SV.val K4 a1,SV.raw (.func (.func 163) #[] #[])] L (SV.val K4 r0) L:=by
 unfold br at hF
 refine okI 33 Tryz.func165 rfl rfl rfl fun F0=>?_
 refine bs hF fun x2 h3 hF=>bs hF fun y4 h5 hF=>bs hF fun zA vA hF=>sr<|bX (K:=aC) rfl rdV rfl<|bX (K:=kArr 16 K12) rfl rdV rfl<|al ZT64 rfl fun b1=>ns<|oL kt64 rfl<|oF fb243k rfl<|ov (OpV.ixA h3 Tryz.underlying241 sz240 rfl rfl) rfl<|oL kt240 rfl<|cx Tryz.call205 rfl (o52 h5 _)<|al ZT240 rfl fun b6=>sP (x':=y4) .box .id sz240k rfl rfl rdV rfl<|nt<|sq<|afr (r:=zA) (fun zA=>[(6,pb b1),(7,.ptr K4 zA)]) (fun zA=>((.box K4 b1 64 (List.replicate 16 (0:Int)))::L)) ?_ fun K dA=>?_
 ·refine sr<|oL kt240 rfl<|sP (x':=zA) .box .id sz64k rfl rfl rdV rfl<|nl<|fz (t:=6) rfl<|tn<|rc ?_
  cases osi hF
  exact rs Tryz.results165 (.ce rfl kt64 .nil) rfl rfl
 ·refine bs vA fun xB eA vA=>sr<|a_ rfl<|nt<|bk<|f1<|lp eA () (fun hA oA=>[(2,.raw (.func (.func 163) #[] #[])),(3,.ptr aC a0),(6,pb b1),(7,pb b6),(8,.raw (.int .i64 hA.1))]) (fun hA oA=>(.box K4 b1 64 (List.replicate 16 (0:Int)))::(.box K4 b6 240 hA.2)::L) rfl rfl fun hA oA yB xA cA=>?_
  obtain⟨qA,zB⟩:=hA
  dsimp only at xA⊢
  refine sq<|sr<|mb rfl<|nt<|it xA rfl (fun xA=>?_) (fun xA=>?_)
  ·refine bs xA fun hB rA xA=>bs xA fun wA gA xA=>bs xA fun bA yA xA=>ct<|sq<|bk<|sr<|f1<|lP .box .id kt240k rfl rfl<|m_ rfl<|cx Tryz.call206 rfl (o61 rA _)<|cx Tryz.call207 rfl (o55 gA _)<|sP (x':=wA) .box .id sz240k rfl rfl rdV rfl<|nt<|sq<|afr (r:=bA) (fun bA=>[(2,.raw (.func (.func 163) #[] #[])),(3,.ptr aC a0),(6,pb b1),(7,pb b6),(8,.raw (.int .i64 qA))]) (fun bA=>((.box K4 b1 64 (List.replicate 16 (0:Int)))::(.box K4 b6 240 bA)::L)) ?_ fun K kA=>?_
   ·exact bs xA fun bB mA xA=>bs xA fun nA pA xA=>ph rfl<|gV [0,1,2,3,4] [[7],[8],[3],[27,28],[29]] 2 (by kernel_rfl) rfl<|Vq.v (fun G T hG=>f1<|lP .box .id kt240k rfl rfl<|f1<|Vq.end rfl)<|vm_ rfl<|vo (fun _=>OpV.fd fb243k rfl rfl) rfl<|vo (fun _=>OpV.ixA mA Tryz.underlying241 sz240 rfl rfl) rfl<|vo (fun _=>OpV.ld kt240 rfl) rfl<|vn<|p1 5 rfl rfl<|cx Tryz.call205 rfl (o52 pA _)<|pn<|p1 6 rfl rfl<|f1<|sP (x':=nA) .box .id sz240k rfl rfl rdV rfl<|pn<|pd rfl<|bN<|tn<|rg<|mb rfl<|a_ rfl<|nl<|f1<|nx () xA rfl rfl
   ·refine sr<|mb rfl<|nt<|it yA rfl (fun yA=>?_) (fun yA=>?_)
    ·exact bs yA fun tA uA yA=>rg<|lP .box .id kt240k rfl rfl<|cx Tryz.call208 rfl (o58 uA _)<|sP (x':=tA) .box .id sz240k rfl rfl rdV rfl<|nt<|f1<|wr (kA _ (osi yA).symm) rfl
    ·exact ct<|f1<|wr (kA _ (osi yA).symm) rfl
  ·refine f1<|fz (t:=7) rfl<|xt<|te ?_
   cases ai xA cA
   exact te<|bh<|tn<|wr (dA _ (osi vA).symm) rfl
noncomputable def gU (a0:List Int) (a1:List Int) (a2:List Int):Option (List Int):=
 (js a0).bind fun y2=>
 bif mkB (a2.length:Int) (a2.length:Int) then
 bif decide ((a2.length:Int)>32) then
  (((Loop.run (S:=(Int×(List Int))) (R:=(List Int)) (fun(zA,kA)=>
    bif decide (zA<256) then
     (cq (IntKind.wrap .u8 zA)).bind fun rA=>
     (idx kA zA).bind fun nB=>
     some (.next (IntKind.wrap .i64 (zA+1),List.set kA (Int.toNat zA) rA))
    else
     some (.done kA)) (0,(List.replicate 256 (0:Int)))).bind fun wA=>
  some wA
   :Option (List Int))).bind fun uB=>
  (((Loop.run (S:=((List Int)×Int×(List Int))) (R:=(List Int)) (fun(dA,hA,cA)=>
    bif decide (hA<(dA.length:Int)) then
     (((bd y2 cA uB).bind fun gA=>
     (((Loop.run (S:=((List Int)×Int)) (R:=(List Int)) (fun(bA,xA)=>
       bif decide (xA<(min (IntKind.wrap .i64 (hA+16)) (bA.length:Int))) then
        (idx bA xA).bind fun mA=>
        (idx gA (IntKind.wrap .i64 (xA - hA))).bind fun nA=>
        (idx bA xA).bind fun pB=>
        some (.next (List.set bA (Int.toNat xA) (xorI .u8 mA nA),IntKind.wrap .i64 (xA+1)))
       else
        some (.done bA)) (dA,hA)).bind fun pA=>
     some pA
      :Option (List Int))).bind fun tA=>
     (f8 cA).bind fun uA=>
     some (tA,uA)
      :Option ((List Int)×(List Int)))).bind fun xB=>match xB with
      |(yB,zB)=>
       some (.next (yB,IntKind.wrap .i64 (hA+16),zB))
    else
     some (.done dA)) (over (List.replicate (Int.toNat (a2.length:Int)) (0:Int)) 0 (List.length (List.replicate (Int.toNat (a2.length:Int)) (0:Int))) a2,0,a1)).bind fun hB=>
  some hB
   :Option (List Int))).bind fun mB=>
  some mB
 else
  (((Loop.run (S:=((List Int)×Int×(List Int))) (R:=(List Int)) (fun(eA,vA,qA)=>
    bif decide (vA<(eA.length:Int)) then
     (((br y2 qA).bind fun bB=>
     (((Loop.run (S:=((List Int)×Int)) (R:=(List Int)) (fun(oA,yA)=>
       bif decide (yA<(min (IntKind.wrap .i64 (vA+16)) (oA.length:Int))) then
        (idx oA yA).bind fun vB=>
        (idx bB (IntKind.wrap .i64 (yA - vA))).bind fun oB=>
        (idx oA yA).bind fun tB=>
        some (.next (List.set oA (Int.toNat yA) (xorI .u8 vB oB),IntKind.wrap .i64 (yA+1)))
       else
        some (.done oA)) (eA,vA)).bind fun kB=>
     some kB
      :Option (List Int))).bind fun dB=>
     (f8 qA).bind fun eB=>
     some (dB,eB)
      :Option ((List Int)×(List Int)))).bind fun cB=>match cB with
      |(qB,rB)=>
       some (.next (qB,IntKind.wrap .i64 (vA+16),rB))
    else
     some (.done eA)) (over (List.replicate (Int.toNat (a2.length:Int)) (0:Int)) 0 (List.length (List.replicate (Int.toNat (a2.length:Int)) (0:Int))) a2,0,a1)).bind fun wB=>
  some wB
   :Option (List Int))).bind fun gB=>
  some gB
 else none
theorem o63 {a0 a1 a2:List Int} {r0:(List Int)} (hF:gU a0 a1 a2=some r0) (L:List Res):Ok Tryz.prog 103 [SV.val K4 a0,SV.val K4 a1,SV.val K9 a2] L (SV.val K9 r0) L:=by
 unfold gU at hF
 refine okI 70 Tryz.func103 rfl rfl rfl fun F0=>?_
 refine bs hF fun y2 h3 hF=>gs hF fun h6 hF=>sr<|bX (K:=kArr 16 K12) rfl rdV rfl<|Under.bx (K:=kArr 16 K12) rfl rdV rfl fun b1=>a_ rfl<|ns<|oL kt64 rfl<|cx Tryz.call162 rfl (o51 h3 _)<|al ZT243 rfl fun b4=>sP (x':=y2) .box .id sz243k rfl rfl rdV rfl<|nl<|fz (t:=7) rfl<|tn<|sr<|m_ rfl<|oN Tryz.underlying22 rfl<|Under.mk h6 Tryz.underlying22 AT5 rfl rfl rfl fun v5=>a_ rfl<|ns<|m_ rfl<|m_ rfl<|Under.cpW Tryz.underlying22 sz5k rfl rfl (.sl rdV) rfl<|ns<|a_ rfl<|nt<|sq<|sr<|m_ rfl<|oN Tryz.underlying22 rfl<|b_ rfl<|nt<|it hF rfl (fun hF=>?_) (fun hF=>?_)
 ·refine bs hF fun qB yE hF=>sr<|al ZT246 rfl fun b8=>nt<|sq<|afr (r:=qB) (fun qB=>[(4,pb b1),(7,.ptr aC y2),(8,.raw v5),(10,.ptr (kArr 256 K12) qB)]) (fun qB=>((.own K12 v5 5 (over (List.replicate (Int.toNat (a2.length:Int)) (0:Int)) 0 (List.length (List.replicate (Int.toNat (a2.length:Int)) (0:Int))) a2))::(.box K4 b1 64 a1)::L)) ?_ fun K xG=>?_
  ·refine bs hF fun cB zC hF=>rg<|ov (OpV.mkf rfl) rfl<|a_ rfl<|nt<|sq<|afr (r:=cB) (fun cB=>[(8,.val K9 cB)]) (fun cB=>(L)) ?_ fun K zE=>?_
   ·refine sr<|m_ rfl<|a_ rfl<|nt<|rc ?_
    cases osi hF
    exact rs Tryz.results103 (.tm rfl .nil) rfl rfl
   ·refine bs zC fun hE hC zC=>sr<|a_ rfl<|nt<|bk<|lp hC () (fun kA rB=>[(4,pb b1),(7,.ptr aC y2),(8,.raw v5),(9,.fn 164 [.ptr (kArr 256 K12) qB]),(12,.raw (.int .i64 kA.2.1))]) (fun kA rB=>(.own K12 v5 5 kA.1)::(.box K4 b1 64 kA.2.2)::L) rfl rfl fun kA rB bE hA bC=>?_
    obtain⟨vE,mA,wB⟩:=kA
    dsimp only at hA⊢
    refine sq<|sr<|m_ rfl<|m_ rfl<|ov (OpV.lenO Tryz.underlying22 rfl) rfl<|b_ rfl<|nt<|it hA rfl (fun hA=>?_) (fun hA=>?_)
    ·refine bs hA fun vC vA hA=>ct<|sq<|Under.after (fun X=>∀(nA:List Int) (pA:List Int),vC=(nA,pA)→Under F0 70 [(4,pb b1),(7,.ptr aC y2),(8,.raw v5),(9,.fn 164 [.ptr (kArr 256 K12) qB]),(12,.raw (.int .i64 mA))] ((.own K12 v5 5 nA)::(.box K4 b1 64 pA)::L) X) ?_ ?_
     ·intro nA pA tA
      replace tA:=tA.symm
      subst tA
      exact rg<|mb rfl<|a_ rfl<|nl<|nx () hA rfl rfl
     ·intro K kC
      refine bs vA fun gB dC vA=>bs vA fun rA uA vA=>bk<|sr<|oL kt243 rfl<|f1<|lP .box .id kt64k rfl rfl<|m_ rfl<|cx Tryz.call165 rfl (o59 dC _)<|al ZT64 rfl fun oE=>sP (x':=gB) .box .id sz64k rfl rfl rdV rfl<|nl<|fz (t:=13) rfl<|tn<|sq<|afr (r:=rA) (fun rA=>[(4,pb b1),(7,.ptr aC y2),(8,.raw v5),(9,.fn 164 [.ptr (kArr 256 K12) qB]),(12,.raw (.int .i64 mA))]) (fun rA=>((.own K12 v5 5 rA)::(.box K4 b1 64 wB)::L)) ?_ fun K eC=>?_
      ·exact bs vA fun cC qC vA=>rg<|f1<|lP .box .id kt64k rfl rfl<|cx Tryz.call166 rfl (o60 qC _)<|sP (x':=cC) .box .id sz64k rfl rfl rdV rfl<|nl<|bN<|tn<|f1<|wr (kC _ _ (osi vA).symm) rfl
      ·refine bs uA fun kE rC uA=>sr<|m_ rfl<|a_ rfl<|nt<|bk<|f1<|lp rC () (fun eA mB=>[(4,pb b1),(7,.ptr aC y2),(8,.raw v5),(9,.fn 164 [.ptr (kArr 256 K12) qB]),(12,.raw (.int .i64 mA)),(13,.ptr K4 gB),(14,.raw (.int .i64 eA.2))]) (fun eA mB=>(.own K12 v5 5 eA.1)::(.box K4 b1 64 wB)::L) rfl rfl fun eA mB dE xA wC=>?_
       obtain⟨gC,mC⟩:=eA
       dsimp only at xA⊢
       refine sq<|sr<|m_ rfl<|mb rfl<|m_ rfl<|ov (OpV.lenO Tryz.underlying22 rfl) rfl<|ov (OpV.min2 rfl rfl) rfl<|b_ rfl<|nt<|it xA rfl (fun xA=>?_) (fun xA=>?_)
       ·exact bs xA fun nC xB xA=>bs xA fun pC tC xA=>bs xA fun eE yB xA=>ct<|sq<|bk<|ph rfl<|gV [0,1,2,3,4,5,6,7,8] [[8],[14],[56,57],[58],[14],[12],[60,61],[13,62],[63]] 2 (by kernel_rfl) rfl<|vm_ rfl<|vm_ rfl<|Vq.v (fun G T hG=>ov (OpV.ixO xB Tryz.underlying22 sz5k rfl rfl) rfl<|Vq.end rfl)<|Vq.v (fun G T hG=>lP (.own xB) (.ix .id xB) kt5k rfl rfl<|rI (t:=59) rfl<|Vq.end rfl)<|vm_ rfl<|vm_ rfl<|vb_ rfl<|vo (fun _=>OpV.ixA tC Tryz.underlying64 sz5 rfl rfl) rfl<|vo (fun _=>OpV.ldI kt5 rfl) rfl<|vn<|p1 9 rfl rfl<|b_ rfl<|pn<|p1 10 rfl rfl<|ov (OpV.ixO yB Tryz.underlying22 sz5k rfl rfl) rfl<|pn<|p1 11 rfl rfl<|sP (x':=List.set gC (Int.toNat mC) (xorI .u8 nC pC)) (.own yB) (.ix .id yB) sz5k rfl rfl rdI rfl<|pn<|pd rfl<|bN<|tn<|rg<|mb rfl<|a_ rfl<|nl<|nx () xA rfl rfl
       ·refine xt<|te ?_
        cases ai xA wC
        exact te<|bh<|tn<|wr (eC _ (osi uA).symm) rfl
    ·refine f1<|dr<|fzO (t:=8) rfl<|xt<|te ?_
     cases ai hA bC
     exact te<|bh<|tn<|wr (zE _ (osi zC).symm) rfl
  ·refine bs yE fun cE uC yE=>sr<|m_ rfl<|nt<|bk<|f2<|f2<|lp uC () (fun cA nB=>[(4,pb b1),(7,.ptr aC y2),(8,.raw v5),(10,pb b8),(26,.raw (.int .i64 cA.1))]) (fun cA nB=>(.own K12 v5 5 (over (List.replicate (Int.toNat (a2.length:Int)) (0:Int)) 0 (List.length (List.replicate (Int.toNat (a2.length:Int)) (0:Int))) a2))::(.box K4 b1 64 a1)::(.box (kArr 256 K12) b8 246 cA.2)::L) rfl rfl fun cA nB qE zA xD=>?_
   obtain⟨yD,zD⟩:=cA
   dsimp only at zA⊢
   refine sr<|b_ rfl<|nt<|sq<|it zA rfl (fun zA=>?_) (fun zA=>?_)
   ·exact bs zA fun hD bD zA=>bs zA fun rE pB zA=>ct<|sq<|bk<|sr<|m_ rfl<|a_ rfl<|nt<|rg<|m_ rfl<|m_ rfl<|oC (by kernel_rfl) Tryz.underlying5 rfl<|cx Tryz.call163 rfl (o50 bD _)<|f2<|oX .box .id pB Tryz.underlying246 sz5k rfl<|sP (x':=List.set zD (Int.toNat yD) hD) .box (.ix .id pB) sz5k rfl rfl rdI rfl<|nl<|bN<|tn<|rg<|b_ rfl<|m_ rfl<|nl<|f2<|f2<|nx () zA rfl rfl
   ·refine f2<|fz (t:=10) rfl<|xt<|te ?_
    cases ai zA xD
    exact te<|bh<|tn<|wr (xG _ (osi yE).symm) rfl
 ·refine bs hF fun wA zB hF=>ct<|sq<|afr (r:=wA) (fun wA=>[(8,.val K9 wA)]) (fun wA=>(L)) ?_ fun K vD=>?_
  ·refine sr<|m_ rfl<|a_ rfl<|nt<|rc ?_
   cases osi hF
   exact rs Tryz.results103 (.tm rfl .nil) rfl rfl
  ·refine bs zB fun wE oD zB=>sr<|a_ rfl<|nt<|bk<|lp oD () (fun dA tB=>[(4,pb b1),(7,.ptr aC y2),(8,.raw v5),(9,.raw (.func (.func 163) #[] #[])),(12,.raw (.int .i64 dA.2.1))]) (fun dA tB=>(.own K12 v5 5 dA.1)::(.box K4 b1 64 dA.2.2)::L) rfl rfl fun dA tB gE bA kD=>?_
   obtain⟨mE,hB,uB⟩:=dA
   dsimp only at bA⊢
   refine sq<|sr<|m_ rfl<|m_ rfl<|ov (OpV.lenO Tryz.underlying22 rfl) rfl<|b_ rfl<|nt<|it bA rfl (fun bA=>?_) (fun bA=>?_)
   ·refine bs bA fun dD oA bA=>ct<|sq<|Under.after (fun X=>∀(bB:List Int) (vB:List Int),dD=(bB,vB)→Under F0 70 [(4,pb b1),(7,.ptr aC y2),(8,.raw v5),(9,.raw (.func (.func 163) #[] #[])),(12,.raw (.int .i64 hB))] ((.own K12 v5 5 bB)::(.box K4 b1 64 vB)::L) X) ?_ ?_
    ·intro bB vB oB
     replace oB:=oB.symm
     subst oB
     exact rg<|mb rfl<|a_ rfl<|nl<|nx () bA rfl rfl
    ·intro K eD
     refine bs oA fun xC cD oA=>bs oA fun gA kB oA=>bk<|sr<|oL kt243 rfl<|f1<|lP .box .id kt64k rfl rfl<|m_ rfl<|cx Tryz.call165 rfl (o62 cD _)<|al ZT64 rfl fun nE=>sP (x':=xC) .box .id sz64k rfl rfl rdV rfl<|nl<|fz (t:=13) rfl<|tn<|sq<|afr (r:=gA) (fun gA=>[(4,pb b1),(7,.ptr aC y2),(8,.raw v5),(9,.raw (.func (.func 163) #[] #[])),(12,.raw (.int .i64 hB))]) (fun gA=>((.own K12 v5 5 gA)::(.box K4 b1 64 uB)::L)) ?_ fun K qD=>?_
     ·exact bs oA fun rD wD oA=>rg<|f1<|lP .box .id kt64k rfl rfl<|cx Tryz.call166 rfl (o60 wD _)<|sP (x':=rD) .box .id sz64k rfl rfl rdV rfl<|nl<|bN<|tn<|f1<|wr (eD _ _ (osi oA).symm) rfl
     ·refine bs kB fun pE gD kB=>sr<|m_ rfl<|a_ rfl<|nt<|bk<|f1<|lp gD () (fun qA yC=>[(4,pb b1),(7,.ptr aC y2),(8,.raw v5),(9,.raw (.func (.func 163) #[] #[])),(12,.raw (.int .i64 hB)),(13,.ptr K4 xC),(14,.raw (.int .i64 qA.2))]) (fun qA yC=>(.own K12 v5 5 qA.1)::(.box K4 b1 64 uB)::L) rfl rfl fun qA yC tE yA mD=>?_
      obtain⟨nD,pD⟩:=qA
      dsimp only at yA⊢
      refine sq<|sr<|m_ rfl<|mb rfl<|m_ rfl<|ov (OpV.lenO Tryz.underlying22 rfl) rfl<|ov (OpV.min2 rfl rfl) rfl<|b_ rfl<|nt<|it yA rfl (fun yA=>?_) (fun yA=>?_)
      ·exact bs yA fun tD dB yA=>bs yA fun uD xE yA=>bs yA fun uE eB yA=>ct<|sq<|bk<|ph rfl<|gV [0,1,2,3,4,5,6,7,8] [[8],[14],[56,57],[58],[14],[12],[60,61],[13,62],[63]] 2 (by kernel_rfl) rfl<|vm_ rfl<|vm_ rfl<|Vq.v (fun G T hG=>ov (OpV.ixO dB Tryz.underlying22 sz5k rfl rfl) rfl<|Vq.end rfl)<|Vq.v (fun G T hG=>lP (.own dB) (.ix .id dB) kt5k rfl rfl<|rI (t:=59) rfl<|Vq.end rfl)<|vm_ rfl<|vm_ rfl<|vb_ rfl<|vo (fun _=>OpV.ixA xE Tryz.underlying64 sz5 rfl rfl) rfl<|vo (fun _=>OpV.ldI kt5 rfl) rfl<|vn<|p1 9 rfl rfl<|b_ rfl<|pn<|p1 10 rfl rfl<|ov (OpV.ixO eB Tryz.underlying22 sz5k rfl rfl) rfl<|pn<|p1 11 rfl rfl<|sP (x':=List.set nD (Int.toNat pD) (xorI .u8 tD uD)) (.own eB) (.ix .id eB) sz5k rfl rfl rdI rfl<|pn<|pd rfl<|bN<|tn<|rg<|mb rfl<|a_ rfl<|nl<|nx () yA rfl rfl
      ·refine xt<|te ?_
       cases ai yA mD
       exact te<|bh<|tn<|wr (qD _ (osi kB).symm) rfl
   ·refine f1<|dr<|fzO (t:=8) rfl<|xt<|te ?_
    cases ai bA kD
    exact te<|bh<|tn<|wr (vD _ (osi zB).symm) rfl
noncomputable def iM (a0:List Int) (a1:List Int) (a2:Int):Option (List Int):=
 bif (decide (a2<0))||(decide (a2>65536)) then
  some []
 else
  bif mkB a2 a2 then
  (gU a0 a1 (List.replicate (Int.toNat a2) (0:Int))).bind fun y9=>
  some y9
  else none
theorem o64 {a0 a1:List Int} {a2:Int} {r0:(List Int)} (hF:iM a0 a1 a2=some r0) (L:List Res):Ok Tryz.prog 81 [SV.val K4 a0,SV.val K4 a1,SV.raw (.int .i64 a2)] L (SV.val K9 r0) L:=by
 unfold iM at hF
 refine okI 18 Tryz.func81 rfl rfl rfl fun F0=>?_
 refine sr<|bX (K:=kArr 16 K12) rfl rdV rfl<|bX (K:=kArr 16 K12) rfl rdV rfl<|a_ rfl<|nt<|sq<|sr<|mb rfl<|m_ rfl<|cN 12 ((decide (a2<0))||(decide (a2>65536))) ?_ (fun k=>?_)
 ·refine nt<|it hF rfl (fun hF=>?_) (fun hF=>?_)
  ·refine sr<|a_ rfl<|nt<|rt<|tV (K:=kSl K12) (x:=[]) (t:=6) rfl rdN ?_
   cases osi hF
   exact rs Tryz.results81 (.tm rfl .nil) rfl rfl
  ·refine gs hF fun h7 hF=>bs hF fun y9 xA hF=>ct<|sq<|ph rfl<|Under.grpT (L:=L) [0,1,2,3] [[3],[4],[2],[15]] [⟨sk0 (.val K4 a0),[],[],[]⟩,⟨sk0 (.val K4 a1),[],[],[]⟩,⟨sk0 (.raw (.int .i64 a2)),[],[],[]⟩,⟨sk1 3 (fun u3=> .raw u3),[],[(0,tk1 3 (fun u3=> .own K12 u3 5 (List.replicate (Int.toNat a2) (0:Int))))],[]⟩] [] (fun T:List Res=>T) lf0 rfl (by kernel_rfl) rfl rfl (fun F hF0 yA=>?_)
   refine Tq.v (fun G T hG=>?_) ?_
   ·exact oL kt64 rfl<|Tq.end undef rfl rfl
   refine Tq.v (fun G T hG=>?_) ?_
   ·exact oL kt64 rfl<|Tq.end undef rfl rfl
   refine Tq.v (fun G T hG=>?_) ?_
   ·exact m_ rfl<|Tq.end undef rfl rfl
   refine Tq.st (.raw (yA 3)) [] rfl rfl (fun G T hG=>?_) ?_
   ·exact Under.mk h7 Tryz.underlying22 AT5 rfl rfl rfl fun v6=>Tq.end v6 rfl rfl
   refine Tq.nil<|Under.le hF0<|p1 4 rfl rfl<|fzO (t:=16) rfl<|cx Tryz.call103 rfl (o63 xA _)<|pn<|p1 5 rfl rfl<|a_ rfl<|pn<|pd rfl<|tn<|rc ?_
   cases osi hF
   exact rs Tryz.results81 (.tm rfl .nil) rfl rfl
 ·refine by_ (t:=9) rfl (fun c1=>?_) (fun c1=>?_)
  ·exact sk_ c1 rfl<|sk_ c1 rfl<|pT c1 rfl<|rf 2 (or_t (e:=decide (a2>65536)) c1) rfl k
  ·exact gc_ c1 rfl<|m_ rfl<|gc_ c1 rfl<|b_ rfl<|pF c1 rfl<|rf 2 (or_f c1) rfl k
noncomputable def iC (a0:List Int) (a1:Int) (a2:List Int):Option (List Int):=
 bif mkB 320 320 then
 bif decide ((0:Int)≤a1∧(a1:Int)≤((over (List.replicate (Int.toNat 320) (0:Int)) 0 (List.length (List.replicate (Int.toNat 320) (0:Int))) a2).length:Int)∧(((over (List.replicate (Int.toNat 320) (0:Int)) 0 (List.length (List.replicate (Int.toNat 320) (0:Int))) a2).length:Int):Int)≤((over (List.replicate (Int.toNat 320) (0:Int)) 0 (List.length (List.replicate (Int.toNat 320) (0:Int))) a2).length:Int)) then
 bif decide ((Int.toNat a1)≤(Int.toNat ((over (List.replicate (Int.toNat 320) (0:Int)) 0 (List.length (List.replicate (Int.toNat 320) (0:Int))) a2).length:Int))∧(Int.toNat ((over (List.replicate (Int.toNat 320) (0:Int)) 0 (List.length (List.replicate (Int.toNat 320) (0:Int))) a2).length:Int))≤(List.length (over (List.replicate (Int.toNat 320) (0:Int)) 0 (List.length (List.replicate (Int.toNat 320) (0:Int))) a2))) then
 some (over (over (List.replicate (Int.toNat 320) (0:Int)) 0 (List.length (List.replicate (Int.toNat 320) (0:Int))) a2) (Int.toNat a1) (Int.toNat ((over (List.replicate (Int.toNat 320) (0:Int)) 0 (List.length (List.replicate (Int.toNat 320) (0:Int))) a2).length:Int)) a0)
 else none
 else none
 else none
theorem o65 {a0:List Int} {a1:Int} {a2:List Int} {r0:(List Int)} (hF:iC a0 a1 a2=some r0) (L:List Res):Ok Tryz.prog 135 [SV.val K9 a0,SV.raw (.int .i64 a1),SV.val K9 a2] L (SV.val K9 r0) L:=by
 unfold iC at hF
 refine okI 18 Tryz.func135 rfl rfl rfl fun F0=>?_
 refine gs hF fun h2 hF=>gs hF fun h4 hF=>sr<|a_ rfl<|ns<|Under.mk h2 Tryz.underlying22 AT5 rfl rfl rfl fun v1=>a_ rfl<|ns<|m_ rfl<|m_ rfl<|Under.cpW Tryz.underlying22 sz5k rfl rfl (.sl rdV) rfl<|ns<|m_ rfl<|m_ rfl ?_
 replace h4:(0:Int)≤a1∧(a1:Int)≤((over (List.replicate (Int.toNat 320) (0:Int)) 0 (List.length (List.replicate (Int.toNat 320) (0:Int))) a2).length:Int)∧(((over (List.replicate (Int.toNat 320) (0:Int)) 0 (List.length (List.replicate (Int.toNat 320) (0:Int))) a2).length:Int):Int)≤((over (List.replicate (Int.toNat 320) (0:Int)) 0 (List.length (List.replicate (Int.toNat 320) (0:Int))) a2).length:Int):=of_decide_eq_true h4
 refine gs hF fun h5 hF=>Under.slO (l:=a1) (h:=((over (List.replicate (Int.toNat 320) (0:Int)) 0 (List.length (List.replicate (Int.toNat 320) (0:Int))) a2).length:Int)) Tryz.underlying22 sz5k rfl rfl rfl (And.left h4) (And.left (And.right h4)) (And.right (And.right h4)) rfl<|m_ rfl ?_
 replace h5:(Int.toNat a1)≤(Int.toNat ((over (List.replicate (Int.toNat 320) (0:Int)) 0 (List.length (List.replicate (Int.toNat 320) (0:Int))) a2).length:Int))∧(Int.toNat ((over (List.replicate (Int.toNat 320) (0:Int)) 0 (List.length (List.replicate (Int.toNat 320) (0:Int))) a2).length:Int))≤(List.length (over (List.replicate (Int.toNat 320) (0:Int)) 0 (List.length (List.replicate (Int.toNat 320) (0:Int))) a2)):=of_decide_eq_true h5
 refine Under.cpO (And.left h5) (And.right h5) Tryz.underlying22 sz5k rfl rfl (.sl rdV) rfl<|nl<|fzO (t:=7) rfl<|tn<|sr<|m_ rfl<|a_ rfl<|nt<|rc ?_
 cases osi hF
 exact rs Tryz.results135 (.tm rfl .nil) rfl rfl
noncomputable def jb (a0:List Int):Option ((List Int)×Int):=
 bif decide ((a0.length:Int)>320) then
  some ([],1)
 else
  (iC a0 0 []).bind fun y2=>
  some (y2,0)
theorem o66 {a0:List Int} {r0:((List Int)×Int)} (hF:jb a0=some r0) (L:List Res):Ok Tryz.prog 80 [SV.val K9 a0] L (SV.tup [SV.val K9 r0.1,SV.raw (.int .i64 r0.2)]) L:=by
 unfold jb at hF
 refine okI 9 Tryz.func80 rfl rfl rfl fun F0=>?_
 refine sr<|a_ rfl<|a_ rfl<|nt<|sq<|sr<|m_ rfl<|oN Tryz.underlying22 rfl<|b_ rfl<|nt<|it hF rfl (fun hF=>?_) (fun hF=>?_)
 ·refine sr<|a_ rfl<|a_ rfl<|nt<|rt<|tV (K:=kSl K12) (x:=[]) (t:=2) rfl rdN ?_
  cases osi hF
  exact rs Tryz.results80 (.tm rfl (.tm rfl .nil)) rfl rfl
 ·refine bs hF fun y2 h3 hF=>ct<|sr<|m_ rfl<|ca Tryz.call135 rfl rfl (Ok.cv (.sm (.sm (.rd rdN .nil))) (o65 h3 _)) rfl<|a_ rfl<|a_ rfl<|nt<|rc ?_
  cases osi hF
  exact rs Tryz.results80 (.tm rfl (.tm rfl .nil)) rfl rfl
noncomputable def lR (a0:List Int):Option ((List Int)×Int):=
 bif decide ((a0.length:Int)>319) then
  some ([],1)
 else
  (iC a0 1 [0]).bind fun y2=>
  some (y2,0)
theorem o67 {a0:List Int} {r0:((List Int)×Int)} (hF:lR a0=some r0) (L:List Res):Ok Tryz.prog 78 [SV.val K9 a0] L (SV.tup [SV.val K9 r0.1,SV.raw (.int .i64 r0.2)]) L:=by
 unfold lR at hF
 refine okI 10 Tryz.func78 rfl rfl rfl fun F0=>?_
 refine sr<|a_ rfl<|a_ rfl<|nt<|sq<|sr<|m_ rfl<|oN Tryz.underlying22 rfl<|b_ rfl<|nt<|it hF rfl (fun hF=>?_) (fun hF=>?_)
 ·refine sr<|a_ rfl<|a_ rfl<|nt<|rt<|tV (K:=kSl K12) (x:=[]) (t:=2) rfl rdN ?_
  cases osi hF
  exact rs Tryz.results78 (.tm rfl (.tm rfl .nil)) rfl rfl
 ·refine bs hF fun y2 h3 hF=>ct<|sr<|m_ rfl<|bF (ys:=[0]) Tryz.underlying22 ET5 (BldA.cons rfl rfl rdI (BldA.nil _)) rfl rfl<|cx Tryz.call135 rfl (o65 h3 _)<|a_ rfl<|a_ rfl<|nt<|rc ?_
  cases osi hF
  exact rs Tryz.results78 (.tm rfl (.tm rfl .nil)) rfl rfl
noncomputable def kY (a0:List Int) (a1:Int) (a2:Int):Option ((List (List Int))×Int):=
 bif (((decide (a1<0))||(decide (a1>16)))||(decide (a2<0)))||(decide (a2>7)) then
  some ([],2)
 else
  bif decide ((a0.length:Int)<18) then
   some ([],3)
  else
   bif decide (a2>0) then
    (eP a2).bind fun oA=>
    (sub a0 2 18).bind fun mA=>
    bif decide (16≤mA.length) then
    (iM (List.take 16 mA) (List.replicate 16 (0:Int)) (IntKind.wrap .i64 (a1*oA))).bind fun pA=>
    (((Loop.run (S := ((List (List Int)) × Int)) (R := ((List (List Int)) ⊕ ((List (List Int)) × Int))) (fun (nA, vA) =>
      bif decide (vA<a1) then
       (sub pA (IntKind.wrap .i64 (vA*oA)) (IntKind.wrap .i64 ((IntKind.wrap .i64 (vA+1))*oA))).bind fun kA=>
       (jb kA).bind fun yA=>
       bif yA.2 != 0 then
        some (.done (.inr ([],yA.2)))
       else
        (app nA [yA.1]).bind fun dA=>
        some (.next (dA,IntKind.wrap .i64 (vA+1)))
      else
       some (.done (.inl nA))) ([],0)).bind fun tA=>match tA with
     | .inl uA=>
      some (.inr uA)
     | .inr z=>
      some (.inl z)
     : Option (((List (List Int)) × Int) ⊕ (List (List Int))))).bind fun xB => match xB with
     | .inl z=>
      some z
     | .inr yB=>
      some (yB,0)
    else none
   else
    (sub a0 2 18).bind fun hA=>
    bif decide (16≤hA.length) then
    (iM (List.take 16 hA) (List.replicate 16 (0:Int)) (IntKind.wrap .i64 (a1*48))).bind fun eA=>
    (((Loop.run (S := ((List (List Int)) × Int)) (R := ((List (List Int)) ⊕ ((List (List Int)) × Int))) (fun (bA, xA) =>
      bif decide (xA<a1) then
       (sub eA (IntKind.wrap .i64 (xA*48)) (IntKind.wrap .i64 ((IntKind.wrap .i64 (xA+1))*48))).bind fun cA=>
       (lR cA).bind fun zA=>
       bif zA.2 != 0 then
        some (.done (.inr ([],zA.2)))
       else
        (app bA [zA.1]).bind fun qA=>
        some (.next (qA,IntKind.wrap .i64 (xA+1)))
      else
       some (.done (.inl bA))) ([],0)).bind fun rA=>match rA with
     | .inl wA=>
      some (.inr wA)
     | .inr z=>
      some (.inl z)
     : Option (((List (List Int)) × Int) ⊕ (List (List Int))))).bind fun gA => match gA with
     | .inl z=>
      some z
     | .inr x166=>
      some (x166,0)
    else none
theorem o68 {a0:List Int} {a1 a2:Int} {r0:((List (List Int))×Int)} (hF:kY a0 a1 a2=some r0) (L:List Res):Ok Tryz.prog 27 [SV.val K9 a0,SV.raw (.int .i64 a1),SV.raw (.int .i64 a2)] L (SV.tup [SV.val K1 r0.1,SV.raw (.int .i64 r0.2)]) L:=by
 unfold kY at hF
 refine okI 72 Tryz.func27 rfl rfl rfl fun F0=>?_
 refine sr<|a_ rfl<|a_ rfl<|nt<|sq<|sr<|mb rfl<|m_ rfl<|cN 20 ((decide (a1<0))||(decide (a1>16))) ?_ (fun k=>?_)
 ·refine m_ rfl<|cN 24 (((decide (a1<0))||(decide (a1>16)))||(decide (a2<0))) ?_ (fun k=>?_)
  ·refine m_ rfl<|cN 28 ((((decide (a1<0))||(decide (a1>16)))||(decide (a2<0)))||(decide (a2>7))) ?_ (fun k=>?_)
   ·refine nt<|it hF rfl (fun hF=>?_) (fun hF=>?_)
    ·refine sr<|a_ rfl<|a_ rfl<|nt<|rt<|tV (K:=kSl K9) (x:=[]) (t:=6) rfl rdN ?_
     cases osi hF
     exact rs Tryz.results27 (.tm rfl (.tm rfl .nil)) rfl rfl
    ·refine ct<|sq<|sr<|m_ rfl<|oN Tryz.underlying22 rfl<|b_ rfl<|nt<|it hF rfl (fun hF=>?_) (fun hF=>?_)
     ·refine sr<|a_ rfl<|a_ rfl<|nt<|rt<|tV (K:=kSl K9) (x:=[]) (t:=6) rfl rdN ?_
      cases osi hF
      exact rs Tryz.results27 (.tm rfl (.tm rfl .nil)) rfl rfl
     ·refine ct<|sr<|a_ rfl<|a_ rfl<|nt<|sq<|sr<|mb rfl<|nt<|it hF rfl (fun hF=>?_) (fun hF=>?_)
      ·refine bs hF fun qB rB hF=>bs hF fun cC wB hF=>gs hF fun gB hF=>bs hF fun mB nB hF=>bs hF fun pB qA hF=>rg<|m_ rfl<|cx Tryz.call79 rfl (o46 rB _)<|a_ rfl<|a_ rfl<|ns<|m_ rfl<|ov (OpV.slLH wB Tryz.underlying22 sz5 rfl rdV rfl rfl) rfl<|ov (OpV.s2a (of_decide_eq_true gB) rfl Tryz.underlying64 rfl rdV) rfl<|oL kt64 rfl<|ov (OpV.bar (ys:=(List.replicate 16 (0:Int))) BTA64 (BldA.nil _)) rfl<|m_ rfl<|mb rfl<|cx Tryz.call81 rfl (o64 nB _)<|a_ rfl<|ns<|a_ rfl<|nt<|sq<|Under.after (fun X=>∀(rA:List (List Int)),pB=(.inr rA)→Under F0 72 [(11,.val K1 rA)] (L) X) ?_ ?_
       ·intro rA kA
        replace kA:=kA.symm
        subst kA
        refine sr<|m_ rfl<|a_ rfl<|a_ rfl<|nt<|rc ?_
        cases osi hF
        exact rs Tryz.results27 (.tm rfl (.tm rfl .nil)) rfl rfl
       ·intro K tB
        refine bs qA fun qC uB qA=>sr<|m_ rfl<|m_ rfl<|nt<|bk<|Under.ownNil (K:=kSl K12) (e:=22)<|lp uB (C:=Value) (.slice none 0 0) (fun zA bA=>[(8,.raw (.int .i64 qB)),(9,.raw (.func (.func 80) #[] #[])),(10,.val K9 mB),(11,.raw bA),(45,.raw (.int .i64 a1)),(46,.raw (.int .i64 zA.2))]) (fun zA bA=>(.own K9 bA 22 zA.1)::L) rfl rfl fun zA bA xC yA cB=>?_
        obtain⟨rC,wC⟩:=zA
        dsimp only at yA⊢
        refine sr<|b_ rfl<|nt<|sq<|it yA rfl (fun yA=>?_) (fun yA=>?_)
        ·refine bs yA fun yC wA yA=>bs yA fun gA mA yA=>ct<|sq<|bk<|sr<|m_ rfl<|a_ rfl<|ns<|m_ rfl<|m_ rfl<|m_ rfl<|mb rfl<|mb rfl<|mb rfl<|ov (OpV.slLH wA Tryz.underlying22 sz5 rfl rdV rfl rfl) rfl<|cx Tryz.call80 rfl (o66 mA _)<|m_ rfl<|oE rfl<|oE rfl<|a_ rfl<|a_ rfl<|nt<|sq<|sr<|mb rfl<|nt<|it yA rfl (fun yA=>?_) (fun yA=>?_)
         ·refine dr<|sr<|m_ rfl<|a_ rfl<|a_ rfl<|nt<|rt<|Under.bR<|tr ?_
          cases ai yA cB
          refine tr<|Under.bR<|tr ?_
          cases osi qA
          refine tV (K:=kSl K9) (x:=[]) (t:=6) rfl rdN ?_
          cases osi hF
          exact rs Tryz.results27 (.tm rfl (.tm rfl .nil)) rfl rfl
         ·exact bs yA fun zC nA yA=>ct<|rg<|m_ rfl<|m_ rfl<|bF (ys:=[gA.1]) Tryz.underlying44 ET22 (BldA.cons rfl rfl rdV (BldA.nil _)) rfl rfl<|ap nA Tryz.underlying44 AT22 rfl rfl rdV rfl fun pA=>a_ rfl<|nl<|bN<|tn<|rg<|b_ rfl<|m_ rfl<|nl<|nx pA yA rfl rfl
        ·refine fzO (t:=11) rfl<|xt<|te ?_
         cases ai yA cB
         exact te<|bh<|tn<|wr (tB _ (osi qA).symm) rfl
      ·refine bs hF fun hC tA hF=>gs hF fun uA hF=>bs hF fun xB yB hF=>bs hF fun zB vA hF=>ct<|sr<|m_ rfl<|ov (OpV.slLH tA Tryz.underlying22 sz5 rfl rdV rfl rfl) rfl<|ov (OpV.s2a (of_decide_eq_true uA) rfl Tryz.underlying64 rfl rdV) rfl<|oL kt64 rfl<|ov (OpV.bar (ys:=(List.replicate 16 (0:Int))) BTA64 (BldA.nil _)) rfl<|m_ rfl<|mb rfl<|cx Tryz.call81 rfl (o64 yB _)<|a_ rfl<|ns<|a_ rfl<|nt<|sq<|Under.after (fun X=>∀(dA:List (List Int)),zB=(.inr dA)→Under F0 72 [(11,.val K1 dA)] (L) X) ?_ ?_
       ·intro dA eA
        replace eA:=eA.symm
        subst eA
        refine sr<|m_ rfl<|a_ rfl<|a_ rfl<|nt<|rc ?_
        cases osi hF
        exact rs Tryz.results27 (.tm rfl (.tm rfl .nil)) rfl rfl
       ·intro K hB
        refine bs vA fun bC bB vA=>sr<|m_ rfl<|m_ rfl<|nt<|bk<|Under.ownNil (K:=kSl K12) (e:=22)<|lp bB (C:=Value) (.slice none 0 0) (fun hA oA=>[(8,.raw (.int .i64 48)),(9,.raw (.func (.func 78) #[] #[])),(10,.val K9 xB),(11,.raw oA),(45,.raw (.int .i64 a1)),(46,.raw (.int .i64 hA.2))]) (fun hA oA=>(.own K9 oA 22 hA.1)::L) rfl rfl fun hA oA vC xA cA=>?_
        obtain⟨oC,kC⟩:=hA
        dsimp only at xA⊢
        refine sr<|b_ rfl<|nt<|sq<|it xA rfl (fun xA=>?_) (fun xA=>?_)
        ·refine bs xA fun dC vB xA=>bs xA fun oB kB xA=>ct<|sq<|bk<|sr<|m_ rfl<|a_ rfl<|ns<|m_ rfl<|m_ rfl<|m_ rfl<|mb rfl<|mb rfl<|mb rfl<|ov (OpV.slLH vB Tryz.underlying22 sz5 rfl rdV rfl rfl) rfl<|cx Tryz.call78 rfl (o67 kB _)<|m_ rfl<|oE rfl<|oE rfl<|a_ rfl<|a_ rfl<|nt<|sq<|sr<|mb rfl<|nt<|it xA rfl (fun xA=>?_) (fun xA=>?_)
         ·refine dr<|sr<|m_ rfl<|a_ rfl<|a_ rfl<|nt<|rt<|Under.bR<|tr ?_
          cases ai xA cA
          refine tr<|Under.bR<|tr ?_
          cases osi vA
          refine tV (K:=kSl K9) (x:=[]) (t:=6) rfl rdN ?_
          cases osi hF
          exact rs Tryz.results27 (.tm rfl (.tm rfl .nil)) rfl rfl
         ·exact bs xA fun eC dB xA=>ct<|rg<|m_ rfl<|m_ rfl<|bF (ys:=[oB.1]) Tryz.underlying44 ET22 (BldA.cons rfl rfl rdV (BldA.nil _)) rfl rfl<|ap dB Tryz.underlying44 AT22 rfl rfl rdV rfl fun eB=>a_ rfl<|nl<|bN<|tn<|rg<|b_ rfl<|m_ rfl<|nl<|nx eB xA rfl rfl
        ·refine fzO (t:=11) rfl<|xt<|te ?_
         cases ai xA cA
         exact te<|bh<|tn<|wr (hB _ (osi vA).symm) rfl
   ·refine by_ (t:=25) rfl (fun c7=>?_) (fun c7=>?_)
    ·exact sk_ c7 rfl<|sk_ c7 rfl<|pT c7 rfl<|rf 2 (or_t (e:=decide (a2>7)) c7) rfl k
    ·exact gc_ c7 rfl<|m_ rfl<|gc_ c7 rfl<|b_ rfl<|pF c7 rfl<|rf 2 (or_f c7) rfl k
  ·refine by_ (t:=21) rfl (fun c4=>?_) (fun c4=>?_)
   ·exact sk_ c4 rfl<|sk_ c4 rfl<|pT c4 rfl<|rf 2 (or_t (e:=decide (a2<0)) c4) rfl k
   ·exact gc_ c4 rfl<|m_ rfl<|gc_ c4 rfl<|b_ rfl<|pF c4 rfl<|rf 2 (or_f c4) rfl k
 ·refine by_ (t:=17) rfl (fun c1=>?_) (fun c1=>?_)
  ·exact sk_ c1 rfl<|sk_ c1 rfl<|pT c1 rfl<|rf 2 (or_t (e:=decide (a1>16)) c1) rfl k
  ·exact gc_ c1 rfl<|m_ rfl<|gc_ c1 rfl<|b_ rfl<|pF c1 rfl<|rf 2 (or_f c1) rfl k
noncomputable def jE (a0:aB) (a1:List dx) (a2:List Int):Option ((List (List Int))×Int×Int):=
 (jQ a2 a0.Chunks).bind fun y1=>
 bif y1.2 != 0 then
  some ([],0,y1.2)
 else
  (kX y1.1.Noise a0.Num a0.Den a0.Noise).bind fun y5=>
  bif y5.2 != 0 then
   some ([],0,y5.2)
  else
   bif decide ((IntKind.wrap .i64 ((a1.length:Int)+y5.1))>256) then
    some ([],0,213)
   else
    (kY y1.1.Noise y5.1 (IntKind.wrap .i64 (a0.Left - 1))).bind fun y9=>
    bif y9.2 != 0 then
     some ([],0,y9.2)
    else
     (((Loop.run (S:=((List (List Int))×Int)) (R:=(List (List Int))) (fun(yA,xA)=>
       bif decide (xA<(a1.length:Int)) then
        (idx a1 xA).bind fun zA=>
        (app yA [zA.Cell]).bind fun hA=>
        some (.next (hA,IntKind.wrap .i64 (xA+1)))
       else
        some (.done yA)) ([],0)).bind fun bA=>
     some bA
      :Option (List (List Int)))).bind fun vA=>
     (app vA y9.1).bind fun oA=>
     some (oA,y5.1,0)
theorem o69 {a0:aB} {a1:List dx} {a2:List Int} {r0:((List (List Int))×Int×Int)} (hF:jE a0 a1 a2=some r0) (L:List Res):Ok Tryz.prog 65 [SV.val aJ a0,SV.val (kSl dn) a1,SV.val K9 a2] L (SV.tup [SV.val K1 r0.1,SV.raw (.int .i64 r0.2.1),SV.raw (.int .i64 r0.2.2)]) L:=by
 unfold jE at hF
 refine okI 75 Tryz.func65 rfl rfl rfl fun F0=>?_
 refine bs hF fun y1 h2 hF=>sr<|bX (K:=aJ) rfl rdV rfl<|a_ rfl<|a_ rfl<|a_ rfl<|ns<|m_ rfl<|oF fb24k7 rfl<|oI kt3 rfl<|cx Tryz.call22 rfl (o43 h2 _)<|m_ rfl<|oE rfl<|oE rfl<|al ZT51 rfl fun b3=>sP (x':=y1.1) .box .id sz51k rfl rfl rdV rfl<|a_ rfl<|nl<|fz (t:=9) rfl<|tn<|sq<|sr<|mb rfl<|nt<|it hF rfl (fun hF=>?_) (fun hF=>?_)
 ·refine sr<|m_ rfl<|a_ rfl<|a_ rfl<|a_ rfl<|nt<|rt<|tV (K:=kSl K9) (x:=[]) (t:=6) rfl rdN ?_
  cases osi hF
  exact rs Tryz.results65 (.tm rfl (.tm rfl (.tm rfl .nil))) rfl rfl
 ·refine bs hF fun y5 h6 hF=>ct<|sr<|oF fb51k rfl<|oL kt22 rfl<|oF fb24k5 rfl<|oI kt3 rfl<|oF fb24k4 rfl<|oI kt3 rfl<|oF fb24k6 rfl<|oI kt3 rfl<|cx Tryz.call23 rfl (o45 h6 _)<|m_ rfl<|oE rfl<|oE rfl<|a_ rfl<|a_ rfl<|nt<|sq<|sr<|mb rfl<|nt<|it hF rfl (fun hF=>?_) (fun hF=>?_)
  ·refine sr<|m_ rfl<|a_ rfl<|a_ rfl<|a_ rfl<|nt<|rt<|tV (K:=kSl K9) (x:=[]) (t:=6) rfl rdN ?_
   cases osi hF
   exact rs Tryz.results65 (.tm rfl (.tm rfl (.tm rfl .nil))) rfl rfl
  ·refine ct<|sq<|sr<|m_ rfl<|oN Tryz.underlying59 rfl<|mb rfl<|b_ rfl<|nt<|it hF rfl (fun hF=>?_) (fun hF=>?_)
   ·refine sr<|a_ rfl<|a_ rfl<|a_ rfl<|nt<|rt<|tV (K:=kSl K9) (x:=[]) (t:=6) rfl rdN ?_
    cases osi hF
    exact rs Tryz.results65 (.tm rfl (.tm rfl (.tm rfl .nil))) rfl rfl
   ·refine bs hF fun y9 dA hF=>ct<|sr<|oF fb51k rfl<|oL kt22 rfl<|m_ rfl<|oF fb24k1 rfl<|oI kt3 rfl<|b_ rfl<|cx Tryz.call27 rfl (o68 dA _)<|m_ rfl<|oE rfl<|oE rfl<|a_ rfl<|a_ rfl<|nt<|sq<|sr<|mb rfl<|nt<|it hF rfl (fun hF=>?_) (fun hF=>?_)
    ·refine sr<|m_ rfl<|a_ rfl<|a_ rfl<|a_ rfl<|nt<|rt<|tV (K:=kSl K9) (x:=[]) (t:=6) rfl rdN ?_
     cases osi hF
     exact rs Tryz.results65 (.tm rfl (.tm rfl (.tm rfl .nil))) rfl rfl
    ·refine bs hF fun eA bA hF=>ct<|sr<|a_ rfl<|nt<|sq<|Under.after (fun X=>∀(vA:List (List Int)) (oA:Value),eA=vA→Under F0 75 [(11,.raw (.int .i64 y5.1)),(12,.val K1 y9.1),(13,.raw oA)] ((.own K9 oA 22 vA)::L) X) ?_ ?_
     ·intro vA oA hA
      replace hA:=hA.symm
      subst hA
      refine bs hF fun pA cA hF=>sr<|m_ rfl<|m_ rfl<|ap cA Tryz.underlying44 AT22 rfl rfl rdV rfl fun tA=>m_ rfl<|a_ rfl<|a_ rfl<|a_ rfl<|nl<|fzO (t:=6) rfl<|tn<|rc ?_
      cases osi hF
      exact rs Tryz.results65 (.tm rfl (.tm rfl (.tm rfl .nil))) rfl rfl
     ·intro K qA
      refine bs bA fun uA rA bA=>sr<|m_ rfl<|oN Tryz.underlying59 rfl<|m_ rfl<|nt<|bk<|Under.ownNil (K:=kSl K12) (e:=22)<|lp rA (C:=Value) (.slice none 0 0) (fun xA zA=>[(11,.raw (.int .i64 y5.1)),(12,.val K1 y9.1),(13,.raw zA),(59,.val (kSl dn) a1),(60,.raw (.int .i64 (a1.length:Int))),(61,.raw (.int .i64 xA.2))]) (fun xA zA=>(.own K9 zA 22 xA.1)::L) rfl rfl fun xA zA xB yA wA=>?_
      obtain⟨yB,zB⟩:=xA
      dsimp only at yA⊢
      refine sr<|b_ rfl<|nt<|sq<|it yA rfl (fun yA=>?_) (fun yA=>?_)
      ·exact bs yA fun kA gA yA=>bs yA fun hB mA yA=>ct<|sq<|bk<|sr<|oS gA Tryz.underlying59 sz66 rfl<|oL kt66 rfl<|al ZT66 rfl fun bB=>sP (x':=kA) .box .id sz66k rfl rfl rdV rfl<|nl<|fz (t:=15) rfl<|tn<|rg<|m_ rfl<|oF fb66k rfl<|oL kt22 rfl<|bF (ys:=[kA.Cell]) Tryz.underlying44 ET22 (BldA.cons rfl rfl rdV (BldA.nil _)) rfl rfl<|ap mA Tryz.underlying44 AT22 rfl rfl rdV rfl fun nA=>a_ rfl<|nl<|bN<|tn<|rg<|b_ rfl<|m_ rfl<|nl<|nx nA yA rfl rfl
      ·refine xt<|te ?_
       cases ai yA wA
       exact te<|bh<|tn<|wr (qA _ _ (osi bA).symm) rfl
noncomputable def kZ (a0:Int) (a1:Int):Option ((List Int)×Int):=
 bif (((decide (a0<0))||(decide (a0>256)))||(decide (a1<1)))||(decide (a1>64)) then
  some ([],2)
 else
  bif mkB a1 a1 then
  (((Loop.run (S:=((List Int)×Int)) (R:=(List Int)) (fun(yA,xA)=>
    bif decide (xA<((List.replicate (Int.toNat a1) (0:Int)).length:Int)) then
     ((bif decide (a1≠0) then
     (idx yA xA).bind fun oA=>
     bif decide (a1≠0) then
     bif decide (xA<(Int.tmod a0 a1)) then
      (idx (List.set yA (Int.toNat xA) (IntKind.wrap .i64 (Int.tdiv a0 a1))) xA).bind fun zA=>
      (idx (List.set yA (Int.toNat xA) (IntKind.wrap .i64 (Int.tdiv a0 a1))) xA).bind fun kA=>
      some (List.set (List.set yA (Int.toNat xA) (IntKind.wrap .i64 (Int.tdiv a0 a1))) (Int.toNat xA) (IntKind.wrap .i64 (zA+1)))
     else
      some (List.set yA (Int.toNat xA) (IntKind.wrap .i64 (Int.tdiv a0 a1)))
     else none
     else none
      :Option (List Int))).bind fun hA=>
     some (.next (hA,IntKind.wrap .i64 (xA+1)))
    else
     some (.done yA)) (List.replicate (Int.toNat a1) (0:Int),0)).bind fun bA=>
  some bA
   :Option (List Int))).bind fun vA=>
  some (vA,0)
  else none
theorem o70 {a0 a1:Int} {r0:((List Int)×Int)} (hF:kZ a0 a1=some r0) (L:List Res):Ok Tryz.prog 138 [SV.raw (.int .i64 a0),SV.raw (.int .i64 a1)] L (SV.tup [SV.val K8 r0.1,SV.raw (.int .i64 r0.2)]) L:=by
 unfold kZ at hF
 refine okI 48 Tryz.func138 rfl rfl rfl fun F0=>?_
 refine sr<|a_ rfl<|a_ rfl<|nt<|sq<|sr<|mb rfl<|m_ rfl<|cN 13 ((decide (a0<0))||(decide (a0>256))) ?_ (fun k=>?_)
 ·refine m_ rfl<|cN 17 (((decide (a0<0))||(decide (a0>256)))||(decide (a1<1))) ?_ (fun k=>?_)
  ·refine m_ rfl<|cN 21 ((((decide (a0<0))||(decide (a0>256)))||(decide (a1<1)))||(decide (a1>64))) ?_ (fun k=>?_)
   ·refine nt<|it hF rfl (fun hF=>?_) (fun hF=>?_)
    ·refine sr<|a_ rfl<|a_ rfl<|nt<|rt<|tV (K:=kSl K10) (x:=[]) (t:=4) rfl rdN ?_
     cases osi hF
     exact rs Tryz.results138 (.tm rfl (.tm rfl .nil)) rfl rfl
    ·refine gs hF fun xB hF=>bs hF fun hA oA hF=>ct<|sr<|m_ rfl<|Under.mk xB Tryz.underlying68 AT3 rfl rfl rfl fun wA=>a_ rfl<|nt<|sq<|afr (r:=hA) (fun hA=>[(6,.val K8 hA)]) (fun hA=>(L)) ?_ fun K gA=>?_
     ·refine sr<|m_ rfl<|a_ rfl<|a_ rfl<|nt<|rc ?_
      cases osi hF
      exact rs Tryz.results138 (.tm rfl (.tm rfl .nil)) rfl rfl
     ·refine bs oA fun yB mA oA=>sr<|m_ rfl<|ov (OpV.lenO Tryz.underlying68 rfl) rfl<|m_ rfl<|nt<|bk<|lp mA () (fun zA cA=>[(0,.raw (.int .i64 a0)),(1,.raw (.int .i64 a1)),(6,.raw wA),(25,.raw (.int .i64 ((List.replicate (Int.toNat a1) (0:Int)).length:Int))),(26,.raw (.int .i64 zA.2))]) (fun zA cA=>(.own K10 wA 3 zA.1)::L) rfl rfl fun zA cA zB yA nA=>?_
      obtain⟨qA,bA⟩:=zA
      dsimp only at yA⊢
      refine sr<|b_ rfl<|nt<|sq<|it yA rfl (fun yA=>?_) (fun yA=>?_)
      ·refine bs yA fun vA xA yA=>ct<|sq<|afr (r:=vA) (fun vA=>[(0,.raw (.int .i64 a0)),(1,.raw (.int .i64 a1)),(6,.raw wA),(25,.raw (.int .i64 ((List.replicate (Int.toNat a1) (0:Int)).length:Int))),(26,.raw (.int .i64 bA))]) (fun vA=>((.own K10 wA 3 vA)::L)) ?_ fun K rA=>?_
       ·exact rg<|b_ rfl<|m_ rfl<|nl<|nx () yA rfl rfl
       ·refine gs xA fun pA xA=>bs xA fun hB kA xA=>gs xA fun tA xA=>bk<|sr<|m_ rfl<|a_ rfl<|ns<|m_ rfl<|m_ rfl<|m_ rfl<|m_ rfl<|ov (OpV.quo rfl rfl (of_decide_eq_true pA) rfl) rfl<|ov (OpV.ixO kA Tryz.underlying68 sz3k rfl rfl) rfl<|sP (x':=List.set qA (Int.toNat bA) (IntKind.wrap .i64 (Int.tdiv a0 a1))) (.own kA) (.ix .id kA) sz3k rfl rfl rdI rfl<|ns<|m_ rfl<|m_ rfl<|m_ rfl<|ov (OpV.quo rfl rfl (of_decide_eq_true tA) rfl) rfl<|b_ rfl<|nt<|it xA rfl (fun xA=>?_) (fun xA=>?_)
        ·exact bs xA fun uA dA xA=>bs xA fun bB eA xA=>rg<|m_ rfl<|m_ rfl<|ov (OpV.ixO dA Tryz.underlying68 sz3k rfl rfl) rfl<|lP (.own dA) (.ix .id dA) kt3k rfl rfl<|rI (t:=43) rfl<|b_ rfl<|ov (OpV.ixO eA Tryz.underlying68 sz3k rfl rfl) rfl<|sP (x':=List.set (List.set qA (Int.toNat bA) (IntKind.wrap .i64 (Int.tdiv a0 a1))) (Int.toNat bA) (IntKind.wrap .i64 (uA+1))) (.own eA) (.ix .id eA) sz3k rfl rfl rdI rfl<|nl<|bN<|tn<|wr (rA _ (osi xA).symm) rfl
        ·exact cs<|bN<|tn<|wr (rA _ (osi xA).symm) rfl
      ·refine fzO (t:=6) rfl<|xt<|te ?_
       cases ai yA nA
       exact te<|bh<|tn<|wr (gA _ (osi oA).symm) rfl
   ·refine by_ (t:=18) rfl (fun c7=>?_) (fun c7=>?_)
    ·exact sk_ c7 rfl<|sk_ c7 rfl<|pT c7 rfl<|rf 2 (or_t (e:=decide (a1>64)) c7) rfl k
    ·exact gc_ c7 rfl<|m_ rfl<|gc_ c7 rfl<|b_ rfl<|pF c7 rfl<|rf 2 (or_f c7) rfl k
  ·refine by_ (t:=14) rfl (fun c4=>?_) (fun c4=>?_)
   ·exact sk_ c4 rfl<|sk_ c4 rfl<|pT c4 rfl<|rf 2 (or_t (e:=decide (a1<1)) c4) rfl k
   ·exact gc_ c4 rfl<|m_ rfl<|gc_ c4 rfl<|b_ rfl<|pF c4 rfl<|rf 2 (or_f c4) rfl k
 ·refine by_ (t:=10) rfl (fun c1=>?_) (fun c1=>?_)
  ·exact sk_ c1 rfl<|sk_ c1 rfl<|pT c1 rfl<|rf 2 (or_t (e:=decide (a0>256)) c1) rfl k
  ·exact gc_ c1 rfl<|m_ rfl<|gc_ c1 rfl<|b_ rfl<|pF c1 rfl<|rf 2 (or_f c1) rfl k
noncomputable def kg (a0:Int):Option (List Int):=
 bif (decide (a0<1))||(decide (a0>256)) then
  some []
 else
  bif mkB 0 a0 then
  (((Loop.run (S:=((List Int)×Int)) (R:=(List Int)) (fun(yA,xA)=>
    bif decide (xA≥1) then
     (app yA [xA]).bind fun zA=>
     some (.next (zA,IntKind.wrap .i64 (xA - 1)))
    else
     some (.done yA)) (List.replicate (Int.toNat 0) (0:Int),a0)).bind fun hA=>
  some hA
   :Option (List Int))).bind fun bA=>
  some bA
  else none
theorem o71 {a0:Int} {r0:(List Int)} (hF:kg a0=some r0) (L:List Res):Ok Tryz.prog 140 [SV.raw (.int .i64 a0)] L (SV.val K8 r0) L:=by
 unfold kg at hF
 refine okI 23 Tryz.func140 rfl rfl rfl fun F0=>?_
 refine sr<|a_ rfl<|nt<|sq<|sr<|mb rfl<|m_ rfl<|cN 10 ((decide (a0<1))||(decide (a0>256))) ?_ (fun k=>?_)
 ·refine nt<|it hF rfl (fun hF=>?_) (fun hF=>?_)
  ·refine sr<|a_ rfl<|nt<|rt<|tV (K:=kSl K10) (x:=[]) (t:=2) rfl rdN ?_
   cases osi hF
   exact rs Tryz.results140 (.tm rfl .nil) rfl rfl
  ·refine gs hF fun h6 hF=>bs hF fun zA bA hF=>ct<|sr<|m_ rfl<|Under.mk h6 Tryz.underlying68 AT3 rfl rfl rfl fun v5=>a_ rfl<|nt<|sq<|afr (r:=zA) (fun zA=>[(3,.val K8 zA)]) (fun zA=>(L)) ?_ fun K vA=>?_
   ·refine sr<|m_ rfl<|a_ rfl<|nt<|rc ?_
    cases osi hF
    exact rs Tryz.results140 (.tm rfl .nil) rfl rfl
   ·refine bs bA fun qA oA bA=>sr<|m_ rfl<|a_ rfl<|nt<|bk<|lp oA (C:=Value) v5 (fun yA hA=>[(3,.raw hA),(4,.raw (.int .i64 yA.2))]) (fun yA hA=>(.own K10 hA 3 yA.1)::L) rfl rfl fun yA hA rA xA kA=>?_
    obtain⟨wA,dA⟩:=yA
    dsimp only at xA⊢
    refine sq<|sr<|mb rfl<|nt<|it xA rfl (fun xA=>?_) (fun xA=>?_)
    ·exact bs xA fun gA eA xA=>ct<|sq<|bk<|rg<|m_ rfl<|m_ rfl<|bF (ys:=[dA]) Tryz.underlying68 ET3 (BldA.cons rfl rfl rdI (BldA.nil _)) rfl rfl<|ap eA Tryz.underlying68 AT3 rfl rfl rdV rfl fun cA=>a_ rfl<|nl<|bN<|tn<|rg<|mb rfl<|a_ rfl<|nl<|nx cA xA rfl rfl
    ·refine fzO (t:=3) rfl<|xt<|te ?_
     cases ai xA kA
     exact te<|bh<|tn<|wr (vA _ (osi bA).symm) rfl
 ·refine by_ (t:=7) rfl (fun c1=>?_) (fun c1=>?_)
  ·exact sk_ c1 rfl<|sk_ c1 rfl<|pT c1 rfl<|rf 2 (or_t (e:=decide (a0>256)) c1) rfl k
  ·exact gc_ c1 rfl<|m_ rfl<|gc_ c1 rfl<|b_ rfl<|pF c1 rfl<|rf 2 (or_f c1) rfl k
noncomputable def iN (a0:Int):Option Bool:=
 some ((decide (a0≥1))&&(decide (a0≤256)))
theorem o72 {a0:Int} {r0:Bool} (hF:iN a0=some r0) (L:List Res):Ok Tryz.prog 233 [SV.raw (.int .i64 a0)] L (SV.raw (.bool r0)) L:=by
 unfold iN at hF
 refine okI 9 Tryz.func233 rfl rfl rfl fun F0=>?_
 refine sr<|a_ rfl<|ns<|mb rfl<|m_ rfl<|cN 8 ((decide (a0≥1))&&(decide (a0≤256))) ?_ (fun k=>?_)
 ·refine a_ rfl<|nt<|rc ?_
  cases osi hF
  exact rs Tryz.results233 (.tm rfl .nil) rfl rfl
 ·refine by_ (t:=5) rfl (fun c1=>?_) (fun c1=>?_)
  ·exact gc_ c1 rfl<|m_ rfl<|gc_ c1 rfl<|b_ rfl<|pT c1 rfl<|rf 2 (iV c1) rfl k
  ·exact sk_ c1 rfl<|sk_ c1 rfl<|pF c1 rfl<|rf 2 (iW (e:=decide (a0≤256)) c1) rfl k
noncomputable def la (a0:Int):Option Bool:=
 (iN a0).bind fun y1=>
 some (!y1)
theorem o73 {a0:Int} {r0:Bool} (hF:la a0=some r0) (L:List Res):Ok Tryz.prog 232 [SV.raw (.int .i64 a0)] L (SV.raw (.bool r0)) L:=by
 unfold la at hF
 refine okI 6 Tryz.func232 rfl rfl rfl fun F0=>?_
 refine bs hF fun y1 h2 hF=>sr<|a_ rfl<|ns<|m_ rfl<|cx Tryz.call233 rfl (o72 h2 _)<|ov (OpV.not rfl) rfl<|a_ rfl<|nt<|rc ?_
 cases osi hF
 exact rs Tryz.results232 (.tm rfl .nil) rfl rfl
noncomputable def dL (a0:List Int):Option Int:=
 (((Loop.run (S := Int) (R := (Unit ⊕ Int)) (fun xA =>
   bif decide (xA<(a0.length:Int)) then
    (idx a0 xA).bind fun yA=>
    (la yA).bind fun zA=>
    bif zA then
     some (.done (.inr xA))
    else
     some (.next (IntKind.wrap .i64 (xA+1)))
   else
    some (.done (.inl ()))) 0).bind fun hA=>match hA with
  | .inl _=>
   some (.inr ())
  | .inr z=>
   some (.inl z)
  : Option (Int ⊕ Unit))).bind fun bA => match bA with
  | .inl z=>
   some z
  | .inr _=>
   some (-1)
theorem o74 {a0:List Int} {r0:Int} (hF:dL a0=some r0) (L:List Res):Ok Tryz.prog 249 [SV.val K8 a0,SV.raw (.func (.func 232) #[] #[])] L (SV.raw (.int .i64 r0)) L:=by
 unfold dL at hF
 refine okI 19 Tryz.func249 rfl rfl rfl fun F0=>?_
 refine bs hF fun oA yA hF=>sr<|a_ rfl<|nt<|sq<|Under.after (fun X=>∀(_:Unit),oA=(.inr ())→Under F0 19 [] (L) X) ?_ ?_
 ·intro _ zA
  replace zA:=zA.symm
  subst zA
  refine sr<|a_ rfl<|nt<|rc ?_
  cases osi hF
  exact rs Tryz.results249 (.tm rfl .nil) rfl rfl
 ·intro K kA
  refine bs yA fun qA dA yA=>sr<|m_ rfl<|oN Tryz.underlying68 rfl<|m_ rfl<|nt<|bk<|lp dA () (fun hA bA=>[(0,.val K8 a0),(1,.raw (.func (.func 232) #[] #[])),(7,.raw (.int .i64 (a0.length:Int))),(8,.raw (.int .i64 hA))]) (fun hA bA=>L) rfl rfl fun hA bA rA xA vA=>?_
  refine sr<|b_ rfl<|nt<|sq<|it xA rfl (fun xA=>?_) (fun xA=>?_)
  ·refine bs xA fun wA eA xA=>bs xA fun gA cA xA=>ct<|sq<|bk<|sr<|m_ rfl<|a_ rfl<|ns<|m_ rfl<|m_ rfl<|m_ rfl<|oS eA Tryz.underlying68 sz3 rfl<|oI kt3 rfl<|cx Tryz.call232 rfl (o73 cA _)<|nt<|it xA rfl (fun xA=>?_) (fun xA=>?_)
   ·refine sr<|m_ rfl<|a_ rfl<|nt<|rc<|Under.bR<|tr ?_
    cases ai xA vA
    refine tr<|Under.bR<|tr ?_
    cases osi yA
    cases osi hF
    exact rs Tryz.results249 (.tm rfl .nil) rfl rfl
   ·exact cs<|bN<|tn<|rg<|b_ rfl<|m_ rfl<|nl<|nx () xA rfl rfl
  ·refine xt<|te ?_
   cases ai xA vA
   exact te<|bh<|tn<|wr (kA () (osi yA).symm) rfl
noncomputable def dg (a0:List Int):Option Bool:=
 (dL a0).bind fun y1=>
 some (decide (y1≥0))
theorem o75 {a0:List Int} {r0:Bool} (hF:dg a0=some r0) (L:List Res):Ok Tryz.prog 231 [SV.val K8 a0,SV.raw (.func (.func 232) #[] #[])] L (SV.raw (.bool r0)) L:=by
 unfold dg at hF
 refine okI 9 Tryz.func231 rfl rfl rfl fun F0=>?_
 refine bs hF fun y1 h2 hF=>sr<|a_ rfl<|ns<|m_ rfl<|m_ rfl<|cx Tryz.call249 rfl (o74 h2 _)<|b_ rfl<|a_ rfl<|nt<|rc ?_
 cases osi hF
 exact rs Tryz.results231 (.tm rfl .nil) rfl rfl
noncomputable def nO (a0:List Int):Option aX:=
 some (⟨strB a0,(0:Int)⟩:aX)
theorem o76 {a0:List Int} {r0:aX} (hF:nO a0=some r0) (L:List Res):Ok Tryz.prog 234 [SV.val K9 a0] L (SV.val cd r0) L:=by
 unfold nO at hF
 refine okI 6 Tryz.func234 rfl rfl rfl fun F0=>?_
 refine sr<|al ZT312 rfl fun b1=>ns<|m_ rfl<|ov (OpV.b2s Tryz.underlying22 Tryz.underlying5 Tryz.underlying9 rfl rdV) rfl<|ov (OpV.bst BT312 (Bld.cons (x':=(⟨strB a0,(0:Int)⟩:aX)) rfl rfl rdV (by intro q hq;simp only[List.mem_cons,List.not_mem_nil,or_false] at hq;rcases hq with rfl<;>rfl) (Bld.nil _))) rfl<|sP (x':=(⟨strB a0,(0:Int)⟩:aX)) .box .id sz312k rfl rfl rdV rfl<|nl<|fz (t:=2) rfl<|tn<|rc ?_
 cases osi hF
 exact rs Tryz.results234 (.ce rfl kt312 .nil) rfl rfl
noncomputable def jc (a0:aX):Option Int:=
 some (IntKind.wrap .i64 ((a0.bytes.length:Int) - a0.used))
theorem o77 {a0:aX} {r0:Int} (hF:jc a0=some r0) (L:List Res):Ok Tryz.prog 255 [SV.val cd a0] L (SV.raw (.int .i64 r0)) L:=by
 unfold jc at hF
 refine okI 9 Tryz.func255 rfl rfl rfl fun F0=>?_
 refine sr<|bX (K:=cd) rfl rdV rfl<|a_ rfl<|ns<|oF fb312k rfl<|oL kt9 rfl<|ov (OpV.lenS Tryz.underlying9 rfl rdV) rfl<|oF fb312k1 rfl<|oI kt3 rfl<|b_ rfl<|a_ rfl<|nt<|rc ?_
 cases osi hF
 exact rs Tryz.results255 (.tm rfl .nil) rfl rfl
noncomputable def jd (a0:aX):Option (Int×aX×Int):=
 (jc a0).bind fun y2=>
 bif y2==0 then
  some (0,(⟨[],(0:Int)⟩:aX),3)
 else
  (idx a0.bytes a0.used).bind fun x6=>
  some (x6,(⟨a0.bytes,IntKind.wrap .i64 (a0.used+1)⟩:aX),0)
theorem o78 {a0:aX} {r0:(Int×aX×Int)} (hF:jd a0=some r0) (L:List Res):Ok Tryz.prog 250 [SV.val cd a0] L (SV.tup [SV.raw (.int .u8 r0.1),SV.val cd r0.2.1,SV.raw (.int .i64 r0.2.2)]) L:=by
 unfold jd at hF
 refine okI 20 Tryz.func250 rfl rfl rfl fun F0=>?_
 refine bs hF fun y2 h3 hF=>sr<|bX (K:=cd) rfl rdV rfl<|a_ rfl<|al ZT312 rfl fun b1=>a_ rfl<|nt<|sq<|sr<|oL kt312 rfl<|cx Tryz.call255 rfl (o77 h3 _)<|b_ rfl<|nt<|it hF rfl (fun hF=>?_) (fun hF=>?_)
 ·refine sr<|ov (OpV.bst BT312 (Bld.nil _)) rfl<|a_ rfl<|sP (x':=(⟨[],(0:Int)⟩:aX)) .box .id sz312k rfl rfl rdV rfl<|a_ rfl<|nl<|fz (t:=3) rfl<|tn<|rt ?_
  cases osi hF
  exact rs Tryz.results250 (.tm rfl (.ce rfl kt312 (.tm rfl .nil))) rfl rfl
 ·refine bs hF fun x6 h7 hF=>ct<|sq<|ph rfl<|gV [0,1,2,3,4,5,6,7,8,9,10,11] [[1],[9],[1],[11],[10,12],[1],[14],[1],[16],[17],[15,18],[13]] 1 (by kernel_rfl) rfl<|vo (fun _=>OpV.fd fb312k rfl rfl) rfl<|vo (fun _=>OpV.ld kt9 rfl) rfl<|vo (fun _=>OpV.fd fb312k1 rfl rfl) rfl<|vo (fun _=>OpV.ldI kt3 rfl) rfl<|vo (fun _=>OpV.ixStr h7 Tryz.underlying9 rfl rdV rfl) rfl<|vo (fun _=>OpV.fd fb312k rfl rfl) rfl<|vo (fun _=>OpV.ld kt9 rfl) rfl<|vo (fun _=>OpV.fd fb312k1 rfl rfl) rfl<|vo (fun _=>OpV.ldI kt3 rfl) rfl<|vb_ rfl<|vo (fun _=>OpV.bst BT312 (Bld.cons (x':=(⟨a0.bytes,(0:Int)⟩:aX)) rfl rfl rdV (by intro q hq;simp only[List.mem_cons,List.not_mem_nil,or_false] at hq;rcases hq with rfl<;>rfl) (Bld.cons (x':=(⟨a0.bytes,IntKind.wrap .i64 (a0.used+1)⟩:aX)) rfl rfl rdI ⟨rfl,(fun q hq=>by simp at hq)⟩ (Bld.nil _)))) rfl<|Vq.v (fun G T hG=>a_ rfl<|Vq.end rfl)<|vn<|p1 12 rfl rfl<|sP (x':=(⟨a0.bytes,IntKind.wrap .i64 (a0.used+1)⟩:aX)) .box .id sz312k rfl rfl rdV rfl<|pn<|p1 13 rfl rfl<|a_ rfl<|pn<|pd rfl<|fz (t:=3) rfl<|tn<|rc ?_
  cases osi hF
  exact rs Tryz.results250 (.tm rfl (.ce rfl kt312 (.tm rfl .nil))) rfl rfl
noncomputable def lS (a0:aX) (a1:Int):Option (Int×aX×Int):=
 (iN a1).bind fun y3=>
 bif !y3 then
  some (0,(⟨[],(0:Int)⟩:aX),2)
 else
  bif a1==1 then
   some (0,a0,0)
  else
   (Loop.run (S:=aX) (R:=(Int×aX×Int)) (fun yA=>
    (jd yA).bind fun xA=>
    bif xA.2.2 != 0 then
     some (.done (0,(⟨[],(0:Int)⟩:aX),xA.2.2))
    else
     bif decide (a1≠0) then
     bif decide ((IntKind.wrap .i64 xA.1)<(IntKind.wrap .i64 (256 - (Int.tmod 256 a1)))) then
      bif decide (a1≠0) then
      some (.done (Int.tmod (IntKind.wrap .i64 xA.1) a1,xA.2.1,0))
      else none
     else
      some (.next xA.2.1)
     else none) a0).bind fun z=>
   some z
theorem o79 {a0:aX} {a1:Int} {r0:(Int×aX×Int)} (hF:lS a0 a1=some r0) (L:List Res):Ok Tryz.prog 235 [SV.val cd a0,SV.raw (.int .i64 a1)] L (SV.tup [SV.raw (.int .i64 r0.1),SV.val cd r0.2.1,SV.raw (.int .i64 r0.2.2)]) L:=by
 unfold lS at hF
 refine okI 39 Tryz.func235 rfl rfl rfl fun F0=>?_
 refine bs hF fun y3 h4 hF=>sr<|Under.bx (K:=cd) rfl rdV rfl fun b1=>a_ rfl<|al ZT312 rfl fun b2=>a_ rfl<|nt<|sq<|sr<|m_ rfl<|cx Tryz.call233 rfl (o72 h4 _)<|ov (OpV.not rfl) rfl<|nt<|it hF rfl (fun hF=>?_) (fun hF=>?_)
 ·refine f1<|dr<|sr<|ov (OpV.bst BT312 (Bld.nil _)) rfl<|a_ rfl<|sP (x':=(⟨[],(0:Int)⟩:aX)) .box .id sz312k rfl rfl rdV rfl<|a_ rfl<|nl<|fz (t:=5) rfl<|tn<|rt ?_
  cases osi hF
  exact rs Tryz.results235 (.tm rfl (.ce rfl kt312 (.tm rfl .nil))) rfl rfl
 ·refine ct<|sq<|sr<|mb rfl<|nt<|it hF rfl (fun hF=>?_) (fun hF=>?_)
  ·refine f1<|fz (t:=2) rfl<|sq<|ph rfl<|Under.grpT (L:=L) [0,1] [[2],[]] [⟨sk0 (.val cd a0),[],[],[]⟩,⟨sk0 (.raw (.int .i64 0)),[],[],[]⟩] [] (fun T:List Res=>(.box cd b2 312 (⟨[],(0:Int)⟩:aX))::T) lf1 rfl (by kernel_rfl) rfl rfl (fun F hF0 eA=>?_)
   refine Tq.v (fun G T hG=>?_) ?_
   ·exact oL kt312 rfl<|Tq.end undef rfl rfl
   refine Tq.v (fun G T hG=>?_) ?_
   ·exact a_ rfl<|Tq.end undef rfl rfl
   refine Tq.nil<|Under.le hF0<|p1 2 rfl rfl<|sP (x':=a0) .box .id sz312k rfl rfl rdV rfl<|pn<|p1 3 rfl rfl<|a_ rfl<|pn<|pd rfl<|fz (t:=5) rfl<|tn<|rt ?_
   cases osi hF
   exact rs Tryz.results235 (.tm rfl (.ce rfl kt312 (.tm rfl .nil))) rfl rfl
  ·refine bs hF fun cA vA hF=>ct<|bk<|f1<|lp vA () (fun yA hA=>[(1,.raw (.int .i64 a1)),(2,pb b1),(5,pb b2)]) (fun yA hA=>(.box cd b1 312 yA)::(.box cd b2 312 (⟨[],(0:Int)⟩:aX))::L) rfl rfl fun yA hA qA xA bA=>?_
   refine bs xA fun zA oA xA=>bk<|sr<|lP .box .id kt312k rfl rfl<|cx Tryz.call250 rfl (o78 oA _)<|m_ rfl<|oE rfl<|oE rfl<|oE rfl<|al ZT312 rfl fun rA=>a_ rfl<|sP (x':=zA.2.1) .box .id sz312k rfl rfl rdV rfl<|a_ rfl<|nl<|fz (t:=8) rfl<|tn<|sq<|sr<|mb rfl<|nt<|it xA rfl (fun xA=>?_) (fun xA=>?_)
   ·refine dr<|sr<|ov (OpV.bst BT312 (Bld.nil _)) rfl<|m_ rfl<|a_ rfl<|sP (x':=(⟨[],(0:Int)⟩:aX)) .box .id sz312k rfl rfl rdV rfl<|a_ rfl<|nl<|fz (t:=5) rfl<|tn<|rt<|Under.bR ?_
    cases ai xA bA
    refine tr<|Under.bR ?_
    cases osi hF
    exact rs Tryz.results235 (.tm rfl (.ce rfl kt312 (.tm rfl .nil))) rfl rfl
   ·refine gs xA fun kA xA=>ct<|sq<|sr<|m_ rfl<|oC (by kernel_rfl) Tryz.underlying3 rfl<|m_ rfl<|ov (OpV.quo rfl rfl (of_decide_eq_true kA) rfl) rfl<|b_ rfl<|b_ rfl<|nt<|it xA rfl (fun xA=>?_) (fun xA=>?_)
    ·refine gs xA fun dA xA=>dr<|sq<|ph rfl<|gV [0,1,2,3,4,5] [[7],[33],[1],[34,35],[8],[36]] 1 (by kernel_rfl) rfl<|vm_ rfl<|vo (fun _=>OpV.conv (by kernel_rfl) Tryz.underlying3 rfl) rfl<|vm_ rfl<|vo (fun _=>OpV.quo rfl rfl (of_decide_eq_true dA) rfl) rfl<|vo (fun _=>OpV.ld kt312 rfl) rfl<|Vq.v (fun G T hG=>a_ rfl<|Vq.end rfl)<|vn<|p1 6 rfl rfl<|sP (x':=zA.2.1) .box .id sz312k rfl rfl rdV rfl<|pn<|p1 7 rfl rfl<|a_ rfl<|pn<|pd rfl<|fz (t:=5) rfl<|tn<|rt<|Under.bR ?_
     cases ai xA bA
     refine tr<|Under.bR ?_
     cases osi hF
     exact rs Tryz.results235 (.tm rfl (.ce rfl kt312 (.tm rfl .nil))) rfl rfl
    ·exact ct<|rg<|oL kt312 rfl<|sP (x':=zA.2.1) .box .id sz312k rfl rfl rdV rfl<|nl<|bN<|nx () xA rfl rfl
noncomputable def gW (a0:aX):Option Int:=
 some a0.used
theorem o80 {a0:aX} {r0:Int} (hF:gW a0=some r0) (L:List Res):Ok Tryz.prog 236 [SV.val cd a0] L (SV.raw (.int .i64 r0)) L:=by
 unfold gW at hF
 refine okI 5 Tryz.func236 rfl rfl rfl fun F0=>?_
 refine sr<|bX (K:=cd) rfl rdV rfl<|a_ rfl<|ns<|oF fb312k1 rfl<|oI kt3 rfl<|a_ rfl<|nt<|rc ?_
 cases osi hF
 exact rs Tryz.results236 (.tm rfl .nil) rfl rfl
noncomputable def lT (a0:Int) (a1:Int) (a2:Int) (a3:List Int):Option (List Int):=
 (idx a3 a0).bind fun x1=>
 some (List.set a3 (Int.toNat a0) a2)
theorem o81 {a0 a1 a2:Int} {a3:List Int} {wv0:Value} {r0:(List Int)} (hF:lT a0 a1 a2 a3=some r0) (L:List Res):Ok Tryz.prog 192 [SV.raw (.int .i64 a0),SV.raw (.int .i64 a1),SV.raw (.int .i64 a2),SV.ptr kRaw wv0] ((.own K10 wv0 3 a3)::L) (SV.tup []) ((.own K10 wv0 3 r0)::L):=by
 unfold lT at hF
 refine okI 11 Tryz.func192 rfl rfl rfl fun F0=>?_
 refine bs hF fun x1 h2 hF=>rg<|oL kt68k rfl<|Under.rawR (t:=7) rfl<|m_ rfl<|m_ rfl<|ov (OpV.ixO h2 Tryz.underlying68 sz3k rfl rfl) rfl<|sP (x':=List.set a3 (Int.toNat a0) a2) (.own h2) (.ix .id h2) sz3k rfl rfl rdI rfl<|nl ?_
 cases osi hF
 exact rs Tryz.results192 .nil rfl rfl
noncomputable def f9 (a0:List Int) (a1:List Int) (a2:List Int):Option (Int×Int×(List Int)):=
 (dg a1).bind fun y1=>
 bif y1 then
  some (0,2,a2)
 else
  (nO a0).bind fun y4=>
  (((Loop.run (S := (Int × aX × (List Int))) (R := ((aX × (List Int)) ⊕ (Int × Int × (List Int)))) (fun (yA, eA, zA) =>
    bif decide (yA<(a1.length:Int)) then
     (idx a1 yA).bind fun hA=>
     (lS eA hA).bind fun xA=>
     bif xA.2.2 != 0 then
      some (.done (.inr (0,xA.2.2,zA)))
     else
      (gW xA.2.1).bind fun bA=>
      (lT yA (IntKind.wrap .i64 (bA - 1)) xA.1 zA).bind fun vA=>
      some (.next (IntKind.wrap .i64 (yA+1),xA.2.1,vA))
    else
     some (.done (.inl (eA,zA)))) (0,y4,a2)).bind fun oA=>match oA with
   | .inl (kA,dA)=>
    some (.inr (kA,dA))
   | .inr z=>
    some (.inl z)
   : Option ((Int × Int × (List Int)) ⊕ (aX × (List Int))))).bind fun cA => match cA with
   | .inl z=>
    some z
   | .inr (qA,rA)=>
    (gW qA).bind fun wA=>
    some (wA,0,rA)
theorem o82 {a0 a1 a2:List Int} {wu2_0:Value} {r0:(Int×Int×(List Int))} (hF:f9 a0 a1 a2=some r0) (L:List Res):Ok Tryz.prog 191 [SV.val K9 a0,SV.val K8 a1,SV.fn 192 [.ptr kRaw wu2_0]] ((.own K10 wu2_0 3 a2)::L) (SV.tup [SV.raw (.int .i64 r0.1),SV.raw (.int .i64 r0.2.1)]) ((.own K10 wu2_0 3 r0.2.2)::L):=by
 unfold f9 at hF
 refine okI 46 Tryz.func191 rfl rfl rfl fun F0=>?_
 refine bs hF fun y1 h2 hF=>sr<|a_ rfl<|a_ rfl<|nt<|sq<|sr<|m_ rfl<|cx Tryz.call231 rfl (o75 h2 _)<|nt<|it hF rfl (fun hF=>?_) (fun hF=>?_)
 ·refine sr<|a_ rfl<|a_ rfl<|nt<|rt ?_
  cases osi hF
  exact rs Tryz.results191 (.tm rfl (.tm rfl .nil)) rfl rfl
 ·refine bs hF fun y4 h5 hF=>bs hF fun gA oA hF=>ct<|sr<|m_ rfl<|cx Tryz.call234 rfl (o76 h5 _)<|al ZT312 rfl fun b6=>sP (x':=y4) .box .id sz312k rfl rfl rdV rfl<|nt<|sq<|Under.after (fun X=>∀(kA:aX) (dA:List Int),gA=(.inr (kA,dA))→Under F0 46 [(8,.ptr cd kA)] ((.own K10 wu2_0 3 dA)::L) X) ?_ ?_
  ·intro kA dA zA
   replace zA:=zA.symm
   subst zA
   refine bs hF fun hB mA hF=>sr<|oL kt312 rfl<|cx Tryz.call236 rfl (o80 mA _)<|a_ rfl<|a_ rfl<|nt<|rc ?_
   cases osi hF
   exact rs Tryz.results191 (.tm rfl (.tm rfl .nil)) rfl rfl
  ·intro K nA
   refine bs oA fun pA eA oA=>sr<|m_ rfl<|oN Tryz.underlying68 rfl<|m_ rfl<|nt<|bk<|lp eA () (fun yA hA=>[(2,.fn 192 [.ptr kRaw wu2_0]),(8,pb b6),(18,.val K8 a1),(19,.raw (.int .i64 (a1.length:Int))),(20,.raw (.int .i64 yA.1))]) (fun yA hA=>(.box cd b6 312 yA.2.1)::(.own K10 wu2_0 3 yA.2.2)::L) rfl rfl fun yA hA tA xA bA=>?_
   obtain⟨bB,vB,oB⟩:=yA
   dsimp only at xA⊢
   refine sr<|b_ rfl<|nt<|sq<|it xA rfl (fun xA=>?_) (fun xA=>?_)
   ·refine bs xA fun uA cA xA=>bs xA fun vA qA xA=>ct<|sq<|bk<|sr<|m_ rfl<|oS cA Tryz.underlying68 sz3 rfl<|oI kt3 rfl<|a_ rfl<|a_ rfl<|ns<|lP .box .id kt312k rfl rfl<|m_ rfl<|cx Tryz.call235 rfl (o79 qA _)<|m_ rfl<|oE rfl<|oE rfl<|oE rfl<|al ZT312 rfl fun xB=>a_ rfl<|sP (x':=vA.2.1) .box .id sz312k rfl rfl rdV rfl<|a_ rfl<|nl<|fz (t:=12) rfl<|tn<|sq<|sr<|mb rfl<|nt<|it xA rfl (fun xA=>?_) (fun xA=>?_)
    ·refine dr<|sr<|m_ rfl<|a_ rfl<|a_ rfl<|nt<|rt<|Under.bR<|tr ?_
     cases ai xA bA
     refine tr<|Under.bR<|tr ?_
     cases osi oA
     cases osi hF
     exact rs Tryz.results191 (.tm rfl (.tm rfl .nil)) rfl rfl
    ·exact bs xA fun yB rA xA=>bs xA fun zB wA xA=>ct<|sr<|oL kt312 rfl<|sP (x':=vA.2.1) .box .id sz312k rfl rfl rdV rfl<|nt<|rg<|m_ rfl<|m_ rfl<|lP .box .id kt312k rfl rfl<|cx Tryz.call236 rfl (o80 rA _)<|b_ rfl<|m_ rfl<|f1<|Under.callC Tryz.call192 rfl rfl (o81 wA _) rfl<|nl<|bN<|tn<|rg<|b_ rfl<|m_ rfl<|nl<|f1<|nx () xA rfl rfl
   ·refine fz (t:=8) rfl<|xt<|te ?_
    cases ai xA bA
    exact te<|bh<|tn<|wr (nA _ _ (osi oA).symm) rfl
noncomputable def lU (a0:List Int) (a1:List Int):Option ((List Int)×Int×Int):=
 bif mkB (a1.length:Int) (a1.length:Int) then
 (f9 a0 a1 (List.replicate (Int.toNat (a1.length:Int)) (0:Int))).bind fun y6=>
 bif y6.2.1 != 0 then
  some ([],0,y6.2.1)
 else
  some (y6.2.2,y6.1,0)
 else none
theorem o83 {a0 a1:List Int} {r0:((List Int)×Int×Int)} (hF:lU a0 a1=some r0) (L:List Res):Ok Tryz.prog 139 [SV.val K9 a0,SV.val K8 a1] L (SV.tup [SV.val K8 r0.1,SV.raw (.int .i64 r0.2.1),SV.raw (.int .i64 r0.2.2)]) L:=by
 unfold lU at hF
 refine okI 25 Tryz.func139 rfl rfl rfl fun F0=>?_
 refine gs hF fun h2 hF=>bs hF fun y6 h7 hF=>sr<|a_ rfl<|a_ rfl<|a_ rfl<|ns<|m_ rfl<|oN Tryz.underlying68 rfl<|Under.mk h2 Tryz.underlying68 AT3 rfl rfl rfl fun v1=>al ZT68k rfl fun b4=>f1<|Under.ownCell fun h5=>f1<|sP (x':=v1) .box .id sz68k1 rfl rfl (fT h5) rfl<|fz (t:=7) rfl<|ns<|m_ rfl<|m_ rfl<|ov (OpV.mkf rfl) rfl<|cx Tryz.call191 rfl (o82 h7 _)<|m_ rfl<|oE rfl<|oE rfl<|a_ rfl<|a_ rfl<|nt<|sq<|sr<|mb rfl<|nt<|it hF rfl (fun hF=>?_) (fun hF=>?_)
 ·refine dr<|sr<|m_ rfl<|a_ rfl<|a_ rfl<|a_ rfl<|nt<|rt<|tV (K:=kSl K10) (x:=[]) (t:=4) rfl rdN ?_
  cases osi hF
  exact rs Tryz.results139 (.tm rfl (.tm rfl (.tm rfl .nil))) rfl rfl
 ·refine ct<|sr<|oL kt68k rfl<|Under.rawR (t:=23) rfl<|m_ rfl<|a_ rfl<|a_ rfl<|a_ rfl<|nl<|fzO (t:=4) rfl<|tn<|rc ?_
  cases osi hF
  exact rs Tryz.results139 (.tm rfl (.tm rfl (.tm rfl .nil))) rfl rfl
noncomputable def lb (a0:Int):Option (List Int):=
 (((Loop.run (S:=((List Int)×Int)) (R:=(List Int)) (fun(yA,xA)=>
   bif decide (xA≥2) then
    (app yA [xA]).bind fun zA=>
    some (.next (zA,IntKind.wrap .i64 (xA - 1)))
   else
    some (.done yA)) ([],a0)).bind fun hA=>
 some hA
  :Option (List Int))).bind fun bA=>
 some bA
theorem o84 {a0:Int} {r0:(List Int)} (hF:lb a0=some r0) (L:List Res):Ok Tryz.prog 141 [SV.raw (.int .i64 a0)] L (SV.val K8 r0) L:=by
 unfold lb at hF
 refine okI 15 Tryz.func141 rfl rfl rfl fun F0=>?_
 refine bs hF fun zA bA hF=>sr<|a_ rfl<|ns<|a_ rfl<|nt<|sq<|afr (r:=zA) (fun zA=>[(3,.val K8 zA)]) (fun zA=>(L)) ?_ fun K vA=>?_
 ·refine sr<|m_ rfl<|a_ rfl<|nt<|rc ?_
  cases osi hF
  exact rs Tryz.results141 (.tm rfl .nil) rfl rfl
 ·refine bs bA fun qA oA bA=>sr<|m_ rfl<|a_ rfl<|nt<|bk<|Under.ownNil (K:=kInt .i64) (e:=3)<|lp oA (C:=Value) (.slice none 0 0) (fun yA hA=>[(3,.raw hA),(4,.raw (.int .i64 yA.2))]) (fun yA hA=>(.own K10 hA 3 yA.1)::L) rfl rfl fun yA hA rA xA kA=>?_
  obtain⟨wA,dA⟩:=yA
  dsimp only at xA⊢
  refine sq<|sr<|mb rfl<|nt<|it xA rfl (fun xA=>?_) (fun xA=>?_)
  ·exact bs xA fun gA eA xA=>ct<|sq<|bk<|rg<|m_ rfl<|m_ rfl<|bF (ys:=[dA]) Tryz.underlying68 ET3 (BldA.cons rfl rfl rdI (BldA.nil _)) rfl rfl<|ap eA Tryz.underlying68 AT3 rfl rfl rdV rfl fun cA=>a_ rfl<|nl<|bN<|tn<|rg<|mb rfl<|a_ rfl<|nl<|nx cA xA rfl rfl
  ·refine fzO (t:=3) rfl<|xt<|te ?_
   cases ai xA kA
   exact te<|bh<|tn<|wr (vA _ (osi bA).symm) rfl
noncomputable def iz (a0:Int):Option (List Int):=
 (((Loop.run (S:=((List Int)×Int)) (R:=(List Int)) (fun(yA,xA)=>
   bif decide (xA<(max a0 0)) then
    (app yA [xA]).bind fun zA=>
    some (.next (zA,IntKind.wrap .i64 (xA+1)))
   else
    some (.done yA)) ([],0)).bind fun hA=>
 some hA
  :Option (List Int))).bind fun bA=>
 some bA
theorem o85 {a0:Int} {r0:(List Int)} (hF:iz a0=some r0) (L:List Res):OkX Tryz.prog 193 [SV.raw (.int .i64 a0)] L (fun y:Value=>SV.raw y) (fun y:Value=>(.own K10 y 3 r0)::L):=by
 unfold iz at hF
 refine OkX.intro 16 [(0,.raw (.int .i64 a0))] Tryz.func193 rfl rfl rfl rfl fun F0=>?_
 refine bs hF fun kA bA hF=>sr<|a_ rfl<|ns<|a_ rfl<|nt<|sq<|Under.after (fun X=>∀(vA:List Int) (zA:Value),kA=vA→Under F0 16 [(3,.raw zA)] ((.own K10 zA 3 vA)::L) X) ?_ ?_
 ·intro vA zA oA
  replace oA:=oA.symm
  subst oA
  refine sr<|m_ rfl<|a_ rfl<|nt<|rc ?_
  cases osi hF
  exact Under.retsX zA Tryz.results193 (.tm rfl .nil) rfl rfl
 ·intro K dA
  refine bs bA fun gA eA bA=>sr<|m_ rfl<|ov (OpV.max2 rfl rfl) rfl<|m_ rfl<|nt<|bk<|Under.ownNil (K:=kInt .i64) (e:=3)<|lp eA (C:=Value) (.slice none 0 0) (fun yA hA=>[(3,.raw hA),(6,.raw (.int .i64 (max a0 0))),(7,.raw (.int .i64 yA.2))]) (fun yA hA=>(.own K10 hA 3 yA.1)::L) rfl rfl fun yA hA mA xA cA=>?_
  obtain⟨nA,qA⟩:=yA
  dsimp only at xA⊢
  refine sr<|b_ rfl<|nt<|sq<|it xA rfl (fun xA=>?_) (fun xA=>?_)
  ·exact bs xA fun pA rA xA=>ct<|sq<|bk<|sr<|m_ rfl<|a_ rfl<|nt<|rg<|m_ rfl<|m_ rfl<|bF (ys:=[qA]) Tryz.underlying68 ET3 (BldA.cons rfl rfl rdI (BldA.nil _)) rfl rfl<|ap rA Tryz.underlying68 AT3 rfl rfl rdV rfl fun wA=>a_ rfl<|nl<|bN<|tn<|rg<|b_ rfl<|m_ rfl<|nl<|nx wA xA rfl rfl
  ·refine xt<|te ?_
   cases ai xA cA
   exact te<|bh<|tn<|wr (dA _ _ (osi bA).symm) rfl
noncomputable def mF (a0:Int) (a1:List Int):Option ((List Int)×Int):=
 bif decide (a0<0) then
  some ([],2)
 else
  bif (a1.length:Int) != (max (IntKind.wrap .i64 (a0 - 1)) 0) then
   some ([],110)
  else
   (((Loop.run (S := Int) (R := (Unit ⊕ ((List Int) × Int))) (fun zA =>
     bif decide (zA<(a1.length:Int)) then
      (idx a1 zA).bind fun bA=>
      bif (decide (bA<0))||(decide (bA≥(IntKind.wrap .i64 (a0 - zA)))) then
       some (.done (.inr ([],110)))
      else
       some (.next (IntKind.wrap .i64 (zA+1)))
     else
      some (.done (.inl ()))) 0).bind fun oA=>match oA with
    | .inl _=>
     some (.inr ())
    | .inr z=>
     some (.inl z)
    : Option (((List Int) × Int) ⊕ Unit))).bind fun eA => match eA with
    | .inl z=>
     some z
    | .inr _=>
     (iz a0).bind fun cA=>
     (((Loop.run (S:=((List Int)×Int)) (R:=(List Int)) (fun(yA,xA)=>
       bif decide (xA<(a1.length:Int)) then
        (idx a1 xA).bind fun hA=>
        (idx yA hA).bind fun vA=>
        (idx yA (IntKind.wrap .i64 ((IntKind.wrap .i64 (a0 - 1)) - xA))).bind fun kA=>
        (idx yA (IntKind.wrap .i64 ((IntKind.wrap .i64 (a0 - 1)) - xA))).bind fun qA=>
        (idx (List.set yA (Int.toNat (IntKind.wrap .i64 ((IntKind.wrap .i64 (a0 - 1)) - xA))) vA) hA).bind fun rA=>
        some (.next (List.set (List.set yA (Int.toNat (IntKind.wrap .i64 ((IntKind.wrap .i64 (a0 - 1)) - xA))) vA) (Int.toNat hA) kA,IntKind.wrap .i64 (xA+1)))
       else
        some (.done yA)) (cA,0)).bind fun dA=>
     some dA
      :Option (List Int))).bind fun wA=>
     some (wA,0)
theorem o86 {a0:Int} {a1:List Int} {r0:((List Int)×Int)} (hF:mF a0 a1=some r0) (L:List Res):Ok Tryz.prog 142 [SV.raw (.int .i64 a0),SV.val K8 a1] L (SV.tup [SV.val K8 r0.1,SV.raw (.int .i64 r0.2)]) L:=by
 unfold mF at hF
 refine okI 66 Tryz.func142 rfl rfl rfl fun F0=>?_
 refine sr<|a_ rfl<|a_ rfl<|nt<|sq<|sr<|mb rfl<|nt<|it hF rfl (fun hF=>?_) (fun hF=>?_)
 ·refine sr<|a_ rfl<|a_ rfl<|nt<|rt<|tV (K:=kSl K10) (x:=[]) (t:=4) rfl rdN ?_
  cases osi hF
  exact rs Tryz.results142 (.tm rfl (.tm rfl .nil)) rfl rfl
 ·refine ct<|sq<|sr<|m_ rfl<|oN Tryz.underlying68 rfl<|mb rfl<|ov (OpV.max2 rfl rfl) rfl<|b_ rfl<|nt<|it hF rfl (fun hF=>?_) (fun hF=>?_)
  ·refine sr<|a_ rfl<|a_ rfl<|nt<|rt<|tV (K:=kSl K10) (x:=[]) (t:=4) rfl rdN ?_
   cases osi hF
   exact rs Tryz.results142 (.tm rfl (.tm rfl .nil)) rfl rfl
  ·refine bs hF fun cB xB hF=>ct<|sq<|Under.after (fun X=>∀(_:Unit),cB=(.inr ())→Under F0 66 [(0,.raw (.int .i64 a0)),(1,.val K8 a1)] (L) X) ?_ ?_
   ·intro _ cA
    replace cA:=cA.symm
    subst cA
    refine bs hF fun uB qB hF=>sr<|m_ rfl<|Under.callX Tryz.call193 rfl rfl (o85 qB _) rfl ?_
    rintro bA
    refine bs hF fun yB zB hF=>a_ rfl<|nt<|sq<|afr (r:=yB) (fun yB=>[(8,.val K8 yB)]) (fun yB=>(L)) ?_ fun K hB=>?_
    ·refine sr<|m_ rfl<|a_ rfl<|a_ rfl<|nt<|rc ?_
     cases osi hF
     exact rs Tryz.results142 (.tm rfl (.tm rfl .nil)) rfl rfl
    ·refine bs zB fun rB bB zB=>sr<|m_ rfl<|oN Tryz.underlying68 rfl<|m_ rfl<|nt<|bk<|lp bB () (fun oA pA=>[(0,.raw (.int .i64 a0)),(8,.raw bA),(39,.val K8 a1),(40,.raw (.int .i64 (a1.length:Int))),(41,.raw (.int .i64 oA.2))]) (fun oA pA=>(.own K10 bA 3 oA.1)::L) rfl rfl fun oA pA wB xA vB=>?_
     obtain⟨hA,vA⟩:=oA
     dsimp only at xA⊢
     refine sr<|b_ rfl<|nt<|sq<|it xA rfl (fun xA=>?_) (fun xA=>?_)
     ·refine bs xA fun kA oB xA=>bs xA fun dA qA xA=>bs xA fun rA wA xA=>bs xA fun gB gA xA=>bs xA fun mB mA xA=>ct<|sq<|bk<|sr<|m_ rfl<|oS oB Tryz.underlying68 sz3 rfl<|oI kt3 rfl<|a_ rfl<|a_ rfl<|ns<|mb rfl<|mb rfl<|a_ rfl<|nt<|ph rfl<|Under.grpT (L:=L) [0,1,2,3,4,5,6,7,8,9,10,11,12,13] [[8],[11],[8],[10],[8],[10],[54,55],[56],[8],[11],[58,59],[60],[50,51],[57,62]] [⟨sk0 (.raw bA),[],[],[]⟩,⟨sk0 (.raw (.int .i64 (IntKind.wrap .i64 ((IntKind.wrap .i64 (a0 - 1)) - vA)))),[],[],[]⟩,⟨sk0 (.raw bA),[],[],[]⟩,⟨sk0 (.raw (.int .i64 kA)),[],[],[]⟩,⟨sk0 (.raw bA),[],[],[]⟩,⟨sk0 (.raw (.int .i64 kA)),[],[],[]⟩,⟨sk0 (.raw (.pointer (some ⟨(pg bA),0+Int.toNat kA*1,none⟩))),[],[],[0]⟩,⟨sk0 (.raw (.int .i64 dA)),[],[],[0]⟩,⟨sk0 (.raw bA),[],[],[]⟩,⟨sk0 (.raw (.int .i64 (IntKind.wrap .i64 ((IntKind.wrap .i64 (a0 - 1)) - vA)))),[],[],[]⟩,⟨sk0 (.raw (.pointer (some ⟨(pg bA),0+Int.toNat (IntKind.wrap .i64 ((IntKind.wrap .i64 (a0 - 1)) - vA))*1,none⟩))),[],[],[0]⟩,⟨sk0 (.raw (.int .i64 rA)),[],[],[0]⟩,⟨sk0 (.raw (.pointer (some ⟨(pg bA),0+Int.toNat (IntKind.wrap .i64 ((IntKind.wrap .i64 (a0 - 1)) - vA))*1,none⟩))),[],[],[0]⟩,⟨sk0 (.raw undef),[0],[(1,tk0 (.own K10 bA 3 (List.set hA (Int.toNat (IntKind.wrap .i64 ((IntKind.wrap .i64 (a0 - 1)) - vA))) dA)))],[]⟩] [(0,.own K10 bA 3 hA)] (fun T:List Res=>T) lf0 rfl (by kernel_rfl) rfl rfl (fun F hF0 eB=>?_)
      refine Tq.v (fun G T hG=>?_) ?_
      ·exact m_ rfl<|Tq.end undef rfl rfl
      refine Tq.v (fun G T hG=>?_) ?_
      ·exact m_ rfl<|Tq.end undef rfl rfl
      refine Tq.v (fun G T hG=>?_) ?_
      ·exact m_ rfl<|Tq.end undef rfl rfl
      refine Tq.v (fun G T hG=>?_) ?_
      ·exact m_ rfl<|Tq.end undef rfl rfl
      refine Tq.v (fun G T hG=>?_) ?_
      ·exact m_ rfl<|Tq.end undef rfl rfl
      refine Tq.v (fun G T hG=>?_) ?_
      ·exact m_ rfl<|Tq.end undef rfl rfl
      refine Tq.r1 (.raw (.pointer (some ⟨(pg bA),0+Int.toNat kA*1,none⟩))) [.own K10 bA 3 hA] rfl rfl (fun G T hG=>?_) ?_
      ·exact ov (OpV.ixO qA Tryz.underlying68 sz3k rfl rfl) rfl<|Tq.end undef rfl rfl
      refine Tq.r1 (.raw (.int .i64 dA)) [.own K10 bA 3 hA] rfl rfl (fun G T hG=>?_) ?_
      ·exact lP (.own qA) (.ix .id qA) kt3k rfl rfl<|rI (t:=57) rfl<|Tq.end undef rfl rfl
      refine Tq.v (fun G T hG=>?_) ?_
      ·exact m_ rfl<|Tq.end undef rfl rfl
      refine Tq.v (fun G T hG=>?_) ?_
      ·exact m_ rfl<|Tq.end undef rfl rfl
      refine Tq.r1 (.raw (.pointer (some ⟨(pg bA),0+Int.toNat (IntKind.wrap .i64 ((IntKind.wrap .i64 (a0 - 1)) - vA))*1,none⟩))) [.own K10 bA 3 hA] rfl rfl (fun G T hG=>?_) ?_
      ·exact ov (OpV.ixO wA Tryz.underlying68 sz3k rfl rfl) rfl<|Tq.end undef rfl rfl
      refine Tq.r1 (.raw (.int .i64 rA)) [.own K10 bA 3 hA] rfl rfl (fun G T hG=>?_) ?_
      ·exact lP (.own wA) (.ix .id wA) kt3k rfl rfl<|rI (t:=61) rfl<|Tq.end undef rfl rfl
      refine Tq.r1 (.raw (.pointer (some ⟨(pg bA),0+Int.toNat (IntKind.wrap .i64 ((IntKind.wrap .i64 (a0 - 1)) - vA))*1,none⟩))) [.own K10 bA 3 hA] rfl rfl (fun G T hG=>?_) ?_
      ·exact ov (OpV.ixO gA Tryz.underlying68 sz3k rfl rfl) rfl<|Tq.end undef rfl rfl
      refine Tq.st0 [.own K10 bA 3 hA] rfl (fun G T hG=>?_) ?_
      ·exact sP (x':=List.set hA (Int.toNat (IntKind.wrap .i64 ((IntKind.wrap .i64 (a0 - 1)) - vA))) dA) (.own gA) (.ix .id gA) sz3k rfl rfl rdI rfl<|Tq.end0 undef rfl
      exact Tq.nil<|Under.le hF0<|p1 14 rfl rfl<|ov (OpV.ixO mA Tryz.underlying68 sz3k rfl rfl) rfl<|pn<|p1 15 rfl rfl<|sP (x':=List.set (List.set hA (Int.toNat (IntKind.wrap .i64 ((IntKind.wrap .i64 (a0 - 1)) - vA))) dA) (Int.toNat kA) rA) (.own mA) (.ix .id mA) sz3k rfl rfl rdI rfl<|pn<|pd rfl<|bN<|tn<|rg<|b_ rfl<|m_ rfl<|nl<|nx () xA rfl rfl
     ·refine fzO (t:=8) rfl<|xt<|te ?_
      cases ai xA vB
      exact te<|bh<|tn<|wr (hB _ (osi zB).symm) rfl
   ·intro K nB
    refine bs xB fun pB kB xB=>sr<|m_ rfl<|oN Tryz.underlying68 rfl<|m_ rfl<|nt<|bk<|lp kB () (fun eA tA=>[(0,.raw (.int .i64 a0)),(1,.val K8 a1),(20,.val K8 a1),(21,.raw (.int .i64 (a1.length:Int))),(22,.raw (.int .i64 eA))]) (fun eA tA=>L) rfl rfl fun eA tA tB zA uA=>?_
    refine sr<|b_ rfl<|nt<|sq<|it zA rfl (fun zA=>?_) (fun zA=>?_)
    ·refine bs zA fun nA dB zA=>ct<|sq<|bk<|sr<|m_ rfl<|oS dB Tryz.underlying68 sz3 rfl<|oI kt3 rfl<|a_ rfl<|a_ rfl<|ns<|mb rfl<|m_ rfl<|nK 35 ((decide (nA<0))||(decide (nA≥(IntKind.wrap .i64 (a0 - eA))))) ?_ (fun k=>?_)
     ·refine nt<|it zA rfl (fun zA=>?_) (fun zA=>?_)
      ·refine sr<|a_ rfl<|a_ rfl<|nt<|rc<|Under.bR<|tr ?_
       cases ai zA uA
       refine tr<|Under.bR<|tr ?_
       cases osi xB
       refine tV (K:=kSl K10) (x:=[]) (t:=4) rfl rdN ?_
       cases osi hF
       exact rs Tryz.results142 (.tm rfl (.tm rfl .nil)) rfl rfl
      ·exact cs<|bN<|tn<|rg<|b_ rfl<|m_ rfl<|nl<|nx () zA rfl rfl
     ·refine by_ (t:=29) rfl (fun yA=>?_) (fun yA=>?_)
      ·exact sk_ yA rfl<|sk_ yA rfl<|sk_ yA rfl<|sk_ yA rfl<|sk_ yA rfl<|pT yA rfl<|rf 5 (or_t (e:=decide (nA≥(IntKind.wrap .i64 (a0 - eA)))) yA) rfl k
      ·exact gc_ yA rfl<|m_ rfl<|gc_ yA rfl<|m_ rfl<|gc_ yA rfl<|m_ rfl<|gc_ yA rfl<|b_ rfl<|gc_ yA rfl<|b_ rfl<|pF yA rfl<|rf 5 (or_f yA) rfl k
    ·refine xt<|te ?_
     cases ai zA uA
     exact te<|bh<|tn<|wr (nB () (osi xB).symm) rfl
noncomputable def lf (a0:List Int):Option (Int×Bool):=
 bif (decide ((a0.length:Int)<1))||(decide ((a0.length:Int)>64)) then
  some (0,false)
 else
  (((Loop.run (S := (Int × Int)) (R := (Int ⊕ (Int × Bool))) (fun (zA, xA) =>
    bif decide (xA<(a0.length:Int)) then
     (idx a0 xA).bind fun yA=>
     bif (decide (yA<0))||(decide (yA>256)) then
      some (.done (.inr (0,false)))
     else
      some (.next (IntKind.wrap .i64 (zA+yA),IntKind.wrap .i64 (xA+1)))
    else
     some (.done (.inl zA))) (0,0)).bind fun hA=>match hA with
   | .inl bA=>
    some (.inr bA)
   | .inr z=>
    some (.inl z)
   : Option ((Int × Bool) ⊕ Int))).bind fun vA => match vA with
   | .inl z=>
    some z
   | .inr x39=>
    some (x39,decide (x39≤256))
theorem o87 {a0:List Int} {r0:(Int×Bool)} (hF:lf a0=some r0) (L:List Res):Ok Tryz.prog 194 [SV.val K8 a0] L (SV.tup [SV.raw (.int .i64 r0.1),SV.raw (.bool r0.2)]) L:=by
 unfold lf at hF
 refine okI 34 Tryz.func194 rfl rfl rfl fun F0=>?_
 refine sr<|a_ rfl<|a_ rfl<|nt<|sq<|sr<|m_ rfl<|oN Tryz.underlying68 rfl<|b_ rfl<|m_ rfl<|bt 14 ((decide ((a0.length:Int)<1))||(decide ((a0.length:Int)>64))) ?_ (fun k=>?_)
 ·refine nt<|it hF rfl (fun hF=>?_) (fun hF=>?_)
  ·refine sr<|a_ rfl<|a_ rfl<|nt<|rt ?_
   cases osi hF
   exact rs Tryz.results194 (.tm rfl (.tm rfl .nil)) rfl rfl
  ·refine bs hF fun eA hA hF=>ct<|sr<|a_ rfl<|nt<|sq<|Under.after (fun X=>∀(bA:Int),eA=(.inr bA)→Under F0 34 [(4,.raw (.int .i64 bA))] (L) X) ?_ ?_
   ·intro bA vA
    replace vA:=vA.symm
    subst vA
    refine sr<|m_ rfl<|mb rfl<|a_ rfl<|a_ rfl<|nt<|rc ?_
    cases osi hF
    exact rs Tryz.results194 (.tm rfl (.tm rfl .nil)) rfl rfl
   ·intro K cA
    refine bs hA fun wA qA hA=>sr<|m_ rfl<|oN Tryz.underlying68 rfl<|m_ rfl<|nt<|bk<|lp qA () (fun zA kA=>[(4,.raw (.int .i64 zA.1)),(15,.val K8 a0),(16,.raw (.int .i64 (a0.length:Int))),(17,.raw (.int .i64 zA.2))]) (fun zA kA=>L) rfl rfl fun zA kA gA xA dA=>?_
    obtain⟨mA,nA⟩:=zA
    dsimp only at xA⊢
    refine sr<|b_ rfl<|nt<|sq<|it xA rfl (fun xA=>?_) (fun xA=>?_)
    ·refine bs xA fun oA rA xA=>ct<|sq<|bk<|sr<|oS rA Tryz.underlying68 sz3 rfl<|oI kt3 rfl<|a_ rfl<|nt<|sq<|sr<|mb rfl<|m_ rfl<|cN 26 ((decide (oA<0))||(decide (oA>256))) ?_ (fun k=>?_)
     ·refine nt<|it xA rfl (fun xA=>?_) (fun xA=>?_)
      ·refine sr<|a_ rfl<|a_ rfl<|nt<|rt<|Under.bR<|tr ?_
       cases ai xA dA
       refine tr<|Under.bR<|tr ?_
       cases osi hA
       cases osi hF
       exact rs Tryz.results194 (.tm rfl (.tm rfl .nil)) rfl rfl
      ·exact ct<|rg<|m_ rfl<|mb rfl<|a_ rfl<|nl<|bN<|tn<|rg<|b_ rfl<|m_ rfl<|nl<|nx () xA rfl rfl
     ·refine by_ (t:=23) rfl (fun yA=>?_) (fun yA=>?_)
      ·exact sk_ yA rfl<|sk_ yA rfl<|pT yA rfl<|rf 2 (or_t (e:=decide (oA>256)) yA) rfl k
      ·exact gc_ yA rfl<|m_ rfl<|gc_ yA rfl<|b_ rfl<|pF yA rfl<|rf 2 (or_f yA) rfl k
    ·refine xt<|te ?_
     cases ai xA dA
     exact te<|bh<|tn<|wr (cA _ (osi hA).symm) rfl
 ·refine by_ (t:=10) rfl (fun c1=>?_) (fun c1=>?_)
  ·exact sk_ c1 rfl<|sk_ c1 rfl<|sk_ c1 rfl<|pT c1 rfl<|rf 3 (or_t (e:=decide ((a0.length:Int)>64)) c1) rfl k
  ·exact gc_ c1 rfl<|m_ rfl<|gc_ c1 rfl<|oN Tryz.underlying68 rfl<|gc_ c1 rfl<|b_ rfl<|pF c1 rfl<|rf 3 (or_f c1) rfl k
end Go.Proofs.YtobbmodjdkcdcaaGreatDoor

import Derived.Test.YtdkfkpbijdimkaaGreatDoorTh1
set_option linter.unusedVariables false
set_option linter.unusedSimpArgs false
set_option maxRecDepth 20000
namespace Go.Proofs.YtdkfkpbijdimkaaGreatDoor
open Go Go.Sim Go.ChangeShapes Go.WideShapes Go.ChangeAt Go.RowKit
set_option linter.unusedSectionVars false
variable [Fu]
noncomputable def bc (a0:List Int) (a1:Int):Option (List Int):=
 (((Loop.run (S:=(Int×(List Int))) (R:=(List Int)) (fun(xA,hA)=>
   bif decide (xA<4) then
    (((Loop.run (S:=(Int×(List Int))) (R:=(List Int)) (fun(yA,zA)=>
      bif decide (yA<4) then
       (idx a0 (IntKind.wrap .i64 ((IntKind.wrap .i64 (4*(Int.tmod (IntKind.wrap .i64 (yA+(IntKind.wrap .i64 (xA*a1)))) 4)))+xA))).bind fun bA=>
       (idx zA (IntKind.wrap .i64 ((IntKind.wrap .i64 (4*yA))+xA))).bind fun eA=>
       some (.next (IntKind.wrap .i64 (yA+1),List.set zA (Int.toNat (IntKind.wrap .i64 ((IntKind.wrap .i64 (4*yA))+xA))) bA))
      else
       some (.done zA)) (0,hA)).bind fun vA=>
    some vA
     :Option (List Int))).bind fun oA=>
    some (.next (IntKind.wrap .i64 (xA+1),oA))
   else
    some (.done hA)) (0,(List.replicate 16 (0:Int)))).bind fun kA=>
 some kA
  :Option (List Int))).bind fun dA=>
 some dA
theorem o32 {a0:List Int} {a1:Int} {r0:(List Int)} (hF:bc a0 a1=some r0) (L:List Res):Ok Tryz.prog 148 [SV.val K6 a0,SV.raw (.int .i64 a1)] L (SV.val K6 r0) L:=by
 unfold bc at hF
 refine okI 33 Tryz.func148 rfl rfl rfl fun F0=>?_
 refine bs hF fun zA kA hF=>sr<|bX (K:=kArr 16 K10) rfl rdV rfl<|al ZT209 rfl fun b1=>ns<|al ZT209 rfl fun b2=>nt<|sq<|afr (r:=zA) (fun zA=>[(4,pb b1),(5,.ptr K6 zA)]) (fun zA=>((.box K6 b1 209 (List.replicate 16 (0:Int)))::L)) ?_ fun K rA=>?_
 ·refine sr<|oL kt209 rfl<|sP (x':=zA) .box .id sz209k rfl rfl rdV rfl<|nl<|fz (t:=4) rfl<|tn<|rc ?_
  cases osi hF
  exact rs Tryz.results148 (.ce rfl kt209 .nil) rfl rfl
 ·refine bs kA fun zB wA kA=>sr<|m_ rfl<|nt<|bk<|f1<|lp wA () (fun hA eA=>[(1,.raw (.int .i64 a1)),(2,.ptr K6 a0),(4,pb b1),(5,pb b2),(8,.raw (.int .i64 hA.1))]) (fun hA eA=>(.box K6 b1 209 (List.replicate 16 (0:Int)))::(.box K6 b2 209 hA.2)::L) rfl rfl fun hA eA hB yA gA=>?_
  obtain⟨vA,bB⟩:=hA
  dsimp only at yA⊢
  refine sr<|b_ rfl<|nt<|sq<|it yA rfl (fun yA=>?_) (fun yA=>?_)
  ·refine bs yA fun oA dA yA=>ct<|sq<|afr (r:=oA) (fun oA=>[(1,.raw (.int .i64 a1)),(2,.ptr K6 a0),(4,pb b1),(5,pb b2),(8,.raw (.int .i64 vA))]) (fun oA=>((.box K6 b1 209 (List.replicate 16 (0:Int)))::(.box K6 b2 209 oA)::L)) ?_ fun K mA=>?_
   ·exact rg<|b_ rfl<|m_ rfl<|nl<|nx () yA rfl rfl
   ·refine bs dA fun vB nA dA=>bk<|sr<|m_ rfl<|a_ rfl<|ns<|m_ rfl<|nt<|bk<|lp nA () (fun bA cA=>[(1,.raw (.int .i64 a1)),(2,.ptr K6 a0),(4,pb b1),(5,pb b2),(6,.raw (.int .i64 vA)),(8,.raw (.int .i64 vA)),(11,.raw (.int .i64 bA.1))]) (fun bA cA=>(.box K6 b1 209 (List.replicate 16 (0:Int)))::(.box K6 b2 209 bA.2)::L) rfl rfl fun bA cA oB xA pA=>?_
    obtain⟨tA,uA⟩:=bA
    dsimp only at xA⊢
    refine sr<|b_ rfl<|nt<|sq<|it xA rfl (fun xA=>?_) (fun xA=>?_)
    ·exact bs xA fun xB yB xA=>bs xA fun kB qA xA=>ct<|sq<|bk<|sr<|m_ rfl<|a_ rfl<|nt<|rg<|mb rfl<|mb rfl<|m_ rfl<|m_ rfl<|mb rfl<|b_ rfl<|ov (OpV.quo rfl rfl (by decide) rfl) rfl<|b_ rfl<|mb rfl<|ov (OpV.ixA yB Tryz.underlying209 sz5 rfl rfl) rfl<|oI kt5 rfl<|f1<|oX .box .id qA Tryz.underlying209 sz5k rfl<|sP (x':=List.set uA (Int.toNat (IntKind.wrap .i64 ((IntKind.wrap .i64 (4*tA))+vA))) xB) .box (.ix .id qA) sz5k rfl rfl rdI rfl<|nl<|bN<|tn<|rg<|b_ rfl<|m_ rfl<|nl<|f1<|nx () xA rfl rfl
    ·refine xt<|te ?_
     cases aj xA pA
     exact te<|bh<|bN<|tn<|wr (mA _ (osi dA).symm) rfl
  ·refine f1<|fz (t:=5) rfl<|xt<|te ?_
   cases aj yA gA
   exact te<|bh<|tn<|wr (rA _ (osi kA).symm) rfl
noncomputable def dU (a0:List Int) (a1:List Int):Option (List Int):=
 (((Loop.run (S:=(Int×(List Int))) (R:=(List Int)) (fun(xA,hA)=>
   bif decide (xA<4) then
    (((Loop.run (S:=(Int×(List Int))) (R:=(List Int)) (fun(yA,zA)=>
      bif decide (yA<4) then
       (idx zA xA).bind fun bA=>
       (idx a1 (Int.tmod (IntKind.wrap .i64 ((IntKind.wrap .i64 (yA - xA))+4)) 4)).bind fun vA=>
       (idx a0 yA).bind fun oA=>
       (bj vA oA).bind fun kA=>
       (idx zA xA).bind fun rA=>
       some (.next (IntKind.wrap .i64 (yA+1),List.set zA (Int.toNat xA) (xorI .u8 bA kA)))
      else
       some (.done zA)) (0,hA)).bind fun dA=>
    some dA
     :Option (List Int))).bind fun eA=>
    some (.next (IntKind.wrap .i64 (xA+1),eA))
   else
    some (.done hA)) (0,(List.replicate 4 (0:Int)))).bind fun cA=>
 some cA
  :Option (List Int))).bind fun qA=>
 some qA
theorem o33 {a0 a1:List Int} {r0:(List Int)} (hF:dU a0 a1=some r0) (L:List Res):Ok Tryz.prog 182 [SV.val K7 a0,SV.val K7 a1] L (SV.val K7 r0) L:=by
 unfold dU at hF
 refine okI 33 Tryz.func182 rfl rfl rfl fun F0=>?_
 refine bs hF fun hA dA hF=>sr<|bX (K:=kArr 4 K10) rfl rdV rfl<|bX (K:=kArr 4 K10) rfl rdV rfl<|al ZT260 rfl fun b1=>ns<|al ZT260 rfl fun b2=>nt<|sq<|afr (r:=hA) (fun hA=>[(4,pb b1),(5,.ptr K7 hA)]) (fun hA=>((.box K7 b1 260 (List.replicate 4 (0:Int)))::L)) ?_ fun K wA=>?_
 ·refine sr<|oL kt260 rfl<|sP (x':=hA) .box .id sz260k rfl rfl rdV rfl<|nl<|fz (t:=4) rfl<|tn<|rc ?_
  cases osi hF
  exact rs Tryz.results182 (.ce rfl kt260 .nil) rfl rfl
 ·refine bs dA fun vB gA dA=>sr<|m_ rfl<|nt<|bk<|f1<|lp gA () (fun yA kA=>[(2,.ptr K7 a0),(3,.ptr K7 a1),(4,pb b1),(5,pb b2),(8,.raw (.int .i64 yA.1))]) (fun yA kA=>(.box K7 b1 260 (List.replicate 4 (0:Int)))::(.box K7 b2 260 yA.2)::L) rfl rfl fun yA kA oB zA mA=>?_
  obtain⟨vA,kB⟩:=yA
  dsimp only at zA⊢
  refine sr<|b_ rfl<|nt<|sq<|it zA rfl (fun zA=>?_) (fun zA=>?_)
  ·refine bs zA fun oA eA zA=>ct<|sq<|afr (r:=oA) (fun oA=>[(2,.ptr K7 a0),(3,.ptr K7 a1),(4,pb b1),(5,pb b2),(8,.raw (.int .i64 vA))]) (fun oA=>((.box K7 b1 260 (List.replicate 4 (0:Int)))::(.box K7 b2 260 oA)::L)) ?_ fun K nA=>?_
   ·exact rg<|b_ rfl<|m_ rfl<|nl<|nx () zA rfl rfl
   ·refine bs eA fun dB pA eA=>bk<|sr<|m_ rfl<|a_ rfl<|ns<|m_ rfl<|nt<|bk<|lp pA () (fun bA cA=>[(2,.ptr K7 a0),(3,.ptr K7 a1),(4,pb b1),(5,pb b2),(6,.raw (.int .i64 vA)),(8,.raw (.int .i64 vA)),(11,.raw (.int .i64 bA.1))]) (fun bA cA=>(.box K7 b1 260 (List.replicate 4 (0:Int)))::(.box K7 b2 260 bA.2)::L) rfl rfl fun bA cA eB xA tA=>?_
    obtain⟨cB,uA⟩:=bA
    dsimp only at xA⊢
    refine sr<|b_ rfl<|nt<|sq<|it xA rfl (fun xA=>?_) (fun xA=>?_)
    ·exact bs xA fun xB qA xA=>bs xA fun qB yB xA=>bs xA fun rB zB xA=>bs xA fun hB bB xA=>bs xA fun wB rA xA=>ct<|sq<|bk<|sr<|m_ rfl<|a_ rfl<|nt<|ph rfl<|gV [0,1,2,3,4,5,6,7,8,9,10,11,12,13] [[6],[5,14],[15],[7],[6],[17,18],[19],[20],[3,21],[22],[7],[2,24],[25],[23,26]] 2 (by kernel_rfl) rfl<|vm_ rfl<|Vq.v (fun G T hG=>f1<|oX .box .id qA Tryz.underlying260 sz5k rfl<|f1<|Vq.end rfl)<|Vq.v (fun G T hG=>f1<|lP .box (.ix .id qA) kt5k rfl rfl<|rI (t:=16) rfl<|f1<|Vq.end rfl)<|vm_ rfl<|vm_ rfl<|vb_ rfl<|vb_ rfl<|vo (fun _=>OpV.quo rfl rfl (by decide) rfl) rfl<|vo (fun _=>OpV.ixA yB Tryz.underlying260 sz5 rfl rfl) rfl<|vo (fun _=>OpV.ldI kt5 rfl) rfl<|vm_ rfl<|vo (fun _=>OpV.ixA zB Tryz.underlying260 sz5 rfl rfl) rfl<|vo (fun _=>OpV.ldI kt5 rfl) rfl<|Vq.v (fun G T hG=>cx Tryz.call143 rfl (o24 bB _)<|Vq.end rfl)<|vn<|p1 14 rfl rfl<|b_ rfl<|pn<|p1 15 rfl rfl<|f1<|oX .box .id rA Tryz.underlying260 sz5k rfl<|pn<|p1 16 rfl rfl<|sP (x':=List.set uA (Int.toNat vA) (xorI .u8 xB hB)) .box (.ix .id rA) sz5k rfl rfl rdI rfl<|pn<|pd rfl<|bN<|tn<|rg<|b_ rfl<|m_ rfl<|nl<|f1<|nx () xA rfl rfl
    ·refine xt<|te ?_
     cases aj xA tA
     exact te<|bh<|bN<|tn<|wr (nA _ (osi eA).symm) rfl
  ·refine f1<|fz (t:=5) rfl<|xt<|te ?_
   cases aj zA mA
   exact te<|bh<|tn<|wr (wA _ (osi dA).symm) rfl
noncomputable def cS (a0:List Int):Option (List Int):=
 (dU a0 [2,3,1,1]).bind fun y2=>
 some y2
theorem o34 {a0:List Int} {r0:(List Int)} (hF:cS a0=some r0) (L:List Res):Ok Tryz.prog 150 [SV.val K7 a0] L (SV.val K7 r0) L:=by
 unfold cS at hF
 refine okI 6 Tryz.func150 rfl rfl rfl fun F0=>?_
 refine bs hF fun y2 h3 hF=>sr<|bX (K:=kArr 4 K10) rfl rdV rfl<|al ZT260 rfl fun b1=>ns<|oL kt260 rfl<|ov (OpV.bar (ys:=[2,3,1,1]) BTA260 (BldA.cons rfl rfl rdI (BldA.cons rfl rfl rdI (BldA.cons rfl rfl rdI (BldA.cons rfl rfl rdI (BldA.nil _)))))) rfl<|cx Tryz.call182 rfl (o33 h3 _)<|sP (x':=y2) .box .id sz260k rfl rfl rdV rfl<|nl<|fz (t:=2) rfl<|tn<|rc ?_
 cases osi hF
 exact rs Tryz.results150 (.ce rfl kt260 .nil) rfl rfl
noncomputable def an (a0:List Int):Option (List Int):=
 (((Loop.run (S:=(Int×(List Int))) (R:=(List Int)) (fun(xA,yA)=>
   bif decide (xA<16) then
    bif decide ((0:Int)≤xA∧(xA:Int)≤(IntKind.wrap .i64 (xA+4))∧(IntKind.wrap .i64 (xA+4):Int)≤16) then
    bif decide (0<4∧(Int.toNat xA)+4≤(Int.toNat (IntKind.wrap .i64 (xA+4)))∧(Int.toNat (IntKind.wrap .i64 (xA+4)))≤16) then
    (cS (List.take 4 (List.drop (Int.toNat xA) yA))).bind fun zA=>
    bif decide ((0:Int)≤xA∧(xA:Int)≤16∧(16:Int)≤16) then
    bif decide ((Int.toNat xA)≤(Int.toNat 16)∧(Int.toNat 16)≤16) then
    some (.next (IntKind.wrap .i64 (xA+4),over yA (Int.toNat xA) (Int.toNat 16) zA))
    else none
    else none
    else none
    else none
   else
    some (.done yA)) (0,a0)).bind fun hA=>
 some hA
  :Option (List Int))).bind fun bA=>
 some bA
theorem o35 {a0:List Int} {r0:(List Int)} (hF:an a0=some r0) (L:List Res):Ok Tryz.prog 149 [SV.val K6 a0,SV.raw (.func (.func 150) #[] #[])] L (SV.val K6 r0) L:=by
 unfold an at hF
 refine okI 24 Tryz.func149 rfl rfl rfl fun F0=>?_
 refine bs hF fun zA kA hF=>sr<|Under.bx (K:=kArr 16 K10) rfl rdV rfl fun b1=>al ZT209 rfl fun b2=>nt<|sq<|afr (r:=zA) (fun zA=>[(2,.ptr K6 zA),(4,pb b2)]) (fun zA=>((.box K6 b2 209 (List.replicate 16 (0:Int)))::L)) ?_ fun K qA=>?_
 ·refine sr<|oL kt209 rfl<|sP (x':=zA) .box .id sz209k rfl rfl rdV rfl<|nl<|fz (t:=4) rfl<|tn<|rc ?_
  cases osi hF
  exact rs Tryz.results149 (.ce rfl kt209 .nil) rfl rfl
 ·refine bs kA fun nA rA kA=>sr<|a_ rfl<|nt<|bk<|f1<|lp rA () (fun hA eA=>[(1,.raw (.func (.func 150) #[] #[])),(2,pb b1),(4,pb b2),(5,.raw (.int .i64 hA.1))]) (fun hA eA=>(.box K6 b1 209 hA.2)::(.box K6 b2 209 (List.replicate 16 (0:Int)))::L) rfl rfl fun hA eA pA xA wA=>?_
  obtain⟨yA,gA⟩:=hA
  dsimp only at xA⊢
  refine sq<|sr<|mb rfl<|nt<|it xA rfl (fun xA=>?_) (fun xA=>?_)
  ·refine gs xA fun bA xA=>ct<|sq<|bk<|sr<|m_ rfl<|m_ rfl<|mb rfl ?_
   replace bA:(0:Int)≤yA∧(yA:Int)≤(IntKind.wrap .i64 (yA+4))∧(IntKind.wrap .i64 (yA+4):Int)≤16:=of_decide_eq_true bA
   refine gs xA fun dA xA=>bs xA fun cA mA xA=>gs xA fun vA xA=>ov (OpV.slP (l:=yA) (h:=IntKind.wrap .i64 (yA+4)) Tryz.underlying209 sz5k rfl rfl rfl (And.left bA) (And.left (And.right bA)) (And.right (And.right bA))) rfl<|ov (OpV.s2aP dA Tryz.underlying260 rfl) rfl<|lP .box (.sub .id (And.left (And.right (of_decide_eq_true dA))|>fun a=>Nat.le_trans a (And.right (And.right (of_decide_eq_true dA))))) kt260k rfl rfl<|cx Tryz.call150 rfl (o34 mA _)<|al ZT260 rfl fun tA=>sP (x':=cA) .box .id sz260k rfl rfl rdV rfl<|nl<|fz (t:=6) rfl<|tn ?_
   replace vA:(0:Int)≤yA∧(yA:Int)≤16∧(16:Int)≤16:=of_decide_eq_true vA
   obtain⟨oA,xA⟩:=gsome xA
   replace oA:(Int.toNat yA)≤(Int.toNat 16)∧(Int.toNat 16)≤16:=of_decide_eq_true oA
   exact ph rfl<|gV [0,1,2] [[5],[2,19],[6]] 2 (by kernel_rfl) rfl<|vm_ rfl<|Vq.v (fun G T hG=>ov (OpV.slP (l:=yA) (h:=16) Tryz.underlying209 sz5k rfl rfl rfl (And.left vA) (And.left (And.right vA)) (And.right (And.right vA))) rfl<|Vq.end rfl)<|vo (fun _=>OpV.slA Tryz.underlying260 sz5 rfl) rfl<|vn<|p1 3 rfl rfl<|Under.cpB (x':=over gA (Int.toNat yA) (Int.toNat 16) cA) .box .id (And.left oA) (And.right oA) (iT (And.right oA)) Tryz.underlying24 sz5k rfl rfl (.sl rdV) rfl rfl<|pn<|pd rfl<|bN<|tn<|rg<|mb rfl<|a_ rfl<|nl<|nx () xA rfl rfl
  ·refine fz (t:=2) rfl<|xt<|te ?_
   cases aj xA wA
   exact te<|bh<|tn<|wr (qA _ (osi kA).symm) rfl
noncomputable def aq (a0:ak) (a1:List Int) (a2:List Int):Option (List Int):=
 (idx a0.keys 0).bind fun x2=>
 (aL a1 x2).bind fun y4=>
 (((Loop.run (S:=(Int×(List Int))) (R:=(List Int)) (fun(xA,yA)=>
   bif decide (xA≤10) then
    (aE yA a2).bind fun hA=>
    (bc hA 1).bind fun zA=>
    ((bif decide (xA<10) then
     (an zA).bind fun bA=>
     some bA
    else
     some zA
     :Option (List Int))).bind fun vA=>
    (idx a0.keys xA).bind fun oA=>
    (aL vA oA).bind fun kA=>
    some (.next (IntKind.wrap .i64 (xA+1),kA))
   else
    some (.done yA)) (1,y4)).bind fun dA=>
 some dA
  :Option (List Int))).bind fun eA=>
 some eA
theorem o36 {a0:ak} {a1 a2:List Int} {r0:(List Int)} (hF:aq a0 a1 a2=some r0) (L:List Res):Ok Tryz.prog 118 [SV.val ah a0,SV.val K6 a1,SV.fn 117 [.ptr (kArr 256 K10) a2]] L (SV.val K6 r0) L:=by
 unfold aq at hF
 refine okI 33 Tryz.func118 rfl rfl rfl fun F0=>?_
 refine bs hF fun x2 h3 hF=>bs hF fun y4 h5 hF=>bs hF fun zA vA hF=>sr<|bX (K:=ah) rfl rdV rfl<|bX (K:=kArr 16 K10) rfl rdV rfl<|al ZT108 rfl fun b1=>ns<|oL kt108 rfl<|oF fb212k rfl<|ov (OpV.ixA h3 Tryz.underlying210 sz209 rfl rfl) rfl<|oL kt209 rfl<|cx Tryz.call146 rfl (o29 h5 _)<|al ZT209 rfl fun b6=>sP (x':=y4) .box .id sz209k rfl rfl rdV rfl<|nt<|sq<|afr (r:=zA) (fun zA=>[(6,pb b1),(7,.ptr K6 zA)]) (fun zA=>((.box K6 b1 108 (List.replicate 16 (0:Int)))::L)) ?_ fun K dA=>?_
 ·refine sr<|oL kt209 rfl<|sP (x':=zA) .box .id sz108k rfl rfl rdV rfl<|nl<|fz (t:=6) rfl<|tn<|rc ?_
  cases osi hF
  exact rs Tryz.results118 (.ce rfl kt108 .nil) rfl rfl
 ·refine bs vA fun xB eA vA=>sr<|a_ rfl<|nt<|bk<|f1<|lp eA () (fun hA oA=>[(2,.fn 117 [.ptr (kArr 256 K10) a2]),(3,.ptr ah a0),(6,pb b1),(7,pb b6),(8,.raw (.int .i64 hA.1))]) (fun hA oA=>(.box K6 b1 108 (List.replicate 16 (0:Int)))::(.box K6 b6 209 hA.2)::L) rfl rfl fun hA oA yB xA cA=>?_
  obtain⟨qA,zB⟩:=hA
  dsimp only at xA⊢
  refine sq<|sr<|mb rfl<|nt<|it xA rfl (fun xA=>?_) (fun xA=>?_)
  ·refine bs xA fun hB rA xA=>bs xA fun wA gA xA=>bs xA fun bA yA xA=>ct<|sq<|bk<|sr<|f1<|lP .box .id kt209k rfl rfl<|m_ rfl<|cx Tryz.call147 rfl (o31 rA _)<|cx Tryz.call148 rfl (o32 gA _)<|sP (x':=wA) .box .id sz209k rfl rfl rdV rfl<|nt<|sq<|afr (r:=bA) (fun bA=>[(2,.fn 117 [.ptr (kArr 256 K10) a2]),(3,.ptr ah a0),(6,pb b1),(7,pb b6),(8,.raw (.int .i64 qA))]) (fun bA=>((.box K6 b1 108 (List.replicate 16 (0:Int)))::(.box K6 b6 209 bA)::L)) ?_ fun K kA=>?_
   ·exact bs xA fun bB mA xA=>bs xA fun nA pA xA=>ph rfl<|gV [0,1,2,3,4] [[7],[8],[3],[27,28],[29]] 2 (by kernel_rfl) rfl<|Vq.v (fun G T hG=>f1<|lP .box .id kt209k rfl rfl<|f1<|Vq.end rfl)<|vm_ rfl<|vo (fun _=>OpV.fd fb212k rfl rfl) rfl<|vo (fun _=>OpV.ixA mA Tryz.underlying210 sz209 rfl rfl) rfl<|vo (fun _=>OpV.ld kt209 rfl) rfl<|vn<|p1 5 rfl rfl<|cx Tryz.call146 rfl (o29 pA _)<|pn<|p1 6 rfl rfl<|f1<|sP (x':=nA) .box .id sz209k rfl rfl rdV rfl<|pn<|pd rfl<|bN<|tn<|rg<|mb rfl<|a_ rfl<|nl<|f1<|nx () xA rfl rfl
   ·refine sr<|mb rfl<|nt<|it yA rfl (fun yA=>?_) (fun yA=>?_)
    ·exact bs yA fun tA uA yA=>rg<|lP .box .id kt209k rfl rfl<|cx Tryz.call149 rfl (o35 uA _)<|sP (x':=tA) .box .id sz209k rfl rfl rdV rfl<|nt<|f1<|wr (kA _ (osi yA).symm) rfl
    ·exact ct<|f1<|wr (kA _ (osi yA).symm) rfl
  ·refine f1<|fz (t:=7) rfl<|xt<|te ?_
   cases aj xA cA
   exact te<|bh<|tn<|wr (dA _ (osi vA).symm) rfl
noncomputable def cN (a0:List Int):Option (List Int):=
 (((Loop.run (S:=(Int×(List Int))) (R:=(List Int)) (fun(xA,yA)=>
   bif decide (xA≥0) then
    (idx yA xA).bind fun zA=>
    (idx yA xA).bind fun oA=>
    (idx (List.set yA (Int.toNat xA) (IntKind.wrap .u8 (zA+1))) xA).bind fun hA=>
    bif hA != 0 then
     some (.done (List.set yA (Int.toNat xA) (IntKind.wrap .u8 (zA+1))))
    else
     some (.next (IntKind.wrap .i64 (xA - 1),List.set yA (Int.toNat xA) (IntKind.wrap .u8 (zA+1))))
   else
    some (.done yA)) (15,a0)).bind fun bA=>
 some bA
  :Option (List Int))).bind fun vA=>
 some vA
theorem o37 {a0:List Int} {r0:(List Int)} (hF:cN a0=some r0) (L:List Res):Ok Tryz.prog 119 [SV.val K6 a0] L (SV.val K6 r0) L:=by
 unfold cN at hF
 refine okI 18 Tryz.func119 rfl rfl rfl fun F0=>?_
 refine bs hF fun yA hA hF=>sr<|Under.bx (K:=kArr 16 K10) rfl rdV rfl fun b1=>al ZT108 rfl fun b2=>nt<|sq<|afr (r:=yA) (fun yA=>[(1,.ptr K6 yA),(2,pb b2)]) (fun yA=>((.box K6 b2 108 (List.replicate 16 (0:Int)))::L)) ?_ fun K bA=>?_
 ·refine sr<|oL kt108 rfl<|sP (x':=yA) .box .id sz108k rfl rfl rdV rfl<|nl<|fz (t:=2) rfl<|tn<|rc ?_
  cases osi hF
  exact rs Tryz.results119 (.ce rfl kt108 .nil) rfl rfl
 ·refine bs hA fun gA cA hA=>sr<|a_ rfl<|nt<|bk<|f1<|lp cA () (fun zA vA=>[(1,pb b1),(2,pb b2),(3,.raw (.int .i64 zA.1))]) (fun zA vA=>(.box K6 b1 108 zA.2)::(.box K6 b2 108 (List.replicate 16 (0:Int)))::L) rfl rfl fun zA vA mA xA oA=>?_
  obtain⟨qA,rA⟩:=zA
  dsimp only at xA⊢
  refine sq<|sr<|mb rfl<|nt<|it xA rfl (fun xA=>?_) (fun xA=>?_)
  ·refine bs xA fun wA kA xA=>bs xA fun nA dA xA=>bs xA fun pA eA xA=>ct<|sq<|bk<|sr<|m_ rfl<|oX .box .id kA Tryz.underlying108 sz5k rfl<|lP .box (.ix .id kA) kt5k rfl rfl<|rI (t:=10) rfl<|b_ rfl<|oX .box .id dA Tryz.underlying108 sz5k rfl<|sP (x':=List.set rA (Int.toNat qA) (IntKind.wrap .u8 (wA+1))) .box (.ix .id dA) sz5k rfl rfl rdI rfl<|ns<|m_ rfl<|oX .box .id eA Tryz.underlying108 sz5k rfl<|lP .box (.ix .id eA) kt5k rfl rfl<|rI (t:=15) rfl<|b_ rfl<|nt<|it xA rfl (fun xA=>?_) (fun xA=>?_)
   ·refine fz (t:=1) rfl<|xt<|bm rfl<|te ?_
    cases aj xA oA
    exact te<|bh<|tn<|wr (bA _ (osi hA).symm) rfl
   ·exact cs<|bN<|tn<|rg<|mb rfl<|a_ rfl<|nl<|nx () xA rfl rfl
  ·refine fz (t:=1) rfl<|xt<|te ?_
   cases aj xA oA
   exact te<|bh<|tn<|wr (bA _ (osi hA).symm) rfl
noncomputable def aM (a0:List Int):Option (List Int):=
 (((Loop.run (S:=(Int×(List Int))) (R:=(List Int)) (fun(xA,yA)=>
   bif decide (xA<16) then
    (idx yA xA).bind fun zA=>
    (aG zA).bind fun hA=>
    (idx yA xA).bind fun oA=>
    some (.next (IntKind.wrap .i64 (xA+1),List.set yA (Int.toNat xA) hA))
   else
    some (.done yA)) (0,a0)).bind fun bA=>
 some bA
  :Option (List Int))).bind fun vA=>
 some vA
theorem o38 {a0:List Int} {r0:(List Int)} (hF:aM a0=some r0) (L:List Res):Ok Tryz.prog 147 [SV.val K6 a0,SV.raw (.func (.func 116) #[] #[])] L (SV.val K6 r0) L:=by
 unfold aM at hF
 refine okI 18 Tryz.func147 rfl rfl rfl fun F0=>?_
 refine bs hF fun yA hA hF=>sr<|Under.bx (K:=kArr 16 K10) rfl rdV rfl fun b1=>al ZT209 rfl fun b2=>nt<|sq<|afr (r:=yA) (fun yA=>[(2,.ptr K6 yA),(4,pb b2)]) (fun yA=>((.box K6 b2 209 (List.replicate 16 (0:Int)))::L)) ?_ fun K kA=>?_
 ·refine sr<|oL kt209 rfl<|sP (x':=yA) .box .id sz209k rfl rfl rdV rfl<|nl<|fz (t:=4) rfl<|tn<|rc ?_
  cases osi hF
  exact rs Tryz.results147 (.ce rfl kt209 .nil) rfl rfl
 ·refine bs hA fun gA dA hA=>sr<|m_ rfl<|nt<|bk<|f1<|lp dA () (fun zA bA=>[(1,.raw (.func (.func 116) #[] #[])),(2,pb b1),(4,pb b2),(6,.raw (.int .i64 zA.1))]) (fun zA bA=>(.box K6 b1 209 zA.2)::(.box K6 b2 209 (List.replicate 16 (0:Int)))::L) rfl rfl fun zA bA mA xA eA=>?_
  obtain⟨cA,qA⟩:=zA
  dsimp only at xA⊢
  refine sr<|b_ rfl<|nt<|sq<|it xA rfl (fun xA=>?_) (fun xA=>?_)
  ·exact bs xA fun nA vA xA=>bs xA fun rA wA xA=>bs xA fun pA oA xA=>ct<|sq<|bk<|sr<|m_ rfl<|a_ rfl<|nt<|rg<|m_ rfl<|m_ rfl<|m_ rfl<|oX .box .id vA Tryz.underlying209 sz5k rfl<|lP .box (.ix .id vA) kt5k rfl rfl<|rI (t:=13) rfl<|cx Tryz.call116 rfl (o27 wA _)<|oX .box .id oA Tryz.underlying209 sz5k rfl<|sP (x':=List.set qA (Int.toNat cA) rA) .box (.ix .id oA) sz5k rfl rfl rdI rfl<|nl<|bN<|tn<|rg<|b_ rfl<|m_ rfl<|nl<|nx () xA rfl rfl
  ·refine fz (t:=2) rfl<|xt<|te ?_
   cases aj xA eA
   exact te<|bh<|tn<|wr (kA _ (osi hA).symm) rfl
noncomputable def ax (a0:ak) (a1:List Int):Option (List Int):=
 (idx a0.keys 0).bind fun x2=>
 (aL a1 x2).bind fun y4=>
 (((Loop.run (S:=(Int×(List Int))) (R:=(List Int)) (fun(xA,yA)=>
   bif decide (xA≤10) then
    (aM yA).bind fun hA=>
    (bc hA 1).bind fun zA=>
    ((bif decide (xA<10) then
     (an zA).bind fun bA=>
     some bA
    else
     some zA
     :Option (List Int))).bind fun vA=>
    (idx a0.keys xA).bind fun oA=>
    (aL vA oA).bind fun kA=>
    some (.next (IntKind.wrap .i64 (xA+1),kA))
   else
    some (.done yA)) (1,y4)).bind fun dA=>
 some dA
  :Option (List Int))).bind fun eA=>
 some eA
theorem o39 {a0:ak} {a1:List Int} {r0:(List Int)} (hF:ax a0 a1=some r0) (L:List Res):Ok Tryz.prog 118 [SV.val ah a0,SV.val K6 a1,SV.raw (.func (.func 116) #[] #[])] L (SV.val K6 r0) L:=by
 unfold ax at hF
 refine okI 33 Tryz.func118 rfl rfl rfl fun F0=>?_
 refine bs hF fun x2 h3 hF=>bs hF fun y4 h5 hF=>bs hF fun zA vA hF=>sr<|bX (K:=ah) rfl rdV rfl<|bX (K:=kArr 16 K10) rfl rdV rfl<|al ZT108 rfl fun b1=>ns<|oL kt108 rfl<|oF fb212k rfl<|ov (OpV.ixA h3 Tryz.underlying210 sz209 rfl rfl) rfl<|oL kt209 rfl<|cx Tryz.call146 rfl (o29 h5 _)<|al ZT209 rfl fun b6=>sP (x':=y4) .box .id sz209k rfl rfl rdV rfl<|nt<|sq<|afr (r:=zA) (fun zA=>[(6,pb b1),(7,.ptr K6 zA)]) (fun zA=>((.box K6 b1 108 (List.replicate 16 (0:Int)))::L)) ?_ fun K dA=>?_
 ·refine sr<|oL kt209 rfl<|sP (x':=zA) .box .id sz108k rfl rfl rdV rfl<|nl<|fz (t:=6) rfl<|tn<|rc ?_
  cases osi hF
  exact rs Tryz.results118 (.ce rfl kt108 .nil) rfl rfl
 ·refine bs vA fun xB eA vA=>sr<|a_ rfl<|nt<|bk<|f1<|lp eA () (fun hA oA=>[(2,.raw (.func (.func 116) #[] #[])),(3,.ptr ah a0),(6,pb b1),(7,pb b6),(8,.raw (.int .i64 hA.1))]) (fun hA oA=>(.box K6 b1 108 (List.replicate 16 (0:Int)))::(.box K6 b6 209 hA.2)::L) rfl rfl fun hA oA yB xA cA=>?_
  obtain⟨qA,zB⟩:=hA
  dsimp only at xA⊢
  refine sq<|sr<|mb rfl<|nt<|it xA rfl (fun xA=>?_) (fun xA=>?_)
  ·refine bs xA fun hB rA xA=>bs xA fun wA gA xA=>bs xA fun bA yA xA=>ct<|sq<|bk<|sr<|f1<|lP .box .id kt209k rfl rfl<|m_ rfl<|cx Tryz.call147 rfl (o38 rA _)<|cx Tryz.call148 rfl (o32 gA _)<|sP (x':=wA) .box .id sz209k rfl rfl rdV rfl<|nt<|sq<|afr (r:=bA) (fun bA=>[(2,.raw (.func (.func 116) #[] #[])),(3,.ptr ah a0),(6,pb b1),(7,pb b6),(8,.raw (.int .i64 qA))]) (fun bA=>((.box K6 b1 108 (List.replicate 16 (0:Int)))::(.box K6 b6 209 bA)::L)) ?_ fun K kA=>?_
   ·exact bs xA fun bB mA xA=>bs xA fun nA pA xA=>ph rfl<|gV [0,1,2,3,4] [[7],[8],[3],[27,28],[29]] 2 (by kernel_rfl) rfl<|Vq.v (fun G T hG=>f1<|lP .box .id kt209k rfl rfl<|f1<|Vq.end rfl)<|vm_ rfl<|vo (fun _=>OpV.fd fb212k rfl rfl) rfl<|vo (fun _=>OpV.ixA mA Tryz.underlying210 sz209 rfl rfl) rfl<|vo (fun _=>OpV.ld kt209 rfl) rfl<|vn<|p1 5 rfl rfl<|cx Tryz.call146 rfl (o29 pA _)<|pn<|p1 6 rfl rfl<|f1<|sP (x':=nA) .box .id sz209k rfl rfl rdV rfl<|pn<|pd rfl<|bN<|tn<|rg<|mb rfl<|a_ rfl<|nl<|f1<|nx () xA rfl rfl
   ·refine sr<|mb rfl<|nt<|it yA rfl (fun yA=>?_) (fun yA=>?_)
    ·exact bs yA fun tA uA yA=>rg<|lP .box .id kt209k rfl rfl<|cx Tryz.call149 rfl (o35 uA _)<|sP (x':=tA) .box .id sz209k rfl rfl rdV rfl<|nt<|f1<|wr (kA _ (osi yA).symm) rfl
    ·exact ct<|f1<|wr (kA _ (osi yA).symm) rfl
  ·refine f1<|fz (t:=7) rfl<|xt<|te ?_
   cases aj xA cA
   exact te<|bh<|tn<|wr (dA _ (osi vA).symm) rfl
noncomputable def cX (a0:List Int) (a1:List Int) (a2:List Int):Option (List Int):=
 (d5 a0).bind fun y2=>
 bif mkB (a2.length:Int) (a2.length:Int) then
 bif decide ((a2.length:Int)>32) then
  (((Loop.run (S:=(Int×(List Int))) (R:=(List Int)) (fun(zA,kA)=>
    bif decide (zA<256) then
     (aG (IntKind.wrap .u8 zA)).bind fun rA=>
     (idx kA zA).bind fun nB=>
     some (.next (IntKind.wrap .i64 (zA+1),List.set kA (Int.toNat zA) rA))
    else
     some (.done kA)) (0,(List.replicate 256 (0:Int)))).bind fun wA=>
  some wA
   :Option (List Int))).bind fun uB=>
  (((Loop.run (S:=((List Int)×Int×(List Int))) (R:=(List Int)) (fun(dA,hA,cA)=>
    bif decide (hA<(dA.length:Int)) then
     (((aq y2 cA uB).bind fun gA=>
     (((Loop.run (S:=((List Int)×Int)) (R:=(List Int)) (fun(bA,xA)=>
       bif decide (xA<(min (IntKind.wrap .i64 (hA+16)) (bA.length:Int))) then
        (idx bA xA).bind fun mA=>
        (idx gA (IntKind.wrap .i64 (xA - hA))).bind fun nA=>
        (idx bA xA).bind fun pB=>
        some (.next (List.set bA (Int.toNat xA) (xorI .u8 mA nA),IntKind.wrap .i64 (xA+1)))
       else
        some (.done bA)) (dA,hA)).bind fun pA=>
     some pA
      :Option (List Int))).bind fun tA=>
     (cN cA).bind fun uA=>
     some (tA,uA)
      :Option ((List Int)×(List Int)))).bind fun xB=>match xB with
      |(yB,zB)=>
       some (.next (yB,IntKind.wrap .i64 (hA+16),zB))
    else
     some (.done dA)) (over (List.replicate (Int.toNat (a2.length:Int)) (0:Int)) 0 (List.length (List.replicate (Int.toNat (a2.length:Int)) (0:Int))) a2,0,a1)).bind fun hB=>
  some hB
   :Option (List Int))).bind fun mB=>
  some mB
 else
  (((Loop.run (S:=((List Int)×Int×(List Int))) (R:=(List Int)) (fun(eA,vA,qA)=>
    bif decide (vA<(eA.length:Int)) then
     (((ax y2 qA).bind fun bB=>
     (((Loop.run (S:=((List Int)×Int)) (R:=(List Int)) (fun(oA,yA)=>
       bif decide (yA<(min (IntKind.wrap .i64 (vA+16)) (oA.length:Int))) then
        (idx oA yA).bind fun vB=>
        (idx bB (IntKind.wrap .i64 (yA - vA))).bind fun oB=>
        (idx oA yA).bind fun tB=>
        some (.next (List.set oA (Int.toNat yA) (xorI .u8 vB oB),IntKind.wrap .i64 (yA+1)))
       else
        some (.done oA)) (eA,vA)).bind fun kB=>
     some kB
      :Option (List Int))).bind fun dB=>
     (cN qA).bind fun eB=>
     some (dB,eB)
      :Option ((List Int)×(List Int)))).bind fun cB=>match cB with
      |(qB,rB)=>
       some (.next (qB,IntKind.wrap .i64 (vA+16),rB))
    else
     some (.done eA)) (over (List.replicate (Int.toNat (a2.length:Int)) (0:Int)) 0 (List.length (List.replicate (Int.toNat (a2.length:Int)) (0:Int))) a2,0,a1)).bind fun wB=>
  some wB
   :Option (List Int))).bind fun gB=>
  some gB
 else none
theorem o40 {a0 a1 a2:List Int} {r0:(List Int)} (hF:cX a0 a1 a2=some r0) (L:List Res):Ok Tryz.prog 83 [SV.val K6 a0,SV.val K6 a1,SV.val K8 a2] L (SV.val K8 r0) L:=by
 unfold cX at hF
 refine okI 70 Tryz.func83 rfl rfl rfl fun F0=>?_
 refine bs hF fun y2 h3 hF=>gs hF fun h6 hF=>sr<|bX (K:=kArr 16 K10) rfl rdV rfl<|Under.bx (K:=kArr 16 K10) rfl rdV rfl fun b1=>a_ rfl<|ns<|oL kt108 rfl<|cx Tryz.call115 rfl (o28 h3 _)<|al ZT212 rfl fun b4=>sP (x':=y2) .box .id sz212k rfl rfl rdV rfl<|nl<|fz (t:=7) rfl<|tn<|sr<|m_ rfl<|oN Tryz.underlying24 rfl<|Under.mk h6 Tryz.underlying24 AT5 rfl rfl rfl fun v5=>a_ rfl<|ns<|m_ rfl<|m_ rfl<|Under.cpW Tryz.underlying24 sz5k rfl rfl (.sl rdV) rfl<|ns<|a_ rfl<|nt<|sq<|sr<|m_ rfl<|oN Tryz.underlying24 rfl<|b_ rfl<|nt<|it hF rfl (fun hF=>?_) (fun hF=>?_)
 ·refine bs hF fun qB yE hF=>sr<|al ZT215 rfl fun b8=>nt<|sq<|afr (r:=qB) (fun qB=>[(4,pb b1),(7,.ptr ah y2),(8,.raw v5),(10,.ptr (kArr 256 K10) qB)]) (fun qB=>((.own K10 v5 5 (over (List.replicate (Int.toNat (a2.length:Int)) (0:Int)) 0 (List.length (List.replicate (Int.toNat (a2.length:Int)) (0:Int))) a2))::(.box K6 b1 108 a1)::L)) ?_ fun K xG=>?_
  ·refine bs hF fun cB zC hF=>rg<|ov (OpV.mkf rfl) rfl<|a_ rfl<|nt<|sq<|afr (r:=cB) (fun cB=>[(8,.val K8 cB)]) (fun cB=>(L)) ?_ fun K zE=>?_
   ·refine sr<|m_ rfl<|a_ rfl<|nt<|rc ?_
    cases osi hF
    exact rs Tryz.results83 (.tm rfl .nil) rfl rfl
   ·refine bs zC fun hE hC zC=>sr<|a_ rfl<|nt<|bk<|lp hC () (fun kA rB=>[(4,pb b1),(7,.ptr ah y2),(8,.raw v5),(9,.fn 117 [.ptr (kArr 256 K10) qB]),(12,.raw (.int .i64 kA.2.1))]) (fun kA rB=>(.own K10 v5 5 kA.1)::(.box K6 b1 108 kA.2.2)::L) rfl rfl fun kA rB bE hA bC=>?_
    obtain⟨vE,mA,wB⟩:=kA
    dsimp only at hA⊢
    refine sq<|sr<|m_ rfl<|m_ rfl<|ov (OpV.lenO Tryz.underlying24 rfl) rfl<|b_ rfl<|nt<|it hA rfl (fun hA=>?_) (fun hA=>?_)
    ·refine bs hA fun vC vA hA=>ct<|sq<|Under.after (fun X=>∀(nA:List Int) (pA:List Int),vC=(nA,pA)→Under F0 70 [(4,pb b1),(7,.ptr ah y2),(8,.raw v5),(9,.fn 117 [.ptr (kArr 256 K10) qB]),(12,.raw (.int .i64 mA))] ((.own K10 v5 5 nA)::(.box K6 b1 108 pA)::L) X) ?_ ?_
     ·intro nA pA tA
      replace tA:=tA.symm
      subst tA
      exact rg<|mb rfl<|a_ rfl<|nl<|nx () hA rfl rfl
     ·intro K kC
      refine bs vA fun gB dC vA=>bs vA fun rA uA vA=>bk<|sr<|oL kt212 rfl<|f1<|lP .box .id kt108k rfl rfl<|m_ rfl<|cx Tryz.call118 rfl (o36 dC _)<|al ZT108 rfl fun oE=>sP (x':=gB) .box .id sz108k rfl rfl rdV rfl<|nl<|fz (t:=13) rfl<|tn<|sq<|afr (r:=rA) (fun rA=>[(4,pb b1),(7,.ptr ah y2),(8,.raw v5),(9,.fn 117 [.ptr (kArr 256 K10) qB]),(12,.raw (.int .i64 mA))]) (fun rA=>((.own K10 v5 5 rA)::(.box K6 b1 108 wB)::L)) ?_ fun K eC=>?_
      ·exact bs vA fun cC qC vA=>rg<|f1<|lP .box .id kt108k rfl rfl<|cx Tryz.call119 rfl (o37 qC _)<|sP (x':=cC) .box .id sz108k rfl rfl rdV rfl<|nl<|bN<|tn<|f1<|wr (kC _ _ (osi vA).symm) rfl
      ·refine bs uA fun kE rC uA=>sr<|m_ rfl<|a_ rfl<|nt<|bk<|f1<|lp rC () (fun eA mB=>[(4,pb b1),(7,.ptr ah y2),(8,.raw v5),(9,.fn 117 [.ptr (kArr 256 K10) qB]),(12,.raw (.int .i64 mA)),(13,.ptr K6 gB),(14,.raw (.int .i64 eA.2))]) (fun eA mB=>(.own K10 v5 5 eA.1)::(.box K6 b1 108 wB)::L) rfl rfl fun eA mB dE xA wC=>?_
       obtain⟨gC,mC⟩:=eA
       dsimp only at xA⊢
       refine sq<|sr<|m_ rfl<|mb rfl<|m_ rfl<|ov (OpV.lenO Tryz.underlying24 rfl) rfl<|ov (OpV.min2 rfl rfl) rfl<|b_ rfl<|nt<|it xA rfl (fun xA=>?_) (fun xA=>?_)
       ·exact bs xA fun nC xB xA=>bs xA fun pC tC xA=>bs xA fun eE yB xA=>ct<|sq<|bk<|ph rfl<|gV [0,1,2,3,4,5,6,7,8] [[8],[14],[56,57],[58],[14],[12],[60,61],[13,62],[63]] 2 (by kernel_rfl) rfl<|vm_ rfl<|vm_ rfl<|Vq.v (fun G T hG=>ov (OpV.ixO xB Tryz.underlying24 sz5k rfl rfl) rfl<|Vq.end rfl)<|Vq.v (fun G T hG=>lP (.own xB) (.ix .id xB) kt5k rfl rfl<|rI (t:=59) rfl<|Vq.end rfl)<|vm_ rfl<|vm_ rfl<|vb_ rfl<|vo (fun _=>OpV.ixA tC Tryz.underlying108 sz5 rfl rfl) rfl<|vo (fun _=>OpV.ldI kt5 rfl) rfl<|vn<|p1 9 rfl rfl<|b_ rfl<|pn<|p1 10 rfl rfl<|ov (OpV.ixO yB Tryz.underlying24 sz5k rfl rfl) rfl<|pn<|p1 11 rfl rfl<|sP (x':=List.set gC (Int.toNat mC) (xorI .u8 nC pC)) (.own yB) (.ix .id yB) sz5k rfl rfl rdI rfl<|pn<|pd rfl<|bN<|tn<|rg<|mb rfl<|a_ rfl<|nl<|nx () xA rfl rfl
       ·refine xt<|te ?_
        cases aj xA wC
        exact te<|bh<|tn<|wr (eC _ (osi uA).symm) rfl
    ·refine f1<|dr<|fzO (t:=8) rfl<|xt<|te ?_
     cases aj hA bC
     exact te<|bh<|tn<|wr (zE _ (osi zC).symm) rfl
  ·refine bs yE fun cE uC yE=>sr<|m_ rfl<|nt<|bk<|f2<|f2<|lp uC () (fun cA nB=>[(4,pb b1),(7,.ptr ah y2),(8,.raw v5),(10,pb b8),(26,.raw (.int .i64 cA.1))]) (fun cA nB=>(.own K10 v5 5 (over (List.replicate (Int.toNat (a2.length:Int)) (0:Int)) 0 (List.length (List.replicate (Int.toNat (a2.length:Int)) (0:Int))) a2))::(.box K6 b1 108 a1)::(.box (kArr 256 K10) b8 215 cA.2)::L) rfl rfl fun cA nB qE zA xD=>?_
   obtain⟨yD,zD⟩:=cA
   dsimp only at zA⊢
   refine sr<|b_ rfl<|nt<|sq<|it zA rfl (fun zA=>?_) (fun zA=>?_)
   ·exact bs zA fun hD bD zA=>bs zA fun rE pB zA=>ct<|sq<|bk<|sr<|m_ rfl<|a_ rfl<|nt<|rg<|m_ rfl<|m_ rfl<|oC (by kernel_rfl) Tryz.underlying5 rfl<|cx Tryz.call116 rfl (o27 bD _)<|f2<|oX .box .id pB Tryz.underlying215 sz5k rfl<|sP (x':=List.set zD (Int.toNat yD) hD) .box (.ix .id pB) sz5k rfl rfl rdI rfl<|nl<|bN<|tn<|rg<|b_ rfl<|m_ rfl<|nl<|f2<|f2<|nx () zA rfl rfl
   ·refine f2<|fz (t:=10) rfl<|xt<|te ?_
    cases aj zA xD
    exact te<|bh<|tn<|wr (xG _ (osi yE).symm) rfl
 ·refine bs hF fun wA zB hF=>ct<|sq<|afr (r:=wA) (fun wA=>[(8,.val K8 wA)]) (fun wA=>(L)) ?_ fun K vD=>?_
  ·refine sr<|m_ rfl<|a_ rfl<|nt<|rc ?_
   cases osi hF
   exact rs Tryz.results83 (.tm rfl .nil) rfl rfl
  ·refine bs zB fun wE oD zB=>sr<|a_ rfl<|nt<|bk<|lp oD () (fun dA tB=>[(4,pb b1),(7,.ptr ah y2),(8,.raw v5),(9,.raw (.func (.func 116) #[] #[])),(12,.raw (.int .i64 dA.2.1))]) (fun dA tB=>(.own K10 v5 5 dA.1)::(.box K6 b1 108 dA.2.2)::L) rfl rfl fun dA tB gE bA kD=>?_
   obtain⟨mE,hB,uB⟩:=dA
   dsimp only at bA⊢
   refine sq<|sr<|m_ rfl<|m_ rfl<|ov (OpV.lenO Tryz.underlying24 rfl) rfl<|b_ rfl<|nt<|it bA rfl (fun bA=>?_) (fun bA=>?_)
   ·refine bs bA fun dD oA bA=>ct<|sq<|Under.after (fun X=>∀(bB:List Int) (vB:List Int),dD=(bB,vB)→Under F0 70 [(4,pb b1),(7,.ptr ah y2),(8,.raw v5),(9,.raw (.func (.func 116) #[] #[])),(12,.raw (.int .i64 hB))] ((.own K10 v5 5 bB)::(.box K6 b1 108 vB)::L) X) ?_ ?_
    ·intro bB vB oB
     replace oB:=oB.symm
     subst oB
     exact rg<|mb rfl<|a_ rfl<|nl<|nx () bA rfl rfl
    ·intro K eD
     refine bs oA fun xC cD oA=>bs oA fun gA kB oA=>bk<|sr<|oL kt212 rfl<|f1<|lP .box .id kt108k rfl rfl<|m_ rfl<|cx Tryz.call118 rfl (o39 cD _)<|al ZT108 rfl fun nE=>sP (x':=xC) .box .id sz108k rfl rfl rdV rfl<|nl<|fz (t:=13) rfl<|tn<|sq<|afr (r:=gA) (fun gA=>[(4,pb b1),(7,.ptr ah y2),(8,.raw v5),(9,.raw (.func (.func 116) #[] #[])),(12,.raw (.int .i64 hB))]) (fun gA=>((.own K10 v5 5 gA)::(.box K6 b1 108 uB)::L)) ?_ fun K qD=>?_
     ·exact bs oA fun rD wD oA=>rg<|f1<|lP .box .id kt108k rfl rfl<|cx Tryz.call119 rfl (o37 wD _)<|sP (x':=rD) .box .id sz108k rfl rfl rdV rfl<|nl<|bN<|tn<|f1<|wr (eD _ _ (osi oA).symm) rfl
     ·refine bs kB fun pE gD kB=>sr<|m_ rfl<|a_ rfl<|nt<|bk<|f1<|lp gD () (fun qA yC=>[(4,pb b1),(7,.ptr ah y2),(8,.raw v5),(9,.raw (.func (.func 116) #[] #[])),(12,.raw (.int .i64 hB)),(13,.ptr K6 xC),(14,.raw (.int .i64 qA.2))]) (fun qA yC=>(.own K10 v5 5 qA.1)::(.box K6 b1 108 uB)::L) rfl rfl fun qA yC tE yA mD=>?_
      obtain⟨nD,pD⟩:=qA
      dsimp only at yA⊢
      refine sq<|sr<|m_ rfl<|mb rfl<|m_ rfl<|ov (OpV.lenO Tryz.underlying24 rfl) rfl<|ov (OpV.min2 rfl rfl) rfl<|b_ rfl<|nt<|it yA rfl (fun yA=>?_) (fun yA=>?_)
      ·exact bs yA fun tD dB yA=>bs yA fun uD xE yA=>bs yA fun uE eB yA=>ct<|sq<|bk<|ph rfl<|gV [0,1,2,3,4,5,6,7,8] [[8],[14],[56,57],[58],[14],[12],[60,61],[13,62],[63]] 2 (by kernel_rfl) rfl<|vm_ rfl<|vm_ rfl<|Vq.v (fun G T hG=>ov (OpV.ixO dB Tryz.underlying24 sz5k rfl rfl) rfl<|Vq.end rfl)<|Vq.v (fun G T hG=>lP (.own dB) (.ix .id dB) kt5k rfl rfl<|rI (t:=59) rfl<|Vq.end rfl)<|vm_ rfl<|vm_ rfl<|vb_ rfl<|vo (fun _=>OpV.ixA xE Tryz.underlying108 sz5 rfl rfl) rfl<|vo (fun _=>OpV.ldI kt5 rfl) rfl<|vn<|p1 9 rfl rfl<|b_ rfl<|pn<|p1 10 rfl rfl<|ov (OpV.ixO eB Tryz.underlying24 sz5k rfl rfl) rfl<|pn<|p1 11 rfl rfl<|sP (x':=List.set nD (Int.toNat pD) (xorI .u8 tD uD)) (.own eB) (.ix .id eB) sz5k rfl rfl rdI rfl<|pn<|pd rfl<|bN<|tn<|rg<|mb rfl<|a_ rfl<|nl<|nx () yA rfl rfl
      ·refine xt<|te ?_
       cases aj yA mD
       exact te<|bh<|tn<|wr (qD _ (osi kB).symm) rfl
   ·refine f1<|dr<|fzO (t:=8) rfl<|xt<|te ?_
    cases aj bA kD
    exact te<|bh<|tn<|wr (vD _ (osi zB).symm) rfl
noncomputable def dz (a0:Int):Option Int:=
 (bV a0).bind fun y1=>
 some (IntKind.wrap .i64 (y1 - 34))
theorem o41 {a0:Int} {r0:Int} (hF:dz a0=some r0) (L:List Res):Ok Tryz.prog 82 [SV.raw (.int .i64 a0)] L (SV.raw (.int .i64 r0)) L:=by
 unfold dz at hF
 refine okI 6 Tryz.func82 rfl rfl rfl fun F0=>?_
 refine bs hF fun y1 h2 hF=>sr<|a_ rfl<|ns<|m_ rfl<|cx Tryz.call81 rfl (o18 h2 _)<|b_ rfl<|a_ rfl<|nt<|rc ?_
 cases osi hF
 exact rs Tryz.results82 (.tm rfl .nil) rfl rfl
noncomputable def cT (a0:List Int) (a1:Int):Option ((List Int)×Bool):=
 (idx a0 0).bind fun x1=>
 (idx a0 1).bind fun x3=>
 (dz a1).bind fun y5=>
 bif decide ((orI .i64 (shlI .i64 (IntKind.wrap .i64 x1) 8) (IntKind.wrap .i64 x3))>y5) then
  some ([],false)
 else
  (((sub a0 (IntKind.wrap .i64 (2+(orI .i64 (shlI .i64 (IntKind.wrap .i64 x1) 8) (IntKind.wrap .i64 x3)))) (a0.length:Int)).bind fun yA=>
  (Loop.run (S := Int) (R := (Unit ⊕ ((List Int) × Bool))) (fun xA =>
    bif decide (xA<(yA.length:Int)) then
     (idx yA xA).bind fun zA=>
     bif zA != 0 then
      some (.done (.inr ([],false)))
     else
      some (.next (IntKind.wrap .i64 (xA+1)))
    else
     some (.done (.inl ()))) 0).bind fun hA=>match hA with
   | .inl _=>
    some (.inr ())
   | .inr z=>
    some (.inl z)
   : Option (((List Int) × Bool) ⊕ Unit))).bind fun bA => match bA with
   | .inl z=>
    some z
   | .inr _=>
    (sub a0 2 (IntKind.wrap .i64 (2+(orI .i64 (shlI .i64 (IntKind.wrap .i64 x1) 8) (IntKind.wrap .i64 x3))))).bind fun vA=>
    some (vA,true)
theorem o42 {a0:List Int} {a1:Int} {r0:((List Int)×Bool)} (hF:cT a0 a1=some r0) (L:List Res):Ok Tryz.prog 109 [SV.val K8 a0,SV.raw (.int .i64 a1)] L (SV.tup [SV.val K8 r0.1,SV.raw (.bool r0.2)]) L:=by
 unfold cT at hF
 refine okI 39 Tryz.func109 rfl rfl rfl fun F0=>?_
 refine bs hF fun x1 h2 hF=>bs hF fun x3 h4 hF=>bs hF fun y5 h6 hF=>sr<|a_ rfl<|a_ rfl<|nt<|sq<|dw rfl (by kernel_rfl) fun F hF0=>mvq rfl rfl<|oq (OpV.ixS h2 Tryz.underlying24 sz5 rfl rdV rfl) rfl<|oq (OpV.ldI kt5 rfl) rfl<|oq (OpV.conv (by kernel_rfl) Tryz.underlying3 rfl) rfl<|oq (OpV.sh rfl rfl (by decide) rfl) rfl<|mvq rfl rfl<|oq (OpV.ixS h4 Tryz.underlying24 sz5 rfl rdV rfl) rfl<|oq (OpV.ldI kt5 rfl) rfl<|oq (OpV.conv (by kernel_rfl) Tryz.underlying3 rfl) rfl<|bnq rfl rfl rfl rfl<|agq rfl rfl<|nlq hF0<|tn<|sq<|sr<|m_ rfl<|m_ rfl<|cx Tryz.call82 rfl (o41 h6 _)<|b_ rfl<|nt<|it hF rfl (fun hF=>?_) (fun hF=>?_)
 ·refine sr<|a_ rfl<|a_ rfl<|nt<|rt<|tV (K:=kSl K10) (x:=[]) (t:=4) rfl rdN ?_
  cases osi hF
  exact rs Tryz.results109 (.tm rfl (.tm rfl .nil)) rfl rfl
 ·refine bs hF fun kA yA hF=>ct<|sq<|Under.after (fun X=>∀(_:Unit),kA=(.inr ())→Under F0 39 [(0,.val K8 a0),(6,.raw (.int .i64 (orI .i64 (shlI .i64 (IntKind.wrap .i64 x1) 8) (IntKind.wrap .i64 x3))))] (L) X) ?_ ?_
  ·intro _ zA
   replace zA:=zA.symm
   subst zA
   refine bs hF fun wA dA hF=>sr<|m_ rfl<|mb rfl<|ov (OpV.slLH dA Tryz.underlying24 sz5 rfl rdV rfl rfl) rfl<|a_ rfl<|a_ rfl<|nt<|rc ?_
   cases osi hF
   exact rs Tryz.results109 (.tm rfl (.tm rfl .nil)) rfl rfl
  ·intro K eA
   refine bs yA fun bA cA yA=>bs yA fun gA qA yA=>sr<|m_ rfl<|mb rfl<|ov (OpV.slL cA Tryz.underlying24 sz5 rfl rdV rfl) rfl<|oN Tryz.underlying24 rfl<|m_ rfl<|nt<|bk<|lp qA () (fun hA vA=>[(0,.val K8 a0),(6,.raw (.int .i64 (orI .i64 (shlI .i64 (IntKind.wrap .i64 x1) 8) (IntKind.wrap .i64 x3)))),(26,.val K8 bA),(27,.raw (.int .i64 (bA.length:Int))),(28,.raw (.int .i64 hA))]) (fun hA vA=>L) rfl rfl fun hA vA mA xA oA=>?_
   refine sr<|b_ rfl<|nt<|sq<|it xA rfl (fun xA=>?_) (fun xA=>?_)
   ·refine bs xA fun nA rA xA=>ct<|sq<|bk<|sr<|oS rA Tryz.underlying24 sz5 rfl<|oI kt5 rfl<|a_ rfl<|ns<|mb rfl<|nt<|it xA rfl (fun xA=>?_) (fun xA=>?_)
    ·refine sr<|a_ rfl<|a_ rfl<|nt<|rc<|Under.bR<|tr ?_
     cases aj xA oA
     refine tr<|Under.bR<|tr ?_
     cases osi yA
     refine tV (K:=kSl K10) (x:=[]) (t:=4) rfl rdN ?_
     cases osi hF
     exact rs Tryz.results109 (.tm rfl (.tm rfl .nil)) rfl rfl
    ·exact cs<|bN<|tn<|rg<|b_ rfl<|m_ rfl<|nl<|nx () xA rfl rfl
   ·refine xt<|te ?_
    cases aj xA oA
    exact te<|bh<|tn<|wr (eA () (osi yA).symm) rfl
noncomputable def dm (a0:List Int) (a1:Int) (a2:List Int):Option (List Int):=
 bif mkB 320 320 then
 bif decide ((0:Int)≤a1∧(a1:Int)≤((over (List.replicate (Int.toNat 320) (0:Int)) 0 (List.length (List.replicate (Int.toNat 320) (0:Int))) a2).length:Int)∧(((over (List.replicate (Int.toNat 320) (0:Int)) 0 (List.length (List.replicate (Int.toNat 320) (0:Int))) a2).length:Int):Int)≤((over (List.replicate (Int.toNat 320) (0:Int)) 0 (List.length (List.replicate (Int.toNat 320) (0:Int))) a2).length:Int)) then
 bif decide ((Int.toNat a1)≤(Int.toNat ((over (List.replicate (Int.toNat 320) (0:Int)) 0 (List.length (List.replicate (Int.toNat 320) (0:Int))) a2).length:Int))∧(Int.toNat ((over (List.replicate (Int.toNat 320) (0:Int)) 0 (List.length (List.replicate (Int.toNat 320) (0:Int))) a2).length:Int))≤(List.length (over (List.replicate (Int.toNat 320) (0:Int)) 0 (List.length (List.replicate (Int.toNat 320) (0:Int))) a2))) then
 some (over (over (List.replicate (Int.toNat 320) (0:Int)) 0 (List.length (List.replicate (Int.toNat 320) (0:Int))) a2) (Int.toNat a1) (Int.toNat ((over (List.replicate (Int.toNat 320) (0:Int)) 0 (List.length (List.replicate (Int.toNat 320) (0:Int))) a2).length:Int)) a0)
 else none
 else none
 else none
theorem o43 {a0:List Int} {a1:Int} {a2:List Int} {r0:(List Int)} (hF:dm a0 a1 a2=some r0) (L:List Res):Ok Tryz.prog 85 [SV.val K8 a0,SV.raw (.int .i64 a1),SV.val K8 a2] L (SV.val K8 r0) L:=by
 unfold dm at hF
 refine okI 18 Tryz.func85 rfl rfl rfl fun F0=>?_
 refine gs hF fun h2 hF=>gs hF fun h4 hF=>sr<|a_ rfl<|ns<|Under.mk h2 Tryz.underlying24 AT5 rfl rfl rfl fun v1=>a_ rfl<|ns<|m_ rfl<|m_ rfl<|Under.cpW Tryz.underlying24 sz5k rfl rfl (.sl rdV) rfl<|ns<|m_ rfl<|m_ rfl ?_
 replace h4:(0:Int)≤a1∧(a1:Int)≤((over (List.replicate (Int.toNat 320) (0:Int)) 0 (List.length (List.replicate (Int.toNat 320) (0:Int))) a2).length:Int)∧(((over (List.replicate (Int.toNat 320) (0:Int)) 0 (List.length (List.replicate (Int.toNat 320) (0:Int))) a2).length:Int):Int)≤((over (List.replicate (Int.toNat 320) (0:Int)) 0 (List.length (List.replicate (Int.toNat 320) (0:Int))) a2).length:Int):=of_decide_eq_true h4
 refine gs hF fun h5 hF=>Under.slO (l:=a1) (h:=((over (List.replicate (Int.toNat 320) (0:Int)) 0 (List.length (List.replicate (Int.toNat 320) (0:Int))) a2).length:Int)) Tryz.underlying24 sz5k rfl rfl rfl (And.left h4) (And.left (And.right h4)) (And.right (And.right h4)) rfl<|m_ rfl ?_
 replace h5:(Int.toNat a1)≤(Int.toNat ((over (List.replicate (Int.toNat 320) (0:Int)) 0 (List.length (List.replicate (Int.toNat 320) (0:Int))) a2).length:Int))∧(Int.toNat ((over (List.replicate (Int.toNat 320) (0:Int)) 0 (List.length (List.replicate (Int.toNat 320) (0:Int))) a2).length:Int))≤(List.length (over (List.replicate (Int.toNat 320) (0:Int)) 0 (List.length (List.replicate (Int.toNat 320) (0:Int))) a2)):=of_decide_eq_true h5
 refine Under.cpO (And.left h5) (And.right h5) Tryz.underlying24 sz5k rfl rfl (.sl rdV) rfl<|nl<|fzO (t:=7) rfl<|tn<|sr<|m_ rfl<|a_ rfl<|nt<|rc ?_
 cases osi hF
 exact rs Tryz.results85 (.tm rfl .nil) rfl rfl
noncomputable def dQ (a0:List Int):Option ((List Int)×Int):=
 bif decide ((a0.length:Int)>320) then
  some ([],1)
 else
  (dm a0 0 []).bind fun y2=>
  some (y2,0)
theorem o44 {a0:List Int} {r0:((List Int)×Int)} (hF:dQ a0=some r0) (L:List Res):Ok Tryz.prog 47 [SV.val K8 a0] L (SV.tup [SV.val K8 r0.1,SV.raw (.int .i64 r0.2)]) L:=by
 unfold dQ at hF
 refine okI 9 Tryz.func47 rfl rfl rfl fun F0=>?_
 refine sr<|a_ rfl<|a_ rfl<|nt<|sq<|sr<|m_ rfl<|oN Tryz.underlying24 rfl<|b_ rfl<|nt<|it hF rfl (fun hF=>?_) (fun hF=>?_)
 ·refine sr<|a_ rfl<|a_ rfl<|nt<|rt<|tV (K:=kSl K10) (x:=[]) (t:=2) rfl rdN ?_
  cases osi hF
  exact rs Tryz.results47 (.tm rfl (.tm rfl .nil)) rfl rfl
 ·refine bs hF fun y2 h3 hF=>ct<|sr<|m_ rfl<|ca Tryz.call85 rfl rfl (Ok.cv (.sm (.sm (.rd rdN .nil))) (o43 h3 _)) rfl<|a_ rfl<|a_ rfl<|nt<|rc ?_
  cases osi hF
  exact rs Tryz.results47 (.tm rfl (.tm rfl .nil)) rfl rfl
noncomputable def dF (a0:List Int):Option ((List Int)×Int):=
 bif decide ((a0.length:Int)>48) then
  some ([],1)
 else
  (dm a0 2 [1,IntKind.wrap .u8 (a0.length:Int)]).bind fun y2=>
  some (y2,0)
theorem o45 {a0:List Int} {r0:((List Int)×Int)} (hF:dF a0=some r0) (L:List Res):Ok Tryz.prog 97 [SV.val K8 a0] L (SV.tup [SV.val K8 r0.1,SV.raw (.int .i64 r0.2)]) L:=by
 unfold dF at hF
 refine okI 13 Tryz.func97 rfl rfl rfl fun F0=>?_
 refine sr<|a_ rfl<|a_ rfl<|nt<|sq<|sr<|m_ rfl<|oN Tryz.underlying24 rfl<|b_ rfl<|nt<|it hF rfl (fun hF=>?_) (fun hF=>?_)
 ·refine sr<|a_ rfl<|a_ rfl<|nt<|rt<|tV (K:=kSl K10) (x:=[]) (t:=2) rfl rdN ?_
  cases osi hF
  exact rs Tryz.results97 (.tm rfl (.tm rfl .nil)) rfl rfl
 ·refine bs hF fun y2 h3 hF=>ct<|sr<|m_ rfl<|m_ rfl<|oN Tryz.underlying24 rfl<|oC (by kernel_rfl) Tryz.underlying5 rfl<|bF (ys:=[1,IntKind.wrap .u8 (a0.length:Int)]) Tryz.underlying24 ET5 (BldA.cons rfl rfl rdI (BldA.cons rfl rfl rdI (BldA.nil _))) rfl rfl<|cx Tryz.call85 rfl (o43 h3 _)<|a_ rfl<|a_ rfl<|nt<|rc ?_
  cases osi hF
  exact rs Tryz.results97 (.tm rfl (.tm rfl .nil)) rfl rfl
noncomputable def cY (a0:List Int) (a1:Int) (a2:List Int):Option (ab×Int):=
 ((bif (a0.length:Int) != 32 then
  some true
 else
  (bV a1).bind fun y5=>
  some (y5==0)
  :Option Bool)).bind fun x4=>
 bif x4 then
  some ((⟨[],(List.replicate 16 (0:Int))⟩:ab),2)
 else
  (bV a1).bind fun y8=>
  (eF a2 y8).bind fun xA=>
  bif xA.2 != 0 then
   some ((⟨[],(List.replicate 16 (0:Int))⟩:ab),xA.2)
  else
   bif decide (16≤xA.1.length) then
   (cu a0 (List.take 16 xA.1)).bind fun yA=>
   bif yA.2 != 0 then
    some ((⟨[],(List.replicate 16 (0:Int))⟩:ab),yA.2)
   else
    (sub xA.1 32 (xA.1.length:Int)).bind fun bA=>
    (sub xA.1 16 32).bind fun dA=>
    (cw yA.1 a1 (List.take 16 xA.1) bA).bind fun eA=>
    (dY dA eA).bind fun cA=>
    bif !cA then
     some ((⟨[],(List.replicate 16 (0:Int))⟩:ab),70)
    else
     (cX yA.1.Box (List.replicate 16 (0:Int)) bA).bind fun qA=>
     (cT qA a1).bind fun zA=>
     bif !zA.2 then
      some ((⟨[],(List.replicate 16 (0:Int))⟩:ab),71)
     else
      (sub xA.1 0 32).bind fun rA=>
      (dj yA.1.Replay rA).bind fun hA=>
      bif decide (16≤hA.length) then
      ((bif decide (a1>1) then
       (dQ zA.1).bind fun vA=>
       some (vA.2,({(⟨[],List.take 16 hA⟩:ab) with Cell:=vA.1}:ab))
      else
       (dF zA.1).bind fun oA=>
       some (oA.2,({(⟨[],List.take 16 hA⟩:ab) with Cell:=oA.1}:ab))
       :Option (Int×ab))).bind fun wA=>match wA with
       |(kA,gA)=>
        bif kA != 0 then
         some ((⟨[],(List.replicate 16 (0:Int))⟩:ab),kA)
        else
         some (gA,0)
      else none
   else none
theorem o46 {a0:List Int} {a1:Int} {a2:List Int} {r0:(ab×Int)} (hF:cY a0 a1 a2=some r0) (L:List Res):Ok Tryz.prog 70 [SV.val K8 a0,SV.raw (.int .i64 a1),SV.val K8 a2] L (SV.tup [SV.val aK r0.1,SV.raw (.int .i64 r0.2)]) L:=by
 unfold cY at hF
 refine okI 103 Tryz.func70 rfl rfl rfl fun F0=>?_
 refine bs hF fun x4 h3 hF=>sr<|al ZT150 rfl fun b1=>a_ rfl<|nt<|sq<|sr<|m_ rfl<|oN Tryz.underlying24 rfl<|b_ rfl<|m_ rfl<|df 24 x4 ?_ (fun k=>?_)
 ·refine nt<|it hF rfl (fun hF=>?_) (fun hF=>?_)
  ·refine sr<|ov (OpV.bst BT150 (Bld.nil _)) rfl<|sP (x':=(⟨[],(List.replicate 16 (0:Int))⟩:ab)) .box .id sz150k rfl rfl rdV rfl<|a_ rfl<|nl<|fz (t:=6) rfl<|tn<|rt ?_
   cases osi hF
   exact rs Tryz.results70 (.ce rfl kt150 (.tm rfl .nil)) rfl rfl
  ·refine bs hF fun y8 h9 hF=>bs hF fun kA eA hF=>ct<|sr<|m_ rfl<|m_ rfl<|cx Tryz.call81 rfl (o18 h9 _)<|cx Tryz.call107 rfl (o20 eA _)<|m_ rfl<|oE rfl<|oE rfl<|a_ rfl<|a_ rfl<|nt<|sq<|sr<|mb rfl<|nt<|it hF rfl (fun hF=>?_) (fun hF=>?_)
   ·refine sr<|ov (OpV.bst BT150 (Bld.nil _)) rfl<|m_ rfl<|sP (x':=(⟨[],(List.replicate 16 (0:Int))⟩:ab)) .box .id sz150k rfl rfl rdV rfl<|a_ rfl<|nl<|fz (t:=6) rfl<|tn<|rt ?_
    cases osi hF
    exact rs Tryz.results70 (.ce rfl kt150 (.tm rfl .nil)) rfl rfl
   ·refine gs hF fun cA hF=>bs hF fun hA qA hF=>ct<|sr<|m_ rfl<|ov (OpV.s2a (of_decide_eq_true cA) rfl Tryz.underlying108 rfl rdV) rfl<|oL kt108 rfl<|al ZT108 rfl fun dB=>sP (x':=List.take 16 kA.1) .box .id sz108k rfl rfl rdV rfl<|nl<|fz (t:=10) rfl<|tn<|sr<|m_ rfl<|oL kt108 rfl<|cx Tryz.call80 rfl (o21 qA _)<|m_ rfl<|oE rfl<|oE rfl<|al ZT176 rfl fun eB=>sP (x':=hA.1) .box .id sz176k rfl rfl rdV rfl<|a_ rfl<|nl<|fz (t:=11) rfl<|tn<|sq<|sr<|mb rfl<|nt<|it hF rfl (fun hF=>?_) (fun hF=>?_)
    ·refine sr<|ov (OpV.bst BT150 (Bld.nil _)) rfl<|m_ rfl<|sP (x':=(⟨[],(List.replicate 16 (0:Int))⟩:ab)) .box .id sz150k rfl rfl rdV rfl<|a_ rfl<|nl<|fz (t:=6) rfl<|tn<|rt ?_
     cases osi hF
     exact rs Tryz.results70 (.ce rfl kt150 (.tm rfl .nil)) rfl rfl
    ·refine bs hF fun cB rA hF=>bs hF fun qB wA hF=>bs hF fun rB gA hF=>bs hF fun wB mA hF=>ct<|sr<|m_ rfl<|ov (OpV.slL rA Tryz.underlying24 sz5 rfl rdV rfl) rfl<|a_ rfl<|nt<|sq<|sq<|ph rfl<|gV [0,1,2,3,4,5,6] [[8],[52],[11],[1],[10],[12],[54,55,56,57]] 1 (by kernel_rfl) rfl<|vm_ rfl<|vo (fun _=>OpV.slLH wA Tryz.underlying24 sz5 rfl rdV rfl rfl) rfl<|vo (fun _=>OpV.ld kt176 rfl) rfl<|vm_ rfl<|vo (fun _=>OpV.ld kt108 rfl) rfl<|vm_ rfl<|Vq.v (fun G T hG=>cx Tryz.call84 rfl (o22 gA _)<|Vq.end rfl)<|vn<|p1 7 rfl rfl<|cx Tryz.call108 rfl (o23 mA _)<|pn<|p1 8 rfl rfl<|ov (OpV.not rfl) rfl<|pn<|pd rfl<|tn<|it hF rfl (fun hF=>?_) (fun hF=>?_)
     ·refine sr<|ov (OpV.bst BT150 (Bld.nil _)) rfl<|sP (x':=(⟨[],(List.replicate 16 (0:Int))⟩:ab)) .box .id sz150k rfl rfl rdV rfl<|a_ rfl<|nl<|fz (t:=6) rfl<|tn<|rt ?_
      cases osi hF
      exact rs Tryz.results70 (.ce rfl kt150 (.tm rfl .nil)) rfl rfl
     ·refine bs hF fun gB nA hF=>bs hF fun mB pA hF=>ct<|sr<|oF fb176k1 rfl<|oL kt108 rfl<|ov (OpV.bar (ys:=(List.replicate 16 (0:Int))) BTA108 (BldA.nil _)) rfl<|m_ rfl<|cx Tryz.call83 rfl (o40 nA _)<|m_ rfl<|cx Tryz.call109 rfl (o42 pA _)<|m_ rfl<|oE rfl<|oE rfl<|a_ rfl<|a_ rfl<|nt<|sq<|sr<|m_ rfl<|ov (OpV.not rfl) rfl<|nt<|it hF rfl (fun hF=>?_) (fun hF=>?_)
      ·refine sr<|ov (OpV.bst BT150 (Bld.nil _)) rfl<|sP (x':=(⟨[],(List.replicate 16 (0:Int))⟩:ab)) .box .id sz150k rfl rfl rdV rfl<|a_ rfl<|nl<|fz (t:=6) rfl<|tn<|rt ?_
       cases osi hF
       exact rs Tryz.results70 (.ce rfl kt150 (.tm rfl .nil)) rfl rfl
      ·refine bs hF fun tA uA hF=>bs hF fun yA xB hF=>ct<|sq<|ph rfl<|Under.grpT (L:=L) [0,1,2,3,4,5] [[11],[75],[8],[77],[76,78],[]] [⟨sk0 (.ptr K5 hA.1.Replay),[],[],[]⟩,⟨sk0 (.val K8 hA.1.Replay),[],[],[]⟩,⟨sk0 (.val K8 kA.1),[],[],[]⟩,⟨sk0 (.val K8 tA),[],[],[]⟩,⟨sk0 (.val K5 yA),[],[],[]⟩,⟨sk1 5 (fun u5=> .raw (.pointer (some ⟨(vblk u5),0,none⟩))),[],[(0,tk1 5 (fun u5=> .box K5 (vblk u5) 169 (List.replicate 32 (0:Int))))],[]⟩] [] (fun T:List Res=>(.box aK b1 150 (⟨[],(List.replicate 16 (0:Int))⟩:ab))::T) lf1 rfl (by kernel_rfl) rfl rfl (fun F hF0 bA=>?_)
       refine Tq.v (fun G T hG=>?_) ?_
       ·exact oF fb176k2 rfl<|Tq.end undef rfl rfl
       refine Tq.v (fun G T hG=>?_) ?_
       ·exact ov (OpV.slA Tryz.underlying169 sz5 rfl) rfl<|Tq.end undef rfl rfl
       refine Tq.v (fun G T hG=>?_) ?_
       ·exact m_ rfl<|Tq.end undef rfl rfl
       refine Tq.v (fun G T hG=>?_) ?_
       ·exact ov (OpV.slH uA Tryz.underlying24 sz5 rfl rdV rfl) rfl<|Tq.end undef rfl rfl
       refine Tq.v (fun G T hG=>?_) ?_
       ·exact cx Tryz.call110 rfl (o11 xB _)<|Tq.end undef rfl rfl
       refine Tq.st (.raw (.pointer (some ⟨(vblk (bA 5)),0,none⟩))) [] rfl rfl (fun G T hG=>?_) ?_
       ·exact al ZT169 rfl fun yB=>Tq.end (.pointer (some ⟨yB,0,none⟩)) rfl rfl
       refine gs hF fun zB hF=>bs hF fun hB xA hF=>Tq.nil<|Under.le hF0<|p1 6 rfl rfl<|f1<|sP (x':=yA) .box .id sz169k rfl rfl rdV rfl<|pn<|pd rfl<|fz (t:=15) rfl<|tn<|sr<|ov (OpV.slA Tryz.underlying169 sz5 rfl) rfl<|ov (OpV.s2a (of_decide_eq_true zB) rfl Tryz.underlying108 rfl rdV) rfl<|oL kt108 rfl<|ov (OpV.bst BT150 (Bld.cons (x':=(⟨[],List.take 16 yA⟩:ab)) rfl rfl rdV ⟨rfl,(fun q hq=>by simp at hq)⟩ (Bld.nil _))) rfl<|al ZT150 rfl fun nB=>sP (x':=(⟨[],List.take 16 yA⟩:ab)) .box .id sz150k rfl rfl rdV rfl<|nt<|sq<|Under.after (fun X=>∀(vA:Int) (zA:ab),hB=(vA,zA)→Under F0 103 [(6,pb b1),(9,.raw (.int .i64 vA)),(16,.ptr aK zA)] ((.box aK b1 150 (⟨[],(List.replicate 16 (0:Int))⟩:ab))::L) X) ?_ ?_
       ·intro vA zA oA
        replace oA:=oA.symm
        subst oA
        refine sq<|sr<|mb rfl<|nt<|it hF rfl (fun hF=>?_) (fun hF=>?_)
        ·refine sr<|ov (OpV.bst BT150 (Bld.nil _)) rfl<|m_ rfl<|sP (x':=(⟨[],(List.replicate 16 (0:Int))⟩:ab)) .box .id sz150k rfl rfl rdV rfl<|a_ rfl<|nl<|fz (t:=6) rfl<|tn<|rt ?_
         cases osi hF
         exact rs Tryz.results70 (.ce rfl kt150 (.tm rfl .nil)) rfl rfl
        ·refine ct<|sr<|oL kt150 rfl<|sP (x':=zA) .box .id sz150k rfl rfl rdV rfl<|a_ rfl<|nl<|fz (t:=6) rfl<|tn<|rc ?_
         cases osi hF
         exact rs Tryz.results70 (.ce rfl kt150 (.tm rfl .nil)) rfl rfl
       ·intro K dA
        refine sr<|mb rfl<|nt<|it xA rfl (fun xA=>?_) (fun xA=>?_)
        ·exact bs xA fun bB vB xA=>rg<|m_ rfl<|cx Tryz.call47 rfl (o44 vB _)<|m_ rfl<|oE rfl<|oE rfl<|oM ii rfl<|sP (x':=({(⟨[],List.take 16 yA⟩:ab) with Cell:=bB.1}:ab)) .box (.fld .id dc) sz24k rfl rfl rdV rfl<|a_ rfl<|nl<|fz (t:=16) rfl<|tn<|wr (dA _ _ (osi xA).symm) rfl
        ·exact bs xA fun oB kB xA=>rg<|m_ rfl<|cx Tryz.call97 rfl (o45 kB _)<|m_ rfl<|oE rfl<|oE rfl<|oM ii rfl<|sP (x':=({(⟨[],List.take 16 yA⟩:ab) with Cell:=oB.1}:ab)) .box (.fld .id dc) sz24k rfl rfl rdV rfl<|a_ rfl<|nl<|fz (t:=16) rfl<|tn<|wr (dA _ _ (osi xA).symm) rfl
 ·refine by_ (t:=20) rfl (fun c2=>?_) (fun c2=>?_)
  ·replace h3:=ctrue c2 h3
   exact sk_ c2 rfl<|sk_ c2 rfl<|sk_ c2 rfl<|pT c2 rfl<|rf 3 (rbq h3) rfl k
  ·replace h3:=cfalse c2 h3
   exact bs h3 fun y5 h6 h3=>gc_ c2 rfl<|m_ rfl<|gc_ c2 rfl<|cx Tryz.call81 rfl (o18 h6 _)<|gc_ c2 rfl<|b_ rfl<|pF c2 rfl<|rf 3 (rbq h3) rfl k
noncomputable def dn (a0:List Int):Option ((List Int)×Bool×Int):=
 bif (a0.length:Int) != 320 then
  some ([],false,50)
 else
  (idx a0 0).bind fun x2=>
  bif x2==0 then
   some ([],false,0)
  else
   bif x2==1 then
    (idx a0 1).bind fun x5=>
    bif decide ((IntKind.wrap .i64 x5)>48) then
     some ([],false,53)
    else
     (sub a0 (IntKind.wrap .i64 (2+(IntKind.wrap .i64 x5))) (a0.length:Int)).bind fun x8=>
     (cr x8).bind fun xA=>
     bif !xA then
      some ([],false,51)
     else
      (sub a0 2 (IntKind.wrap .i64 (2+(IntKind.wrap .i64 x5)))).bind fun yA=>
      (app [] yA).bind fun zA=>
      some (zA,true,0)
   else
    some ([],false,52)
theorem o47 {a0:List Int} {r0:((List Int)×Bool×Int)} (hF:dn a0=some r0) (L:List Res):Ok Tryz.prog 31 [SV.val K8 a0] L (SV.tup [SV.val K8 r0.1,SV.raw (.bool r0.2.1),SV.raw (.int .i64 r0.2.2)]) L:=by
 unfold dn at hF
 refine okI 33 Tryz.func31 rfl rfl rfl fun F0=>?_
 refine sr<|a_ rfl<|a_ rfl<|a_ rfl<|nt<|sq<|sr<|m_ rfl<|oN Tryz.underlying24 rfl<|b_ rfl<|nt<|it hF rfl (fun hF=>?_) (fun hF=>?_)
 ·refine sr<|a_ rfl<|a_ rfl<|a_ rfl<|nt<|rt<|tV (K:=kSl K10) (x:=[]) (t:=2) rfl rdN ?_
  cases osi hF
  exact rs Tryz.results31 (.tm rfl (.tm rfl (.tm rfl .nil))) rfl rfl
 ·refine bs hF fun x2 h3 hF=>ct<|sq<|sr<|m_ rfl<|oS h3 Tryz.underlying24 sz5 rfl<|oI kt5 rfl<|nt<|bk<|sr<|b_ rfl<|a_ rfl<|nt<|it hF rfl (fun hF=>?_) (fun hF=>?_)
  ·refine sr<|a_ rfl<|a_ rfl<|a_ rfl<|nt<|rc<|Under.bR<|tr<|tV (K:=kSl K10) (x:=[]) (t:=2) rfl rdN ?_
   cases osi hF
   exact rs Tryz.results31 (.tm rfl (.tm rfl (.tm rfl .nil))) rfl rfl
  ·refine sr<|b_ rfl<|a_ rfl<|nt<|it hF rfl (fun hF=>?_) (fun hF=>?_)
   ·refine bs hF fun x5 h6 hF=>cs<|bN<|tn<|sr<|m_ rfl<|oS h6 Tryz.underlying24 sz5 rfl<|oI kt5 rfl<|oC (by kernel_rfl) Tryz.underlying3 rfl<|a_ rfl<|nt<|sq<|sr<|mb rfl<|nt<|it hF rfl (fun hF=>?_) (fun hF=>?_)
    ·refine sr<|a_ rfl<|a_ rfl<|a_ rfl<|nt<|rt<|tV (K:=kSl K10) (x:=[]) (t:=2) rfl rdN ?_
     cases osi hF
     exact rs Tryz.results31 (.tm rfl (.tm rfl (.tm rfl .nil))) rfl rfl
    ·refine bs hF fun x8 h9 hF=>bs hF fun hA xA hF=>ct<|sq<|sr<|m_ rfl<|mb rfl<|ov (OpV.slL h9 Tryz.underlying24 sz5 rfl rdV rfl) rfl<|cx Tryz.call59 rfl (o19 xA _)<|ov (OpV.not rfl) rfl<|nt<|it hF rfl (fun hF=>?_) (fun hF=>?_)
     ·refine sr<|a_ rfl<|a_ rfl<|a_ rfl<|nt<|rt<|tV (K:=kSl K10) (x:=[]) (t:=2) rfl rdN ?_
      cases osi hF
      exact rs Tryz.results31 (.tm rfl (.tm rfl (.tm rfl .nil))) rfl rfl
     ·refine bs hF fun bA yA hF=>bs hF fun vA zA hF=>ct<|sr<|m_ rfl<|mb rfl<|ov (OpV.slLH yA Tryz.underlying24 sz5 rfl rdV rfl rfl) rfl<|Under.ownNil (K:=kInt .u8) (e:=5)<|ap zA Tryz.underlying24 AT5 rfl rfl rdV rfl fun oA=>a_ rfl<|a_ rfl<|a_ rfl<|nl<|fzO (t:=2) rfl<|tn<|rc ?_
      cases osi hF
      exact rs Tryz.results31 (.tm rfl (.tm rfl (.tm rfl .nil))) rfl rfl
   ·refine sr<|a_ rfl<|a_ rfl<|a_ rfl<|nt<|rc<|Under.bR<|tr<|tV (K:=kSl K10) (x:=[]) (t:=2) rfl rdN ?_
    cases osi hF
    exact rs Tryz.results31 (.tm rfl (.tm rfl (.tm rfl .nil))) rfl rfl
noncomputable def cZ (a0:List (List Int)) (a1:List (List Int)) (a2:List Int):Option ((List Int)×Int):=
 (cl a0 a1).bind fun y1=>
 bif y1 != 0 then
  some ([],y1)
 else
  (((Loop.run (S := ((List Int) × Int)) (R := ((List Int) ⊕ ((List Int) × Int))) (fun (kA, zA) =>
    bif decide (zA<(a0.length:Int)) then
     (idx a0 zA).bind fun hA=>
     (idx a1 zA).bind fun bA=>
     (dk hA bA).bind fun xA=>
     bif xA.2 != 0 then
      some (.done (.inr ([],xA.2)))
     else
      (cY xA.1 (IntKind.wrap .i64 ((a0.length:Int) - zA)) kA).bind fun yA=>
      bif yA.2 != 0 then
       some (.done (.inr ([],yA.2)))
      else
       some (.next (yA.1.Cell,IntKind.wrap .i64 (zA+1)))
    else
     some (.done (.inl kA))) (a2,0)).bind fun vA=>match vA with
   | .inl oA=>
    some (.inr oA)
   | .inr z=>
    some (.inl z)
   : Option (((List Int) × Int) ⊕ (List Int)))).bind fun eA => match eA with
   | .inl z=>
    some z
   | .inr cA=>
    (dn cA).bind fun dA=>
    some (dA.1,dA.2.2)
theorem o48 {a0 a1:List (List Int)} {a2:List Int} {r0:((List Int)×Int)} (hF:cZ a0 a1 a2=some r0) (L:List Res):Ok Tryz.prog 38 [SV.val K1 a0,SV.val K0 a1,SV.val K8 a2] L (SV.tup [SV.val K8 r0.1,SV.raw (.int .i64 r0.2)]) L:=by
 unfold cZ at hF
 refine okI 66 Tryz.func38 rfl rfl rfl fun F0=>?_
 refine bs hF fun y1 h2 hF=>sr<|a_ rfl<|a_ rfl<|nt<|sq<|sr<|m_ rfl<|m_ rfl<|cx Tryz.call68 rfl (o16 h2 _)<|a_ rfl<|ns<|mb rfl<|nt<|it hF rfl (fun hF=>?_) (fun hF=>?_)
 ·refine sr<|m_ rfl<|a_ rfl<|a_ rfl<|nt<|rt<|tV (K:=kSl K10) (x:=[]) (t:=6) rfl rdN ?_
  cases osi hF
  exact rs Tryz.results38 (.tm rfl (.tm rfl .nil)) rfl rfl
 ·refine bs hF fun wA bA hF=>ct<|sq<|Under.after (fun X=>∀(oA:List Int),wA=(.inr oA)→Under F0 66 [(2,.val K8 oA)] (L) X) ?_ ?_
  ·intro oA zA
   replace zA:=zA.symm
   subst zA
   refine bs hF fun zB gA hF=>sr<|m_ rfl<|cx Tryz.call31 rfl (o47 gA _)<|m_ rfl<|oE rfl<|oE rfl<|oE rfl<|a_ rfl<|a_ rfl<|a_ rfl<|ns<|m_ rfl<|m_ rfl<|a_ rfl<|a_ rfl<|nt<|rc ?_
   cases osi hF
   exact rs Tryz.results38 (.tm rfl (.tm rfl .nil)) rfl rfl
  ·intro K mA
   refine bs bA fun nA kA bA=>sr<|m_ rfl<|oN Tryz.underlying22 rfl<|m_ rfl<|nt<|bk<|lp kA () (fun yA vA=>[(0,.val K1 a0),(1,.val K0 a1),(2,.val K8 yA.1),(23,.raw (.int .i64 (a0.length:Int))),(24,.raw (.int .i64 yA.2))]) (fun yA vA=>L) rfl rfl fun yA vA pA xA hA=>?_
   obtain⟨hB,bB⟩:=yA
   dsimp only at xA⊢
   refine sr<|b_ rfl<|nt<|sq<|it xA rfl (fun xA=>?_) (fun xA=>?_)
   ·refine bs xA fun tA dA xA=>bs xA fun uA eA xA=>bs xA fun xB cA xA=>ct<|sq<|bk<|sr<|m_ rfl<|a_ rfl<|nt<|sq<|ph rfl<|gV [0,1,2,3,4,5,6,7] [[0],[9],[28,29],[30],[1],[9],[32,33],[34]] 0 (by kernel_rfl) rfl<|vm_ rfl<|vm_ rfl<|vo (fun _=>OpV.ixS dA Tryz.underlying22 sz24 rfl rdV rfl) rfl<|vo (fun _=>OpV.ld kt24 rfl) rfl<|vm_ rfl<|vm_ rfl<|vo (fun _=>OpV.ixS eA Tryz.underlying23 sz108 rfl rdV rfl) rfl<|vo (fun _=>OpV.ld kt108 rfl) rfl<|vn<|p1 8 rfl rfl<|cx Tryz.call69 rfl (o17 cA _)<|pn<|p1 9 rfl rfl<|m_ rfl<|pn<|gV [10,11,12] [[27],[27],[37]] 0 (by kernel_rfl) rfl<|vo (fun _=>OpV.extr rfl rfl) rfl<|vo (fun _=>OpV.extr rfl rfl) rfl<|Vq.v (fun G T hG=>a_ rfl<|Vq.end rfl)<|vn<|p1 13 rfl rfl<|a_ rfl<|pn<|pd rfl<|tn<|sq<|sr<|mb rfl<|nt<|it xA rfl (fun xA=>?_) (fun xA=>?_)
    ·refine sr<|m_ rfl<|a_ rfl<|a_ rfl<|nt<|rt<|Under.bR<|tr ?_
     cases aj xA hA
     refine tr<|Under.bR<|tr ?_
     cases osi bA
     refine tV (K:=kSl K10) (x:=[]) (t:=6) rfl rdN ?_
     cases osi hF
     exact rs Tryz.results38 (.tm rfl (.tm rfl .nil)) rfl rfl
    ·refine bs xA fun qA rA xA=>ct<|sr<|m_ rfl<|m_ rfl<|oN Tryz.underlying22 rfl<|mb rfl<|m_ rfl<|cx Tryz.call70 rfl (o46 rA _)<|m_ rfl<|oE rfl<|oE rfl<|al ZT150 rfl fun yB=>sP (x':=qA.1) .box .id sz150k rfl rfl rdV rfl<|a_ rfl<|nl<|fz (t:=12) rfl<|tn<|sq<|sr<|mb rfl<|nt<|it xA rfl (fun xA=>?_) (fun xA=>?_)
     ·refine sr<|m_ rfl<|a_ rfl<|a_ rfl<|nt<|rt<|Under.bR<|tr ?_
      cases aj xA hA
      refine tr<|Under.bR<|tr ?_
      cases osi bA
      refine tV (K:=kSl K10) (x:=[]) (t:=6) rfl rdN ?_
      cases osi hF
      exact rs Tryz.results38 (.tm rfl (.tm rfl .nil)) rfl rfl
     ·exact ct<|rg<|oF fb150k rfl<|oL kt24 rfl<|a_ rfl<|nl<|bN<|tn<|rg<|b_ rfl<|m_ rfl<|nl<|nx () xA rfl rfl
   ·refine xt<|te ?_
    cases aj xA hA
    exact te<|bh<|tn<|wr (mA _ (osi bA).symm) rfl
noncomputable def db (a0:List Int):Option (Int×(List Int)×Int):=
 bif (decide ((a0.length:Int)<1))||(decide ((a0.length:Int)>41)) then
  some (0,[],280)
 else
  (idx a0 0).bind fun x5=>
  bif (decide ((IntKind.wrap .i64 x5)>3))||(((IntKind.wrap .i64 x5) != 1)&&(decide ((a0.length:Int)>1))) then
   some (0,[],280)
  else
   (sub a0 1 (a0.length:Int)).bind fun xA=>
   (app [] xA).bind fun yA=>
   some (IntKind.wrap .i64 x5,yA,0)
theorem o49 {a0:List Int} {r0:(Int×(List Int)×Int)} (hF:db a0=some r0) (L:List Res):Ok Tryz.prog 39 [SV.val K8 a0] L (SV.tup [SV.raw (.int .i64 r0.1),SV.val K8 r0.2.1,SV.raw (.int .i64 r0.2.2)]) L:=by
 unfold db at hF
 refine okI 34 Tryz.func39 rfl rfl rfl fun F0=>?_
 refine sr<|a_ rfl<|a_ rfl<|a_ rfl<|nt<|sq<|sr<|m_ rfl<|oN Tryz.underlying24 rfl<|b_ rfl<|m_ rfl<|df 13 ((decide ((a0.length:Int)<1))||(decide ((a0.length:Int)>41))) ?_ (fun k=>?_)
 ·refine nt<|it hF rfl (fun hF=>?_) (fun hF=>?_)
  ·refine sr<|a_ rfl<|a_ rfl<|a_ rfl<|nt<|rt<|tV (K:=kSl K10) (x:=[]) (t:=3) rfl rdN ?_
   cases osi hF
   exact rs Tryz.results39 (.tm rfl (.tm rfl (.tm rfl .nil))) rfl rfl
  ·refine bs hF fun x5 h6 hF=>ct<|sr<|m_ rfl<|oS h6 Tryz.underlying24 sz5 rfl<|oI kt5 rfl<|oC (by kernel_rfl) Tryz.underlying3 rfl<|a_ rfl<|nt<|sq<|sr<|mb rfl<|m_ rfl<|oy 28 ((decide ((IntKind.wrap .i64 x5)>3))||(((IntKind.wrap .i64 x5) != 1)&&(decide ((a0.length:Int)>1)))) ?_ (fun k=>?_)
   ·refine nt<|it hF rfl (fun hF=>?_) (fun hF=>?_)
    ·refine sr<|a_ rfl<|a_ rfl<|a_ rfl<|nt<|rt<|tV (K:=kSl K10) (x:=[]) (t:=3) rfl rdN ?_
     cases osi hF
     exact rs Tryz.results39 (.tm rfl (.tm rfl (.tm rfl .nil))) rfl rfl
    ·refine bs hF fun hA yA hF=>bs hF fun bA zA hF=>ct<|sr<|m_ rfl<|bO (ys:=[]) Tryz.underlying24 ET5 (BldA.nil _) rfl rfl fun vA=>m_ rfl<|ov (OpV.slL yA Tryz.underlying24 sz5 rfl rdV rfl) rfl<|ap zA Tryz.underlying24 AT5 rfl rfl rdV rfl fun oA=>a_ rfl<|a_ rfl<|a_ rfl<|nl<|fzO (t:=3) rfl<|tn<|rc ?_
     cases osi hF
     exact rs Tryz.results39 (.tm rfl (.tm rfl (.tm rfl .nil))) rfl rfl
   ·refine by_ (t:=20) rfl (fun c7=>?_) (fun c7=>?_)
    ·exact sk_ c7 rfl<|sk_ c7 rfl<|sk_ c7 rfl<|Under.sku rfl rfl rfl<|Under.sku rfl rfl rfl<|Under.sku rfl rfl rfl<|sk_ c7 rfl<|pT c7 rfl<|rf 7 (or_t (e:=((IntKind.wrap .i64 x5) != 1)&&(decide ((a0.length:Int)>1))) c7) rfl k
    ·refine gc_ c7 rfl<|m_ rfl<|gc_ c7 rfl<|b_ rfl<|gc_ c7 rfl<|m_ rfl<|df 27 (((IntKind.wrap .i64 x5) != 1)&&(decide ((a0.length:Int)>1))) ?_ (fun k=>?_)
     ·exact pF c7 rfl<|rf 4 (or_f c7) rfl k
     ·refine by_ (t:=23) rfl (fun xA=>?_) (fun xA=>?_)
      ·exact gc_ xA rfl<|m_ rfl<|gc_ xA rfl<|oN Tryz.underlying24 rfl<|gc_ xA rfl<|b_ rfl<|gc_ c7 rfl<|pT xA rfl<|rf 3 (gj xA) rfl k
      ·exact sk_ xA rfl<|sk_ xA rfl<|sk_ xA rfl<|gc_ c7 rfl<|pF xA rfl<|rf 3 (gm (e:=decide ((a0.length:Int)>1)) xA) rfl k
 ·refine by_ (t:=9) rfl (fun c1=>?_) (fun c1=>?_)
  ·exact sk_ c1 rfl<|sk_ c1 rfl<|sk_ c1 rfl<|pT c1 rfl<|rf 3 (or_t (e:=decide ((a0.length:Int)>41)) c1) rfl k
  ·exact gc_ c1 rfl<|m_ rfl<|gc_ c1 rfl<|oN Tryz.underlying24 rfl<|gc_ c1 rfl<|b_ rfl<|pF c1 rfl<|rf 3 (or_f c1) rfl k
noncomputable def dp (a0:List (List Int)) (a1:Int) (a2:List (List Int)) (a3:List Int):Option (Int×(List Int)×Int):=
 (((Loop.run (S := ((List (List Int)) × Int)) (R := ((List (List Int)) ⊕ (Int × (List Int) × Int))) (fun (bA, xA) =>
   bif decide (xA<(a0.length:Int)) then
    (idx a0 xA).bind fun vA=>
    (cJ vA a1).bind fun yA=>
    bif yA.2 != 0 then
     some (.done (.inr (0,[],yA.2)))
    else
     (app bA [yA.1]).bind fun oA=>
     some (.next (oA,IntKind.wrap .i64 (xA+1)))
   else
    some (.done (.inl bA))) ([],0)).bind fun kA=>match kA with
  | .inl dA=>
   some (.inr dA)
  | .inr z=>
   some (.inl z)
  : Option ((Int × (List Int) × Int) ⊕ (List (List Int))))).bind fun eA => match eA with
  | .inl z=>
   some z
  | .inr cA=>
   (cZ cA a2 a3).bind fun zA=>
   bif zA.2 != 0 then
    some (0,[],zA.2)
   else
    (db zA.1).bind fun hA=>
    some (hA.1,hA.2.1,hA.2.2)
theorem o50 {a0:List (List Int)} {a1:Int} {a2:List (List Int)} {a3:List Int} {r0:(Int×(List Int)×Int)} (hF:dp a0 a1 a2 a3=some r0) (L:List Res):Ok Tryz.prog 19 [SV.val K1 a0,SV.raw (.int .i64 a1),SV.val K0 a2,SV.val K8 a3] L (SV.tup [SV.raw (.int .i64 r0.1),SV.val K8 r0.2.1,SV.raw (.int .i64 r0.2.2)]) L:=by
 unfold dp at hF
 refine okI 53 Tryz.func19 rfl rfl rfl fun F0=>?_
 refine bs hF fun kA bA hF=>sr<|a_ rfl<|a_ rfl<|a_ rfl<|ns<|a_ rfl<|nt<|sq<|Under.after (fun X=>∀(vA:List (List Int)),kA=(.inr vA)→Under F0 53 [(2,.val K0 a2),(3,.val K8 a3),(11,.val K1 vA)] (L) X) ?_ ?_
 ·intro vA hA
  replace hA:=hA.symm
  subst hA
  refine bs hF fun pA dA hF=>sr<|m_ rfl<|m_ rfl<|m_ rfl<|cx Tryz.call38 rfl (o48 dA _)<|m_ rfl<|oE rfl<|oE rfl<|a_ rfl<|a_ rfl<|nt<|sq<|sr<|mb rfl<|nt<|it hF rfl (fun hF=>?_) (fun hF=>?_)
  ·refine sr<|m_ rfl<|a_ rfl<|a_ rfl<|a_ rfl<|nt<|rt<|tV (K:=kSl K10) (x:=[]) (t:=9) rfl rdN ?_
   cases osi hF
   exact rs Tryz.results19 (.tm rfl (.tm rfl (.tm rfl .nil))) rfl rfl
  ·refine bs hF fun tA eA hF=>ct<|sr<|m_ rfl<|cx Tryz.call39 rfl (o49 eA _)<|oE rfl<|oE rfl<|oE rfl<|a_ rfl<|a_ rfl<|a_ rfl<|nt<|rc ?_
   cases osi hF
   exact rs Tryz.results19 (.tm rfl (.tm rfl (.tm rfl .nil))) rfl rfl
 ·intro K cA
  refine bs bA fun uA qA bA=>sr<|m_ rfl<|oN Tryz.underlying22 rfl<|m_ rfl<|nt<|bk<|Under.ownNil (K:=kSl K10) (e:=24)<|lp qA (C:=Value) (.slice none 0 0) (fun yA zA=>[(1,.raw (.int .i64 a1)),(2,.val K0 a2),(3,.val K8 a3),(11,.raw zA),(18,.val K1 a0),(19,.raw (.int .i64 (a0.length:Int))),(20,.raw (.int .i64 yA.2))]) (fun yA zA=>(.own K8 zA 24 yA.1)::L) rfl rfl fun yA zA xB xA oA=>?_
  obtain⟨yB,zB⟩:=yA
  dsimp only at xA⊢
  refine sr<|b_ rfl<|nt<|sq<|it xA rfl (fun xA=>?_) (fun xA=>?_)
  ·refine bs xA fun hB rA xA=>bs xA fun wA gA xA=>ct<|sq<|bk<|sr<|oS rA Tryz.underlying22 sz24 rfl<|oL kt24 rfl<|a_ rfl<|ns<|m_ rfl<|m_ rfl<|cx Tryz.call24 rfl (o15 gA _)<|m_ rfl<|oE rfl<|oE rfl<|a_ rfl<|a_ rfl<|nt<|sq<|sr<|mb rfl<|nt<|it xA rfl (fun xA=>?_) (fun xA=>?_)
   ·refine dr<|sr<|m_ rfl<|a_ rfl<|a_ rfl<|a_ rfl<|nt<|rt<|Under.bR<|tr ?_
    cases aj xA oA
    refine tr<|Under.bR<|tr ?_
    cases osi bA
    refine tV (K:=kSl K10) (x:=[]) (t:=9) rfl rdN ?_
    cases osi hF
    exact rs Tryz.results19 (.tm rfl (.tm rfl (.tm rfl .nil))) rfl rfl
   ·exact bs xA fun bB mA xA=>ct<|rg<|m_ rfl<|m_ rfl<|bF (ys:=[wA.1]) Tryz.underlying22 ET24 (BldA.cons rfl rfl rdV (BldA.nil _)) rfl rfl<|ap mA Tryz.underlying22 AT24 rfl rfl rdV rfl fun nA=>a_ rfl<|nl<|bN<|tn<|rg<|b_ rfl<|m_ rfl<|nl<|nx nA xA rfl rfl
  ·refine fzO (t:=11) rfl<|xt<|te ?_
   cases aj xA oA
   exact te<|bh<|tn<|wr (cA _ (osi bA).symm) rfl
noncomputable def eI (a0:List Int) (a1:List Int):Option ((List Int)×Int):=
 bif decide ((a1.length:Int)>40) then
  some ([],1)
 else
  (app a0 a1).bind fun z2=>
  some (z2,0)
theorem o51 {a0 a1:List Int} {r0:((List Int)×Int)} (hF:eI a0 a1=some r0) (L:List Res):Ok Tryz.prog 35 [SV.val (kArr 8 K10) a0,SV.val K8 a1] L (SV.tup [SV.val K8 r0.1,SV.raw (.int .i64 r0.2)]) L:=by
 unfold eI at hF
 refine okI 12 Tryz.func35 rfl rfl rfl fun F0=>?_
 refine sr<|bX (K:=kArr 8 K10) rfl rdV rfl<|a_ rfl<|a_ rfl<|nt<|sq<|sr<|m_ rfl<|oN Tryz.underlying24 rfl<|b_ rfl<|nt<|it hF rfl (fun hF=>?_) (fun hF=>?_)
 ·refine sr<|a_ rfl<|a_ rfl<|nt<|rt<|tV (K:=kSl K10) (x:=[]) (t:=4) rfl rdN ?_
  cases osi hF
  exact rs Tryz.results35 (.tm rfl (.tm rfl .nil)) rfl rfl
 ·refine bs hF fun z2 h3 hF=>ct<|sr<|ov (OpV.slAC Tryz.underlying44 sz5 rfl) rfl<|m_ rfl<|Under.apC h3 Tryz.underlying24 (by kernel_rfl) AT5 rfl rfl (.sl rdV) rfl<|a_ rfl<|a_ rfl<|nt<|rc ?_
  cases osi hF
  exact rs Tryz.results35 (.tm rfl (.tm rfl .nil)) rfl rfl
noncomputable def fp (a0:List Int) (a1:List Int) (a2:Int) (a3:List Int):Option ((List Int)×Int):=
 (cu a0 a1).bind fun y1=>
 ((bif y1.2 != 0 then
  some true
 else
  (bV a2).bind fun y7=>
  some (y7==0)
  :Option Bool)).bind fun x6=>
 bif x6 then
  some ([],2)
 else
  (dz a2).bind fun zA=>
  bif decide ((a3.length:Int)>zA) then
   some ([],1)
  else
   (bV a2).bind fun xA=>
   bif mkB (IntKind.wrap .i64 (xA - 32)) (IntKind.wrap .i64 (xA - 32)) then
   (idx (List.replicate (Int.toNat (IntKind.wrap .i64 (xA - 32))) (0:Int)) 0).bind fun kA=>
   (idx (List.set (List.replicate (Int.toNat (IntKind.wrap .i64 (xA - 32))) (0:Int)) (Int.toNat 0) (IntKind.wrap .u8 (shrI .i64 (a3.length:Int) 8))) 1).bind fun dA=>
   bif decide ((0:Int)≤2∧(2:Int)≤((List.set (List.set (List.replicate (Int.toNat (IntKind.wrap .i64 (xA - 32))) (0:Int)) (Int.toNat 0) (IntKind.wrap .u8 (shrI .i64 (a3.length:Int) 8))) (Int.toNat 1) (IntKind.wrap .u8 (a3.length:Int))).length:Int)∧(((List.set (List.set (List.replicate (Int.toNat (IntKind.wrap .i64 (xA - 32))) (0:Int)) (Int.toNat 0) (IntKind.wrap .u8 (shrI .i64 (a3.length:Int) 8))) (Int.toNat 1) (IntKind.wrap .u8 (a3.length:Int))).length:Int):Int)≤((List.set (List.set (List.replicate (Int.toNat (IntKind.wrap .i64 (xA - 32))) (0:Int)) (Int.toNat 0) (IntKind.wrap .u8 (shrI .i64 (a3.length:Int) 8))) (Int.toNat 1) (IntKind.wrap .u8 (a3.length:Int))).length:Int)) then
   bif decide ((Int.toNat 2)≤(Int.toNat ((List.set (List.set (List.replicate (Int.toNat (IntKind.wrap .i64 (xA - 32))) (0:Int)) (Int.toNat 0) (IntKind.wrap .u8 (shrI .i64 (a3.length:Int) 8))) (Int.toNat 1) (IntKind.wrap .u8 (a3.length:Int))).length:Int))∧(Int.toNat ((List.set (List.set (List.replicate (Int.toNat (IntKind.wrap .i64 (xA - 32))) (0:Int)) (Int.toNat 0) (IntKind.wrap .u8 (shrI .i64 (a3.length:Int) 8))) (Int.toNat 1) (IntKind.wrap .u8 (a3.length:Int))).length:Int))≤(List.length (List.set (List.set (List.replicate (Int.toNat (IntKind.wrap .i64 (xA - 32))) (0:Int)) (Int.toNat 0) (IntKind.wrap .u8 (shrI .i64 (a3.length:Int) 8))) (Int.toNat 1) (IntKind.wrap .u8 (a3.length:Int))))) then
   (cX y1.1.Box (List.replicate 16 (0:Int)) (over (List.set (List.set (List.replicate (Int.toNat (IntKind.wrap .i64 (xA - 32))) (0:Int)) (Int.toNat 0) (IntKind.wrap .u8 (shrI .i64 (a3.length:Int) 8))) (Int.toNat 1) (IntKind.wrap .u8 (a3.length:Int))) (Int.toNat 2) (Int.toNat ((List.set (List.set (List.replicate (Int.toNat (IntKind.wrap .i64 (xA - 32))) (0:Int)) (Int.toNat 0) (IntKind.wrap .u8 (shrI .i64 (a3.length:Int) 8))) (Int.toNat 1) (IntKind.wrap .u8 (a3.length:Int))).length:Int)) a3)).bind fun yA=>
   (app [] a1).bind fun hA=>
   (cw y1.1 a2 a1 yA).bind fun bA=>
   (app hA bA).bind fun vA=>
   (app vA yA).bind fun oA=>
   some (oA,0)
   else none
   else none
   else none
theorem o52 {a0 a1:List Int} {a2:Int} {a3:List Int} {r0:((List Int)×Int)} (hF:fp a0 a1 a2 a3=some r0) (L:List Res):Ok Tryz.prog 46 [SV.val K8 a0,SV.val K6 a1,SV.raw (.int .i64 a2),SV.val K8 a3] L (SV.tup [SV.val K8 r0.1,SV.raw (.int .i64 r0.2)]) L:=by
 unfold fp at hF
 refine okI 70 Tryz.func46 rfl rfl rfl fun F0=>?_
 refine bs hF fun y1 h2 hF=>bs hF fun x6 h5 hF=>sr<|bX (K:=kArr 16 K10) rfl rdV rfl<|a_ rfl<|a_ rfl<|ns<|m_ rfl<|oL kt108 rfl<|cx Tryz.call80 rfl (o21 h2 _)<|m_ rfl<|oE rfl<|oE rfl<|al ZT176 rfl fun b3=>sP (x':=y1.1) .box .id sz176k rfl rfl rdV rfl<|a_ rfl<|nl<|fz (t:=10) rfl<|tn<|sq<|sr<|mb rfl<|m_ rfl<|df 27 x6 ?_ (fun k=>?_)
 ·refine nt<|it hF rfl (fun hF=>?_) (fun hF=>?_)
  ·refine sr<|a_ rfl<|a_ rfl<|nt<|rt<|tV (K:=kSl K10) (x:=[]) (t:=8) rfl rdN ?_
   cases osi hF
   exact rs Tryz.results46 (.tm rfl (.tm rfl .nil)) rfl rfl
  ·refine bs hF fun wA vA hF=>ct<|sq<|sr<|m_ rfl<|oN Tryz.underlying24 rfl<|m_ rfl<|cx Tryz.call82 rfl (o41 vA _)<|b_ rfl<|nt<|it hF rfl (fun hF=>?_) (fun hF=>?_)
   ·refine sr<|a_ rfl<|a_ rfl<|nt<|rt<|tV (K:=kSl K10) (x:=[]) (t:=8) rfl rdN ?_
    cases osi hF
    exact rs Tryz.results46 (.tm rfl (.tm rfl .nil)) rfl rfl
   ·refine bs hF fun xA oA hF=>gs hF fun kA hF=>bs hF fun gA hA hF=>bs hF fun mA bA hF=>gs hF fun yA hF=>ct<|sr<|m_ rfl<|cx Tryz.call81 rfl (o18 oA _)<|b_ rfl<|Under.mk kA Tryz.underlying24 AT5 rfl rfl rfl fun nA=>a_ rfl<|ns<|m_ rfl<|m_ rfl<|m_ rfl<|oN Tryz.underlying24 rfl<|ov (OpV.sh rfl rfl (by decide) rfl) rfl<|oC (by kernel_rfl) Tryz.underlying5 rfl<|m_ rfl<|oN Tryz.underlying24 rfl<|oC (by kernel_rfl) Tryz.underlying5 rfl<|ov (OpV.ixO hA Tryz.underlying24 sz5k rfl rfl) rfl<|sP (x':=List.set (List.replicate (Int.toNat (IntKind.wrap .i64 (xA - 32))) (0:Int)) (Int.toNat 0) (IntKind.wrap .u8 (shrI .i64 (a3.length:Int) 8))) (.own hA) (.ix .id hA) sz5k rfl rfl rdI rfl<|ov (OpV.ixO bA Tryz.underlying24 sz5k rfl rfl) rfl<|sP (x':=List.set (List.set (List.replicate (Int.toNat (IntKind.wrap .i64 (xA - 32))) (0:Int)) (Int.toNat 0) (IntKind.wrap .u8 (shrI .i64 (a3.length:Int) 8))) (Int.toNat 1) (IntKind.wrap .u8 (a3.length:Int))) (.own bA) (.ix .id bA) sz5k rfl rfl rdI rfl<|ns<|m_ rfl ?_
    replace yA:(0:Int)≤2∧(2:Int)≤((List.set (List.set (List.replicate (Int.toNat (IntKind.wrap .i64 (xA - 32))) (0:Int)) (Int.toNat 0) (IntKind.wrap .u8 (shrI .i64 (a3.length:Int) 8))) (Int.toNat 1) (IntKind.wrap .u8 (a3.length:Int))).length:Int)∧(((List.set (List.set (List.replicate (Int.toNat (IntKind.wrap .i64 (xA - 32))) (0:Int)) (Int.toNat 0) (IntKind.wrap .u8 (shrI .i64 (a3.length:Int) 8))) (Int.toNat 1) (IntKind.wrap .u8 (a3.length:Int))).length:Int):Int)≤((List.set (List.set (List.replicate (Int.toNat (IntKind.wrap .i64 (xA - 32))) (0:Int)) (Int.toNat 0) (IntKind.wrap .u8 (shrI .i64 (a3.length:Int) 8))) (Int.toNat 1) (IntKind.wrap .u8 (a3.length:Int))).length:Int):=of_decide_eq_true yA
    refine gs hF fun zA hF=>Under.slO (l:=2) (h:=((List.set (List.set (List.replicate (Int.toNat (IntKind.wrap .i64 (xA - 32))) (0:Int)) (Int.toNat 0) (IntKind.wrap .u8 (shrI .i64 (a3.length:Int) 8))) (Int.toNat 1) (IntKind.wrap .u8 (a3.length:Int))).length:Int)) Tryz.underlying24 sz5k rfl rfl rfl (And.left yA) (And.left (And.right yA)) (And.right (And.right yA)) rfl<|m_ rfl ?_
    replace zA:(Int.toNat 2)≤(Int.toNat ((List.set (List.set (List.replicate (Int.toNat (IntKind.wrap .i64 (xA - 32))) (0:Int)) (Int.toNat 0) (IntKind.wrap .u8 (shrI .i64 (a3.length:Int) 8))) (Int.toNat 1) (IntKind.wrap .u8 (a3.length:Int))).length:Int))∧(Int.toNat ((List.set (List.set (List.replicate (Int.toNat (IntKind.wrap .i64 (xA - 32))) (0:Int)) (Int.toNat 0) (IntKind.wrap .u8 (shrI .i64 (a3.length:Int) 8))) (Int.toNat 1) (IntKind.wrap .u8 (a3.length:Int))).length:Int))≤(List.length (List.set (List.set (List.replicate (Int.toNat (IntKind.wrap .i64 (xA - 32))) (0:Int)) (Int.toNat 0) (IntKind.wrap .u8 (shrI .i64 (a3.length:Int) 8))) (Int.toNat 1) (IntKind.wrap .u8 (a3.length:Int)))):=of_decide_eq_true zA
    refine bs hF fun pA dA hF=>bs hF fun tA eA hF=>bs hF fun uA cA hF=>bs hF fun xB qA hF=>bs hF fun yB rA hF=>Under.cpO (And.left zA) (And.right zA) Tryz.underlying24 sz5k rfl rfl (.sl rdV) rfl<|nl<|fzO (t:=12) rfl<|tn<|sr<|oF fb176k1 rfl<|oL kt108 rfl<|ov (OpV.bar (ys:=(List.replicate 16 (0:Int))) BTA108 (BldA.nil _)) rfl<|m_ rfl<|cx Tryz.call83 rfl (o40 dA _)<|a_ rfl<|ns<|bO (ys:=[]) Tryz.underlying24 ET5 (BldA.nil _) rfl rfl fun zB=>ov (OpV.slA Tryz.underlying108 sz5 rfl) rfl<|ap eA Tryz.underlying24 AT5 rfl rfl rdV rfl fun hB=>a_ rfl<|ns<|m_ rfl<|oL kt176 rfl<|m_ rfl<|oL kt108 rfl<|m_ rfl<|cx Tryz.call84 rfl (o22 cA _)<|ap qA Tryz.underlying24 AT5 rfl rfl rdV rfl fun bB=>a_ rfl<|ns<|m_ rfl<|m_ rfl<|ap rA Tryz.underlying24 AT5 rfl rfl rdV rfl fun vB=>a_ rfl<|a_ rfl<|nl<|fzO (t:=8) rfl<|tn<|rc ?_
    cases osi hF
    exact rs Tryz.results46 (.tm rfl (.tm rfl .nil)) rfl rfl
 ·refine by_ (t:=23) rfl (fun c4=>?_) (fun c4=>?_)
  ·replace h5:=ctrue c4 h5
   exact sk_ c4 rfl<|sk_ c4 rfl<|sk_ c4 rfl<|pT c4 rfl<|rf 3 (rbq h5) rfl k
  ·replace h5:=cfalse c4 h5
   exact bs h5 fun y7 h8 h5=>gc_ c4 rfl<|m_ rfl<|gc_ c4 rfl<|cx Tryz.call81 rfl (o18 h8 _)<|gc_ c4 rfl<|b_ rfl<|pF c4 rfl<|rf 3 (rbq h5) rfl k
noncomputable def fq (a0:List (List Int)) (a1:List (List Int)) (a2:List Int):Option ((List Int)×Int):=
 bif ((decide ((a0.length:Int)<1))||(decide ((a0.length:Int)>8)))||((a1.length:Int) != (a0.length:Int)) then
  some ([],80)
 else
  (((Loop.run (S := Int) (R := (Unit ⊕ ((List Int) × Int))) (fun yA =>
    bif decide (yA<(a0.length:Int)) then
     (idx a0 yA).bind fun bA=>
     bif (bA.length:Int) != 32 then
      some (.done (.inr ([],2)))
     else
      some (.next (IntKind.wrap .i64 (yA+1)))
    else
     some (.done (.inl ()))) 0).bind fun vA=>match vA with
   | .inl _=>
    some (.inr ())
   | .inr z=>
    some (.inl z)
   : Option (((List Int) × Int) ⊕ Unit))).bind fun qA => match qA with
   | .inl z=>
    some z
   | .inr _=>
    bif decide ((a2.length:Int)>48) then
     some ([],1)
    else
     (((Loop.run (S := ((List Int) × Int)) (R := ((List Int) ⊕ ((List Int) × Int))) (fun (hA, xA) =>
       bif decide (xA≥0) then
        (idx a0 xA).bind fun oA=>
        (idx a1 xA).bind fun kA=>
        (fp oA kA (IntKind.wrap .i64 ((a0.length:Int) - xA)) hA).bind fun zA=>
        bif zA.2 != 0 then
         some (.done (.inr ([],zA.2)))
        else
         some (.next (zA.1,IntKind.wrap .i64 (xA - 1)))
       else
        some (.done (.inl hA))) (a2,IntKind.wrap .i64 ((a0.length:Int) - 1))).bind fun dA=>match dA with
      | .inl eA=>
       some (.inr eA)
      | .inr z=>
       some (.inl z)
      : Option (((List Int) × Int) ⊕ (List Int)))).bind fun rA => match rA with
      | .inl z=>
       some z
      | .inr wA=>
       (dQ wA).bind fun cA=>
       some (cA.1,cA.2)
theorem o53 {a0 a1:List (List Int)} {a2:List Int} {r0:((List Int)×Int)} (hF:fq a0 a1 a2=some r0) (L:List Res):Ok Tryz.prog 25 [SV.val K1 a0,SV.val K0 a1,SV.val K8 a2] L (SV.tup [SV.val K8 r0.1,SV.raw (.int .i64 r0.2)]) L:=by
 unfold fq at hF
 refine okI 75 Tryz.func25 rfl rfl rfl fun F0=>?_
 refine sr<|a_ rfl<|a_ rfl<|nt<|sq<|sr<|m_ rfl<|oN Tryz.underlying22 rfl<|b_ rfl<|m_ rfl<|df 21 ((decide ((a0.length:Int)<1))||(decide ((a0.length:Int)>8))) ?_ (fun k=>?_)
 ·refine m_ rfl<|j5 28 (((decide ((a0.length:Int)<1))||(decide ((a0.length:Int)>8)))||((a1.length:Int) != (a0.length:Int))) ?_ (fun k=>?_)
  ·refine nt<|it hF rfl (fun hF=>?_) (fun hF=>?_)
   ·refine sr<|a_ rfl<|a_ rfl<|nt<|rt<|tV (K:=kSl K10) (x:=[]) (t:=6) rfl rdN ?_
    cases osi hF
    exact rs Tryz.results25 (.tm rfl (.tm rfl .nil)) rfl rfl
   ·refine bs hF fun uA cA hF=>ct<|sq<|Under.after (fun X=>∀(_:Unit),uA=(.inr ())→Under F0 75 [(0,.val K1 a0),(1,.val K0 a1),(2,.val K8 a2)] (L) X) ?_ ?_
    ·intro _ hA
     replace hA:=hA.symm
     subst hA
     refine sq<|sr<|m_ rfl<|oN Tryz.underlying24 rfl<|b_ rfl<|nt<|it hF rfl (fun hF=>?_) (fun hF=>?_)
     ·refine sr<|a_ rfl<|a_ rfl<|nt<|rt<|tV (K:=kSl K10) (x:=[]) (t:=6) rfl rdN ?_
      cases osi hF
      exact rs Tryz.results25 (.tm rfl (.tm rfl .nil)) rfl rfl
     ·refine bs hF fun xB qA hF=>ct<|sr<|m_ rfl<|a_ rfl<|nt<|sq<|Under.after (fun X=>∀(rA:List Int),xB=(.inr rA)→Under F0 75 [(10,.val K8 rA)] (L) X) ?_ ?_
      ·intro rA bA
       replace bA:=bA.symm
       subst bA
       refine bs hF fun gB yB hF=>sr<|m_ rfl<|cx Tryz.call47 rfl (o44 yB _)<|oE rfl<|oE rfl<|a_ rfl<|a_ rfl<|nt<|rc ?_
       cases osi hF
       exact rs Tryz.results25 (.tm rfl (.tm rfl .nil)) rfl rfl
      ·intro K zB
       refine bs qA fun hB wA qA=>sr<|m_ rfl<|oN Tryz.underlying22 rfl<|b_ rfl<|a_ rfl<|nt<|bk<|lp wA () (fun zA oA=>[(0,.val K1 a0),(1,.val K0 a1),(10,.val K8 zA.1),(11,.raw (.int .i64 zA.2))]) (fun zA oA=>L) rfl rfl fun zA oA bB xA kA=>?_
       obtain⟨vB,oB⟩:=zA
       dsimp only at xA⊢
       refine sq<|sr<|mb rfl<|nt<|it xA rfl (fun xA=>?_) (fun xA=>?_)
       ·refine bs xA fun kB gA xA=>bs xA fun dB mA xA=>bs xA fun eB nA xA=>ct<|sq<|bk<|sq<|ph rfl<|gV [0,1,2,3,4,5,6,7,8,9,10,11,12] [[0],[11],[51,52],[53],[1],[11],[55,56],[57],[0],[59],[11],[60,61],[10]] 0 (by kernel_rfl) rfl<|vm_ rfl<|vm_ rfl<|vo (fun _=>OpV.ixS gA Tryz.underlying22 sz24 rfl rdV rfl) rfl<|vo (fun _=>OpV.ld kt24 rfl) rfl<|vm_ rfl<|vm_ rfl<|vo (fun _=>OpV.ixS mA Tryz.underlying23 sz108 rfl rdV rfl) rfl<|vo (fun _=>OpV.ld kt108 rfl) rfl<|vm_ rfl<|vo (fun _=>OpV.len Tryz.underlying22 rfl rdV) rfl<|vm_ rfl<|vb_ rfl<|vm_ rfl<|vn<|p1 13 rfl rfl<|cx Tryz.call46 rfl (o52 nA _)<|pn<|p1 14 rfl rfl<|m_ rfl<|pn<|gV [15,16,17] [[50],[50],[65]] 0 (by kernel_rfl) rfl<|vo (fun _=>OpV.extr rfl rfl) rfl<|vo (fun _=>OpV.extr rfl rfl) rfl<|Vq.v (fun G T hG=>a_ rfl<|Vq.end rfl)<|vn<|p1 18 rfl rfl<|a_ rfl<|pn<|pd rfl<|tn<|sq<|sr<|mb rfl<|nt<|it xA rfl (fun xA=>?_) (fun xA=>?_)
        ·refine sr<|m_ rfl<|a_ rfl<|a_ rfl<|nt<|rt<|Under.bR<|tr ?_
         cases aj xA kA
         refine tr<|Under.bR<|tr ?_
         cases osi qA
         refine tV (K:=kSl K10) (x:=[]) (t:=6) rfl rdN ?_
         cases osi hF
         exact rs Tryz.results25 (.tm rfl (.tm rfl .nil)) rfl rfl
        ·exact ct<|rg<|m_ rfl<|a_ rfl<|nl<|bN<|tn<|rg<|mb rfl<|a_ rfl<|nl<|nx () xA rfl rfl
       ·refine xt<|te ?_
        cases aj xA kA
        exact te<|bh<|tn<|wr (zB _ (osi qA).symm) rfl
    ·intro K cB
     refine bs cA fun qB pA cA=>sr<|m_ rfl<|oN Tryz.underlying22 rfl<|m_ rfl<|nt<|bk<|lp pA () (fun vA dA=>[(0,.val K1 a0),(1,.val K0 a1),(2,.val K8 a2),(29,.val K1 a0),(30,.raw (.int .i64 (a0.length:Int))),(31,.raw (.int .i64 vA))]) (fun vA dA=>L) rfl rfl fun vA dA rB yA eA=>?_
     refine sr<|b_ rfl<|nt<|sq<|it yA rfl (fun yA=>?_) (fun yA=>?_)
     ·refine bs yA fun wB tA yA=>ct<|sq<|bk<|sr<|oS tA Tryz.underlying22 sz24 rfl<|oL kt24 rfl<|a_ rfl<|ns<|m_ rfl<|oN Tryz.underlying24 rfl<|b_ rfl<|nt<|it yA rfl (fun yA=>?_) (fun yA=>?_)
      ·refine sr<|a_ rfl<|a_ rfl<|nt<|rc<|Under.bR<|tr ?_
       cases aj yA eA
       refine tr<|Under.bR<|tr ?_
       cases osi cA
       refine tV (K:=kSl K10) (x:=[]) (t:=6) rfl rdN ?_
       cases osi hF
       exact rs Tryz.results25 (.tm rfl (.tm rfl .nil)) rfl rfl
      ·exact cs<|bN<|tn<|rg<|b_ rfl<|m_ rfl<|nl<|nx () yA rfl rfl
     ·refine xt<|te ?_
      cases aj yA eA
      exact te<|bh<|tn<|wr (cB () (osi cA).symm) rfl
  ·refine by_ (t:=22) rfl (fun c4=>?_) (fun c4=>?_)
   ·exact sk_ c4 rfl<|sk_ c4 rfl<|sk_ c4 rfl<|sk_ c4 rfl<|sk_ c4 rfl<|pT c4 rfl<|rf 5 (or_t (e:=(a1.length:Int) != (a0.length:Int)) c4) rfl k
   ·exact gc_ c4 rfl<|m_ rfl<|gc_ c4 rfl<|oN Tryz.underlying23 rfl<|gc_ c4 rfl<|m_ rfl<|gc_ c4 rfl<|oN Tryz.underlying22 rfl<|gc_ c4 rfl<|b_ rfl<|pF c4 rfl<|rf 5 (or_f c4) rfl k
 ·refine by_ (t:=17) rfl (fun c1=>?_) (fun c1=>?_)
  ·exact sk_ c1 rfl<|sk_ c1 rfl<|sk_ c1 rfl<|pT c1 rfl<|rf 3 (or_t (e:=decide ((a0.length:Int)>8)) c1) rfl k
  ·exact gc_ c1 rfl<|m_ rfl<|gc_ c1 rfl<|oN Tryz.underlying22 rfl<|gc_ c1 rfl<|b_ rfl<|pF c1 rfl<|rf 3 (or_f c1) rfl k
noncomputable def dR (a0:List (List Int)) (a1:Int) (a2:List (List Int)) (a3:List Int):Option ((List Int)×Int):=
 (((Loop.run (S := ((List (List Int)) × Int)) (R := ((List (List Int)) ⊕ ((List Int) × Int))) (fun (zA, xA) =>
   bif decide (xA<(a0.length:Int)) then
    (idx a0 xA).bind fun bA=>
    (cJ bA a1).bind fun yA=>
    bif yA.2 != 0 then
     some (.done (.inr ([],yA.2)))
    else
     (app zA [yA.1]).bind fun vA=>
     some (.next (vA,IntKind.wrap .i64 (xA+1)))
   else
    some (.done (.inl zA))) ([],0)).bind fun oA=>match oA with
  | .inl kA=>
   some (.inr kA)
  | .inr z=>
   some (.inl z)
  : Option (((List Int) × Int) ⊕ (List (List Int))))).bind fun dA => match dA with
  | .inl z=>
   some z
  | .inr eA=>
   (fq eA a2 a3).bind fun hA=>
   some (hA.1,hA.2)
theorem o54 {a0:List (List Int)} {a1:Int} {a2:List (List Int)} {a3:List Int} {r0:((List Int)×Int)} (hF:dR a0 a1 a2 a3=some r0) (L:List Res):Ok Tryz.prog 9 [SV.val K1 a0,SV.raw (.int .i64 a1),SV.val K0 a2,SV.val K8 a3] L (SV.tup [SV.val K8 r0.1,SV.raw (.int .i64 r0.2)]) L:=by
 unfold dR at hF
 refine okI 41 Tryz.func9 rfl rfl rfl fun F0=>?_
 refine bs hF fun kA hA hF=>sr<|a_ rfl<|a_ rfl<|ns<|a_ rfl<|nt<|sq<|Under.after (fun X=>∀(vA:List (List Int)),kA=(.inr vA)→Under F0 41 [(2,.val K0 a2),(3,.val K8 a3),(10,.val K1 vA)] (L) X) ?_ ?_
 ·intro vA yA
  replace yA:=yA.symm
  subst yA
  refine bs hF fun nA dA hF=>sr<|m_ rfl<|m_ rfl<|m_ rfl<|cx Tryz.call25 rfl (o53 dA _)<|oE rfl<|oE rfl<|a_ rfl<|a_ rfl<|nt<|rc ?_
  cases osi hF
  exact rs Tryz.results9 (.tm rfl (.tm rfl .nil)) rfl rfl
 ·intro K eA
  refine bs hA fun pA cA hA=>sr<|m_ rfl<|oN Tryz.underlying22 rfl<|m_ rfl<|nt<|bk<|Under.ownNil (K:=kSl K10) (e:=24)<|lp cA (C:=Value) (.slice none 0 0) (fun zA bA=>[(1,.raw (.int .i64 a1)),(2,.val K0 a2),(3,.val K8 a3),(10,.raw bA),(15,.val K1 a0),(16,.raw (.int .i64 (a0.length:Int))),(17,.raw (.int .i64 zA.2))]) (fun zA bA=>(.own K8 bA 24 zA.1)::L) rfl rfl fun zA bA tA xA oA=>?_
  obtain⟨uA,xB⟩:=zA
  dsimp only at xA⊢
  refine sr<|b_ rfl<|nt<|sq<|it xA rfl (fun xA=>?_) (fun xA=>?_)
  ·refine bs xA fun yB qA xA=>bs xA fun rA wA xA=>ct<|sq<|bk<|sr<|oS qA Tryz.underlying22 sz24 rfl<|oL kt24 rfl<|a_ rfl<|ns<|m_ rfl<|m_ rfl<|cx Tryz.call24 rfl (o15 wA _)<|m_ rfl<|oE rfl<|oE rfl<|a_ rfl<|a_ rfl<|nt<|sq<|sr<|mb rfl<|nt<|it xA rfl (fun xA=>?_) (fun xA=>?_)
   ·refine dr<|sr<|m_ rfl<|a_ rfl<|a_ rfl<|nt<|rt<|Under.bR<|tr ?_
    cases aj xA oA
    refine tr<|Under.bR<|tr ?_
    cases osi hA
    refine tV (K:=kSl K10) (x:=[]) (t:=8) rfl rdN ?_
    cases osi hF
    exact rs Tryz.results9 (.tm rfl (.tm rfl .nil)) rfl rfl
   ·exact bs xA fun zB gA xA=>ct<|rg<|m_ rfl<|m_ rfl<|bF (ys:=[rA.1]) Tryz.underlying22 ET24 (BldA.cons rfl rfl rdV (BldA.nil _)) rfl rfl<|ap gA Tryz.underlying22 AT24 rfl rfl rdV rfl fun mA=>a_ rfl<|nl<|bN<|tn<|rg<|b_ rfl<|m_ rfl<|nl<|nx mA xA rfl rfl
  ·refine fzO (t:=10) rfl<|xt<|te ?_
   cases aj xA oA
   exact te<|bh<|tn<|wr (eA _ (osi hA).symm) rfl
noncomputable def f9 (a0:List (List Int)) (a1:Int) (a2:List (List Int)) (a3:List Int) (a4:List Int):Option ((List Int)×Int):=
 (eI a3 a4).bind fun y1=>
 bif y1.2 != 0 then
  some ([],y1.2)
 else
  (dR a0 a1 a2 y1.1).bind fun y4=>
  some (y4.1,y4.2)
theorem o55 {a0:List (List Int)} {a1:Int} {a2:List (List Int)} {a3 a4:List Int} {r0:((List Int)×Int)} (hF:f9 a0 a1 a2 a3 a4=some r0) (L:List Res):Ok Tryz.prog 17 [SV.val K1 a0,SV.raw (.int .i64 a1),SV.val K0 a2,SV.val (kArr 8 K10) a3,SV.val K8 a4] L (SV.tup [SV.val K8 r0.1,SV.raw (.int .i64 r0.2)]) L:=by
 unfold f9 at hF
 refine okI 30 Tryz.func17 rfl rfl rfl fun F0=>?_
 refine bs hF fun y1 h2 hF=>sr<|bX (K:=kArr 8 K10) rfl rdV rfl<|a_ rfl<|a_ rfl<|ns<|oL kt44 rfl<|m_ rfl<|cx Tryz.call35 rfl (o51 h2 _)<|m_ rfl<|oE rfl<|oE rfl<|a_ rfl<|a_ rfl<|nt<|sq<|sr<|mb rfl<|nt<|it hF rfl (fun hF=>?_) (fun hF=>?_)
 ·refine sr<|m_ rfl<|a_ rfl<|a_ rfl<|nt<|rt<|tV (K:=kSl K10) (x:=[]) (t:=10) rfl rdN ?_
  cases osi hF
  exact rs Tryz.results17 (.tm rfl (.tm rfl .nil)) rfl rfl
 ·refine bs hF fun y4 h5 hF=>ct<|sr<|m_ rfl<|m_ rfl<|m_ rfl<|m_ rfl<|cx Tryz.call9 rfl (o54 h5 _)<|oE rfl<|oE rfl<|a_ rfl<|a_ rfl<|nt<|rc ?_
  cases osi hF
  exact rs Tryz.results17 (.tm rfl (.tm rfl .nil)) rfl rfl
noncomputable def cb:Option Bool:=
 (eu []).bind fun y1=>
 (cq 0 [] [] []).bind fun y3=>
 (dp [] 0 [] []).bind fun y5=>
 (f9 [] 0 [] (List.replicate 8 (0:Int)) []).bind fun y7=>
 some ((((((y1.2==80)&&((y3.1.length:Int)==0))&&((y3.2.length:Int)==0))&&(y5.2.2 != 0))&&(y7.2 != 0))&&((y5.2.1.length:Int)==0))
theorem o56 {r0:Bool} (hF:cb=some r0) (L:List Res):Ok Tryz.prog 15 [] L (SV.raw (.bool r0)) L:=by
 unfold cb at hF
 refine okI 58 Tryz.func15 rfl rfl rfl fun F0=>?_
 refine bs hF fun y1 h2 hF=>bs hF fun y3 h4 hF=>bs hF fun y5 h6 hF=>bs hF fun y7 h8 hF=>sr<|a_ rfl<|ns<|cx Tryz.call32 rfl (Ok.cv (.rd rdN .nil) (o1 h2 _))<|m_ rfl<|oE rfl<|oE rfl<|a_ rfl<|a_ rfl<|ns<|m_ rfl<|ca Tryz.call33 rfl rfl (Ok.cv (.sm (.sm (.rd rdN (.rd rdN (.rd rdN .nil))))) (o2 h4 _)) rfl<|m_ rfl<|oE rfl<|oE rfl<|a_ rfl<|a_ rfl<|ns<|ca Tryz.call19 rfl rfl (Ok.cv (.rd rdN (.sm (.rd rdN (.rd rdN .nil)))) (o50 h6 _)) rfl<|m_ rfl<|oE rfl<|oE rfl<|oE rfl<|a_ rfl<|a_ rfl<|a_ rfl<|ns<|ov (OpV.bar (ys:=(List.replicate 8 (0:Int))) BTA44 (BldA.nil _)) rfl<|ca Tryz.call17 rfl rfl (Ok.cv (.rd rdN (.sm (.rd rdN (.sm (.rd rdN .nil))))) (o55 h8 _)) rfl<|m_ rfl<|oE rfl<|oE rfl<|a_ rfl<|a_ rfl<|ns<|m_ rfl<|ov (OpV.ptrNil Tryz.underlying76 (.inl rfl) rfl) rfl<|m_ rfl<|gc (rfl:(true:Bool)=true) rfl rfl<|m_ rfl<|gc (rfl:(true:Bool)=true) rfl rfl<|b_ rfl<|ov (pkT (rfl:(true:Bool)=true) rfl rfl) rfl<|m_ rfl<|df 39 ((y1.2==80)&&((y3.1.length:Int)==0)) ?_ (fun k=>?_)
 ·refine m_ rfl<|df 44 (((y1.2==80)&&((y3.1.length:Int)==0))&&((y3.2.length:Int)==0)) ?_ (fun k=>?_)
  ·refine m_ rfl<|eS 48 ((((y1.2==80)&&((y3.1.length:Int)==0))&&((y3.2.length:Int)==0))&&(y5.2.2 != 0)) ?_ (fun k=>?_)
   ·refine m_ rfl<|eS 52 (((((y1.2==80)&&((y3.1.length:Int)==0))&&((y3.2.length:Int)==0))&&(y5.2.2 != 0))&&(y7.2 != 0)) ?_ (fun k=>?_)
    ·refine m_ rfl<|df 57 ((((((y1.2==80)&&((y3.1.length:Int)==0))&&((y3.2.length:Int)==0))&&(y5.2.2 != 0))&&(y7.2 != 0))&&((y5.2.1.length:Int)==0)) ?_ (fun k=>?_)
     ·refine a_ rfl<|nt<|rc ?_
      cases osi hF
      exact rs Tryz.results15 (.tm rfl .nil) rfl rfl
     ·refine by_ (t:=53) rfl (fun xA=>?_) (fun xA=>?_)
      ·exact gc_ xA rfl<|m_ rfl<|gc_ xA rfl<|oN Tryz.underlying24 rfl<|gc_ xA rfl<|b_ rfl<|pT xA rfl<|rf 3 (gj xA) rfl k
      ·exact sk_ xA rfl<|sk_ xA rfl<|sk_ xA rfl<|pF xA rfl<|rf 3 (gm (e:=(y5.2.1.length:Int)==0) xA) rfl k
    ·refine by_ (t:=49) rfl (fun hA=>?_) (fun hA=>?_)
     ·exact gc_ hA rfl<|m_ rfl<|gc_ hA rfl<|b_ rfl<|pT hA rfl<|rf 2 (gj hA) rfl k
     ·exact sk_ hA rfl<|sk_ hA rfl<|pF hA rfl<|rf 2 (gm (e:=y7.2 != 0) hA) rfl k
   ·refine by_ (t:=45) rfl (fun bA=>?_) (fun bA=>?_)
    ·exact gc_ bA rfl<|m_ rfl<|gc_ bA rfl<|b_ rfl<|pT bA rfl<|rf 2 (gj bA) rfl k
    ·exact sk_ bA rfl<|sk_ bA rfl<|pF bA rfl<|rf 2 (gm (e:=y5.2.2 != 0) bA) rfl k
  ·refine by_ (t:=40) rfl (fun yA=>?_) (fun yA=>?_)
   ·exact gc_ yA rfl<|m_ rfl<|gc_ yA rfl<|oN Tryz.underlying24 rfl<|gc_ yA rfl<|b_ rfl<|pT yA rfl<|rf 3 (gj yA) rfl k
   ·exact sk_ yA rfl<|sk_ yA rfl<|sk_ yA rfl<|pF yA rfl<|rf 3 (gm (e:=(y3.2.length:Int)==0) yA) rfl k
 ·refine by_ (t:=35) rfl (fun zA=>?_) (fun zA=>?_)
  ·exact gc_ zA rfl<|m_ rfl<|gc_ zA rfl<|oN Tryz.underlying58 rfl<|gc_ zA rfl<|b_ rfl<|pT zA rfl<|rf 3 (gj zA) rfl k
  ·exact sk_ zA rfl<|sk_ zA rfl<|sk_ zA rfl<|pF zA rfl<|rf 3 (gm (e:=(y3.1.length:Int)==0) zA) rfl k
noncomputable def cn:Option (List Int):=
 some [1116352408,1899447441,3049323471,3921009573,961987163,1508970993,2453635748,2870763221,3624381080,310598401,607225278,1426881987,1925078388,2162078206,2614888103,3248222580,3835390401,4022224774,264347078,604807628,770255983,1249150122,1555081692,1996064986,2554220882,2821834349,2952996808,3210313671,3336571891,3584528711,113926993,338241895,666307205,773529912,1294757372,1396182291,1695183700,1986661051,2177026350,2456956037,2730485921,2820302411,3259730800,3345764771,3516065817,3600352804,4094571909,275423344,430227734,506948616,659060556,883997877,958139571,1322822218,1537002063,1747873779,1955562222,2024104815,2227730452,2361852424,2428436474,2756734187,3204031479,3329325298]
theorem o57 {r0:(List Int)} (hF:cn=some r0) (L:List Res):Ok Tryz.prog 179 [] L (SV.val K2 r0) L:=by
 unfold cn at hF
 refine okI 2 Tryz.func179 rfl rfl rfl fun F0=>?_
 refine sr<|al ZT295 rfl fun b1=>ns<|ov (OpV.bar (ys:=[1116352408,1899447441,3049323471,3921009573,961987163,1508970993,2453635748,2870763221,3624381080,310598401,607225278,1426881987,1925078388,2162078206,2614888103,3248222580,3835390401,4022224774,264347078,604807628,770255983,1249150122,1555081692,1996064986,2554220882,2821834349,2952996808,3210313671,3336571891,3584528711,113926993,338241895,666307205,773529912,1294757372,1396182291,1695183700,1986661051,2177026350,2456956037,2730485921,2820302411,3259730800,3345764771,3516065817,3600352804,4094571909,275423344,430227734,506948616,659060556,883997877,958139571,1322822218,1537002063,1747873779,1955562222,2024104815,2227730452,2361852424,2428436474,2756734187,3204031479,3329325298]) BTA295 (BldA.cons rfl rfl rdI (BldA.cons rfl rfl rdI (BldA.cons rfl rfl rdI (BldA.cons rfl rfl rdI (BldA.cons rfl rfl rdI (BldA.cons rfl rfl rdI (BldA.cons rfl rfl rdI (BldA.cons rfl rfl rdI (BldA.cons rfl rfl rdI (BldA.cons rfl rfl rdI (BldA.cons rfl rfl rdI (BldA.cons rfl rfl rdI (BldA.cons rfl rfl rdI (BldA.cons rfl rfl rdI (BldA.cons rfl rfl rdI (BldA.cons rfl rfl rdI (BldA.cons rfl rfl rdI (BldA.cons rfl rfl rdI (BldA.cons rfl rfl rdI (BldA.cons rfl rfl rdI (BldA.cons rfl rfl rdI (BldA.cons rfl rfl rdI (BldA.cons rfl rfl rdI (BldA.cons rfl rfl rdI (BldA.cons rfl rfl rdI (BldA.cons rfl rfl rdI (BldA.cons rfl rfl rdI (BldA.cons rfl rfl rdI (BldA.cons rfl rfl rdI (BldA.cons rfl rfl rdI (BldA.cons rfl rfl rdI (BldA.cons rfl rfl rdI (BldA.cons rfl rfl rdI (BldA.cons rfl rfl rdI (BldA.cons rfl rfl rdI (BldA.cons rfl rfl rdI (BldA.cons rfl rfl rdI (BldA.cons rfl rfl rdI (BldA.cons rfl rfl rdI (BldA.cons rfl rfl rdI (BldA.cons rfl rfl rdI (BldA.cons rfl rfl rdI (BldA.cons rfl rfl rdI (BldA.cons rfl rfl rdI (BldA.cons rfl rfl rdI (BldA.cons rfl rfl rdI (BldA.cons rfl rfl rdI (BldA.cons rfl rfl rdI (BldA.cons rfl rfl rdI (BldA.cons rfl rfl rdI (BldA.cons rfl rfl rdI (BldA.cons rfl rfl rdI (BldA.cons rfl rfl rdI (BldA.cons rfl rfl rdI (BldA.cons rfl rfl rdI (BldA.cons rfl rfl rdI (BldA.cons rfl rfl rdI (BldA.cons rfl rfl rdI (BldA.cons rfl rfl rdI (BldA.cons rfl rfl rdI (BldA.cons rfl rfl rdI (BldA.cons rfl rfl rdI (BldA.cons rfl rfl rdI (BldA.cons rfl rfl rdI (BldA.nil _)))))))))))))))))))))))))))))))))))))))))))))))))))))))))))))))))) rfl<|sP (x':=[1116352408,1899447441,3049323471,3921009573,961987163,1508970993,2453635748,2870763221,3624381080,310598401,607225278,1426881987,1925078388,2162078206,2614888103,3248222580,3835390401,4022224774,264347078,604807628,770255983,1249150122,1555081692,1996064986,2554220882,2821834349,2952996808,3210313671,3336571891,3584528711,113926993,338241895,666307205,773529912,1294757372,1396182291,1695183700,1986661051,2177026350,2456956037,2730485921,2820302411,3259730800,3345764771,3516065817,3600352804,4094571909,275423344,430227734,506948616,659060556,883997877,958139571,1322822218,1537002063,1747873779,1955562222,2024104815,2227730452,2361852424,2428436474,2756734187,3204031479,3329325298]) .box .id sz295k rfl rfl rdV rfl<|nl<|fz (t:=0) rfl<|tn<|rc ?_
 cases osi hF
 exact rs Tryz.results179 (.ce rfl kt295 .nil) rfl rfl
noncomputable def bL (a0:List Int):Option (List Int):=
 bif mkB 0 (IntKind.wrap .i64 ((a0.length:Int)+72)) then
 (app (List.replicate (Int.toNat 0) (0:Int)) a0).bind fun z4=>
 (app z4 [128]).bind fun z7=>
 (((Loop.run (S:=(List Int)) (R:=(List Int)) (fun xA=>
   bif (Int.tmod (xA.length:Int) 64) != 56 then
    (app xA [0]).bind fun zA=>
    some (.next zA)
   else
    some (.done xA)) z7).bind fun hA=>
 some hA
  :Option (List Int))).bind fun oA=>
 (((Loop.run (S:=((List Int)×Int)) (R:=(List Int)) (fun(vA,yA)=>
   bif decide (yA<8) then
    bif decide (0≤(IntKind.wrap .i64 (56 - (IntKind.wrap .i64 (8*yA))))) then
    (app vA [IntKind.wrap .u8 (shrI .u64 (IntKind.wrap .u64 ((IntKind.wrap .u64 (a0.length:Int))*8)) (IntKind.wrap .i64 (56 - (IntKind.wrap .i64 (8*yA)))))]).bind fun bA=>
    some (.next (bA,IntKind.wrap .i64 (yA+1)))
    else none
   else
    some (.done vA)) (oA,0)).bind fun kA=>
 some kA
  :Option (List Int))).bind fun dA=>
 some dA
 else none
theorem o58 {a0:List Int} {r0:(List Int)} (hF:bL a0=some r0) (L:List Res):Ok Tryz.prog 180 [SV.val K8 a0] L (SV.val K8 r0) L:=by
 unfold bL at hF
 refine okI 41 Tryz.func180 rfl rfl rfl fun F0=>?_
 refine gs hF fun h2 hF=>bs hF fun z4 h5 hF=>bs hF fun z7 h8 hF=>bs hF fun uA eA hF=>sr<|a_ rfl<|ns<|m_ rfl<|oN Tryz.underlying24 rfl<|b_ rfl<|Under.mk h2 Tryz.underlying24 AT5 rfl rfl rfl fun v1=>a_ rfl<|ns<|m_ rfl<|m_ rfl<|ap h5 Tryz.underlying24 AT5 rfl rfl rdV rfl fun v6=>a_ rfl<|ns<|m_ rfl<|bF (ys:=[128]) Tryz.underlying24 ET5 (BldA.cons rfl rfl rdI (BldA.nil _)) rfl rfl<|ap h8 Tryz.underlying24 AT5 rfl rfl rdV rfl fun v9=>a_ rfl<|nt<|sq<|Under.after (fun X=>∀(cA:List Int) (kA:Value),uA=cA→Under F0 41 [(0,.val K8 a0),(3,.raw kA)] ((.own K10 kA 5 cA)::L) X) ?_ ?_
 ·intro cA kA vA
  replace vA:=vA.symm
  subst vA
  refine bs hF fun dA qA hF=>sr<|m_ rfl<|oN Tryz.underlying24 rfl<|oC (by kernel_rfl) Tryz.underlying117 rfl<|b_ rfl<|a_ rfl<|nt<|sq<|afr (r:=dA) (fun dA=>[(3,.val K8 dA)]) (fun dA=>(L)) ?_ fun K xB=>?_
  ·refine sr<|m_ rfl<|a_ rfl<|nt<|rc ?_
   cases osi hF
   exact rs Tryz.results180 (.tm rfl .nil) rfl rfl
  ·refine bs qA fun cB yB qA=>sr<|a_ rfl<|nt<|bk<|lp yB (C:=Value) kA (fun yA hA=>[(3,.raw hA),(4,.raw (.int .u64 (IntKind.wrap .u64 ((IntKind.wrap .u64 (a0.length:Int))*8)))),(5,.raw (.int .i64 yA.2))]) (fun yA hA=>(.own K10 hA 5 yA.1)::L) rfl rfl fun yA hA zB zA hB=>?_
   obtain⟨qB,bB⟩:=yA
   dsimp only at zA⊢
   refine sq<|sr<|mb rfl<|nt<|it zA rfl (fun zA=>?_) (fun zA=>?_)
   ·exact gs zA fun rA zA=>bs zA fun vB wA zA=>ct<|sq<|bk<|rg<|m_ rfl<|m_ rfl<|mb rfl<|b_ rfl<|ov (OpV.sh rfl rfl (of_decide_eq_true rA) rfl) rfl<|oC (by kernel_rfl) Tryz.underlying5 rfl<|bF (ys:=[IntKind.wrap .u8 (shrI .u64 (IntKind.wrap .u64 ((IntKind.wrap .u64 (a0.length:Int))*8)) (IntKind.wrap .i64 (56 - (IntKind.wrap .i64 (8*bB)))))]) Tryz.underlying24 ET5 (BldA.cons rfl rfl rdI (BldA.nil _)) rfl rfl<|ap wA Tryz.underlying24 AT5 rfl rfl rdV rfl fun gA=>a_ rfl<|nl<|bN<|tn<|rg<|mb rfl<|a_ rfl<|nl<|nx gA zA rfl rfl
   ·refine fzO (t:=3) rfl<|xt<|te ?_
    cases aj zA hB
    exact te<|bh<|tn<|wr (xB _ (osi qA).symm) rfl
 ·intro K oB
  refine bs eA fun kB mA eA=>bk<|lp mA (C:=Value) v9 (fun oA bA=>[(0,.val K8 a0),(3,.raw bA)]) (fun oA bA=>(.own K10 bA 5 oA)::L) rfl rfl fun oA bA dB xA nA=>?_
  refine sq<|sr<|m_ rfl<|ov (OpV.lenO Tryz.underlying24 rfl) rfl<|ov (OpV.quo rfl rfl (by decide) rfl) rfl<|b_ rfl<|nt<|it xA rfl (fun xA=>?_) (fun xA=>?_)
  ·exact bs xA fun eB pA xA=>ct<|bk<|rg<|m_ rfl<|bF (ys:=[0]) Tryz.underlying24 ET5 (BldA.cons rfl rfl rdI (BldA.nil _)) rfl rfl<|ap pA Tryz.underlying24 AT5 rfl rfl rdV rfl fun tA=>a_ rfl<|nl<|bN<|nx tA xA rfl rfl
  ·refine xt<|te ?_
   cases aj xA nA
   exact te<|bh<|tn<|wr (oB _ _ (osi eA).symm) rfl
noncomputable def au (a0:Int) (a1:Int):Option Int:=
 bif decide (0≤a1) then
 bif decide (0≤(IntKind.wrap .i64 (32 - a1))) then
 some (orI .u32 (shrI .u32 a0 a1) (shlI .u32 a0 (IntKind.wrap .i64 (32 - a1))))
 else none
 else none
theorem o59 {a0 a1:Int} {r0:Int} (hF:au a0 a1=some r0) (L:List Res):Ok Tryz.prog 198 [SV.raw (.int .u32 a0),SV.raw (.int .i64 a1)] L (SV.raw (.int .u32 r0)) L:=by
 unfold au at hF
 refine okI 13 Tryz.func198 rfl rfl rfl fun F0=>?_
 refine gs hF fun h1 hF=>gs hF fun h2 hF=>sr<|a_ rfl<|nt<|sq<|dw rfl (by kernel_rfl) fun F hF0=>mvq rfl rfl<|mvq rfl rfl<|oq (OpV.sh rfl rfl (of_decide_eq_true h1) rfl) rfl<|mvq rfl rfl<|mvq rfl rfl<|bnq rfl rfl rfl rfl<|oq (OpV.sh rfl rfl (of_decide_eq_true h2) rfl) rfl<|bnq rfl rfl rfl rfl<|agq rfl rfl<|nlq hF0<|tn<|rc ?_
 cases osi hF
 exact rs Tryz.results198 (.tm rfl .nil) rfl rfl
end Go.Proofs.YtdkfkpbijdimkaaGreatDoor

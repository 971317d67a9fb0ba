import Derived.Test.YtobbmodjdkcdcaaGreatDoorBp2
set_option linter.unusedVariables false
set_option linter.unusedSimpArgs false
set_option maxRecDepth 20000
namespace Go.Proofs.YtobbmodjdkcdcaaGreatDoor
open Go Go.Sim Go.ChangeShapes Go.WideShapes Go.ChangeAt Go.RowKit
set_option linter.unusedSectionVars false
variable [Fu]
noncomputable def aS (a0:List Int):Option (List Int):=
 (((Loop.run (S:=(Int×(List Int))) (R:=(List Int)) (fun(xA,yA)=>
   bif decide (xA<16) then
    bif decide ((0:Int)≤xA∧(xA:Int)≤(IntKind.wrap .i64 (xA+4))∧(IntKind.wrap .i64 (xA+4):Int)≤16) then
    bif decide (0<4∧(Int.toNat xA)+4≤(Int.toNat (IntKind.wrap .i64 (xA+4)))∧(Int.toNat (IntKind.wrap .i64 (xA+4)))≤16) then
    (fp (List.take 4 (List.drop (Int.toNat xA) yA))).bind fun zA=>
    bif decide ((0:Int)≤xA∧(xA:Int)≤16∧(16:Int)≤16) then
    bif decide ((Int.toNat xA)≤(Int.toNat 16)∧(Int.toNat 16)≤16) then
    some (.next (IntKind.wrap .i64 (xA+4),over yA (Int.toNat xA) (Int.toNat 16) zA))
    else none
    else none
    else none
    else none
   else
    some (.done yA)) (0,a0)).bind fun hA=>
 some hA
  :Option (List Int))).bind fun bA=>
 some bA
theorem o58 {a0:List Int} {r0:(List Int)} (hF:aS a0=some r0) (L:List Res):Ok Tryz.prog 208 [SV.val K2 a0,SV.raw (.func (.func 209) #[] #[])] L (SV.val K2 r0) L:=by
 unfold aS at hF
 refine okI 24 Tryz.func208 rfl rfl rfl fun F0=>?_
 refine bs hF fun zA kA hF=>sr<|Under.bx (K:=kArr 16 K10) rfl rdV rfl fun b1=>al ZT240 rfl fun b2=>nt<|sq<|afr (r:=zA) (fun zA=>[(2,.ptr K2 zA),(4,pb b2)]) (fun zA=>((.box K2 b2 240 (List.replicate 16 (0:Int)))::L)) ?_ fun K qA=>?_
 ·refine sr<|oL kt240 rfl<|sP (x':=zA) .box .id sz240k rfl rfl rdV rfl<|nl<|fz (t:=4) rfl<|tn<|rc ?_
  cases osi hF
  exact rs Tryz.results208 (.ce rfl kt240 .nil) rfl rfl
 ·refine bs kA fun nA rA kA=>sr<|a_ rfl<|nt<|bk<|f1<|lp rA () (fun hA eA=>[(1,.raw (.func (.func 209) #[] #[])),(2,pb b1),(4,pb b2),(5,.raw (.int .i64 hA.1))]) (fun hA eA=>(.box K2 b1 240 hA.2)::(.box K2 b2 240 (List.replicate 16 (0:Int)))::L) rfl rfl fun hA eA pA xA wA=>?_
  obtain⟨yA,gA⟩:=hA
  dsimp only at xA⊢
  refine sq<|sr<|mb rfl<|nt<|it xA rfl (fun xA=>?_) (fun xA=>?_)
  ·refine gs xA fun bA xA=>ct<|sq<|bk<|sr<|m_ rfl<|m_ rfl<|mb rfl ?_
   replace bA:(0:Int)≤yA∧(yA:Int)≤(IntKind.wrap .i64 (yA+4))∧(IntKind.wrap .i64 (yA+4):Int)≤16:=of_decide_eq_true bA
   refine gs xA fun dA xA=>bs xA fun cA mA xA=>gs xA fun vA xA=>ov (OpV.slP (l:=yA) (h:=IntKind.wrap .i64 (yA+4)) Tryz.underlying240 sz5k rfl rfl rfl (And.left bA) (And.left (And.right bA)) (And.right (And.right bA))) rfl<|ov (OpV.s2aP dA Tryz.underlying283 rfl) rfl<|lP .box (.sub .id (And.left (And.right (of_decide_eq_true dA))|>fun a=>Nat.le_trans a (And.right (And.right (of_decide_eq_true dA))))) kt283k rfl rfl<|cx Tryz.call209 rfl (o57 mA _)<|al ZT283 rfl fun tA=>sP (x':=cA) .box .id sz283k rfl rfl rdV rfl<|nl<|fz (t:=6) rfl<|tn ?_
   replace vA:(0:Int)≤yA∧(yA:Int)≤16∧(16:Int)≤16:=of_decide_eq_true vA
   obtain⟨oA,xA⟩:=gsome xA
   replace oA:(Int.toNat yA)≤(Int.toNat 16)∧(Int.toNat 16)≤16:=of_decide_eq_true oA
   exact ph rfl<|gV [0,1,2] [[5],[2,19],[6]] 2 (by kernel_rfl) rfl<|vm_ rfl<|Vq.v (fun G T hG=>ov (OpV.slP (l:=yA) (h:=16) Tryz.underlying240 sz5k rfl rfl rfl (And.left vA) (And.left (And.right vA)) (And.right (And.right vA))) rfl<|Vq.end rfl)<|vo (fun _=>OpV.slA Tryz.underlying283 sz5 rfl) rfl<|vn<|p1 3 rfl rfl<|Under.cpB (x':=over gA (Int.toNat yA) (Int.toNat 16) cA) .box .id (And.left oA) (And.right oA) (na (And.right oA)) Tryz.underlying22 sz5k rfl rfl (.sl rdV) rfl rfl<|pn<|pd rfl<|bN<|tn<|rg<|mb rfl<|a_ rfl<|nl<|nx () xA rfl rfl
  ·refine fz (t:=2) rfl<|xt<|te ?_
   cases aj xA wA
   exact te<|bh<|tn<|wr (qA _ (osi kA).symm) rfl
noncomputable def aX (a0:aF) (a1:List Int) (a2:List Int):Option (List Int):=
 (idx a0.keys 0).bind fun x2=>
 (cj a1 x2).bind fun y4=>
 (((Loop.run (S:=(Int×(List Int))) (R:=(List Int)) (fun(xA,yA)=>
   bif decide (xA≤10) then
    (bW yA a2).bind fun hA=>
    (cV hA 1).bind fun zA=>
    ((bif decide (xA<10) then
     (aS zA).bind fun bA=>
     some bA
    else
     some zA
     :Option (List Int))).bind fun vA=>
    (idx a0.keys xA).bind fun oA=>
    (cj vA oA).bind fun kA=>
    some (.next (IntKind.wrap .i64 (xA+1),kA))
   else
    some (.done yA)) (1,y4)).bind fun dA=>
 some dA
  :Option (List Int))).bind fun eA=>
 some eA
theorem o59 {a0:aF} {a1 a2:List Int} {r0:(List Int)} (hF:aX a0 a1 a2=some r0) (L:List Res):Ok Tryz.prog 165 [SV.val ar a0,SV.val K2 a1,SV.fn 164 [.ptr (kArr 256 K10) a2]] L (SV.val K2 r0) L:=by
 unfold aX at hF
 refine okI 33 Tryz.func165 rfl rfl rfl fun F0=>?_
 refine bs hF fun x2 h3 hF=>bs hF fun y4 h5 hF=>bs hF fun zA vA hF=>sr<|bX (K:=ar) rfl rdV rfl<|bX (K:=kArr 16 K10) rfl rdV rfl<|al ZT64 rfl fun b1=>ns<|oL kt64 rfl<|oF fb243k rfl<|ov (OpV.ixA h3 Tryz.underlying241 sz240 rfl rfl) rfl<|oL kt240 rfl<|cx Tryz.call205 rfl (o52 h5 _)<|al ZT240 rfl fun b6=>sP (x':=y4) .box .id sz240k rfl rfl rdV rfl<|nt<|sq<|afr (r:=zA) (fun zA=>[(6,pb b1),(7,.ptr K2 zA)]) (fun zA=>((.box K2 b1 64 (List.replicate 16 (0:Int)))::L)) ?_ fun K dA=>?_
 ·refine sr<|oL kt240 rfl<|sP (x':=zA) .box .id sz64k rfl rfl rdV rfl<|nl<|fz (t:=6) rfl<|tn<|rc ?_
  cases osi hF
  exact rs Tryz.results165 (.ce rfl kt64 .nil) rfl rfl
 ·refine bs vA fun xB eA vA=>sr<|a_ rfl<|nt<|bk<|f1<|lp eA () (fun hA oA=>[(2,.fn 164 [.ptr (kArr 256 K10) a2]),(3,.ptr ar a0),(6,pb b1),(7,pb b6),(8,.raw (.int .i64 hA.1))]) (fun hA oA=>(.box K2 b1 64 (List.replicate 16 (0:Int)))::(.box K2 b6 240 hA.2)::L) rfl rfl fun hA oA yB xA cA=>?_
  obtain⟨qA,zB⟩:=hA
  dsimp only at xA⊢
  refine sq<|sr<|mb rfl<|nt<|it xA rfl (fun xA=>?_) (fun xA=>?_)
  ·refine bs xA fun hB rA xA=>bs xA fun wA gA xA=>bs xA fun bA yA xA=>ct<|sq<|bk<|sr<|f1<|lP .box .id kt240k rfl rfl<|m_ rfl<|cx Tryz.call206 rfl (o54 rA _)<|cx Tryz.call207 rfl (o55 gA _)<|sP (x':=wA) .box .id sz240k rfl rfl rdV rfl<|nt<|sq<|afr (r:=bA) (fun bA=>[(2,.fn 164 [.ptr (kArr 256 K10) a2]),(3,.ptr ar a0),(6,pb b1),(7,pb b6),(8,.raw (.int .i64 qA))]) (fun bA=>((.box K2 b1 64 (List.replicate 16 (0:Int)))::(.box K2 b6 240 bA)::L)) ?_ fun K kA=>?_
   ·exact bs xA fun bB mA xA=>bs xA fun nA pA xA=>ph rfl<|gV [0,1,2,3,4] [[7],[8],[3],[27,28],[29]] 2 (by kernel_rfl) rfl<|Vq.v (fun G T hG=>f1<|lP .box .id kt240k rfl rfl<|f1<|Vq.end rfl)<|vm_ rfl<|vo (fun _=>OpV.fd fb243k rfl rfl) rfl<|vo (fun _=>OpV.ixA mA Tryz.underlying241 sz240 rfl rfl) rfl<|vo (fun _=>OpV.ld kt240 rfl) rfl<|vn<|p1 5 rfl rfl<|cx Tryz.call205 rfl (o52 pA _)<|pn<|p1 6 rfl rfl<|f1<|sP (x':=nA) .box .id sz240k rfl rfl rdV rfl<|pn<|pd rfl<|bN<|tn<|rg<|mb rfl<|a_ rfl<|nl<|f1<|nx () xA rfl rfl
   ·refine sr<|mb rfl<|nt<|it yA rfl (fun yA=>?_) (fun yA=>?_)
    ·exact bs yA fun tA uA yA=>rg<|lP .box .id kt240k rfl rfl<|cx Tryz.call208 rfl (o58 uA _)<|sP (x':=tA) .box .id sz240k rfl rfl rdV rfl<|nt<|f1<|wr (kA _ (osi yA).symm) rfl
    ·exact ct<|f1<|wr (kA _ (osi yA).symm) rfl
  ·refine f1<|fz (t:=7) rfl<|xt<|te ?_
   cases aj xA cA
   exact te<|bh<|tn<|wr (dA _ (osi vA).symm) rfl
noncomputable def eQ (a0:List Int):Option (List Int):=
 (((Loop.run (S:=(Int×(List Int))) (R:=(List Int)) (fun(xA,yA)=>
   bif decide (xA≥0) then
    (idx yA xA).bind fun zA=>
    (idx yA xA).bind fun oA=>
    (idx (List.set yA (Int.toNat xA) (IntKind.wrap .u8 (zA+1))) xA).bind fun hA=>
    bif hA != 0 then
     some (.done (List.set yA (Int.toNat xA) (IntKind.wrap .u8 (zA+1))))
    else
     some (.next (IntKind.wrap .i64 (xA - 1),List.set yA (Int.toNat xA) (IntKind.wrap .u8 (zA+1))))
   else
    some (.done yA)) (15,a0)).bind fun bA=>
 some bA
  :Option (List Int))).bind fun vA=>
 some vA
theorem o60 {a0:List Int} {r0:(List Int)} (hF:eQ a0=some r0) (L:List Res):Ok Tryz.prog 166 [SV.val K2 a0] L (SV.val K2 r0) L:=by
 unfold eQ at hF
 refine okI 18 Tryz.func166 rfl rfl rfl fun F0=>?_
 refine bs hF fun yA hA hF=>sr<|Under.bx (K:=kArr 16 K10) rfl rdV rfl fun b1=>al ZT64 rfl fun b2=>nt<|sq<|afr (r:=yA) (fun yA=>[(1,.ptr K2 yA),(2,pb b2)]) (fun yA=>((.box K2 b2 64 (List.replicate 16 (0:Int)))::L)) ?_ fun K bA=>?_
 ·refine sr<|oL kt64 rfl<|sP (x':=yA) .box .id sz64k rfl rfl rdV rfl<|nl<|fz (t:=2) rfl<|tn<|rc ?_
  cases osi hF
  exact rs Tryz.results166 (.ce rfl kt64 .nil) rfl rfl
 ·refine bs hA fun gA cA hA=>sr<|a_ rfl<|nt<|bk<|f1<|lp cA () (fun zA vA=>[(1,pb b1),(2,pb b2),(3,.raw (.int .i64 zA.1))]) (fun zA vA=>(.box K2 b1 64 zA.2)::(.box K2 b2 64 (List.replicate 16 (0:Int)))::L) rfl rfl fun zA vA mA xA oA=>?_
  obtain⟨qA,rA⟩:=zA
  dsimp only at xA⊢
  refine sq<|sr<|mb rfl<|nt<|it xA rfl (fun xA=>?_) (fun xA=>?_)
  ·refine bs xA fun wA kA xA=>bs xA fun nA dA xA=>bs xA fun pA eA xA=>ct<|sq<|bk<|sr<|m_ rfl<|oX .box .id kA Tryz.underlying64 sz5k rfl<|lP .box (.ix .id kA) kt5k rfl rfl<|rI (t:=10) rfl<|b_ rfl<|oX .box .id dA Tryz.underlying64 sz5k rfl<|sP (x':=List.set rA (Int.toNat qA) (IntKind.wrap .u8 (wA+1))) .box (.ix .id dA) sz5k rfl rfl rdI rfl<|ns<|m_ rfl<|oX .box .id eA Tryz.underlying64 sz5k rfl<|lP .box (.ix .id eA) kt5k rfl rfl<|rI (t:=15) rfl<|b_ rfl<|nt<|it xA rfl (fun xA=>?_) (fun xA=>?_)
   ·refine fz (t:=1) rfl<|xt<|bm rfl<|te ?_
    cases aj xA oA
    exact te<|bh<|tn<|wr (bA _ (osi hA).symm) rfl
   ·exact cs<|bN<|tn<|rg<|mb rfl<|a_ rfl<|nl<|nx () xA rfl rfl
  ·refine fz (t:=1) rfl<|xt<|te ?_
   cases aj xA oA
   exact te<|bh<|tn<|wr (bA _ (osi hA).symm) rfl
noncomputable def ck (a0:List Int):Option (List Int):=
 (((Loop.run (S:=(Int×(List Int))) (R:=(List Int)) (fun(xA,yA)=>
   bif decide (xA<16) then
    (idx yA xA).bind fun zA=>
    (bY zA).bind fun hA=>
    (idx yA xA).bind fun oA=>
    some (.next (IntKind.wrap .i64 (xA+1),List.set yA (Int.toNat xA) hA))
   else
    some (.done yA)) (0,a0)).bind fun bA=>
 some bA
  :Option (List Int))).bind fun vA=>
 some vA
theorem o61 {a0:List Int} {r0:(List Int)} (hF:ck a0=some r0) (L:List Res):Ok Tryz.prog 206 [SV.val K2 a0,SV.raw (.func (.func 163) #[] #[])] L (SV.val K2 r0) L:=by
 unfold ck at hF
 refine okI 18 Tryz.func206 rfl rfl rfl fun F0=>?_
 refine bs hF fun yA hA hF=>sr<|Under.bx (K:=kArr 16 K10) rfl rdV rfl fun b1=>al ZT240 rfl fun b2=>nt<|sq<|afr (r:=yA) (fun yA=>[(2,.ptr K2 yA),(4,pb b2)]) (fun yA=>((.box K2 b2 240 (List.replicate 16 (0:Int)))::L)) ?_ fun K kA=>?_
 ·refine sr<|oL kt240 rfl<|sP (x':=yA) .box .id sz240k rfl rfl rdV rfl<|nl<|fz (t:=4) rfl<|tn<|rc ?_
  cases osi hF
  exact rs Tryz.results206 (.ce rfl kt240 .nil) rfl rfl
 ·refine bs hA fun gA dA hA=>sr<|m_ rfl<|nt<|bk<|f1<|lp dA () (fun zA bA=>[(1,.raw (.func (.func 163) #[] #[])),(2,pb b1),(4,pb b2),(6,.raw (.int .i64 zA.1))]) (fun zA bA=>(.box K2 b1 240 zA.2)::(.box K2 b2 240 (List.replicate 16 (0:Int)))::L) rfl rfl fun zA bA mA xA eA=>?_
  obtain⟨cA,qA⟩:=zA
  dsimp only at xA⊢
  refine sr<|b_ rfl<|nt<|sq<|it xA rfl (fun xA=>?_) (fun xA=>?_)
  ·exact bs xA fun nA vA xA=>bs xA fun rA wA xA=>bs xA fun pA oA xA=>ct<|sq<|bk<|sr<|m_ rfl<|a_ rfl<|nt<|rg<|m_ rfl<|m_ rfl<|m_ rfl<|oX .box .id vA Tryz.underlying240 sz5k rfl<|lP .box (.ix .id vA) kt5k rfl rfl<|rI (t:=13) rfl<|cx Tryz.call163 rfl (o50 wA _)<|oX .box .id oA Tryz.underlying240 sz5k rfl<|sP (x':=List.set qA (Int.toNat cA) rA) .box (.ix .id oA) sz5k rfl rfl rdI rfl<|nl<|bN<|tn<|rg<|b_ rfl<|m_ rfl<|nl<|nx () xA rfl rfl
  ·refine fz (t:=2) rfl<|xt<|te ?_
   cases aj xA eA
   exact te<|bh<|tn<|wr (kA _ (osi hA).symm) rfl
noncomputable def bd (a0:aF) (a1:List Int):Option (List Int):=
 (idx a0.keys 0).bind fun x2=>
 (cj a1 x2).bind fun y4=>
 (((Loop.run (S:=(Int×(List Int))) (R:=(List Int)) (fun(xA,yA)=>
   bif decide (xA≤10) then
    (ck yA).bind fun hA=>
    (cV hA 1).bind fun zA=>
    ((bif decide (xA<10) then
     (aS zA).bind fun bA=>
     some bA
    else
     some zA
     :Option (List Int))).bind fun vA=>
    (idx a0.keys xA).bind fun oA=>
    (cj vA oA).bind fun kA=>
    some (.next (IntKind.wrap .i64 (xA+1),kA))
   else
    some (.done yA)) (1,y4)).bind fun dA=>
 some dA
  :Option (List Int))).bind fun eA=>
 some eA
theorem o62 {a0:aF} {a1:List Int} {r0:(List Int)} (hF:bd a0 a1=some r0) (L:List Res):Ok Tryz.prog 165 [SV.val ar a0,SV.val K2 a1,SV.raw (.func (.func 163) #[] #[])] L (SV.val K2 r0) L:=by
 unfold bd at hF
 refine okI 33 Tryz.func165 rfl rfl rfl fun F0=>?_
 refine bs hF fun x2 h3 hF=>bs hF fun y4 h5 hF=>bs hF fun zA vA hF=>sr<|bX (K:=ar) rfl rdV rfl<|bX (K:=kArr 16 K10) rfl rdV rfl<|al ZT64 rfl fun b1=>ns<|oL kt64 rfl<|oF fb243k rfl<|ov (OpV.ixA h3 Tryz.underlying241 sz240 rfl rfl) rfl<|oL kt240 rfl<|cx Tryz.call205 rfl (o52 h5 _)<|al ZT240 rfl fun b6=>sP (x':=y4) .box .id sz240k rfl rfl rdV rfl<|nt<|sq<|afr (r:=zA) (fun zA=>[(6,pb b1),(7,.ptr K2 zA)]) (fun zA=>((.box K2 b1 64 (List.replicate 16 (0:Int)))::L)) ?_ fun K dA=>?_
 ·refine sr<|oL kt240 rfl<|sP (x':=zA) .box .id sz64k rfl rfl rdV rfl<|nl<|fz (t:=6) rfl<|tn<|rc ?_
  cases osi hF
  exact rs Tryz.results165 (.ce rfl kt64 .nil) rfl rfl
 ·refine bs vA fun xB eA vA=>sr<|a_ rfl<|nt<|bk<|f1<|lp eA () (fun hA oA=>[(2,.raw (.func (.func 163) #[] #[])),(3,.ptr ar a0),(6,pb b1),(7,pb b6),(8,.raw (.int .i64 hA.1))]) (fun hA oA=>(.box K2 b1 64 (List.replicate 16 (0:Int)))::(.box K2 b6 240 hA.2)::L) rfl rfl fun hA oA yB xA cA=>?_
  obtain⟨qA,zB⟩:=hA
  dsimp only at xA⊢
  refine sq<|sr<|mb rfl<|nt<|it xA rfl (fun xA=>?_) (fun xA=>?_)
  ·refine bs xA fun hB rA xA=>bs xA fun wA gA xA=>bs xA fun bA yA xA=>ct<|sq<|bk<|sr<|f1<|lP .box .id kt240k rfl rfl<|m_ rfl<|cx Tryz.call206 rfl (o61 rA _)<|cx Tryz.call207 rfl (o55 gA _)<|sP (x':=wA) .box .id sz240k rfl rfl rdV rfl<|nt<|sq<|afr (r:=bA) (fun bA=>[(2,.raw (.func (.func 163) #[] #[])),(3,.ptr ar a0),(6,pb b1),(7,pb b6),(8,.raw (.int .i64 qA))]) (fun bA=>((.box K2 b1 64 (List.replicate 16 (0:Int)))::(.box K2 b6 240 bA)::L)) ?_ fun K kA=>?_
   ·exact bs xA fun bB mA xA=>bs xA fun nA pA xA=>ph rfl<|gV [0,1,2,3,4] [[7],[8],[3],[27,28],[29]] 2 (by kernel_rfl) rfl<|Vq.v (fun G T hG=>f1<|lP .box .id kt240k rfl rfl<|f1<|Vq.end rfl)<|vm_ rfl<|vo (fun _=>OpV.fd fb243k rfl rfl) rfl<|vo (fun _=>OpV.ixA mA Tryz.underlying241 sz240 rfl rfl) rfl<|vo (fun _=>OpV.ld kt240 rfl) rfl<|vn<|p1 5 rfl rfl<|cx Tryz.call205 rfl (o52 pA _)<|pn<|p1 6 rfl rfl<|f1<|sP (x':=nA) .box .id sz240k rfl rfl rdV rfl<|pn<|pd rfl<|bN<|tn<|rg<|mb rfl<|a_ rfl<|nl<|f1<|nx () xA rfl rfl
   ·refine sr<|mb rfl<|nt<|it yA rfl (fun yA=>?_) (fun yA=>?_)
    ·exact bs yA fun tA uA yA=>rg<|lP .box .id kt240k rfl rfl<|cx Tryz.call208 rfl (o58 uA _)<|sP (x':=tA) .box .id sz240k rfl rfl rdV rfl<|nt<|f1<|wr (kA _ (osi yA).symm) rfl
    ·exact ct<|f1<|wr (kA _ (osi yA).symm) rfl
  ·refine f1<|fz (t:=7) rfl<|xt<|te ?_
   cases aj xA cA
   exact te<|bh<|tn<|wr (dA _ (osi vA).symm) rfl
noncomputable def eR (a0:List Int) (a1:List Int) (a2:List Int):Option (List Int):=
 (iu a0).bind fun y2=>
 bif mkB (a2.length:Int) (a2.length:Int) then
 bif decide ((a2.length:Int)>32) then
  (((Loop.run (S:=(Int×(List Int))) (R:=(List Int)) (fun(zA,kA)=>
    bif decide (zA<256) then
     (bY (IntKind.wrap .u8 zA)).bind fun rA=>
     (idx kA zA).bind fun nB=>
     some (.next (IntKind.wrap .i64 (zA+1),List.set kA (Int.toNat zA) rA))
    else
     some (.done kA)) (0,(List.replicate 256 (0:Int)))).bind fun wA=>
  some wA
   :Option (List Int))).bind fun uB=>
  (((Loop.run (S:=((List Int)×Int×(List Int))) (R:=(List Int)) (fun(dA,hA,cA)=>
    bif decide (hA<(dA.length:Int)) then
     (((aX y2 cA uB).bind fun gA=>
     (((Loop.run (S:=((List Int)×Int)) (R:=(List Int)) (fun(bA,xA)=>
       bif decide (xA<(min (IntKind.wrap .i64 (hA+16)) (bA.length:Int))) then
        (idx bA xA).bind fun mA=>
        (idx gA (IntKind.wrap .i64 (xA - hA))).bind fun nA=>
        (idx bA xA).bind fun pB=>
        some (.next (List.set bA (Int.toNat xA) (xorI .u8 mA nA),IntKind.wrap .i64 (xA+1)))
       else
        some (.done bA)) (dA,hA)).bind fun pA=>
     some pA
      :Option (List Int))).bind fun tA=>
     (eQ cA).bind fun uA=>
     some (tA,uA)
      :Option ((List Int)×(List Int)))).bind fun xB=>match xB with
      |(yB,zB)=>
       some (.next (yB,IntKind.wrap .i64 (hA+16),zB))
    else
     some (.done dA)) (over (List.replicate (Int.toNat (a2.length:Int)) (0:Int)) 0 (List.length (List.replicate (Int.toNat (a2.length:Int)) (0:Int))) a2,0,a1)).bind fun hB=>
  some hB
   :Option (List Int))).bind fun mB=>
  some mB
 else
  (((Loop.run (S:=((List Int)×Int×(List Int))) (R:=(List Int)) (fun(eA,vA,qA)=>
    bif decide (vA<(eA.length:Int)) then
     (((bd y2 qA).bind fun bB=>
     (((Loop.run (S:=((List Int)×Int)) (R:=(List Int)) (fun(oA,yA)=>
       bif decide (yA<(min (IntKind.wrap .i64 (vA+16)) (oA.length:Int))) then
        (idx oA yA).bind fun vB=>
        (idx bB (IntKind.wrap .i64 (yA - vA))).bind fun oB=>
        (idx oA yA).bind fun tB=>
        some (.next (List.set oA (Int.toNat yA) (xorI .u8 vB oB),IntKind.wrap .i64 (yA+1)))
       else
        some (.done oA)) (eA,vA)).bind fun kB=>
     some kB
      :Option (List Int))).bind fun dB=>
     (eQ qA).bind fun eB=>
     some (dB,eB)
      :Option ((List Int)×(List Int)))).bind fun cB=>match cB with
      |(qB,rB)=>
       some (.next (qB,IntKind.wrap .i64 (vA+16),rB))
    else
     some (.done eA)) (over (List.replicate (Int.toNat (a2.length:Int)) (0:Int)) 0 (List.length (List.replicate (Int.toNat (a2.length:Int)) (0:Int))) a2,0,a1)).bind fun wB=>
  some wB
   :Option (List Int))).bind fun gB=>
  some gB
 else none
theorem o63 {a0 a1 a2:List Int} {r0:(List Int)} (hF:eR a0 a1 a2=some r0) (L:List Res):Ok Tryz.prog 103 [SV.val K2 a0,SV.val K2 a1,SV.val K7 a2] L (SV.val K7 r0) L:=by
 unfold eR at hF
 refine okI 70 Tryz.func103 rfl rfl rfl fun F0=>?_
 refine bs hF fun y2 h3 hF=>gs hF fun h6 hF=>sr<|bX (K:=kArr 16 K10) rfl rdV rfl<|Under.bx (K:=kArr 16 K10) rfl rdV rfl fun b1=>a_ rfl<|ns<|oL kt64 rfl<|cx Tryz.call162 rfl (o51 h3 _)<|al ZT243 rfl fun b4=>sP (x':=y2) .box .id sz243k rfl rfl rdV rfl<|nl<|fz (t:=7) rfl<|tn<|sr<|m_ rfl<|oN Tryz.underlying22 rfl<|Under.mk h6 Tryz.underlying22 AT5 rfl rfl rfl fun v5=>a_ rfl<|ns<|m_ rfl<|m_ rfl<|Under.cpW Tryz.underlying22 sz5k rfl rfl (.sl rdV) rfl<|ns<|a_ rfl<|nt<|sq<|sr<|m_ rfl<|oN Tryz.underlying22 rfl<|b_ rfl<|nt<|it hF rfl (fun hF=>?_) (fun hF=>?_)
 ·refine bs hF fun qB yE hF=>sr<|al ZT246 rfl fun b8=>nt<|sq<|afr (r:=qB) (fun qB=>[(4,pb b1),(7,.ptr ar y2),(8,.raw v5),(10,.ptr (kArr 256 K10) qB)]) (fun qB=>((.own K10 v5 5 (over (List.replicate (Int.toNat (a2.length:Int)) (0:Int)) 0 (List.length (List.replicate (Int.toNat (a2.length:Int)) (0:Int))) a2))::(.box K2 b1 64 a1)::L)) ?_ fun K xG=>?_
  ·refine bs hF fun cB zC hF=>rg<|ov (OpV.mkf rfl) rfl<|a_ rfl<|nt<|sq<|afr (r:=cB) (fun cB=>[(8,.val K7 cB)]) (fun cB=>(L)) ?_ fun K zE=>?_
   ·refine sr<|m_ rfl<|a_ rfl<|nt<|rc ?_
    cases osi hF
    exact rs Tryz.results103 (.tm rfl .nil) rfl rfl
   ·refine bs zC fun hE hC zC=>sr<|a_ rfl<|nt<|bk<|lp hC () (fun kA rB=>[(4,pb b1),(7,.ptr ar y2),(8,.raw v5),(9,.fn 164 [.ptr (kArr 256 K10) qB]),(12,.raw (.int .i64 kA.2.1))]) (fun kA rB=>(.own K10 v5 5 kA.1)::(.box K2 b1 64 kA.2.2)::L) rfl rfl fun kA rB bE hA bC=>?_
    obtain⟨vE,mA,wB⟩:=kA
    dsimp only at hA⊢
    refine sq<|sr<|m_ rfl<|m_ rfl<|ov (OpV.lenO Tryz.underlying22 rfl) rfl<|b_ rfl<|nt<|it hA rfl (fun hA=>?_) (fun hA=>?_)
    ·refine bs hA fun vC vA hA=>ct<|sq<|Under.after (fun X=>∀(nA:List Int) (pA:List Int),vC=(nA,pA)→Under F0 70 [(4,pb b1),(7,.ptr ar y2),(8,.raw v5),(9,.fn 164 [.ptr (kArr 256 K10) qB]),(12,.raw (.int .i64 mA))] ((.own K10 v5 5 nA)::(.box K2 b1 64 pA)::L) X) ?_ ?_
     ·intro nA pA tA
      replace tA:=tA.symm
      subst tA
      exact rg<|mb rfl<|a_ rfl<|nl<|nx () hA rfl rfl
     ·intro K kC
      refine bs vA fun gB dC vA=>bs vA fun rA uA vA=>bk<|sr<|oL kt243 rfl<|f1<|lP .box .id kt64k rfl rfl<|m_ rfl<|cx Tryz.call165 rfl (o59 dC _)<|al ZT64 rfl fun oE=>sP (x':=gB) .box .id sz64k rfl rfl rdV rfl<|nl<|fz (t:=13) rfl<|tn<|sq<|afr (r:=rA) (fun rA=>[(4,pb b1),(7,.ptr ar y2),(8,.raw v5),(9,.fn 164 [.ptr (kArr 256 K10) qB]),(12,.raw (.int .i64 mA))]) (fun rA=>((.own K10 v5 5 rA)::(.box K2 b1 64 wB)::L)) ?_ fun K eC=>?_
      ·exact bs vA fun cC qC vA=>rg<|f1<|lP .box .id kt64k rfl rfl<|cx Tryz.call166 rfl (o60 qC _)<|sP (x':=cC) .box .id sz64k rfl rfl rdV rfl<|nl<|bN<|tn<|f1<|wr (kC _ _ (osi vA).symm) rfl
      ·refine bs uA fun kE rC uA=>sr<|m_ rfl<|a_ rfl<|nt<|bk<|f1<|lp rC () (fun eA mB=>[(4,pb b1),(7,.ptr ar y2),(8,.raw v5),(9,.fn 164 [.ptr (kArr 256 K10) qB]),(12,.raw (.int .i64 mA)),(13,.ptr K2 gB),(14,.raw (.int .i64 eA.2))]) (fun eA mB=>(.own K10 v5 5 eA.1)::(.box K2 b1 64 wB)::L) rfl rfl fun eA mB dE xA wC=>?_
       obtain⟨gC,mC⟩:=eA
       dsimp only at xA⊢
       refine sq<|sr<|m_ rfl<|mb rfl<|m_ rfl<|ov (OpV.lenO Tryz.underlying22 rfl) rfl<|ov (OpV.min2 rfl rfl) rfl<|b_ rfl<|nt<|it xA rfl (fun xA=>?_) (fun xA=>?_)
       ·exact bs xA fun nC xB xA=>bs xA fun pC tC xA=>bs xA fun eE yB xA=>ct<|sq<|bk<|ph rfl<|gV [0,1,2,3,4,5,6,7,8] [[8],[14],[56,57],[58],[14],[12],[60,61],[13,62],[63]] 2 (by kernel_rfl) rfl<|vm_ rfl<|vm_ rfl<|Vq.v (fun G T hG=>ov (OpV.ixO xB Tryz.underlying22 sz5k rfl rfl) rfl<|Vq.end rfl)<|Vq.v (fun G T hG=>lP (.own xB) (.ix .id xB) kt5k rfl rfl<|rI (t:=59) rfl<|Vq.end rfl)<|vm_ rfl<|vm_ rfl<|vb_ rfl<|vo (fun _=>OpV.ixA tC Tryz.underlying64 sz5 rfl rfl) rfl<|vo (fun _=>OpV.ldI kt5 rfl) rfl<|vn<|p1 9 rfl rfl<|b_ rfl<|pn<|p1 10 rfl rfl<|ov (OpV.ixO yB Tryz.underlying22 sz5k rfl rfl) rfl<|pn<|p1 11 rfl rfl<|sP (x':=List.set gC (Int.toNat mC) (xorI .u8 nC pC)) (.own yB) (.ix .id yB) sz5k rfl rfl rdI rfl<|pn<|pd rfl<|bN<|tn<|rg<|mb rfl<|a_ rfl<|nl<|nx () xA rfl rfl
       ·refine xt<|te ?_
        cases aj xA wC
        exact te<|bh<|tn<|wr (eC _ (osi uA).symm) rfl
    ·refine f1<|dr<|fzO (t:=8) rfl<|xt<|te ?_
     cases aj hA bC
     exact te<|bh<|tn<|wr (zE _ (osi zC).symm) rfl
  ·refine bs yE fun cE uC yE=>sr<|m_ rfl<|nt<|bk<|f2<|f2<|lp uC () (fun cA nB=>[(4,pb b1),(7,.ptr ar y2),(8,.raw v5),(10,pb b8),(26,.raw (.int .i64 cA.1))]) (fun cA nB=>(.own K10 v5 5 (over (List.replicate (Int.toNat (a2.length:Int)) (0:Int)) 0 (List.length (List.replicate (Int.toNat (a2.length:Int)) (0:Int))) a2))::(.box K2 b1 64 a1)::(.box (kArr 256 K10) b8 246 cA.2)::L) rfl rfl fun cA nB qE zA xD=>?_
   obtain⟨yD,zD⟩:=cA
   dsimp only at zA⊢
   refine sr<|b_ rfl<|nt<|sq<|it zA rfl (fun zA=>?_) (fun zA=>?_)
   ·exact bs zA fun hD bD zA=>bs zA fun rE pB zA=>ct<|sq<|bk<|sr<|m_ rfl<|a_ rfl<|nt<|rg<|m_ rfl<|m_ rfl<|oC (by kernel_rfl) Tryz.underlying5 rfl<|cx Tryz.call163 rfl (o50 bD _)<|f2<|oX .box .id pB Tryz.underlying246 sz5k rfl<|sP (x':=List.set zD (Int.toNat yD) hD) .box (.ix .id pB) sz5k rfl rfl rdI rfl<|nl<|bN<|tn<|rg<|b_ rfl<|m_ rfl<|nl<|f2<|f2<|nx () zA rfl rfl
   ·refine f2<|fz (t:=10) rfl<|xt<|te ?_
    cases aj zA xD
    exact te<|bh<|tn<|wr (xG _ (osi yE).symm) rfl
 ·refine bs hF fun wA zB hF=>ct<|sq<|afr (r:=wA) (fun wA=>[(8,.val K7 wA)]) (fun wA=>(L)) ?_ fun K vD=>?_
  ·refine sr<|m_ rfl<|a_ rfl<|nt<|rc ?_
   cases osi hF
   exact rs Tryz.results103 (.tm rfl .nil) rfl rfl
  ·refine bs zB fun wE oD zB=>sr<|a_ rfl<|nt<|bk<|lp oD () (fun dA tB=>[(4,pb b1),(7,.ptr ar y2),(8,.raw v5),(9,.raw (.func (.func 163) #[] #[])),(12,.raw (.int .i64 dA.2.1))]) (fun dA tB=>(.own K10 v5 5 dA.1)::(.box K2 b1 64 dA.2.2)::L) rfl rfl fun dA tB gE bA kD=>?_
   obtain⟨mE,hB,uB⟩:=dA
   dsimp only at bA⊢
   refine sq<|sr<|m_ rfl<|m_ rfl<|ov (OpV.lenO Tryz.underlying22 rfl) rfl<|b_ rfl<|nt<|it bA rfl (fun bA=>?_) (fun bA=>?_)
   ·refine bs bA fun dD oA bA=>ct<|sq<|Under.after (fun X=>∀(bB:List Int) (vB:List Int),dD=(bB,vB)→Under F0 70 [(4,pb b1),(7,.ptr ar y2),(8,.raw v5),(9,.raw (.func (.func 163) #[] #[])),(12,.raw (.int .i64 hB))] ((.own K10 v5 5 bB)::(.box K2 b1 64 vB)::L) X) ?_ ?_
    ·intro bB vB oB
     replace oB:=oB.symm
     subst oB
     exact rg<|mb rfl<|a_ rfl<|nl<|nx () bA rfl rfl
    ·intro K eD
     refine bs oA fun xC cD oA=>bs oA fun gA kB oA=>bk<|sr<|oL kt243 rfl<|f1<|lP .box .id kt64k rfl rfl<|m_ rfl<|cx Tryz.call165 rfl (o62 cD _)<|al ZT64 rfl fun nE=>sP (x':=xC) .box .id sz64k rfl rfl rdV rfl<|nl<|fz (t:=13) rfl<|tn<|sq<|afr (r:=gA) (fun gA=>[(4,pb b1),(7,.ptr ar y2),(8,.raw v5),(9,.raw (.func (.func 163) #[] #[])),(12,.raw (.int .i64 hB))]) (fun gA=>((.own K10 v5 5 gA)::(.box K2 b1 64 uB)::L)) ?_ fun K qD=>?_
     ·exact bs oA fun rD wD oA=>rg<|f1<|lP .box .id kt64k rfl rfl<|cx Tryz.call166 rfl (o60 wD _)<|sP (x':=rD) .box .id sz64k rfl rfl rdV rfl<|nl<|bN<|tn<|f1<|wr (eD _ _ (osi oA).symm) rfl
     ·refine bs kB fun pE gD kB=>sr<|m_ rfl<|a_ rfl<|nt<|bk<|f1<|lp gD () (fun qA yC=>[(4,pb b1),(7,.ptr ar y2),(8,.raw v5),(9,.raw (.func (.func 163) #[] #[])),(12,.raw (.int .i64 hB)),(13,.ptr K2 xC),(14,.raw (.int .i64 qA.2))]) (fun qA yC=>(.own K10 v5 5 qA.1)::(.box K2 b1 64 uB)::L) rfl rfl fun qA yC tE yA mD=>?_
      obtain⟨nD,pD⟩:=qA
      dsimp only at yA⊢
      refine sq<|sr<|m_ rfl<|mb rfl<|m_ rfl<|ov (OpV.lenO Tryz.underlying22 rfl) rfl<|ov (OpV.min2 rfl rfl) rfl<|b_ rfl<|nt<|it yA rfl (fun yA=>?_) (fun yA=>?_)
      ·exact bs yA fun tD dB yA=>bs yA fun uD xE yA=>bs yA fun uE eB yA=>ct<|sq<|bk<|ph rfl<|gV [0,1,2,3,4,5,6,7,8] [[8],[14],[56,57],[58],[14],[12],[60,61],[13,62],[63]] 2 (by kernel_rfl) rfl<|vm_ rfl<|vm_ rfl<|Vq.v (fun G T hG=>ov (OpV.ixO dB Tryz.underlying22 sz5k rfl rfl) rfl<|Vq.end rfl)<|Vq.v (fun G T hG=>lP (.own dB) (.ix .id dB) kt5k rfl rfl<|rI (t:=59) rfl<|Vq.end rfl)<|vm_ rfl<|vm_ rfl<|vb_ rfl<|vo (fun _=>OpV.ixA xE Tryz.underlying64 sz5 rfl rfl) rfl<|vo (fun _=>OpV.ldI kt5 rfl) rfl<|vn<|p1 9 rfl rfl<|b_ rfl<|pn<|p1 10 rfl rfl<|ov (OpV.ixO eB Tryz.underlying22 sz5k rfl rfl) rfl<|pn<|p1 11 rfl rfl<|sP (x':=List.set nD (Int.toNat pD) (xorI .u8 tD uD)) (.own eB) (.ix .id eB) sz5k rfl rfl rdI rfl<|pn<|pd rfl<|bN<|tn<|rg<|mb rfl<|a_ rfl<|nl<|nx () yA rfl rfl
      ·refine xt<|te ?_
       cases aj yA mD
       exact te<|bh<|tn<|wr (qD _ (osi kB).symm) rfl
   ·refine f1<|dr<|fzO (t:=8) rfl<|xt<|te ?_
    cases aj bA kD
    exact te<|bh<|tn<|wr (vD _ (osi zB).symm) rfl
noncomputable def fC (a0:Int):Option Int:=
 (cK a0).bind fun y1=>
 some (IntKind.wrap .i64 (y1 - 34))
theorem o64 {a0:Int} {r0:Int} (hF:fC a0=some r0) (L:List Res):Ok Tryz.prog 161 [SV.raw (.int .i64 a0)] L (SV.raw (.int .i64 r0)) L:=by
 unfold fC at hF
 refine okI 6 Tryz.func161 rfl rfl rfl fun F0=>?_
 refine bs hF fun y1 h2 hF=>sr<|a_ rfl<|ns<|m_ rfl<|cx Tryz.call79 rfl (o41 h2 _)<|b_ rfl<|a_ rfl<|nt<|rc ?_
 cases osi hF
 exact rs Tryz.results161 (.tm rfl .nil) rfl rfl
noncomputable def fq (a0:List Int) (a1:Int):Option ((List Int)×Bool):=
 (idx a0 0).bind fun x1=>
 (idx a0 1).bind fun x3=>
 (fC a1).bind fun y5=>
 bif decide ((orI .i64 (shlI .i64 (IntKind.wrap .i64 x1) 8) (IntKind.wrap .i64 x3))>y5) then
  some ([],false)
 else
  (((sub a0 (IntKind.wrap .i64 (2+(orI .i64 (shlI .i64 (IntKind.wrap .i64 x1) 8) (IntKind.wrap .i64 x3)))) (a0.length:Int)).bind fun yA=>
  (Loop.run (S := Int) (R := (Unit ⊕ ((List Int) × Bool))) (fun xA =>
    bif decide (xA<(yA.length:Int)) then
     (idx yA xA).bind fun zA=>
     bif zA != 0 then
      some (.done (.inr ([],false)))
     else
      some (.next (IntKind.wrap .i64 (xA+1)))
    else
     some (.done (.inl ()))) 0).bind fun hA=>match hA with
   | .inl _=>
    some (.inr ())
   | .inr z=>
    some (.inl z)
   : Option (((List Int) × Bool) ⊕ Unit))).bind fun bA => match bA with
   | .inl z=>
    some z
   | .inr _=>
    (sub a0 2 (IntKind.wrap .i64 (2+(orI .i64 (shlI .i64 (IntKind.wrap .i64 x1) 8) (IntKind.wrap .i64 x3))))).bind fun vA=>
    some (vA,true)
theorem o65 {a0:List Int} {a1:Int} {r0:((List Int)×Bool)} (hF:fq a0 a1=some r0) (L:List Res):Ok Tryz.prog 102 [SV.val K7 a0,SV.raw (.int .i64 a1)] L (SV.tup [SV.val K7 r0.1,SV.raw (.bool r0.2)]) L:=by
 unfold fq at hF
 refine okI 39 Tryz.func102 rfl rfl rfl fun F0=>?_
 refine bs hF fun x1 h2 hF=>bs hF fun x3 h4 hF=>bs hF fun y5 h6 hF=>sr<|a_ rfl<|a_ rfl<|nt<|sq<|dw rfl (by kernel_rfl) fun F hF0=>mvq rfl rfl<|oq (OpV.ixS h2 Tryz.underlying22 sz5 rfl rdV rfl) rfl<|oq (OpV.ldI kt5 rfl) rfl<|oq (OpV.conv (by kernel_rfl) Tryz.underlying3 rfl) rfl<|oq (OpV.sh rfl rfl (by decide) rfl) rfl<|mvq rfl rfl<|oq (OpV.ixS h4 Tryz.underlying22 sz5 rfl rdV rfl) rfl<|oq (OpV.ldI kt5 rfl) rfl<|oq (OpV.conv (by kernel_rfl) Tryz.underlying3 rfl) rfl<|bnq rfl rfl rfl rfl<|agq rfl rfl<|nlq hF0<|tn<|sq<|sr<|m_ rfl<|m_ rfl<|cx Tryz.call161 rfl (o64 h6 _)<|b_ rfl<|nt<|it hF rfl (fun hF=>?_) (fun hF=>?_)
 ·refine sr<|a_ rfl<|a_ rfl<|nt<|rt<|tV (K:=kSl K10) (x:=[]) (t:=4) rfl rdN ?_
  cases osi hF
  exact rs Tryz.results102 (.tm rfl (.tm rfl .nil)) rfl rfl
 ·refine bs hF fun kA yA hF=>ct<|sq<|Under.after (fun X=>∀(_:Unit),kA=(.inr ())→Under F0 39 [(0,.val K7 a0),(6,.raw (.int .i64 (orI .i64 (shlI .i64 (IntKind.wrap .i64 x1) 8) (IntKind.wrap .i64 x3))))] (L) X) ?_ ?_
  ·intro _ zA
   replace zA:=zA.symm
   subst zA
   refine bs hF fun wA dA hF=>sr<|m_ rfl<|mb rfl<|ov (OpV.slLH dA Tryz.underlying22 sz5 rfl rdV rfl rfl) rfl<|a_ rfl<|a_ rfl<|nt<|rc ?_
   cases osi hF
   exact rs Tryz.results102 (.tm rfl (.tm rfl .nil)) rfl rfl
  ·intro K eA
   refine bs yA fun bA cA yA=>bs yA fun gA qA yA=>sr<|m_ rfl<|mb rfl<|ov (OpV.slL cA Tryz.underlying22 sz5 rfl rdV rfl) rfl<|oN Tryz.underlying22 rfl<|m_ rfl<|nt<|bk<|lp qA () (fun hA vA=>[(0,.val K7 a0),(6,.raw (.int .i64 (orI .i64 (shlI .i64 (IntKind.wrap .i64 x1) 8) (IntKind.wrap .i64 x3)))),(26,.val K7 bA),(27,.raw (.int .i64 (bA.length:Int))),(28,.raw (.int .i64 hA))]) (fun hA vA=>L) rfl rfl fun hA vA mA xA oA=>?_
   refine sr<|b_ rfl<|nt<|sq<|it xA rfl (fun xA=>?_) (fun xA=>?_)
   ·refine bs xA fun nA rA xA=>ct<|sq<|bk<|sr<|oS rA Tryz.underlying22 sz5 rfl<|oI kt5 rfl<|a_ rfl<|ns<|mb rfl<|nt<|it xA rfl (fun xA=>?_) (fun xA=>?_)
    ·refine sr<|a_ rfl<|a_ rfl<|nt<|rc<|Under.bR<|tr ?_
     cases aj xA oA
     refine tr<|Under.bR<|tr ?_
     cases osi yA
     refine tV (K:=kSl K10) (x:=[]) (t:=4) rfl rdN ?_
     cases osi hF
     exact rs Tryz.results102 (.tm rfl (.tm rfl .nil)) rfl rfl
    ·exact cs<|bN<|tn<|rg<|b_ rfl<|m_ rfl<|nl<|nx () xA rfl rfl
   ·refine xt<|te ?_
    cases aj xA oA
    exact te<|bh<|tn<|wr (eA () (osi yA).symm) rfl
noncomputable def ft (a0:List Int) (a1:Int) (a2:List Int):Option (List Int):=
 bif mkB 320 320 then
 bif decide ((0:Int)≤a1∧(a1:Int)≤((over (List.replicate (Int.toNat 320) (0:Int)) 0 (List.length (List.replicate (Int.toNat 320) (0:Int))) a2).length:Int)∧(((over (List.replicate (Int.toNat 320) (0:Int)) 0 (List.length (List.replicate (Int.toNat 320) (0:Int))) a2).length:Int):Int)≤((over (List.replicate (Int.toNat 320) (0:Int)) 0 (List.length (List.replicate (Int.toNat 320) (0:Int))) a2).length:Int)) then
 bif decide ((Int.toNat a1)≤(Int.toNat ((over (List.replicate (Int.toNat 320) (0:Int)) 0 (List.length (List.replicate (Int.toNat 320) (0:Int))) a2).length:Int))∧(Int.toNat ((over (List.replicate (Int.toNat 320) (0:Int)) 0 (List.length (List.replicate (Int.toNat 320) (0:Int))) a2).length:Int))≤(List.length (over (List.replicate (Int.toNat 320) (0:Int)) 0 (List.length (List.replicate (Int.toNat 320) (0:Int))) a2))) then
 some (over (over (List.replicate (Int.toNat 320) (0:Int)) 0 (List.length (List.replicate (Int.toNat 320) (0:Int))) a2) (Int.toNat a1) (Int.toNat ((over (List.replicate (Int.toNat 320) (0:Int)) 0 (List.length (List.replicate (Int.toNat 320) (0:Int))) a2).length:Int)) a0)
 else none
 else none
 else none
theorem o66 {a0:List Int} {a1:Int} {a2:List Int} {r0:(List Int)} (hF:ft a0 a1 a2=some r0) (L:List Res):Ok Tryz.prog 135 [SV.val K7 a0,SV.raw (.int .i64 a1),SV.val K7 a2] L (SV.val K7 r0) L:=by
 unfold ft at hF
 refine okI 18 Tryz.func135 rfl rfl rfl fun F0=>?_
 refine gs hF fun h2 hF=>gs hF fun h4 hF=>sr<|a_ rfl<|ns<|Under.mk h2 Tryz.underlying22 AT5 rfl rfl rfl fun v1=>a_ rfl<|ns<|m_ rfl<|m_ rfl<|Under.cpW Tryz.underlying22 sz5k rfl rfl (.sl rdV) rfl<|ns<|m_ rfl<|m_ rfl ?_
 replace h4:(0:Int)≤a1∧(a1:Int)≤((over (List.replicate (Int.toNat 320) (0:Int)) 0 (List.length (List.replicate (Int.toNat 320) (0:Int))) a2).length:Int)∧(((over (List.replicate (Int.toNat 320) (0:Int)) 0 (List.length (List.replicate (Int.toNat 320) (0:Int))) a2).length:Int):Int)≤((over (List.replicate (Int.toNat 320) (0:Int)) 0 (List.length (List.replicate (Int.toNat 320) (0:Int))) a2).length:Int):=of_decide_eq_true h4
 refine gs hF fun h5 hF=>Under.slO (l:=a1) (h:=((over (List.replicate (Int.toNat 320) (0:Int)) 0 (List.length (List.replicate (Int.toNat 320) (0:Int))) a2).length:Int)) Tryz.underlying22 sz5k rfl rfl rfl (And.left h4) (And.left (And.right h4)) (And.right (And.right h4)) rfl<|m_ rfl ?_
 replace h5:(Int.toNat a1)≤(Int.toNat ((over (List.replicate (Int.toNat 320) (0:Int)) 0 (List.length (List.replicate (Int.toNat 320) (0:Int))) a2).length:Int))∧(Int.toNat ((over (List.replicate (Int.toNat 320) (0:Int)) 0 (List.length (List.replicate (Int.toNat 320) (0:Int))) a2).length:Int))≤(List.length (over (List.replicate (Int.toNat 320) (0:Int)) 0 (List.length (List.replicate (Int.toNat 320) (0:Int))) a2)):=of_decide_eq_true h5
 refine Under.cpO (And.left h5) (And.right h5) Tryz.underlying22 sz5k rfl rfl (.sl rdV) rfl<|nl<|fzO (t:=7) rfl<|tn<|sr<|m_ rfl<|a_ rfl<|nt<|rc ?_
 cases osi hF
 exact rs Tryz.results135 (.tm rfl .nil) rfl rfl
noncomputable def fX (a0:List Int):Option ((List Int)×Int):=
 bif decide ((a0.length:Int)>320) then
  some ([],1)
 else
  (ft a0 0 []).bind fun y2=>
  some (y2,0)
theorem o67 {a0:List Int} {r0:((List Int)×Int)} (hF:fX a0=some r0) (L:List Res):Ok Tryz.prog 80 [SV.val K7 a0] L (SV.tup [SV.val K7 r0.1,SV.raw (.int .i64 r0.2)]) L:=by
 unfold fX at hF
 refine okI 9 Tryz.func80 rfl rfl rfl fun F0=>?_
 refine sr<|a_ rfl<|a_ rfl<|nt<|sq<|sr<|m_ rfl<|oN Tryz.underlying22 rfl<|b_ rfl<|nt<|it hF rfl (fun hF=>?_) (fun hF=>?_)
 ·refine sr<|a_ rfl<|a_ rfl<|nt<|rt<|tV (K:=kSl K10) (x:=[]) (t:=2) rfl rdN ?_
  cases osi hF
  exact rs Tryz.results80 (.tm rfl (.tm rfl .nil)) rfl rfl
 ·refine bs hF fun y2 h3 hF=>ct<|sr<|m_ rfl<|ca Tryz.call135 rfl rfl (Ok.cv (.sm (.sm (.rd rdN .nil))) (o66 h3 _)) rfl<|a_ rfl<|a_ rfl<|nt<|rc ?_
  cases osi hF
  exact rs Tryz.results80 (.tm rfl (.tm rfl .nil)) rfl rfl
noncomputable def gj (a0:List Int):Option ((List Int)×Int):=
 bif decide ((a0.length:Int)>48) then
  some ([],1)
 else
  (ft a0 2 [1,IntKind.wrap .u8 (a0.length:Int)]).bind fun y2=>
  some (y2,0)
theorem o68 {a0:List Int} {r0:((List Int)×Int)} (hF:gj a0=some r0) (L:List Res):Ok Tryz.prog 105 [SV.val K7 a0] L (SV.tup [SV.val K7 r0.1,SV.raw (.int .i64 r0.2)]) L:=by
 unfold gj at hF
 refine okI 13 Tryz.func105 rfl rfl rfl fun F0=>?_
 refine sr<|a_ rfl<|a_ rfl<|nt<|sq<|sr<|m_ rfl<|oN Tryz.underlying22 rfl<|b_ rfl<|nt<|it hF rfl (fun hF=>?_) (fun hF=>?_)
 ·refine sr<|a_ rfl<|a_ rfl<|nt<|rt<|tV (K:=kSl K10) (x:=[]) (t:=2) rfl rdN ?_
  cases osi hF
  exact rs Tryz.results105 (.tm rfl (.tm rfl .nil)) rfl rfl
 ·refine bs hF fun y2 h3 hF=>ct<|sr<|m_ rfl<|m_ rfl<|oN Tryz.underlying22 rfl<|oC (by kernel_rfl) Tryz.underlying5 rfl<|bF (ys:=[1,IntKind.wrap .u8 (a0.length:Int)]) Tryz.underlying22 ET5 (BldA.cons rfl rfl rdI (BldA.cons rfl rfl rdI (BldA.nil _))) rfl rfl<|cx Tryz.call135 rfl (o66 h3 _)<|a_ rfl<|a_ rfl<|nt<|rc ?_
  cases osi hF
  exact rs Tryz.results105 (.tm rfl (.tm rfl .nil)) rfl rfl
noncomputable def eS (a0:List Int) (a1:Int) (a2:List Int):Option (au×Int):=
 ((bif (a0.length:Int) != 32 then
  some true
 else
  (cK a1).bind fun y5=>
  some (y5==0)
  :Option Bool)).bind fun x4=>
 bif x4 then
  some ((⟨[],(List.replicate 16 (0:Int))⟩:au),2)
 else
  (cK a1).bind fun y8=>
  (fW a2 y8).bind fun xA=>
  bif xA.2 != 0 then
   some ((⟨[],(List.replicate 16 (0:Int))⟩:au),xA.2)
  else
   bif decide (16≤xA.1.length) then
   (eu a0 (List.take 16 xA.1)).bind fun yA=>
   bif yA.2 != 0 then
    some ((⟨[],(List.replicate 16 (0:Int))⟩:au),yA.2)
   else
    (sub xA.1 32 (xA.1.length:Int)).bind fun bA=>
    (sub xA.1 16 32).bind fun dA=>
    (ey yA.1 a1 (List.take 16 xA.1) bA).bind fun eA=>
    (iq dA eA).bind fun cA=>
    bif !cA then
     some ((⟨[],(List.replicate 16 (0:Int))⟩:au),70)
    else
     (eR yA.1.Box (List.replicate 16 (0:Int)) bA).bind fun qA=>
     (fq qA a1).bind fun zA=>
     bif !zA.2 then
      some ((⟨[],(List.replicate 16 (0:Int))⟩:au),71)
     else
      (sub xA.1 0 32).bind fun rA=>
      (f8 yA.1.Replay rA).bind fun hA=>
      bif decide (16≤hA.length) then
      ((bif decide (a1>1) then
       (fX zA.1).bind fun vA=>
       some (vA.2,({(⟨[],List.take 16 hA⟩:au) with Cell:=vA.1}:au))
      else
       (gj zA.1).bind fun oA=>
       some (oA.2,({(⟨[],List.take 16 hA⟩:au) with Cell:=oA.1}:au))
       :Option (Int×au))).bind fun wA=>match wA with
       |(kA,gA)=>
        bif kA != 0 then
         some ((⟨[],(List.replicate 16 (0:Int))⟩:au),kA)
        else
         some (gA,0)
      else none
   else none
theorem o69 {a0:List Int} {a1:Int} {a2:List Int} {r0:(au×Int)} (hF:eS a0 a1 a2=some r0) (L:List Res):Ok Tryz.prog 49 [SV.val K7 a0,SV.raw (.int .i64 a1),SV.val K7 a2] L (SV.tup [SV.val aR r0.1,SV.raw (.int .i64 r0.2)]) L:=by
 unfold eS at hF
 refine okI 103 Tryz.func49 rfl rfl rfl fun F0=>?_
 refine bs hF fun x4 h3 hF=>sr<|al ZT66 rfl fun b1=>a_ rfl<|nt<|sq<|sr<|m_ rfl<|oN Tryz.underlying22 rfl<|b_ rfl<|m_ rfl<|cq 24 x4 ?_ (fun k=>?_)
 ·refine nt<|it hF rfl (fun hF=>?_) (fun hF=>?_)
  ·refine sr<|ov (OpV.bst BT66 (Bld.nil _)) rfl<|sP (x':=(⟨[],(List.replicate 16 (0:Int))⟩:au)) .box .id sz66k rfl rfl rdV rfl<|a_ rfl<|nl<|fz (t:=6) rfl<|tn<|rt ?_
   cases osi hF
   exact rs Tryz.results49 (.ce rfl kt66 (.tm rfl .nil)) rfl rfl
  ·refine bs hF fun y8 h9 hF=>bs hF fun kA eA hF=>ct<|sr<|m_ rfl<|m_ rfl<|cx Tryz.call79 rfl (o41 h9 _)<|cx Tryz.call98 rfl (o43 eA _)<|m_ rfl<|oE rfl<|oE rfl<|a_ rfl<|a_ rfl<|nt<|sq<|sr<|mb rfl<|nt<|it hF rfl (fun hF=>?_) (fun hF=>?_)
   ·refine sr<|ov (OpV.bst BT66 (Bld.nil _)) rfl<|m_ rfl<|sP (x':=(⟨[],(List.replicate 16 (0:Int))⟩:au)) .box .id sz66k rfl rfl rdV rfl<|a_ rfl<|nl<|fz (t:=6) rfl<|tn<|rt ?_
    cases osi hF
    exact rs Tryz.results49 (.ce rfl kt66 (.tm rfl .nil)) rfl rfl
   ·refine gs hF fun cA hF=>bs hF fun hA qA hF=>ct<|sr<|m_ rfl<|ov (OpV.s2a (of_decide_eq_true cA) rfl Tryz.underlying64 rfl rdV) rfl<|oL kt64 rfl<|al ZT64 rfl fun dB=>sP (x':=List.take 16 kA.1) .box .id sz64k rfl rfl rdV rfl<|nl<|fz (t:=10) rfl<|tn<|sr<|m_ rfl<|oL kt64 rfl<|cx Tryz.call99 rfl (o44 qA _)<|m_ rfl<|oE rfl<|oE rfl<|al ZT181 rfl fun eB=>sP (x':=hA.1) .box .id sz181k rfl rfl rdV rfl<|a_ rfl<|nl<|fz (t:=11) rfl<|tn<|sq<|sr<|mb rfl<|nt<|it hF rfl (fun hF=>?_) (fun hF=>?_)
    ·refine sr<|ov (OpV.bst BT66 (Bld.nil _)) rfl<|m_ rfl<|sP (x':=(⟨[],(List.replicate 16 (0:Int))⟩:au)) .box .id sz66k rfl rfl rdV rfl<|a_ rfl<|nl<|fz (t:=6) rfl<|tn<|rt ?_
     cases osi hF
     exact rs Tryz.results49 (.ce rfl kt66 (.tm rfl .nil)) rfl rfl
    ·refine bs hF fun cB rA hF=>bs hF fun qB wA hF=>bs hF fun rB gA hF=>bs hF fun wB mA hF=>ct<|sr<|m_ rfl<|ov (OpV.slL rA Tryz.underlying22 sz5 rfl rdV rfl) rfl<|a_ rfl<|nt<|sq<|sq<|ph rfl<|gV [0,1,2,3,4,5,6] [[8],[52],[11],[1],[10],[12],[54,55,56,57]] 1 (by kernel_rfl) rfl<|vm_ rfl<|vo (fun _=>OpV.slLH wA Tryz.underlying22 sz5 rfl rdV rfl rfl) rfl<|vo (fun _=>OpV.ld kt181 rfl) rfl<|vm_ rfl<|vo (fun _=>OpV.ld kt64 rfl) rfl<|vm_ rfl<|Vq.v (fun G T hG=>cx Tryz.call101 rfl (o45 gA _)<|Vq.end rfl)<|vn<|p1 7 rfl rfl<|cx Tryz.call100 rfl (o46 mA _)<|pn<|p1 8 rfl rfl<|ov (OpV.not rfl) rfl<|pn<|pd rfl<|tn<|it hF rfl (fun hF=>?_) (fun hF=>?_)
     ·refine sr<|ov (OpV.bst BT66 (Bld.nil _)) rfl<|sP (x':=(⟨[],(List.replicate 16 (0:Int))⟩:au)) .box .id sz66k rfl rfl rdV rfl<|a_ rfl<|nl<|fz (t:=6) rfl<|tn<|rt ?_
      cases osi hF
      exact rs Tryz.results49 (.ce rfl kt66 (.tm rfl .nil)) rfl rfl
     ·refine bs hF fun gB nA hF=>bs hF fun mB pA hF=>ct<|sr<|oF fb181k1 rfl<|oL kt64 rfl<|ov (OpV.bar (ys:=(List.replicate 16 (0:Int))) BTA64 (BldA.nil _)) rfl<|m_ rfl<|cx Tryz.call103 rfl (o63 nA _)<|m_ rfl<|cx Tryz.call102 rfl (o65 pA _)<|m_ rfl<|oE rfl<|oE rfl<|a_ rfl<|a_ rfl<|nt<|sq<|sr<|m_ rfl<|ov (OpV.not rfl) rfl<|nt<|it hF rfl (fun hF=>?_) (fun hF=>?_)
      ·refine sr<|ov (OpV.bst BT66 (Bld.nil _)) rfl<|sP (x':=(⟨[],(List.replicate 16 (0:Int))⟩:au)) .box .id sz66k rfl rfl rdV rfl<|a_ rfl<|nl<|fz (t:=6) rfl<|tn<|rt ?_
       cases osi hF
       exact rs Tryz.results49 (.ce rfl kt66 (.tm rfl .nil)) rfl rfl
      ·refine bs hF fun tA uA hF=>bs hF fun yA xB hF=>ct<|sq<|ph rfl<|Under.grpT (L:=L) [0,1,2,3,4,5] [[11],[75],[8],[77],[76,78],[]] [⟨sk0 (.ptr K4 hA.1.Replay),[],[],[]⟩,⟨sk0 (.val K7 hA.1.Replay),[],[],[]⟩,⟨sk0 (.val K7 kA.1),[],[],[]⟩,⟨sk0 (.val K7 tA),[],[],[]⟩,⟨sk0 (.val K4 yA),[],[],[]⟩,⟨sk1 5 (fun u5=> .raw (.pointer (some ⟨(vblk u5),0,none⟩))),[],[(0,tk1 5 (fun u5=> .box K4 (vblk u5) 179 (List.replicate 32 (0:Int))))],[]⟩] [] (fun T:List Res=>(.box aR b1 66 (⟨[],(List.replicate 16 (0:Int))⟩:au))::T) lf1 rfl (by kernel_rfl) rfl rfl (fun F hF0 bA=>?_)
       refine Tq.v (fun G T hG=>?_) ?_
       ·exact oF fb181k2 rfl<|Tq.end undef rfl rfl
       refine Tq.v (fun G T hG=>?_) ?_
       ·exact ov (OpV.slA Tryz.underlying179 sz5 rfl) rfl<|Tq.end undef rfl rfl
       refine Tq.v (fun G T hG=>?_) ?_
       ·exact m_ rfl<|Tq.end undef rfl rfl
       refine Tq.v (fun G T hG=>?_) ?_
       ·exact ov (OpV.slH uA Tryz.underlying22 sz5 rfl rdV rfl) rfl<|Tq.end undef rfl rfl
       refine Tq.v (fun G T hG=>?_) ?_
       ·exact cx Tryz.call104 rfl (o36 xB _)<|Tq.end undef rfl rfl
       refine Tq.st (.raw (.pointer (some ⟨(vblk (bA 5)),0,none⟩))) [] rfl rfl (fun G T hG=>?_) ?_
       ·exact al ZT179 rfl fun yB=>Tq.end (.pointer (some ⟨yB,0,none⟩)) rfl rfl
       refine gs hF fun zB hF=>bs hF fun hB xA hF=>Tq.nil<|Under.le hF0<|p1 6 rfl rfl<|f1<|sP (x':=yA) .box .id sz179k rfl rfl rdV rfl<|pn<|pd rfl<|fz (t:=15) rfl<|tn<|sr<|ov (OpV.slA Tryz.underlying179 sz5 rfl) rfl<|ov (OpV.s2a (of_decide_eq_true zB) rfl Tryz.underlying64 rfl rdV) rfl<|oL kt64 rfl<|ov (OpV.bst BT66 (Bld.cons (x':=(⟨[],List.take 16 yA⟩:au)) rfl rfl rdV ⟨rfl,(fun q hq=>by simp at hq)⟩ (Bld.nil _))) rfl<|al ZT66 rfl fun nB=>sP (x':=(⟨[],List.take 16 yA⟩:au)) .box .id sz66k rfl rfl rdV rfl<|nt<|sq<|Under.after (fun X=>∀(vA:Int) (zA:au),hB=(vA,zA)→Under F0 103 [(6,pb b1),(9,.raw (.int .i64 vA)),(16,.ptr aR zA)] ((.box aR b1 66 (⟨[],(List.replicate 16 (0:Int))⟩:au))::L) X) ?_ ?_
       ·intro vA zA oA
        replace oA:=oA.symm
        subst oA
        refine sq<|sr<|mb rfl<|nt<|it hF rfl (fun hF=>?_) (fun hF=>?_)
        ·refine sr<|ov (OpV.bst BT66 (Bld.nil _)) rfl<|m_ rfl<|sP (x':=(⟨[],(List.replicate 16 (0:Int))⟩:au)) .box .id sz66k rfl rfl rdV rfl<|a_ rfl<|nl<|fz (t:=6) rfl<|tn<|rt ?_
         cases osi hF
         exact rs Tryz.results49 (.ce rfl kt66 (.tm rfl .nil)) rfl rfl
        ·refine ct<|sr<|oL kt66 rfl<|sP (x':=zA) .box .id sz66k rfl rfl rdV rfl<|a_ rfl<|nl<|fz (t:=6) rfl<|tn<|rc ?_
         cases osi hF
         exact rs Tryz.results49 (.ce rfl kt66 (.tm rfl .nil)) rfl rfl
       ·intro K dA
        refine sr<|mb rfl<|nt<|it xA rfl (fun xA=>?_) (fun xA=>?_)
        ·exact bs xA fun bB vB xA=>rg<|m_ rfl<|cx Tryz.call80 rfl (o67 vB _)<|m_ rfl<|oE rfl<|oE rfl<|oM vF rfl<|sP (x':=({(⟨[],List.take 16 yA⟩:au) with Cell:=bB.1}:au)) .box (.fld .id kn) sz22k1 rfl rfl rdV rfl<|a_ rfl<|nl<|fz (t:=16) rfl<|tn<|wr (dA _ _ (osi xA).symm) rfl
        ·exact bs xA fun oB kB xA=>rg<|m_ rfl<|cx Tryz.call105 rfl (o68 kB _)<|m_ rfl<|oE rfl<|oE rfl<|oM vF rfl<|sP (x':=({(⟨[],List.take 16 yA⟩:au) with Cell:=oB.1}:au)) .box (.fld .id kn) sz22k1 rfl rfl rdV rfl<|a_ rfl<|nl<|fz (t:=16) rfl<|tn<|wr (dA _ _ (osi xA).symm) rfl
 ·refine by_ (t:=20) rfl (fun c2=>?_) (fun c2=>?_)
  ·replace h3:=ctrue c2 h3
   exact sk_ c2 rfl<|sk_ c2 rfl<|sk_ c2 rfl<|pT c2 rfl<|rf 3 (rbq h3) rfl k
  ·replace h3:=cfalse c2 h3
   exact bs h3 fun y5 h6 h3=>gc_ c2 rfl<|m_ rfl<|gc_ c2 rfl<|cx Tryz.call79 rfl (o41 h6 _)<|gc_ c2 rfl<|b_ rfl<|pF c2 rfl<|rf 3 (rbq h3) rfl k
noncomputable def i9 (a0:List (List Int)) (a1:List Int):Option Int:=
 (((Loop.run (S := Int) (R := (Unit ⊕ Int)) (fun xA =>
   bif decide (xA<(a0.length:Int)) then
    (idx a0 xA).bind fun yA=>
    bif a1==yA then
     some (.done (.inr xA))
    else
     some (.next (IntKind.wrap .i64 (xA+1)))
   else
    some (.done (.inl ()))) 0).bind fun zA=>match zA with
  | .inl _=>
   some (.inr ())
  | .inr z=>
   some (.inl z)
  : Option (Int ⊕ Unit))).bind fun hA => match hA with
  | .inl z=>
   some z
  | .inr _=>
   some (-1)
theorem o70 {a0:List (List Int)} {a1:List Int} {r0:Int} (hF:i9 a0 a1=some r0) (L:List Res):Ok Tryz.prog 137 [SV.val K0 a0,SV.val K2 a1] L (SV.raw (.int .i64 r0)) L:=by
 unfold i9 at hF
 refine okI 19 Tryz.func137 rfl rfl rfl fun F0=>?_
 refine bs hF fun oA yA hF=>sr<|bX (K:=kArr 16 K10) rfl rdV rfl<|a_ rfl<|nt<|sq<|Under.after (fun X=>∀(_:Unit),oA=(.inr ())→Under F0 19 [] (L) X) ?_ ?_
 ·intro _ zA
  replace zA:=zA.symm
  subst zA
  refine sr<|a_ rfl<|nt<|rc ?_
  cases osi hF
  exact rs Tryz.results137 (.tm rfl .nil) rfl rfl
 ·intro K kA
  refine bs yA fun cA dA yA=>sr<|m_ rfl<|oN Tryz.underlying85 rfl<|m_ rfl<|nt<|bk<|lp dA () (fun hA bA=>[(0,.val K0 a0),(3,.ptr K2 a1),(7,.raw (.int .i64 (a0.length:Int))),(8,.raw (.int .i64 hA))]) (fun hA bA=>L) rfl rfl fun hA bA qA xA vA=>?_
  refine sr<|b_ rfl<|nt<|sq<|it xA rfl (fun xA=>?_) (fun xA=>?_)
  ·refine bs xA fun rA eA xA=>ct<|sq<|bk<|sr<|m_ rfl<|a_ rfl<|nt<|sq<|dw rfl (by kernel_rfl) fun F hF0=>oq (OpV.ld kt64 rfl) rfl<|mvq rfl rfl<|mvq rfl rfl<|oq (OpV.ixS eA Tryz.underlying85 sz64 rfl rdV rfl) rfl<|oq (OpV.ld kt64 rfl) rfl<|oq (OpV.eqK eqk64 eqg64 rfl rfl rfl rdV rfl rdV) rfl<|nlq hF0<|tn<|it xA rfl (fun xA=>?_) (fun xA=>?_)
   ·refine sr<|m_ rfl<|a_ rfl<|nt<|rc<|Under.bR<|tr ?_
    cases aj xA vA
    refine tr<|Under.bR<|tr ?_
    cases osi yA
    cases osi hF
    exact rs Tryz.results137 (.tm rfl .nil) rfl rfl
   ·exact cs<|bN<|tn<|rg<|b_ rfl<|m_ rfl<|nl<|nx () xA rfl rfl
  ·refine xt<|te ?_
   cases aj xA vA
   exact te<|bh<|tn<|wr (kA () (osi yA).symm) rfl
noncomputable def gl (a0:List (List Int)) (a1:List Int):Option Bool:=
 (i9 a0 a1).bind fun y1=>
 some (decide (y1≥0))
theorem o71 {a0:List (List Int)} {a1:List Int} {r0:Bool} (hF:gl a0 a1=some r0) (L:List Res):Ok Tryz.prog 84 [SV.val K0 a0,SV.val K2 a1] L (SV.raw (.bool r0)) L:=by
 unfold gl at hF
 refine okI 9 Tryz.func84 rfl rfl rfl fun F0=>?_
 refine bs hF fun y1 h2 hF=>sr<|bX (K:=kArr 16 K10) rfl rdV rfl<|a_ rfl<|ns<|m_ rfl<|oL kt64 rfl<|cx Tryz.call137 rfl (o70 h2 _)<|b_ rfl<|a_ rfl<|nt<|rc ?_
 cases osi hF
 exact rs Tryz.results84 (.tm rfl .nil) rfl rfl
noncomputable def ja (a0:ak) (a1:List Int):Option Bool:=
 (gl a0.Tags a1).bind fun y1=>
 some y1
theorem o72 {a0:ak} {a1:List Int} {r0:Bool} (hF:ja a0 a1=some r0) (L:List Res):Ok Tryz.prog 83 [SV.val aO a0,SV.ptr K2 a1] L (SV.raw (.bool r0)) L:=by
 unfold ja at hF
 refine okI 8 Tryz.func83 rfl rfl rfl fun F0=>?_
 refine bs hF fun y1 h2 hF=>sr<|bX (K:=aO) rfl rdV rfl<|a_ rfl<|ns<|oF fb152k rfl<|oL kt85 rfl<|oL kt64 rfl<|cx Tryz.call84 rfl (o71 h2 _)<|a_ rfl<|nt<|rc ?_
 cases osi hF
 exact rs Tryz.results83 (.tm rfl .nil) rfl rfl
noncomputable def cX (a0:List ak) (a1:List Int):Option Int:=
 (((Loop.run (S := Int) (R := (Unit ⊕ Int)) (fun xA =>
   bif decide (xA<(a0.length:Int)) then
    (idx a0 xA).bind fun yA=>
    (ja yA a1).bind fun zA=>
    bif zA then
     some (.done (.inr xA))
    else
     some (.next (IntKind.wrap .i64 (xA+1)))
   else
    some (.done (.inl ()))) 0).bind fun hA=>match hA with
  | .inl _=>
   some (.inr ())
  | .inr z=>
   some (.inl z)
  : Option (Int ⊕ Unit))).bind fun bA => match bA with
  | .inl z=>
   some z
  | .inr _=>
   some (-1)
theorem o73 {a0:List ak} {a1:List Int} {r0:Int} (hF:cX a0 a1=some r0) (L:List Res):Ok Tryz.prog 136 [SV.val (kSl aO) a0,SV.fn 83 [.ptr K2 a1]] L (SV.raw (.int .i64 r0)) L:=by
 unfold cX at hF
 refine okI 19 Tryz.func136 rfl rfl rfl fun F0=>?_
 refine bs hF fun oA yA hF=>sr<|a_ rfl<|nt<|sq<|Under.after (fun X=>∀(_:Unit),oA=(.inr ())→Under F0 19 [] (L) X) ?_ ?_
 ·intro _ zA
  replace zA:=zA.symm
  subst zA
  refine sr<|a_ rfl<|nt<|rc ?_
  cases osi hF
  exact rs Tryz.results136 (.tm rfl .nil) rfl rfl
 ·intro K kA
  refine bs yA fun qA dA yA=>sr<|m_ rfl<|oN Tryz.underlying25 rfl<|m_ rfl<|nt<|bk<|lp dA () (fun hA bA=>[(0,.val (kSl aO) a0),(1,.fn 83 [.ptr K2 a1]),(7,.raw (.int .i64 (a0.length:Int))),(8,.raw (.int .i64 hA))]) (fun hA bA=>L) rfl rfl fun hA bA rA xA vA=>?_
  refine sr<|b_ rfl<|nt<|sq<|it xA rfl (fun xA=>?_) (fun xA=>?_)
  ·refine bs xA fun wA eA xA=>bs xA fun gA cA xA=>ct<|sq<|bk<|sr<|m_ rfl<|a_ rfl<|ns<|m_ rfl<|m_ rfl<|m_ rfl<|oS eA Tryz.underlying25 sz152 rfl<|oL kt152 rfl<|Under.callC Tryz.call83 rfl rfl (o72 cA _) rfl<|nt<|it xA rfl (fun xA=>?_) (fun xA=>?_)
   ·refine sr<|m_ rfl<|a_ rfl<|nt<|rc<|Under.bR<|tr ?_
    cases aj xA vA
    refine tr<|Under.bR<|tr ?_
    cases osi yA
    cases osi hF
    exact rs Tryz.results136 (.tm rfl .nil) rfl rfl
   ·exact cs<|bN<|tn<|rg<|b_ rfl<|m_ rfl<|nl<|nx () xA rfl rfl
  ·refine xt<|te ?_
   cases aj xA vA
   exact te<|bh<|tn<|wr (kA () (osi yA).symm) rfl
noncomputable def cN (a0:List ak) (a1:List Int):Option Bool:=
 (cX a0 a1).bind fun y1=>
 some (decide (y1≥0))
theorem o74 {a0:List ak} {a1:List Int} {r0:Bool} (hF:cN a0 a1=some r0) (L:List Res):Ok Tryz.prog 82 [SV.val (kSl aO) a0,SV.fn 83 [.ptr K2 a1]] L (SV.raw (.bool r0)) L:=by
 unfold cN at hF
 refine okI 9 Tryz.func82 rfl rfl rfl fun F0=>?_
 refine bs hF fun y1 h2 hF=>sr<|a_ rfl<|ns<|m_ rfl<|m_ rfl<|cx Tryz.call136 rfl (o73 h2 _)<|b_ rfl<|a_ rfl<|nt<|rc ?_
 cases osi hF
 exact rs Tryz.results82 (.tm rfl .nil) rfl rfl
noncomputable def iN (a0:ab) (a1:List Int):Option Bool:=
 (cN a0.Epochs a1).bind fun y1=>
 some y1
theorem o75 {a0:ab} {a1:List Int} {r0:Bool} (hF:iN a0 a1=some r0) (L:List Res):Ok Tryz.prog 28 [SV.val ah a0,SV.val K2 a1] L (SV.raw (.bool r0)) L:=by
 unfold iN at hF
 refine okI 9 Tryz.func28 rfl rfl rfl fun F0=>?_
 refine bs hF fun y1 h2 hF=>sr<|bX (K:=ah) rfl rdV rfl<|bX (K:=kArr 16 K10) rfl rdV rfl<|a_ rfl<|ns<|oF fb27k1 rfl<|oL kt25 rfl<|ov (OpV.mkf rfl) rfl<|cx Tryz.call82 rfl (o74 h2 _)<|a_ rfl<|nt<|rc ?_
 cases osi hF
 exact rs Tryz.results28 (.tm rfl .nil) rfl rfl
noncomputable def jV (a0:aA) (a1:ab) (a2:aG):Option ((List au)×ai×Int):=
 (eY a0).bind fun y2=>
 bif !y2 then
  some ([],(⟨(0:Int),(0:Int),(0:Int),(0:Int),(0:Int)⟩:ai),210)
 else
  (eL a0.Master a2.Header.Epoch).bind fun y5=>
  bif y5.2 != 0 then
   some ([],(⟨(0:Int),(0:Int),(0:Int),(0:Int),(0:Int)⟩:ai),y5.2)
  else
   (((Loop.run (S:=((List au)×Int×ai×(List ((List Int)×Int)))) (R:=(ai×(List au))) (fun(hA,bA,yA,zA)=>
     bif decide (bA<(a2.Cells.length:Int)) then
      (((idx a2.Cells bA).bind fun vA=>
      (eS y5.1 a0.Left vA).bind fun xA=>
      ((bif xA.2 != 0 then
       some (.inl ())
      else
       ((bif decide ((cT xA.1.Replay zA (0:Int))>0) then
        some true
       else
        (iN a1 xA.1.Replay).bind fun oA=>
        some oA
        :Option Bool)).bind fun kA=>
       bif kA then
        some (.inr (hA,({yA with Replays:=IntKind.wrap .i64 (yA.Replays+1)}:ai)))
       else
        (app hA [xA.1]).bind fun dA=>
        some (.inr (dA,yA))
       : Option (Unit ⊕ ((List au) × ai)))).bind fun eA => match eA with
       | .inl _=>
        some (hA,({yA with Malformed:=IntKind.wrap .i64 (yA.Malformed+1)}:ai),zA)
       | .inr (cA,qA)=>
        some (cA,qA,mset xA.1.Replay (IntKind.wrap .i64 ((cT xA.1.Replay zA (0:Int))+1)) (mset xA.1.Replay (cT xA.1.Replay zA (0:Int)) zA))
       :Option ((List au)×ai×(List ((List Int)×Int))))).bind fun rA=>match rA with
       |(wA,gA,mA)=>
        some (.next (wA,IntKind.wrap .i64 (bA+1),gA,mA))
     else
      some (.done (yA,hA))) ([],0,(⟨(a2.Cells.length:Int),(0:Int),(0:Int),(0:Int),(0:Int)⟩:ai),[])).bind fun nA=>match nA with
    |(pA,tA)=>
     some (pA,tA)
    :Option (ai×(List au)))).bind fun uA=>match uA with
    |(xB,yB)=>
     some (yB,xB,0)
theorem o76 {a0:aA} {a1:ab} {a2:aG} {r0:((List au)×ai×Int)} (hF:jV a0 a1 a2=some r0) (L:List Res):Ok Tryz.prog 26 [SV.val aH a0,SV.val ah a1,SV.val aV a2] L (SV.tup [SV.val (kSl aR) r0.1,SV.val bU r0.2.1,SV.raw (.int .i64 r0.2.2)]) L:=by
 unfold jV at hF
 refine okI 92 Tryz.func26 rfl rfl rfl fun F0=>?_
 refine bs hF fun y2 h3 hF=>sr<|bX (K:=aH) rfl rdV rfl<|bX (K:=ah) rfl rdV rfl<|bX (K:=aV) rfl rdV rfl<|a_ rfl<|al ZT34 rfl fun b1=>a_ rfl<|nt<|sq<|sr<|oL kt24 rfl<|cx Tryz.call72 rfl (o2 h3 _)<|ov (OpV.not rfl) rfl<|nt<|it hF rfl (fun hF=>?_) (fun hF=>?_)
 ·refine sr<|ov (OpV.bst BT34 (Bld.nil _)) rfl<|a_ rfl<|sP (x':=(⟨(0:Int),(0:Int),(0:Int),(0:Int),(0:Int)⟩:ai)) .box .id sz34k rfl rfl rdV rfl<|a_ rfl<|nl<|fz (t:=7) rfl<|tn<|rt<|tV (K:=kSl aR) (x:=[]) (t:=6) rfl rdN ?_
  cases osi hF
  exact rs Tryz.results26 (.tm rfl (.ce rfl kt34 (.tm rfl .nil))) rfl rfl
 ·refine bs hF fun y5 h6 hF=>ct<|sr<|oF fb24k rfl<|oL kt22 rfl<|oF fb46k rfl<|oF fb43k2 rfl<|oI kt2 rfl<|cx Tryz.call48 rfl (o40 h6 _)<|m_ rfl<|oE rfl<|oE rfl<|a_ rfl<|a_ rfl<|nt<|sq<|sr<|mb rfl<|nt<|it hF rfl (fun hF=>?_) (fun hF=>?_)
  ·refine sr<|ov (OpV.bst BT34 (Bld.nil _)) rfl<|m_ rfl<|a_ rfl<|sP (x':=(⟨(0:Int),(0:Int),(0:Int),(0:Int),(0:Int)⟩:ai)) .box .id sz34k rfl rfl rdV rfl<|a_ rfl<|nl<|fz (t:=7) rfl<|tn<|rt<|tV (K:=kSl aR) (x:=[]) (t:=6) rfl rdN ?_
   cases osi hF
   exact rs Tryz.results26 (.tm rfl (.ce rfl kt34 (.tm rfl .nil))) rfl rfl
  ·refine bs hF fun kB nA hF=>ct<|sr<|oF fb46k1 rfl<|oL kt44 rfl<|oN Tryz.underlying44 rfl<|ov (OpV.bst BT34 (Bld.cons (x':=(⟨(a2.Cells.length:Int),(0:Int),(0:Int),(0:Int),(0:Int)⟩:ai)) rfl rfl rdI (by intro q hq;simp only[List.mem_cons,List.not_mem_nil,or_false] at hq;rcases hq with rfl|rfl|rfl|rfl<;>rfl) (Bld.nil _))) rfl<|al ZT34 rfl fun b8=>sP (x':=(⟨(a2.Cells.length:Int),(0:Int),(0:Int),(0:Int),(0:Int)⟩:ai)) .box .id sz34k rfl rfl rdV rfl<|ns<|Under.mkm K2 K8 rfl fun b9=>a_ rfl<|ns<|a_ rfl<|nt<|sq<|Under.after (fun X=>∀(eA:ai) (pA:List au),kB=(eA,pA)→Under F0 92 [(7,pb b1),(11,.ptr bU eA),(13,.val (kSl aR) pA)] ((.box bU b1 34 (⟨(0:Int),(0:Int),(0:Int),(0:Int),(0:Int)⟩:ai))::L) X) ?_ ?_
   ·intro eA pA tA
    replace tA:=tA.symm
    subst tA
    refine sq<|ph rfl<|gV [0,1,2] [[13],[11],[90]] 1 (by kernel_rfl) rfl<|vm_ rfl<|vo (fun _=>OpV.ld kt34 rfl) rfl<|Vq.v (fun G T hG=>a_ rfl<|Vq.end rfl)<|vn<|p1 3 rfl rfl<|sP (x':=eA) .box .id sz34k rfl rfl rdV rfl<|pn<|p1 4 rfl rfl<|a_ rfl<|pn<|pd rfl<|fz (t:=7) rfl<|tn<|rc ?_
    cases osi hF
    exact rs Tryz.results26 (.tm rfl (.ce rfl kt34 (.tm rfl .nil))) rfl rfl
   ·intro K dB
    refine bs nA fun uB eB nA=>sr<|oF fb46k1 rfl<|oL kt44 rfl<|oN Tryz.underlying44 rfl<|m_ rfl<|nt<|bk<|Under.ownNil (K:=aR) (e:=66)<|f1<|f2<|f3<|f3<|lp eB (C:=Value) (.slice none 0 0) (fun kA cA=>[(3,.ptr aH a0),(4,.ptr ah a1),(7,pb b1),(9,.val K7 y5.1),(11,pb b8),(12,.raw (.map (some b9))),(13,.raw cA),(41,.val K1 a2.Cells),(42,.raw (.int .i64 (a2.Cells.length:Int))),(43,.raw (.int .i64 kA.2.1))]) (fun kA cA=>(.own aR cA 66 kA.1)::(.box bU b1 34 (⟨(0:Int),(0:Int),(0:Int),(0:Int),(0:Int)⟩:ai))::(.box bU b8 34 kA.2.2.1)::(.mp K2 K8 b9 kA.2.2.2)::L) rfl rfl fun kA cA xC bA cB=>?_
    obtain⟨yC,bB,qA,yA⟩:=kA
    dsimp only at bA⊢
    refine sr<|b_ rfl<|nt<|sq<|it bA rfl (fun bA=>?_) (fun bA=>?_)
    ·refine bs bA fun qB vA bA=>ct<|sq<|Under.after (fun X=>∀(uA:List au) (xB:ai) (yB:List ((List Int)×Int)) (rA:Value),qB=(uA,xB,yB)→Under F0 92 [(3,.ptr aH a0),(4,.ptr ah a1),(7,pb b1),(9,.val K7 y5.1),(11,pb b8),(12,.raw (.map (some b9))),(13,.raw rA),(41,.val K1 a2.Cells),(42,.raw (.int .i64 (a2.Cells.length:Int))),(43,.raw (.int .i64 bB))] ((.own aR rA 66 uA)::(.box bU b1 34 (⟨(0:Int),(0:Int),(0:Int),(0:Int),(0:Int)⟩:ai))::(.box bU b8 34 xB)::(.mp K2 K8 b9 yB)::L) X) ?_ ?_
     ·intro uA xB yB rA zB
      replace zB:=zB.symm
      subst zB
      exact rg<|b_ rfl<|m_ rfl<|nl<|nx rA bA rfl rfl
     ·intro K vB
      refine bs vA fun zC rB vA=>bs vA fun xA wB vA=>bs vA fun gB zA vA=>bk<|sr<|oS rB Tryz.underlying44 sz22 rfl<|oL kt22 rfl<|a_ rfl<|ns<|m_ rfl<|oF fb24k1 rfl<|oI kt3 rfl<|m_ rfl<|cx Tryz.call49 rfl (o69 wB _)<|m_ rfl<|oE rfl<|oE rfl<|al ZT66 rfl fun hC=>sP (x':=xA.1) .box .id sz66k rfl rfl rdV rfl<|a_ rfl<|nl<|fz (t:=16) rfl<|tn<|sq<|Under.after (fun X=>∀(wA:List au) (gA:ai) (mA:Value),gB=(.inr (wA,gA))→Under F0 92 [(3,.ptr aH a0),(4,.ptr ah a1),(7,pb b1),(9,.val K7 y5.1),(11,pb b8),(12,.raw (.map (some b9))),(13,.raw mA),(16,.ptr aR xA.1),(41,.val K1 a2.Cells),(42,.raw (.int .i64 (a2.Cells.length:Int))),(43,.raw (.int .i64 bB))] ((.own aR mA 66 wA)::(.box bU b1 34 (⟨(0:Int),(0:Int),(0:Int),(0:Int),(0:Int)⟩:ai))::(.box bU b8 34 gA)::(.mp K2 K8 b9 yA)::L) X) ?_ ?_
      ·intro wA gA mA hB
       replace hB:=hB.symm
       subst hB
       refine ph rfl<|Under.grpT (L:=L) [0,1,2,5,3,4,6] [[12],[16],[83],[82,84],[82,84],[85],[87]] [⟨sk0 (.raw (.map (some b9))),[],[],[]⟩,⟨sk0 (.ptr K2 xA.1.Replay),[],[],[]⟩,⟨sk0 (.val K2 xA.1.Replay),[],[],[]⟩,⟨sk1 3 (fun u3=> .tup [.val K8 (cT xA.1.Replay yA (0:Int)),.raw (.int .i64 (ival u3))]),[0],[(1,tk1 3 (fun u3=>mpS K2 K8 b9 (mset xA.1.Replay (cT xA.1.Replay yA (0:Int)) yA) xA.1.Replay (ival u3)))],[]⟩,⟨sk0 (.raw (.int .i64 (cT xA.1.Replay yA (0:Int)))),[],[],[0,1]⟩,⟨sk0 (.raw (.int .i64 (IntKind.wrap .i64 ((cT xA.1.Replay yA (0:Int))+1)))),[],[],[]⟩,⟨sk1 3 (fun u3=> .raw (.int .i64 (ival u3))),[],[],[]⟩] [(0,.mp K2 K8 b9 yA)] (fun T:List Res=>(.own aR mA 66 wA)::(.box bU b1 34 (⟨(0:Int),(0:Int),(0:Int),(0:Int),(0:Int)⟩:ai))::(.box bU b8 34 gA)::T) lf3 rfl (by kernel_rfl) rfl rfl (fun F hF0 dA=>?_)
       refine Tq.v (fun G T hG=>?_) ?_
       ·exact m_ rfl<|Tq.end undef rfl rfl
       refine Tq.v (fun G T hG=>?_) ?_
       ·exact oF fb66k rfl<|Tq.end undef rfl rfl
       refine Tq.v (fun G T hG=>?_) ?_
       ·exact oL kt64 rfl<|Tq.end undef rfl rfl
       refine Tq.st (.tup [.val K8 (cT xA.1.Replay yA (0:Int)),.raw (.int .i64 (ival (dA 3)))]) [.mp K2 K8 b9 yA] rfl rfl (fun G T hG=>?_) ?_
       ·exact Under.mpE (Free.arr Free.int) Free.int key64 Tryz.underlying155 ZV3 rfl rfl rdV rfl fun mB=>Tq.end (.int .i64 mB) rfl rfl
       refine Tq.r2 (.raw (.int .i64 (cT xA.1.Replay yA (0:Int)))) [.mp K2 K8 b9 yA] [mpS K2 K8 b9 (mset xA.1.Replay (cT xA.1.Replay yA (0:Int)) yA) xA.1.Replay (ival (dA 3))] rfl rfl (fun G T hG=>?_) (fun G T hG=>?_) ?_
       ·exact ov (OpV.lkI key64 Tryz.underlying155 ZV3 rfl rfl rdV) rfl<|Tq.end undef rfl rfl
       ·exact ov (OpV.lkS qa key64 Tryz.underlying155 ZV3 rfl rfl rdV) rfl<|Tq.end undef rfl rfl
       refine Tq.v (fun G T hG=>?_) ?_
       ·exact b_ rfl<|Tq.end undef rfl rfl
       refine Tq.st (.raw (.int .i64 (ival (dA 3)))) [] rfl rfl (fun G T hG=>?_) ?_
       ·exact oE rfl<|Tq.end undef rfl rfl
       exact Tq.nil<|Under.le hF0<|p1 7 rfl rfl<|f3<|Under.mpP rfl rfl rfl rdI<|pn<|pd rfl<|bN<|tn<|f3<|f3<|f3<|wr (vB _ _ _ _ (osi vA).symm) rfl
      ·intro K oB
       refine bk<|sr<|mb rfl<|a_ rfl<|nt<|it zA rfl (fun zA=>?_) (fun zA=>?_)
       ·refine sr<|oM vK rfl<|f2<|lP .box (.fld .id ko) kt3k rfl rfl<|rI (t:=63) rfl<|b_ rfl<|oM vK rfl<|sP (x':=({qA with Malformed:=IntKind.wrap .i64 (qA.Malformed+1)}:ai)) .box (.fld .id ko) sz3k rfl rfl rdI rfl<|nt<|xt<|bm rfl ?_
        cases osi zA
        exact te<|bh<|tn<|f3<|f1<|f3<|f3<|wr (vB _ _ _ _ (osi vA).symm) rfl
       ·refine bs zA fun nB oA zA=>sr<|m_ rfl<|oF fb66k rfl<|oL kt64 rfl<|f3<|ov (OpV.lkI key64 Tryz.underlying155 ZV3 rfl rfl rdV) rfl<|b_ rfl<|m_ rfl<|iz 77 nB ?_ (fun k=>?_)
        ·refine a_ rfl<|nt<|it zA rfl (fun zA=>?_) (fun zA=>?_)
         ·exact rg<|oM vL rfl<|f3<|lP .box (.fld .id kp) kt3k rfl rfl<|rI (t:=79) rfl<|b_ rfl<|oM vL rfl<|sP (x':=({qA with Replays:=IntKind.wrap .i64 (qA.Replays+1)}:ai)) .box (.fld .id kp) sz3k rfl rfl rdI rfl<|nl<|bN<|tn<|f3<|f3<|wr (oB _ _ _ (osi zA).symm) rfl
         ·exact bs zA fun bC pB zA=>rg<|m_ rfl<|oL kt66 rfl<|bF (ys:=[xA.1]) Tryz.underlying59 ET66 (BldA.cons rfl rfl rdV (BldA.nil _)) rfl rfl<|f1<|ap pB Tryz.underlying59 AT66 rfl rfl rdV rfl fun vC=>a_ rfl<|nl<|bN<|tn<|f1<|f3<|f3<|f3<|wr (oB _ _ _ (osi zA).symm) rfl
        ·refine by_ (t:=72) rfl (fun hA=>?_) (fun hA=>?_)
         ·replace oA:=ctrue hA oA
          exact sk_ hA rfl<|sk_ hA rfl<|sk_ hA rfl<|sk_ hA rfl<|pT hA rfl<|rf 4 (rbq oA) rfl k
         ·replace oA:=cfalse hA oA
          exact bs oA fun oC tB oA=>gc_ hA rfl<|oL kt27 rfl<|gc_ hA rfl<|oF fb66k rfl<|gc_ hA rfl<|oL kt64 rfl<|gc_ hA rfl<|cx Tryz.call28 rfl (o75 tB _)<|pF hA rfl<|rf 4 (rbq oA) rfl k
    ·refine f2<|fz (t:=11) rfl<|fzO (t:=13) rfl<|f1<|dr<|xt<|te ?_
     cases aj bA cB
     exact te<|bh<|tn<|wr (dB _ _ (osi nA).symm) rfl
noncomputable def gn (a0:List Int):Option (List Int):=
 (app [] a0).bind fun z5=>
 some z5
theorem o77 {a0:List Int} {r0:(List Int)} (hF:gn a0=some r0) (L:List Res):Ok Tryz.prog 74 [SV.val K7 a0] L (SV.val K7 r0) L:=by
 unfold gn at hF
 refine okI 8 Tryz.func74 rfl rfl rfl fun F0=>?_
 refine sr<|a_ rfl<|nt<|sq<|sr<|m_ rfl<|Under.eqNil Tryz.underlying22 rfl rfl fun b1 h2=>nt<|Under.conde rfl (fun h9=>?_) (fun _=>?_)
 ·replace hF:(some [])=some r0:=by rw[h2 h9] at hF;simpa[app,room] using hF
  refine sr<|a_ rfl<|nt<|rt<|tV (K:=kSl K10) (x:=[]) (t:=2) rfl rdN ?_
  cases osi hF
  exact rs Tryz.results74 (.tm rfl .nil) rfl rfl
 ·refine bs hF fun z5 h6 hF=>ct<|sr<|bO (ys:=[]) Tryz.underlying22 ET5 (BldA.nil _) rfl rfl fun v4=>m_ rfl<|ap h6 Tryz.underlying22 AT5 rfl rfl rdV rfl fun v7=>a_ rfl<|nl<|fzO (t:=2) rfl<|tn<|rc ?_
  cases osi hF
  exact rs Tryz.results74 (.tm rfl .nil) rfl rfl
noncomputable def iO (a0:List Int) (a1:Int):Option (aL×Int):=
 bif (decide (a1<1))||(decide (a1>64)) then
  some ((⟨[],[],[]⟩:aL),2)
 else
  bif decide ((a0.length:Int)<18) then
   some ((⟨[],[],[]⟩:aL),3)
  else
   (sub a0 18 (a0.length:Int)).bind fun x7=>
   (sub a0 0 18).bind fun kA=>
   (bQ kA).bind fun dA=>
   (sub x7 0 (IntKind.wrap .i64 (Int.tdiv (x7.length:Int) 2))).bind fun eA=>
   (bQ eA).bind fun cA=>
   (sub x7 (IntKind.wrap .i64 (Int.tdiv (x7.length:Int) 2)) (x7.length:Int)).bind fun zA=>
   bif decide (a1≠0) then
   (((Loop.run (S:=(Int×(List (List Int)))) (R:=aL) (fun(xA,yA)=>
     bif decide (xA<a1) then
      (sub zA (IntKind.wrap .i64 (xA*(IntKind.wrap .i64 (Int.tdiv (zA.length:Int) a1)))) (IntKind.wrap .i64 ((IntKind.wrap .i64 (xA+1))*(IntKind.wrap .i64 (Int.tdiv (zA.length:Int) a1))))).bind fun hA=>
      (gn hA).bind fun bA=>
      (app yA [bA]).bind fun vA=>
      some (.next (IntKind.wrap .i64 (xA+1),vA))
     else
      some (.done (⟨dA,cA,yA⟩:aL))) (0,[])).bind fun oA=>
   some oA
    :Option aL)).bind fun qA=>
   some (qA,0)
   else none
theorem o78 {a0:List Int} {a1:Int} {r0:(aL×Int)} (hF:iO a0 a1=some r0) (L:List Res):Ok Tryz.prog 22 [SV.val K7 a0,SV.raw (.int .i64 a1)] L (SV.tup [SV.val dn r0.1,SV.raw (.int .i64 r0.2)]) L:=by
 unfold iO at hF
 refine okI 63 Tryz.func22 rfl rfl rfl fun F0=>?_
 refine sr<|al ZT51 rfl fun b1=>a_ rfl<|nt<|sq<|sr<|mb rfl<|m_ rfl<|cr 16 ((decide (a1<1))||(decide (a1>64))) ?_ (fun k=>?_)
 ·refine nt<|it hF rfl (fun hF=>?_) (fun hF=>?_)
  ·refine sr<|ov (OpV.bst BT51 (Bld.nil _)) rfl<|sP (x':=(⟨[],[],[]⟩:aL)) .box .id sz51k rfl rfl rdV rfl<|a_ rfl<|nl<|fz (t:=4) rfl<|tn<|rt ?_
   cases osi hF
   exact rs Tryz.results22 (.ce rfl kt51 (.tm rfl .nil)) rfl rfl
  ·refine ct<|sq<|sr<|m_ rfl<|oN Tryz.underlying22 rfl<|b_ rfl<|nt<|it hF rfl (fun hF=>?_) (fun hF=>?_)
   ·refine sr<|ov (OpV.bst BT51 (Bld.nil _)) rfl<|sP (x':=(⟨[],[],[]⟩:aL)) .box .id sz51k rfl rfl rdV rfl<|a_ rfl<|nl<|fz (t:=4) rfl<|tn<|rt ?_
    cases osi hF
    exact rs Tryz.results22 (.ce rfl kt51 (.tm rfl .nil)) rfl rfl
   ·refine bs hF fun x7 h8 hF=>bs hF fun tA uA hF=>bs hF fun zA xB hF=>bs hF fun yB zB hF=>bs hF fun hA hB hF=>ct<|sr<|m_ rfl<|ov (OpV.slL h8 Tryz.underlying22 sz5 rfl rdV rfl) rfl<|a_ rfl<|ns<|m_ rfl<|oN Tryz.underlying22 rfl<|ov (OpV.quo rfl rfl (by decide) rfl) rfl<|a_ rfl<|nt<|sq<|ph rfl<|Under.grpT (L:=L) [0,1,2,3,4,5,6,7,8] [[0],[27],[28],[6],[7],[30,31],[32],[29,33],[]] [⟨sk0 (.val K7 a0),[],[],[]⟩,⟨sk0 (.val K7 tA),[],[],[]⟩,⟨sk1 2 (fun u2=> .raw u2),[],[(0,tk1 2 (fun u2=> .own K10 u2 5 zA))],[]⟩,⟨sk0 (.val K7 x7),[],[],[]⟩,⟨sk0 (.raw (.int .i64 (IntKind.wrap .i64 (Int.tdiv (x7.length:Int) 2)))),[],[],[]⟩,⟨sk0 (.val K7 yB),[],[],[]⟩,⟨sk1 6 (fun u6=> .raw u6),[],[(1,tk1 6 (fun u6=> .own K10 u6 5 hA))],[]⟩,⟨sk0 (.val dZ (⟨zA,hA,.slice none 0 0⟩:bP)),[0,1],[],[]⟩,⟨sk1 8 (fun u8=> .raw (.pointer (some ⟨(vblk u8),0,none⟩))),[],[(2,tk1 8 (fun u8=> .box dZ (vblk u8) 51 (⟨[],[],.slice none 0 0⟩:bP)))],[]⟩] [] (fun T:List Res=>(.box dn b1 51 (⟨[],[],[]⟩:aL))::T) lf1 rfl (by kernel_rfl) rfl rfl (fun F hF0 vA=>?_)
    refine Tq.v (fun G T hG=>?_) ?_
    ·exact m_ rfl<|Tq.end undef rfl rfl
    refine Tq.v (fun G T hG=>?_) ?_
    ·exact ov (OpV.slH uA Tryz.underlying22 sz5 rfl rdV rfl) rfl<|Tq.end undef rfl rfl
    refine Tq.st (.raw (vA 2)) [] rfl rfl (fun G T hG=>?_) ?_
    ·refine Under.callX Tryz.call74 rfl rfl (o13 xB _) rfl ?_
     rintro bB
     exact Tq.end bB rfl rfl
    refine Tq.v (fun G T hG=>?_) ?_
    ·exact m_ rfl<|Tq.end undef rfl rfl
    refine Tq.v (fun G T hG=>?_) ?_
    ·exact m_ rfl<|Tq.end undef rfl rfl
    refine Tq.v (fun G T hG=>?_) ?_
    ·exact ov (OpV.slH zB Tryz.underlying22 sz5 rfl rdV rfl) rfl<|Tq.end undef rfl rfl
    refine Tq.st (.raw (vA 6)) [] rfl rfl (fun G T hG=>?_) ?_
    ·refine Under.callX Tryz.call74 rfl rfl (o13 hB _) rfl ?_
     rintro vB
     exact Tq.end vB rfl rfl
    refine Tq.st (.val dZ (⟨zA,hA,.slice none 0 0⟩:bP)) [.own K10 (vA 2) 5 zA,.own K10 (vA 6) 5 hA] rfl rfl (fun G T hG=>?_) ?_
    ·exact fzO (t:=29) rfl<|fzO (t:=33) rfl<|ov (OpV.bst mf (Bld.cons (x':=(⟨zA,[],.slice none 0 0⟩:bP)) rfl rfl rdV (by intro q hq;simp only[List.mem_cons,List.not_mem_nil,or_false] at hq;rcases hq with rfl|rfl<;>rfl) (Bld.cons (x':=(⟨zA,hA,.slice none 0 0⟩:bP)) rfl rfl rdV ⟨rfl,(by intro q hq;simp only[List.mem_cons,List.not_mem_nil,or_false] at hq;rcases hq with rfl<;>rfl)⟩ (Bld.nil _)))) rfl<|Tq.end undef rfl rfl
    refine Tq.st (.raw (.pointer (some ⟨(vblk (vA 8)),0,none⟩))) [] rfl rfl (fun G T hG=>?_) ?_
    ·exact al ZT51k rfl fun oB=>Tq.end (.pointer (some ⟨oB,0,none⟩)) rfl rfl
    refine bs hF fun pA kB hF=>gs hF fun dB hF=>bs hF fun oA dA hF=>Tq.nil<|Under.le hF0<|p1 9 rfl rfl<|f1<|sP (x':=(⟨zA,hA,.slice none 0 0⟩:bP)) .box .id sz51k1 rfl rfl rdV rfl<|pn<|pd rfl<|tn<|sr<|m_ rfl<|m_ rfl<|ov (OpV.slL kB Tryz.underlying22 sz5 rfl rdV rfl) rfl<|a_ rfl<|ns<|m_ rfl<|oN Tryz.underlying22 rfl<|m_ rfl<|ov (OpV.quo rfl rfl (of_decide_eq_true dB) rfl) rfl<|a_ rfl<|nt<|sq<|afr (r:=oA) (fun oA=>[(4,pb b1),(8,.ptr dn oA)]) (fun oA=>((.box dn b1 51 (⟨[],[],[]⟩:aL))::L)) ?_ fun K eB=>?_
    ·refine sr<|oL kt51 rfl<|sP (x':=oA) .box .id sz51k rfl rfl rdV rfl<|a_ rfl<|nl<|fz (t:=4) rfl<|tn<|rc ?_
     cases osi hF
     exact rs Tryz.results22 (.ce rfl kt51 (.tm rfl .nil)) rfl rfl
    ·refine bs dA fun cB eA dA=>sr<|m_ rfl<|m_ rfl<|nt<|bk<|Under.ownNil (K:=kSl K10) (e:=22)<|f2<|lp eA (C:=Value) (.slice none 0 0) (fun yA bA=>[(4,pb b1),(6,.val K7 pA),(8,.raw (.pointer (some ⟨(vblk (vA 8)),0,none⟩))),(9,.raw (.int .i64 (IntKind.wrap .i64 (Int.tdiv (pA.length:Int) a1)))),(42,.raw (.int .i64 a1)),(43,.raw (.int .i64 yA.1))]) (fun yA bA=>(.box dn b1 51 (⟨[],[],[]⟩:aL))::(.own K7 bA 22 yA.2)::(.box dZ (vblk (vA 8)) 51 (⟨zA,hA,bA⟩:bP))::L) rfl rfl fun yA bA qB xA cA=>?_
     obtain⟨rB,qA⟩:=yA
     dsimp only at xA⊢
     refine sr<|b_ rfl<|nt<|sq<|it xA rfl (fun xA=>?_) (fun xA=>?_)
     ·exact bs xA fun wB rA xA=>bs xA fun wA gA xA=>bs xA fun gB mA xA=>ct<|sq<|bk<|sr<|m_ rfl<|a_ rfl<|nt<|ph rfl<|gV [0,1,2,3,4,5,6,7,8,9,10,11,12] [[8],[46],[6],[10],[9],[49,50],[10],[52],[9],[53,54],[48,51,55],[56],[57]] 3 (by kernel_rfl) rfl<|vo (fun _=>OpV.fdM sZ rfl) rfl<|Vq.v (fun G T hG=>f2<|lP .box (.fld .id jk) kt44k rfl rfl<|Under.rawR (t:=47) rfl<|f2<|f2<|Vq.end rfl)<|vm_ rfl<|vm_ rfl<|vm_ rfl<|vb_ rfl<|vm_ rfl<|vb_ rfl<|vm_ rfl<|vb_ rfl<|vo (fun _=>OpV.slLH rA Tryz.underlying22 sz5 rfl rdV rfl rfl) rfl<|Vq.v (fun G T hG=>cx Tryz.call74 rfl (o77 gA _)<|Vq.end rfl)<|Vq.v (fun G T hG=>bF (ys:=[wA]) Tryz.underlying44 ET22 (BldA.cons rfl rfl rdV (BldA.nil _)) rfl rfl<|Vq.end rfl)<|vn<|p1 13 rfl rfl<|f1<|ap mA Tryz.underlying44 AT22 rfl rfl rdV rfl fun kA=>pn<|p1 14 rfl rfl<|oM sZ rfl<|pn<|p1 15 rfl rfl<|Under.ownCell fun nA=>f2<|sP (x':=(⟨zA,hA,kA⟩:bP)) .box (.fld .id jk) sz44k rfl rfl (eW nA) rfl<|pn<|pd rfl<|bN<|tn<|rg<|b_ rfl<|m_ rfl<|nl<|f1<|f2<|nx kA xA rfl rfl
     ·refine f2<|f2<|Under.frzBO (fs:=fb) (⟨zA,hA,qA⟩:aL) (fun F hv=>⟨fun _ h=>h,fun _ h=>h,jh hv,trivial⟩)<|fz (t:=8) rfl<|xt<|te ?_
      cases aj xA cA
      exact te<|bh<|tn<|wr (eB _ (osi dA).symm) rfl
 ·refine by_ (t:=13) rfl (fun c2=>?_) (fun c2=>?_)
  ·exact sk_ c2 rfl<|sk_ c2 rfl<|pT c2 rfl<|rf 2 (or_t (e:=decide (a1>64)) c2) rfl k
  ·exact gc_ c2 rfl<|m_ rfl<|gc_ c2 rfl<|b_ rfl<|pF c2 rfl<|rf 2 (or_f c2) rfl k
noncomputable def jt (a0:Int) (a1:Int) (a2:Int):Option ((List Int)×Int):=
 bif (((((decide (a0<0))||(decide (a0>a1)))||(decide (a1<1)))||(decide (a1>1000)))||(decide (a2<0)))||(decide (a2>16)) then
  some ([],2)
 else
  bif mkB 0 (IntKind.wrap .i64 (a2+1)) then
  (((Loop.run (S:=((List Int)×Int×Int)) (R:=(List Int)) (fun(yA,xA,zA)=>
    bif decide (xA≤a2) then
     ((bif decide (xA>0) then
      (idx yA (IntKind.wrap .i64 (xA - 1))).bind fun oA=>
      some (IntKind.wrap .i64 (zA+oA))
     else
      some zA
      :Option Int)).bind fun kA=>
     (app yA [kA]).bind fun dA=>
     bif decide (a1≠0) then
     some (.next (dA,IntKind.wrap .i64 (xA+1),IntKind.wrap .i64 (Int.tdiv (IntKind.wrap .i64 (zA*a0)) a1)))
     else none
    else
     some (.done yA)) (List.replicate (Int.toNat 0) (0:Int),0,4294967296)).bind fun eA=>
  some eA
   :Option (List Int))).bind fun cA=>
  bif mkB 0 (IntKind.wrap .i64 (a2+1)) then
  (((Loop.run (S:=((List Int)×Int)) (R:=(List Int)) (fun(bA,hA)=>
    bif decide (hA<(cA.length:Int)) then
     (idx cA hA).bind fun qA=>
     (idx cA a2).bind fun vA=>
     bif decide (vA≠0) then
     (app bA [IntKind.wrap .i64 (Int.tdiv (IntKind.wrap .i64 (65536*qA)) vA)]).bind fun rA=>
     some (.next (rA,IntKind.wrap .i64 (hA+1)))
     else none
    else
     some (.done bA)) (List.replicate (Int.toNat 0) (0:Int),0)).bind fun wA=>
  some wA
   :Option (List Int))).bind fun gA=>
  some (gA,0)
  else none
  else none
theorem o79 {a0 a1 a2:Int} {r0:((List Int)×Int)} (hF:jt a0 a1 a2=some r0) (L:List Res):Ok Tryz.prog 75 [SV.raw (.int .i64 a0),SV.raw (.int .i64 a1),SV.raw (.int .i64 a2)] L (SV.tup [SV.val K6 r0.1,SV.raw (.int .i64 r0.2)]) L:=by
 unfold jt at hF
 refine okI 86 Tryz.func75 rfl rfl rfl fun F0=>?_
 refine sr<|a_ rfl<|a_ rfl<|nt<|sq<|sr<|mb rfl<|m_ rfl<|cq 21 ((decide (a0<0))||(decide (a0>a1))) ?_ (fun k=>?_)
 ·refine m_ rfl<|cr 25 (((decide (a0<0))||(decide (a0>a1)))||(decide (a1<1))) ?_ (fun k=>?_)
  ·refine m_ rfl<|cr 29 ((((decide (a0<0))||(decide (a0>a1)))||(decide (a1<1)))||(decide (a1>1000))) ?_ (fun k=>?_)
   ·refine m_ rfl<|cr 33 (((((decide (a0<0))||(decide (a0>a1)))||(decide (a1<1)))||(decide (a1>1000)))||(decide (a2<0))) ?_ (fun k=>?_)
    ·refine m_ rfl<|cr 37 ((((((decide (a0<0))||(decide (a0>a1)))||(decide (a1<1)))||(decide (a1>1000)))||(decide (a2<0)))||(decide (a2>16))) ?_ (fun k=>?_)
     ·refine nt<|it hF rfl (fun hF=>?_) (fun hF=>?_)
      ·refine sr<|a_ rfl<|a_ rfl<|nt<|rt<|tV (K:=kSl K8) (x:=[]) (t:=6) rfl rdN ?_
       cases osi hF
       exact rs Tryz.results75 (.tm rfl (.tm rfl .nil)) rfl rfl
      ·refine gs hF fun pB hF=>bs hF fun qA mA hF=>ct<|sr<|mb rfl<|Under.mk pB Tryz.underlying68 AT3 rfl rfl rfl fun tB=>a_ rfl<|nt<|sq<|afr (r:=qA) (fun qA=>[(2,.raw (.int .i64 a2)),(8,.val K6 qA)]) (fun qA=>(L)) ?_ fun K nA=>?_
       ·refine gs hF fun pA hF=>bs hF fun kA rA hF=>sr<|mb rfl<|Under.mk pA Tryz.underlying68 AT3 rfl rfl rfl fun tA=>a_ rfl<|nt<|sq<|afr (r:=kA) (fun kA=>[(12,.val K6 kA)]) (fun kA=>(L)) ?_ fun K uA=>?_
        ·refine sr<|m_ rfl<|a_ rfl<|a_ rfl<|nt<|rc ?_
         cases osi hF
         exact rs Tryz.results75 (.tm rfl (.tm rfl .nil)) rfl rfl
        ·refine bs rA fun uB xB rA=>sr<|m_ rfl<|oN Tryz.underlying68 rfl<|m_ rfl<|nt<|bk<|lp xB (C:=Value) tA (fun vA dA=>[(2,.raw (.int .i64 a2)),(8,.val K6 qA),(12,.raw dA),(68,.val K6 qA),(69,.raw (.int .i64 (qA.length:Int))),(70,.raw (.int .i64 vA.2))]) (fun vA dA=>(.own K8 dA 3 vA.1)::L) rfl rfl fun vA dA xC xA yB=>?_
         obtain⟨yC,zC⟩:=vA
         dsimp only at xA⊢
         refine sr<|b_ rfl<|nt<|sq<|it xA rfl (fun xA=>?_) (fun xA=>?_)
         ·exact bs xA fun zB hB xA=>bs xA fun bB vB xA=>gs xA fun oB xA=>bs xA fun hC kB xA=>ct<|sq<|bk<|sr<|oS hB Tryz.underlying68 sz3 rfl<|oI kt3 rfl<|a_ rfl<|nt<|rg<|m_ rfl<|mb rfl<|m_ rfl<|m_ rfl<|oS vB Tryz.underlying68 sz3 rfl<|oI kt3 rfl<|ov (OpV.quo rfl rfl (of_decide_eq_true oB) rfl) rfl<|bF (ys:=[IntKind.wrap .i64 (Int.tdiv (IntKind.wrap .i64 (65536*zB)) bB)]) Tryz.underlying68 ET3 (BldA.cons rfl rfl rdI (BldA.nil _)) rfl rfl<|ap kB Tryz.underlying68 AT3 rfl rfl rdV rfl fun dB=>a_ rfl<|nl<|bN<|tn<|rg<|b_ rfl<|m_ rfl<|nl<|nx dB xA rfl rfl
         ·refine fzO (t:=12) rfl<|xt<|te ?_
          cases aj xA yB
          exact te<|bh<|tn<|wr (uA _ (osi rA).symm) rfl
       ·refine bs mA fun bC eB mA=>sr<|a_ rfl<|a_ rfl<|nt<|bk<|lp eB (C:=Value) tB (fun hA bA=>[(0,.raw (.int .i64 a0)),(1,.raw (.int .i64 a1)),(2,.raw (.int .i64 a2)),(8,.raw bA),(9,.raw (.int .i64 hA.2.1)),(10,.raw (.int .i64 hA.2.2))]) (fun hA bA=>(.own K8 bA 3 hA.1)::L) rfl rfl fun hA bA vC yA cB=>?_
        obtain⟨qB,rB,wB⟩:=hA
        dsimp only at yA⊢
        refine sq<|sr<|m_ rfl<|mb rfl<|nt<|it yA rfl (fun yA=>?_) (fun yA=>?_)
        ·refine bs yA fun oA zA yA=>ct<|sq<|bk<|sr<|m_ rfl<|a_ rfl<|nt<|sq<|afr (r:=oA) (fun oA=>[(0,.raw (.int .i64 a0)),(1,.raw (.int .i64 a1)),(2,.raw (.int .i64 a2)),(8,.raw bA),(9,.raw (.int .i64 rB)),(10,.raw (.int .i64 wB)),(11,.raw (.int .i64 oA))]) (fun oA=>((.own K8 bA 3 qB)::L)) ?_ fun K gA=>?_
         ·exact bs yA fun oC gB yA=>gs yA fun mB yA=>sr<|m_ rfl<|m_ rfl<|bF (ys:=[oA]) Tryz.underlying68 ET3 (BldA.cons rfl rfl rdI (BldA.nil _)) rfl rfl<|ap gB Tryz.underlying68 AT3 rfl rfl rdV rfl fun nB=>a_ rfl<|nt<|rg<|m_ rfl<|mb rfl<|m_ rfl<|ov (OpV.quo rfl rfl (of_decide_eq_true mB) rfl) rfl<|a_ rfl<|nl<|bN<|tn<|rg<|mb rfl<|a_ rfl<|nl<|nx nB yA rfl rfl
         ·refine sr<|mb rfl<|nt<|it zA rfl (fun zA=>?_) (fun zA=>?_)
          ·exact bs zA fun kC wA zA=>rg<|m_ rfl<|m_ rfl<|mb rfl<|ov (OpV.ixO wA Tryz.underlying68 sz3k rfl rfl) rfl<|lP (.own wA) (.ix .id wA) kt3k rfl rfl<|rI (t:=54) rfl<|b_ rfl<|a_ rfl<|nt<|wr (gA _ (osi zA).symm) rfl
          ·exact ct<|wr (gA _ (osi zA).symm) rfl
        ·refine fzO (t:=8) rfl<|xt<|te ?_
         cases aj yA cB
         exact te<|bh<|tn<|wr (nA _ (osi mA).symm) rfl
     ·refine by_ (t:=34) rfl (fun eA=>?_) (fun eA=>?_)
      ·exact sk_ eA rfl<|sk_ eA rfl<|pT eA rfl<|rf 2 (or_t (e:=decide (a2>16)) eA) rfl k
      ·exact gc_ eA rfl<|m_ rfl<|gc_ eA rfl<|b_ rfl<|pF eA rfl<|rf 2 (or_f eA) rfl k
    ·refine by_ (t:=30) rfl (fun cA=>?_) (fun cA=>?_)
     ·exact sk_ cA rfl<|sk_ cA rfl<|pT cA rfl<|rf 2 (or_t (e:=decide (a2<0)) cA) rfl k
     ·exact gc_ cA rfl<|m_ rfl<|gc_ cA rfl<|b_ rfl<|pF cA rfl<|rf 2 (or_f cA) rfl k
   ·refine by_ (t:=26) rfl (fun c7=>?_) (fun c7=>?_)
    ·exact sk_ c7 rfl<|sk_ c7 rfl<|pT c7 rfl<|rf 2 (or_t (e:=decide (a1>1000)) c7) rfl k
    ·exact gc_ c7 rfl<|m_ rfl<|gc_ c7 rfl<|b_ rfl<|pF c7 rfl<|rf 2 (or_f c7) rfl k
  ·refine by_ (t:=22) rfl (fun c4=>?_) (fun c4=>?_)
   ·exact sk_ c4 rfl<|sk_ c4 rfl<|pT c4 rfl<|rf 2 (or_t (e:=decide (a1<1)) c4) rfl k
   ·exact gc_ c4 rfl<|m_ rfl<|gc_ c4 rfl<|b_ rfl<|pF c4 rfl<|rf 2 (or_f c4) rfl k
 ·refine by_ (t:=17) rfl (fun c1=>?_) (fun c1=>?_)
  ·exact sk_ c1 rfl<|sk_ c1 rfl<|sk_ c1 rfl<|pT c1 rfl<|rf 3 (or_t (e:=decide (a0>a1)) c1) rfl k
  ·exact gc_ c1 rfl<|m_ rfl<|gc_ c1 rfl<|m_ rfl<|gc_ c1 rfl<|b_ rfl<|pF c1 rfl<|rf 3 (or_f c1) rfl k
noncomputable def ju (a0:List Int) (a1:Int) (a2:Int) (a3:Int):Option (Int×Int):=
 (jt a1 a2 a3).bind fun y1=>
 bif y1.2 != 0 then
  some (0,y1.2)
 else
  bif decide ((a0.length:Int)<18) then
   some (0,3)
  else
   (idx a0 0).bind fun x5=>
   (idx a0 1).bind fun x7=>
   (((Loop.run (S:=Int) (R:=Int) (fun xA=>
     (idx y1.1 xA).bind fun yA=>
     bif decide ((orI .i64 (shlI .i64 (IntKind.wrap .i64 x5) 8) (IntKind.wrap .i64 x7))≥yA) then
      some (.next (IntKind.wrap .i64 (xA+1)))
     else
      some (.done xA)) 0).bind fun zA=>
   some zA
    :Option Int)).bind fun hA=>
   some (hA,0)
theorem o80 {a0:List Int} {a1 a2 a3:Int} {r0:(Int×Int)} (hF:ju a0 a1 a2 a3=some r0) (L:List Res):Ok Tryz.prog 23 [SV.val K7 a0,SV.raw (.int .i64 a1),SV.raw (.int .i64 a2),SV.raw (.int .i64 a3)] L (SV.tup [SV.raw (.int .i64 r0.1),SV.raw (.int .i64 r0.2)]) L:=by
 unfold ju at hF
 refine okI 46 Tryz.func23 rfl rfl rfl fun F0=>?_
 refine bs hF fun y1 h2 hF=>sr<|a_ rfl<|a_ rfl<|ns<|m_ rfl<|m_ rfl<|m_ rfl<|cx Tryz.call75 rfl (o79 h2 _)<|m_ rfl<|oE rfl<|oE rfl<|a_ rfl<|a_ rfl<|nt<|sq<|sr<|mb rfl<|nt<|it hF rfl (fun hF=>?_) (fun hF=>?_)
 ·refine sr<|m_ rfl<|a_ rfl<|a_ rfl<|nt<|rt ?_
  cases osi hF
  exact rs Tryz.results23 (.tm rfl (.tm rfl .nil)) rfl rfl
 ·refine ct<|sq<|sr<|m_ rfl<|oN Tryz.underlying22 rfl<|b_ rfl<|nt<|it hF rfl (fun hF=>?_) (fun hF=>?_)
  ·refine sr<|a_ rfl<|a_ rfl<|nt<|rt ?_
   cases osi hF
   exact rs Tryz.results23 (.tm rfl (.tm rfl .nil)) rfl rfl
  ·refine bs hF fun x5 h6 hF=>bs hF fun x7 h8 hF=>bs hF fun yA zA hF=>ct<|sq<|dw rfl (by kernel_rfl) fun F hF0=>mvq rfl rfl<|oq (OpV.ixS h6 Tryz.underlying22 sz5 rfl rdV rfl) rfl<|oq (OpV.ldI kt5 rfl) rfl<|oq (OpV.conv (by kernel_rfl) Tryz.underlying3 rfl) rfl<|oq (OpV.sh rfl rfl (by decide) rfl) rfl<|mvq rfl rfl<|oq (OpV.ixS h8 Tryz.underlying22 sz5 rfl rdV rfl) rfl<|oq (OpV.ldI kt5 rfl) rfl<|oq (OpV.conv (by kernel_rfl) Tryz.underlying3 rfl) rfl<|bnq rfl rfl rfl rfl<|agq rfl rfl<|nlq hF0<|tn<|sr<|a_ rfl<|nt<|sq<|afr (r:=yA) (fun yA=>[(13,.raw (.int .i64 yA))]) (fun yA=>(L)) ?_ fun K vA=>?_
   ·refine sr<|m_ rfl<|a_ rfl<|a_ rfl<|nt<|rc ?_
    cases osi hF
    exact rs Tryz.results23 (.tm rfl (.tm rfl .nil)) rfl rfl
   ·refine bs zA fun eA oA zA=>bk<|lp oA () (fun hA bA=>[(10,.val K6 y1.1),(12,.raw (.int .i64 (orI .i64 (shlI .i64 (IntKind.wrap .i64 x5) 8) (IntKind.wrap .i64 x7)))),(13,.raw (.int .i64 hA))]) (fun hA bA=>L) rfl rfl fun hA bA cA xA kA=>?_
    refine bs xA fun qA dA xA=>sq<|sr<|m_ rfl<|m_ rfl<|m_ rfl<|oS dA Tryz.underlying68 sz3 rfl<|oI kt3 rfl<|b_ rfl<|nt<|it xA rfl (fun xA=>?_) (fun xA=>?_)
    ·exact ct<|bk<|rg<|mb rfl<|a_ rfl<|nl<|bN<|nx () xA rfl rfl
    ·refine xt<|te ?_
     cases aj xA kA
     exact te<|bh<|tn<|wr (vA _ (osi zA).symm) rfl
noncomputable def gp (a0:List Int) (a1:List Int) (a2:Int):Option (List Int):=
 bif (decide (a2<0))||(decide (a2>65536)) then
  some []
 else
  bif mkB a2 a2 then
  (eR a0 a1 (List.replicate (Int.toNat a2) (0:Int))).bind fun y9=>
  some y9
  else none
theorem o81 {a0 a1:List Int} {a2:Int} {r0:(List Int)} (hF:gp a0 a1 a2=some r0) (L:List Res):Ok Tryz.prog 81 [SV.val K2 a0,SV.val K2 a1,SV.raw (.int .i64 a2)] L (SV.val K7 r0) L:=by
 unfold gp at hF
 refine okI 18 Tryz.func81 rfl rfl rfl fun F0=>?_
 refine sr<|bX (K:=kArr 16 K10) rfl rdV rfl<|bX (K:=kArr 16 K10) rfl rdV rfl<|a_ rfl<|nt<|sq<|sr<|mb rfl<|m_ rfl<|cr 12 ((decide (a2<0))||(decide (a2>65536))) ?_ (fun k=>?_)
 ·refine nt<|it hF rfl (fun hF=>?_) (fun hF=>?_)
  ·refine sr<|a_ rfl<|nt<|rt<|tV (K:=kSl K10) (x:=[]) (t:=6) rfl rdN ?_
   cases osi hF
   exact rs Tryz.results81 (.tm rfl .nil) rfl rfl
  ·refine gs hF fun h7 hF=>bs hF fun y9 xA hF=>ct<|sq<|ph rfl<|Under.grpT (L:=L) [0,1,2,3] [[3],[4],[2],[15]] [⟨sk0 (.val K2 a0),[],[],[]⟩,⟨sk0 (.val K2 a1),[],[],[]⟩,⟨sk0 (.raw (.int .i64 a2)),[],[],[]⟩,⟨sk1 3 (fun u3=> .raw u3),[],[(0,tk1 3 (fun u3=> .own K10 u3 5 (List.replicate (Int.toNat a2) (0:Int))))],[]⟩] [] (fun T:List Res=>T) lf0 rfl (by kernel_rfl) rfl rfl (fun F hF0 yA=>?_)
   refine Tq.v (fun G T hG=>?_) ?_
   ·exact oL kt64 rfl<|Tq.end undef rfl rfl
   refine Tq.v (fun G T hG=>?_) ?_
   ·exact oL kt64 rfl<|Tq.end undef rfl rfl
   refine Tq.v (fun G T hG=>?_) ?_
   ·exact m_ rfl<|Tq.end undef rfl rfl
   refine Tq.st (.raw (yA 3)) [] rfl rfl (fun G T hG=>?_) ?_
   ·exact Under.mk h7 Tryz.underlying22 AT5 rfl rfl rfl fun v6=>Tq.end v6 rfl rfl
   refine Tq.nil<|Under.le hF0<|p1 4 rfl rfl<|fzO (t:=16) rfl<|cx Tryz.call103 rfl (o63 xA _)<|pn<|p1 5 rfl rfl<|a_ rfl<|pn<|pd rfl<|tn<|rc ?_
   cases osi hF
   exact rs Tryz.results81 (.tm rfl .nil) rfl rfl
 ·refine by_ (t:=9) rfl (fun c1=>?_) (fun c1=>?_)
  ·exact sk_ c1 rfl<|sk_ c1 rfl<|pT c1 rfl<|rf 2 (or_t (e:=decide (a2>65536)) c1) rfl k
  ·exact gc_ c1 rfl<|m_ rfl<|gc_ c1 rfl<|b_ rfl<|pF c1 rfl<|rf 2 (or_f c1) rfl k
noncomputable def jW (a0:List Int):Option ((List Int)×Int):=
 bif decide ((a0.length:Int)>319) then
  some ([],1)
 else
  (ft a0 1 [0]).bind fun y2=>
  some (y2,0)
theorem o82 {a0:List Int} {r0:((List Int)×Int)} (hF:jW a0=some r0) (L:List Res):Ok Tryz.prog 78 [SV.val K7 a0] L (SV.tup [SV.val K7 r0.1,SV.raw (.int .i64 r0.2)]) L:=by
 unfold jW at hF
 refine okI 10 Tryz.func78 rfl rfl rfl fun F0=>?_
 refine sr<|a_ rfl<|a_ rfl<|nt<|sq<|sr<|m_ rfl<|oN Tryz.underlying22 rfl<|b_ rfl<|nt<|it hF rfl (fun hF=>?_) (fun hF=>?_)
 ·refine sr<|a_ rfl<|a_ rfl<|nt<|rt<|tV (K:=kSl K10) (x:=[]) (t:=2) rfl rdN ?_
  cases osi hF
  exact rs Tryz.results78 (.tm rfl (.tm rfl .nil)) rfl rfl
 ·refine bs hF fun y2 h3 hF=>ct<|sr<|m_ rfl<|bF (ys:=[0]) Tryz.underlying22 ET5 (BldA.cons rfl rfl rdI (BldA.nil _)) rfl rfl<|cx Tryz.call135 rfl (o66 h3 _)<|a_ rfl<|a_ rfl<|nt<|rc ?_
  cases osi hF
  exact rs Tryz.results78 (.tm rfl (.tm rfl .nil)) rfl rfl
noncomputable def jv (a0:List Int) (a1:Int) (a2:Int):Option ((List (List Int))×Int):=
 bif (((decide (a1<0))||(decide (a1>16)))||(decide (a2<0)))||(decide (a2>7)) then
  some ([],2)
 else
  bif decide ((a0.length:Int)<18) then
   some ([],3)
  else
   bif decide (a2>0) then
    (cK a2).bind fun oA=>
    (sub a0 2 18).bind fun mA=>
    bif decide (16≤mA.length) then
    (gp (List.take 16 mA) (List.replicate 16 (0:Int)) (IntKind.wrap .i64 (a1*oA))).bind fun pA=>
    (((Loop.run (S := ((List (List Int)) × Int)) (R := ((List (List Int)) ⊕ ((List (List Int)) × Int))) (fun (nA, vA) =>
      bif decide (vA<a1) then
       (sub pA (IntKind.wrap .i64 (vA*oA)) (IntKind.wrap .i64 ((IntKind.wrap .i64 (vA+1))*oA))).bind fun kA=>
       (fX kA).bind fun yA=>
       bif yA.2 != 0 then
        some (.done (.inr ([],yA.2)))
       else
        (app nA [yA.1]).bind fun dA=>
        some (.next (dA,IntKind.wrap .i64 (vA+1)))
      else
       some (.done (.inl nA))) ([],0)).bind fun tA=>match tA with
     | .inl uA=>
      some (.inr uA)
     | .inr z=>
      some (.inl z)
     : Option (((List (List Int)) × Int) ⊕ (List (List Int))))).bind fun xB => match xB with
     | .inl z=>
      some z
     | .inr yB=>
      some (yB,0)
    else none
   else
    (sub a0 2 18).bind fun hA=>
    bif decide (16≤hA.length) then
    (gp (List.take 16 hA) (List.replicate 16 (0:Int)) (IntKind.wrap .i64 (a1*48))).bind fun eA=>
    (((Loop.run (S := ((List (List Int)) × Int)) (R := ((List (List Int)) ⊕ ((List (List Int)) × Int))) (fun (bA, xA) =>
      bif decide (xA<a1) then
       (sub eA (IntKind.wrap .i64 (xA*48)) (IntKind.wrap .i64 ((IntKind.wrap .i64 (xA+1))*48))).bind fun cA=>
       (jW cA).bind fun zA=>
       bif zA.2 != 0 then
        some (.done (.inr ([],zA.2)))
       else
        (app bA [zA.1]).bind fun qA=>
        some (.next (qA,IntKind.wrap .i64 (xA+1)))
      else
       some (.done (.inl bA))) ([],0)).bind fun rA=>match rA with
     | .inl wA=>
      some (.inr wA)
     | .inr z=>
      some (.inl z)
     : Option (((List (List Int)) × Int) ⊕ (List (List Int))))).bind fun gA => match gA with
     | .inl z=>
      some z
     | .inr x166=>
      some (x166,0)
    else none
theorem o83 {a0:List Int} {a1 a2:Int} {r0:((List (List Int))×Int)} (hF:jv a0 a1 a2=some r0) (L:List Res):Ok Tryz.prog 27 [SV.val K7 a0,SV.raw (.int .i64 a1),SV.raw (.int .i64 a2)] L (SV.tup [SV.val K1 r0.1,SV.raw (.int .i64 r0.2)]) L:=by
 unfold jv at hF
 refine okI 72 Tryz.func27 rfl rfl rfl fun F0=>?_
 refine sr<|a_ rfl<|a_ rfl<|nt<|sq<|sr<|mb rfl<|m_ rfl<|cr 20 ((decide (a1<0))||(decide (a1>16))) ?_ (fun k=>?_)
 ·refine m_ rfl<|cr 24 (((decide (a1<0))||(decide (a1>16)))||(decide (a2<0))) ?_ (fun k=>?_)
  ·refine m_ rfl<|cr 28 ((((decide (a1<0))||(decide (a1>16)))||(decide (a2<0)))||(decide (a2>7))) ?_ (fun k=>?_)
   ·refine nt<|it hF rfl (fun hF=>?_) (fun hF=>?_)
    ·refine sr<|a_ rfl<|a_ rfl<|nt<|rt<|tV (K:=kSl K7) (x:=[]) (t:=6) rfl rdN ?_
     cases osi hF
     exact rs Tryz.results27 (.tm rfl (.tm rfl .nil)) rfl rfl
    ·refine ct<|sq<|sr<|m_ rfl<|oN Tryz.underlying22 rfl<|b_ rfl<|nt<|it hF rfl (fun hF=>?_) (fun hF=>?_)
     ·refine sr<|a_ rfl<|a_ rfl<|nt<|rt<|tV (K:=kSl K7) (x:=[]) (t:=6) rfl rdN ?_
      cases osi hF
      exact rs Tryz.results27 (.tm rfl (.tm rfl .nil)) rfl rfl
     ·refine ct<|sr<|a_ rfl<|a_ rfl<|nt<|sq<|sr<|mb rfl<|nt<|it hF rfl (fun hF=>?_) (fun hF=>?_)
      ·refine bs hF fun qB rB hF=>bs hF fun cC wB hF=>gs hF fun gB hF=>bs hF fun mB nB hF=>bs hF fun pB qA hF=>rg<|m_ rfl<|cx Tryz.call79 rfl (o41 rB _)<|a_ rfl<|a_ rfl<|ns<|m_ rfl<|ov (OpV.slLH wB Tryz.underlying22 sz5 rfl rdV rfl rfl) rfl<|ov (OpV.s2a (of_decide_eq_true gB) rfl Tryz.underlying64 rfl rdV) rfl<|oL kt64 rfl<|ov (OpV.bar (ys:=(List.replicate 16 (0:Int))) BTA64 (BldA.nil _)) rfl<|m_ rfl<|mb rfl<|cx Tryz.call81 rfl (o81 nB _)<|a_ rfl<|ns<|a_ rfl<|nt<|sq<|Under.after (fun X=>∀(rA:List (List Int)),pB=(.inr rA)→Under F0 72 [(11,.val K1 rA)] (L) X) ?_ ?_
       ·intro rA kA
        replace kA:=kA.symm
        subst kA
        refine sr<|m_ rfl<|a_ rfl<|a_ rfl<|nt<|rc ?_
        cases osi hF
        exact rs Tryz.results27 (.tm rfl (.tm rfl .nil)) rfl rfl
       ·intro K tB
        refine bs qA fun qC uB qA=>sr<|m_ rfl<|m_ rfl<|nt<|bk<|Under.ownNil (K:=kSl K10) (e:=22)<|lp uB (C:=Value) (.slice none 0 0) (fun zA bA=>[(8,.raw (.int .i64 qB)),(9,.raw (.func (.func 80) #[] #[])),(10,.val K7 mB),(11,.raw bA),(45,.raw (.int .i64 a1)),(46,.raw (.int .i64 zA.2))]) (fun zA bA=>(.own K7 bA 22 zA.1)::L) rfl rfl fun zA bA xC yA cB=>?_
        obtain⟨rC,wC⟩:=zA
        dsimp only at yA⊢
        refine sr<|b_ rfl<|nt<|sq<|it yA rfl (fun yA=>?_) (fun yA=>?_)
        ·refine bs yA fun yC wA yA=>bs yA fun gA mA yA=>ct<|sq<|bk<|sr<|m_ rfl<|a_ rfl<|ns<|m_ rfl<|m_ rfl<|m_ rfl<|mb rfl<|mb rfl<|mb rfl<|ov (OpV.slLH wA Tryz.underlying22 sz5 rfl rdV rfl rfl) rfl<|cx Tryz.call80 rfl (o67 mA _)<|m_ rfl<|oE rfl<|oE rfl<|a_ rfl<|a_ rfl<|nt<|sq<|sr<|mb rfl<|nt<|it yA rfl (fun yA=>?_) (fun yA=>?_)
         ·refine dr<|sr<|m_ rfl<|a_ rfl<|a_ rfl<|nt<|rt<|Under.bR<|tr ?_
          cases aj yA cB
          refine tr<|Under.bR<|tr ?_
          cases osi qA
          refine tV (K:=kSl K7) (x:=[]) (t:=6) rfl rdN ?_
          cases osi hF
          exact rs Tryz.results27 (.tm rfl (.tm rfl .nil)) rfl rfl
         ·exact bs yA fun zC nA yA=>ct<|rg<|m_ rfl<|m_ rfl<|bF (ys:=[gA.1]) Tryz.underlying44 ET22 (BldA.cons rfl rfl rdV (BldA.nil _)) rfl rfl<|ap nA Tryz.underlying44 AT22 rfl rfl rdV rfl fun pA=>a_ rfl<|nl<|bN<|tn<|rg<|b_ rfl<|m_ rfl<|nl<|nx pA yA rfl rfl
        ·refine fzO (t:=11) rfl<|xt<|te ?_
         cases aj yA cB
         exact te<|bh<|tn<|wr (tB _ (osi qA).symm) rfl
      ·refine bs hF fun hC tA hF=>gs hF fun uA hF=>bs hF fun xB yB hF=>bs hF fun zB vA hF=>ct<|sr<|m_ rfl<|ov (OpV.slLH tA Tryz.underlying22 sz5 rfl rdV rfl rfl) rfl<|ov (OpV.s2a (of_decide_eq_true uA) rfl Tryz.underlying64 rfl rdV) rfl<|oL kt64 rfl<|ov (OpV.bar (ys:=(List.replicate 16 (0:Int))) BTA64 (BldA.nil _)) rfl<|m_ rfl<|mb rfl<|cx Tryz.call81 rfl (o81 yB _)<|a_ rfl<|ns<|a_ rfl<|nt<|sq<|Under.after (fun X=>∀(dA:List (List Int)),zB=(.inr dA)→Under F0 72 [(11,.val K1 dA)] (L) X) ?_ ?_
       ·intro dA eA
        replace eA:=eA.symm
        subst eA
        refine sr<|m_ rfl<|a_ rfl<|a_ rfl<|nt<|rc ?_
        cases osi hF
        exact rs Tryz.results27 (.tm rfl (.tm rfl .nil)) rfl rfl
       ·intro K hB
        refine bs vA fun bC bB vA=>sr<|m_ rfl<|m_ rfl<|nt<|bk<|Under.ownNil (K:=kSl K10) (e:=22)<|lp bB (C:=Value) (.slice none 0 0) (fun hA oA=>[(8,.raw (.int .i64 48)),(9,.raw (.func (.func 78) #[] #[])),(10,.val K7 xB),(11,.raw oA),(45,.raw (.int .i64 a1)),(46,.raw (.int .i64 hA.2))]) (fun hA oA=>(.own K7 oA 22 hA.1)::L) rfl rfl fun hA oA vC xA cA=>?_
        obtain⟨oC,kC⟩:=hA
        dsimp only at xA⊢
        refine sr<|b_ rfl<|nt<|sq<|it xA rfl (fun xA=>?_) (fun xA=>?_)
        ·refine bs xA fun dC vB xA=>bs xA fun oB kB xA=>ct<|sq<|bk<|sr<|m_ rfl<|a_ rfl<|ns<|m_ rfl<|m_ rfl<|m_ rfl<|mb rfl<|mb rfl<|mb rfl<|ov (OpV.slLH vB Tryz.underlying22 sz5 rfl rdV rfl rfl) rfl<|cx Tryz.call78 rfl (o82 kB _)<|m_ rfl<|oE rfl<|oE rfl<|a_ rfl<|a_ rfl<|nt<|sq<|sr<|mb rfl<|nt<|it xA rfl (fun xA=>?_) (fun xA=>?_)
         ·refine dr<|sr<|m_ rfl<|a_ rfl<|a_ rfl<|nt<|rt<|Under.bR<|tr ?_
          cases aj xA cA
          refine tr<|Under.bR<|tr ?_
          cases osi vA
          refine tV (K:=kSl K7) (x:=[]) (t:=6) rfl rdN ?_
          cases osi hF
          exact rs Tryz.results27 (.tm rfl (.tm rfl .nil)) rfl rfl
         ·exact bs xA fun eC dB xA=>ct<|rg<|m_ rfl<|m_ rfl<|bF (ys:=[oB.1]) Tryz.underlying44 ET22 (BldA.cons rfl rfl rdV (BldA.nil _)) rfl rfl<|ap dB Tryz.underlying44 AT22 rfl rfl rdV rfl fun eB=>a_ rfl<|nl<|bN<|tn<|rg<|b_ rfl<|m_ rfl<|nl<|nx eB xA rfl rfl
        ·refine fzO (t:=11) rfl<|xt<|te ?_
         cases aj xA cA
         exact te<|bh<|tn<|wr (hB _ (osi vA).symm) rfl
   ·refine by_ (t:=25) rfl (fun c7=>?_) (fun c7=>?_)
    ·exact sk_ c7 rfl<|sk_ c7 rfl<|pT c7 rfl<|rf 2 (or_t (e:=decide (a2>7)) c7) rfl k
    ·exact gc_ c7 rfl<|m_ rfl<|gc_ c7 rfl<|b_ rfl<|pF c7 rfl<|rf 2 (or_f c7) rfl k
  ·refine by_ (t:=21) rfl (fun c4=>?_) (fun c4=>?_)
   ·exact sk_ c4 rfl<|sk_ c4 rfl<|pT c4 rfl<|rf 2 (or_t (e:=decide (a2<0)) c4) rfl k
   ·exact gc_ c4 rfl<|m_ rfl<|gc_ c4 rfl<|b_ rfl<|pF c4 rfl<|rf 2 (or_f c4) rfl k
 ·refine by_ (t:=17) rfl (fun c1=>?_) (fun c1=>?_)
  ·exact sk_ c1 rfl<|sk_ c1 rfl<|pT c1 rfl<|rf 2 (or_t (e:=decide (a1>16)) c1) rfl k
  ·exact gc_ c1 rfl<|m_ rfl<|gc_ c1 rfl<|b_ rfl<|pF c1 rfl<|rf 2 (or_f c1) rfl k
noncomputable def iB (a0:aA) (a1:List au) (a2:List Int):Option ((List (List Int))×Int×Int):=
 (iO a2 a0.Chunks).bind fun y1=>
 bif y1.2 != 0 then
  some ([],0,y1.2)
 else
  (ju y1.1.Noise a0.Num a0.Den a0.Noise).bind fun y5=>
  bif y5.2 != 0 then
   some ([],0,y5.2)
  else
   bif decide ((IntKind.wrap .i64 ((a1.length:Int)+y5.1))>256) then
    some ([],0,213)
   else
    (jv y1.1.Noise y5.1 (IntKind.wrap .i64 (a0.Left - 1))).bind fun y9=>
    bif y9.2 != 0 then
     some ([],0,y9.2)
    else
     (((Loop.run (S:=((List (List Int))×Int)) (R:=(List (List Int))) (fun(yA,xA)=>
       bif decide (xA<(a1.length:Int)) then
        (idx a1 xA).bind fun zA=>
        (app yA [zA.Cell]).bind fun hA=>
        some (.next (hA,IntKind.wrap .i64 (xA+1)))
       else
        some (.done yA)) ([],0)).bind fun bA=>
     some bA
      :Option (List (List Int)))).bind fun vA=>
     (app vA y9.1).bind fun oA=>
     some (oA,y5.1,0)
theorem o84 {a0:aA} {a1:List au} {a2:List Int} {r0:((List (List Int))×Int×Int)} (hF:iB a0 a1 a2=some r0) (L:List Res):Ok Tryz.prog 65 [SV.val aH a0,SV.val (kSl aR) a1,SV.val K7 a2] L (SV.tup [SV.val K1 r0.1,SV.raw (.int .i64 r0.2.1),SV.raw (.int .i64 r0.2.2)]) L:=by
 unfold iB at hF
 refine okI 75 Tryz.func65 rfl rfl rfl fun F0=>?_
 refine bs hF fun y1 h2 hF=>sr<|bX (K:=aH) rfl rdV rfl<|a_ rfl<|a_ rfl<|a_ rfl<|ns<|m_ rfl<|oF fb24k7 rfl<|oI kt3 rfl<|cx Tryz.call22 rfl (o78 h2 _)<|m_ rfl<|oE rfl<|oE rfl<|al ZT51 rfl fun b3=>sP (x':=y1.1) .box .id sz51k rfl rfl rdV rfl<|a_ rfl<|nl<|fz (t:=9) rfl<|tn<|sq<|sr<|mb rfl<|nt<|it hF rfl (fun hF=>?_) (fun hF=>?_)
 ·refine sr<|m_ rfl<|a_ rfl<|a_ rfl<|a_ rfl<|nt<|rt<|tV (K:=kSl K7) (x:=[]) (t:=6) rfl rdN ?_
  cases osi hF
  exact rs Tryz.results65 (.tm rfl (.tm rfl (.tm rfl .nil))) rfl rfl
 ·refine bs hF fun y5 h6 hF=>ct<|sr<|oF fb51k rfl<|oL kt22 rfl<|oF fb24k5 rfl<|oI kt3 rfl<|oF fb24k4 rfl<|oI kt3 rfl<|oF fb24k6 rfl<|oI kt3 rfl<|cx Tryz.call23 rfl (o80 h6 _)<|m_ rfl<|oE rfl<|oE rfl<|a_ rfl<|a_ rfl<|nt<|sq<|sr<|mb rfl<|nt<|it hF rfl (fun hF=>?_) (fun hF=>?_)
  ·refine sr<|m_ rfl<|a_ rfl<|a_ rfl<|a_ rfl<|nt<|rt<|tV (K:=kSl K7) (x:=[]) (t:=6) rfl rdN ?_
   cases osi hF
   exact rs Tryz.results65 (.tm rfl (.tm rfl (.tm rfl .nil))) rfl rfl
  ·refine ct<|sq<|sr<|m_ rfl<|oN Tryz.underlying59 rfl<|mb rfl<|b_ rfl<|nt<|it hF rfl (fun hF=>?_) (fun hF=>?_)
   ·refine sr<|a_ rfl<|a_ rfl<|a_ rfl<|nt<|rt<|tV (K:=kSl K7) (x:=[]) (t:=6) rfl rdN ?_
    cases osi hF
    exact rs Tryz.results65 (.tm rfl (.tm rfl (.tm rfl .nil))) rfl rfl
   ·refine bs hF fun y9 dA hF=>ct<|sr<|oF fb51k rfl<|oL kt22 rfl<|m_ rfl<|oF fb24k1 rfl<|oI kt3 rfl<|b_ rfl<|cx Tryz.call27 rfl (o83 dA _)<|m_ rfl<|oE rfl<|oE rfl<|a_ rfl<|a_ rfl<|nt<|sq<|sr<|mb rfl<|nt<|it hF rfl (fun hF=>?_) (fun hF=>?_)
    ·refine sr<|m_ rfl<|a_ rfl<|a_ rfl<|a_ rfl<|nt<|rt<|tV (K:=kSl K7) (x:=[]) (t:=6) rfl rdN ?_
     cases osi hF
     exact rs Tryz.results65 (.tm rfl (.tm rfl (.tm rfl .nil))) rfl rfl
    ·refine bs hF fun eA bA hF=>ct<|sr<|a_ rfl<|nt<|sq<|Under.after (fun X=>∀(vA:List (List Int)) (oA:Value),eA=vA→Under F0 75 [(11,.raw (.int .i64 y5.1)),(12,.val K1 y9.1),(13,.raw oA)] ((.own K7 oA 22 vA)::L) X) ?_ ?_
     ·intro vA oA hA
      replace hA:=hA.symm
      subst hA
      refine bs hF fun pA cA hF=>sr<|m_ rfl<|m_ rfl<|ap cA Tryz.underlying44 AT22 rfl rfl rdV rfl fun tA=>m_ rfl<|a_ rfl<|a_ rfl<|a_ rfl<|nl<|fzO (t:=6) rfl<|tn<|rc ?_
      cases osi hF
      exact rs Tryz.results65 (.tm rfl (.tm rfl (.tm rfl .nil))) rfl rfl
     ·intro K qA
      refine bs bA fun uA rA bA=>sr<|m_ rfl<|oN Tryz.underlying59 rfl<|m_ rfl<|nt<|bk<|Under.ownNil (K:=kSl K10) (e:=22)<|lp rA (C:=Value) (.slice none 0 0) (fun xA zA=>[(11,.raw (.int .i64 y5.1)),(12,.val K1 y9.1),(13,.raw zA),(59,.val (kSl aR) a1),(60,.raw (.int .i64 (a1.length:Int))),(61,.raw (.int .i64 xA.2))]) (fun xA zA=>(.own K7 zA 22 xA.1)::L) rfl rfl fun xA zA xB yA wA=>?_
      obtain⟨yB,zB⟩:=xA
      dsimp only at yA⊢
      refine sr<|b_ rfl<|nt<|sq<|it yA rfl (fun yA=>?_) (fun yA=>?_)
      ·exact bs yA fun kA gA yA=>bs yA fun hB mA yA=>ct<|sq<|bk<|sr<|oS gA Tryz.underlying59 sz66 rfl<|oL kt66 rfl<|al ZT66 rfl fun bB=>sP (x':=kA) .box .id sz66k rfl rfl rdV rfl<|nl<|fz (t:=15) rfl<|tn<|rg<|m_ rfl<|oF fb66k1 rfl<|oL kt22 rfl<|bF (ys:=[kA.Cell]) Tryz.underlying44 ET22 (BldA.cons rfl rfl rdV (BldA.nil _)) rfl rfl<|ap mA Tryz.underlying44 AT22 rfl rfl rdV rfl fun nA=>a_ rfl<|nl<|bN<|tn<|rg<|b_ rfl<|m_ rfl<|nl<|nx nA yA rfl rfl
      ·refine xt<|te ?_
       cases aj yA wA
       exact te<|bh<|tn<|wr (qA _ _ (osi bA).symm) rfl
end Go.Proofs.YtobbmodjdkcdcaaGreatDoor

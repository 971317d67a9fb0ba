import Derived.Test.YtdkfkpbijdimkaaGreatDoorTh2
set_option linter.unusedVariables false
set_option linter.unusedSimpArgs false
set_option maxRecDepth 20000
namespace Go.Proofs.YtdkfkpbijdimkaaGreatDoor
open Go Go.Sim Go.ChangeShapes Go.WideShapes Go.ChangeAt Go.RowKit
set_option linter.unusedSectionVars false
variable [Fu]
noncomputable def bP (a0:List Int) (a1:List Int) (a2:List Int) (a3:Int):Option (List Int):=
 (((Loop.run (S:=(Int×(List Int))) (R:=(List Int)) (fun(yA,zA)=>
   bif decide (yA<64) then
    ((((bif decide (yA<16) then
     (((Loop.run (S:=(Int×(List Int))) (R:=(List Int)) (fun(eA,oA)=>
       bif decide (eA<4) then
        (idx oA yA).bind fun xB=>
        (idx a2 (IntKind.wrap .i64 ((IntKind.wrap .i64 (a3+(IntKind.wrap .i64 (4*yA))))+eA))).bind fun yB=>
        (idx oA yA).bind fun rC=>
        some (.next (IntKind.wrap .i64 (eA+1),List.set oA (Int.toNat yA) (orI .u32 (shlI .u32 xB 8) (IntKind.wrap .u32 yB))))
       else
        some (.done oA)) (0,zA)).bind fun zB=>
     some zB
      :Option (List Int))).bind fun hB=>
     some (.inl hB)
    else
     some (.inr ())
     : Option ((List Int) ⊕ Unit))).bind fun bB => match bB with
     | .inl x3755=>
      some x3755
     | .inr _=>
      (idx zA (IntKind.wrap .i64 (yA - 15))).bind fun cA=>
      (idx zA (IntKind.wrap .i64 (yA - 2))).bind fun qA=>
      (au cA 7).bind fun vB=>
      (au cA 18).bind fun oB=>
      (au qA 17).bind fun kB=>
      (au qA 19).bind fun dB=>
      (idx zA (IntKind.wrap .i64 (yA - 7))).bind fun eB=>
      (idx zA (IntKind.wrap .i64 (yA - 16))).bind fun cB=>
      (idx zA yA).bind fun wC=>
      some (List.set zA (Int.toNat yA) (IntKind.wrap .u32 ((IntKind.wrap .u32 ((IntKind.wrap .u32 ((xorI .u32 (xorI .u32 kB dB) (shrI .u32 qA 10))+eB))+(xorI .u32 (xorI .u32 vB oB) (shrI .u32 cA 3))))+cB)))
     :Option (List Int))).bind fun qB=>
    some (.next (IntKind.wrap .i64 (yA+1),qB))
   else
    some (.done zA)) (0,(List.replicate 64 (0:Int)))).bind fun rB=>
 some rB
  :Option (List Int))).bind fun wB=>
 (((Loop.run (S:=(Int×(List Int))) (R:=(List Int)) (fun(kA,xA)=>
   bif decide (kA<64) then
    (idx xA 0).bind fun bA=>
    (idx xA 4).bind fun hA=>
    (idx xA 7).bind fun rA=>
    (au hA 6).bind fun wA=>
    (au hA 11).bind fun gA=>
    (au hA 25).bind fun mA=>
    (idx xA 5).bind fun nA=>
    (idx xA 6).bind fun pA=>
    (idx a1 kA).bind fun tA=>
    (idx wB kA).bind fun uA=>
    (au bA 2).bind fun gB=>
    (au bA 13).bind fun mB=>
    (au bA 22).bind fun nB=>
    (idx xA 1).bind fun pB=>
    (idx xA 2).bind fun tB=>
    (idx xA 1).bind fun uB=>
    (idx xA 2).bind fun xC=>
    (idx xA 1).bind fun yC=>
    (idx xA 2).bind fun zC=>
    (idx xA 3).bind fun hC=>
    (idx xA 5).bind fun bC=>
    (idx xA 6).bind fun vC=>
    some (.next (IntKind.wrap .i64 (kA+1),[IntKind.wrap .u32 ((IntKind.wrap .u32 ((IntKind.wrap .u32 ((IntKind.wrap .u32 ((IntKind.wrap .u32 (rA+(xorI .u32 (xorI .u32 wA gA) mA)))+(xorI .u32 (andI .u32 hA nA) (andI .u32 (cplI .u32 hA) pA))))+tA))+uA))+(IntKind.wrap .u32 ((xorI .u32 (xorI .u32 gB mB) nB)+(xorI .u32 (xorI .u32 (andI .u32 bA pB) (andI .u32 bA tB)) (andI .u32 uB xC))))),bA,yC,zC,IntKind.wrap .u32 (hC+(IntKind.wrap .u32 ((IntKind.wrap .u32 ((IntKind.wrap .u32 ((IntKind.wrap .u32 (rA+(xorI .u32 (xorI .u32 wA gA) mA)))+(xorI .u32 (andI .u32 hA nA) (andI .u32 (cplI .u32 hA) pA))))+tA))+uA))),hA,bC,vC]))
   else
    some (.done xA)) (0,a0)).bind fun oC=>
 some oC
  :Option (List Int))).bind fun kC=>
 (((Loop.run (S:=(Int×(List Int))) (R:=(List Int)) (fun(vA,dA)=>
   bif decide (vA<8) then
    (idx dA vA).bind fun dC=>
    (idx kC vA).bind fun eC=>
    (idx dA vA).bind fun gC=>
    some (.next (IntKind.wrap .i64 (vA+1),List.set dA (Int.toNat vA) (IntKind.wrap .u32 (dC+eC))))
   else
    some (.done dA)) (0,a0)).bind fun cC=>
 some cC
  :Option (List Int))).bind fun qC=>
 some qC
theorem o60 {a0 a1 a2:List Int} {a3:Int} {r0:(List Int)} (hF:bP a0 a1 a2 a3=some r0) (L:List Res):Ok Tryz.prog 181 [SV.val K4 a0,SV.val K2 a1,SV.val K8 a2,SV.raw (.int .i64 a3)] L (SV.val K4 r0) L:=by
 unfold bP at hF
 refine okI 184 Tryz.func181 rfl rfl rfl fun F0=>?_
 refine bs hF fun eA oB hF=>sr<|Under.bx (K:=kArr 8 K9) rfl rdV rfl fun b1=>bX (K:=kArr 64 K9) rfl rdV rfl<|al ZT250 rfl fun b2=>ns<|al ZT295 rfl fun b3=>nt<|sq<|afr (r:=eA) (fun eA=>[(4,pb b1),(5,.ptr K2 a1),(8,pb b2),(9,.ptr K2 eA)]) (fun eA=>((.box K4 b1 250 a0)::(.box K4 b2 250 (List.replicate 8 (0:Int)))::L)) ?_ fun K wD=>?_
 ·refine bs hF fun cA kB hF=>sr<|lP .box .id kt250k rfl rfl<|al ZT250 rfl fun qB=>sP (x':=a0) .box .id sz250k rfl rfl rdV rfl<|nt<|sq<|afr (r:=cA) (fun cA=>[(4,pb b1),(8,pb b2),(16,.ptr K4 cA)]) (fun cA=>((.box K4 b1 250 a0)::(.box K4 b2 250 (List.replicate 8 (0:Int)))::L)) ?_ fun K gD=>?_
  ·refine bs hF fun qA dB hF=>sq<|afr (r:=qA) (fun qA=>[(4,.ptr K4 qA),(8,pb b2)]) (fun qA=>((.box K4 b2 250 (List.replicate 8 (0:Int)))::L)) ?_ fun K mD=>?_
   ·refine sr<|oL kt250 rfl<|sP (x':=qA) .box .id sz250k rfl rfl rdV rfl<|nl<|fz (t:=8) rfl<|tn<|rc ?_
    cases osi hF
    exact rs Tryz.results181 (.ce rfl kt250 .nil) rfl rfl
   ·refine bs dB fun pG nD dB=>sr<|a_ rfl<|nt<|bk<|lp nD () (fun rA rB=>[(4,pb b1),(8,pb b2),(16,.ptr K4 cA),(22,.raw (.int .i64 rA.1))]) (fun rA rB=>(.box K4 b1 250 rA.2)::(.box K4 b2 250 (List.replicate 8 (0:Int)))::L) rfl rfl fun rA rB tG zA pD=>?_
    obtain⟨tD,uD⟩:=rA
    dsimp only at zA⊢
    refine sq<|sr<|mb rfl<|nt<|it zA rfl (fun zA=>?_) (fun zA=>?_)
    ·exact bs zA fun xE wB zA=>bs zA fun yE zE zA=>bs zA fun uG gB zA=>ct<|sq<|bk<|ph rfl<|gV [0,1,2,3,4,5,6,7] [[22],[22],[4,175],[176],[22],[16,178],[179],[177,180]] 2 (by kernel_rfl) rfl<|vm_ rfl<|vm_ rfl<|Vq.v (fun G T hG=>oX .box .id wB Tryz.underlying250 sz118k rfl<|Vq.end rfl)<|Vq.v (fun G T hG=>lP .box (.ix .id wB) kt118k rfl rfl<|rI (t:=177) rfl<|Vq.end rfl)<|vm_ rfl<|vo (fun _=>OpV.ixA zE Tryz.underlying250 sz118 rfl rfl) rfl<|vo (fun _=>OpV.ldI kt118 rfl) rfl<|vb_ rfl<|vn<|p1 8 rfl rfl<|oX .box .id gB Tryz.underlying250 sz118k rfl<|pn<|p1 9 rfl rfl<|sP (x':=List.set uD (Int.toNat tD) (IntKind.wrap .u32 (xE+yE))) .box (.ix .id gB) sz118k rfl rfl rdI rfl<|pn<|pd rfl<|bN<|tn<|rg<|mb rfl<|a_ rfl<|nl<|nx () zA rfl rfl
    ·refine fz (t:=4) rfl<|xt<|te ?_
     cases aj zA pD
     exact te<|bh<|tn<|wr (mD _ (osi dB).symm) rfl
  ·refine bs kB fun xH hE kB=>sr<|a_ rfl<|nt<|bk<|f2<|f2<|lp hE () (fun wA mB=>[(4,pb b1),(5,.ptr K2 a1),(8,pb b2),(9,.ptr K2 eA),(16,pb qB),(17,.raw (.int .i64 wA.1))]) (fun wA mB=>(.box K4 b1 250 a0)::(.box K4 b2 250 (List.replicate 8 (0:Int)))::(.box K4 qB 250 wA.2)::L) rfl rfl fun wA mB yH xA bE=>?_
   obtain⟨zH,hH⟩:=wA
   dsimp only at xA⊢
   refine sq<|sr<|mb rfl<|nt<|it xA rfl (fun xA=>?_) (fun xA=>?_)
   ·exact bs xA fun kA nB xA=>bs xA fun bA pB xA=>bs xA fun nA tB xA=>bs xA fun pA vE xA=>bs xA fun tA oE xA=>bs xA fun uA kE xA=>bs xA fun xB uB xA=>bs xA fun yB xC xA=>bs xA fun zB dE xA=>bs xA fun hB eE xA=>bs xA fun yC cE xA=>bs xA fun zC qE xA=>bs xA fun hC rE xA=>bs xA fun bC vC xA=>bs xA fun oC kC xA=>bs xA fun dC eC xA=>bs xA fun cC qC xA=>bs xA fun rC wC xA=>bs xA fun gC mC xA=>bs xA fun nC pC xA=>bs xA fun tC uC xA=>bs xA fun xD yD xA=>ct<|sq<|bk<|sq<|ph rfl<|gV [0,1,2,3,4] [[16],[94],[16],[96],[95]] 3 (by kernel_rfl) rfl<|Vq.v (fun G T hG=>f2<|oX .box .id nB Tryz.underlying250 sz118k rfl<|f2<|f2<|Vq.end rfl)<|Vq.v (fun G T hG=>f2<|lP .box (.ix .id nB) kt118k rfl rfl<|rI (t:=95) rfl<|f2<|f2<|Vq.end rfl)<|Vq.v (fun G T hG=>f2<|oX .box .id pB Tryz.underlying250 sz118k rfl<|f2<|f2<|Vq.end rfl)<|Vq.v (fun G T hG=>f2<|lP .box (.ix .id pB) kt118k rfl rfl<|rI (t:=97) rfl<|f2<|f2<|Vq.end rfl)<|Vq.v (fun G T hG=>a_ rfl<|Vq.end rfl)<|vn<|p1 5 rfl rfl<|a_ rfl<|pn<|pd rfl<|tn<|sq<|ph rfl<|gV [0,1,2,3,4,5,6,7,8,9,10,11,12,13,14,15,16,17,18,19,20,21,22,23,24,25,26,27,28] [[16],[98],[19],[100],[19],[102],[101,103],[19],[105],[104,106],[99,107],[19],[16],[110],[109,111],[19],[113],[16],[115],[114,116],[112,117],[108,118],[17],[5,120],[121],[119,122],[17],[9,124],[125]] 3 (by kernel_rfl) rfl<|Vq.v (fun G T hG=>f2<|oX .box .id tB Tryz.underlying250 sz118k rfl<|f2<|f2<|Vq.end rfl)<|Vq.v (fun G T hG=>f2<|lP .box (.ix .id tB) kt118k rfl rfl<|rI (t:=99) rfl<|f2<|f2<|Vq.end rfl)<|vm_ rfl<|Vq.v (fun G T hG=>cx Tryz.call198 rfl (o59 vE _)<|Vq.end rfl)<|vm_ rfl<|Vq.v (fun G T hG=>cx Tryz.call198 rfl (o59 oE _)<|Vq.end rfl)<|vb_ rfl<|vm_ rfl<|Vq.v (fun G T hG=>cx Tryz.call198 rfl (o59 kE _)<|Vq.end rfl)<|vb_ rfl<|vb_ rfl<|vm_ rfl<|Vq.v (fun G T hG=>f2<|oX .box .id uB Tryz.underlying250 sz118k rfl<|f2<|f2<|Vq.end rfl)<|Vq.v (fun G T hG=>f2<|lP .box (.ix .id uB) kt118k rfl rfl<|rI (t:=111) rfl<|f2<|f2<|Vq.end rfl)<|vb_ rfl<|vm_ rfl<|vo (fun _=>OpV.cpl rfl) rfl<|Vq.v (fun G T hG=>f2<|oX .box .id xC Tryz.underlying250 sz118k rfl<|f2<|f2<|Vq.end rfl)<|Vq.v (fun G T hG=>f2<|lP .box (.ix .id xC) kt118k rfl rfl<|rI (t:=116) rfl<|f2<|f2<|Vq.end rfl)<|vb_ rfl<|vb_ rfl<|vb_ rfl<|vm_ rfl<|vo (fun _=>OpV.ixA dE Tryz.underlying295 sz118 rfl rfl) rfl<|vo (fun _=>OpV.ldI kt118 rfl) rfl<|vb_ rfl<|vm_ rfl<|vo (fun _=>OpV.ixA eE Tryz.underlying295 sz118 rfl rfl) rfl<|vo (fun _=>OpV.ldI kt118 rfl) rfl<|vn<|p1 29 rfl rfl<|b_ rfl<|pn<|p1 30 rfl rfl<|a_ rfl<|pn<|pd rfl<|tn<|sq<|ph rfl<|gV [0,1,2,3,4,5,6,7,8,9,10,11,12,13,14,15,16,17,18,19,20,21,22] [[18],[128],[18],[130],[129,131],[18],[133],[132,134],[18],[16],[137],[136,138],[18],[16],[141],[140,142],[139,143],[16],[145],[16],[147],[146,148],[144,149]] 3 (by kernel_rfl) rfl<|vm_ rfl<|Vq.v (fun G T hG=>cx Tryz.call198 rfl (o59 cE _)<|Vq.end rfl)<|vm_ rfl<|Vq.v (fun G T hG=>cx Tryz.call198 rfl (o59 qE _)<|Vq.end rfl)<|vb_ rfl<|vm_ rfl<|Vq.v (fun G T hG=>cx Tryz.call198 rfl (o59 rE _)<|Vq.end rfl)<|vb_ rfl<|vm_ rfl<|Vq.v (fun G T hG=>f2<|oX .box .id vC Tryz.underlying250 sz118k rfl<|f2<|f2<|Vq.end rfl)<|Vq.v (fun G T hG=>f2<|lP .box (.ix .id vC) kt118k rfl rfl<|rI (t:=138) rfl<|f2<|f2<|Vq.end rfl)<|vb_ rfl<|vm_ rfl<|Vq.v (fun G T hG=>f2<|oX .box .id kC Tryz.underlying250 sz118k rfl<|f2<|f2<|Vq.end rfl)<|Vq.v (fun G T hG=>f2<|lP .box (.ix .id kC) kt118k rfl rfl<|rI (t:=142) rfl<|f2<|f2<|Vq.end rfl)<|vb_ rfl<|vb_ rfl<|Vq.v (fun G T hG=>f2<|oX .box .id eC Tryz.underlying250 sz118k rfl<|f2<|f2<|Vq.end rfl)<|Vq.v (fun G T hG=>f2<|lP .box (.ix .id eC) kt118k rfl rfl<|rI (t:=146) rfl<|f2<|f2<|Vq.end rfl)<|Vq.v (fun G T hG=>f2<|oX .box .id qC Tryz.underlying250 sz118k rfl<|f2<|f2<|Vq.end rfl)<|Vq.v (fun G T hG=>f2<|lP .box (.ix .id qC) kt118k rfl rfl<|rI (t:=148) rfl<|f2<|f2<|Vq.end rfl)<|vb_ rfl<|vb_ rfl<|vn<|p1 23 rfl rfl<|b_ rfl<|pn<|p1 24 rfl rfl<|a_ rfl<|pn<|pd rfl<|tn<|rg<|m_ rfl<|mb rfl<|m_ rfl<|f2<|oX .box .id wC Tryz.underlying250 sz118k rfl<|lP .box (.ix .id wC) kt118k rfl rfl<|rI (t:=157) rfl<|oX .box .id mC Tryz.underlying250 sz118k rfl<|lP .box (.ix .id mC) kt118k rfl rfl<|rI (t:=159) rfl<|oX .box .id pC Tryz.underlying250 sz118k rfl<|lP .box (.ix .id pC) kt118k rfl rfl<|rI (t:=161) rfl<|mb rfl<|m_ rfl<|oX .box .id uC Tryz.underlying250 sz118k rfl<|lP .box (.ix .id uC) kt118k rfl rfl<|rI (t:=166) rfl<|oX .box .id yD Tryz.underlying250 sz118k rfl<|lP .box (.ix .id yD) kt118k rfl rfl<|rI (t:=168) rfl<|ov (OpV.bar (ys:=[IntKind.wrap .u32 ((IntKind.wrap .u32 ((IntKind.wrap .u32 ((IntKind.wrap .u32 ((IntKind.wrap .u32 (nA+(xorI .u32 (xorI .u32 pA tA) uA)))+(xorI .u32 (andI .u32 bA xB) (andI .u32 (cplI .u32 bA) yB))))+zB))+hB))+(IntKind.wrap .u32 ((xorI .u32 (xorI .u32 yC zC) hC)+(xorI .u32 (xorI .u32 (andI .u32 kA bC) (andI .u32 kA oC)) (andI .u32 dC cC))))),kA,rC,gC,IntKind.wrap .u32 (nC+(IntKind.wrap .u32 ((IntKind.wrap .u32 ((IntKind.wrap .u32 ((IntKind.wrap .u32 (nA+(xorI .u32 (xorI .u32 pA tA) uA)))+(xorI .u32 (andI .u32 bA xB) (andI .u32 (cplI .u32 bA) yB))))+zB))+hB))),bA,tC,xD]) BTA250 (BldA.cons rfl rfl rdI (BldA.cons rfl rfl rdI (BldA.cons rfl rfl rdI (BldA.cons rfl rfl rdI (BldA.cons rfl rfl rdI (BldA.cons rfl rfl rdI (BldA.cons rfl rfl rdI (BldA.cons rfl rfl rdI (BldA.nil _)))))))))) rfl<|sP (x':=[IntKind.wrap .u32 ((IntKind.wrap .u32 ((IntKind.wrap .u32 ((IntKind.wrap .u32 ((IntKind.wrap .u32 (nA+(xorI .u32 (xorI .u32 pA tA) uA)))+(xorI .u32 (andI .u32 bA xB) (andI .u32 (cplI .u32 bA) yB))))+zB))+hB))+(IntKind.wrap .u32 ((xorI .u32 (xorI .u32 yC zC) hC)+(xorI .u32 (xorI .u32 (andI .u32 kA bC) (andI .u32 kA oC)) (andI .u32 dC cC))))),kA,rC,gC,IntKind.wrap .u32 (nC+(IntKind.wrap .u32 ((IntKind.wrap .u32 ((IntKind.wrap .u32 ((IntKind.wrap .u32 (nA+(xorI .u32 (xorI .u32 pA tA) uA)))+(xorI .u32 (andI .u32 bA xB) (andI .u32 (cplI .u32 bA) yB))))+zB))+hB))),bA,tC,xD]) .box .id sz250k rfl rfl rdV rfl<|nl<|bN<|tn<|rg<|mb rfl<|a_ rfl<|nl<|f2<|f2<|nx () xA rfl rfl
   ·refine f2<|fz (t:=16) rfl<|xt<|te ?_
    cases aj xA bE
    exact te<|bh<|tn<|wr (gD _ (osi kB).symm) rfl
 ·refine bs oB fun bH wE oB=>sr<|a_ rfl<|nt<|bk<|f1<|f2<|lp wE () (fun gA zD=>[(2,.val K8 a2),(3,.raw (.int .i64 a3)),(4,pb b1),(5,.ptr K2 a1),(8,pb b2),(9,pb b3),(10,.raw (.int .i64 gA.1))]) (fun gA zD=>(.box K4 b1 250 a0)::(.box K4 b2 250 (List.replicate 8 (0:Int)))::(.box K2 b3 295 gA.2)::L) rfl rfl fun gA zD vH vA gE=>?_
  obtain⟨dA,hD⟩:=gA
  dsimp only at vA⊢
  refine sq<|sr<|mb rfl<|nt<|it vA rfl (fun vA=>?_) (fun vA=>?_)
  ·refine bs vA fun bB yA vA=>ct<|sq<|afr (r:=bB) (fun bB=>[(2,.val K8 a2),(3,.raw (.int .i64 a3)),(4,pb b1),(5,.ptr K2 a1),(8,pb b2),(9,pb b3),(10,.raw (.int .i64 dA))]) (fun bB=>((.box K4 b1 250 a0)::(.box K4 b2 250 (List.replicate 8 (0:Int)))::(.box K2 b3 295 bB)::L)) ?_ fun K bD=>?_
   ·exact rg<|mb rfl<|a_ rfl<|nl<|nx () vA rfl rfl
   ·refine bs yA fun mE oA yA=>bk<|sq<|Under.after (fun X=>∀(_:Unit),mE=(.inr ())→Under F0 184 [(2,.val K8 a2),(3,.raw (.int .i64 a3)),(4,pb b1),(5,.ptr K2 a1),(8,pb b2),(9,pb b3),(10,.raw (.int .i64 dA))] ((.box K4 b1 250 a0)::(.box K4 b2 250 (List.replicate 8 (0:Int)))::(.box K2 b3 295 hD)::L) X) ?_ ?_
    ·intro _ eB
     replace eB:=eB.symm
     subst eB
     exact bs yA fun nE vD yA=>bs yA fun pE oD yA=>bs yA fun tE uE yA=>bs yA fun xG yG yA=>bs yA fun zG bG yA=>bs yA fun vG oG yA=>bs yA fun kG kD yA=>bs yA fun dG dD yA=>bs yA fun oH eD yA=>sq<|ph rfl<|gV [0,1,2,3,4,5,6,7,8] [[10],[50],[9,51],[52],[10],[54],[9,55],[56],[53]] 3 (by kernel_rfl) rfl<|vm_ rfl<|vb_ rfl<|Vq.v (fun G T hG=>f2<|oX .box .id vD Tryz.underlying295 sz118k rfl<|f2<|f2<|Vq.end rfl)<|Vq.v (fun G T hG=>f2<|lP .box (.ix .id vD) kt118k rfl rfl<|rI (t:=53) rfl<|f2<|f2<|Vq.end rfl)<|vm_ rfl<|vb_ rfl<|Vq.v (fun G T hG=>f2<|oX .box .id oD Tryz.underlying295 sz118k rfl<|f2<|f2<|Vq.end rfl)<|Vq.v (fun G T hG=>f2<|lP .box (.ix .id oD) kt118k rfl rfl<|rI (t:=57) rfl<|f2<|f2<|Vq.end rfl)<|Vq.v (fun G T hG=>a_ rfl<|Vq.end rfl)<|vn<|p1 9 rfl rfl<|a_ rfl<|pn<|pd rfl<|tn<|sr<|m_ rfl<|cx Tryz.call198 rfl (o59 uE _)<|m_ rfl<|cx Tryz.call198 rfl (o59 yG _)<|b_ rfl<|m_ rfl<|ov (OpV.sh rfl rfl (by decide) rfl) rfl<|b_ rfl<|a_ rfl<|ns<|m_ rfl<|cx Tryz.call198 rfl (o59 bG _)<|m_ rfl<|cx Tryz.call198 rfl (o59 oG _)<|b_ rfl<|m_ rfl<|ov (OpV.sh rfl rfl (by decide) rfl) rfl<|b_ rfl<|a_ rfl<|nt<|ph rfl<|gV [0,1,2,3,4,5,6,7,8,9,10,11,12,13] [[10],[15],[10],[76],[9,77],[78],[75,79],[14],[80,81],[10],[83],[9,84],[85],[82,86]] 3 (by kernel_rfl) rfl<|vm_ rfl<|vm_ rfl<|vm_ rfl<|vb_ rfl<|Vq.v (fun G T hG=>f2<|oX .box .id kD Tryz.underlying295 sz118k rfl<|f2<|f2<|Vq.end rfl)<|Vq.v (fun G T hG=>f2<|lP .box (.ix .id kD) kt118k rfl rfl<|rI (t:=79) rfl<|f2<|f2<|Vq.end rfl)<|vb_ rfl<|vm_ rfl<|vb_ rfl<|vm_ rfl<|vb_ rfl<|Vq.v (fun G T hG=>f2<|oX .box .id dD Tryz.underlying295 sz118k rfl<|f2<|f2<|Vq.end rfl)<|Vq.v (fun G T hG=>f2<|lP .box (.ix .id dD) kt118k rfl rfl<|rI (t:=86) rfl<|f2<|f2<|Vq.end rfl)<|vb_ rfl<|vn<|p1 14 rfl rfl<|f2<|oX .box .id eD Tryz.underlying295 sz118k rfl<|pn<|p1 15 rfl rfl<|sP (x':=List.set hD (Int.toNat dA) (IntKind.wrap .u32 ((IntKind.wrap .u32 ((IntKind.wrap .u32 ((xorI .u32 (xorI .u32 zG vG) (shrI .u32 pE 10))+kG))+(xorI .u32 (xorI .u32 tE xG) (shrI .u32 nE 3))))+dG))) .box (.ix .id eD) sz118k rfl rfl rdI rfl<|pn<|pd rfl<|bN<|tn<|f2<|f2<|wr (bD _ (osi yA).symm) rfl
    ·intro K eG
     refine sr<|mb rfl<|nt<|it oA rfl (fun oA=>?_) (fun oA=>?_)
     ·refine bs oA fun vB cB oA=>sq<|afr (r:=vB) (fun vB=>[(2,.val K8 a2),(3,.raw (.int .i64 a3)),(4,pb b1),(5,.ptr K2 a1),(8,pb b2),(9,pb b3),(10,.raw (.int .i64 dA))]) (fun vB=>((.box K4 b1 250 a0)::(.box K4 b2 250 (List.replicate 8 (0:Int)))::(.box K2 b3 295 vB)::L)) ?_ fun K cG=>?_
      ·refine xt ?_
       cases osi oA
       exact te<|bh<|tn<|wr (bD _ (osi yA).symm) rfl
      ·refine bs cB fun kH qG cB=>sr<|a_ rfl<|nt<|bk<|lp qG () (fun mA cD=>[(2,.val K8 a2),(3,.raw (.int .i64 a3)),(4,pb b1),(5,.ptr K2 a1),(8,pb b2),(9,pb b3),(10,.raw (.int .i64 dA)),(11,.raw (.int .i64 mA.1))]) (fun mA cD=>(.box K4 b1 250 a0)::(.box K4 b2 250 (List.replicate 8 (0:Int)))::(.box K2 b3 295 mA.2)::L) rfl rfl fun mA cD dH hA rG=>?_
       obtain⟨eH,wG⟩:=mA
       dsimp only at hA⊢
       refine sq<|sr<|mb rfl<|nt<|it hA rfl (fun hA=>?_) (fun hA=>?_)
       ·exact bs hA fun gG qD hA=>bs hA fun mG nG hA=>bs hA fun cH rD hA=>ct<|sq<|bk<|ph rfl<|gV [0,1,2,3,4,5,6,7,8,9,10,11,12,13,14,15] [[10],[10],[9,34],[35],[36],[2],[3],[10],[40],[39,41],[11],[42,43],[38,44],[45],[46],[37,47]] 3 (by kernel_rfl) rfl<|vm_ rfl<|vm_ rfl<|Vq.v (fun G T hG=>f2<|oX .box .id qD Tryz.underlying295 sz118k rfl<|f2<|f2<|Vq.end rfl)<|Vq.v (fun G T hG=>f2<|lP .box (.ix .id qD) kt118k rfl rfl<|rI (t:=36) rfl<|f2<|f2<|Vq.end rfl)<|vo (fun _=>OpV.sh rfl rfl (by decide) rfl) rfl<|vm_ rfl<|vm_ rfl<|vm_ rfl<|vb_ rfl<|vb_ rfl<|vm_ rfl<|vb_ rfl<|vo (fun _=>OpV.ixS nG Tryz.underlying24 sz5 rfl rdV rfl) rfl<|vo (fun _=>OpV.ldI kt5 rfl) rfl<|vo (fun _=>OpV.conv (by kernel_rfl) Tryz.underlying118 rfl) rfl<|vb_ rfl<|vn<|p1 16 rfl rfl<|f2<|oX .box .id rD Tryz.underlying295 sz118k rfl<|pn<|p1 17 rfl rfl<|sP (x':=List.set wG (Int.toNat dA) (orI .u32 (shlI .u32 gG 8) (IntKind.wrap .u32 mG))) .box (.ix .id rD) sz118k rfl rfl rdI rfl<|pn<|pd rfl<|bN<|tn<|rg<|mb rfl<|a_ rfl<|nl<|f2<|f2<|nx () hA rfl rfl
       ·refine xt<|te ?_
        cases aj hA rG
        exact te<|bh<|tn<|wr (cG _ (osi cB).symm) rfl
     ·exact ct<|wr (eG () (osi oA).symm) rfl
  ·refine f2<|fz (t:=9) rfl<|xt<|te ?_
   cases aj vA gE
   exact te<|bh<|tn<|wr (wD _ (osi oB).symm) rfl
noncomputable def aY (a0:List Int):Option (List Int):=
 (cn).bind fun y3=>
 (bL a0).bind fun y6=>
 (((Loop.run (S:=(Int×(List Int))) (R:=(List Int)) (fun(xA,zA)=>
   bif decide (xA<(y6.length:Int)) then
    (bP zA y3 y6 xA).bind fun hA=>
    some (.next (IntKind.wrap .i64 (xA+64),hA))
   else
    some (.done zA)) (0,[1779033703,3144134277,1013904242,2773480762,1359893119,2600822924,528734635,1541459225])).bind fun bA=>
 some bA
  :Option (List Int))).bind fun oA=>
 (((Loop.run (S:=(Int×(List Int))) (R:=(List Int)) (fun(yA,vA)=>
   bif decide (yA<32) then
    (idx oA (IntKind.wrap .i64 (Int.tdiv yA 4))).bind fun kA=>
    bif decide (0≤(IntKind.wrap .i64 (24 - (IntKind.wrap .i64 (8*(Int.tmod yA 4)))))) then
    (idx vA yA).bind fun dA=>
    some (.next (IntKind.wrap .i64 (yA+1),List.set vA (Int.toNat yA) (IntKind.wrap .u8 (shrI .u32 kA (IntKind.wrap .i64 (24 - (IntKind.wrap .i64 (8*(Int.tmod yA 4)))))))))
    else none
   else
    some (.done vA)) (0,(List.replicate 32 (0:Int)))).bind fun eA=>
 some eA
  :Option (List Int))).bind fun cA=>
 some cA
theorem o61 {a0:List Int} {r0:(List Int)} (hF:aY a0=some r0) (L:List Res):Ok Tryz.prog 141 [SV.val K8 a0] L (SV.val K5 r0) L:=by
 unfold aY at hF
 refine okI 41 Tryz.func141 rfl rfl rfl fun F0=>?_
 refine bs hF fun y3 h4 hF=>bs hF fun y6 h7 hF=>bs hF fun bA eA hF=>sr<|al ZT169 rfl fun b1=>ns<|ov (OpV.bar (ys:=[1779033703,3144134277,1013904242,2773480762,1359893119,2600822924,528734635,1541459225]) BTA250 (BldA.cons rfl rfl rdI (BldA.cons rfl rfl rdI (BldA.cons rfl rfl rdI (BldA.cons rfl rfl rdI (BldA.cons rfl rfl rdI (BldA.cons rfl rfl rdI (BldA.cons rfl rfl rdI (BldA.cons rfl rfl rdI (BldA.nil _)))))))))) rfl<|al ZT250 rfl fun b2=>sP (x':=[1779033703,3144134277,1013904242,2773480762,1359893119,2600822924,528734635,1541459225]) .box .id sz250k rfl rfl rdV rfl<|ns<|cx Tryz.call179 rfl (o57 h4 _)<|al ZT295 rfl fun b5=>sP (x':=y3) .box .id sz295k rfl rfl rdV rfl<|nl<|fz (t:=4) rfl<|tn<|sr<|m_ rfl<|cx Tryz.call180 rfl (o58 h7 _)<|a_ rfl<|nt<|sq<|afr (r:=bA) (fun bA=>[(2,pb b1),(3,.ptr K4 bA)]) (fun bA=>((.box K5 b1 169 (List.replicate 32 (0:Int)))::L)) ?_ fun K pA=>?_
 ·refine bs hF fun vA cA hF=>sr<|al ZT169 rfl fun mA=>nt<|sq<|afr (r:=vA) (fun vA=>[(2,pb b1),(7,.ptr K5 vA)]) (fun vA=>((.box K5 b1 169 (List.replicate 32 (0:Int)))::L)) ?_ fun K tA=>?_
  ·refine sr<|oL kt169 rfl<|sP (x':=vA) .box .id sz169k rfl rfl rdV rfl<|nl<|fz (t:=2) rfl<|tn<|rc ?_
   cases osi hF
   exact rs Tryz.results141 (.ce rfl kt169 .nil) rfl rfl
  ·refine bs cA fun cB uA cA=>sr<|a_ rfl<|nt<|bk<|f1<|lp uA () (fun zA oA=>[(2,pb b1),(3,.ptr K4 bA),(7,pb mA),(8,.raw (.int .i64 zA.1))]) (fun zA oA=>(.box K5 b1 169 (List.replicate 32 (0:Int)))::(.box K5 mA 169 zA.2)::L) rfl rfl fun zA oA qB yA xB=>?_
   obtain⟨nA,yB⟩:=zA
   dsimp only at yA⊢
   refine sq<|sr<|mb rfl<|nt<|it yA rfl (fun yA=>?_) (fun yA=>?_)
   ·exact bs yA fun zB hB yA=>gs yA fun bB yA=>bs yA fun vB kA yA=>ct<|sq<|bk<|rg<|m_ rfl<|m_ rfl<|ov (OpV.quo rfl rfl (by decide) rfl) rfl<|ov (OpV.ixA hB Tryz.underlying250 sz118 rfl rfl) rfl<|oI kt118 rfl<|m_ rfl<|ov (OpV.quo rfl rfl (by decide) rfl) rfl<|b_ rfl<|b_ rfl<|ov (OpV.sh rfl rfl (of_decide_eq_true bB) rfl) rfl<|oC (by kernel_rfl) Tryz.underlying5 rfl<|f1<|oX .box .id kA Tryz.underlying169 sz5k rfl<|sP (x':=List.set yB (Int.toNat nA) (IntKind.wrap .u8 (shrI .u32 zB (IntKind.wrap .i64 (24 - (IntKind.wrap .i64 (8*(Int.tmod nA 4)))))))) .box (.ix .id kA) sz5k rfl rfl rdI rfl<|nl<|bN<|tn<|rg<|mb rfl<|a_ rfl<|nl<|f1<|nx () yA rfl rfl
   ·refine f1<|fz (t:=7) rfl<|xt<|te ?_
    cases aj yA xB
    exact te<|bh<|tn<|wr (tA _ (osi cA).symm) rfl
 ·refine bs eA fun oB qA eA=>sr<|a_ rfl<|nt<|bk<|f1<|lp qA () (fun hA dA=>[(2,pb b1),(3,pb b2),(4,.ptr K2 y3),(5,.val K8 y6),(6,.raw (.int .i64 hA.1))]) (fun hA dA=>(.box K5 b1 169 (List.replicate 32 (0:Int)))::(.box K4 b2 250 hA.2)::L) rfl rfl fun hA dA kB xA rA=>?_
  obtain⟨dB,eB⟩:=hA
  dsimp only at xA⊢
  refine sq<|sr<|m_ rfl<|m_ rfl<|oN Tryz.underlying24 rfl<|b_ rfl<|nt<|it xA rfl (fun xA=>?_) (fun xA=>?_)
  ·exact bs xA fun wA gA xA=>ct<|sq<|bk<|rg<|f1<|lP .box .id kt250k rfl rfl<|oL kt295 rfl<|m_ rfl<|m_ rfl<|cx Tryz.call181 rfl (o60 gA _)<|sP (x':=wA) .box .id sz250k rfl rfl rdV rfl<|nl<|bN<|tn<|rg<|mb rfl<|a_ rfl<|nl<|f1<|nx () xA rfl rfl
  ·refine f1<|fz (t:=3) rfl<|xt<|te ?_
   cases aj xA rA
   exact te<|bh<|tn<|wr (pA _ (osi eA).symm) rfl
noncomputable def aQ (a0:List Int) (a1:Int):Option (List Int):=
 ((bif decide ((a0.length:Int)>64) then
  (aY a0).bind fun zA=>
  some zA
 else
  some a0
  :Option (List Int))).bind fun x4=>
 (((Loop.run (S:=((List Int)×Int)) (R:=(List Int)) (fun(yA,xA)=>
   bif decide (xA<64) then
    ((bif decide (xA<(x4.length:Int)) then
     (idx x4 xA).bind fun hA=>
     some hA
    else
     some 0
     :Option Int)).bind fun bA=>
    (app yA [xorI .u8 bA a1]).bind fun vA=>
    some (.next (vA,IntKind.wrap .i64 (xA+1)))
   else
    some (.done yA)) ([],0)).bind fun oA=>
 some oA
  :Option (List Int))).bind fun kA=>
 some kA
theorem o62 {a0:List Int} {a1:Int} {r0:(List Int)} (hF:aQ a0 a1=some r0) (L:List Res):OkX Tryz.prog 142 [SV.val K8 a0,SV.raw (.int .u8 a1)] L (fun y:Value=>SV.raw y) (fun y:Value=>(.own K10 y 5 r0)::L):=by
 unfold aQ at hF
 refine OkX.intro 34 [(0,.val K8 a0),(1,.raw (.int .u8 a1))] Tryz.func142 rfl rfl rfl rfl fun F0=>?_
 refine bs hF fun x4 h6 hF=>sr<|a_ rfl<|nt<|sq<|afr (r:=x4) (fun x4=>[(0,.val K8 x4),(1,.raw (.int .u8 a1))]) (fun x4=>(L)) ?_ fun K k7=>?_
 ·refine bs hF fun uA dA hF=>sr<|a_ rfl<|nt<|sq<|Under.after (fun X=>∀(eA:List Int) (kA:Value),uA=eA→Under F0 34 [(6,.raw kA)] ((.own K10 kA 5 eA)::L) X) ?_ ?_
  ·intro eA kA vA
   replace vA:=vA.symm
   subst vA
   refine sr<|m_ rfl<|a_ rfl<|nt<|rc ?_
   cases osi hF
   exact Under.retsX kA Tryz.results142 (.tm rfl .nil) rfl rfl
  ·intro K xB
   refine bs dA fun yB cA dA=>sr<|a_ rfl<|nt<|bk<|Under.ownNil (K:=kInt .u8) (e:=5)<|lp cA (C:=Value) (.slice none 0 0) (fun hA zA=>[(0,.val K8 x4),(1,.raw (.int .u8 a1)),(6,.raw zA),(7,.raw (.int .i64 hA.2))]) (fun hA zA=>(.own K10 zA 5 hA.1)::L) rfl rfl fun hA zA zB xA qA=>?_
   obtain⟨rA,wA⟩:=hA
   dsimp only at xA⊢
   refine sq<|sr<|mb rfl<|nt<|it xA rfl (fun xA=>?_) (fun xA=>?_)
   ·refine bs xA fun bA yA xA=>ct<|sq<|bk<|sr<|a_ rfl<|nt<|sq<|afr (r:=bA) (fun bA=>[(0,.val K8 x4),(1,.raw (.int .u8 a1)),(6,.raw zA),(7,.raw (.int .i64 wA)),(8,.raw (.int .u8 bA))]) (fun bA=>((.own K10 zA 5 rA)::L)) ?_ fun K oA=>?_
    ·exact bs xA fun hB gA xA=>rg<|m_ rfl<|m_ rfl<|mb rfl<|bF (ys:=[xorI .u8 bA a1]) Tryz.underlying24 ET5 (BldA.cons rfl rfl rdI (BldA.nil _)) rfl rfl<|ap gA Tryz.underlying24 AT5 rfl rfl rdV rfl fun mA=>a_ rfl<|nl<|bN<|tn<|rg<|mb rfl<|a_ rfl<|nl<|nx mA xA rfl rfl
    ·refine sr<|m_ rfl<|m_ rfl<|oN Tryz.underlying24 rfl<|b_ rfl<|nt<|it yA rfl (fun yA=>?_) (fun yA=>?_)
     ·exact bs yA fun bB nA yA=>rg<|m_ rfl<|m_ rfl<|oS nA Tryz.underlying24 sz5 rfl<|oI kt5 rfl<|a_ rfl<|nt<|wr (oA _ (osi yA).symm) rfl
     ·exact ct<|wr (oA _ (osi yA).symm) rfl
   ·refine xt<|te ?_
    cases aj xA qA
    exact te<|bh<|tn<|wr (xB _ _ (osi dA).symm) rfl
 ·refine sr<|m_ rfl<|oN Tryz.underlying24 rfl<|b_ rfl<|nt<|it h6 rfl (fun h6=>?_) (fun h6=>?_)
  ·exact bs h6 fun pA tA h6=>sr<|m_ rfl<|cx Tryz.call141 rfl (o61 tA _)<|al ZT169 rfl fun vB=>sP (x':=pA) .box .id sz169k rfl rfl rdV rfl<|nl<|fz (t:=5) rfl<|tn<|rg<|ov (OpV.slA Tryz.underlying169 sz5 rfl) rfl<|a_ rfl<|nt<|wr (k7 _ (osi h6).symm) rfl
  ·exact ct<|wr (k7 _ (osi h6).symm) rfl
noncomputable def be (a0:List Int) (a1:List Int):Option (List Int):=
 (aQ a0 54).bind fun y2=>
 (app y2 a1).bind fun z5=>
 (aY z5).bind fun y8=>
 (aQ a0 92).bind fun xA=>
 (app xA y8).bind fun yA=>
 (aY yA).bind fun zA=>
 some zA
theorem o63 {a0 a1:List Int} {r0:(List Int)} (hF:be a0 a1=some r0) (L:List Res):Ok Tryz.prog 114 [SV.val K8 a0,SV.val K8 a1] L (SV.val K5 r0) L:=by
 unfold be at hF
 refine okI 16 Tryz.func114 rfl rfl rfl fun F0=>?_
 refine bs hF fun y2 h3 hF=>sr<|al ZT169 rfl fun b1=>ns<|m_ rfl<|Under.callX Tryz.call142 rfl rfl (o62 h3 _) rfl ?_
 rintro v4
 refine bs hF fun z5 h6 hF=>bs hF fun y8 h9 hF=>bs hF fun yA zA hF=>bs hF fun kA hA hF=>bs hF fun bA vA hF=>m_ rfl<|ap h6 Tryz.underlying24 AT5 rfl rfl rdV rfl fun v7=>fzO (t:=9) rfl<|cx Tryz.call141 rfl (o61 h9 _)<|al ZT169 rfl fun dA=>sP (x':=y8) .box .id sz169k rfl rfl rdV rfl<|nl<|fz (t:=5) rfl<|tn<|sq<|ph rfl<|Under.grpT (L:=L) [0,1,2] [[0],[11],[5]] [⟨sk0 (.val K8 a0),[],[],[]⟩,⟨sk1 1 (fun u1=> .raw u1),[],[(0,tk1 1 (fun u1=> .own K10 u1 5 yA))],[]⟩,⟨sk0 (.val K8 y8),[],[],[]⟩] [] (fun T:List Res=>(.box K5 b1 169 (List.replicate 32 (0:Int)))::T) lf1 rfl (by kernel_rfl) rfl rfl (fun F hF0 xA=>?_)
 refine Tq.v (fun G T hG=>?_) ?_
 ·exact m_ rfl<|Tq.end undef rfl rfl
 refine Tq.st (.raw (xA 1)) [] rfl rfl (fun G T hG=>?_) ?_
 ·refine Under.callX Tryz.call142 rfl rfl (o62 zA _) rfl ?_
  rintro oA
  exact Tq.end oA rfl rfl
 refine Tq.v (fun G T hG=>?_) ?_
 ·exact ov (OpV.slA Tryz.underlying169 sz5 rfl) rfl<|Tq.end undef rfl rfl
 refine Tq.nil<|Under.le hF0<|p1 3 rfl rfl<|f1<|ap hA Tryz.underlying24 AT5 rfl rfl rdV rfl fun eA=>pn<|p1 4 rfl rfl<|fzO (t:=14) rfl<|cx Tryz.call141 rfl (o61 vA _)<|pn<|p1 5 rfl rfl<|sP (x':=bA) .box .id sz169k rfl rfl rdV rfl<|pn<|pd rfl<|fz (t:=4) rfl<|tn<|rc ?_
 cases osi hF
 exact rs Tryz.results114 (.ce rfl kt169 .nil) rfl rfl
noncomputable def cg (a0:List Int) (a1:List Int):Option (List Int):=
 (be a0 a1).bind fun y2=>
 some y2
theorem o64 {a0 a1:List Int} {r0:(List Int)} (hF:cg a0 a1=some r0) (L:List Res):Ok Tryz.prog 73 [SV.val K8 a0,SV.val K8 a1] L (SV.val K5 r0) L:=by
 unfold cg at hF
 refine okI 8 Tryz.func73 rfl rfl rfl fun F0=>?_
 refine bs hF fun y2 h3 hF=>sr<|al ZT169 rfl fun b1=>ns<|m_ rfl<|m_ rfl<|cx Tryz.call114 rfl (o63 h3 _)<|sP (x':=y2) .box .id sz169k rfl rfl rdV rfl<|nl<|fz (t:=4) rfl<|tn<|rc ?_
 cases osi hF
 exact rs Tryz.results73 (.ce rfl kt169 .nil) rfl rfl
noncomputable def bQ (a0:List Int) (a1:List Int) (a2:Int):Option ((List Int)×Int):=
 bif decide (a2<0) then
  some ([],2)
 else
  bif decide (a2>8160) then
   some ([],1)
  else
   (((Loop.run (S:=((List Int)×(List Int)×Int)) (R:=(List Int)) (fun(xA,hA,yA)=>
     bif decide ((xA.length:Int)<a2) then
      (app [] hA).bind fun bA=>
      (app bA a1).bind fun vA=>
      (app vA [IntKind.wrap .u8 yA]).bind fun oA=>
      (be a0 oA).bind fun zA=>
      (app xA zA).bind fun kA=>
      some (.next (kA,zA,IntKind.wrap .i64 (yA+1)))
     else
      some (.done xA)) ([],[],1)).bind fun dA=>
   some dA
    :Option (List Int))).bind fun eA=>
   (sub eA 0 a2).bind fun cA=>
   bif decide (a2≤a2∧a2≤(eA.length:Int)) then
   some (cA,0)
   else none
theorem o65 {a0 a1:List Int} {a2:Int} {r0:((List Int)×Int)} (hF:bQ a0 a1 a2=some r0) (L:List Res):Ok Tryz.prog 74 [SV.val K8 a0,SV.val K8 a1,SV.raw (.int .i64 a2)] L (SV.tup [SV.val K8 r0.1,SV.raw (.int .i64 r0.2)]) L:=by
 unfold bQ at hF
 refine okI 41 Tryz.func74 rfl rfl rfl fun F0=>?_
 refine sr<|a_ rfl<|a_ rfl<|nt<|sq<|sr<|mb rfl<|nt<|it hF rfl (fun hF=>?_) (fun hF=>?_)
 ·refine sr<|a_ rfl<|a_ rfl<|nt<|rt<|tV (K:=kSl K10) (x:=[]) (t:=6) rfl rdN ?_
  cases osi hF
  exact rs Tryz.results74 (.tm rfl (.tm rfl .nil)) rfl rfl
 ·refine ct<|sq<|sr<|mb rfl<|nt<|it hF rfl (fun hF=>?_) (fun hF=>?_)
  ·refine sr<|a_ rfl<|a_ rfl<|nt<|rt<|tV (K:=kSl K10) (x:=[]) (t:=6) rfl rdN ?_
   cases osi hF
   exact rs Tryz.results74 (.tm rfl (.tm rfl .nil)) rfl rfl
  ·refine bs hF fun hA bA hF=>ct<|sr<|a_ rfl<|a_ rfl<|nt<|sq<|afr (r:=hA) (fun hA=>[(2,.raw (.int .i64 a2)),(8,.val K8 hA)]) (fun hA=>(L)) ?_ fun K mA=>?_
   ·refine bs hF fun qB nA hF=>gs hF fun pA hF=>sr<|m_ rfl<|m_ rfl<|m_ rfl<|ov (OpV.sl3 nA pA Tryz.underlying24 sz5 rfl rdV rfl rfl rfl) rfl<|a_ rfl<|a_ rfl<|nt<|rc ?_
    cases osi hF
    exact rs Tryz.results74 (.tm rfl (.tm rfl .nil)) rfl rfl
   ·refine bs bA fun tA vA bA=>sr<|a_ rfl<|nt<|bk<|Under.ownNil (K:=kInt .u8) (e:=5)<|tV (K:=kSl K10) (x:=[]) (t:=9) rfl rdN<|lp vA (C:=Value) (.slice none 0 0) (fun yA zA=>[(0,.val K8 a0),(1,.val K8 a1),(2,.raw (.int .i64 a2)),(8,.raw zA),(9,.val K8 yA.2.1),(10,.raw (.int .i64 yA.2.2))]) (fun yA zA=>(.own K10 zA 5 yA.1)::L) rfl rfl fun yA zA uA xA oA=>?_
    obtain⟨xB,yB,kA⟩:=yA
    dsimp only at xA⊢
    refine sq<|sr<|m_ rfl<|ov (OpV.lenO Tryz.underlying24 rfl) rfl<|mb rfl<|nt<|it xA rfl (fun xA=>?_) (fun xA=>?_)
    ·exact bs xA fun zB dA xA=>bs xA fun hB eA xA=>bs xA fun bB cA xA=>bs xA fun qA rA xA=>bs xA fun vB wA xA=>ct<|sq<|bk<|sr<|m_ rfl<|bO (ys:=[]) Tryz.underlying24 ET5 (BldA.nil _) rfl rfl fun oB=>m_ rfl<|ap dA Tryz.underlying24 AT5 rfl rfl rdV rfl fun kB=>m_ rfl<|ap eA Tryz.underlying24 AT5 rfl rfl rdV rfl fun dB=>m_ rfl<|oC (by kernel_rfl) Tryz.underlying5 rfl<|bF (ys:=[IntKind.wrap .u8 kA]) Tryz.underlying24 ET5 (BldA.cons rfl rfl rdI (BldA.nil _)) rfl rfl<|ap cA Tryz.underlying24 AT5 rfl rfl rdV rfl fun eB=>fzO (t:=31) rfl<|cx Tryz.call114 rfl (o63 rA _)<|al ZT169 rfl fun cB=>sP (x':=qA) .box .id sz169k rfl rfl rdV rfl<|nl<|fz (t:=11) rfl<|tn<|sr<|ov (OpV.slA Tryz.underlying169 sz5 rfl) rfl<|a_ rfl<|nt<|rg<|m_ rfl<|m_ rfl<|ap wA Tryz.underlying24 AT5 rfl rfl rdV rfl fun gA=>a_ rfl<|nl<|bN<|tn<|rg<|mb rfl<|a_ rfl<|nl<|nx gA xA rfl rfl
    ·refine fzO (t:=8) rfl<|xt<|te ?_
     cases aj xA oA
     exact te<|bh<|tn<|wr (mA _ (osi bA).symm) rfl
noncomputable def aR (a0:List Int) (a1:List Int) (a2:List Int) (a3:Int):Option ((List Int)×Int):=
 (cg a1 a0).bind fun y1=>
 (bQ y1 a2 a3).bind fun y4=>
 some (y4.1,y4.2)
theorem o66 {a0 a1 a2:List Int} {a3:Int} {r0:((List Int)×Int)} (hF:aR a0 a1 a2 a3=some r0) (L:List Res):Ok Tryz.prog 42 [SV.val K8 a0,SV.val K8 a1,SV.val K8 a2,SV.raw (.int .i64 a3)] L (SV.tup [SV.val K8 r0.1,SV.raw (.int .i64 r0.2)]) L:=by
 unfold aR at hF
 refine okI 20 Tryz.func42 rfl rfl rfl fun F0=>?_
 refine bs hF fun y1 h2 hF=>bs hF fun y4 h5 hF=>sr<|a_ rfl<|a_ rfl<|ns<|m_ rfl<|m_ rfl<|cx Tryz.call73 rfl (o64 h2 _)<|al ZT169 rfl fun b3=>sP (x':=y1) .box .id sz169k rfl rfl rdV rfl<|nl<|fz (t:=10) rfl<|tn<|sr<|ov (OpV.slA Tryz.underlying169 sz5 rfl) rfl<|m_ rfl<|m_ rfl<|cx Tryz.call74 rfl (o65 h5 _)<|oE rfl<|oE rfl<|a_ rfl<|a_ rfl<|nt<|rc ?_
 cases osi hF
 exact rs Tryz.results42 (.tm rfl (.tm rfl .nil)) rfl rfl
noncomputable def cy (a0:List Int) (a1:Int):Option ((List Int)×Int):=
 bif (((a0.length:Int) != 32)||(decide (a1<0)))||(decide (a1>4611686018427387904)) then
  some ([],2)
 else
  (((Loop.run (S:=((List Int)×Int)) (R:=(List Int)) (fun(yA,xA)=>
    bif decide (xA≥0) then
     bif decide (0≤(IntKind.wrap .u64 xA)) then
     (app yA [IntKind.wrap .u8 (shrI .i64 a1 (IntKind.wrap .u64 xA))]).bind fun hA=>
     some (.next (hA,IntKind.wrap .i64 (xA - 8)))
     else none
    else
     some (.done yA)) ([],56)).bind fun bA=>
  some bA
   :Option (List Int))).bind fun vA=>
  bif decide (0<[99,104,117,114,110,32,104,111,112].length) then
  (aR a0 vA [99,104,117,114,110,32,104,111,112] 32).bind fun zA=>
  some (zA.1,zA.2)
  else none
theorem o67 {a0:List Int} {a1:Int} {r0:((List Int)×Int)} (hF:cy a0 a1=some r0) (L:List Res):Ok Tryz.prog 22 [SV.val K8 a0,SV.raw (.int .i64 a1)] L (SV.tup [SV.val K8 r0.1,SV.raw (.int .i64 r0.2)]) L:=by
 unfold cy at hF
 refine okI 38 Tryz.func22 rfl rfl rfl fun F0=>?_
 refine sr<|a_ rfl<|a_ rfl<|nt<|sq<|sr<|m_ rfl<|oN Tryz.underlying24 rfl<|b_ rfl<|m_ rfl<|eS 14 (((a0.length:Int) != 32)||(decide (a1<0))) ?_ (fun k=>?_)
 ·refine m_ rfl<|eS 18 ((((a0.length:Int) != 32)||(decide (a1<0)))||(decide (a1>4611686018427387904))) ?_ (fun k=>?_)
  ·refine nt<|it hF rfl (fun hF=>?_) (fun hF=>?_)
   ·refine sr<|a_ rfl<|a_ rfl<|nt<|rt<|tV (K:=kSl K10) (x:=[]) (t:=4) rfl rdN ?_
    cases osi hF
    exact rs Tryz.results22 (.tm rfl (.tm rfl .nil)) rfl rfl
   ·refine bs hF fun zA bA hF=>ct<|sr<|a_ rfl<|nt<|sq<|afr (r:=zA) (fun zA=>[(0,.val K8 a0),(6,.val K8 zA)]) (fun zA=>(L)) ?_ fun K vA=>?_
    ·refine gs hF fun oA hF=>bs hF fun gA kA hF=>sr<|m_ rfl<|m_ rfl<|bO (ys:=[99,104,117,114,110,32,104,111,112]) Tryz.underlying24 ET5 (BldA.cons rfl rfl rdI (BldA.cons rfl rfl rdI (BldA.cons rfl rfl rdI (BldA.cons rfl rfl rdI (BldA.cons rfl rfl rdI (BldA.cons rfl rfl rdI (BldA.cons rfl rfl rdI (BldA.cons rfl rfl rdI (BldA.cons rfl rfl rdI (BldA.nil _)))))))))) rfl rfl fun mA=>Under.cvS Tryz.underlying24 Tryz.underlying5 (of_decide_eq_true oA) rfl rfl<|cx Tryz.call42 rfl (o66 kA _)<|oE rfl<|oE rfl<|a_ rfl<|a_ rfl<|nt<|rc ?_
     cases osi hF
     exact rs Tryz.results22 (.tm rfl (.tm rfl .nil)) rfl rfl
    ·refine bs bA fun nA dA bA=>sr<|a_ rfl<|nt<|bk<|Under.ownNil (K:=kInt .u8) (e:=5)<|lp dA (C:=Value) (.slice none 0 0) (fun yA hA=>[(0,.val K8 a0),(1,.raw (.int .i64 a1)),(6,.raw hA),(7,.raw (.int .i64 yA.2))]) (fun yA hA=>(.own K10 hA 5 yA.1)::L) rfl rfl fun yA hA pA xA eA=>?_
     obtain⟨tA,cA⟩:=yA
     dsimp only at xA⊢
     refine sq<|sr<|mb rfl<|nt<|it xA rfl (fun xA=>?_) (fun xA=>?_)
     ·exact gs xA fun qA xA=>bs xA fun uA rA xA=>ct<|sq<|bk<|rg<|m_ rfl<|m_ rfl<|m_ rfl<|oC (by kernel_rfl) Tryz.underlying105 rfl<|ov (OpV.sh rfl rfl (of_decide_eq_true qA) rfl) rfl<|oC (by kernel_rfl) Tryz.underlying5 rfl<|bF (ys:=[IntKind.wrap .u8 (shrI .i64 a1 (IntKind.wrap .u64 cA))]) Tryz.underlying24 ET5 (BldA.cons rfl rfl rdI (BldA.nil _)) rfl rfl<|ap rA Tryz.underlying24 AT5 rfl rfl rdV rfl fun wA=>a_ rfl<|nl<|bN<|tn<|rg<|mb rfl<|a_ rfl<|nl<|nx wA xA rfl rfl
     ·refine fzO (t:=6) rfl<|xt<|te ?_
      cases aj xA eA
      exact te<|bh<|tn<|wr (vA _ (osi bA).symm) rfl
  ·refine by_ (t:=15) rfl (fun c4=>?_) (fun c4=>?_)
   ·exact sk_ c4 rfl<|sk_ c4 rfl<|pT c4 rfl<|rf 2 (or_t (e:=decide (a1>4611686018427387904)) c4) rfl k
   ·exact gc_ c4 rfl<|m_ rfl<|gc_ c4 rfl<|b_ rfl<|pF c4 rfl<|rf 2 (or_f c4) rfl k
 ·refine by_ (t:=11) rfl (fun c1=>?_) (fun c1=>?_)
  ·exact sk_ c1 rfl<|sk_ c1 rfl<|pT c1 rfl<|rf 2 (or_t (e:=decide (a1<0)) c1) rfl k
  ·exact gc_ c1 rfl<|m_ rfl<|gc_ c1 rfl<|b_ rfl<|pF c1 rfl<|rf 2 (or_f c1) rfl k
noncomputable def cc (a0:List (List Int)) (a1:List (List Int)):Option Int:=
 bif ((decide ((a0.length:Int)<1))||(decide ((a0.length:Int)>8)))||((a1.length:Int) != (a0.length:Int)) then
  some 80
 else
  (((Loop.run (S := Int) (R := (Unit ⊕ Int)) (fun xA =>
    bif decide (xA<(a0.length:Int)) then
     (idx a0 xA).bind fun yA=>
     bif (yA.length:Int) != 32 then
      some (.done (.inr 2))
     else
      some (.next (IntKind.wrap .i64 (xA+1)))
    else
     some (.done (.inl ()))) 0).bind fun zA=>match zA with
   | .inl _=>
    some (.inr ())
   | .inr z=>
    some (.inl z)
   : Option (Int ⊕ Unit))).bind fun hA => match hA with
   | .inl z=>
    some z
   | .inr _=>
    some 0
theorem o68 {a0 a1:List (List Int)} {r0:Int} (hF:cc a0 a1=some r0) (L:List Res):Ok Tryz.prog 65 [SV.val K1 a0,SV.val K0 a1] L (SV.raw (.int .i64 r0)) L:=by
 unfold cc at hF
 refine okI 33 Tryz.func65 rfl rfl rfl fun F0=>?_
 refine sr<|a_ rfl<|nt<|sq<|sr<|m_ rfl<|oN Tryz.underlying22 rfl<|b_ rfl<|m_ rfl<|df 13 ((decide ((a0.length:Int)<1))||(decide ((a0.length:Int)>8))) ?_ (fun k=>?_)
 ·refine m_ rfl<|j5 20 (((decide ((a0.length:Int)<1))||(decide ((a0.length:Int)>8)))||((a1.length:Int) != (a0.length:Int))) ?_ (fun k=>?_)
  ·refine nt<|it hF rfl (fun hF=>?_) (fun hF=>?_)
   ·refine sr<|a_ rfl<|nt<|rt ?_
    cases osi hF
    exact rs Tryz.results65 (.tm rfl .nil) rfl rfl
   ·refine bs hF fun oA yA hF=>ct<|sq<|Under.after (fun X=>∀(_:Unit),oA=(.inr ())→Under F0 33 [] (L) X) ?_ ?_
    ·intro _ zA
     replace zA:=zA.symm
     subst zA
     refine sr<|a_ rfl<|nt<|rc ?_
     cases osi hF
     exact rs Tryz.results65 (.tm rfl .nil) rfl rfl
    ·intro K kA
     refine bs yA fun cA dA yA=>sr<|a_ rfl<|nt<|bk<|lp dA () (fun hA bA=>[(0,.val K1 a0),(5,.raw (.int .i64 hA))]) (fun hA bA=>L) rfl rfl fun hA bA qA xA vA=>?_
     refine sq<|sr<|m_ rfl<|m_ rfl<|oN Tryz.underlying22 rfl<|b_ rfl<|nt<|it xA rfl (fun xA=>?_) (fun xA=>?_)
     ·refine bs xA fun rA eA xA=>ct<|sq<|bk<|sr<|m_ rfl<|m_ rfl<|oS eA Tryz.underlying22 sz24 rfl<|oL kt24 rfl<|oN Tryz.underlying24 rfl<|b_ rfl<|nt<|it xA rfl (fun xA=>?_) (fun xA=>?_)
      ·refine sr<|a_ rfl<|nt<|rc<|Under.bR<|tr ?_
       cases aj xA vA
       refine tr<|Under.bR<|tr ?_
       cases osi yA
       cases osi hF
       exact rs Tryz.results65 (.tm rfl .nil) rfl rfl
      ·exact cs<|bN<|tn<|rg<|mb rfl<|a_ rfl<|nl<|nx () xA rfl rfl
     ·refine xt<|te ?_
      cases aj xA vA
      exact te<|bh<|tn<|wr (kA () (osi yA).symm) rfl
  ·refine by_ (t:=14) rfl (fun c4=>?_) (fun c4=>?_)
   ·exact sk_ c4 rfl<|sk_ c4 rfl<|sk_ c4 rfl<|sk_ c4 rfl<|sk_ c4 rfl<|pT c4 rfl<|rf 5 (or_t (e:=(a1.length:Int) != (a0.length:Int)) c4) rfl k
   ·exact gc_ c4 rfl<|m_ rfl<|gc_ c4 rfl<|oN Tryz.underlying23 rfl<|gc_ c4 rfl<|m_ rfl<|gc_ c4 rfl<|oN Tryz.underlying22 rfl<|gc_ c4 rfl<|b_ rfl<|pF c4 rfl<|rf 5 (or_f c4) rfl k
 ·refine by_ (t:=9) rfl (fun c1=>?_) (fun c1=>?_)
  ·exact sk_ c1 rfl<|sk_ c1 rfl<|sk_ c1 rfl<|pT c1 rfl<|rf 3 (or_t (e:=decide ((a0.length:Int)>8)) c1) rfl k
  ·exact gc_ c1 rfl<|m_ rfl<|gc_ c1 rfl<|oN Tryz.underlying22 rfl<|gc_ c1 rfl<|b_ rfl<|pF c1 rfl<|rf 3 (or_f c1) rfl k
noncomputable def bW (a0:List Int) (a1:List Int):Option ((List Int)×Int):=
 bif (a0.length:Int) != 32 then
  some ([],2)
 else
  bif decide (0<[99,104,117,114,110,32,98,97,99,107].length) then
  (aR a0 a1 [99,104,117,114,110,32,98,97,99,107] 32).bind fun y4=>
  some (y4.1,y4.2)
  else none
theorem o69 {a0 a1:List Int} {r0:((List Int)×Int)} (hF:bW a0 a1=some r0) (L:List Res):Ok Tryz.prog 66 [SV.val K8 a0,SV.val K6 a1] L (SV.tup [SV.val K8 r0.1,SV.raw (.int .i64 r0.2)]) L:=by
 unfold bW at hF
 refine okI 16 Tryz.func66 rfl rfl rfl fun F0=>?_
 refine sr<|bX (K:=kArr 16 K10) rfl rdV rfl<|a_ rfl<|a_ rfl<|nt<|sq<|sr<|m_ rfl<|oN Tryz.underlying24 rfl<|b_ rfl<|nt<|it hF rfl (fun hF=>?_) (fun hF=>?_)
 ·refine sr<|a_ rfl<|a_ rfl<|nt<|rt<|tV (K:=kSl K10) (x:=[]) (t:=4) rfl rdN ?_
  cases osi hF
  exact rs Tryz.results66 (.tm rfl (.tm rfl .nil)) rfl rfl
 ·refine gs hF fun h3 hF=>bs hF fun y4 h5 hF=>ct<|sr<|m_ rfl<|ov (OpV.slA Tryz.underlying108 sz5 rfl) rfl<|bO (ys:=[99,104,117,114,110,32,98,97,99,107]) Tryz.underlying24 ET5 (BldA.cons rfl rfl rdI (BldA.cons rfl rfl rdI (BldA.cons rfl rfl rdI (BldA.cons rfl rfl rdI (BldA.cons rfl rfl rdI (BldA.cons rfl rfl rdI (BldA.cons rfl rfl rdI (BldA.cons rfl rfl rdI (BldA.cons rfl rfl rdI (BldA.cons rfl rfl rdI (BldA.nil _))))))))))) rfl rfl fun v2=>Under.cvS Tryz.underlying24 Tryz.underlying5 (of_decide_eq_true h3) rfl rfl<|cx Tryz.call42 rfl (o66 h5 _)<|oE rfl<|oE rfl<|a_ rfl<|a_ rfl<|nt<|rc ?_
  cases osi hF
  exact rs Tryz.results66 (.tm rfl (.tm rfl .nil)) rfl rfl
noncomputable def ba (a0:Int):Option Int:=
 bif (decide (a0<1))||(decide (a0>8)) then
  some 0
 else
  some (IntKind.wrap .i64 (82+(IntKind.wrap .i64 (34*(IntKind.wrap .i64 (a0 - 1))))))
theorem o70 {a0:Int} {r0:Int} (hF:ba a0=some r0) (L:List Res):Ok Tryz.prog 75 [SV.raw (.int .i64 a0)] L (SV.raw (.int .i64 r0)) L:=by
 unfold ba at hF
 refine okI 13 Tryz.func75 rfl rfl rfl fun F0=>?_
 refine sr<|a_ rfl<|nt<|sq<|sr<|mb rfl<|m_ rfl<|eS 8 ((decide (a0<1))||(decide (a0>8))) ?_ (fun k=>?_)
 ·refine nt<|it hF rfl (fun hF=>?_) (fun hF=>?_)
  ·refine sr<|a_ rfl<|nt<|rt ?_
   cases osi hF
   exact rs Tryz.results75 (.tm rfl .nil) rfl rfl
  ·refine ct<|sr<|mb rfl<|b_ rfl<|b_ rfl<|a_ rfl<|nt<|rc ?_
   cases osi hF
   exact rs Tryz.results75 (.tm rfl .nil) rfl rfl
 ·refine by_ (t:=5) rfl (fun c1=>?_) (fun c1=>?_)
  ·exact sk_ c1 rfl<|sk_ c1 rfl<|pT c1 rfl<|rf 2 (or_t (e:=decide (a0>8)) c1) rfl k
  ·exact gc_ c1 rfl<|m_ rfl<|gc_ c1 rfl<|b_ rfl<|pF c1 rfl<|rf 2 (or_f c1) rfl k
noncomputable def aZ (a0:List Int) (a1:Int):Option Bool:=
 (((Loop.run (S := Int) (R := (Unit ⊕ Bool)) (fun xA =>
   bif decide (xA<(a0.length:Int)) then
    (idx a0 xA).bind fun yA=>
    bif yA != 0 then
     some (.done (.inr false))
    else
     some (.next (IntKind.wrap .i64 (xA+1)))
   else
    some (.done (.inl ()))) a1).bind fun zA=>match zA with
  | .inl _=>
   some (.inr ())
  | .inr z=>
   some (.inl z)
  : Option (Bool ⊕ Unit))).bind fun hA => match hA with
  | .inl z=>
   some z
  | .inr _=>
   some true
theorem o71 {a0:List Int} {a1:Int} {r0:Bool} (hF:aZ a0 a1=some r0) (L:List Res):Ok Tryz.prog 55 [SV.val K8 a0,SV.raw (.int .i64 a1)] L (SV.raw (.bool r0)) L:=by
 unfold aZ at hF
 refine okI 16 Tryz.func55 rfl rfl rfl fun F0=>?_
 refine bs hF fun oA yA hF=>sr<|a_ rfl<|nt<|sq<|Under.after (fun X=>∀(_:Unit),oA=(.inr ())→Under F0 16 [] (L) X) ?_ ?_
 ·intro _ zA
  replace zA:=zA.symm
  subst zA
  refine sr<|a_ rfl<|nt<|rc ?_
  cases osi hF
  exact rs Tryz.results55 (.tm rfl .nil) rfl rfl
 ·intro K kA
  refine bs yA fun cA dA yA=>bk<|lp dA () (fun hA bA=>[(0,.val K8 a0),(1,.raw (.int .i64 hA))]) (fun hA bA=>L) rfl rfl fun hA bA qA xA vA=>?_
  refine sq<|sr<|m_ rfl<|m_ rfl<|oN Tryz.underlying24 rfl<|b_ rfl<|nt<|it xA rfl (fun xA=>?_) (fun xA=>?_)
  ·refine bs xA fun rA eA xA=>ct<|sq<|bk<|sr<|m_ rfl<|m_ rfl<|oS eA Tryz.underlying24 sz5 rfl<|oI kt5 rfl<|b_ rfl<|nt<|it xA rfl (fun xA=>?_) (fun xA=>?_)
   ·refine sr<|a_ rfl<|nt<|rc<|Under.bR<|tr ?_
    cases aj xA vA
    refine tr<|Under.bR<|tr ?_
    cases osi yA
    cases osi hF
    exact rs Tryz.results55 (.tm rfl .nil) rfl rfl
   ·exact cs<|bN<|tn<|rg<|mb rfl<|a_ rfl<|nl<|nx () xA rfl rfl
  ·refine xt<|te ?_
   cases aj xA vA
   exact te<|bh<|tn<|wr (kA () (osi yA).symm) rfl
noncomputable def cz (a0:List Int) (a1:Int):Option ((List Int)×Int):=
 bif (a0.length:Int) != 320 then
  some ([],50)
 else
  bif (decide (a1<0))||(decide (a1>320)) then
   some ([],2)
  else
   (aZ a0 a1).bind fun y6=>
   bif !y6 then
    some ([],51)
   else
    (sub a0 0 a1).bind fun xA=>
    (app [] xA).bind fun yA=>
    some (yA,0)
theorem o72 {a0:List Int} {a1:Int} {r0:((List Int)×Int)} (hF:cz a0 a1=some r0) (L:List Res):Ok Tryz.prog 101 [SV.val K8 a0,SV.raw (.int .i64 a1)] L (SV.tup [SV.val K8 r0.1,SV.raw (.int .i64 r0.2)]) L:=by
 unfold cz at hF
 refine okI 27 Tryz.func101 rfl rfl rfl fun F0=>?_
 refine sr<|a_ rfl<|a_ rfl<|nt<|sq<|bk<|sr<|m_ rfl<|oN Tryz.underlying24 rfl<|b_ rfl<|a_ rfl<|nt<|it hF rfl (fun hF=>?_) (fun hF=>?_)
 ·refine sr<|a_ rfl<|a_ rfl<|nt<|rc<|Under.bR<|tr<|tV (K:=kSl K10) (x:=[]) (t:=4) rfl rdN ?_
  cases osi hF
  exact rs Tryz.results101 (.tm rfl (.tm rfl .nil)) rfl rfl
 ·refine sr<|mb rfl<|m_ rfl<|eS 16 ((decide (a1<0))||(decide (a1>320))) ?_ (fun k=>?_)
  ·refine a_ rfl<|nt<|it hF rfl (fun hF=>?_) (fun hF=>?_)
   ·refine sr<|a_ rfl<|a_ rfl<|nt<|rc<|Under.bR<|tr<|tV (K:=kSl K10) (x:=[]) (t:=4) rfl rdN ?_
    cases osi hF
    exact rs Tryz.results101 (.tm rfl (.tm rfl .nil)) rfl rfl
   ·refine bs hF fun y6 h7 hF=>sr<|m_ rfl<|m_ rfl<|cx Tryz.call55 rfl (o71 h7 _)<|ov (OpV.not rfl) rfl<|a_ rfl<|nt<|it hF rfl (fun hF=>?_) (fun hF=>?_)
    ·refine sr<|a_ rfl<|a_ rfl<|nt<|rc<|Under.bR<|tr<|tV (K:=kSl K10) (x:=[]) (t:=4) rfl rdN ?_
     cases osi hF
     exact rs Tryz.results101 (.tm rfl (.tm rfl .nil)) rfl rfl
    ·refine bs hF fun zA xA hF=>bs hF fun hA yA hF=>cs<|bN<|tn<|sr<|bO (ys:=[]) Tryz.underlying24 ET5 (BldA.nil _) rfl rfl fun v9=>m_ rfl<|m_ rfl<|ov (OpV.slH xA Tryz.underlying24 sz5 rfl rdV rfl) rfl<|ap yA Tryz.underlying24 AT5 rfl rfl rdV rfl fun bA=>a_ rfl<|a_ rfl<|nl<|fzO (t:=4) rfl<|tn<|rc ?_
     cases osi hF
     exact rs Tryz.results101 (.tm rfl (.tm rfl .nil)) rfl rfl
  ·refine by_ (t:=13) rfl (fun c2=>?_) (fun c2=>?_)
   ·exact sk_ c2 rfl<|sk_ c2 rfl<|pT c2 rfl<|rf 2 (or_t (e:=decide (a1>320)) c2) rfl k
   ·exact gc_ c2 rfl<|m_ rfl<|gc_ c2 rfl<|b_ rfl<|pF c2 rfl<|rf 2 (or_f c2) rfl k
noncomputable def bS (a0:List Int) (a1:List Int):Option (ae×Int):=
 bif (a0.length:Int) != 32 then
  some ((⟨(List.replicate 16 (0:Int)),(List.replicate 32 (0:Int)),(List.replicate 32 (0:Int))⟩:ae),2)
 else
  bif decide (0<[99,104,117,114,110].length) then
  (aR a0 a1 [99,104,117,114,110] 80).bind fun y6=>
  (((Loop.run (S:=(Int×ae)) (R:=ae) (fun(xA,yA)=>
    bif decide (xA<80) then
     ((bif decide (xA<16) then
      (idx y6.1 xA).bind fun zA=>
      (idx yA.Box xA).bind fun dA=>
      some ({yA with Box:=List.set yA.Box (Int.toNat xA) zA}:ae)
     else
      bif decide (xA<48) then
       (idx y6.1 xA).bind fun hA=>
       (idx yA.Mac (IntKind.wrap .i64 (xA - 16))).bind fun eA=>
       some ({yA with Mac:=List.set yA.Mac (Int.toNat (IntKind.wrap .i64 (xA - 16))) hA}:ae)
      else
       (idx y6.1 xA).bind fun bA=>
       (idx yA.Replay (IntKind.wrap .i64 (xA - 48))).bind fun cA=>
       some ({yA with Replay:=List.set yA.Replay (Int.toNat (IntKind.wrap .i64 (xA - 48))) bA}:ae)
      :Option ae)).bind fun vA=>
     some (.next (IntKind.wrap .i64 (xA+1),vA))
    else
     some (.done yA)) (0,(⟨(List.replicate 16 (0:Int)),(List.replicate 32 (0:Int)),(List.replicate 32 (0:Int))⟩:ae))).bind fun oA=>
  some oA
   :Option ae)).bind fun kA=>
  some (kA,0)
  else none
theorem o73 {a0 a1:List Int} {r0:(ae×Int)} (hF:bS a0 a1=some r0) (L:List Res):Ok Tryz.prog 102 [SV.val K8 a0,SV.val K6 a1] L (SV.tup [SV.val av r0.1,SV.raw (.int .i64 r0.2)]) L:=by
 unfold bS at hF
 refine okI 56 Tryz.func102 rfl rfl rfl fun F0=>?_
 refine sr<|bX (K:=kArr 16 K10) rfl rdV rfl<|al ZT176 rfl fun b1=>a_ rfl<|ns<|al ZT176 rfl fun b2=>nt<|sq<|sr<|m_ rfl<|oN Tryz.underlying24 rfl<|b_ rfl<|nt<|it hF rfl (fun hF=>?_) (fun hF=>?_)
 ·refine fz (t:=6) rfl<|sr<|oL kt176 rfl<|sP (x':=(⟨(List.replicate 16 (0:Int)),(List.replicate 32 (0:Int)),(List.replicate 32 (0:Int))⟩:ae)) .box .id sz176k rfl rfl rdV rfl<|a_ rfl<|nl<|fz (t:=4) rfl<|tn<|rt ?_
  cases osi hF
  exact rs Tryz.results102 (.ce rfl kt176 (.tm rfl .nil)) rfl rfl
 ·refine gs hF fun h5 hF=>bs hF fun y6 h7 hF=>bs hF fun hA kA hF=>ct<|sr<|m_ rfl<|ov (OpV.slA Tryz.underlying108 sz5 rfl) rfl<|bO (ys:=[99,104,117,114,110]) Tryz.underlying24 ET5 (BldA.cons rfl rfl rdI (BldA.cons rfl rfl rdI (BldA.cons rfl rfl rdI (BldA.cons rfl rfl rdI (BldA.cons rfl rfl rdI (BldA.nil _)))))) rfl rfl fun v4=>Under.cvS Tryz.underlying24 Tryz.underlying5 (of_decide_eq_true h5) rfl rfl<|cx Tryz.call42 rfl (o66 h7 _)<|m_ rfl<|oE rfl<|oE rfl<|a_ rfl<|a_ rfl<|nt<|sq<|afr (r:=hA) (fun hA=>[(4,pb b1),(6,.ptr av hA)]) (fun hA=>((.box av b1 176 (⟨(List.replicate 16 (0:Int)),(List.replicate 32 (0:Int)),(List.replicate 32 (0:Int))⟩:ae))::L)) ?_ fun K wA=>?_
  ·refine sr<|oL kt176 rfl<|sP (x':=hA) .box .id sz176k rfl rfl rdV rfl<|a_ rfl<|nl<|fz (t:=4) rfl<|tn<|rc ?_
   cases osi hF
   exact rs Tryz.results102 (.ce rfl kt176 (.tm rfl .nil)) rfl rfl
  ·refine bs kA fun zB gA kA=>sr<|a_ rfl<|nt<|bk<|f1<|lp gA () (fun bA eA=>[(4,pb b1),(6,pb b2),(7,.val K8 y6.1),(9,.raw (.int .i64 bA.1))]) (fun bA eA=>(.box av b1 176 (⟨(List.replicate 16 (0:Int)),(List.replicate 32 (0:Int)),(List.replicate 32 (0:Int))⟩:ae))::(.box av b2 176 bA.2)::L) rfl rfl fun bA eA hB yA mA=>?_
   obtain⟨vA,zA⟩:=bA
   dsimp only at yA⊢
   refine sq<|sr<|mb rfl<|nt<|it yA rfl (fun yA=>?_) (fun yA=>?_)
   ·refine bs yA fun oA xA yA=>ct<|sq<|afr (r:=oA) (fun oA=>[(4,pb b1),(6,pb b2),(7,.val K8 y6.1),(9,.raw (.int .i64 vA))]) (fun oA=>((.box av b1 176 (⟨(List.replicate 16 (0:Int)),(List.replicate 32 (0:Int)),(List.replicate 32 (0:Int))⟩:ae))::(.box av b2 176 oA)::L)) ?_ fun K dA=>?_
    ·exact rg<|mb rfl<|a_ rfl<|nl<|nx () yA rfl rfl
    ·refine bk<|bk<|sr<|mb rfl<|a_ rfl<|nt<|it xA rfl (fun xA=>?_) (fun xA=>?_)
     ·exact bs xA fun nA pA xA=>bs xA fun bB cA xA=>rg<|m_ rfl<|m_ rfl<|m_ rfl<|oS pA Tryz.underlying24 sz5 rfl<|oI kt5 rfl<|oM nW rfl<|f1<|oX .box (.fld .id el) cA Tryz.underlying108 sz5k rfl<|sP (x':=({zA with Box:=List.set zA.Box (Int.toNat vA) nA}:ae)) .box (.ix (.fld .id el) cA) sz5k rfl rfl rdI rfl<|nl<|bN<|bN<|tn<|f1<|wr (dA _ (osi xA).symm) rfl
     ·refine sr<|mb rfl<|a_ rfl<|nt<|it xA rfl (fun xA=>?_) (fun xA=>?_)
      ·exact bs xA fun tA uA xA=>bs xA fun vB qA xA=>rg<|mb rfl<|m_ rfl<|m_ rfl<|oS uA Tryz.underlying24 sz5 rfl<|oI kt5 rfl<|oM nX rfl<|f1<|oX .box (.fld .id ep) qA Tryz.underlying169 sz5k rfl<|sP (x':=({zA with Mac:=List.set zA.Mac (Int.toNat (IntKind.wrap .i64 (vA - 16))) tA}:ae)) .box (.ix (.fld .id ep) qA) sz5k rfl rfl rdI rfl<|nl<|bN<|bN<|tn<|f1<|wr (dA _ (osi xA).symm) rfl
      ·exact bs xA fun xB yB xA=>bs xA fun oB rA xA=>rg<|mb rfl<|m_ rfl<|m_ rfl<|oS yB Tryz.underlying24 sz5 rfl<|oI kt5 rfl<|oM nY rfl<|f1<|oX .box (.fld .id et) rA Tryz.underlying169 sz5k rfl<|sP (x':=({zA with Replay:=List.set zA.Replay (Int.toNat (IntKind.wrap .i64 (vA - 48))) xB}:ae)) .box (.ix (.fld .id et) rA) sz5k rfl rfl rdI rfl<|nl<|bN<|bN<|tn<|f1<|wr (dA _ (osi xA).symm) rfl
   ·refine f1<|fz (t:=6) rfl<|xt<|te ?_
    cases aj yA mA
    exact te<|bh<|tn<|wr (wA _ (osi kA).symm) rfl
noncomputable def bq (a0:List Int) (a1:List Int):Option (List Int):=
 (be a0 a1).bind fun y2=>
 (((Loop.run (S:=(Int×(List Int))) (R:=(List Int)) (fun(xA,yA)=>
   bif decide (xA<16) then
    (idx y2 xA).bind fun zA=>
    (idx yA xA).bind fun vA=>
    some (.next (IntKind.wrap .i64 (xA+1),List.set yA (Int.toNat xA) zA))
   else
    some (.done yA)) (0,(List.replicate 16 (0:Int)))).bind fun hA=>
 some hA
  :Option (List Int))).bind fun bA=>
 some bA
theorem o74 {a0 a1:List Int} {r0:(List Int)} (hF:bq a0 a1=some r0) (L:List Res):Ok Tryz.prog 105 [SV.val K5 a0,SV.val K8 a1] L (SV.val K6 r0) L:=by
 unfold bq at hF
 refine okI 21 Tryz.func105 rfl rfl rfl fun F0=>?_
 refine bs hF fun y2 h3 hF=>bs hF fun yA hA hF=>sr<|bX (K:=kArr 32 K10) rfl rdV rfl<|al ZT108 rfl fun b1=>ns<|ov (OpV.slA Tryz.underlying169 sz5 rfl) rfl<|m_ rfl<|cx Tryz.call114 rfl (o63 h3 _)<|al ZT169 rfl fun b4=>sP (x':=y2) .box .id sz169k rfl rfl rdV rfl<|nl<|fz (t:=5) rfl<|tn<|sr<|al ZT108 rfl fun b5=>nt<|sq<|afr (r:=yA) (fun yA=>[(4,pb b1),(6,.ptr K6 yA)]) (fun yA=>((.box K6 b1 108 (List.replicate 16 (0:Int)))::L)) ?_ fun K oA=>?_
 ·refine sr<|oL kt108 rfl<|sP (x':=yA) .box .id sz108k rfl rfl rdV rfl<|nl<|fz (t:=4) rfl<|tn<|rc ?_
  cases osi hF
  exact rs Tryz.results105 (.ce rfl kt108 .nil) rfl rfl
 ·refine bs hA fun wA kA hA=>sr<|a_ rfl<|nt<|bk<|f1<|lp kA () (fun zA bA=>[(4,pb b1),(5,.ptr K5 y2),(6,pb b5),(7,.raw (.int .i64 zA.1))]) (fun zA bA=>(.box K6 b1 108 (List.replicate 16 (0:Int)))::(.box K6 b5 108 zA.2)::L) rfl rfl fun zA bA gA xA dA=>?_
  obtain⟨eA,cA⟩:=zA
  dsimp only at xA⊢
  refine sq<|sr<|mb rfl<|nt<|it xA rfl (fun xA=>?_) (fun xA=>?_)
  ·exact bs xA fun qA rA xA=>bs xA fun mA vA xA=>ct<|sq<|bk<|rg<|m_ rfl<|m_ rfl<|ov (OpV.ixA rA Tryz.underlying169 sz5 rfl rfl) rfl<|oI kt5 rfl<|f1<|oX .box .id vA Tryz.underlying108 sz5k rfl<|sP (x':=List.set cA (Int.toNat eA) qA) .box (.ix .id vA) sz5k rfl rfl rdI rfl<|nl<|bN<|tn<|rg<|mb rfl<|a_ rfl<|nl<|f1<|nx () xA rfl rfl
  ·refine f1<|fz (t:=6) rfl<|xt<|te ?_
   cases aj xA dA
   exact te<|bh<|tn<|wr (oA _ (osi hA).symm) rfl
noncomputable def cF (a0:ae) (a1:Int) (a2:List Int) (a3:List Int):Option (List Int):=
 (app [IntKind.wrap .u8 a1] a2).bind fun z3=>
 (app z3 a3).bind fun z6=>
 (bq a0.Mac z6).bind fun y9=>
 some y9
theorem o75 {a0:ae} {a1:Int} {a2 a3:List Int} {r0:(List Int)} (hF:cF a0 a1 a2 a3=some r0) (L:List Res):Ok Tryz.prog 103 [SV.val av a0,SV.raw (.int .i64 a1),SV.val K6 a2,SV.val K8 a3] L (SV.val K6 r0) L:=by
 unfold cF at hF
 refine okI 23 Tryz.func103 rfl rfl rfl fun F0=>?_
 refine bs hF fun z3 h4 hF=>bs hF fun z6 h7 hF=>bs hF fun y9 xA hF=>sr<|bX (K:=av) rfl rdV rfl<|bX (K:=kArr 16 K10) rfl rdV rfl<|al ZT108 rfl fun b1=>ns<|m_ rfl<|oC (by kernel_rfl) Tryz.underlying5 rfl<|bO (ys:=[IntKind.wrap .u8 a1]) Tryz.underlying24 ET5 (BldA.cons rfl rfl rdI (BldA.nil _)) rfl rfl fun v2=>a_ rfl<|ns<|m_ rfl<|ov (OpV.slA Tryz.underlying108 sz5 rfl) rfl<|ap h4 Tryz.underlying24 AT5 rfl rfl rdV rfl fun v5=>a_ rfl<|ns<|m_ rfl<|m_ rfl<|ap h7 Tryz.underlying24 AT5 rfl rfl rdV rfl fun v8=>a_ rfl<|nl<|fzO (t:=9) rfl<|tn<|sr<|oF fb176k rfl<|oL kt169 rfl<|m_ rfl<|cx Tryz.call105 rfl (o74 xA _)<|sP (x':=y9) .box .id sz108k rfl rfl rdV rfl<|nl<|fz (t:=8) rfl<|tn<|rc ?_
 cases osi hF
 exact rs Tryz.results103 (.ce rfl kt108 .nil) rfl rfl
noncomputable def bf (a0:Int):Option Int:=
 bif decide (a0≥128) then
  some (xorI .u8 (shlI .u8 a0 1) 27)
 else
  some (shlI .u8 a0 1)
theorem o76 {a0:Int} {r0:Int} (hF:bf a0=some r0) (L:List Res):Ok Tryz.prog 172 [SV.raw (.int .u8 a0)] L (SV.raw (.int .u8 r0)) L:=by
 unfold bf at hF
 refine okI 10 Tryz.func172 rfl rfl rfl fun F0=>?_
 refine sr<|a_ rfl<|nt<|sq<|sr<|mb rfl<|nt<|it hF rfl (fun hF=>?_) (fun hF=>?_)
 ·refine sr<|m_ rfl<|ov (OpV.sh rfl rfl (by decide) rfl) rfl<|b_ rfl<|a_ rfl<|nt<|rt ?_
  cases osi hF
  exact rs Tryz.results172 (.tm rfl .nil) rfl rfl
 ·refine ct<|sr<|m_ rfl<|ov (OpV.sh rfl rfl (by decide) rfl) rfl<|a_ rfl<|nt<|rc ?_
  cases osi hF
  exact rs Tryz.results172 (.tm rfl .nil) rfl rfl
noncomputable def ci (a0:List Int):Option (List Int):=
 (((Loop.run (S:=(Int×(List Int))) (R:=(List Int)) (fun(bA,kA)=>
   bif decide (bA<16) then
    (idx a0 bA).bind fun mA=>
    (idx kA bA).bind fun dB=>
    some (.next (IntKind.wrap .i64 (bA+1),List.set kA (Int.toNat bA) mA))
   else
    some (.done kA)) (0,(List.replicate 176 (0:Int)))).bind fun nA=>
 some nA
  :Option (List Int))).bind fun eB=>
 (((Loop.run (S:=(Int×Int×(List Int))) (R:=(List Int)) (fun(dA,xA,yA)=>
   bif decide (xA<176) then
    (idx yA (IntKind.wrap .i64 (xA - 4))).bind fun qA=>
    (idx yA (IntKind.wrap .i64 (xA - 3))).bind fun rA=>
    (idx yA (IntKind.wrap .i64 (xA - 2))).bind fun wA=>
    (idx yA (IntKind.wrap .i64 (xA - 1))).bind fun gA=>
    ((bif (Int.tmod xA 16)==0 then
     (idx c6 rA).bind fun pA=>
     (idx c6 wA).bind fun tA=>
     (idx c6 gA).bind fun uA=>
     (idx c6 qA).bind fun xB=>
     (bf dA).bind fun yB=>
     some (yB,xorI .u8 pA dA,tA,uA,xB)
    else
     some (dA,qA,rA,wA,gA)
     :Option (Int×Int×Int×Int×Int))).bind fun zB=>match zB with
     |(hB,zA,vA,eA,bB)=>
      (idx yA (IntKind.wrap .i64 (xA - 16))).bind fun hA=>
      (idx yA xA).bind fun cB=>
      (idx (List.set yA (Int.toNat xA) (xorI .u8 hA zA)) (IntKind.wrap .i64 (xA - 15))).bind fun oA=>
      (idx (List.set yA (Int.toNat xA) (xorI .u8 hA zA)) (IntKind.wrap .i64 (xA+1))).bind fun qB=>
      (idx (List.set (List.set yA (Int.toNat xA) (xorI .u8 hA zA)) (Int.toNat (IntKind.wrap .i64 (xA+1))) (xorI .u8 oA vA)) (IntKind.wrap .i64 (xA - 14))).bind fun cA=>
      (idx (List.set (List.set yA (Int.toNat xA) (xorI .u8 hA zA)) (Int.toNat (IntKind.wrap .i64 (xA+1))) (xorI .u8 oA vA)) (IntKind.wrap .i64 (xA+2))).bind fun rB=>
      (idx (List.set (List.set (List.set yA (Int.toNat xA) (xorI .u8 hA zA)) (Int.toNat (IntKind.wrap .i64 (xA+1))) (xorI .u8 oA vA)) (Int.toNat (IntKind.wrap .i64 (xA+2))) (xorI .u8 cA eA)) (IntKind.wrap .i64 (xA - 13))).bind fun vB=>
      (idx (List.set (List.set (List.set yA (Int.toNat xA) (xorI .u8 hA zA)) (Int.toNat (IntKind.wrap .i64 (xA+1))) (xorI .u8 oA vA)) (Int.toNat (IntKind.wrap .i64 (xA+2))) (xorI .u8 cA eA)) (IntKind.wrap .i64 (xA+3))).bind fun wB=>
      some (.next (hB,IntKind.wrap .i64 (xA+4),List.set (List.set (List.set (List.set yA (Int.toNat xA) (xorI .u8 hA zA)) (Int.toNat (IntKind.wrap .i64 (xA+1))) (xorI .u8 oA vA)) (Int.toNat (IntKind.wrap .i64 (xA+2))) (xorI .u8 cA eA)) (Int.toNat (IntKind.wrap .i64 (xA+3))) (xorI .u8 vB bB)))
   else
    some (.done yA)) (1,16,eB)).bind fun oB=>
 some oB
  :Option (List Int))).bind fun kB=>
 some kB
theorem o77 {a0:List Int} {r0:(List Int)} (hF:ci a0=some r0) (L:List Res):Ok Tryz.prog 135 [SV.val K6 a0] L (SV.val K3 r0) L:=by
 unfold ci at hF
 refine okI 93 Tryz.func135 rfl rfl rfl fun F0=>?_
 refine bs hF fun gB mB hF=>sr<|bX (K:=kArr 16 K10) rfl rdV rfl<|al ZT247 rfl fun b1=>ns<|al ZT247 rfl fun b2=>nt<|sq<|afr (r:=gB) (fun gB=>[(2,pb b1),(3,pb b2)]) (fun gB=>((.box K3 b1 247 (List.replicate 176 (0:Int)))::(.box K3 b2 247 gB)::L)) ?_ fun K rC=>?_
 ·refine bs hF fun kA wA hF=>sr<|a_ rfl<|nt<|sq<|afr (r:=kA) (fun kA=>[(2,pb b1),(3,.ptr K3 kA)]) (fun kA=>((.box K3 b1 247 (List.replicate 176 (0:Int)))::L)) ?_ fun K nB=>?_
  ·refine sr<|oL kt247 rfl<|sP (x':=kA) .box .id sz247k rfl rfl rdV rfl<|nl<|fz (t:=2) rfl<|tn<|rc ?_
   cases osi hF
   exact rs Tryz.results135 (.ce rfl kt247 .nil) rfl rfl
  ·refine bs wA fun wC pB wA=>sr<|a_ rfl<|nt<|bk<|lp pB () (fun vA pA=>[(2,pb b1),(3,pb b2),(5,.raw (.int .u8 vA.1)),(6,.raw (.int .i64 vA.2.1))]) (fun vA pA=>(.box K3 b1 247 (List.replicate 176 (0:Int)))::(.box K3 b2 247 vA.2.2)::L) rfl rfl fun vA pA gC xA tB=>?_
   obtain⟨mC,zA,dA⟩:=vA
   dsimp only at xA⊢
   refine sq<|sr<|mb rfl<|nt<|it xA rfl (fun xA=>?_) (fun xA=>?_)
   ·refine bs xA fun nC tA xA=>bs xA fun pC uA xA=>bs xA fun tC xB xA=>bs xA fun uC yB xA=>bs xA fun uB yA xA=>ct<|sq<|bk<|sq<|ph rfl<|gV [0,1,2,3,4,5,6,7,8,9,10,11,12,13,14,15,16,17,18] [[6],[25],[3,26],[27],[6],[29],[3,30],[31],[6],[33],[3,34],[35],[6],[37],[3,38],[39],[28],[32],[36]] 2 (by kernel_rfl) rfl<|vm_ rfl<|vb_ rfl<|Vq.v (fun G T hG=>f1<|oX .box .id tA Tryz.underlying247 sz5k rfl<|f1<|Vq.end rfl)<|Vq.v (fun G T hG=>f1<|lP .box (.ix .id tA) kt5k rfl rfl<|rI (t:=28) rfl<|f1<|Vq.end rfl)<|vm_ rfl<|vb_ rfl<|Vq.v (fun G T hG=>f1<|oX .box .id uA Tryz.underlying247 sz5k rfl<|f1<|Vq.end rfl)<|Vq.v (fun G T hG=>f1<|lP .box (.ix .id uA) kt5k rfl rfl<|rI (t:=32) rfl<|f1<|Vq.end rfl)<|vm_ rfl<|vb_ rfl<|Vq.v (fun G T hG=>f1<|oX .box .id xB Tryz.underlying247 sz5k rfl<|f1<|Vq.end rfl)<|Vq.v (fun G T hG=>f1<|lP .box (.ix .id xB) kt5k rfl rfl<|rI (t:=36) rfl<|f1<|Vq.end rfl)<|vm_ rfl<|vb_ rfl<|Vq.v (fun G T hG=>f1<|oX .box .id yB Tryz.underlying247 sz5k rfl<|f1<|Vq.end rfl)<|Vq.v (fun G T hG=>f1<|lP .box (.ix .id yB) kt5k rfl rfl<|rI (t:=40) rfl<|f1<|Vq.end rfl)<|Vq.v (fun G T hG=>a_ rfl<|Vq.end rfl)<|Vq.v (fun G T hG=>a_ rfl<|Vq.end rfl)<|Vq.v (fun G T hG=>a_ rfl<|Vq.end rfl)<|vn<|p1 19 rfl rfl<|a_ rfl<|pn<|pd rfl<|tn<|sq<|Under.after (fun X=>∀(gA:Int) (bA:Int) (oA:Int) (eA:Int) (qA:Int),uB=(gA,bA,oA,eA,qA)→Under F0 93 [(2,pb b1),(3,pb b2),(5,.raw (.int .u8 gA)),(6,.raw (.int .i64 zA)),(7,.raw (.int .u8 bA)),(8,.raw (.int .u8 oA)),(9,.raw (.int .u8 eA)),(10,.raw (.int .u8 qA))] ((.box K3 b1 247 (List.replicate 176 (0:Int)))::(.box K3 b2 247 dA)::L) X) ?_ ?_
    ·intro gA bA oA eA qA mA
     replace mA:=mA.symm
     subst mA
     exact bs xA fun rA zB xA=>bs xA fun xD hB xA=>bs xA fun nA bB xA=>bs xA fun yD vB xA=>bs xA fun oB kB xA=>bs xA fun zD dB xA=>bs xA fun xC eB xA=>bs xA fun hD cB xA=>sr<|m_ rfl<|mb rfl<|f1<|oX .box .id zB Tryz.underlying247 sz5k rfl<|lP .box (.ix .id zB) kt5k rfl rfl<|rI (t:=61) rfl<|mb rfl<|oX .box .id hB Tryz.underlying247 sz5k rfl<|sP (x':=List.set dA (Int.toNat zA) (xorI .u8 rA bA)) .box (.ix .id hB) sz5k rfl rfl rdI rfl<|ns<|mb rfl<|mb rfl<|oX .box .id bB Tryz.underlying247 sz5k rfl<|lP .box (.ix .id bB) kt5k rfl rfl<|rI (t:=70) rfl<|mb rfl<|oX .box .id vB Tryz.underlying247 sz5k rfl<|sP (x':=List.set (List.set dA (Int.toNat zA) (xorI .u8 rA bA)) (Int.toNat (IntKind.wrap .i64 (zA+1))) (xorI .u8 nA oA)) .box (.ix .id vB) sz5k rfl rfl rdI rfl<|ns<|mb rfl<|mb rfl<|oX .box .id kB Tryz.underlying247 sz5k rfl<|lP .box (.ix .id kB) kt5k rfl rfl<|rI (t:=79) rfl<|mb rfl<|oX .box .id dB Tryz.underlying247 sz5k rfl<|sP (x':=List.set (List.set (List.set dA (Int.toNat zA) (xorI .u8 rA bA)) (Int.toNat (IntKind.wrap .i64 (zA+1))) (xorI .u8 nA oA)) (Int.toNat (IntKind.wrap .i64 (zA+2))) (xorI .u8 oB eA)) .box (.ix .id dB) sz5k rfl rfl rdI rfl<|nt<|rg<|mb rfl<|mb rfl<|oX .box .id eB Tryz.underlying247 sz5k rfl<|lP .box (.ix .id eB) kt5k rfl rfl<|rI (t:=88) rfl<|mb rfl<|oX .box .id cB Tryz.underlying247 sz5k rfl<|sP (x':=List.set (List.set (List.set (List.set dA (Int.toNat zA) (xorI .u8 rA bA)) (Int.toNat (IntKind.wrap .i64 (zA+1))) (xorI .u8 nA oA)) (Int.toNat (IntKind.wrap .i64 (zA+2))) (xorI .u8 oB eA)) (Int.toNat (IntKind.wrap .i64 (zA+3))) (xorI .u8 xC qA)) .box (.ix .id cB) sz5k rfl rfl rdI rfl<|nl<|bN<|tn<|rg<|mb rfl<|a_ rfl<|nl<|f1<|nx () xA rfl rfl
    ·intro K qB
     refine sr<|m_ rfl<|ov (OpV.quo rfl rfl (by decide) rfl) rfl<|b_ rfl<|nt<|it yA rfl (fun yA=>?_) (fun yA=>?_)
     ·exact bs yA fun bD yC yA=>bs yA fun vD zC yA=>bs yA fun oD hC yA=>bs yA fun kD bC yA=>bs yA fun dD vC yA=>sr<|m_ rfl<|a_ rfl<|nt<|sq<|dw rfl (by kernel_rfl) fun F hF0=>mvq rfl rfl<|oq (OpV.ixStr yC Tryz.underlying9 rfl gy rfl) rfl<|mvq rfl rfl<|bnq rfl rfl rfl rfl<|mvq rfl rfl<|oq (OpV.ixStr zC Tryz.underlying9 rfl gy rfl) rfl<|mvq rfl rfl<|oq (OpV.ixStr hC Tryz.underlying9 rfl gy rfl) rfl<|agq rfl rfl<|agq rfl rfl<|agq rfl rfl<|nlq hF0<|tn<|sr<|m_ rfl<|ov (OpV.ixStr bC Tryz.underlying9 rfl gy rfl) rfl<|a_ rfl<|nt<|rg<|m_ rfl<|cx Tryz.call172 rfl (o76 vC _)<|a_ rfl<|nt<|wr (qB _ _ _ _ _ (osi yA).symm) rfl
     ·exact ct<|wr (qB _ _ _ _ _ (osi yA).symm) rfl
   ·refine f1<|fz (t:=3) rfl<|xt<|te ?_
    cases aj xA tB
    exact te<|bh<|tn<|wr (nB _ (osi wA).symm) rfl
 ·refine bs mB fun eD oC mB=>sr<|a_ rfl<|nt<|bk<|f1<|lp oC () (fun cA rB=>[(1,.ptr K6 a0),(2,pb b1),(3,pb b2),(4,.raw (.int .i64 cA.1))]) (fun cA rB=>(.box K3 b1 247 (List.replicate 176 (0:Int)))::(.box K3 b2 247 cA.2)::L) rfl rfl fun cA rB cD hA kC=>?_
  obtain⟨dC,eC⟩:=cA
  dsimp only at hA⊢
  refine sq<|sr<|mb rfl<|nt<|it hA rfl (fun hA=>?_) (fun hA=>?_)
  ·exact bs hA fun cC qC hA=>bs hA fun qD wB hA=>ct<|sq<|bk<|rg<|m_ rfl<|m_ rfl<|ov (OpV.ixA qC Tryz.underlying108 sz5 rfl rfl) rfl<|oI kt5 rfl<|f1<|oX .box .id wB Tryz.underlying247 sz5k rfl<|sP (x':=List.set eC (Int.toNat dC) cC) .box (.ix .id wB) sz5k rfl rfl rdI rfl<|nl<|bN<|tn<|rg<|mb rfl<|a_ rfl<|nl<|f1<|nx () hA rfl rfl
  ·refine xt<|te ?_
   cases aj hA kC
   exact te<|bh<|tn<|wr (rC _ (osi mB).symm) rfl
noncomputable def aW (a0:List Int) (a1:List Int) (a2:Int):Option (List Int):=
 (((Loop.run (S:=(Int×(List Int))) (R:=(List Int)) (fun(xA,yA)=>
   bif decide (xA<16) then
    (idx yA xA).bind fun zA=>
    (idx a1 (IntKind.wrap .i64 ((IntKind.wrap .i64 (16*a2))+xA))).bind fun hA=>
    (idx yA xA).bind fun oA=>
    some (.next (IntKind.wrap .i64 (xA+1),List.set yA (Int.toNat xA) (xorI .u8 zA hA)))
   else
    some (.done yA)) (0,a0)).bind fun bA=>
 some bA
  :Option (List Int))).bind fun vA=>
 some vA
theorem o78 {a0 a1:List Int} {a2:Int} {r0:(List Int)} (hF:aW a0 a1 a2=some r0) (L:List Res):Ok Tryz.prog 173 [SV.val K6 a0,SV.val K3 a1,SV.raw (.int .i64 a2)] L (SV.val K6 r0) L:=by
 unfold aW at hF
 refine okI 24 Tryz.func173 rfl rfl rfl fun F0=>?_
 refine bs hF fun yA hA hF=>sr<|Under.bx (K:=kArr 16 K10) rfl rdV rfl fun b1=>bX (K:=kArr 176 K10) rfl rdV rfl<|al ZT108 rfl fun b2=>nt<|sq<|afr (r:=yA) (fun yA=>[(3,.ptr K6 yA),(6,pb b2)]) (fun yA=>((.box K6 b2 108 (List.replicate 16 (0:Int)))::L)) ?_ fun K kA=>?_
 ·refine sr<|oL kt108 rfl<|sP (x':=yA) .box .id sz108k rfl rfl rdV rfl<|nl<|fz (t:=6) rfl<|tn<|rc ?_
  cases osi hF
  exact rs Tryz.results173 (.ce rfl kt108 .nil) rfl rfl
 ·refine bs hA fun mA dA hA=>sr<|a_ rfl<|nt<|bk<|f1<|lp dA () (fun zA bA=>[(2,.raw (.int .i64 a2)),(3,pb b1),(4,.ptr K3 a1),(6,pb b2),(7,.raw (.int .i64 zA.1))]) (fun zA bA=>(.box K6 b1 108 zA.2)::(.box K6 b2 108 (List.replicate 16 (0:Int)))::L) rfl rfl fun zA bA nA xA eA=>?_
  obtain⟨cA,qA⟩:=zA
  dsimp only at xA⊢
  refine sq<|sr<|mb rfl<|nt<|it xA rfl (fun xA=>?_) (fun xA=>?_)
  ·exact bs xA fun rA vA xA=>bs xA fun wA gA xA=>bs xA fun pA oA xA=>ct<|sq<|bk<|ph rfl<|gV [0,1,2,3,4,5,6,7,8] [[7],[3,12],[13],[2],[15],[7],[16,17],[4,18],[19]] 2 (by kernel_rfl) rfl<|vm_ rfl<|Vq.v (fun G T hG=>oX .box .id vA Tryz.underlying108 sz5k rfl<|Vq.end rfl)<|Vq.v (fun G T hG=>lP .box (.ix .id vA) kt5k rfl rfl<|rI (t:=14) rfl<|Vq.end rfl)<|vm_ rfl<|vb_ rfl<|vm_ rfl<|vb_ rfl<|vo (fun _=>OpV.ixA gA Tryz.underlying247 sz5 rfl rfl) rfl<|vo (fun _=>OpV.ldI kt5 rfl) rfl<|vn<|p1 9 rfl rfl<|b_ rfl<|pn<|p1 10 rfl rfl<|oX .box .id oA Tryz.underlying108 sz5k rfl<|pn<|p1 11 rfl rfl<|sP (x':=List.set qA (Int.toNat cA) (xorI .u8 rA wA)) .box (.ix .id oA) sz5k rfl rfl rdI rfl<|pn<|pd rfl<|bN<|tn<|rg<|mb rfl<|a_ rfl<|nl<|nx () xA rfl rfl
  ·refine fz (t:=3) rfl<|xt<|te ?_
   cases aj xA eA
   exact te<|bh<|tn<|wr (kA _ (osi hA).symm) rfl
noncomputable def bg (a0:List Int):Option (List Int):=
 (((Loop.run (S:=(Int×(List Int))) (R:=(List Int)) (fun(xA,hA)=>
   bif decide (xA<16) then
    (((idx a0 xA).bind fun bA=>
    (idx a0 (IntKind.wrap .i64 (xA+1))).bind fun vA=>
    (idx a0 (IntKind.wrap .i64 (xA+2))).bind fun oA=>
    (idx a0 (IntKind.wrap .i64 (xA+3))).bind fun kA=>
    (Loop.run (S:=(Int×(List Int))) (R:=(List Int)) (fun(yA,zA)=>
      bif decide (yA<4) then
       (idx a0 (IntKind.wrap .i64 (xA+yA))).bind fun dA=>
       (idx a0 (IntKind.wrap .i64 (xA+yA))).bind fun eA=>
       (idx a0 (IntKind.wrap .i64 (xA+(Int.tmod (IntKind.wrap .i64 (yA+1)) 4)))).bind fun cA=>
       (bf (xorI .u8 eA cA)).bind fun qA=>
       (idx zA (IntKind.wrap .i64 (xA+yA))).bind fun nA=>
       some (.next (IntKind.wrap .i64 (yA+1),List.set zA (Int.toNat (IntKind.wrap .i64 (xA+yA))) (xorI .u8 (xorI .u8 dA (xorI .u8 (xorI .u8 (xorI .u8 bA vA) oA) kA)) qA)))
      else
       some (.done zA)) (0,hA)).bind fun rA=>
    some rA
     :Option (List Int))).bind fun wA=>
    some (.next (IntKind.wrap .i64 (xA+4),wA))
   else
    some (.done hA)) (0,(List.replicate 16 (0:Int)))).bind fun gA=>
 some gA
  :Option (List Int))).bind fun mA=>
 some mA
theorem o79 {a0:List Int} {r0:(List Int)} (hF:bg a0=some r0) (L:List Res):Ok Tryz.prog 174 [SV.val K6 a0] L (SV.val K6 r0) L:=by
 unfold bg at hF
 refine okI 60 Tryz.func174 rfl rfl rfl fun F0=>?_
 refine bs hF fun oA gA hF=>sr<|bX (K:=kArr 16 K10) rfl rdV rfl<|al ZT108 rfl fun b1=>ns<|al ZT108 rfl fun b2=>nt<|sq<|afr (r:=oA) (fun oA=>[(2,pb b1),(3,.ptr K6 oA)]) (fun oA=>((.box K6 b1 108 (List.replicate 16 (0:Int)))::L)) ?_ fun K qB=>?_
 ·refine sr<|oL kt108 rfl<|sP (x':=oA) .box .id sz108k rfl rfl rdV rfl<|nl<|fz (t:=2) rfl<|tn<|rc ?_
  cases osi hF
  exact rs Tryz.results174 (.ce rfl kt108 .nil) rfl rfl
 ·refine bs gA fun uB rB gA=>sr<|a_ rfl<|nt<|bk<|f1<|lp rB () (fun zA kA=>[(1,.ptr K6 a0),(2,pb b1),(3,pb b2),(4,.raw (.int .i64 zA.1))]) (fun zA kA=>(.box K6 b1 108 (List.replicate 16 (0:Int)))::(.box K6 b2 108 zA.2)::L) rfl rfl fun zA kA xC hA wB=>?_
  obtain⟨mA,yC⟩:=zA
  dsimp only at hA⊢
  refine sq<|sr<|mb rfl<|nt<|it hA rfl (fun hA=>?_) (fun hA=>?_)
  ·refine bs hA fun vA yA hA=>ct<|sq<|afr (r:=vA) (fun vA=>[(1,.ptr K6 a0),(2,pb b1),(3,pb b2),(4,.raw (.int .i64 mA))]) (fun vA=>((.box K6 b1 108 (List.replicate 16 (0:Int)))::(.box K6 b2 108 vA)::L)) ?_ fun K nA=>?_
   ·exact rg<|mb rfl<|a_ rfl<|nl<|nx () hA rfl rfl
   ·refine bs yA fun dA pA yA=>bs yA fun eA tA yA=>bs yA fun cA uA yA=>bs yA fun qA xB yA=>bs yA fun gB yB yA=>bk<|sq<|dw rfl (by kernel_rfl) fun F hF0=>mvq rfl rfl<|oq (OpV.ixA pA Tryz.underlying108 sz5 rfl rfl) rfl<|oq (OpV.ldI kt5 rfl) rfl<|mvq rfl rfl<|bnq rfl rfl rfl rfl<|oq (OpV.ixA tA Tryz.underlying108 sz5 rfl rfl) rfl<|oq (OpV.ldI kt5 rfl) rfl<|bnq rfl rfl rfl rfl<|mvq rfl rfl<|bnq rfl rfl rfl rfl<|oq (OpV.ixA uA Tryz.underlying108 sz5 rfl rfl) rfl<|oq (OpV.ldI kt5 rfl) rfl<|bnq rfl rfl rfl rfl<|mvq rfl rfl<|bnq rfl rfl rfl rfl<|oq (OpV.ixA xB Tryz.underlying108 sz5 rfl rfl) rfl<|oq (OpV.ldI kt5 rfl) rfl<|bnq rfl rfl rfl rfl<|agq rfl rfl<|nlq hF0<|tn<|sr<|a_ rfl<|nt<|bk<|lp yB () (fun bA rA=>[(1,.ptr K6 a0),(2,pb b1),(3,pb b2),(4,.raw (.int .i64 mA)),(5,.raw (.int .u8 (xorI .u8 (xorI .u8 (xorI .u8 dA eA) cA) qA))),(6,.raw (.int .i64 bA.1))]) (fun bA rA=>(.box K6 b1 108 (List.replicate 16 (0:Int)))::(.box K6 b2 108 bA.2)::L) rfl rfl fun bA rA mB xA zB=>?_
    obtain⟨hB,bB⟩:=bA
    dsimp only at xA⊢
    refine sq<|sr<|mb rfl<|nt<|it xA rfl (fun xA=>?_) (fun xA=>?_)
    ·exact bs xA fun vB oB xA=>bs xA fun nB kB xA=>bs xA fun pB dB xA=>bs xA fun eB cB xA=>bs xA fun tB wA xA=>ct<|sq<|bk<|ph rfl<|gV [0,1,2,3,4,5,6,7,8,9,10,11,12,13,14,15,16,17,18,19,20,21,22,23,24] [[4],[6],[33,34],[4],[6],[36,37],[1,38],[39],[5],[40,41],[4],[6],[43,44],[1,45],[46],[4],[6],[49],[50],[48,51],[1,52],[53],[47,54],[55],[42,56]] 2 (by kernel_rfl) rfl<|vm_ rfl<|vm_ rfl<|vb_ rfl<|vm_ rfl<|vm_ rfl<|vb_ rfl<|vo (fun _=>OpV.ixA oB Tryz.underlying108 sz5 rfl rfl) rfl<|vo (fun _=>OpV.ldI kt5 rfl) rfl<|vm_ rfl<|vb_ rfl<|vm_ rfl<|vm_ rfl<|vb_ rfl<|vo (fun _=>OpV.ixA kB Tryz.underlying108 sz5 rfl rfl) rfl<|vo (fun _=>OpV.ldI kt5 rfl) rfl<|vm_ rfl<|vm_ rfl<|vb_ rfl<|vo (fun _=>OpV.quo rfl rfl (by decide) rfl) rfl<|vb_ rfl<|vo (fun _=>OpV.ixA dB Tryz.underlying108 sz5 rfl rfl) rfl<|vo (fun _=>OpV.ldI kt5 rfl) rfl<|vb_ rfl<|Vq.v (fun G T hG=>cx Tryz.call172 rfl (o76 cB _)<|Vq.end rfl)<|vb_ rfl<|vn<|p1 25 rfl rfl<|f1<|oX .box .id wA Tryz.underlying108 sz5k rfl<|pn<|p1 26 rfl rfl<|sP (x':=List.set bB (Int.toNat (IntKind.wrap .i64 (mA+hB))) (xorI .u8 (xorI .u8 vB (xorI .u8 (xorI .u8 (xorI .u8 dA eA) cA) qA)) eB)) .box (.ix .id wA) sz5k rfl rfl rdI rfl<|pn<|pd rfl<|bN<|tn<|rg<|mb rfl<|a_ rfl<|nl<|f1<|nx () xA rfl rfl
    ·refine xt<|te ?_
     cases aj xA zB
     exact te<|bh<|bN<|tn<|wr (nA _ (osi yA).symm) rfl
  ·refine f1<|fz (t:=3) rfl<|xt<|te ?_
   cases aj hA wB
   exact te<|bh<|tn<|wr (qB _ (osi gA).symm) rfl
noncomputable def br (a0:List Int) (a1:List Int):Option (List Int):=
 (aW a1 a0 0).bind fun y3=>
 (((Loop.run (S:=(Int×(List Int))) (R:=(List Int)) (fun(yA,hA)=>
   bif decide (yA≤10) then
    (((((Loop.run (S:=(Int×(List Int))) (R:=(List Int)) (fun(xA,zA)=>
      bif decide (xA<16) then
       (idx hA (Int.tmod (IntKind.wrap .i64 (xA+(IntKind.wrap .i64 (4*(Int.tmod xA 4))))) 16)).bind fun vA=>
       (idx c6 vA).bind fun oA=>
       (idx zA xA).bind fun gA=>
       some (.next (IntKind.wrap .i64 (xA+1),List.set zA (Int.toNat xA) oA))
      else
       some (.done zA)) (0,(List.replicate 16 (0:Int)))).bind fun kA=>
    some kA
     :Option (List Int))).bind fun bA=>
    ((bif decide (yA<10) then
     (bg bA).bind fun dA=>
     some dA
    else
     some bA
     :Option (List Int))).bind fun eA=>
    (aW eA a0 yA).bind fun cA=>
    some cA
     :Option (List Int))).bind fun qA=>
    some (.next (IntKind.wrap .i64 (yA+1),qA))
   else
    some (.done hA)) (1,y3)).bind fun rA=>
 some rA
  :Option (List Int))).bind fun wA=>
 some wA
theorem o80 {a0 a1:List Int} {r0:(List Int)} (hF:br a0 a1=some r0) (L:List Res):Ok Tryz.prog 136 [SV.val K3 a0,SV.val K6 a1] L (SV.val K6 r0) L:=by
 unfold br at hF
 refine okI 40 Tryz.func136 rfl rfl rfl fun F0=>?_
 refine bs hF fun y3 h4 hF=>bs hF fun cA uA hF=>sr<|bX (K:=kArr 176 K10) rfl rdV rfl<|Under.bx (K:=kArr 16 K10) rfl rdV rfl fun b1=>al ZT108 rfl fun b2=>ns<|f1<|lP .box .id kt108k rfl rfl<|oL kt247 rfl<|cx Tryz.call173 rfl (o78 h4 _)<|sP (x':=y3) .box .id sz108k rfl rfl rdV rfl<|nt<|sq<|afr (r:=cA) (fun cA=>[(3,.ptr K6 cA),(4,pb b2)]) (fun cA=>((.box K6 b2 108 (List.replicate 16 (0:Int)))::L)) ?_ fun K gB=>?_
 ·refine sr<|oL kt108 rfl<|sP (x':=cA) .box .id sz108k rfl rfl rdV rfl<|nl<|fz (t:=4) rfl<|tn<|rc ?_
  cases osi hF
  exact rs Tryz.results136 (.ce rfl kt108 .nil) rfl rfl
 ·refine bs uA fun mB xB uA=>sr<|a_ rfl<|nt<|bk<|lp xB () (fun bA rA=>[(2,.ptr K3 a0),(3,pb b1),(4,pb b2),(5,.raw (.int .i64 bA.1))]) (fun bA rA=>(.box K6 b1 108 bA.2)::(.box K6 b2 108 (List.replicate 16 (0:Int)))::L) rfl rfl fun bA rA nB yA yB=>?_
  obtain⟨kA,wA⟩:=bA
  dsimp only at yA⊢
  refine sq<|sr<|mb rfl<|nt<|it yA rfl (fun yA=>?_) (fun yA=>?_)
  ·refine bs yA fun dA zA yA=>ct<|sq<|afr (r:=dA) (fun dA=>[(2,.ptr K3 a0),(3,pb b1),(4,pb b2),(5,.raw (.int .i64 kA))]) (fun dA=>((.box K6 b1 108 dA)::(.box K6 b2 108 (List.replicate 16 (0:Int)))::L)) ?_ fun K zB=>?_
   ·exact rg<|mb rfl<|a_ rfl<|nl<|nx () yA rfl rfl
   ·refine bs zA fun vA qA zA=>bk<|sr<|al ZT108 rfl fun gA=>nt<|sq<|afr (r:=vA) (fun vA=>[(2,.ptr K3 a0),(3,pb b1),(4,pb b2),(5,.raw (.int .i64 kA)),(6,.ptr K6 vA)]) (fun vA=>((.box K6 b1 108 wA)::(.box K6 b2 108 (List.replicate 16 (0:Int)))::L)) ?_ fun K hB=>?_
    ·refine bs zA fun eA hA zA=>sr<|oL kt108 rfl<|sP (x':=vA) .box .id sz108k rfl rfl rdV rfl<|nt<|sq<|afr (r:=eA) (fun eA=>[(2,.ptr K3 a0),(3,pb b1),(4,pb b2),(5,.raw (.int .i64 kA))]) (fun eA=>((.box K6 b1 108 eA)::(.box K6 b2 108 (List.replicate 16 (0:Int)))::L)) ?_ fun K mA=>?_
     ·exact bs zA fun bB vB zA=>rg<|lP .box .id kt108k rfl rfl<|oL kt247 rfl<|m_ rfl<|cx Tryz.call173 rfl (o78 vB _)<|sP (x':=bB) .box .id sz108k rfl rfl rdV rfl<|nl<|bN<|tn<|wr (zB _ (osi zA).symm) rfl
     ·refine sr<|mb rfl<|nt<|it hA rfl (fun hA=>?_) (fun hA=>?_)
      ·exact bs hA fun oB kB hA=>rg<|lP .box .id kt108k rfl rfl<|cx Tryz.call174 rfl (o79 kB _)<|sP (x':=oB) .box .id sz108k rfl rfl rdV rfl<|nt<|wr (mA _ (osi hA).symm) rfl
      ·exact ct<|wr (mA _ (osi hA).symm) rfl
    ·refine bs qA fun pB dB qA=>sr<|a_ rfl<|nt<|bk<|f2<|f2<|lp dB () (fun oA nA=>[(2,.ptr K3 a0),(3,pb b1),(4,pb b2),(5,.raw (.int .i64 kA)),(6,pb gA),(7,.raw (.int .i64 oA.1))]) (fun oA nA=>(.box K6 b1 108 wA)::(.box K6 b2 108 (List.replicate 16 (0:Int)))::(.box K6 gA 108 oA.2)::L) rfl rfl fun oA nA tB xA eB=>?_
     obtain⟨cB,qB⟩:=oA
     dsimp only at xA⊢
     refine sq<|sr<|mb rfl<|nt<|it xA rfl (fun xA=>?_) (fun xA=>?_)
     ·exact bs xA fun uB pA xA=>bs xA fun rB wB xA=>bs xA fun xC tA xA=>ct<|sq<|bk<|rg<|m_ rfl<|m_ rfl<|m_ rfl<|ov (OpV.quo rfl rfl (by decide) rfl) rfl<|b_ rfl<|b_ rfl<|ov (OpV.quo rfl rfl (by decide) rfl) rfl<|oX .box .id pA Tryz.underlying108 sz5k rfl<|lP .box (.ix .id pA) kt5k rfl rfl<|rI (t:=27) rfl<|ov (OpV.ixStr wB Tryz.underlying9 rfl gy rfl) rfl<|f2<|oX .box .id tA Tryz.underlying108 sz5k rfl<|sP (x':=List.set qB (Int.toNat cB) rB) .box (.ix .id tA) sz5k rfl rfl rdI rfl<|nl<|bN<|tn<|rg<|mb rfl<|a_ rfl<|nl<|f2<|f2<|nx () xA rfl rfl
     ·refine f2<|fz (t:=6) rfl<|xt<|te ?_
      cases aj xA eB
      exact te<|bh<|tn<|wr (hB _ (osi qA).symm) rfl
  ·refine fz (t:=3) rfl<|xt<|te ?_
   cases aj yA yB
   exact te<|bh<|tn<|wr (gB _ (osi uA).symm) rfl
noncomputable def bt (a0:List Int):Option (List Int):=
 (((Loop.run (S := (Int × (List Int))) (R := ((List Int) ⊕ (List Int))) (fun (xA, yA) =>
   bif decide (xA≥0) then
    (idx yA xA).bind fun zA=>
    (idx yA xA).bind fun kA=>
    (idx (List.set yA (Int.toNat xA) (IntKind.wrap .u8 (zA+1))) xA).bind fun hA=>
    bif hA != 0 then
     some (.done (.inr (List.set yA (Int.toNat xA) (IntKind.wrap .u8 (zA+1)))))
    else
     some (.next (IntKind.wrap .i64 (xA - 1),List.set yA (Int.toNat xA) (IntKind.wrap .u8 (zA+1))))
   else
    some (.done (.inl yA))) (15,a0)).bind fun bA=>match bA with
  | .inl vA=>
   some (.inr vA)
  | .inr z=>
   some (.inl z)
  : Option ((List Int) ⊕ (List Int)))).bind fun oA => match oA with
  | .inl z=>
   some z
  | .inr x41=>
   some x41
theorem o81 {a0:List Int} {r0:(List Int)} (hF:bt a0=some r0) (L:List Res):Ok Tryz.prog 137 [SV.val K6 a0] L (SV.val K6 r0) L:=by
 unfold bt at hF
 refine okI 19 Tryz.func137 rfl rfl rfl fun F0=>?_
 refine bs hF fun wA zA hF=>sr<|Under.bx (K:=kArr 16 K10) rfl rdV rfl fun b1=>al ZT108 rfl fun b2=>nt<|sq<|Under.after (fun X=>∀(hA:List Int),wA=(.inr hA)→Under F0 19 [(1,.ptr K6 hA),(2,pb b2)] ((.box K6 b2 108 (List.replicate 16 (0:Int)))::L) X) ?_ ?_
 ·intro hA bA
  replace bA:=bA.symm
  subst bA
  refine sr<|oL kt108 rfl<|sP (x':=hA) .box .id sz108k rfl rfl rdV rfl<|nl<|fz (t:=2) rfl<|tn<|rc ?_
  cases osi hF
  exact rs Tryz.results137 (.ce rfl kt108 .nil) rfl rfl
 ·intro K gA
  refine bs zA fun nA mA zA=>sr<|a_ rfl<|nt<|bk<|f1<|lp mA () (fun yA vA=>[(1,pb b1),(2,pb b2),(3,.raw (.int .i64 yA.1))]) (fun yA vA=>(.box K6 b1 108 yA.2)::(.box K6 b2 108 (List.replicate 16 (0:Int)))::L) rfl rfl fun yA vA pA xA oA=>?_
  obtain⟨kA,dA⟩:=yA
  dsimp only at xA⊢
  refine sq<|sr<|mb rfl<|nt<|it xA rfl (fun xA=>?_) (fun xA=>?_)
  ·refine bs xA fun eA cA xA=>bs xA fun tA qA xA=>bs xA fun uA rA xA=>ct<|sq<|bk<|sr<|m_ rfl<|oX .box .id cA Tryz.underlying108 sz5k rfl<|lP .box (.ix .id cA) kt5k rfl rfl<|rI (t:=10) rfl<|b_ rfl<|oX .box .id qA Tryz.underlying108 sz5k rfl<|sP (x':=List.set dA (Int.toNat kA) (IntKind.wrap .u8 (eA+1))) .box (.ix .id qA) sz5k rfl rfl rdI rfl<|ns<|m_ rfl<|oX .box .id rA Tryz.underlying108 sz5k rfl<|lP .box (.ix .id rA) kt5k rfl rfl<|rI (t:=15) rfl<|b_ rfl<|nt<|it xA rfl (fun xA=>?_) (fun xA=>?_)
   ·refine fz (t:=1) rfl<|sr<|oL kt108 rfl<|sP (x':=List.set dA (Int.toNat kA) (IntKind.wrap .u8 (eA+1))) .box .id sz108k rfl rfl rdV rfl<|nl<|fz (t:=2) rfl<|tn<|rc<|Under.bR<|tr ?_
    cases aj xA oA
    refine tr<|Under.bR<|tr ?_
    cases osi zA
    cases osi hF
    exact rs Tryz.results137 (.ce rfl kt108 .nil) rfl rfl
   ·exact cs<|bN<|tn<|rg<|mb rfl<|a_ rfl<|nl<|nx () xA rfl rfl
  ·refine fz (t:=1) rfl<|xt<|te ?_
   cases aj xA oA
   exact te<|bh<|tn<|wr (gA _ (osi zA).symm) rfl
noncomputable def cj (a0:List Int) (a1:List Int) (a2:List Int):Option (List Int):=
 (ci a0).bind fun y2=>
 bif mkB 0 (a2.length:Int) then
 (((Loop.run (S:=((List Int)×Int×(List Int)×(List Int))) (R:=(List Int)) (fun(zA,xA,yA,bA)=>
   bif decide (xA<(a2.length:Int)) then
    ((bif (Int.tmod xA 16)==0 then
     (br y2 yA).bind fun vA=>
     (bt yA).bind fun oA=>
     some (oA,vA)
    else
     some (yA,bA)
     :Option ((List Int)×(List Int)))).bind fun kA=>match kA with
     |(dA,hA)=>
      (idx a2 xA).bind fun eA=>
      (idx hA (Int.tmod xA 16)).bind fun cA=>
      (app zA [xorI .u8 eA cA]).bind fun qA=>
      some (.next (qA,IntKind.wrap .i64 (xA+1),dA,hA))
   else
    some (.done zA)) (List.replicate (Int.toNat 0) (0:Int),0,a1,(List.replicate 16 (0:Int)))).bind fun rA=>
 some rA
  :Option (List Int))).bind fun wA=>
 some wA
 else none
theorem o82 {a0 a1 a2:List Int} {r0:(List Int)} (hF:cj a0 a1 a2=some r0) (L:List Res):Ok Tryz.prog 104 [SV.val K6 a0,SV.val K6 a1,SV.val K8 a2] L (SV.val K8 r0) L:=by
 unfold cj at hF
 refine okI 43 Tryz.func104 rfl rfl rfl fun F0=>?_
 refine bs hF fun y2 h3 hF=>gs hF fun h6 hF=>bs hF fun bA vA hF=>sr<|bX (K:=kArr 16 K10) rfl rdV rfl<|Under.bx (K:=kArr 16 K10) rfl rdV rfl fun b1=>a_ rfl<|ns<|oL kt108 rfl<|cx Tryz.call135 rfl (o77 h3 _)<|al ZT247 rfl fun b4=>sP (x':=y2) .box .id sz247k rfl rfl rdV rfl<|nl<|fz (t:=7) rfl<|tn<|sr<|m_ rfl<|oN Tryz.underlying24 rfl<|Under.mk h6 Tryz.underlying24 AT5 rfl rfl rfl fun v5=>a_ rfl<|ns<|al ZT108 rfl fun b8=>nt<|sq<|afr (r:=bA) (fun bA=>[(8,.val K8 bA)]) (fun bA=>(L)) ?_ fun K qA=>?_
 ·refine sr<|m_ rfl<|a_ rfl<|nt<|rc ?_
  cases osi hF
  exact rs Tryz.results104 (.tm rfl .nil) rfl rfl
 ·refine bs vA fun oB rA vA=>sr<|a_ rfl<|nt<|bk<|f2<|f2<|lp rA (C:=Value) v5 (fun zA hA=>[(2,.val K8 a2),(4,pb b1),(7,.ptr K3 y2),(8,.raw hA),(9,pb b8),(10,.raw (.int .i64 zA.2.1))]) (fun zA hA=>(.own K10 hA 5 zA.1)::(.box K6 b1 108 zA.2.2.1)::(.box K6 b8 108 zA.2.2.2)::L) rfl rfl fun zA hA kB xA wA=>?_
  obtain⟨gA,mA,dB,eB⟩:=zA
  dsimp only at xA⊢
  refine sq<|sr<|m_ rfl<|m_ rfl<|oN Tryz.underlying24 rfl<|b_ rfl<|nt<|it xA rfl (fun xA=>?_) (fun xA=>?_)
  ·refine bs xA fun nA yA xA=>ct<|sq<|bk<|sq<|Under.after (fun X=>∀(oA:List Int) (kA:List Int),nA=(oA,kA)→Under F0 43 [(2,.val K8 a2),(4,pb b1),(7,.ptr K3 y2),(8,.raw hA),(9,pb b8),(10,.raw (.int .i64 mA))] ((.own K10 hA 5 gA)::(.box K6 b1 108 oA)::(.box K6 b8 108 kA)::L) X) ?_ ?_
   ·intro oA kA dA
    replace dA:=dA.symm
    subst dA
    exact bs xA fun pA tA xA=>bs xA fun uA eA xA=>bs xA fun cB xB xA=>ph rfl<|gV [0,1,2,3,4,5,6,7,8,9,10] [[8],[2],[10],[31,32],[33],[10],[35],[9,36],[37],[34,38],[39]] 3 (by kernel_rfl) rfl<|vm_ rfl<|vm_ rfl<|vm_ rfl<|vo (fun _=>OpV.ixS tA Tryz.underlying24 sz5 rfl rdV rfl) rfl<|vo (fun _=>OpV.ldI kt5 rfl) rfl<|vm_ rfl<|vo (fun _=>OpV.quo rfl rfl (by decide) rfl) rfl<|Vq.v (fun G T hG=>f2<|oX .box .id eA Tryz.underlying108 sz5k rfl<|f2<|f2<|Vq.end rfl)<|Vq.v (fun G T hG=>f2<|lP .box (.ix .id eA) kt5k rfl rfl<|rI (t:=38) rfl<|f2<|f2<|Vq.end rfl)<|vb_ rfl<|Vq.v (fun G T hG=>bF (ys:=[xorI .u8 pA uA]) Tryz.underlying24 ET5 (BldA.cons rfl rfl rdI (BldA.nil _)) rfl rfl<|Vq.end rfl)<|vn<|p1 11 rfl rfl<|ap xB Tryz.underlying24 AT5 rfl rfl rdV rfl fun yB=>pn<|p1 12 rfl rfl<|a_ rfl<|pn<|pd rfl<|bN<|tn<|rg<|mb rfl<|a_ rfl<|nl<|nx yB xA rfl rfl
   ·intro K cA
    refine sr<|m_ rfl<|ov (OpV.quo rfl rfl (by decide) rfl) rfl<|b_ rfl<|nt<|it yA rfl (fun yA=>?_) (fun yA=>?_)
    ·exact bs yA fun zB hB yA=>bs yA fun bB vB yA=>sr<|oL kt247 rfl<|f1<|lP .box .id kt108k rfl rfl<|cx Tryz.call136 rfl (o80 hB _)<|f2<|sP (x':=zB) .box .id sz108k rfl rfl rdV rfl<|nt<|rg<|f1<|lP .box .id kt108k rfl rfl<|cx Tryz.call137 rfl (o81 vB _)<|sP (x':=bB) .box .id sz108k rfl rfl rdV rfl<|nt<|f2<|wr (cA _ _ (osi yA).symm) rfl
    ·exact ct<|wr (cA _ _ (osi yA).symm) rfl
  ·refine f1<|dr<|f1<|dr<|fzO (t:=8) rfl<|xt<|te ?_
   cases aj xA wA
   exact te<|bh<|tn<|wr (qA _ (osi vA).symm) rfl
noncomputable def bu (a0:List Int):Option (List Int):=
 (app [] a0).bind fun z2=>
 (((Loop.run (S:=(List Int)) (R:=(List Int)) (fun xA=>
   bif decide ((xA.length:Int)<320) then
    (app xA [0]).bind fun yA=>
    some (.next yA)
   else
    some (.done xA)) z2).bind fun zA=>
 some zA
  :Option (List Int))).bind fun hA=>
 some hA
theorem o83 {a0:List Int} {r0:(List Int)} (hF:bu a0=some r0) (L:List Res):Ok Tryz.prog 77 [SV.val K8 a0] L (SV.val K8 r0) L:=by
 unfold bu at hF
 refine okI 14 Tryz.func77 rfl rfl rfl fun F0=>?_
 refine bs hF fun z2 h3 hF=>bs hF fun yA hA hF=>sr<|a_ rfl<|ns<|bO (ys:=[]) Tryz.underlying24 ET5 (BldA.nil _) rfl rfl fun v1=>m_ rfl<|ap h3 Tryz.underlying24 AT5 rfl rfl rdV rfl fun v4=>a_ rfl<|nt<|sq<|afr (r:=yA) (fun yA=>[(3,.val K8 yA)]) (fun yA=>(L)) ?_ fun K vA=>?_
 ·refine sr<|m_ rfl<|a_ rfl<|nt<|rc ?_
  cases osi hF
  exact rs Tryz.results77 (.tm rfl .nil) rfl rfl
 ·refine bs hA fun cA oA hA=>bk<|lp oA (C:=Value) v4 (fun bA zA=>[(3,.raw zA)]) (fun bA zA=>(.own K10 zA 5 bA)::L) rfl rfl fun bA zA qA xA kA=>?_
  refine sq<|sr<|m_ rfl<|ov (OpV.lenO Tryz.underlying24 rfl) rfl<|b_ rfl<|nt<|it xA rfl (fun xA=>?_) (fun xA=>?_)
  ·exact bs xA fun rA dA xA=>ct<|bk<|rg<|m_ rfl<|bF (ys:=[0]) Tryz.underlying24 ET5 (BldA.cons rfl rfl rdI (BldA.nil _)) rfl rfl<|ap dA Tryz.underlying24 AT5 rfl rfl rdV rfl fun eA=>a_ rfl<|nl<|bN<|nx eA xA rfl rfl
  ·refine fzO (t:=3) rfl<|xt<|te ?_
   cases aj xA kA
   exact te<|bh<|tn<|wr (vA _ (osi hA).symm) rfl
noncomputable def cI (a0:List Int):Option ((List Int)×Int):=
 bif decide ((a0.length:Int)>320) then
  some ([],1)
 else
  (bu a0).bind fun y2=>
  some (y2,0)
theorem o84 {a0:List Int} {r0:((List Int)×Int)} (hF:cI a0=some r0) (L:List Res):Ok Tryz.prog 44 [SV.val K8 a0] L (SV.tup [SV.val K8 r0.1,SV.raw (.int .i64 r0.2)]) L:=by
 unfold cI at hF
 refine okI 9 Tryz.func44 rfl rfl rfl fun F0=>?_
 refine sr<|a_ rfl<|a_ rfl<|nt<|sq<|sr<|m_ rfl<|oN Tryz.underlying24 rfl<|b_ rfl<|nt<|it hF rfl (fun hF=>?_) (fun hF=>?_)
 ·refine sr<|a_ rfl<|a_ rfl<|nt<|rt<|tV (K:=kSl K10) (x:=[]) (t:=2) rfl rdN ?_
  cases osi hF
  exact rs Tryz.results44 (.tm rfl (.tm rfl .nil)) rfl rfl
 ·refine bs hF fun y2 h3 hF=>ct<|sr<|m_ rfl<|cx Tryz.call77 rfl (o83 h3 _)<|a_ rfl<|a_ rfl<|nt<|rc ?_
  cases osi hF
  exact rs Tryz.results44 (.tm rfl (.tm rfl .nil)) rfl rfl
noncomputable def cd (a0:List Int):Option ((List Int)×Int):=
 bif decide ((a0.length:Int)>48) then
  some ([],1)
 else
  (app [1,IntKind.wrap .u8 (a0.length:Int)] a0).bind fun z3=>
  (bu z3).bind fun y6=>
  some (y6,0)
theorem o85 {a0:List Int} {r0:((List Int)×Int)} (hF:cd a0=some r0) (L:List Res):Ok Tryz.prog 106 [SV.val K8 a0] L (SV.tup [SV.val K8 r0.1,SV.raw (.int .i64 r0.2)]) L:=by
 unfold cd at hF
 refine okI 14 Tryz.func106 rfl rfl rfl fun F0=>?_
 refine sr<|a_ rfl<|a_ rfl<|nt<|sq<|sr<|m_ rfl<|oN Tryz.underlying24 rfl<|b_ rfl<|nt<|it hF rfl (fun hF=>?_) (fun hF=>?_)
 ·refine sr<|a_ rfl<|a_ rfl<|nt<|rt<|tV (K:=kSl K10) (x:=[]) (t:=2) rfl rdN ?_
  cases osi hF
  exact rs Tryz.results106 (.tm rfl (.tm rfl .nil)) rfl rfl
 ·refine bs hF fun z3 h4 hF=>bs hF fun y6 h7 hF=>ct<|sr<|m_ rfl<|oN Tryz.underlying24 rfl<|oC (by kernel_rfl) Tryz.underlying5 rfl<|bO (ys:=[1,IntKind.wrap .u8 (a0.length:Int)]) Tryz.underlying24 ET5 (BldA.cons rfl rfl rdI (BldA.cons rfl rfl rdI (BldA.nil _))) rfl rfl fun v2=>m_ rfl<|ap h4 Tryz.underlying24 AT5 rfl rfl rdV rfl fun v5=>fzO (t:=12) rfl<|cx Tryz.call77 rfl (o83 h7 _)<|a_ rfl<|a_ rfl<|nt<|rc ?_
  cases osi hF
  exact rs Tryz.results106 (.tm rfl (.tm rfl .nil)) rfl rfl
end Go.Proofs.YtdkfkpbijdimkaaGreatDoor

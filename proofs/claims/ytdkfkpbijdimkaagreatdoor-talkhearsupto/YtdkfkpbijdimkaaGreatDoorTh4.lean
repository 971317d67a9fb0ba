import Derived.Test.YtdkfkpbijdimkaaGreatDoorTh3
set_option linter.unusedVariables false
set_option linter.unusedSimpArgs false
set_option maxRecDepth 20000
namespace Go.Proofs.YtdkfkpbijdimkaaGreatDoor
open Go Go.Sim Go.ChangeShapes Go.WideShapes Go.ChangeAt Go.RowKit
set_option linter.unusedSectionVars false
variable [Fu]
noncomputable def bw (a0:List Int) (a1:Int) (a2:List Int):Option (ab×Int):=
 ((bif (a0.length:Int) != 32 then
  some true
 else
  (ba a1).bind fun y5=>
  some (y5==0)
  :Option Bool)).bind fun x4=>
 bif x4 then
  some ((⟨[],(List.replicate 16 (0:Int))⟩:ab),2)
 else
  (ba a1).bind fun y8=>
  (cz a2 y8).bind fun yA=>
  bif yA.2 != 0 then
   some ((⟨[],(List.replicate 16 (0:Int))⟩:ab),yA.2)
  else
   (((Loop.run (S:=(Int×(List Int)×(List Int))) (R:=((List Int)×(List Int))) (fun(xA,zA,hA)=>
     bif decide (xA<16) then
      (idx yA.1 xA).bind fun eA=>
      (idx zA xA).bind fun vB=>
      (idx yA.1 (IntKind.wrap .i64 (16+xA))).bind fun cA=>
      (idx hA xA).bind fun oB=>
      some (.next (IntKind.wrap .i64 (xA+1),List.set zA (Int.toNat xA) eA,List.set hA (Int.toNat xA) cA))
     else
      some (.done (zA,hA))) (0,(List.replicate 16 (0:Int)),(List.replicate 16 (0:Int)))).bind fun qA=>match qA with
    |(rA,wA)=>
     some (rA,wA)
    :Option ((List Int)×(List Int)))).bind fun kB=>match kB with
    |(bB,dB)=>
     (bS a0 bB).bind fun gA=>
     (sub yA.1 32 (yA.1.length:Int)).bind fun eB=>
     (cF gA.1 a1 bB eB).bind fun cB=>
     bif dB != cB then
      some ((⟨[],(List.replicate 16 (0:Int))⟩:ab),70)
     else
      (sub yA.1 32 (yA.1.length:Int)).bind fun qB=>
      (cj gA.1.Box (List.replicate 16 (0:Int)) qB).bind fun vA=>
      (idx vA 0).bind fun kA=>
      (idx vA 1).bind fun dA=>
      (ba a1).bind fun rB=>
      bif decide ((IntKind.wrap .i64 ((IntKind.wrap .i64 (256*(IntKind.wrap .i64 kA)))+(IntKind.wrap .i64 dA)))>(IntKind.wrap .i64 (rB - 34))) then
       some ((⟨[],(List.replicate 16 (0:Int))⟩:ab),71)
      else
       (((Loop.run (S := Int) (R := (Unit ⊕ (ab × Int))) (fun bA =>
         bif decide (bA<(vA.length:Int)) then
          (idx vA bA).bind fun mA=>
          bif mA != 0 then
           some (.done (.inr ((⟨[],(List.replicate 16 (0:Int))⟩:ab),71)))
          else
           some (.next (IntKind.wrap .i64 (bA+1)))
         else
          some (.done (.inl ()))) (IntKind.wrap .i64 (2+(IntKind.wrap .i64 ((IntKind.wrap .i64 (256*(IntKind.wrap .i64 kA)))+(IntKind.wrap .i64 dA)))))).bind fun nA=>match nA with
        | .inl _=>
         some (.inr ())
        | .inr z=>
         some (.inl z)
        : Option ((ab × Int) ⊕ Unit))).bind fun pA => match pA with
        | .inl z=>
         some z
        | .inr _=>
         (sub yA.1 0 32).bind fun tA=>
         (bq gA.1.Replay tA).bind fun oA=>
         ((bif decide (a1>1) then
          (sub vA 2 (IntKind.wrap .i64 (2+(IntKind.wrap .i64 ((IntKind.wrap .i64 (256*(IntKind.wrap .i64 kA)))+(IntKind.wrap .i64 dA)))))).bind fun uA=>
          (cI uA).bind fun xB=>
          some ({({(⟨[],(List.replicate 16 (0:Int))⟩:ab) with Replay:=oA}:ab) with Cell:=xB.1}:ab)
         else
          (sub vA 2 (IntKind.wrap .i64 (2+(IntKind.wrap .i64 ((IntKind.wrap .i64 (256*(IntKind.wrap .i64 kA)))+(IntKind.wrap .i64 dA)))))).bind fun yB=>
          (cd yB).bind fun zB=>
          some ({({(⟨[],(List.replicate 16 (0:Int))⟩:ab) with Replay:=oA}:ab) with Cell:=zB.1}:ab)
          :Option ab)).bind fun hB=>
         some (hB,0)
theorem o86 {a0:List Int} {a1:Int} {a2:List Int} {r0:(ab×Int)} (hF:bw a0 a1 a2=some r0) (L:List Res):Ok Tryz.prog 67 [SV.val K8 a0,SV.raw (.int .i64 a1),SV.val K8 a2] L (SV.tup [SV.val aK r0.1,SV.raw (.int .i64 r0.2)]) L:=by
 unfold bw at hF
 refine okI 136 Tryz.func67 rfl rfl rfl fun F0=>?_
 refine bs hF fun x4 h3 hF=>sr<|al ZT150 rfl fun b1=>a_ rfl<|nt<|sq<|sr<|m_ rfl<|oN Tryz.underlying24 rfl<|b_ rfl<|m_ rfl<|df 27 x4 ?_ (fun k=>?_)
 ·refine nt<|it hF rfl (fun hF=>?_) (fun hF=>?_)
  ·refine sr<|ov (OpV.bst BT150 (Bld.nil _)) rfl<|sP (x':=(⟨[],(List.replicate 16 (0:Int))⟩:ab)) .box .id sz150k rfl rfl rdV rfl<|a_ rfl<|nl<|fz (t:=6) rfl<|tn<|rt ?_
   cases osi hF
   exact rs Tryz.results67 (.ce rfl kt150 (.tm rfl .nil)) rfl rfl
  ·refine bs hF fun y8 h9 hF=>bs hF fun cA eC hF=>ct<|sr<|m_ rfl<|m_ rfl<|cx Tryz.call75 rfl (o70 h9 _)<|cx Tryz.call101 rfl (o72 eC _)<|m_ rfl<|oE rfl<|oE rfl<|a_ rfl<|a_ rfl<|nt<|sq<|sr<|mb rfl<|nt<|it hF rfl (fun hF=>?_) (fun hF=>?_)
   ·refine sr<|ov (OpV.bst BT150 (Bld.nil _)) rfl<|m_ rfl<|sP (x':=(⟨[],(List.replicate 16 (0:Int))⟩:ab)) .box .id sz150k rfl rfl rdV rfl<|a_ rfl<|nl<|fz (t:=6) rfl<|tn<|rt ?_
    cases osi hF
    exact rs Tryz.results67 (.ce rfl kt150 (.tm rfl .nil)) rfl rfl
   ·refine bs hF fun cC xB hF=>ct<|sr<|al ZT108 rfl fun hC=>al ZT108 rfl fun bC=>nt<|sq<|Under.after (fun X=>∀(tA:List Int) (yB:List Int),cC=(tA,yB)→Under F0 136 [(0,.val K8 a0),(1,.raw (.int .i64 a1)),(6,pb b1),(8,.val K8 cA.1),(10,.ptr K6 tA),(11,.ptr K6 yB)] ((.box aK b1 150 (⟨[],(List.replicate 16 (0:Int))⟩:ab))::L) X) ?_ ?_
    ·intro tA yB oA
     replace oA:=oA.symm
     subst oA
     refine bs hF fun uA qC hF=>bs hF fun rC wC hF=>bs hF fun vC gC hF=>sr<|m_ rfl<|oL kt108 rfl<|cx Tryz.call102 rfl (o73 qC _)<|m_ rfl<|oE rfl<|oE rfl<|al ZT176 rfl fun wD=>sP (x':=uA.1) .box .id sz176k rfl rfl rdV rfl<|a_ rfl<|nl<|fz (t:=13) rfl<|tn<|sq<|ph rfl<|Under.grpT (L:=L) [0,1,2,3,4,5,6] [[13],[1],[10],[8],[66],[63,64,65,67],[]] [⟨sk0 (.val av uA.1),[],[],[]⟩,⟨sk0 (.raw (.int .i64 a1)),[],[],[]⟩,⟨sk0 (.val K6 tA),[],[],[]⟩,⟨sk0 (.val K8 cA.1),[],[],[]⟩,⟨sk0 (.val K8 rC),[],[],[]⟩,⟨sk0 (.val K6 vC),[],[],[]⟩,⟨sk1 6 (fun u6=> .raw (.pointer (some ⟨(vblk u6),0,none⟩))),[],[(0,tk1 6 (fun u6=> .box K6 (vblk u6) 108 (List.replicate 16 (0:Int))))],[]⟩] [] (fun T:List Res=>(.box aK b1 150 (⟨[],(List.replicate 16 (0:Int))⟩:ab))::T) lf1 rfl (by kernel_rfl) rfl rfl (fun F hF0 zB=>?_)
     refine Tq.v (fun G T hG=>?_) ?_
     ·exact oL kt176 rfl<|Tq.end undef rfl rfl
     refine Tq.v (fun G T hG=>?_) ?_
     ·exact m_ rfl<|Tq.end undef rfl rfl
     refine Tq.v (fun G T hG=>?_) ?_
     ·exact oL kt108 rfl<|Tq.end undef rfl rfl
     refine Tq.v (fun G T hG=>?_) ?_
     ·exact m_ rfl<|Tq.end undef rfl rfl
     refine Tq.v (fun G T hG=>?_) ?_
     ·exact ov (OpV.slL wC Tryz.underlying24 sz5 rfl rdV rfl) rfl<|Tq.end undef rfl rfl
     refine Tq.v (fun G T hG=>?_) ?_
     ·exact cx Tryz.call103 rfl (o75 gC _)<|Tq.end undef rfl rfl
     refine Tq.st (.raw (.pointer (some ⟨(vblk (zB 6)),0,none⟩))) [] rfl rfl (fun G T hG=>?_) ?_
     ·exact al ZT108 rfl fun mC=>Tq.end (.pointer (some ⟨mC,0,none⟩)) rfl rfl
     refine Tq.nil<|Under.le hF0<|p1 7 rfl rfl<|f1<|sP (x':=vC) .box .id sz108k rfl rfl rdV rfl<|pn<|pd rfl<|fz (t:=15) rfl<|tn<|sq<|sr<|oL kt108 rfl<|oL kt108 rfl<|ov (OpV.neK eqk108 eqg108 rfl rfl rfl rdV rfl rdV) rfl<|nt<|it hF rfl (fun hF=>?_) (fun hF=>?_)
     ·refine sr<|ov (OpV.bst BT150 (Bld.nil _)) rfl<|sP (x':=(⟨[],(List.replicate 16 (0:Int))⟩:ab)) .box .id sz150k rfl rfl rdV rfl<|a_ rfl<|nl<|fz (t:=6) rfl<|tn<|rt ?_
      cases osi hF
      exact rs Tryz.results67 (.ce rfl kt150 (.tm rfl .nil)) rfl rfl
     ·refine bs hF fun gD nC hF=>bs hF fun oC pC hF=>bs hF fun kC tC hF=>bs hF fun dC uC hF=>bs hF fun mD xD hF=>ct<|sq<|ph rfl<|gV [0,1,2,3,4] [[13],[73],[],[8],[76]] 1 (by kernel_rfl) rfl<|vo (fun _=>OpV.fd fb176k1 rfl rfl) rfl<|vo (fun _=>OpV.ld kt108 rfl) rfl<|vo (fun _=>OpV.bar (ys:=(List.replicate 16 (0:Int))) BTA108 (BldA.nil _)) rfl<|vm_ rfl<|vo (fun _=>OpV.slL nC Tryz.underlying24 sz5 rfl rdV rfl) rfl<|vn<|p1 5 rfl rfl<|cx Tryz.call104 rfl (o82 pC _)<|pn<|p1 6 rfl rfl<|a_ rfl<|pn<|pd rfl<|tn<|sq<|dw rfl (by kernel_rfl) fun F hF0=>mvq rfl rfl<|oq (OpV.ixS tC Tryz.underlying24 sz5 rfl rdV rfl) rfl<|oq (OpV.ldI kt5 rfl) rfl<|oq (OpV.conv (by kernel_rfl) Tryz.underlying3 rfl) rfl<|bnq rfl rfl rfl rfl<|mvq rfl rfl<|oq (OpV.ixS uC Tryz.underlying24 sz5 rfl rdV rfl) rfl<|oq (OpV.ldI kt5 rfl) rfl<|oq (OpV.conv (by kernel_rfl) Tryz.underlying3 rfl) rfl<|bnq rfl rfl rfl rfl<|agq rfl rfl<|nlq hF0<|tn<|sq<|sr<|m_ rfl<|m_ rfl<|cx Tryz.call75 rfl (o70 xD _)<|b_ rfl<|b_ rfl<|nt<|it hF rfl (fun hF=>?_) (fun hF=>?_)
      ·refine sr<|ov (OpV.bst BT150 (Bld.nil _)) rfl<|sP (x':=(⟨[],(List.replicate 16 (0:Int))⟩:ab)) .box .id sz150k rfl rfl rdV rfl<|a_ rfl<|nl<|fz (t:=6) rfl<|tn<|rt ?_
       cases osi hF
       exact rs Tryz.results67 (.ce rfl kt150 (.tm rfl .nil)) rfl rfl
      ·refine bs hF fun hB vA hF=>ct<|sq<|Under.after (fun X=>∀(_:Unit),hB=(.inr ())→Under F0 136 [(1,.raw (.int .i64 a1)),(6,pb b1),(8,.val K8 cA.1),(13,.ptr av uA.1),(16,.val K8 oC),(17,.raw (.int .i64 (IntKind.wrap .i64 ((IntKind.wrap .i64 (256*(IntKind.wrap .i64 kC)))+(IntKind.wrap .i64 dC)))))] ((.box aK b1 150 (⟨[],(List.replicate 16 (0:Int))⟩:ab))::L) X) ?_ ?_
       ·intro _ kA
        replace kA:=kA.symm
        subst kA
        refine bs hF fun yD bB hF=>bs hF fun dA vB hF=>bs hF fun bA yA hF=>sr<|al ZT150 rfl fun zD=>nt<|sq<|ph rfl<|gV [0,1,2,3] [[13],[109],[8],[111]] 2 (by kernel_rfl) rfl<|vo (fun _=>OpV.fd fb176k2 rfl rfl) rfl<|vo (fun _=>OpV.ld kt169 rfl) rfl<|vm_ rfl<|vo (fun _=>OpV.slH bB Tryz.underlying24 sz5 rfl rdV rfl) rfl<|vn<|p1 4 rfl rfl<|cx Tryz.call105 rfl (o74 vB _)<|pn<|p1 5 rfl rfl<|oM nZ rfl<|pn<|p1 6 rfl rfl<|sP (x':=({(⟨[],(List.replicate 16 (0:Int))⟩:ab) with Replay:=dA}:ab)) .box (.fld .id g9) sz108k rfl rfl rdV rfl<|pn<|pd rfl<|tn<|sq<|afr (r:=bA) (fun bA=>[(6,pb b1),(19,.ptr aK bA)]) (fun bA=>((.box aK b1 150 (⟨[],(List.replicate 16 (0:Int))⟩:ab))::L)) ?_ fun K qA=>?_
        ·refine sr<|oL kt150 rfl<|sP (x':=bA) .box .id sz150k rfl rfl rdV rfl<|a_ rfl<|nl<|fz (t:=6) rfl<|tn<|rc ?_
         cases osi hF
         exact rs Tryz.results67 (.ce rfl kt150 (.tm rfl .nil)) rfl rfl
        ·refine sr<|mb rfl<|nt<|it yA rfl (fun yA=>?_) (fun yA=>?_)
         ·exact bs yA fun hD oB yA=>bs yA fun kB dB yA=>rg<|m_ rfl<|mb rfl<|ov (OpV.slLH oB Tryz.underlying24 sz5 rfl rdV rfl rfl) rfl<|cx Tryz.call44 rfl (o84 dB _)<|m_ rfl<|oE rfl<|oE rfl<|oM ii rfl<|sP (x':=({({(⟨[],(List.replicate 16 (0:Int))⟩:ab) with Replay:=dA}:ab) with Cell:=kB.1}:ab)) .box (.fld .id dc) sz24k rfl rfl rdV rfl<|nl<|fz (t:=19) rfl<|tn<|wr (qA _ (osi yA).symm) rfl
         ·exact bs yA fun bD eB yA=>bs yA fun cB qB yA=>rg<|m_ rfl<|mb rfl<|ov (OpV.slLH eB Tryz.underlying24 sz5 rfl rdV rfl rfl) rfl<|cx Tryz.call106 rfl (o85 qB _)<|m_ rfl<|oE rfl<|oE rfl<|oM ii rfl<|sP (x':=({({(⟨[],(List.replicate 16 (0:Int))⟩:ab) with Replay:=dA}:ab) with Cell:=cB.1}:ab)) .box (.fld .id dc) sz24k rfl rfl rdV rfl<|nl<|fz (t:=19) rfl<|tn<|wr (qA _ (osi yA).symm) rfl
       ·intro K rB
        refine bs vA fun vD wB vA=>sr<|mb rfl<|a_ rfl<|nt<|bk<|lp wB () (fun eA rA=>[(1,.raw (.int .i64 a1)),(6,pb b1),(8,.val K8 cA.1),(13,.ptr av uA.1),(16,.val K8 oC),(17,.raw (.int .i64 (IntKind.wrap .i64 ((IntKind.wrap .i64 (256*(IntKind.wrap .i64 kC)))+(IntKind.wrap .i64 dC))))),(18,.raw (.int .i64 eA))]) (fun eA rA=>(.box aK b1 150 (⟨[],(List.replicate 16 (0:Int))⟩:ab))::L) rfl rfl fun eA rA oD zA wA=>?_
        refine sq<|sr<|m_ rfl<|m_ rfl<|oN Tryz.underlying24 rfl<|b_ rfl<|nt<|it zA rfl (fun zA=>?_) (fun zA=>?_)
        ·refine bs zA fun kD gB zA=>ct<|sq<|bk<|sr<|m_ rfl<|m_ rfl<|oS gB Tryz.underlying24 sz5 rfl<|oI kt5 rfl<|b_ rfl<|nt<|it zA rfl (fun zA=>?_) (fun zA=>?_)
         ·refine sr<|ov (OpV.bst BT150 (Bld.nil _)) rfl<|sP (x':=(⟨[],(List.replicate 16 (0:Int))⟩:ab)) .box .id sz150k rfl rfl rdV rfl<|a_ rfl<|nl<|fz (t:=6) rfl<|tn<|rc<|Under.bR<|tr ?_
          cases aj zA wA
          refine tr<|Under.bR<|tr ?_
          cases osi vA
          cases osi hF
          exact rs Tryz.results67 (.ce rfl kt150 (.tm rfl .nil)) rfl rfl
         ·exact cs<|bN<|tn<|rg<|mb rfl<|a_ rfl<|nl<|nx () zA rfl rfl
        ·refine xt<|te ?_
         cases aj zA wA
         exact te<|bh<|tn<|wr (rB () (osi vA).symm) rfl
    ·intro K dD
     refine bs xB fun eD mB xB=>sr<|a_ rfl<|nt<|bk<|f1<|f2<|lp mB () (fun hA gA=>[(0,.val K8 a0),(1,.raw (.int .i64 a1)),(6,pb b1),(8,.val K8 cA.1),(10,pb hC),(11,pb bC),(12,.raw (.int .i64 hA.1))]) (fun hA gA=>(.box aK b1 150 (⟨[],(List.replicate 16 (0:Int))⟩:ab))::(.box K6 hC 108 hA.2.1)::(.box K6 bC 108 hA.2.2)::L) rfl rfl fun hA gA cD xA nB=>?_
     obtain⟨mA,pB,tB⟩:=hA
     dsimp only at xA⊢
     refine sq<|sr<|mb rfl<|nt<|it xA rfl (fun xA=>?_) (fun xA=>?_)
     ·exact bs xA fun uB xC xA=>bs xA fun qD nA xA=>bs xA fun yC zC xA=>bs xA fun rD pA xA=>ct<|sq<|bk<|sr<|m_ rfl<|m_ rfl<|m_ rfl<|oS xC Tryz.underlying24 sz5 rfl<|oI kt5 rfl<|f1<|oX .box .id nA Tryz.underlying108 sz5k rfl<|sP (x':=List.set pB (Int.toNat mA) uB) .box (.ix .id nA) sz5k rfl rfl rdI rfl<|nt<|rg<|m_ rfl<|m_ rfl<|mb rfl<|oS zC Tryz.underlying24 sz5 rfl<|oI kt5 rfl<|f2<|oX .box .id pA Tryz.underlying108 sz5k rfl<|sP (x':=List.set tB (Int.toNat mA) yC) .box (.ix .id pA) sz5k rfl rfl rdI rfl<|nl<|bN<|tn<|rg<|mb rfl<|a_ rfl<|nl<|f1<|f2<|nx () xA rfl rfl
     ·refine f1<|fz (t:=10) rfl<|f1<|fz (t:=11) rfl<|xt<|te ?_
      cases aj xA nB
      exact te<|bh<|tn<|wr (dD _ _ (osi xB).symm) rfl
 ·refine by_ (t:=23) rfl (fun c2=>?_) (fun c2=>?_)
  ·replace h3:=ctrue c2 h3
   exact sk_ c2 rfl<|sk_ c2 rfl<|sk_ c2 rfl<|pT c2 rfl<|rf 3 (rbq h3) rfl k
  ·replace h3:=cfalse c2 h3
   exact bs h3 fun y5 h6 h3=>gc_ c2 rfl<|m_ rfl<|gc_ c2 rfl<|cx Tryz.call75 rfl (o70 h6 _)<|gc_ c2 rfl<|b_ rfl<|pF c2 rfl<|rf 3 (rbq h3) rfl k
noncomputable def bz (a0:List Int):Option ((List Int)×Bool×Int):=
 bif (a0.length:Int) != 320 then
  some ([],false,50)
 else
  (idx a0 0).bind fun x2=>
  bif decide (x2>1) then
   some ([],false,52)
  else
   (idx a0 0).bind fun x5=>
   bif x5==0 then
    some ([],false,0)
   else
    (idx a0 1).bind fun x8=>
    bif decide (x8>48) then
     some ([],false,53)
    else
     (idx a0 1).bind fun xA=>
     (aZ a0 (IntKind.wrap .i64 (2+(IntKind.wrap .i64 xA)))).bind fun yA=>
     bif !yA then
      some ([],false,51)
     else
      (idx a0 1).bind fun zA=>
      (sub a0 2 (IntKind.wrap .i64 (2+(IntKind.wrap .i64 zA)))).bind fun hA=>
      (app [] hA).bind fun bA=>
      some (bA,true,0)
theorem o87 {a0:List Int} {r0:((List Int)×Bool×Int)} (hF:bz a0=some r0) (L:List Res):Ok Tryz.prog 29 [SV.val K8 a0] L (SV.tup [SV.val K8 r0.1,SV.raw (.bool r0.2.1),SV.raw (.int .i64 r0.2.2)]) L:=by
 unfold bz at hF
 refine okI 42 Tryz.func29 rfl rfl rfl fun F0=>?_
 refine sr<|a_ rfl<|a_ rfl<|a_ rfl<|nt<|sq<|bk<|sr<|m_ rfl<|oN Tryz.underlying24 rfl<|b_ rfl<|a_ rfl<|nt<|it hF rfl (fun hF=>?_) (fun hF=>?_)
 ·refine sr<|a_ rfl<|a_ rfl<|a_ rfl<|nt<|rc<|Under.bR<|tr<|tV (K:=kSl K10) (x:=[]) (t:=2) rfl rdN ?_
  cases osi hF
  exact rs Tryz.results29 (.tm rfl (.tm rfl (.tm rfl .nil))) rfl rfl
 ·refine bs hF fun x2 h3 hF=>sr<|m_ rfl<|oS h3 Tryz.underlying24 sz5 rfl<|oI kt5 rfl<|b_ rfl<|a_ rfl<|nt<|it hF rfl (fun hF=>?_) (fun hF=>?_)
  ·refine sr<|a_ rfl<|a_ rfl<|a_ rfl<|nt<|rc<|Under.bR<|tr<|tV (K:=kSl K10) (x:=[]) (t:=2) rfl rdN ?_
   cases osi hF
   exact rs Tryz.results29 (.tm rfl (.tm rfl (.tm rfl .nil))) rfl rfl
  ·refine bs hF fun x5 h6 hF=>sr<|m_ rfl<|oS h6 Tryz.underlying24 sz5 rfl<|oI kt5 rfl<|b_ rfl<|a_ rfl<|nt<|it hF rfl (fun hF=>?_) (fun hF=>?_)
   ·refine sr<|a_ rfl<|a_ rfl<|a_ rfl<|nt<|rc<|Under.bR<|tr<|tV (K:=kSl K10) (x:=[]) (t:=2) rfl rdN ?_
    cases osi hF
    exact rs Tryz.results29 (.tm rfl (.tm rfl (.tm rfl .nil))) rfl rfl
   ·refine bs hF fun x8 h9 hF=>sr<|m_ rfl<|oS h9 Tryz.underlying24 sz5 rfl<|oI kt5 rfl<|b_ rfl<|a_ rfl<|nt<|it hF rfl (fun hF=>?_) (fun hF=>?_)
    ·refine sr<|a_ rfl<|a_ rfl<|a_ rfl<|nt<|rc<|Under.bR<|tr<|tV (K:=kSl K10) (x:=[]) (t:=2) rfl rdN ?_
     cases osi hF
     exact rs Tryz.results29 (.tm rfl (.tm rfl (.tm rfl .nil))) rfl rfl
    ·refine bs hF fun vA xA hF=>bs hF fun oA yA hF=>sr<|m_ rfl<|m_ rfl<|oS xA Tryz.underlying24 sz5 rfl<|oI kt5 rfl<|oC (by kernel_rfl) Tryz.underlying3 rfl<|b_ rfl<|cx Tryz.call55 rfl (o71 yA _)<|ov (OpV.not rfl) rfl<|a_ rfl<|nt<|it hF rfl (fun hF=>?_) (fun hF=>?_)
     ·refine sr<|a_ rfl<|a_ rfl<|a_ rfl<|nt<|rc<|Under.bR<|tr<|tV (K:=kSl K10) (x:=[]) (t:=2) rfl rdN ?_
      cases osi hF
      exact rs Tryz.results29 (.tm rfl (.tm rfl (.tm rfl .nil))) rfl rfl
     ·refine bs hF fun kA zA hF=>bs hF fun dA hA hF=>bs hF fun eA bA hF=>cs<|bN<|tn<|sr<|bO (ys:=[]) Tryz.underlying24 ET5 (BldA.nil _) rfl rfl fun cA=>m_ rfl<|m_ rfl<|oS zA Tryz.underlying24 sz5 rfl<|oI kt5 rfl<|oC (by kernel_rfl) Tryz.underlying3 rfl<|b_ rfl<|ov (OpV.slLH hA Tryz.underlying24 sz5 rfl rdV rfl rfl) rfl<|ap bA Tryz.underlying24 AT5 rfl rfl rdV rfl fun qA=>a_ rfl<|a_ rfl<|a_ rfl<|nl<|fzO (t:=2) rfl<|tn<|rc ?_
      cases osi hF
      exact rs Tryz.results29 (.tm rfl (.tm rfl (.tm rfl .nil))) rfl rfl
noncomputable def bI (a0:List (List Int)) (a1:List (List Int)) (a2:List Int):Option ((List Int)×Int):=
 (cc a0 a1).bind fun y1=>
 bif y1 != 0 then
  some ([],y1)
 else
  (((Loop.run (S := ((List Int) × Int)) (R := ((List Int) ⊕ ((List Int) × Int))) (fun (kA, yA) =>
    bif decide (yA<(a0.length:Int)) then
     (idx a0 yA).bind fun zA=>
     (idx a1 yA).bind fun hA=>
     (bW zA hA).bind fun bA=>
     (bw bA.1 (IntKind.wrap .i64 ((a0.length:Int) - yA)) kA).bind fun xA=>
     bif xA.2 != 0 then
      some (.done (.inr ([],xA.2)))
     else
      some (.next (xA.1.Cell,IntKind.wrap .i64 (yA+1)))
    else
     some (.done (.inl kA))) (a2,0)).bind fun vA=>match vA with
   | .inl oA=>
    some (.inr oA)
   | .inr z=>
    some (.inl z)
   : Option (((List Int) × Int) ⊕ (List Int)))).bind fun eA => match eA with
   | .inl z=>
    some z
   | .inr cA=>
    (bz cA).bind fun dA=>
    some (dA.1,dA.2.2)
theorem o88 {a0 a1:List (List Int)} {a2:List Int} {r0:((List Int)×Int)} (hF:bI a0 a1 a2=some r0) (L:List Res):Ok Tryz.prog 36 [SV.val K1 a0,SV.val K0 a1,SV.val K8 a2] L (SV.tup [SV.val K8 r0.1,SV.raw (.int .i64 r0.2)]) L:=by
 unfold bI at hF
 refine okI 65 Tryz.func36 rfl rfl rfl fun F0=>?_
 refine bs hF fun y1 h2 hF=>sr<|a_ rfl<|a_ rfl<|ns<|m_ rfl<|m_ rfl<|cx Tryz.call65 rfl (o68 h2 _)<|a_ rfl<|nt<|sq<|sr<|mb rfl<|nt<|it hF rfl (fun hF=>?_) (fun hF=>?_)
 ·refine sr<|m_ rfl<|a_ rfl<|a_ rfl<|nt<|rt<|tV (K:=kSl K10) (x:=[]) (t:=6) rfl rdN ?_
  cases osi hF
  exact rs Tryz.results36 (.tm rfl (.tm rfl .nil)) rfl rfl
 ·refine bs hF fun wA vA hF=>ct<|sr<|m_ rfl<|oN Tryz.underlying22 rfl<|a_ rfl<|nt<|sq<|Under.after (fun X=>∀(oA:List Int),wA=(.inr oA)→Under F0 65 [(2,.val K8 oA)] (L) X) ?_ ?_
  ·intro oA zA
   replace zA:=zA.symm
   subst zA
   refine bs hF fun zB gA hF=>sr<|m_ rfl<|cx Tryz.call29 rfl (o87 gA _)<|m_ rfl<|oE rfl<|oE rfl<|oE rfl<|a_ rfl<|a_ rfl<|a_ rfl<|ns<|m_ rfl<|m_ rfl<|a_ rfl<|a_ rfl<|nt<|rc ?_
   cases osi hF
   exact rs Tryz.results36 (.tm rfl (.tm rfl .nil)) rfl rfl
  ·intro K mA
   refine bs vA fun nA kA vA=>sr<|a_ rfl<|nt<|bk<|lp kA () (fun yA hA=>[(0,.val K1 a0),(1,.val K0 a1),(2,.val K8 yA.1),(9,.raw (.int .i64 (a0.length:Int))),(10,.raw (.int .i64 yA.2))]) (fun yA hA=>L) rfl rfl fun yA hA pA xA bA=>?_
   obtain⟨hB,bB⟩:=yA
   dsimp only at xA⊢
   refine sq<|sr<|m_ rfl<|mb rfl<|nt<|it xA rfl (fun xA=>?_) (fun xA=>?_)
   ·refine bs xA fun tA dA xA=>bs xA fun uA eA xA=>bs xA fun xB cA xA=>bs xA fun qA rA xA=>ct<|sq<|bk<|sq<|ph rfl<|gV [0,1,2,3,4,5,6,7] [[0],[10],[32,33],[34],[1],[10],[36,37],[38]] 0 (by kernel_rfl) rfl<|vm_ rfl<|vm_ rfl<|vo (fun _=>OpV.ixS dA Tryz.underlying22 sz24 rfl rdV rfl) rfl<|vo (fun _=>OpV.ld kt24 rfl) rfl<|vm_ rfl<|vm_ rfl<|vo (fun _=>OpV.ixS eA Tryz.underlying23 sz108 rfl rdV rfl) rfl<|vo (fun _=>OpV.ld kt108 rfl) rfl<|vn<|p1 8 rfl rfl<|cx Tryz.call66 rfl (o69 cA _)<|pn<|p1 9 rfl rfl<|m_ rfl<|pn<|gV [10,11,12] [[31],[31],[41]] 0 (by kernel_rfl) rfl<|vo (fun _=>OpV.extr rfl rfl) rfl<|vo (fun _=>OpV.extr rfl rfl) rfl<|Vq.v (fun G T hG=>a_ rfl<|Vq.end rfl)<|vn<|p1 13 rfl rfl<|a_ rfl<|pn<|pd rfl<|tn<|sr<|m_ rfl<|m_ rfl<|mb rfl<|m_ rfl<|cx Tryz.call67 rfl (o86 rA _)<|m_ rfl<|oE rfl<|oE rfl<|al ZT150 rfl fun yB=>sP (x':=qA.1) .box .id sz150k rfl rfl rdV rfl<|a_ rfl<|nl<|fz (t:=13) rfl<|tn<|sq<|sr<|mb rfl<|nt<|it xA rfl (fun xA=>?_) (fun xA=>?_)
    ·refine sr<|m_ rfl<|a_ rfl<|a_ rfl<|nt<|rt<|Under.bR<|tr ?_
     cases aj xA bA
     refine tr<|Under.bR<|tr ?_
     cases osi vA
     refine tV (K:=kSl K10) (x:=[]) (t:=6) rfl rdN ?_
     cases osi hF
     exact rs Tryz.results36 (.tm rfl (.tm rfl .nil)) rfl rfl
    ·exact ct<|rg<|oF fb150k rfl<|oL kt24 rfl<|a_ rfl<|nl<|bN<|tn<|rg<|mb rfl<|a_ rfl<|nl<|nx () xA rfl rfl
   ·refine xt<|te ?_
    cases aj xA bA
    exact te<|bh<|tn<|wr (mA _ (osi vA).symm) rfl
noncomputable def bT (a0:List Int):Option (Int×(List Int)×Int):=
 ((bif (decide ((a0.length:Int)<1))||(decide ((a0.length:Int)>41)) then
  some true
 else
  (idx a0 0).bind fun x7=>
  some (decide (x7>3))
  :Option Bool)).bind fun x6=>
 bif x6 then
  some (0,[],280)
 else
  (idx a0 0).bind fun xA=>
  bif ((IntKind.wrap .i64 xA) != 1)&&(decide ((a0.length:Int)>1)) then
   some (0,[],280)
  else
   (sub a0 1 (a0.length:Int)).bind fun yA=>
   (app [] yA).bind fun zA=>
   some (IntKind.wrap .i64 xA,zA,0)
theorem o89 {a0:List Int} {r0:(Int×(List Int)×Int)} (hF:bT a0=some r0) (L:List Res):Ok Tryz.prog 37 [SV.val K8 a0] L (SV.tup [SV.raw (.int .i64 r0.1),SV.val K8 r0.2.1,SV.raw (.int .i64 r0.2.2)]) L:=by
 unfold bT at hF
 refine okI 38 Tryz.func37 rfl rfl rfl fun F0=>?_
 refine sr<|a_ rfl<|a_ rfl<|a_ rfl<|nt<|sq<|sr<|m_ rfl<|oN Tryz.underlying24 rfl<|b_ rfl<|m_ rfl<|df 14 ((decide ((a0.length:Int)<1))||(decide ((a0.length:Int)>41))) ?_ (fun k=>?_)
 ·refine bs hF fun x6 h5 hF=>m_ rfl<|oz 20 x6 ?_ (fun k=>?_)
  ·refine nt<|it hF rfl (fun hF=>?_) (fun hF=>?_)
   ·refine sr<|a_ rfl<|a_ rfl<|a_ rfl<|nt<|rt<|tV (K:=kSl K10) (x:=[]) (t:=3) rfl rdN ?_
    cases osi hF
    exact rs Tryz.results37 (.tm rfl (.tm rfl (.tm rfl .nil))) rfl rfl
   ·refine bs hF fun yA zA hF=>ct<|sr<|m_ rfl<|oS zA Tryz.underlying24 sz5 rfl<|oI kt5 rfl<|oC (by kernel_rfl) Tryz.underlying3 rfl<|a_ rfl<|nt<|sq<|sr<|mb rfl<|m_ rfl<|df 31 (((IntKind.wrap .i64 yA) != 1)&&(decide ((a0.length:Int)>1))) ?_ (fun k=>?_)
    ·refine nt<|it hF rfl (fun hF=>?_) (fun hF=>?_)
     ·refine sr<|a_ rfl<|a_ rfl<|a_ rfl<|nt<|rt<|tV (K:=kSl K10) (x:=[]) (t:=3) rfl rdN ?_
      cases osi hF
      exact rs Tryz.results37 (.tm rfl (.tm rfl (.tm rfl .nil))) rfl rfl
     ·refine bs hF fun vA hA hF=>bs hF fun oA bA hF=>ct<|sr<|a_ rfl<|ns<|m_ rfl<|m_ rfl<|ov (OpV.slL hA Tryz.underlying24 sz5 rfl rdV rfl) rfl<|Under.ownNil (K:=kInt .u8) (e:=5)<|ap bA Tryz.underlying24 AT5 rfl rfl rdV rfl fun kA=>a_ rfl<|nl<|fzO (t:=6) rfl<|tn<|sr<|m_ rfl<|m_ rfl<|a_ rfl<|a_ rfl<|a_ rfl<|nt<|rc ?_
      cases osi hF
      exact rs Tryz.results37 (.tm rfl (.tm rfl (.tm rfl .nil))) rfl rfl
    ·refine by_ (t:=27) rfl (fun xA=>?_) (fun xA=>?_)
     ·exact gc_ xA rfl<|m_ rfl<|gc_ xA rfl<|oN Tryz.underlying24 rfl<|gc_ xA rfl<|b_ rfl<|pT xA rfl<|rf 3 (gj xA) rfl k
     ·exact sk_ xA rfl<|sk_ xA rfl<|sk_ xA rfl<|pF xA rfl<|rf 3 (gm (e:=decide ((a0.length:Int)>1)) xA) rfl k
  ·refine by_ (t:=15) rfl (fun c4=>?_) (fun c4=>?_)
   ·replace h5:=ctrue c4 h5
    exact sk_ c4 rfl<|sk_ c4 rfl<|sk_ c4 rfl<|sk_ c4 rfl<|pT c4 rfl<|rf 4 (rbq h5) rfl k
   ·replace h5:=cfalse c4 h5
    exact bs h5 fun x7 h8 h5=>gc_ c4 rfl<|m_ rfl<|gc_ c4 rfl<|oS h8 Tryz.underlying24 sz5 rfl<|gc_ c4 rfl<|oI kt5 rfl<|gc_ c4 rfl<|b_ rfl<|pF c4 rfl<|rf 4 (rbq h5) rfl k
 ·refine by_ (t:=10) rfl (fun c1=>?_) (fun c1=>?_)
  ·exact sk_ c1 rfl<|sk_ c1 rfl<|sk_ c1 rfl<|pT c1 rfl<|rf 3 (or_t (e:=decide ((a0.length:Int)>41)) c1) rfl k
  ·exact gc_ c1 rfl<|m_ rfl<|gc_ c1 rfl<|oN Tryz.underlying24 rfl<|gc_ c1 rfl<|b_ rfl<|pF c1 rfl<|rf 3 (or_f c1) rfl k
noncomputable def ck (a0:List (List Int)) (a1:Int) (a2:List (List Int)) (a3:List Int):Option (Int×(List Int)×Int):=
 (((Loop.run (S := ((List (List Int)) × Int)) (R := ((List (List Int)) ⊕ (Int × (List Int) × Int))) (fun (bA, xA) =>
   bif decide (xA<(a0.length:Int)) then
    (idx a0 xA).bind fun vA=>
    (cy vA a1).bind fun yA=>
    bif yA.2 != 0 then
     some (.done (.inr (0,[],yA.2)))
    else
     (app bA [yA.1]).bind fun oA=>
     some (.next (oA,IntKind.wrap .i64 (xA+1)))
   else
    some (.done (.inl bA))) ([],0)).bind fun kA=>match kA with
  | .inl dA=>
   some (.inr dA)
  | .inr z=>
   some (.inl z)
  : Option ((Int × (List Int) × Int) ⊕ (List (List Int))))).bind fun eA => match eA with
  | .inl z=>
   some z
  | .inr cA=>
   (bI cA a2 a3).bind fun zA=>
   bif zA.2 != 0 then
    some (0,[],zA.2)
   else
    (bT zA.1).bind fun hA=>
    some (hA.1,hA.2.1,hA.2.2)
theorem o90 {a0:List (List Int)} {a1:Int} {a2:List (List Int)} {a3:List Int} {r0:(Int×(List Int)×Int)} (hF:ck a0 a1 a2 a3=some r0) (L:List Res):Ok Tryz.prog 18 [SV.val K1 a0,SV.raw (.int .i64 a1),SV.val K0 a2,SV.val K8 a3] L (SV.tup [SV.raw (.int .i64 r0.1),SV.val K8 r0.2.1,SV.raw (.int .i64 r0.2.2)]) L:=by
 unfold ck at hF
 refine okI 53 Tryz.func18 rfl rfl rfl fun F0=>?_
 refine bs hF fun kA bA hF=>sr<|a_ rfl<|a_ rfl<|a_ rfl<|ns<|a_ rfl<|nt<|sq<|Under.after (fun X=>∀(vA:List (List Int)),kA=(.inr vA)→Under F0 53 [(2,.val K0 a2),(3,.val K8 a3),(11,.val K1 vA)] (L) X) ?_ ?_
 ·intro vA hA
  replace hA:=hA.symm
  subst hA
  refine bs hF fun pA dA hF=>sr<|m_ rfl<|m_ rfl<|m_ rfl<|cx Tryz.call36 rfl (o88 dA _)<|m_ rfl<|oE rfl<|oE rfl<|a_ rfl<|a_ rfl<|nt<|sq<|sr<|mb rfl<|nt<|it hF rfl (fun hF=>?_) (fun hF=>?_)
  ·refine sr<|m_ rfl<|a_ rfl<|a_ rfl<|a_ rfl<|nt<|rt<|tV (K:=kSl K10) (x:=[]) (t:=9) rfl rdN ?_
   cases osi hF
   exact rs Tryz.results18 (.tm rfl (.tm rfl (.tm rfl .nil))) rfl rfl
  ·refine bs hF fun tA eA hF=>ct<|sr<|m_ rfl<|cx Tryz.call37 rfl (o89 eA _)<|oE rfl<|oE rfl<|oE rfl<|a_ rfl<|a_ rfl<|a_ rfl<|nt<|rc ?_
   cases osi hF
   exact rs Tryz.results18 (.tm rfl (.tm rfl (.tm rfl .nil))) rfl rfl
 ·intro K cA
  refine bs bA fun uA qA bA=>sr<|m_ rfl<|oN Tryz.underlying22 rfl<|m_ rfl<|nt<|bk<|Under.ownNil (K:=kSl K10) (e:=24)<|lp qA (C:=Value) (.slice none 0 0) (fun yA zA=>[(1,.raw (.int .i64 a1)),(2,.val K0 a2),(3,.val K8 a3),(11,.raw zA),(18,.val K1 a0),(19,.raw (.int .i64 (a0.length:Int))),(20,.raw (.int .i64 yA.2))]) (fun yA zA=>(.own K8 zA 24 yA.1)::L) rfl rfl fun yA zA xB xA oA=>?_
  obtain⟨yB,zB⟩:=yA
  dsimp only at xA⊢
  refine sr<|b_ rfl<|nt<|sq<|it xA rfl (fun xA=>?_) (fun xA=>?_)
  ·refine bs xA fun hB rA xA=>bs xA fun wA gA xA=>ct<|sq<|bk<|sr<|oS rA Tryz.underlying22 sz24 rfl<|oL kt24 rfl<|a_ rfl<|ns<|m_ rfl<|m_ rfl<|cx Tryz.call22 rfl (o67 gA _)<|m_ rfl<|oE rfl<|oE rfl<|a_ rfl<|a_ rfl<|nt<|sq<|sr<|mb rfl<|nt<|it xA rfl (fun xA=>?_) (fun xA=>?_)
   ·refine dr<|sr<|m_ rfl<|a_ rfl<|a_ rfl<|a_ rfl<|nt<|rt<|Under.bR<|tr ?_
    cases aj xA oA
    refine tr<|Under.bR<|tr ?_
    cases osi bA
    refine tV (K:=kSl K10) (x:=[]) (t:=9) rfl rdN ?_
    cases osi hF
    exact rs Tryz.results18 (.tm rfl (.tm rfl (.tm rfl .nil))) rfl rfl
   ·exact bs xA fun bB mA xA=>ct<|rg<|m_ rfl<|m_ rfl<|bF (ys:=[wA.1]) Tryz.underlying22 ET24 (BldA.cons rfl rfl rdV (BldA.nil _)) rfl rfl<|ap mA Tryz.underlying22 AT24 rfl rfl rdV rfl fun nA=>a_ rfl<|nl<|bN<|tn<|rg<|b_ rfl<|m_ rfl<|nl<|nx nA xA rfl rfl
  ·refine fzO (t:=11) rfl<|xt<|te ?_
   cases aj xA oA
   exact te<|bh<|tn<|wr (cA _ (osi bA).symm) rfl
noncomputable def bb (a0:az) (a1:List Int):Option Bool:=
 (cb).bind fun y1=>
 bif !y1 then
  some false
 else
  (ck a0.Masters a0.Epoch a0.Nonces a1).bind fun y4=>
  (dp a0.Masters a0.Epoch a0.Nonces a1).bind fun y6=>
  some (((y6.2.2==y4.2.2)&&(y6.1==y4.1))&&((strB y6.2.1)==(strB y4.2.1)))
theorem o91 {a0:az} {a1:List Int} {r0:Bool} (hF:bb a0 a1=some r0) (L:List Res):Ok Tryz.prog 6 [SV.val bY a0,SV.val K8 a1] L (SV.raw (.bool r0)) L:=by
 unfold bb at hF
 refine okI 52 Tryz.func6 rfl rfl rfl fun F0=>?_
 refine bs hF fun y1 h2 hF=>sr<|bX (K:=bY) rfl rdV rfl<|a_ rfl<|nt<|sq<|sr<|cx Tryz.call15 rfl (o56 h2 _)<|ov (OpV.not rfl) rfl<|nt<|it hF rfl (fun hF=>?_) (fun hF=>?_)
 ·refine sr<|a_ rfl<|nt<|rt ?_
  cases osi hF
  exact rs Tryz.results6 (.tm rfl .nil) rfl rfl
 ·refine bs hF fun y4 h5 hF=>bs hF fun y6 h7 hF=>ct<|sr<|oF fb46k rfl<|oL kt22 rfl<|oF fb46k1 rfl<|oI kt2 rfl<|oF fb46k2 rfl<|oL kt23 rfl<|m_ rfl<|cx Tryz.call18 rfl (o90 h5 _)<|m_ rfl<|oE rfl<|oE rfl<|oE rfl<|a_ rfl<|a_ rfl<|a_ rfl<|ns<|oF fb46k rfl<|oL kt22 rfl<|oF fb46k1 rfl<|oI kt2 rfl<|oF fb46k2 rfl<|oL kt23 rfl<|m_ rfl<|cx Tryz.call19 rfl (o50 h7 _)<|m_ rfl<|oE rfl<|oE rfl<|oE rfl<|a_ rfl<|a_ rfl<|a_ rfl<|ns<|m_ rfl<|mb rfl<|m_ rfl<|df 44 ((y6.2.2==y4.2.2)&&(y6.1==y4.1)) ?_ (fun k=>?_)
  ·refine m_ rfl<|j5 51 (((y6.2.2==y4.2.2)&&(y6.1==y4.1))&&((strB y6.2.1)==(strB y4.2.1))) ?_ (fun k=>?_)
   ·refine a_ rfl<|nt<|rc ?_
    cases osi hF
    exact rs Tryz.results6 (.tm rfl .nil) rfl rfl
   ·refine by_ (t:=45) rfl (fun xA=>?_) (fun xA=>?_)
    ·exact gc_ xA rfl<|m_ rfl<|gc_ xA rfl<|ov (OpV.b2s Tryz.underlying24 Tryz.underlying5 Tryz.underlying9 rfl rdV) rfl<|gc_ xA rfl<|m_ rfl<|gc_ xA rfl<|ov (OpV.b2s Tryz.underlying24 Tryz.underlying5 Tryz.underlying9 rfl rdV) rfl<|gc_ xA rfl<|ov (OpV.eqS Tryz.underlying9 rfl rdV rfl rdV (.inl rfl)) rfl<|pT xA rfl<|rf 5 (gj xA) rfl k
    ·exact sk_ xA rfl<|sk_ xA rfl<|sk_ xA rfl<|sk_ xA rfl<|sk_ xA rfl<|pF xA rfl<|rf 5 (gm (e:=(strB y6.2.1)==(strB y4.2.1)) xA) rfl k
  ·refine by_ (t:=40) rfl (fun c8=>?_) (fun c8=>?_)
   ·exact gc_ c8 rfl<|m_ rfl<|gc_ c8 rfl<|m_ rfl<|gc_ c8 rfl<|b_ rfl<|pT c8 rfl<|rf 3 (gj c8) rfl k
   ·exact sk_ c8 rfl<|sk_ c8 rfl<|sk_ c8 rfl<|pF c8 rfl<|rf 3 (gm (e:=y6.1==y4.1) c8) rfl k
end Go.Proofs.YtdkfkpbijdimkaaGreatDoor

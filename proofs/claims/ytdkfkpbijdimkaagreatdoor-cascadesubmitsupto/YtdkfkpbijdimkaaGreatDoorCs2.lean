import Derived.Test.YtdkfkpbijdimkaaGreatDoorCs1
set_option linter.unusedVariables false
set_option linter.unusedSimpArgs false
set_option maxRecDepth 20000
namespace Go.Proofs.YtdkfkpbijdimkaaGreatDoor
open Go Go.Sim Go.ChangeShapes Go.WideShapes Go.ChangeAt Go.RowKit
set_option linter.unusedSectionVars false
variable [Fu]
noncomputable def cN (a0:List Int):Option (List Int):=
 (((Loop.run (S:=(Int×(List Int))) (R:=(List Int)) (fun(xA,yA)=>
   bif decide (xA≥0) then
    (idx yA xA).bind fun zA=>
    (idx yA xA).bind fun oA=>
    (idx (List.set yA (Int.toNat xA) (IntKind.wrap .u8 (zA+1))) xA).bind fun hA=>
    bif hA != 0 then
     some (.done (List.set yA (Int.toNat xA) (IntKind.wrap .u8 (zA+1))))
    else
     some (.next (IntKind.wrap .i64 (xA - 1),List.set yA (Int.toNat xA) (IntKind.wrap .u8 (zA+1))))
   else
    some (.done yA)) (15,a0)).bind fun bA=>
 some bA
  :Option (List Int))).bind fun vA=>
 some vA
theorem o30 {a0:List Int} {r0:(List Int)} (hF:cN a0=some r0) (L:List Res):Ok Tryz.prog 119 [SV.val K6 a0] L (SV.val K6 r0) L:=by
 unfold cN at hF
 refine okI 18 Tryz.func119 rfl rfl rfl fun F0=>?_
 refine bs hF fun yA hA hF=>sr<|Under.bx (K:=kArr 16 K10) rfl rdV rfl fun b1=>al ZT108 rfl fun b2=>nt<|sq<|afr (r:=yA) (fun yA=>[(1,.ptr K6 yA),(2,pb b2)]) (fun yA=>((.box K6 b2 108 (List.replicate 16 (0:Int)))::L)) ?_ fun K bA=>?_
 ·refine sr<|oL kt108 rfl<|sP (x':=yA) .box .id sz108k rfl rfl rdV rfl<|nl<|fz (t:=2) rfl<|tn<|rc ?_
  cases osi hF
  exact rs Tryz.results119 (.ce rfl kt108 .nil) rfl rfl
 ·refine bs hA fun gA cA hA=>sr<|a_ rfl<|nt<|bk<|f1<|lp cA () (fun zA vA=>[(1,pb b1),(2,pb b2),(3,.raw (.int .i64 zA.1))]) (fun zA vA=>(.box K6 b1 108 zA.2)::(.box K6 b2 108 (List.replicate 16 (0:Int)))::L) rfl rfl fun zA vA mA xA oA=>?_
  obtain⟨qA,rA⟩:=zA
  dsimp only at xA⊢
  refine sq<|sr<|mb rfl<|nt<|it xA rfl (fun xA=>?_) (fun xA=>?_)
  ·refine bs xA fun wA kA xA=>bs xA fun nA dA xA=>bs xA fun pA eA xA=>ct<|sq<|bk<|sr<|m_ rfl<|oX .box .id kA Tryz.underlying108 sz5k rfl<|lP .box (.ix .id kA) kt5k rfl rfl<|rI (t:=10) rfl<|b_ rfl<|oX .box .id dA Tryz.underlying108 sz5k rfl<|sP (x':=List.set rA (Int.toNat qA) (IntKind.wrap .u8 (wA+1))) .box (.ix .id dA) sz5k rfl rfl rdI rfl<|ns<|m_ rfl<|oX .box .id eA Tryz.underlying108 sz5k rfl<|lP .box (.ix .id eA) kt5k rfl rfl<|rI (t:=15) rfl<|b_ rfl<|nt<|it xA rfl (fun xA=>?_) (fun xA=>?_)
   ·refine fz (t:=1) rfl<|xt<|bm rfl<|te ?_
    cases aj xA oA
    exact te<|bh<|tn<|wr (bA _ (osi hA).symm) rfl
   ·exact cs<|bN<|tn<|rg<|mb rfl<|a_ rfl<|nl<|nx () xA rfl rfl
  ·refine fz (t:=1) rfl<|xt<|te ?_
   cases aj xA oA
   exact te<|bh<|tn<|wr (bA _ (osi hA).symm) rfl
noncomputable def aR (a0:List Int):Option (List Int):=
 (((Loop.run (S:=(Int×(List Int))) (R:=(List Int)) (fun(xA,yA)=>
   bif decide (xA<16) then
    (idx yA xA).bind fun zA=>
    (aL zA).bind fun hA=>
    (idx yA xA).bind fun oA=>
    some (.next (IntKind.wrap .i64 (xA+1),List.set yA (Int.toNat xA) hA))
   else
    some (.done yA)) (0,a0)).bind fun bA=>
 some bA
  :Option (List Int))).bind fun vA=>
 some vA
theorem o31 {a0:List Int} {r0:(List Int)} (hF:aR a0=some r0) (L:List Res):Ok Tryz.prog 147 [SV.val K6 a0,SV.raw (.func (.func 116) #[] #[])] L (SV.val K6 r0) L:=by
 unfold aR at hF
 refine okI 18 Tryz.func147 rfl rfl rfl fun F0=>?_
 refine bs hF fun yA hA hF=>sr<|Under.bx (K:=kArr 16 K10) rfl rdV rfl fun b1=>al ZT209 rfl fun b2=>nt<|sq<|afr (r:=yA) (fun yA=>[(2,.ptr K6 yA),(4,pb b2)]) (fun yA=>((.box K6 b2 209 (List.replicate 16 (0:Int)))::L)) ?_ fun K kA=>?_
 ·refine sr<|oL kt209 rfl<|sP (x':=yA) .box .id sz209k rfl rfl rdV rfl<|nl<|fz (t:=4) rfl<|tn<|rc ?_
  cases osi hF
  exact rs Tryz.results147 (.ce rfl kt209 .nil) rfl rfl
 ·refine bs hA fun gA dA hA=>sr<|m_ rfl<|nt<|bk<|f1<|lp dA () (fun zA bA=>[(1,.raw (.func (.func 116) #[] #[])),(2,pb b1),(4,pb b2),(6,.raw (.int .i64 zA.1))]) (fun zA bA=>(.box K6 b1 209 zA.2)::(.box K6 b2 209 (List.replicate 16 (0:Int)))::L) rfl rfl fun zA bA mA xA eA=>?_
  obtain⟨cA,qA⟩:=zA
  dsimp only at xA⊢
  refine sr<|b_ rfl<|nt<|sq<|it xA rfl (fun xA=>?_) (fun xA=>?_)
  ·exact bs xA fun nA vA xA=>bs xA fun rA wA xA=>bs xA fun pA oA xA=>ct<|sq<|bk<|sr<|m_ rfl<|a_ rfl<|nt<|rg<|m_ rfl<|m_ rfl<|m_ rfl<|oX .box .id vA Tryz.underlying209 sz5k rfl<|lP .box (.ix .id vA) kt5k rfl rfl<|rI (t:=13) rfl<|cx Tryz.call116 rfl (o20 wA _)<|oX .box .id oA Tryz.underlying209 sz5k rfl<|sP (x':=List.set qA (Int.toNat cA) rA) .box (.ix .id oA) sz5k rfl rfl rdI rfl<|nl<|bN<|tn<|rg<|b_ rfl<|m_ rfl<|nl<|nx () xA rfl rfl
  ·refine fz (t:=2) rfl<|xt<|te ?_
   cases aj xA eA
   exact te<|bh<|tn<|wr (kA _ (osi hA).symm) rfl
noncomputable def aA (a0:ak) (a1:List Int):Option (List Int):=
 (idx a0.keys 0).bind fun x2=>
 (aQ a1 x2).bind fun y4=>
 (((Loop.run (S:=(Int×(List Int))) (R:=(List Int)) (fun(xA,yA)=>
   bif decide (xA≤10) then
    (aR yA).bind fun hA=>
    (bf hA 1).bind fun zA=>
    ((bif decide (xA<10) then
     (ar zA).bind fun bA=>
     some bA
    else
     some zA
     :Option (List Int))).bind fun vA=>
    (idx a0.keys xA).bind fun oA=>
    (aQ vA oA).bind fun kA=>
    some (.next (IntKind.wrap .i64 (xA+1),kA))
   else
    some (.done yA)) (1,y4)).bind fun dA=>
 some dA
  :Option (List Int))).bind fun eA=>
 some eA
theorem o32 {a0:ak} {a1:List Int} {r0:(List Int)} (hF:aA a0 a1=some r0) (L:List Res):Ok Tryz.prog 118 [SV.val ah a0,SV.val K6 a1,SV.raw (.func (.func 116) #[] #[])] L (SV.val K6 r0) L:=by
 unfold aA at hF
 refine okI 33 Tryz.func118 rfl rfl rfl fun F0=>?_
 refine bs hF fun x2 h3 hF=>bs hF fun y4 h5 hF=>bs hF fun zA vA hF=>sr<|bX (K:=ah) rfl rdV rfl<|bX (K:=kArr 16 K10) rfl rdV rfl<|al ZT108 rfl fun b1=>ns<|oL kt108 rfl<|oF fb212k rfl<|ov (OpV.ixA h3 Tryz.underlying210 sz209 rfl rfl) rfl<|oL kt209 rfl<|cx Tryz.call146 rfl (o22 h5 _)<|al ZT209 rfl fun b6=>sP (x':=y4) .box .id sz209k rfl rfl rdV rfl<|nt<|sq<|afr (r:=zA) (fun zA=>[(6,pb b1),(7,.ptr K6 zA)]) (fun zA=>((.box K6 b1 108 (List.replicate 16 (0:Int)))::L)) ?_ fun K dA=>?_
 ·refine sr<|oL kt209 rfl<|sP (x':=zA) .box .id sz108k rfl rfl rdV rfl<|nl<|fz (t:=6) rfl<|tn<|rc ?_
  cases osi hF
  exact rs Tryz.results118 (.ce rfl kt108 .nil) rfl rfl
 ·refine bs vA fun xB eA vA=>sr<|a_ rfl<|nt<|bk<|f1<|lp eA () (fun hA oA=>[(2,.raw (.func (.func 116) #[] #[])),(3,.ptr ah a0),(6,pb b1),(7,pb b6),(8,.raw (.int .i64 hA.1))]) (fun hA oA=>(.box K6 b1 108 (List.replicate 16 (0:Int)))::(.box K6 b6 209 hA.2)::L) rfl rfl fun hA oA yB xA cA=>?_
  obtain⟨qA,zB⟩:=hA
  dsimp only at xA⊢
  refine sq<|sr<|mb rfl<|nt<|it xA rfl (fun xA=>?_) (fun xA=>?_)
  ·refine bs xA fun hB rA xA=>bs xA fun wA gA xA=>bs xA fun bA yA xA=>ct<|sq<|bk<|sr<|f1<|lP .box .id kt209k rfl rfl<|m_ rfl<|cx Tryz.call147 rfl (o31 rA _)<|cx Tryz.call148 rfl (o25 gA _)<|sP (x':=wA) .box .id sz209k rfl rfl rdV rfl<|nt<|sq<|afr (r:=bA) (fun bA=>[(2,.raw (.func (.func 116) #[] #[])),(3,.ptr ah a0),(6,pb b1),(7,pb b6),(8,.raw (.int .i64 qA))]) (fun bA=>((.box K6 b1 108 (List.replicate 16 (0:Int)))::(.box K6 b6 209 bA)::L)) ?_ fun K kA=>?_
   ·exact bs xA fun bB mA xA=>bs xA fun nA pA xA=>ph rfl<|gV [0,1,2,3,4] [[7],[8],[3],[27,28],[29]] 2 (by kernel_rfl) rfl<|Vq.v (fun G T hG=>f1<|lP .box .id kt209k rfl rfl<|f1<|Vq.end rfl)<|vm_ rfl<|vo (fun _=>OpV.fd fb212k rfl rfl) rfl<|vo (fun _=>OpV.ixA mA Tryz.underlying210 sz209 rfl rfl) rfl<|vo (fun _=>OpV.ld kt209 rfl) rfl<|vn<|p1 5 rfl rfl<|cx Tryz.call146 rfl (o22 pA _)<|pn<|p1 6 rfl rfl<|f1<|sP (x':=nA) .box .id sz209k rfl rfl rdV rfl<|pn<|pd rfl<|bN<|tn<|rg<|mb rfl<|a_ rfl<|nl<|f1<|nx () xA rfl rfl
   ·refine sr<|mb rfl<|nt<|it yA rfl (fun yA=>?_) (fun yA=>?_)
    ·exact bs yA fun tA uA yA=>rg<|lP .box .id kt209k rfl rfl<|cx Tryz.call149 rfl (o28 uA _)<|sP (x':=tA) .box .id sz209k rfl rfl rdV rfl<|nt<|f1<|wr (kA _ (osi yA).symm) rfl
    ·exact ct<|f1<|wr (kA _ (osi yA).symm) rfl
  ·refine f1<|fz (t:=7) rfl<|xt<|te ?_
   cases aj xA cA
   exact te<|bh<|tn<|wr (dA _ (osi vA).symm) rfl
noncomputable def dv (a0:List Int) (a1:List Int) (a2:List Int):Option (List Int):=
 (dZ a0).bind fun y2=>
 bif mkB (a2.length:Int) (a2.length:Int) then
 bif decide ((a2.length:Int)>32) then
  (((Loop.run (S:=(Int×(List Int))) (R:=(List Int)) (fun(zA,kA)=>
    bif decide (zA<256) then
     (aL (IntKind.wrap .u8 zA)).bind fun rA=>
     (idx kA zA).bind fun nB=>
     some (.next (IntKind.wrap .i64 (zA+1),List.set kA (Int.toNat zA) rA))
    else
     some (.done kA)) (0,(List.replicate 256 (0:Int)))).bind fun wA=>
  some wA
   :Option (List Int))).bind fun uB=>
  (((Loop.run (S:=((List Int)×Int×(List Int))) (R:=(List Int)) (fun(dA,hA,cA)=>
    bif decide (hA<(dA.length:Int)) then
     (((au y2 cA uB).bind fun gA=>
     (((Loop.run (S:=((List Int)×Int)) (R:=(List Int)) (fun(bA,xA)=>
       bif decide (xA<(min (IntKind.wrap .i64 (hA+16)) (bA.length:Int))) then
        (idx bA xA).bind fun mA=>
        (idx gA (IntKind.wrap .i64 (xA - hA))).bind fun nA=>
        (idx bA xA).bind fun pB=>
        some (.next (List.set bA (Int.toNat xA) (xorI .u8 mA nA),IntKind.wrap .i64 (xA+1)))
       else
        some (.done bA)) (dA,hA)).bind fun pA=>
     some pA
      :Option (List Int))).bind fun tA=>
     (cN cA).bind fun uA=>
     some (tA,uA)
      :Option ((List Int)×(List Int)))).bind fun xB=>match xB with
      |(yB,zB)=>
       some (.next (yB,IntKind.wrap .i64 (hA+16),zB))
    else
     some (.done dA)) (over (List.replicate (Int.toNat (a2.length:Int)) (0:Int)) 0 (List.length (List.replicate (Int.toNat (a2.length:Int)) (0:Int))) a2,0,a1)).bind fun hB=>
  some hB
   :Option (List Int))).bind fun mB=>
  some mB
 else
  (((Loop.run (S:=((List Int)×Int×(List Int))) (R:=(List Int)) (fun(eA,vA,qA)=>
    bif decide (vA<(eA.length:Int)) then
     (((aA y2 qA).bind fun bB=>
     (((Loop.run (S:=((List Int)×Int)) (R:=(List Int)) (fun(oA,yA)=>
       bif decide (yA<(min (IntKind.wrap .i64 (vA+16)) (oA.length:Int))) then
        (idx oA yA).bind fun vB=>
        (idx bB (IntKind.wrap .i64 (yA - vA))).bind fun oB=>
        (idx oA yA).bind fun tB=>
        some (.next (List.set oA (Int.toNat yA) (xorI .u8 vB oB),IntKind.wrap .i64 (yA+1)))
       else
        some (.done oA)) (eA,vA)).bind fun kB=>
     some kB
      :Option (List Int))).bind fun dB=>
     (cN qA).bind fun eB=>
     some (dB,eB)
      :Option ((List Int)×(List Int)))).bind fun cB=>match cB with
      |(qB,rB)=>
       some (.next (qB,IntKind.wrap .i64 (vA+16),rB))
    else
     some (.done eA)) (over (List.replicate (Int.toNat (a2.length:Int)) (0:Int)) 0 (List.length (List.replicate (Int.toNat (a2.length:Int)) (0:Int))) a2,0,a1)).bind fun wB=>
  some wB
   :Option (List Int))).bind fun gB=>
  some gB
 else none
theorem o33 {a0 a1 a2:List Int} {r0:(List Int)} (hF:dv a0 a1 a2=some r0) (L:List Res):Ok Tryz.prog 83 [SV.val K6 a0,SV.val K6 a1,SV.val K8 a2] L (SV.val K8 r0) L:=by
 unfold dv at hF
 refine okI 70 Tryz.func83 rfl rfl rfl fun F0=>?_
 refine bs hF fun y2 h3 hF=>gs hF fun h6 hF=>sr<|bX (K:=kArr 16 K10) rfl rdV rfl<|Under.bx (K:=kArr 16 K10) rfl rdV rfl fun b1=>a_ rfl<|ns<|oL kt108 rfl<|cx Tryz.call115 rfl (o21 h3 _)<|al ZT212 rfl fun b4=>sP (x':=y2) .box .id sz212k rfl rfl rdV rfl<|nl<|fz (t:=7) rfl<|tn<|sr<|m_ rfl<|oN Tryz.underlying24 rfl<|Under.mk h6 Tryz.underlying24 AT5 rfl rfl rfl fun v5=>a_ rfl<|ns<|m_ rfl<|m_ rfl<|Under.cpW Tryz.underlying24 sz5k rfl rfl (.sl rdV) rfl<|ns<|a_ rfl<|nt<|sq<|sr<|m_ rfl<|oN Tryz.underlying24 rfl<|b_ rfl<|nt<|it hF rfl (fun hF=>?_) (fun hF=>?_)
 ·refine bs hF fun qB yE hF=>sr<|al ZT215 rfl fun b8=>nt<|sq<|afr (r:=qB) (fun qB=>[(4,pb b1),(7,.ptr ah y2),(8,.raw v5),(10,.ptr (kArr 256 K10) qB)]) (fun qB=>((.own K10 v5 5 (over (List.replicate (Int.toNat (a2.length:Int)) (0:Int)) 0 (List.length (List.replicate (Int.toNat (a2.length:Int)) (0:Int))) a2))::(.box K6 b1 108 a1)::L)) ?_ fun K xG=>?_
  ·refine bs hF fun cB zC hF=>rg<|ov (OpV.mkf rfl) rfl<|a_ rfl<|nt<|sq<|afr (r:=cB) (fun cB=>[(8,.val K8 cB)]) (fun cB=>(L)) ?_ fun K zE=>?_
   ·refine sr<|m_ rfl<|a_ rfl<|nt<|rc ?_
    cases osi hF
    exact rs Tryz.results83 (.tm rfl .nil) rfl rfl
   ·refine bs zC fun hE hC zC=>sr<|a_ rfl<|nt<|bk<|lp hC () (fun kA rB=>[(4,pb b1),(7,.ptr ah y2),(8,.raw v5),(9,.fn 117 [.ptr (kArr 256 K10) qB]),(12,.raw (.int .i64 kA.2.1))]) (fun kA rB=>(.own K10 v5 5 kA.1)::(.box K6 b1 108 kA.2.2)::L) rfl rfl fun kA rB bE hA bC=>?_
    obtain⟨vE,mA,wB⟩:=kA
    dsimp only at hA⊢
    refine sq<|sr<|m_ rfl<|m_ rfl<|ov (OpV.lenO Tryz.underlying24 rfl) rfl<|b_ rfl<|nt<|it hA rfl (fun hA=>?_) (fun hA=>?_)
    ·refine bs hA fun vC vA hA=>ct<|sq<|Under.after (fun X=>∀(nA:List Int) (pA:List Int),vC=(nA,pA)→Under F0 70 [(4,pb b1),(7,.ptr ah y2),(8,.raw v5),(9,.fn 117 [.ptr (kArr 256 K10) qB]),(12,.raw (.int .i64 mA))] ((.own K10 v5 5 nA)::(.box K6 b1 108 pA)::L) X) ?_ ?_
     ·intro nA pA tA
      replace tA:=tA.symm
      subst tA
      exact rg<|mb rfl<|a_ rfl<|nl<|nx () hA rfl rfl
     ·intro K kC
      refine bs vA fun gB dC vA=>bs vA fun rA uA vA=>bk<|sr<|oL kt212 rfl<|f1<|lP .box .id kt108k rfl rfl<|m_ rfl<|cx Tryz.call118 rfl (o29 dC _)<|al ZT108 rfl fun oE=>sP (x':=gB) .box .id sz108k rfl rfl rdV rfl<|nl<|fz (t:=13) rfl<|tn<|sq<|afr (r:=rA) (fun rA=>[(4,pb b1),(7,.ptr ah y2),(8,.raw v5),(9,.fn 117 [.ptr (kArr 256 K10) qB]),(12,.raw (.int .i64 mA))]) (fun rA=>((.own K10 v5 5 rA)::(.box K6 b1 108 wB)::L)) ?_ fun K eC=>?_
      ·exact bs vA fun cC qC vA=>rg<|f1<|lP .box .id kt108k rfl rfl<|cx Tryz.call119 rfl (o30 qC _)<|sP (x':=cC) .box .id sz108k rfl rfl rdV rfl<|nl<|bN<|tn<|f1<|wr (kC _ _ (osi vA).symm) rfl
      ·refine bs uA fun kE rC uA=>sr<|m_ rfl<|a_ rfl<|nt<|bk<|f1<|lp rC () (fun eA mB=>[(4,pb b1),(7,.ptr ah y2),(8,.raw v5),(9,.fn 117 [.ptr (kArr 256 K10) qB]),(12,.raw (.int .i64 mA)),(13,.ptr K6 gB),(14,.raw (.int .i64 eA.2))]) (fun eA mB=>(.own K10 v5 5 eA.1)::(.box K6 b1 108 wB)::L) rfl rfl fun eA mB dE xA wC=>?_
       obtain⟨gC,mC⟩:=eA
       dsimp only at xA⊢
       refine sq<|sr<|m_ rfl<|mb rfl<|m_ rfl<|ov (OpV.lenO Tryz.underlying24 rfl) rfl<|ov (OpV.min2 rfl rfl) rfl<|b_ rfl<|nt<|it xA rfl (fun xA=>?_) (fun xA=>?_)
       ·exact bs xA fun nC xB xA=>bs xA fun pC tC xA=>bs xA fun eE yB xA=>ct<|sq<|bk<|ph rfl<|gV [0,1,2,3,4,5,6,7,8] [[8],[14],[56,57],[58],[14],[12],[60,61],[13,62],[63]] 2 (by kernel_rfl) rfl<|vm_ rfl<|vm_ rfl<|Vq.v (fun G T hG=>ov (OpV.ixO xB Tryz.underlying24 sz5k rfl rfl) rfl<|Vq.end rfl)<|Vq.v (fun G T hG=>lP (.own xB) (.ix .id xB) kt5k rfl rfl<|rI (t:=59) rfl<|Vq.end rfl)<|vm_ rfl<|vm_ rfl<|vb_ rfl<|vo (fun _=>OpV.ixA tC Tryz.underlying108 sz5 rfl rfl) rfl<|vo (fun _=>OpV.ldI kt5 rfl) rfl<|vn<|p1 9 rfl rfl<|b_ rfl<|pn<|p1 10 rfl rfl<|ov (OpV.ixO yB Tryz.underlying24 sz5k rfl rfl) rfl<|pn<|p1 11 rfl rfl<|sP (x':=List.set gC (Int.toNat mC) (xorI .u8 nC pC)) (.own yB) (.ix .id yB) sz5k rfl rfl rdI rfl<|pn<|pd rfl<|bN<|tn<|rg<|mb rfl<|a_ rfl<|nl<|nx () xA rfl rfl
       ·refine xt<|te ?_
        cases aj xA wC
        exact te<|bh<|tn<|wr (eC _ (osi uA).symm) rfl
    ·refine f1<|dr<|fzO (t:=8) rfl<|xt<|te ?_
     cases aj hA bC
     exact te<|bh<|tn<|wr (zE _ (osi zC).symm) rfl
  ·refine bs yE fun cE uC yE=>sr<|m_ rfl<|nt<|bk<|f2<|f2<|lp uC () (fun cA nB=>[(4,pb b1),(7,.ptr ah y2),(8,.raw v5),(10,pb b8),(26,.raw (.int .i64 cA.1))]) (fun cA nB=>(.own K10 v5 5 (over (List.replicate (Int.toNat (a2.length:Int)) (0:Int)) 0 (List.length (List.replicate (Int.toNat (a2.length:Int)) (0:Int))) a2))::(.box K6 b1 108 a1)::(.box (kArr 256 K10) b8 215 cA.2)::L) rfl rfl fun cA nB qE zA xD=>?_
   obtain⟨yD,zD⟩:=cA
   dsimp only at zA⊢
   refine sr<|b_ rfl<|nt<|sq<|it zA rfl (fun zA=>?_) (fun zA=>?_)
   ·exact bs zA fun hD bD zA=>bs zA fun rE pB zA=>ct<|sq<|bk<|sr<|m_ rfl<|a_ rfl<|nt<|rg<|m_ rfl<|m_ rfl<|oC (by kernel_rfl) Tryz.underlying5 rfl<|cx Tryz.call116 rfl (o20 bD _)<|f2<|oX .box .id pB Tryz.underlying215 sz5k rfl<|sP (x':=List.set zD (Int.toNat yD) hD) .box (.ix .id pB) sz5k rfl rfl rdI rfl<|nl<|bN<|tn<|rg<|b_ rfl<|m_ rfl<|nl<|f2<|f2<|nx () zA rfl rfl
   ·refine f2<|fz (t:=10) rfl<|xt<|te ?_
    cases aj zA xD
    exact te<|bh<|tn<|wr (xG _ (osi yE).symm) rfl
 ·refine bs hF fun wA zB hF=>ct<|sq<|afr (r:=wA) (fun wA=>[(8,.val K8 wA)]) (fun wA=>(L)) ?_ fun K vD=>?_
  ·refine sr<|m_ rfl<|a_ rfl<|nt<|rc ?_
   cases osi hF
   exact rs Tryz.results83 (.tm rfl .nil) rfl rfl
  ·refine bs zB fun wE oD zB=>sr<|a_ rfl<|nt<|bk<|lp oD () (fun dA tB=>[(4,pb b1),(7,.ptr ah y2),(8,.raw v5),(9,.raw (.func (.func 116) #[] #[])),(12,.raw (.int .i64 dA.2.1))]) (fun dA tB=>(.own K10 v5 5 dA.1)::(.box K6 b1 108 dA.2.2)::L) rfl rfl fun dA tB gE bA kD=>?_
   obtain⟨mE,hB,uB⟩:=dA
   dsimp only at bA⊢
   refine sq<|sr<|m_ rfl<|m_ rfl<|ov (OpV.lenO Tryz.underlying24 rfl) rfl<|b_ rfl<|nt<|it bA rfl (fun bA=>?_) (fun bA=>?_)
   ·refine bs bA fun dD oA bA=>ct<|sq<|Under.after (fun X=>∀(bB:List Int) (vB:List Int),dD=(bB,vB)→Under F0 70 [(4,pb b1),(7,.ptr ah y2),(8,.raw v5),(9,.raw (.func (.func 116) #[] #[])),(12,.raw (.int .i64 hB))] ((.own K10 v5 5 bB)::(.box K6 b1 108 vB)::L) X) ?_ ?_
    ·intro bB vB oB
     replace oB:=oB.symm
     subst oB
     exact rg<|mb rfl<|a_ rfl<|nl<|nx () bA rfl rfl
    ·intro K eD
     refine bs oA fun xC cD oA=>bs oA fun gA kB oA=>bk<|sr<|oL kt212 rfl<|f1<|lP .box .id kt108k rfl rfl<|m_ rfl<|cx Tryz.call118 rfl (o32 cD _)<|al ZT108 rfl fun nE=>sP (x':=xC) .box .id sz108k rfl rfl rdV rfl<|nl<|fz (t:=13) rfl<|tn<|sq<|afr (r:=gA) (fun gA=>[(4,pb b1),(7,.ptr ah y2),(8,.raw v5),(9,.raw (.func (.func 116) #[] #[])),(12,.raw (.int .i64 hB))]) (fun gA=>((.own K10 v5 5 gA)::(.box K6 b1 108 uB)::L)) ?_ fun K qD=>?_
     ·exact bs oA fun rD wD oA=>rg<|f1<|lP .box .id kt108k rfl rfl<|cx Tryz.call119 rfl (o30 wD _)<|sP (x':=rD) .box .id sz108k rfl rfl rdV rfl<|nl<|bN<|tn<|f1<|wr (eD _ _ (osi oA).symm) rfl
     ·refine bs kB fun pE gD kB=>sr<|m_ rfl<|a_ rfl<|nt<|bk<|f1<|lp gD () (fun qA yC=>[(4,pb b1),(7,.ptr ah y2),(8,.raw v5),(9,.raw (.func (.func 116) #[] #[])),(12,.raw (.int .i64 hB)),(13,.ptr K6 xC),(14,.raw (.int .i64 qA.2))]) (fun qA yC=>(.own K10 v5 5 qA.1)::(.box K6 b1 108 uB)::L) rfl rfl fun qA yC tE yA mD=>?_
      obtain⟨nD,pD⟩:=qA
      dsimp only at yA⊢
      refine sq<|sr<|m_ rfl<|mb rfl<|m_ rfl<|ov (OpV.lenO Tryz.underlying24 rfl) rfl<|ov (OpV.min2 rfl rfl) rfl<|b_ rfl<|nt<|it yA rfl (fun yA=>?_) (fun yA=>?_)
      ·exact bs yA fun tD dB yA=>bs yA fun uD xE yA=>bs yA fun uE eB yA=>ct<|sq<|bk<|ph rfl<|gV [0,1,2,3,4,5,6,7,8] [[8],[14],[56,57],[58],[14],[12],[60,61],[13,62],[63]] 2 (by kernel_rfl) rfl<|vm_ rfl<|vm_ rfl<|Vq.v (fun G T hG=>ov (OpV.ixO dB Tryz.underlying24 sz5k rfl rfl) rfl<|Vq.end rfl)<|Vq.v (fun G T hG=>lP (.own dB) (.ix .id dB) kt5k rfl rfl<|rI (t:=59) rfl<|Vq.end rfl)<|vm_ rfl<|vm_ rfl<|vb_ rfl<|vo (fun _=>OpV.ixA xE Tryz.underlying108 sz5 rfl rfl) rfl<|vo (fun _=>OpV.ldI kt5 rfl) rfl<|vn<|p1 9 rfl rfl<|b_ rfl<|pn<|p1 10 rfl rfl<|ov (OpV.ixO eB Tryz.underlying24 sz5k rfl rfl) rfl<|pn<|p1 11 rfl rfl<|sP (x':=List.set nD (Int.toNat pD) (xorI .u8 tD uD)) (.own eB) (.ix .id eB) sz5k rfl rfl rdI rfl<|pn<|pd rfl<|bN<|tn<|rg<|mb rfl<|a_ rfl<|nl<|nx () yA rfl rfl
      ·refine xt<|te ?_
       cases aj yA mD
       exact te<|bh<|tn<|wr (qD _ (osi kB).symm) rfl
   ·refine f1<|dr<|fzO (t:=8) rfl<|xt<|te ?_
    cases aj bA kD
    exact te<|bh<|tn<|wr (vD _ (osi zB).symm) rfl
noncomputable def cV (a0:ae) (a1:Int) (a2:List Int) (a3:List Int):Option (List Int):=
 (app [IntKind.wrap .u8 a1] a2).bind fun z2=>
 (app z2 a3).bind fun z6=>
 (dL a0.Mac z6).bind fun y9=>
 (sub y9 0 16).bind fun xA=>
 some xA
theorem o34 {a0:ae} {a1:Int} {a2 a3:List Int} {r0:(List Int)} (hF:cV a0 a1 a2 a3=some r0) (L:List Res):Ok Tryz.prog 84 [SV.val aD a0,SV.raw (.int .i64 a1),SV.val K6 a2,SV.val K8 a3] L (SV.val K8 r0) L:=by
 unfold cV at hF
 refine okI 23 Tryz.func84 rfl rfl rfl fun F0=>?_
 refine bs hF fun z2 h3 hF=>bs hF fun z6 h7 hF=>bs hF fun y9 yA hF=>sr<|bX (K:=aD) rfl rdV rfl<|bX (K:=kArr 16 K10) rfl rdV rfl<|a_ rfl<|ns<|m_ rfl<|oC (by kernel_rfl) Tryz.underlying5 rfl<|bO (ys:=[IntKind.wrap .u8 a1]) Tryz.underlying24 ET5 (BldA.cons rfl rfl rdI (BldA.nil _)) rfl rfl fun v1=>ov (OpV.slA Tryz.underlying108 sz5 rfl) rfl<|ap h3 Tryz.underlying24 AT5 rfl rfl rdV rfl fun v4=>a_ rfl<|nt<|sq<|ph rfl<|Under.grpT (L:=L) [0,1,2,3,4,5,6] [[4],[16],[9],[3],[18,19],[17,20],[]] [⟨sk0 (.ptr K5 a0.Mac),[],[],[]⟩,⟨sk0 (.val K8 a0.Mac),[],[],[]⟩,⟨sk0 (.raw v4),[],[],[]⟩,⟨sk0 (.val K8 a3),[],[],[]⟩,⟨sk1 4 (fun u4=> .raw u4),[0],[(1,tk1 4 (fun u4=> .own K10 u4 5 z6))],[]⟩,⟨sk0 (.val K5 y9),[1],[],[]⟩,⟨sk1 6 (fun u6=> .raw (.pointer (some ⟨(vblk u6),0,none⟩))),[],[(2,tk1 6 (fun u6=> .box K5 (vblk u6) 169 (List.replicate 32 (0:Int))))],[]⟩] [(0,.own K10 v4 5 z2)] (fun T:List Res=>T) lf0 rfl (by kernel_rfl) rfl rfl (fun F hF0 xA=>?_)
 refine Tq.v (fun G T hG=>?_) ?_
 ·exact oF fb176k1 rfl<|Tq.end undef rfl rfl
 refine Tq.v (fun G T hG=>?_) ?_
 ·exact ov (OpV.slA Tryz.underlying169 sz5 rfl) rfl<|Tq.end undef rfl rfl
 refine Tq.v (fun G T hG=>?_) ?_
 ·exact m_ rfl<|Tq.end undef rfl rfl
 refine Tq.v (fun G T hG=>?_) ?_
 ·exact m_ rfl<|Tq.end undef rfl rfl
 refine Tq.st (.raw (xA 4)) [.own K10 v4 5 z2] rfl rfl (fun G T hG=>?_) ?_
 ·exact ap h7 Tryz.underlying24 AT5 rfl rfl rdV rfl fun v8=>Tq.end v8 rfl rfl
 refine Tq.st (.val K5 y9) [.own K10 (xA 4) 5 z6] rfl rfl (fun G T hG=>?_) ?_
 ·exact fzO (t:=20) rfl<|cx Tryz.call110 rfl (o9 yA _)<|Tq.end undef rfl rfl
 refine Tq.st (.raw (.pointer (some ⟨(vblk (xA 6)),0,none⟩))) [] rfl rfl (fun G T hG=>?_) ?_
 ·exact al ZT169 rfl fun zA=>Tq.end (.pointer (some ⟨zA,0,none⟩)) rfl rfl
 refine bs hF fun bA hA hF=>Tq.nil<|Under.le hF0<|p1 7 rfl rfl<|sP (x':=y9) .box .id sz169k rfl rfl rdV rfl<|pn<|pd rfl<|fz (t:=10) rfl<|tn<|sr<|ov (OpV.slF hA Tryz.underlying169 sz5 rfl rfl rfl) rfl<|a_ rfl<|nt<|rc ?_
 cases osi hF
 exact rs Tryz.results84 (.tm rfl .nil) rfl rfl
noncomputable def cb (a0:List Int) (a1:List Int) (a2:Int) (a3:List Int):Option ((List Int)×Int):=
 (cF a0 a1).bind fun y1=>
 ((bif y1.2 != 0 then
  some true
 else
  (cM a2).bind fun y7=>
  some (y7==0)
  :Option Bool)).bind fun x6=>
 bif x6 then
  some ([],2)
 else
  (ep a2).bind fun zA=>
  bif decide ((a3.length:Int)>zA) then
   some ([],1)
  else
   (cM a2).bind fun xA=>
   bif mkB (IntKind.wrap .i64 (xA - 32)) (IntKind.wrap .i64 (xA - 32)) then
   (idx (List.replicate (Int.toNat (IntKind.wrap .i64 (xA - 32))) (0:Int)) 0).bind fun kA=>
   (idx (List.set (List.replicate (Int.toNat (IntKind.wrap .i64 (xA - 32))) (0:Int)) (Int.toNat 0) (IntKind.wrap .u8 (shrI .i64 (a3.length:Int) 8))) 1).bind fun dA=>
   bif decide ((0:Int)≤2∧(2:Int)≤((List.set (List.set (List.replicate (Int.toNat (IntKind.wrap .i64 (xA - 32))) (0:Int)) (Int.toNat 0) (IntKind.wrap .u8 (shrI .i64 (a3.length:Int) 8))) (Int.toNat 1) (IntKind.wrap .u8 (a3.length:Int))).length:Int)∧(((List.set (List.set (List.replicate (Int.toNat (IntKind.wrap .i64 (xA - 32))) (0:Int)) (Int.toNat 0) (IntKind.wrap .u8 (shrI .i64 (a3.length:Int) 8))) (Int.toNat 1) (IntKind.wrap .u8 (a3.length:Int))).length:Int):Int)≤((List.set (List.set (List.replicate (Int.toNat (IntKind.wrap .i64 (xA - 32))) (0:Int)) (Int.toNat 0) (IntKind.wrap .u8 (shrI .i64 (a3.length:Int) 8))) (Int.toNat 1) (IntKind.wrap .u8 (a3.length:Int))).length:Int)) then
   bif decide ((Int.toNat 2)≤(Int.toNat ((List.set (List.set (List.replicate (Int.toNat (IntKind.wrap .i64 (xA - 32))) (0:Int)) (Int.toNat 0) (IntKind.wrap .u8 (shrI .i64 (a3.length:Int) 8))) (Int.toNat 1) (IntKind.wrap .u8 (a3.length:Int))).length:Int))∧(Int.toNat ((List.set (List.set (List.replicate (Int.toNat (IntKind.wrap .i64 (xA - 32))) (0:Int)) (Int.toNat 0) (IntKind.wrap .u8 (shrI .i64 (a3.length:Int) 8))) (Int.toNat 1) (IntKind.wrap .u8 (a3.length:Int))).length:Int))≤(List.length (List.set (List.set (List.replicate (Int.toNat (IntKind.wrap .i64 (xA - 32))) (0:Int)) (Int.toNat 0) (IntKind.wrap .u8 (shrI .i64 (a3.length:Int) 8))) (Int.toNat 1) (IntKind.wrap .u8 (a3.length:Int))))) then
   (dv y1.1.Box (List.replicate 16 (0:Int)) (over (List.set (List.set (List.replicate (Int.toNat (IntKind.wrap .i64 (xA - 32))) (0:Int)) (Int.toNat 0) (IntKind.wrap .u8 (shrI .i64 (a3.length:Int) 8))) (Int.toNat 1) (IntKind.wrap .u8 (a3.length:Int))) (Int.toNat 2) (Int.toNat ((List.set (List.set (List.replicate (Int.toNat (IntKind.wrap .i64 (xA - 32))) (0:Int)) (Int.toNat 0) (IntKind.wrap .u8 (shrI .i64 (a3.length:Int) 8))) (Int.toNat 1) (IntKind.wrap .u8 (a3.length:Int))).length:Int)) a3)).bind fun yA=>
   (app [] a1).bind fun hA=>
   (cV y1.1 a2 a1 yA).bind fun bA=>
   (app hA bA).bind fun vA=>
   (app vA yA).bind fun oA=>
   some (oA,0)
   else none
   else none
   else none
theorem o35 {a0 a1:List Int} {a2:Int} {a3:List Int} {r0:((List Int)×Int)} (hF:cb a0 a1 a2 a3=some r0) (L:List Res):Ok Tryz.prog 46 [SV.val K8 a0,SV.val K6 a1,SV.raw (.int .i64 a2),SV.val K8 a3] L (SV.tup [SV.val K8 r0.1,SV.raw (.int .i64 r0.2)]) L:=by
 unfold cb at hF
 refine okI 70 Tryz.func46 rfl rfl rfl fun F0=>?_
 refine bs hF fun y1 h2 hF=>bs hF fun x6 h5 hF=>sr<|bX (K:=kArr 16 K10) rfl rdV rfl<|a_ rfl<|a_ rfl<|ns<|m_ rfl<|oL kt108 rfl<|cx Tryz.call80 rfl (o14 h2 _)<|m_ rfl<|oE rfl<|oE rfl<|al ZT176 rfl fun b3=>sP (x':=y1.1) .box .id sz176k rfl rfl rdV rfl<|a_ rfl<|nl<|fz (t:=10) rfl<|tn<|sq<|sr<|mb rfl<|m_ rfl<|jF 27 x6 ?_ (fun k=>?_)
 ·refine nt<|it hF rfl (fun hF=>?_) (fun hF=>?_)
  ·refine sr<|a_ rfl<|a_ rfl<|nt<|rt<|tV (K:=kSl K10) (x:=[]) (t:=8) rfl rdN ?_
   cases osi hF
   exact rs Tryz.results46 (.tm rfl (.tm rfl .nil)) rfl rfl
  ·refine bs hF fun wA vA hF=>ct<|sq<|sr<|m_ rfl<|oN Tryz.underlying24 rfl<|m_ rfl<|cx Tryz.call82 rfl (o16 vA _)<|b_ rfl<|nt<|it hF rfl (fun hF=>?_) (fun hF=>?_)
   ·refine sr<|a_ rfl<|a_ rfl<|nt<|rt<|tV (K:=kSl K10) (x:=[]) (t:=8) rfl rdN ?_
    cases osi hF
    exact rs Tryz.results46 (.tm rfl (.tm rfl .nil)) rfl rfl
   ·refine bs hF fun xA oA hF=>gs hF fun kA hF=>bs hF fun gA hA hF=>bs hF fun mA bA hF=>gs hF fun yA hF=>ct<|sr<|m_ rfl<|cx Tryz.call81 rfl (o15 oA _)<|b_ rfl<|Under.mk kA Tryz.underlying24 AT5 rfl rfl rfl fun nA=>a_ rfl<|ns<|m_ rfl<|m_ rfl<|m_ rfl<|oN Tryz.underlying24 rfl<|ov (OpV.sh rfl rfl (by decide) rfl) rfl<|oC (by kernel_rfl) Tryz.underlying5 rfl<|m_ rfl<|oN Tryz.underlying24 rfl<|oC (by kernel_rfl) Tryz.underlying5 rfl<|ov (OpV.ixO hA Tryz.underlying24 sz5k rfl rfl) rfl<|sP (x':=List.set (List.replicate (Int.toNat (IntKind.wrap .i64 (xA - 32))) (0:Int)) (Int.toNat 0) (IntKind.wrap .u8 (shrI .i64 (a3.length:Int) 8))) (.own hA) (.ix .id hA) sz5k rfl rfl rdI rfl<|ov (OpV.ixO bA Tryz.underlying24 sz5k rfl rfl) rfl<|sP (x':=List.set (List.set (List.replicate (Int.toNat (IntKind.wrap .i64 (xA - 32))) (0:Int)) (Int.toNat 0) (IntKind.wrap .u8 (shrI .i64 (a3.length:Int) 8))) (Int.toNat 1) (IntKind.wrap .u8 (a3.length:Int))) (.own bA) (.ix .id bA) sz5k rfl rfl rdI rfl<|ns<|m_ rfl ?_
    replace yA:(0:Int)≤2∧(2:Int)≤((List.set (List.set (List.replicate (Int.toNat (IntKind.wrap .i64 (xA - 32))) (0:Int)) (Int.toNat 0) (IntKind.wrap .u8 (shrI .i64 (a3.length:Int) 8))) (Int.toNat 1) (IntKind.wrap .u8 (a3.length:Int))).length:Int)∧(((List.set (List.set (List.replicate (Int.toNat (IntKind.wrap .i64 (xA - 32))) (0:Int)) (Int.toNat 0) (IntKind.wrap .u8 (shrI .i64 (a3.length:Int) 8))) (Int.toNat 1) (IntKind.wrap .u8 (a3.length:Int))).length:Int):Int)≤((List.set (List.set (List.replicate (Int.toNat (IntKind.wrap .i64 (xA - 32))) (0:Int)) (Int.toNat 0) (IntKind.wrap .u8 (shrI .i64 (a3.length:Int) 8))) (Int.toNat 1) (IntKind.wrap .u8 (a3.length:Int))).length:Int):=of_decide_eq_true yA
    refine gs hF fun zA hF=>Under.slO (l:=2) (h:=((List.set (List.set (List.replicate (Int.toNat (IntKind.wrap .i64 (xA - 32))) (0:Int)) (Int.toNat 0) (IntKind.wrap .u8 (shrI .i64 (a3.length:Int) 8))) (Int.toNat 1) (IntKind.wrap .u8 (a3.length:Int))).length:Int)) Tryz.underlying24 sz5k rfl rfl rfl (And.left yA) (And.left (And.right yA)) (And.right (And.right yA)) rfl<|m_ rfl ?_
    replace zA:(Int.toNat 2)≤(Int.toNat ((List.set (List.set (List.replicate (Int.toNat (IntKind.wrap .i64 (xA - 32))) (0:Int)) (Int.toNat 0) (IntKind.wrap .u8 (shrI .i64 (a3.length:Int) 8))) (Int.toNat 1) (IntKind.wrap .u8 (a3.length:Int))).length:Int))∧(Int.toNat ((List.set (List.set (List.replicate (Int.toNat (IntKind.wrap .i64 (xA - 32))) (0:Int)) (Int.toNat 0) (IntKind.wrap .u8 (shrI .i64 (a3.length:Int) 8))) (Int.toNat 1) (IntKind.wrap .u8 (a3.length:Int))).length:Int))≤(List.length (List.set (List.set (List.replicate (Int.toNat (IntKind.wrap .i64 (xA - 32))) (0:Int)) (Int.toNat 0) (IntKind.wrap .u8 (shrI .i64 (a3.length:Int) 8))) (Int.toNat 1) (IntKind.wrap .u8 (a3.length:Int)))):=of_decide_eq_true zA
    refine bs hF fun pA dA hF=>bs hF fun tA eA hF=>bs hF fun uA cA hF=>bs hF fun xB qA hF=>bs hF fun yB rA hF=>Under.cpO (And.left zA) (And.right zA) Tryz.underlying24 sz5k rfl rfl (.sl rdV) rfl<|nl<|fzO (t:=12) rfl<|tn<|sr<|oF fb176k rfl<|oL kt108 rfl<|ov (OpV.bar (ys:=(List.replicate 16 (0:Int))) BTA108 (BldA.nil _)) rfl<|m_ rfl<|cx Tryz.call83 rfl (o33 dA _)<|a_ rfl<|ns<|bO (ys:=[]) Tryz.underlying24 ET5 (BldA.nil _) rfl rfl fun zB=>ov (OpV.slA Tryz.underlying108 sz5 rfl) rfl<|ap eA Tryz.underlying24 AT5 rfl rfl rdV rfl fun hB=>a_ rfl<|ns<|m_ rfl<|oL kt176 rfl<|m_ rfl<|oL kt108 rfl<|m_ rfl<|cx Tryz.call84 rfl (o34 cA _)<|ap qA Tryz.underlying24 AT5 rfl rfl rdV rfl fun bB=>a_ rfl<|ns<|m_ rfl<|m_ rfl<|ap rA Tryz.underlying24 AT5 rfl rfl rdV rfl fun vB=>a_ rfl<|a_ rfl<|nl<|fzO (t:=8) rfl<|tn<|rc ?_
    cases osi hF
    exact rs Tryz.results46 (.tm rfl (.tm rfl .nil)) rfl rfl
 ·refine by_ (t:=23) rfl (fun c4=>?_) (fun c4=>?_)
  ·replace h5:=ctrue c4 h5
   exact sk_ c4 rfl<|sk_ c4 rfl<|sk_ c4 rfl<|pT c4 rfl<|rf 3 (rbq h5) rfl k
  ·replace h5:=cfalse c4 h5
   exact bs h5 fun y7 h8 h5=>gc_ c4 rfl<|m_ rfl<|gc_ c4 rfl<|cx Tryz.call81 rfl (o15 h8 _)<|gc_ c4 rfl<|b_ rfl<|pF c4 rfl<|rf 3 (rbq h5) rfl k
noncomputable def d5 (a0:List Int) (a1:Int) (a2:List Int):Option (List Int):=
 bif mkB 320 320 then
 bif decide ((0:Int)≤a1∧(a1:Int)≤((over (List.replicate (Int.toNat 320) (0:Int)) 0 (List.length (List.replicate (Int.toNat 320) (0:Int))) a2).length:Int)∧(((over (List.replicate (Int.toNat 320) (0:Int)) 0 (List.length (List.replicate (Int.toNat 320) (0:Int))) a2).length:Int):Int)≤((over (List.replicate (Int.toNat 320) (0:Int)) 0 (List.length (List.replicate (Int.toNat 320) (0:Int))) a2).length:Int)) then
 bif decide ((Int.toNat a1)≤(Int.toNat ((over (List.replicate (Int.toNat 320) (0:Int)) 0 (List.length (List.replicate (Int.toNat 320) (0:Int))) a2).length:Int))∧(Int.toNat ((over (List.replicate (Int.toNat 320) (0:Int)) 0 (List.length (List.replicate (Int.toNat 320) (0:Int))) a2).length:Int))≤(List.length (over (List.replicate (Int.toNat 320) (0:Int)) 0 (List.length (List.replicate (Int.toNat 320) (0:Int))) a2))) then
 some (over (over (List.replicate (Int.toNat 320) (0:Int)) 0 (List.length (List.replicate (Int.toNat 320) (0:Int))) a2) (Int.toNat a1) (Int.toNat ((over (List.replicate (Int.toNat 320) (0:Int)) 0 (List.length (List.replicate (Int.toNat 320) (0:Int))) a2).length:Int)) a0)
 else none
 else none
 else none
theorem o36 {a0:List Int} {a1:Int} {a2:List Int} {r0:(List Int)} (hF:d5 a0 a1 a2=some r0) (L:List Res):Ok Tryz.prog 85 [SV.val K8 a0,SV.raw (.int .i64 a1),SV.val K8 a2] L (SV.val K8 r0) L:=by
 unfold d5 at hF
 refine okI 18 Tryz.func85 rfl rfl rfl fun F0=>?_
 refine gs hF fun h2 hF=>gs hF fun h4 hF=>sr<|a_ rfl<|ns<|Under.mk h2 Tryz.underlying24 AT5 rfl rfl rfl fun v1=>a_ rfl<|ns<|m_ rfl<|m_ rfl<|Under.cpW Tryz.underlying24 sz5k rfl rfl (.sl rdV) rfl<|ns<|m_ rfl<|m_ rfl ?_
 replace h4:(0:Int)≤a1∧(a1:Int)≤((over (List.replicate (Int.toNat 320) (0:Int)) 0 (List.length (List.replicate (Int.toNat 320) (0:Int))) a2).length:Int)∧(((over (List.replicate (Int.toNat 320) (0:Int)) 0 (List.length (List.replicate (Int.toNat 320) (0:Int))) a2).length:Int):Int)≤((over (List.replicate (Int.toNat 320) (0:Int)) 0 (List.length (List.replicate (Int.toNat 320) (0:Int))) a2).length:Int):=of_decide_eq_true h4
 refine gs hF fun h5 hF=>Under.slO (l:=a1) (h:=((over (List.replicate (Int.toNat 320) (0:Int)) 0 (List.length (List.replicate (Int.toNat 320) (0:Int))) a2).length:Int)) Tryz.underlying24 sz5k rfl rfl rfl (And.left h4) (And.left (And.right h4)) (And.right (And.right h4)) rfl<|m_ rfl ?_
 replace h5:(Int.toNat a1)≤(Int.toNat ((over (List.replicate (Int.toNat 320) (0:Int)) 0 (List.length (List.replicate (Int.toNat 320) (0:Int))) a2).length:Int))∧(Int.toNat ((over (List.replicate (Int.toNat 320) (0:Int)) 0 (List.length (List.replicate (Int.toNat 320) (0:Int))) a2).length:Int))≤(List.length (over (List.replicate (Int.toNat 320) (0:Int)) 0 (List.length (List.replicate (Int.toNat 320) (0:Int))) a2)):=of_decide_eq_true h5
 refine Under.cpO (And.left h5) (And.right h5) Tryz.underlying24 sz5k rfl rfl (.sl rdV) rfl<|nl<|fzO (t:=7) rfl<|tn<|sr<|m_ rfl<|a_ rfl<|nt<|rc ?_
 cases osi hF
 exact rs Tryz.results85 (.tm rfl .nil) rfl rfl
noncomputable def cW (a0:List Int):Option ((List Int)×Int):=
 bif decide ((a0.length:Int)>320) then
  some ([],1)
 else
  (d5 a0 0 []).bind fun y2=>
  some (y2,0)
theorem o37 {a0:List Int} {r0:((List Int)×Int)} (hF:cW a0=some r0) (L:List Res):Ok Tryz.prog 47 [SV.val K8 a0] L (SV.tup [SV.val K8 r0.1,SV.raw (.int .i64 r0.2)]) L:=by
 unfold cW at hF
 refine okI 9 Tryz.func47 rfl rfl rfl fun F0=>?_
 refine sr<|a_ rfl<|a_ rfl<|nt<|sq<|sr<|m_ rfl<|oN Tryz.underlying24 rfl<|b_ rfl<|nt<|it hF rfl (fun hF=>?_) (fun hF=>?_)
 ·refine sr<|a_ rfl<|a_ rfl<|nt<|rt<|tV (K:=kSl K10) (x:=[]) (t:=2) rfl rdN ?_
  cases osi hF
  exact rs Tryz.results47 (.tm rfl (.tm rfl .nil)) rfl rfl
 ·refine bs hF fun y2 h3 hF=>ct<|sr<|m_ rfl<|ca Tryz.call85 rfl rfl (Ok.cv (.sm (.sm (.rd rdN .nil))) (o36 h3 _)) rfl<|a_ rfl<|a_ rfl<|nt<|rc ?_
  cases osi hF
  exact rs Tryz.results47 (.tm rfl (.tm rfl .nil)) rfl rfl
noncomputable def cl (a0:List (List Int)) (a1:List (List Int)) (a2:List Int):Option ((List Int)×Int):=
 bif ((decide ((a0.length:Int)<1))||(decide ((a0.length:Int)>8)))||((a1.length:Int) != (a0.length:Int)) then
  some ([],80)
 else
  (((Loop.run (S := Int) (R := (Unit ⊕ ((List Int) × Int))) (fun yA =>
    bif decide (yA<(a0.length:Int)) then
     (idx a0 yA).bind fun bA=>
     bif (bA.length:Int) != 32 then
      some (.done (.inr ([],2)))
     else
      some (.next (IntKind.wrap .i64 (yA+1)))
    else
     some (.done (.inl ()))) 0).bind fun vA=>match vA with
   | .inl _=>
    some (.inr ())
   | .inr z=>
    some (.inl z)
   : Option (((List Int) × Int) ⊕ Unit))).bind fun qA => match qA with
   | .inl z=>
    some z
   | .inr _=>
    bif decide ((a2.length:Int)>48) then
     some ([],1)
    else
     (((Loop.run (S := ((List Int) × Int)) (R := ((List Int) ⊕ ((List Int) × Int))) (fun (hA, xA) =>
       bif decide (xA≥0) then
        (idx a0 xA).bind fun oA=>
        (idx a1 xA).bind fun kA=>
        (cb oA kA (IntKind.wrap .i64 ((a0.length:Int) - xA)) hA).bind fun zA=>
        bif zA.2 != 0 then
         some (.done (.inr ([],zA.2)))
        else
         some (.next (zA.1,IntKind.wrap .i64 (xA - 1)))
       else
        some (.done (.inl hA))) (a2,IntKind.wrap .i64 ((a0.length:Int) - 1))).bind fun dA=>match dA with
      | .inl eA=>
       some (.inr eA)
      | .inr z=>
       some (.inl z)
      : Option (((List Int) × Int) ⊕ (List Int)))).bind fun rA => match rA with
      | .inl z=>
       some z
      | .inr wA=>
       (cW wA).bind fun cA=>
       some (cA.1,cA.2)
theorem o38 {a0 a1:List (List Int)} {a2:List Int} {r0:((List Int)×Int)} (hF:cl a0 a1 a2=some r0) (L:List Res):Ok Tryz.prog 25 [SV.val K1 a0,SV.val K0 a1,SV.val K8 a2] L (SV.tup [SV.val K8 r0.1,SV.raw (.int .i64 r0.2)]) L:=by
 unfold cl at hF
 refine okI 75 Tryz.func25 rfl rfl rfl fun F0=>?_
 refine sr<|a_ rfl<|a_ rfl<|nt<|sq<|sr<|m_ rfl<|oN Tryz.underlying22 rfl<|b_ rfl<|m_ rfl<|jF 21 ((decide ((a0.length:Int)<1))||(decide ((a0.length:Int)>8))) ?_ (fun k=>?_)
 ·refine m_ rfl<|kQ 28 (((decide ((a0.length:Int)<1))||(decide ((a0.length:Int)>8)))||((a1.length:Int) != (a0.length:Int))) ?_ (fun k=>?_)
  ·refine nt<|it hF rfl (fun hF=>?_) (fun hF=>?_)
   ·refine sr<|a_ rfl<|a_ rfl<|nt<|rt<|tV (K:=kSl K10) (x:=[]) (t:=6) rfl rdN ?_
    cases osi hF
    exact rs Tryz.results25 (.tm rfl (.tm rfl .nil)) rfl rfl
   ·refine bs hF fun uA cA hF=>ct<|sq<|Under.after (fun X=>∀(_:Unit),uA=(.inr ())→Under F0 75 [(0,.val K1 a0),(1,.val K0 a1),(2,.val K8 a2)] (L) X) ?_ ?_
    ·intro _ hA
     replace hA:=hA.symm
     subst hA
     refine sq<|sr<|m_ rfl<|oN Tryz.underlying24 rfl<|b_ rfl<|nt<|it hF rfl (fun hF=>?_) (fun hF=>?_)
     ·refine sr<|a_ rfl<|a_ rfl<|nt<|rt<|tV (K:=kSl K10) (x:=[]) (t:=6) rfl rdN ?_
      cases osi hF
      exact rs Tryz.results25 (.tm rfl (.tm rfl .nil)) rfl rfl
     ·refine bs hF fun xB qA hF=>ct<|sr<|m_ rfl<|a_ rfl<|nt<|sq<|Under.after (fun X=>∀(rA:List Int),xB=(.inr rA)→Under F0 75 [(10,.val K8 rA)] (L) X) ?_ ?_
      ·intro rA bA
       replace bA:=bA.symm
       subst bA
       refine bs hF fun gB yB hF=>sr<|m_ rfl<|cx Tryz.call47 rfl (o37 yB _)<|oE rfl<|oE rfl<|a_ rfl<|a_ rfl<|nt<|rc ?_
       cases osi hF
       exact rs Tryz.results25 (.tm rfl (.tm rfl .nil)) rfl rfl
      ·intro K zB
       refine bs qA fun hB wA qA=>sr<|m_ rfl<|oN Tryz.underlying22 rfl<|b_ rfl<|a_ rfl<|nt<|bk<|lp wA () (fun zA oA=>[(0,.val K1 a0),(1,.val K0 a1),(10,.val K8 zA.1),(11,.raw (.int .i64 zA.2))]) (fun zA oA=>L) rfl rfl fun zA oA bB xA kA=>?_
       obtain⟨vB,oB⟩:=zA
       dsimp only at xA⊢
       refine sq<|sr<|mb rfl<|nt<|it xA rfl (fun xA=>?_) (fun xA=>?_)
       ·refine bs xA fun kB gA xA=>bs xA fun dB mA xA=>bs xA fun eB nA xA=>ct<|sq<|bk<|sq<|ph rfl<|gV [0,1,2,3,4,5,6,7,8,9,10,11,12] [[0],[11],[51,52],[53],[1],[11],[55,56],[57],[0],[59],[11],[60,61],[10]] 0 (by kernel_rfl) rfl<|vm_ rfl<|vm_ rfl<|vo (fun _=>OpV.ixS gA Tryz.underlying22 sz24 rfl rdV rfl) rfl<|vo (fun _=>OpV.ld kt24 rfl) rfl<|vm_ rfl<|vm_ rfl<|vo (fun _=>OpV.ixS mA Tryz.underlying23 sz108 rfl rdV rfl) rfl<|vo (fun _=>OpV.ld kt108 rfl) rfl<|vm_ rfl<|vo (fun _=>OpV.len Tryz.underlying22 rfl rdV) rfl<|vm_ rfl<|vb_ rfl<|vm_ rfl<|vn<|p1 13 rfl rfl<|cx Tryz.call46 rfl (o35 nA _)<|pn<|p1 14 rfl rfl<|m_ rfl<|pn<|gV [15,16,17] [[50],[50],[65]] 0 (by kernel_rfl) rfl<|vo (fun _=>OpV.extr rfl rfl) rfl<|vo (fun _=>OpV.extr rfl rfl) rfl<|Vq.v (fun G T hG=>a_ rfl<|Vq.end rfl)<|vn<|p1 18 rfl rfl<|a_ rfl<|pn<|pd rfl<|tn<|sq<|sr<|mb rfl<|nt<|it xA rfl (fun xA=>?_) (fun xA=>?_)
        ·refine sr<|m_ rfl<|a_ rfl<|a_ rfl<|nt<|rt<|Under.bR<|tr ?_
         cases aj xA kA
         refine tr<|Under.bR<|tr ?_
         cases osi qA
         refine tV (K:=kSl K10) (x:=[]) (t:=6) rfl rdN ?_
         cases osi hF
         exact rs Tryz.results25 (.tm rfl (.tm rfl .nil)) rfl rfl
        ·exact ct<|rg<|m_ rfl<|a_ rfl<|nl<|bN<|tn<|rg<|mb rfl<|a_ rfl<|nl<|nx () xA rfl rfl
       ·refine xt<|te ?_
        cases aj xA kA
        exact te<|bh<|tn<|wr (zB _ (osi qA).symm) rfl
    ·intro K cB
     refine bs cA fun qB pA cA=>sr<|m_ rfl<|oN Tryz.underlying22 rfl<|m_ rfl<|nt<|bk<|lp pA () (fun vA dA=>[(0,.val K1 a0),(1,.val K0 a1),(2,.val K8 a2),(29,.val K1 a0),(30,.raw (.int .i64 (a0.length:Int))),(31,.raw (.int .i64 vA))]) (fun vA dA=>L) rfl rfl fun vA dA rB yA eA=>?_
     refine sr<|b_ rfl<|nt<|sq<|it yA rfl (fun yA=>?_) (fun yA=>?_)
     ·refine bs yA fun wB tA yA=>ct<|sq<|bk<|sr<|oS tA Tryz.underlying22 sz24 rfl<|oL kt24 rfl<|a_ rfl<|ns<|m_ rfl<|oN Tryz.underlying24 rfl<|b_ rfl<|nt<|it yA rfl (fun yA=>?_) (fun yA=>?_)
      ·refine sr<|a_ rfl<|a_ rfl<|nt<|rc<|Under.bR<|tr ?_
       cases aj yA eA
       refine tr<|Under.bR<|tr ?_
       cases osi cA
       refine tV (K:=kSl K10) (x:=[]) (t:=6) rfl rdN ?_
       cases osi hF
       exact rs Tryz.results25 (.tm rfl (.tm rfl .nil)) rfl rfl
      ·exact cs<|bN<|tn<|rg<|b_ rfl<|m_ rfl<|nl<|nx () yA rfl rfl
     ·refine xt<|te ?_
      cases aj yA eA
      exact te<|bh<|tn<|wr (cB () (osi cA).symm) rfl
  ·refine by_ (t:=22) rfl (fun c4=>?_) (fun c4=>?_)
   ·exact sk_ c4 rfl<|sk_ c4 rfl<|sk_ c4 rfl<|sk_ c4 rfl<|sk_ c4 rfl<|pT c4 rfl<|rf 5 (or_t (e:=(a1.length:Int) != (a0.length:Int)) c4) rfl k
   ·exact gc_ c4 rfl<|m_ rfl<|gc_ c4 rfl<|oN Tryz.underlying23 rfl<|gc_ c4 rfl<|m_ rfl<|gc_ c4 rfl<|oN Tryz.underlying22 rfl<|gc_ c4 rfl<|b_ rfl<|pF c4 rfl<|rf 5 (or_f c4) rfl k
 ·refine by_ (t:=17) rfl (fun c1=>?_) (fun c1=>?_)
  ·exact sk_ c1 rfl<|sk_ c1 rfl<|sk_ c1 rfl<|pT c1 rfl<|rf 3 (or_t (e:=decide ((a0.length:Int)>8)) c1) rfl k
  ·exact gc_ c1 rfl<|m_ rfl<|gc_ c1 rfl<|oN Tryz.underlying22 rfl<|gc_ c1 rfl<|b_ rfl<|pF c1 rfl<|rf 3 (or_f c1) rfl k
noncomputable def bc (a0:List (List Int)) (a1:Int) (a2:List (List Int)) (a3:List Int):Option ((List Int)×Int):=
 (((Loop.run (S := ((List (List Int)) × Int)) (R := ((List (List Int)) ⊕ ((List Int) × Int))) (fun (zA, xA) =>
   bif decide (xA<(a0.length:Int)) then
    (idx a0 xA).bind fun bA=>
    (dn bA a1).bind fun yA=>
    bif yA.2 != 0 then
     some (.done (.inr ([],yA.2)))
    else
     (app zA [yA.1]).bind fun vA=>
     some (.next (vA,IntKind.wrap .i64 (xA+1)))
   else
    some (.done (.inl zA))) ([],0)).bind fun oA=>match oA with
  | .inl kA=>
   some (.inr kA)
  | .inr z=>
   some (.inl z)
  : Option (((List Int) × Int) ⊕ (List (List Int))))).bind fun dA => match dA with
  | .inl z=>
   some z
  | .inr eA=>
   (cl eA a2 a3).bind fun hA=>
   some (hA.1,hA.2)
theorem o39 {a0:List (List Int)} {a1:Int} {a2:List (List Int)} {a3:List Int} {r0:((List Int)×Int)} (hF:bc a0 a1 a2 a3=some r0) (L:List Res):Ok Tryz.prog 9 [SV.val K1 a0,SV.raw (.int .i64 a1),SV.val K0 a2,SV.val K8 a3] L (SV.tup [SV.val K8 r0.1,SV.raw (.int .i64 r0.2)]) L:=by
 unfold bc at hF
 refine okI 41 Tryz.func9 rfl rfl rfl fun F0=>?_
 refine bs hF fun kA hA hF=>sr<|a_ rfl<|a_ rfl<|ns<|a_ rfl<|nt<|sq<|Under.after (fun X=>∀(vA:List (List Int)),kA=(.inr vA)→Under F0 41 [(2,.val K0 a2),(3,.val K8 a3),(10,.val K1 vA)] (L) X) ?_ ?_
 ·intro vA yA
  replace yA:=yA.symm
  subst yA
  refine bs hF fun nA dA hF=>sr<|m_ rfl<|m_ rfl<|m_ rfl<|cx Tryz.call25 rfl (o38 dA _)<|oE rfl<|oE rfl<|a_ rfl<|a_ rfl<|nt<|rc ?_
  cases osi hF
  exact rs Tryz.results9 (.tm rfl (.tm rfl .nil)) rfl rfl
 ·intro K eA
  refine bs hA fun pA cA hA=>sr<|m_ rfl<|oN Tryz.underlying22 rfl<|m_ rfl<|nt<|bk<|Under.ownNil (K:=kSl K10) (e:=24)<|lp cA (C:=Value) (.slice none 0 0) (fun zA bA=>[(1,.raw (.int .i64 a1)),(2,.val K0 a2),(3,.val K8 a3),(10,.raw bA),(15,.val K1 a0),(16,.raw (.int .i64 (a0.length:Int))),(17,.raw (.int .i64 zA.2))]) (fun zA bA=>(.own K8 bA 24 zA.1)::L) rfl rfl fun zA bA tA xA oA=>?_
  obtain⟨uA,xB⟩:=zA
  dsimp only at xA⊢
  refine sr<|b_ rfl<|nt<|sq<|it xA rfl (fun xA=>?_) (fun xA=>?_)
  ·refine bs xA fun yB qA xA=>bs xA fun rA wA xA=>ct<|sq<|bk<|sr<|oS qA Tryz.underlying22 sz24 rfl<|oL kt24 rfl<|a_ rfl<|ns<|m_ rfl<|m_ rfl<|cx Tryz.call24 rfl (o13 wA _)<|m_ rfl<|oE rfl<|oE rfl<|a_ rfl<|a_ rfl<|nt<|sq<|sr<|mb rfl<|nt<|it xA rfl (fun xA=>?_) (fun xA=>?_)
   ·refine dr<|sr<|m_ rfl<|a_ rfl<|a_ rfl<|nt<|rt<|Under.bR<|tr ?_
    cases aj xA oA
    refine tr<|Under.bR<|tr ?_
    cases osi hA
    refine tV (K:=kSl K10) (x:=[]) (t:=8) rfl rdN ?_
    cases osi hF
    exact rs Tryz.results9 (.tm rfl (.tm rfl .nil)) rfl rfl
   ·exact bs xA fun zB gA xA=>ct<|rg<|m_ rfl<|m_ rfl<|bF (ys:=[rA.1]) Tryz.underlying22 ET24 (BldA.cons rfl rfl rdV (BldA.nil _)) rfl rfl<|ap gA Tryz.underlying22 AT24 rfl rfl rdV rfl fun mA=>a_ rfl<|nl<|bN<|tn<|rg<|b_ rfl<|m_ rfl<|nl<|nx mA xA rfl rfl
  ·refine fzO (t:=10) rfl<|xt<|te ?_
   cases aj xA oA
   exact te<|bh<|tn<|wr (eA _ (osi hA).symm) rfl
noncomputable def dM:Option am:=
 some (⟨[],(0:Int),(0:Int),(0:Int),(⟨(0:Int),(0:Int),(0:Int)⟩:ao),(⟨1,(0:Int)⟩:aq),(0:Int),(0:Int)⟩:am)
theorem o40 {r0:am} (hF:dM=some r0) (L:List Res):OkX Tryz.prog 56 [] L (fun y:(Value×Nat)=>SV.raw (.pointer (some ⟨y.2,0,none⟩))) (fun y:(Value×Nat)=>(.own K10 y.1 5 r0.field)::(.box az y.2 132 (⟨y.1,r0.at_,r0.stage,r0.left,r0.header,r0.sum,r0.err,r0.place⟩:ab))::L):=by
 unfold dM at hF
 refine OkX.intro 4 [] Tryz.func56 rfl rfl rfl rfl fun F0=>?_
 refine sr<|a_ rfl<|ns<|ov (OpV.bst BT120 (Bld.cons (x':=(⟨1,(0:Int)⟩:aq)) rfl rfl rdI (by intro q hq;simp only[List.mem_cons,List.not_mem_nil,or_false] at hq;rcases hq with rfl<;>rfl) (Bld.nil _))) rfl<|ov (OpV.bst fT (Bld.cons (x':=(⟨.slice none 0 0,(0:Int),(0:Int),(0:Int),(⟨(0:Int),(0:Int),(0:Int)⟩:ao),(⟨1,(0:Int)⟩:aq),(0:Int),(0:Int)⟩:ab)) rfl rfl rdV ⟨rfl,⟨rfl,⟨rfl,⟨rfl,⟨rfl,(by intro q hq;simp only[List.mem_cons,List.not_mem_nil,or_false] at hq;rcases hq with rfl|rfl<;>rfl)⟩⟩⟩⟩⟩ (Bld.nil _))) rfl<|Under.bx (K:=az) rfl rdV rfl fun b1=>a_ rfl<|nt<|rc<|Under.ownNil (K:=kInt .u8) (e:=5)<|f1<|f1 ?_
 cases osi hF
 exact Under.retsX ((.slice none 0 0),b1) Tryz.results56 (.tm rfl .nil) rfl rfl
noncomputable def da (a0:am):Option Int:=
 (idx [4,1,1,2,8,8,2,320,4,1] a0.stage).bind fun x1=>
 some x1
theorem o41 {a0:am} {c0:Nat} {w0_0:Value} {r0:Int} (hF:da a0=some r0) (L:List Res):Ok Tryz.prog 90 [SV.raw (.pointer (some ⟨c0,0,none⟩))] ((.own K10 w0_0 5 a0.field)::(.box az c0 132 (⟨w0_0,a0.at_,a0.stage,a0.left,a0.header,a0.sum,a0.err,a0.place⟩:ab))::L) (SV.raw (.int .i64 r0)) ((.own K10 w0_0 5 a0.field)::(.box az c0 132 (⟨w0_0,a0.at_,a0.stage,a0.left,a0.header,a0.sum,a0.err,a0.place⟩:ab))::L):=by
 unfold da at hF
 refine okI 9 Tryz.func90 rfl rfl rfl fun F0=>?_
 refine bs hF fun x1 h2 hF=>sr<|a_ rfl<|ns<|ov (OpV.bar (ys:=[4,1,1,2,8,8,2,320,4,1]) BTA218 (BldA.cons rfl rfl rdI (BldA.cons rfl rfl rdI (BldA.cons rfl rfl rdI (BldA.cons rfl rfl rdI (BldA.cons rfl rfl rdI (BldA.cons rfl rfl rdI (BldA.cons rfl rfl rdI (BldA.cons rfl rfl rdI (BldA.cons rfl rfl rdI (BldA.cons rfl rfl rdI (BldA.nil _)))))))))))) rfl<|m_ rfl<|ov (OpV.nilChk rfl ⟨_,rfl⟩) rfl<|oM df rfl<|f1<|lP .box (.fld .id aC) kt3k rfl rfl<|rI (t:=7) rfl<|ov (OpV.ixVI h2 Tryz.underlying218 kt3 rfl rfl) rfl<|a_ rfl<|nt<|rc<|f1 ?_
 cases osi hF
 exact rs Tryz.results90 (.tm rfl .nil) rfl rfl
noncomputable def dx (a0:List Int):Option (List Int):=
 (app [] a0).bind fun z5=>
 some z5
theorem o42 {a0:List Int} {r0:(List Int)} (hF:dx a0=some r0) (L:List Res):OkX Tryz.prog 60 [SV.val K8 a0] L (fun y:Value=>SV.raw y) (fun y:Value=>(.own K10 y 5 r0)::L):=by
 unfold dx at hF
 refine OkX.intro 8 [(0,.val K8 a0)] Tryz.func60 rfl rfl rfl rfl fun F0=>?_
 refine sr<|a_ rfl<|nt<|sq<|sr<|m_ rfl<|Under.eqNil Tryz.underlying24 rfl rfl fun b1 h2=>nt<|Under.conde rfl (fun h9=>?_) (fun _=>?_)
 ·replace hF:(some [])=some r0:=by rw[h2 h9] at hF;simpa[app,room] using hF
  refine sr<|a_ rfl<|nt<|rt<|Under.ownNil (K:=kInt .u8) (e:=5) ?_
  cases osi hF
  exact Under.retsX (.slice none 0 0) Tryz.results60 (.tm rfl .nil) rfl rfl
 ·refine bs hF fun z5 h6 hF=>ct<|sr<|bO (ys:=[]) Tryz.underlying24 ET5 (BldA.nil _) rfl rfl fun v4=>m_ rfl<|ap h6 Tryz.underlying24 AT5 rfl rfl rdV rfl fun v7=>a_ rfl<|nt<|rc ?_
  cases osi hF
  exact Under.retsX v7 Tryz.results60 (.tm rfl .nil) rfl rfl
noncomputable def cO (a0:List Int):Option Int:=
 (((Loop.run (S:=(Int×Int)) (R:=Int) (fun(yA,xA)=>
   bif decide (xA<(a0.length:Int)) then
    (idx a0 xA).bind fun zA=>
    some (.next (orI .u64 (shlI .u64 yA 8) (IntKind.wrap .u64 zA),IntKind.wrap .i64 (xA+1)))
   else
    some (.done yA)) (0,0)).bind fun hA=>
 some hA
  :Option Int)).bind fun bA=>
 some bA
theorem o43 {a0:List Int} {r0:Int} (hF:cO a0=some r0) (L:List Res):Ok Tryz.prog 120 [SV.val K8 a0] L (SV.raw (.int .u64 r0)) L:=by
 unfold cO at hF
 refine okI 19 Tryz.func120 rfl rfl rfl fun F0=>?_
 refine bs hF fun zA hA hF=>sr<|a_ rfl<|ns<|a_ rfl<|nt<|sq<|afr (r:=zA) (fun zA=>[(3,.raw (.int .u64 zA))]) (fun zA=>(L)) ?_ fun K vA=>?_
 ·refine sr<|m_ rfl<|a_ rfl<|nt<|rc ?_
  cases osi hF
  exact rs Tryz.results120 (.tm rfl .nil) rfl rfl
 ·refine bs hA fun eA oA hA=>sr<|m_ rfl<|oN Tryz.underlying24 rfl<|m_ rfl<|nt<|bk<|lp oA () (fun yA bA=>[(3,.raw (.int .u64 yA.1)),(6,.val K8 a0),(7,.raw (.int .i64 (a0.length:Int))),(8,.raw (.int .i64 yA.2))]) (fun yA bA=>L) rfl rfl fun yA bA cA xA kA=>?_
  obtain⟨qA,rA⟩:=yA
  dsimp only at xA⊢
  refine sr<|b_ rfl<|nt<|sq<|it xA rfl (fun xA=>?_) (fun xA=>?_)
  ·exact bs xA fun wA dA xA=>ct<|sq<|bk<|sr<|oS dA Tryz.underlying24 sz5 rfl<|oI kt5 rfl<|a_ rfl<|nt<|rg<|m_ rfl<|ov (OpV.sh rfl rfl (by decide) rfl) rfl<|m_ rfl<|oC (by kernel_rfl) Tryz.underlying117 rfl<|b_ rfl<|a_ rfl<|nl<|bN<|tn<|rg<|b_ rfl<|m_ rfl<|nl<|nx () xA rfl rfl
  ·refine xt<|te ?_
   cases aj xA kA
   exact te<|bh<|tn<|wr (vA _ (osi hA).symm) rfl
noncomputable def dN (a0:aq):Option Int:=
 some (orI .u32 (shlI .u32 a0.b 16) a0.a)
theorem o44 {a0:aq} {r0:Int} (hF:dN a0=some r0) (L:List Res):Ok Tryz.prog 53 [SV.val aT a0] L (SV.raw (.int .u32 r0)) L:=by
 unfold dN at hF
 refine okI 9 Tryz.func53 rfl rfl rfl fun F0=>?_
 refine sr<|bX (K:=aT) rfl rdV rfl<|a_ rfl<|ns<|oF fb120k rfl<|oI kt118 rfl<|ov (OpV.sh rfl rfl (by decide) rfl) rfl<|oF fb120k1 rfl<|oI kt118 rfl<|b_ rfl<|a_ rfl<|nt<|rc ?_
 cases osi hF
 exact rs Tryz.results53 (.tm rfl .nil) rfl rfl
noncomputable def ef (a0:aq) (a1:List Int):Option aq:=
 (((Loop.run (S:=(Int×aq)) (R:=aq) (fun(yA,xA)=>
   bif decide (yA<(a1.length:Int)) then
    (idx a1 yA).bind fun zA=>
    some (.next (IntKind.wrap .i64 (yA+1),({({xA with a:=Int.tmod (IntKind.wrap .u32 (xA.a+(IntKind.wrap .u32 zA))) 65521}:aq) with b:=Int.tmod (IntKind.wrap .u32 ((({xA with a:=Int.tmod (IntKind.wrap .u32 (xA.a+(IntKind.wrap .u32 zA))) 65521}:aq).b)+(({xA with a:=Int.tmod (IntKind.wrap .u32 (xA.a+(IntKind.wrap .u32 zA))) 65521}:aq).a))) 65521}:aq)))
   else
    some (.done xA)) (0,a0)).bind fun hA=>
 some hA
  :Option aq)).bind fun bA=>
 some bA
theorem o45 {a0:aq} {a1:List Int} {r0:aq} (hF:ef a0 a1=some r0) (L:List Res):Ok Tryz.prog 52 [SV.val aT a0,SV.val K8 a1] L (SV.val aT r0) L:=by
 unfold ef at hF
 refine okI 29 Tryz.func52 rfl rfl rfl fun F0=>?_
 refine bs hF fun zA vA hF=>sr<|Under.bx (K:=aT) rfl rdV rfl fun b1=>al ZT120 rfl fun b2=>nt<|sq<|afr (r:=zA) (fun zA=>[(2,.ptr aT zA),(4,pb b2)]) (fun zA=>((.box aT b2 120 (⟨(0:Int),(0:Int)⟩:aq))::L)) ?_ fun K kA=>?_
 ·refine sr<|oL kt120 rfl<|sP (x':=zA) .box .id sz120k rfl rfl rdV rfl<|nl<|fz (t:=4) rfl<|tn<|rc ?_
  cases osi hF
  exact rs Tryz.results52 (.ce rfl kt120 .nil) rfl rfl
 ·refine bs vA fun qA dA vA=>sr<|m_ rfl<|oN Tryz.underlying24 rfl<|m_ rfl<|nt<|bk<|f1<|lp dA () (fun hA oA=>[(2,pb b1),(4,pb b2),(7,.val K8 a1),(8,.raw (.int .i64 (a1.length:Int))),(9,.raw (.int .i64 hA.1))]) (fun hA oA=>(.box aT b1 120 hA.2)::(.box aT b2 120 (⟨(0:Int),(0:Int)⟩:aq))::L) rfl rfl fun hA oA rA xA eA=>?_
  obtain⟨wA,yA⟩:=hA
  dsimp only at xA⊢
  refine sr<|b_ rfl<|nt<|sq<|it xA rfl (fun xA=>?_) (fun xA=>?_)
  ·exact bs xA fun bA cA xA=>ct<|sq<|bk<|sr<|oS cA Tryz.underlying24 sz5 rfl<|oI kt5 rfl<|a_ rfl<|ns<|oM jI rfl<|lP .box (.fld .id eJ) kt118k rfl rfl<|rI (t:=14) rfl<|m_ rfl<|oC (by kernel_rfl) Tryz.underlying118 rfl<|b_ rfl<|ov (OpV.quo rfl rfl (by decide) rfl) rfl<|oM jI rfl<|sP (x':=({yA with a:=Int.tmod (IntKind.wrap .u32 (yA.a+(IntKind.wrap .u32 bA))) 65521}:aq)) .box (.fld .id eJ) sz118k rfl rfl rdI rfl<|nt<|rg<|oM li rfl<|lP .box (.fld .id fx) kt118k rfl rfl<|rI (t:=21) rfl<|oM jI rfl<|lP .box (.fld .id eJ) kt118k rfl rfl<|rI (t:=23) rfl<|b_ rfl<|ov (OpV.quo rfl rfl (by decide) rfl) rfl<|oM li rfl<|sP (x':=({({yA with a:=Int.tmod (IntKind.wrap .u32 (yA.a+(IntKind.wrap .u32 bA))) 65521}:aq) with b:=Int.tmod (IntKind.wrap .u32 ((({yA with a:=Int.tmod (IntKind.wrap .u32 (yA.a+(IntKind.wrap .u32 bA))) 65521}:aq).b)+(({yA with a:=Int.tmod (IntKind.wrap .u32 (yA.a+(IntKind.wrap .u32 bA))) 65521}:aq).a))) 65521}:aq)) .box (.fld .id fx) sz118k rfl rfl rdI rfl<|nl<|bN<|tn<|rg<|b_ rfl<|m_ rfl<|nl<|nx () xA rfl rfl
  ·refine fz (t:=2) rfl<|xt<|te ?_
   cases aj xA eA
   exact te<|bh<|tn<|wr (kA _ (osi vA).symm) rfl
noncomputable def cX (a0:am):Option (Int×am):=
 bif a0.stage==8 then
  (cO a0.field).bind fun y2=>
  (dN a0.sum).bind fun y4=>
  bif y2 != (IntKind.wrap .u64 y4) then
   some (65,(⟨a0.field,a0.at_,a0.stage,a0.left,a0.header,a0.sum,a0.err,a0.place⟩:am))
  else
   some (0,(⟨a0.field,a0.at_,9,a0.left,a0.header,a0.sum,a0.err,a0.place⟩:am))
 else
  (ef a0.sum a0.field).bind fun y8=>
  ((bif a0.stage==0 then
   bif (strB a0.field) != [67,72,82,78] then
    some (.inl (60,(⟨a0.field,a0.at_,a0.stage,a0.left,a0.header,y8,a0.err,a0.place⟩:am)))
   else
    some (.inr (a0.left,a0.header))
  else
   bif a0.stage==1 then
    (idx a0.field 0).bind fun vA=>
    bif vA != 1 then
     some (.inl (61,(⟨a0.field,a0.at_,a0.stage,a0.left,a0.header,y8,a0.err,a0.place⟩:am)))
    else
     some (.inr (a0.left,a0.header))
   else
    bif a0.stage==2 then
     (idx a0.field 0).bind fun xA=>
     bif decide ((({a0.header with Left:=IntKind.wrap .i64 xA}:ao).Left)>8) then
      some (.inl (62,(⟨a0.field,a0.at_,a0.stage,a0.left,({a0.header with Left:=IntKind.wrap .i64 xA}:ao),y8,a0.err,a0.place⟩:am)))
     else
      some (.inr (a0.left,({a0.header with Left:=IntKind.wrap .i64 xA}:ao)))
    else
     bif a0.stage==3 then
      (cO a0.field).bind fun yA=>
      bif decide ((IntKind.wrap .i64 yA)>256) then
       some (.inl (63,(⟨a0.field,a0.at_,a0.stage,IntKind.wrap .i64 yA,a0.header,y8,a0.err,a0.place⟩:am)))
      else
       some (.inr (IntKind.wrap .i64 yA,a0.header))
     else
      bif a0.stage==4 then
       (cO a0.field).bind fun zA=>
       bif decide (zA>4611686018427387903) then
        some (.inl (62,(⟨a0.field,a0.at_,a0.stage,a0.left,({a0.header with Round:=IntKind.wrap .i64 zA}:ao),y8,a0.err,a0.place⟩:am)))
       else
        some (.inr (a0.left,({a0.header with Round:=IntKind.wrap .i64 zA}:ao)))
      else
       bif a0.stage==5 then
        (cO a0.field).bind fun hA=>
        bif decide (hA>4611686018427387904) then
         some (.inl (62,(⟨a0.field,a0.at_,a0.stage,a0.left,({a0.header with Epoch:=IntKind.wrap .i64 hA}:ao),y8,a0.err,a0.place⟩:am)))
        else
         some (.inr (a0.left,({a0.header with Epoch:=IntKind.wrap .i64 hA}:ao)))
       else
        bif a0.stage==6 then
         (cO a0.field).bind fun oA=>
         bif oA != 320 then
          some (.inl (64,(⟨a0.field,a0.at_,a0.stage,a0.left,a0.header,y8,a0.err,a0.place⟩:am)))
         else
          some (.inr (a0.left,a0.header))
        else
         bif a0.stage==7 then
          some (.inr (IntKind.wrap .i64 (a0.left - 1),a0.header))
         else
          bif a0.stage==9 then
           some (.inl (66,(⟨a0.field,a0.at_,a0.stage,a0.left,a0.header,y8,a0.err,a0.place⟩:am)))
          else
           some (.inr (a0.left,a0.header))
   : Option ((Int × am) ⊕ (Int × ao)))).bind fun kA => match kA with
   | .inl z=>
    some z
   | .inr (bA,dA)=>
    ((bif ((IntKind.wrap .i64 (a0.stage+1))==6)||((IntKind.wrap .i64 (a0.stage+1))==8) then
     bif bA==0 then
      some 8
     else
      some 6
    else
     some (IntKind.wrap .i64 (a0.stage+1))
     :Option Int)).bind fun eA=>
    some (0,(⟨a0.field,a0.at_,eA,bA,dA,y8,a0.err,a0.place⟩:am))
theorem o46 {a0:am} {c0:Nat} {w0_0:Value} {r0:(Int×am)} (hF:cX a0=some r0) (L:List Res):OkX Tryz.prog 91 [SV.raw (.pointer (some ⟨c0,0,none⟩))] ((.own K10 w0_0 5 a0.field)::(.box az c0 132 (⟨w0_0,a0.at_,a0.stage,a0.left,a0.header,a0.sum,a0.err,a0.place⟩:ab))::L) (fun y:Value=>SV.raw (.int .i64 r0.1)) (fun y:Value=>(.own K10 y 5 r0.2.field)::(.box az c0 132 (⟨y,r0.2.at_,r0.2.stage,r0.2.left,r0.2.header,r0.2.sum,r0.2.err,r0.2.place⟩:ab))::L):=by
 unfold cX at hF
 refine OkX.intro 150 [(0,pb c0)] Tryz.func91 rfl rfl rfl rfl fun F0=>?_
 refine sr<|a_ rfl<|ns<|m_ rfl<|ov (OpV.nilChk rfl ⟨_,rfl⟩) rfl<|oM dS rfl<|f1<|lP .box (.fld .id aH) kt24k rfl rfl<|Under.rawR (t:=9) rfl<|a_ rfl<|nt<|sq<|sr<|m_ rfl<|ov (OpV.nilChk rfl ⟨_,rfl⟩) rfl<|oM df rfl<|lP .box (.fld .id aC) kt3k rfl rfl<|rI (t:=13) rfl<|b_ rfl<|nt<|it hF rfl (fun hF=>?_) (fun hF=>?_)
 ·refine bs hF fun y2 h3 hF=>bs hF fun y4 h5 hF=>sq<|sq<|ph rfl<|gV [0,1,2,3,4,5] [[3],[15],[0],[17],[18],[19]] 2 (by kernel_rfl) rfl<|vm_ rfl<|Vq.v (fun G T hG=>f1<|cx Tryz.call120 rfl (Ok.lend (fun L=>o43 h3 L) ⟨.inr ⟨rfl,rfl⟩,trivial⟩ SvF.raw)<|f1<|Vq.end rfl)<|vm_ rfl<|Vq.v (fun G T hG=>ov (OpV.nilChk rfl ⟨_,rfl⟩) rfl<|Vq.end rfl)<|vo (fun _=>OpV.fdM jH rfl) rfl<|Vq.v (fun G T hG=>lP .box (.fld .id di) kt120k rfl rfl<|Vq.end rfl)<|vn<|p1 6 rfl rfl<|cx Tryz.call53 rfl (o44 h5 _)<|pn<|p1 7 rfl rfl<|oC (by kernel_rfl) Tryz.underlying117 rfl<|pn<|p1 8 rfl rfl<|b_ rfl<|pn<|pd rfl<|tn<|it hF rfl (fun hF=>?_) (fun hF=>?_)
  ·refine sr<|a_ rfl<|nt<|rt<|tr<|f1 ?_
   cases osi hF
   exact Under.retsX w0_0 Tryz.results91 (.tm rfl .nil) rfl rfl
  ·refine ct<|sr<|m_ rfl<|ov (OpV.nilChk rfl ⟨_,rfl⟩) rfl<|oM df rfl<|sP (x':=(⟨w0_0,a0.at_,9,a0.left,a0.header,a0.sum,a0.err,a0.place⟩:ab)) .box (.fld .id aC) sz3k rfl rfl rdI rfl<|ns<|a_ rfl<|nt<|rt<|f1 ?_
   cases osi hF
   exact Under.retsX w0_0 Tryz.results91 (.tm rfl .nil) rfl rfl
 ·refine bs hF fun y8 h9 hF=>bs hF fun qA xA hF=>ct<|sr<|m_ rfl<|m_ rfl<|ov (OpV.nilChk rfl ⟨_,rfl⟩) rfl<|oM jH rfl<|lP .box (.fld .id di) kt120k rfl rfl<|m_ rfl<|f1<|ca Tryz.call52 rfl rfl (Ok.lend (fun L=>o45 h9 L) ⟨.inl rfl,⟨.inr ⟨rfl,rfl⟩,trivial⟩⟩ (SvF.val (Free.st2 Free.int Free.int))) rfl<|ov (OpV.nilChk rfl ⟨_,rfl⟩) rfl<|oM jH rfl<|f1<|sP (x':=(⟨w0_0,a0.at_,a0.stage,a0.left,a0.header,y8,a0.err,a0.place⟩:ab)) .box (.fld .id di) sz120k rfl rfl rdV rfl<|nt<|sq<|Under.after (fun X=>∀(bA:Int) (vA:ao),qA=(.inr (bA,vA))→Under F0 150 [(0,pb c0)] ((.own K10 w0_0 5 a0.field)::(.box az c0 132 (⟨w0_0,a0.at_,a0.stage,bA,vA,y8,a0.err,a0.place⟩:ab))::L) X) ?_ ?_
  ·intro bA vA kA
   replace kA:=kA.symm
   subst kA
   refine bs hF fun oA zA hF=>sr<|m_ rfl<|ov (OpV.nilChk rfl ⟨_,rfl⟩) rfl<|oM df rfl<|f1<|lP .box (.fld .id aC) kt3k rfl rfl<|rI (t:=123) rfl<|b_ rfl<|ov (OpV.nilChk rfl ⟨_,rfl⟩) rfl<|oM df rfl<|sP (x':=(⟨w0_0,a0.at_,IntKind.wrap .i64 (a0.stage+1),bA,vA,y8,a0.err,a0.place⟩:ab)) .box (.fld .id aC) sz3k rfl rfl rdI rfl<|nt<|sq<|afr (r:=oA) (fun oA=>[]) (fun oA=>((.own K10 w0_0 5 a0.field)::(.box az c0 132 (⟨w0_0,a0.at_,oA,bA,vA,y8,a0.err,a0.place⟩:ab))::L)) ?_ fun K dA=>?_
   ·refine sr<|a_ rfl<|nt<|rc<|f1<|f1 ?_
    cases osi hF
    exact Under.retsX w0_0 Tryz.results91 (.tm rfl .nil) rfl rfl
   ·refine sr<|m_ rfl<|ov (OpV.nilChk rfl ⟨_,rfl⟩) rfl<|oM df rfl<|lP .box (.fld .id aC) kt3k rfl rfl<|rI (t:=130) rfl<|b_ rfl<|m_ rfl<|kQ 138 (((IntKind.wrap .i64 (a0.stage+1))==6)||((IntKind.wrap .i64 (a0.stage+1))==8)) ?_ (fun k=>?_)
    ·refine nt<|it zA rfl (fun zA=>?_) (fun zA=>?_)
     ·refine sr<|m_ rfl<|ov (OpV.nilChk rfl ⟨_,rfl⟩) rfl<|oM df rfl<|sP (x':=(⟨w0_0,a0.at_,6,bA,vA,y8,a0.err,a0.place⟩:ab)) .box (.fld .id aC) sz3k rfl rfl rdI rfl<|ns<|m_ rfl<|ov (OpV.nilChk rfl ⟨_,rfl⟩) rfl<|oM gl rfl<|lP .box (.fld .id cf) kt3k rfl rfl<|rI (t:=145) rfl<|b_ rfl<|nt<|it zA rfl (fun zA=>?_) (fun zA=>?_)
      ·exact rg<|m_ rfl<|ov (OpV.nilChk rfl ⟨_,rfl⟩) rfl<|oM df rfl<|sP (x':=(⟨w0_0,a0.at_,8,bA,vA,y8,a0.err,a0.place⟩:ab)) .box (.fld .id aC) sz3k rfl rfl rdI rfl<|nt<|f1<|wr (dA _ (osi zA).symm) rfl
      ·exact ct<|f1<|wr (dA _ (osi zA).symm) rfl
     ·exact ct<|f1<|wr (dA _ (osi zA).symm) rfl
    ·refine by_ (t:=132) rfl (fun yA=>?_) (fun yA=>?_)
     ·exact sk_ yA rfl<|sk_ yA rfl<|sk_ yA rfl<|sk_ yA rfl<|sk_ yA rfl<|pT yA rfl<|rf 5 (or_t (e:=(IntKind.wrap .i64 (a0.stage+1))==8) yA) rfl k
     ·exact gc_ yA rfl<|m_ rfl<|gc_ yA rfl<|ov (OpV.nilChk rfl ⟨_,rfl⟩) rfl<|gc_ yA rfl<|oM df rfl<|gc_ yA rfl<|lP .box (.fld .id aC) kt3k rfl rfl<|rI (t:=136) rfl<|gc_ yA rfl<|b_ rfl<|pF yA rfl<|rf 6 (or_f yA) rfl k
  ·intro K hA
   refine sr<|m_ rfl<|ov (OpV.nilChk rfl ⟨_,rfl⟩) rfl<|oM df rfl<|lP .box (.fld .id aC) kt3k rfl rfl<|rI (t:=39) rfl<|nt<|bk<|sr<|b_ rfl<|a_ rfl<|nt<|it xA rfl (fun xA=>?_) (fun xA=>?_)
   ·refine sr<|m_ rfl<|f1<|Under.lendOv (t:=42) (fun L=>OpV.b2s Tryz.underlying24 Tryz.underlying5 Tryz.underlying9 rfl rdV) rfl (SvF.val (fun _ _ _ _ h=>h)) rfl<|ov (OpV.eqS Tryz.underlying9 rfl rdV rfl nc (.inr rfl)) rfl<|nt<|it xA rfl (fun xA=>?_) (fun xA=>?_)
    ·refine sr<|a_ rfl<|nt<|rc<|Under.bR<|tr ?_
     cases osi xA
     refine f1<|f1 ?_
     cases osi hF
     exact Under.retsX w0_0 Tryz.results91 (.tm rfl .nil) rfl rfl
    ·exact cs<|bN<|tn<|wr (hA _ _ (osi xA).symm) rfl
   ·refine sr<|b_ rfl<|a_ rfl<|nt<|it xA rfl (fun xA=>?_) (fun xA=>?_)
    ·refine bs xA fun xB eA xA=>sr<|m_ rfl<|f1<|ov (OpV.ixO eA Tryz.underlying24 sz5k rfl rfl) rfl<|lP (.own eA) (.ix .id eA) kt5k rfl rfl<|rI (t:=49) rfl<|b_ rfl<|nt<|it xA rfl (fun xA=>?_) (fun xA=>?_)
     ·refine sr<|a_ rfl<|nt<|rc<|Under.bR<|tr ?_
      cases osi xA
      refine f1<|f1 ?_
      cases osi hF
      exact Under.retsX w0_0 Tryz.results91 (.tm rfl .nil) rfl rfl
     ·exact cs<|bN<|tn<|wr (hA _ _ (osi xA).symm) rfl
    ·refine sr<|b_ rfl<|a_ rfl<|nt<|it xA rfl (fun xA=>?_) (fun xA=>?_)
     ·refine bs xA fun rA cA xA=>sr<|m_ rfl<|m_ rfl<|f1<|ov (OpV.ixO cA Tryz.underlying24 sz5k rfl rfl) rfl<|lP (.own cA) (.ix .id cA) kt5k rfl rfl<|rI (t:=56) rfl<|oC (by kernel_rfl) Tryz.underlying3 rfl<|ov (OpV.nilChk rfl ⟨_,rfl⟩) rfl<|oM gj rfl<|oM l8 rfl<|f1<|sP (x':=(⟨w0_0,a0.at_,a0.stage,a0.left,({a0.header with Left:=IntKind.wrap .i64 rA}:ao),y8,a0.err,a0.place⟩:ab)) .box (.fld (.fld .id cd) ft) sz3k rfl rfl rdI rfl<|ns<|m_ rfl<|ov (OpV.nilChk rfl ⟨_,rfl⟩) rfl<|oM gj rfl<|oM l8 rfl<|lP .box (.fld (.fld .id cd) ft) kt3k rfl rfl<|rI (t:=65) rfl<|b_ rfl<|nt<|it xA rfl (fun xA=>?_) (fun xA=>?_)
      ·refine sr<|a_ rfl<|nt<|rc<|Under.bR<|tr ?_
       cases osi xA
       refine f1 ?_
       cases osi hF
       exact Under.retsX w0_0 Tryz.results91 (.tm rfl .nil) rfl rfl
      ·exact cs<|bN<|tn<|f1<|wr (hA _ _ (osi xA).symm) rfl
     ·refine sr<|b_ rfl<|a_ rfl<|nt<|it xA rfl (fun xA=>?_) (fun xA=>?_)
      ·refine bs xA fun wA gA xA=>sr<|m_ rfl<|m_ rfl<|f1<|cx Tryz.call120 rfl (Ok.lend (fun L=>o43 gA L) ⟨.inr ⟨rfl,rfl⟩,trivial⟩ SvF.raw)<|oC (by kernel_rfl) Tryz.underlying3 rfl<|ov (OpV.nilChk rfl ⟨_,rfl⟩) rfl<|oM gl rfl<|f1<|sP (x':=(⟨w0_0,a0.at_,a0.stage,IntKind.wrap .i64 wA,a0.header,y8,a0.err,a0.place⟩:ab)) .box (.fld .id cf) sz3k rfl rfl rdI rfl<|ns<|m_ rfl<|ov (OpV.nilChk rfl ⟨_,rfl⟩) rfl<|oM gl rfl<|lP .box (.fld .id cf) kt3k rfl rfl<|rI (t:=78) rfl<|b_ rfl<|nt<|it xA rfl (fun xA=>?_) (fun xA=>?_)
       ·refine sr<|a_ rfl<|nt<|rc<|Under.bR<|tr ?_
        cases osi xA
        refine f1 ?_
        cases osi hF
        exact Under.retsX w0_0 Tryz.results91 (.tm rfl .nil) rfl rfl
       ·exact cs<|bN<|tn<|f1<|wr (hA _ _ (osi xA).symm) rfl
      ·refine sr<|b_ rfl<|a_ rfl<|nt<|it xA rfl (fun xA=>?_) (fun xA=>?_)
       ·refine bs xA fun mA nA xA=>sr<|m_ rfl<|f1<|cx Tryz.call120 rfl (Ok.lend (fun L=>o43 nA L) ⟨.inr ⟨rfl,rfl⟩,trivial⟩ SvF.raw)<|a_ rfl<|ns<|m_ rfl<|m_ rfl<|oC (by kernel_rfl) Tryz.underlying2 rfl<|ov (OpV.nilChk rfl ⟨_,rfl⟩) rfl<|oM gj rfl<|oM nX rfl<|f1<|sP (x':=(⟨w0_0,a0.at_,a0.stage,a0.left,({a0.header with Round:=IntKind.wrap .i64 mA}:ao),y8,a0.err,a0.place⟩:ab)) .box (.fld (.fld .id cd) hQ) sz2k rfl rfl rdI rfl<|ns<|mb rfl<|nt<|it xA rfl (fun xA=>?_) (fun xA=>?_)
        ·refine sr<|a_ rfl<|nt<|rc<|Under.bR<|tr ?_
         cases osi xA
         refine f1 ?_
         cases osi hF
         exact Under.retsX w0_0 Tryz.results91 (.tm rfl .nil) rfl rfl
        ·exact cs<|bN<|tn<|f1<|wr (hA _ _ (osi xA).symm) rfl
       ·refine sr<|b_ rfl<|a_ rfl<|nt<|it xA rfl (fun xA=>?_) (fun xA=>?_)
        ·refine bs xA fun pA tA xA=>sr<|m_ rfl<|f1<|cx Tryz.call120 rfl (Ok.lend (fun L=>o43 tA L) ⟨.inr ⟨rfl,rfl⟩,trivial⟩ SvF.raw)<|a_ rfl<|ns<|m_ rfl<|m_ rfl<|oC (by kernel_rfl) Tryz.underlying2 rfl<|ov (OpV.nilChk rfl ⟨_,rfl⟩) rfl<|oM gj rfl<|oM nY rfl<|f1<|sP (x':=(⟨w0_0,a0.at_,a0.stage,a0.left,({a0.header with Epoch:=IntKind.wrap .i64 pA}:ao),y8,a0.err,a0.place⟩:ab)) .box (.fld (.fld .id cd) hZ) sz2k rfl rfl rdI rfl<|ns<|mb rfl<|nt<|it xA rfl (fun xA=>?_) (fun xA=>?_)
         ·refine sr<|a_ rfl<|nt<|rc<|Under.bR<|tr ?_
          cases osi xA
          refine f1 ?_
          cases osi hF
          exact Under.retsX w0_0 Tryz.results91 (.tm rfl .nil) rfl rfl
         ·exact cs<|bN<|tn<|f1<|wr (hA _ _ (osi xA).symm) rfl
        ·refine sr<|b_ rfl<|a_ rfl<|nt<|it xA rfl (fun xA=>?_) (fun xA=>?_)
         ·refine bs xA fun yB uA xA=>sr<|m_ rfl<|f1<|cx Tryz.call120 rfl (Ok.lend (fun L=>o43 uA L) ⟨.inr ⟨rfl,rfl⟩,trivial⟩ SvF.raw)<|b_ rfl<|nt<|it xA rfl (fun xA=>?_) (fun xA=>?_)
          ·refine sr<|a_ rfl<|nt<|rc<|Under.bR<|tr ?_
           cases osi xA
           refine f1<|f1 ?_
           cases osi hF
           exact Under.retsX w0_0 Tryz.results91 (.tm rfl .nil) rfl rfl
          ·exact cs<|bN<|tn<|wr (hA _ _ (osi xA).symm) rfl
         ·refine sr<|b_ rfl<|a_ rfl<|nt<|it xA rfl (fun xA=>?_) (fun xA=>?_)
          ·exact rg<|m_ rfl<|ov (OpV.nilChk rfl ⟨_,rfl⟩) rfl<|oM gl rfl<|lP .box (.fld .id cf) kt3k rfl rfl<|rI (t:=114) rfl<|b_ rfl<|ov (OpV.nilChk rfl ⟨_,rfl⟩) rfl<|oM gl rfl<|sP (x':=(⟨w0_0,a0.at_,a0.stage,IntKind.wrap .i64 (a0.left - 1),a0.header,y8,a0.err,a0.place⟩:ab)) .box (.fld .id cf) sz3k rfl rfl rdI rfl<|nl<|bN<|tn<|f1<|wr (hA _ _ (osi xA).symm) rfl
          ·refine sr<|b_ rfl<|a_ rfl<|nt<|it xA rfl (fun xA=>?_) (fun xA=>?_)
           ·refine sr<|a_ rfl<|nt<|rc<|Under.bR<|tr ?_
            cases osi xA
            refine f1 ?_
            cases osi hF
            exact Under.retsX w0_0 Tryz.results91 (.tm rfl .nil) rfl rfl
           ·exact cs<|bN<|tn<|f1<|wr (hA _ _ (osi xA).symm) rfl
noncomputable def db (a0:am) (a1:List Int):Option ((List (List Int))×Int×am):=
 (((Loop.run (S:=((List Int)×(List (List Int))×(List Int)×Int×Int×Int×ao×aq×Int×Int)) (R:=((List (List Int))×(List Int)×Int×Int×Int×ao×aq×Int×Int)) (fun(zA,vA,yA,oA,hA,kA,dA,eA,bA,cA)=>
   bif bA==0 then
    (da (⟨yA,oA,hA,kA,dA,eA,bA,cA⟩:am)).bind fun qA=>
    bif decide ((IntKind.wrap .i64 (qA - (yA.length:Int)))>(zA.length:Int)) then
     (app yA zA).bind fun mA=>
     some (.done (vA,mA,IntKind.wrap .i64 (oA+(zA.length:Int)),hA,kA,dA,eA,bA,cA))
    else
     (sub zA 0 (IntKind.wrap .i64 (qA - (yA.length:Int)))).bind fun nA=>
     (app yA nA).bind fun rA=>
     (sub zA (IntKind.wrap .i64 (qA - (yA.length:Int))) (zA.length:Int)).bind fun pA=>
     ((bif hA==7 then
      (dx rA).bind fun tA=>
      (app vA [tA]).bind fun uA=>
      some uA
     else
      some vA
      :Option (List (List Int)))).bind fun wA=>
     (cX (⟨rA,IntKind.wrap .i64 (oA+(IntKind.wrap .i64 (qA - (yA.length:Int)))),hA,kA,dA,eA,bA,cA⟩:am)).bind fun xA=>
     bif xA.1 != 0 then
      some (.done (wA,xA.2.field,xA.2.at_,xA.2.stage,xA.2.left,xA.2.header,xA.2.sum,xA.1,IntKind.wrap .i64 (xA.2.at_ - (xA.2.field.length:Int))))
     else
      bif decide ((0:Int)≤0∧(0:Int)≤0∧(0:Int)≤(xA.2.field.length:Int)) then
      some (.next (pA,wA,List.take (Int.toNat 0) xA.2.field,xA.2.at_,xA.2.stage,xA.2.left,xA.2.header,xA.2.sum,xA.1,xA.2.place))
      else none
   else
    some (.done (vA,yA,oA,hA,kA,dA,eA,bA,cA))) (a1,[],a0.field,a0.at_,a0.stage,a0.left,a0.header,a0.sum,a0.err,a0.place)).bind fun xB=>match xB with
  |(yB,zB,hB,bB,vB,oB,kB,dB,eB)=>
   some (yB,zB,hB,bB,vB,oB,kB,dB,eB)
  :Option ((List (List Int))×(List Int)×Int×Int×Int×ao×aq×Int×Int))).bind fun cB=>match cB with
  |(qB,rB,wB,gB,mB,nB,pB,gA,tB)=>
   some (qB,gA,(⟨rB,wB,gB,mB,nB,pB,gA,tB⟩:am))
theorem o47 {a0:am} {a1:List Int} {c0:Nat} {w0_0:Value} {r0:((List (List Int))×Int×am)} (hF:db a0 a1=some r0) (L:List Res):OkX Tryz.prog 57 [SV.raw (.pointer (some ⟨c0,0,none⟩)),SV.val K8 a1] ((.own K10 w0_0 5 a0.field)::(.box az c0 132 (⟨w0_0,a0.at_,a0.stage,a0.left,a0.header,a0.sum,a0.err,a0.place⟩:ab))::L) (fun y:Value=>SV.tup [SV.val K1 r0.1,SV.raw (.int .i64 r0.2.1)]) (fun y:Value=>(.own K10 y 5 r0.2.2.field)::(.box az c0 132 (⟨y,r0.2.2.at_,r0.2.2.stage,r0.2.2.left,r0.2.2.header,r0.2.2.sum,r0.2.2.err,r0.2.2.place⟩:ab))::L):=by
 unfold db at hF
 refine OkX.intro 116 [(0,pb c0),(1,.val K8 a1)] Tryz.func57 rfl rfl rfl rfl fun F0=>?_
 refine bs hF fun uB gA hF=>sr<|a_ rfl<|a_ rfl<|nt<|Under.scope<|sq<|sr<|m_ rfl<|ov (OpV.ptrNil Tryz.underlying127 (.inl rfl) rfl) rfl<|nt<|Under.condF rfl<|ct<|sr<|a_ rfl<|nt<|sq<|Under.label<|tn<|sq<|Under.after (fun X=>∀(xB:List (List Int)) (yB:List Int) (zB:Int) (hB:Int) (bB:Int) (vB:ao) (oB:aq) (kB:Int) (dB:Int) (pA:Value),uB=(xB,yB,zB,hB,bB,vB,oB,kB,dB)→Under F0 116 [(0,pb c0),(6,.val K1 xB)] ((.own K10 pA 5 yB)::(.box az c0 132 (⟨pA,zB,hB,bB,vB,oB,kB,dB⟩:ab))::L) X) ?_ ?_
 ·intro xB yB zB hB bB vB oB kB dB pA eB
  replace eB:=eB.symm
  subst eB
  refine sq<|ph rfl<|gV [0,1,2,3,4,5] [[6],[0],[112],[113],[114],[111]] 2 (by kernel_rfl) rfl<|vm_ rfl<|vm_ rfl<|Vq.v (fun G T hG=>ov (OpV.nilChk rfl ⟨_,rfl⟩) rfl<|Vq.end rfl)<|vo (fun _=>OpV.fdM fM rfl) rfl<|Vq.v (fun G T hG=>f1<|lP .box (.fld .id bl) kt30k rfl rfl<|rI (t:=115) rfl<|f1<|Vq.end rfl)<|Vq.v (fun G T hG=>a_ rfl<|Vq.end rfl)<|vn<|p1 6 rfl rfl<|a_ rfl<|pn<|pd rfl<|tn<|rc<|Under.scR<|f1<|f1 ?_
  cases osi hF
  exact Under.retsX pA Tryz.results57 (.tm rfl (.tm rfl .nil)) rfl rfl
 ·intro K cB
  refine bs gA fun xD xC gA=>bk<|Under.ownNil (K:=kSl K10) (e:=24)<|lp xC (C:=(Value×Value)) ((.slice none 0 0),w0_0) (fun zA vA=>[(0,pb c0),(1,.val K8 zA.1),(6,.raw vA.1)]) (fun zA vA=>(.own K8 vA.1 24 zA.2.1)::(.own K10 vA.2 5 zA.2.2.1)::(.box az c0 132 (⟨vA.2,zA.2.2.2.1,zA.2.2.2.2.1,zA.2.2.2.2.2.1,zA.2.2.2.2.2.2.1,zA.2.2.2.2.2.2.2.1,zA.2.2.2.2.2.2.2.2.1,zA.2.2.2.2.2.2.2.2.2⟩:ab))::L) rfl rfl fun zA vA yD yA qB=>?_
  obtain⟨mB,yC,mA,kA,dA,eA,cA,qA,rA,wA⟩:=zA
  obtain⟨zC,tA⟩:=vA
  dsimp only at yA⊢
  refine sq<|sr<|m_ rfl<|ov (OpV.nilChk rfl ⟨_,rfl⟩) rfl<|oM fM rfl<|f2<|lP .box (.fld .id bl) kt30k rfl rfl<|rI (t:=13) rfl<|b_ rfl<|nt<|it yA rfl (fun yA=>?_) (fun yA=>?_)
  ·refine bs yA fun rB hC yA=>ct<|bk<|sq<|ph rfl<|gV [0,1,2,3,4,5,6] [[0],[15],[0],[17],[18],[19],[20]] 3 (by kernel_rfl) rfl<|vm_ rfl<|Vq.v (fun G T hG=>f2<|cx Tryz.call90 rfl (o41 hC _)<|f2<|f2<|Vq.end rfl)<|vm_ rfl<|Vq.v (fun G T hG=>ov (OpV.nilChk rfl ⟨_,rfl⟩) rfl<|Vq.end rfl)<|vo (fun _=>OpV.fdM dS rfl) rfl<|Vq.v (fun G T hG=>lP .box (.fld .id aH) kt24k rfl rfl<|Under.rawR (t:=20) rfl<|Vq.end rfl)<|Vq.v (fun G T hG=>f2<|ov (OpV.lenO Tryz.underlying24 rfl) rfl<|f2<|f2<|Vq.end rfl)<|vn<|p1 7 rfl rfl<|b_ rfl<|pn<|p1 8 rfl rfl<|a_ rfl<|pn<|pd rfl<|tn<|sq<|sr<|m_ rfl<|m_ rfl<|oN Tryz.underlying24 rfl<|b_ rfl<|nt<|it yA rfl (fun yA=>?_) (fun yA=>?_)
   ·refine bs yA fun zD bC yA=>f1<|fzO (t:=6) rfl<|sr<|m_ rfl<|m_ rfl<|ov (OpV.nilChk rfl ⟨_,rfl⟩) rfl<|oM dS rfl<|lP .box (.fld .id aH) kt24k rfl rfl<|Under.rawR (t:=31) rfl<|m_ rfl<|f1<|ap bC Tryz.underlying24 AT5 rfl rfl rdV rfl fun nB=>ov (OpV.nilChk rfl ⟨_,rfl⟩) rfl<|oM dS rfl<|Under.ownCell fun vC=>f1<|sP (x':=(⟨nB,kA,dA,eA,cA,qA,rA,wA⟩:ab)) .box (.fld .id aH) sz24k rfl rfl (mW vC) rfl<|ns<|m_ rfl<|ov (OpV.nilChk rfl ⟨_,rfl⟩) rfl<|oM fN rfl<|lP .box (.fld .id bo) kt3k rfl rfl<|rI (t:=39) rfl<|m_ rfl<|oN Tryz.underlying24 rfl<|b_ rfl<|ov (OpV.nilChk rfl ⟨_,rfl⟩) rfl<|oM fN rfl<|sP (x':=(⟨nB,IntKind.wrap .i64 (kA+(mB.length:Int)),dA,eA,cA,qA,rA,wA⟩:ab)) .box (.fld .id bo) sz3k rfl rfl rdI rfl<|nt<|xt<|te<|bm rfl ?_
    cases aj yA qB
    exact te<|bh<|tn<|f1<|wr (cB _ _ _ _ _ _ _ _ _ _ (osi gA).symm) rfl
   ·refine bs yA fun oC kC yA=>bs yA fun pB dC yA=>ct<|sq<|ph rfl<|Under.grpT (L:=L) [0,1,2,3,4,5,6,7,8] [[0],[0],[46],[47],[48],[1],[7],[50,51],[49,52]] [⟨sk0 (pb c0),[],[],[]⟩,⟨sk0 (pb c0),[],[],[]⟩,⟨sk0 (pb c0),[],[],[]⟩,⟨sk0 (.raw (.pointer (some ⟨c0,0+0,none⟩))),[],[],[]⟩,⟨sk0 (.raw tA),[],[],[]⟩,⟨sk0 (.val K8 mB),[],[],[]⟩,⟨sk0 (.raw (.int .i64 (IntKind.wrap .i64 (rB - (mA.length:Int))))),[],[],[]⟩,⟨sk0 (.val K8 oC),[],[],[]⟩,⟨sk1 8 (fun u8=> .raw u8),[0],[(1,tk1 8 (fun u8=> .own K10 u8 5 pB))],[]⟩] [(0,.own K10 tA 5 mA)] (fun T:List Res=>(.box az c0 132 (⟨tA,kA,dA,eA,cA,qA,rA,wA⟩:ab))::(.own K8 zC 24 yC)::T) lf2 rfl (by kernel_rfl) rfl rfl (fun F hF0 bA=>?_)
    refine Tq.v (fun G T hG=>?_) ?_
    ·exact m_ rfl<|Tq.end undef rfl rfl
    refine Tq.v (fun G T hG=>?_) ?_
    ·exact m_ rfl<|Tq.end undef rfl rfl
    refine Tq.v (fun G T hG=>?_) ?_
    ·exact ov (OpV.nilChk rfl ⟨_,rfl⟩) rfl<|Tq.end undef rfl rfl
    refine Tq.v (fun G T hG=>?_) ?_
    ·exact oM dS rfl<|Tq.end undef rfl rfl
    refine Tq.v (fun G T hG=>?_) ?_
    ·exact lP .box (.fld .id aH) kt24k rfl rfl<|Under.rawR (t:=49) rfl<|Tq.end undef rfl rfl
    refine Tq.v (fun G T hG=>?_) ?_
    ·exact m_ rfl<|Tq.end undef rfl rfl
    refine Tq.v (fun G T hG=>?_) ?_
    ·exact m_ rfl<|Tq.end undef rfl rfl
    refine Tq.v (fun G T hG=>?_) ?_
    ·exact ov (OpV.slH kC Tryz.underlying24 sz5 rfl rdV rfl) rfl<|Tq.end undef rfl rfl
    refine Tq.st (.raw (bA 8)) [.own K10 tA 5 mA] rfl rfl (fun G T hG=>?_) ?_
    ·exact ap dC Tryz.underlying24 AT5 rfl rfl rdV rfl fun eC=>Tq.end eC rfl rfl
    refine bs yA fun cC qC yA=>bs yA fun rC hA yA=>Tq.nil<|Under.le hF0<|p1 9 rfl rfl<|ov (OpV.nilChk rfl ⟨_,rfl⟩) rfl<|pn<|p1 10 rfl rfl<|oM dS rfl<|pn<|p1 11 rfl rfl<|f2<|Under.ownCell fun wC=>f1<|sP (x':=(⟨(bA 8),kA,dA,eA,cA,qA,rA,wA⟩:ab)) .box (.fld .id aH) sz24k rfl rfl (mW wC) rfl<|pn<|pd rfl<|tn<|sr<|m_ rfl<|m_ rfl<|ov (OpV.slL qC Tryz.underlying24 sz5 rfl rdV rfl) rfl<|a_ rfl<|ns<|m_ rfl<|ov (OpV.nilChk rfl ⟨_,rfl⟩) rfl<|oM fN rfl<|lP .box (.fld .id bo) kt3k rfl rfl<|rI (t:=62) rfl<|mb rfl<|ov (OpV.nilChk rfl ⟨_,rfl⟩) rfl<|oM fN rfl<|sP (x':=(⟨(bA 8),IntKind.wrap .i64 (kA+(IntKind.wrap .i64 (rB - (mA.length:Int)))),dA,eA,cA,qA,rA,wA⟩:ab)) .box (.fld .id bo) sz3k rfl rfl rdI rfl<|nt<|sq<|Under.after (fun X=>∀(wB:List (List Int)) (uA:Value),rC=wB→Under F0 116 [(0,pb c0),(1,.val K8 cC),(6,.raw uA)] ((.own K8 uA 24 wB)::(.own K10 (bA 8) 5 pB)::(.box az c0 132 (⟨(bA 8),IntKind.wrap .i64 (kA+(IntKind.wrap .i64 (rB - (mA.length:Int)))),dA,eA,cA,qA,rA,wA⟩:ab))::L) X) ?_ ?_
    ·intro wB uA gB
     replace gB:=gB.symm
     subst gB
     refine bs yA fun xA gC yA=>sr<|m_ rfl<|m_ rfl<|f2<|f2<|Under.callX Tryz.call91 rfl rfl (o46 gC _) rfl ?_
     rintro oA
     refine ov (OpV.nilChk rfl ⟨_,rfl⟩) rfl<|oM fM rfl<|f1<|sP (x':=(⟨oA,xA.2.at_,xA.2.stage,xA.2.left,xA.2.header,xA.2.sum,xA.1,xA.2.place⟩:ab)) .box (.fld .id bl) sz30k rfl rfl rdI rfl<|nt<|sq<|sr<|m_ rfl<|ov (OpV.nilChk rfl ⟨_,rfl⟩) rfl<|oM fM rfl<|lP .box (.fld .id bl) kt30k rfl rfl<|rI (t:=88) rfl<|b_ rfl<|nt<|it yA rfl (fun yA=>?_) (fun yA=>?_)
     ·refine f2<|fzO (t:=6) rfl<|sq<|ph rfl<|Under.grpT (L:=L) [0,1,2,3,4,5,6,7,8,9,10] [[0],[0],[91],[92],[93],[0],[95],[96],[97],[98],[94,99]] [⟨sk0 (pb c0),[],[],[]⟩,⟨sk0 (pb c0),[],[],[]⟩,⟨sk0 (pb c0),[],[],[]⟩,⟨sk0 (.raw (.pointer (some ⟨c0,0+1,none⟩))),[],[],[]⟩,⟨sk0 (.raw (.int .i64 xA.2.at_)),[],[],[]⟩,⟨sk0 (pb c0),[],[],[]⟩,⟨sk0 (pb c0),[],[],[]⟩,⟨sk0 (.raw (.pointer (some ⟨c0,0+0,none⟩))),[],[],[]⟩,⟨sk0 (.raw oA),[],[],[]⟩,⟨sk0 (.raw (.int .i64 (xA.2.field.length:Int))),[],[],[]⟩,⟨sk0 (.raw (.int .i64 (IntKind.wrap .i64 (xA.2.at_ - (xA.2.field.length:Int))))),[],[],[]⟩] [] (fun T:List Res=>(.box az c0 132 (⟨oA,xA.2.at_,xA.2.stage,xA.2.left,xA.2.header,xA.2.sum,xA.1,xA.2.place⟩:ab))::(.own K10 oA 5 xA.2.field)::T) lf2 rfl (by kernel_rfl) rfl rfl (fun F hF0 uC=>?_)
      refine Tq.v (fun G T hG=>?_) ?_
      ·exact m_ rfl<|Tq.end undef rfl rfl
      refine Tq.v (fun G T hG=>?_) ?_
      ·exact m_ rfl<|Tq.end undef rfl rfl
      refine Tq.v (fun G T hG=>?_) ?_
      ·exact ov (OpV.nilChk rfl ⟨_,rfl⟩) rfl<|Tq.end undef rfl rfl
      refine Tq.v (fun G T hG=>?_) ?_
      ·exact oM fN rfl<|Tq.end undef rfl rfl
      refine Tq.v (fun G T hG=>?_) ?_
      ·exact lP .box (.fld .id bo) kt3k rfl rfl<|rI (t:=94) rfl<|Tq.end undef rfl rfl
      refine Tq.v (fun G T hG=>?_) ?_
      ·exact m_ rfl<|Tq.end undef rfl rfl
      refine Tq.v (fun G T hG=>?_) ?_
      ·exact ov (OpV.nilChk rfl ⟨_,rfl⟩) rfl<|Tq.end undef rfl rfl
      refine Tq.v (fun G T hG=>?_) ?_
      ·exact oM dS rfl<|Tq.end undef rfl rfl
      refine Tq.v (fun G T hG=>?_) ?_
      ·exact lP .box (.fld .id aH) kt24k rfl rfl<|Under.rawR (t:=98) rfl<|Tq.end undef rfl rfl
      refine Tq.v (fun G T hG=>?_) ?_
      ·exact f1<|ov (OpV.lenO Tryz.underlying24 rfl) rfl<|f1<|Tq.end undef rfl rfl
      refine Tq.v (fun G T hG=>?_) ?_
      ·exact b_ rfl<|Tq.end undef rfl rfl
      refine Tq.nil<|Under.le hF0<|p1 11 rfl rfl<|ov (OpV.nilChk rfl ⟨_,rfl⟩) rfl<|pn<|p1 12 rfl rfl<|oM jJ rfl<|pn<|p1 13 rfl rfl<|sP (x':=(⟨oA,xA.2.at_,xA.2.stage,xA.2.left,xA.2.header,xA.2.sum,xA.1,IntKind.wrap .i64 (xA.2.at_ - (xA.2.field.length:Int))⟩:ab)) .box (.fld .id dj) sz3k rfl rfl rdI rfl<|pn<|pd rfl<|tn<|xt<|te<|bm rfl ?_
      cases aj yA qB
      exact te<|bh<|tn<|f1<|wr (cB _ _ _ _ _ _ _ _ _ _ (osi gA).symm) rfl
     ·refine gs yA fun nA yA=>ct<|rg<|m_ rfl<|m_ rfl<|ov (OpV.nilChk rfl ⟨_,rfl⟩) rfl<|oM dS rfl<|lP .box (.fld .id aH) kt24k rfl rfl<|Under.rawR (t:=107) rfl ?_
      replace nA:(0:Int)≤0∧(0:Int)≤0∧(0:Int)≤(xA.2.field.length:Int):=of_decide_eq_true nA
      exact f1<|Under.slO (l:=0) (h:=0) Tryz.underlying24 sz5k rfl rfl rfl (And.left nA) (And.left (And.right nA)) (And.right (And.right nA)) rfl<|ov (OpV.nilChk rfl ⟨_,rfl⟩) rfl<|oM dS rfl<|Under.ownTrunc (h:=Int.toNat 0) (Nat.zero_le _)<|Under.ownCell fun mC=>f1<|sP (x':=(⟨(subV oA (Int.toNat 0) (Int.toNat 0) 1),xA.2.at_,xA.2.stage,xA.2.left,xA.2.header,xA.2.sum,xA.1,xA.2.place⟩:ab)) .box (.fld .id aH) sz24k rfl rfl (mW mC) rfl<|nl<|bN<|f1<|f2<|Under.next _ (uA,(subV oA (Int.toNat 0) (Int.toNat 0) 1)) yA (s3 rfl rfl rfl) rfl
    ·intro K tB
     refine sr<|m_ rfl<|ov (OpV.nilChk rfl ⟨_,rfl⟩) rfl<|oM df rfl<|lP .box (.fld .id aC) kt3k rfl rfl<|rI (t:=70) rfl<|b_ rfl<|nt<|it hA rfl (fun hA=>?_) (fun hA=>?_)
     ·refine bs hA fun nC pC hA=>rg<|m_ rfl<|m_ rfl<|ov (OpV.nilChk rfl ⟨_,rfl⟩) rfl<|oM dS rfl<|lP .box (.fld .id aH) kt24k rfl rfl<|Under.rawR (t:=76) rfl<|f1<|Under.callX Tryz.call60 rfl rfl (OkX.lend (fun L=>o42 pC L) ⟨.inr ⟨rfl,rfl⟩,trivial⟩ (fun _=>SvF.raw) (fun _ _ _ _ h=>mZ Free.int h)) rfl ?_
      rintro hD
      exact bs hA fun bD tC hA=>f1<|fzO (t:=77) rfl<|bF (ys:=[nC]) Tryz.underlying22 ET24 (BldA.cons rfl rfl rdV (BldA.nil _)) rfl rfl<|f2<|ap tC Tryz.underlying22 AT24 rfl rfl rdV rfl fun vD=>a_ rfl<|nt<|wr (tB _ _ (osi hA).symm) rfl
     ·exact ct<|f1<|f2<|wr (tB _ _ (osi hA).symm) rfl
  ·refine f1<|fzO (t:=6) rfl<|xt<|te ?_
   cases aj yA qB
   exact te<|bh<|tn<|f1<|wr (cB _ _ _ _ _ _ _ _ _ _ (osi gA).symm) rfl
noncomputable def dk (a0:am):Option (Int×Int):=
 bif a0.err != 0 then
  some (a0.place,a0.err)
 else
  bif decide (a0.stage<9) then
   some (a0.at_,67)
  else
   some (0,0)
theorem o48 {a0:am} {c0:Nat} {w0_0:Value} {r0:(Int×Int)} (hF:dk a0=some r0) (L:List Res):Ok Tryz.prog 58 [SV.raw (.pointer (some ⟨c0,0,none⟩))] ((.own K10 w0_0 5 a0.field)::(.box az c0 132 (⟨w0_0,a0.at_,a0.stage,a0.left,a0.header,a0.sum,a0.err,a0.place⟩:ab))::L) (SV.tup [SV.raw (.int .i64 r0.1),SV.raw (.int .i64 r0.2)]) ((.own K10 w0_0 5 a0.field)::(.box az c0 132 (⟨w0_0,a0.at_,a0.stage,a0.left,a0.header,a0.sum,a0.err,a0.place⟩:ab))::L):=by
 unfold dk at hF
 refine okI 31 Tryz.func58 rfl rfl rfl fun F0=>?_
 refine sr<|a_ rfl<|a_ rfl<|nt<|sq<|bk<|sr<|m_ rfl<|ov (OpV.ptrNil Tryz.underlying127 (.inl rfl) rfl) rfl<|a_ rfl<|nt<|Under.condF rfl<|sr<|m_ rfl<|ov (OpV.nilChk rfl ⟨_,rfl⟩) rfl<|oM fM rfl<|f1<|lP .box (.fld .id bl) kt30k rfl rfl<|rI (t:=11) rfl<|b_ rfl<|a_ rfl<|nt<|it hF rfl (fun hF=>?_) (fun hF=>?_)
 ·refine sq<|ph rfl<|Under.grpT (L:=L) [0,1,2,3,4,5,6,7,8] [[0],[13],[14],[15],[0],[17],[18],[19],[16]] [⟨sk0 (pb c0),[],[],[]⟩,⟨sk0 (pb c0),[],[],[]⟩,⟨sk0 (.raw (.pointer (some ⟨c0,0+10,none⟩))),[],[],[]⟩,⟨sk0 (.raw (.int .i64 a0.place)),[],[],[]⟩,⟨sk0 (pb c0),[],[],[]⟩,⟨sk0 (pb c0),[],[],[]⟩,⟨sk0 (.raw (.pointer (some ⟨c0,0+9,none⟩))),[],[],[]⟩,⟨sk0 (.raw (.int .i64 a0.err)),[],[],[]⟩,⟨sk0 (.raw (.int .i64 a0.place)),[],[],[]⟩] [] (fun T:List Res=>(.box az c0 132 (⟨w0_0,a0.at_,a0.stage,a0.left,a0.header,a0.sum,a0.err,a0.place⟩:ab))::(.own K10 w0_0 5 a0.field)::T) lf2 rfl (by kernel_rfl) rfl rfl (fun F hF0 xA=>?_)
  refine Tq.v (fun G T hG=>?_) ?_
  ·exact m_ rfl<|Tq.end undef rfl rfl
  refine Tq.v (fun G T hG=>?_) ?_
  ·exact ov (OpV.nilChk rfl ⟨_,rfl⟩) rfl<|Tq.end undef rfl rfl
  refine Tq.v (fun G T hG=>?_) ?_
  ·exact oM jJ rfl<|Tq.end undef rfl rfl
  refine Tq.v (fun G T hG=>?_) ?_
  ·exact lP .box (.fld .id dj) kt3k rfl rfl<|rI (t:=16) rfl<|Tq.end undef rfl rfl
  refine Tq.v (fun G T hG=>?_) ?_
  ·exact m_ rfl<|Tq.end undef rfl rfl
  refine Tq.v (fun G T hG=>?_) ?_
  ·exact ov (OpV.nilChk rfl ⟨_,rfl⟩) rfl<|Tq.end undef rfl rfl
  refine Tq.v (fun G T hG=>?_) ?_
  ·exact oM fM rfl<|Tq.end undef rfl rfl
  refine Tq.v (fun G T hG=>?_) ?_
  ·exact lP .box (.fld .id bl) kt30k rfl rfl<|rI (t:=20) rfl<|Tq.end undef rfl rfl
  refine Tq.v (fun G T hG=>?_) ?_
  ·exact a_ rfl<|Tq.end undef rfl rfl
  refine Tq.nil<|Under.le hF0<|p1 9 rfl rfl<|a_ rfl<|pn<|pd rfl<|tn<|rc<|Under.bR<|tr<|f1 ?_
  cases osi hF
  exact rs Tryz.results58 (.tm rfl (.tm rfl .nil)) rfl rfl
 ·refine sr<|m_ rfl<|ov (OpV.nilChk rfl ⟨_,rfl⟩) rfl<|oM df rfl<|lP .box (.fld .id aC) kt3k rfl rfl<|rI (t:=25) rfl<|b_ rfl<|a_ rfl<|nt<|it hF rfl (fun hF=>?_) (fun hF=>?_)
  ·refine sr<|m_ rfl<|ov (OpV.nilChk rfl ⟨_,rfl⟩) rfl<|oM fN rfl<|lP .box (.fld .id bo) kt3k rfl rfl<|rI (t:=30) rfl<|a_ rfl<|a_ rfl<|nt<|rc<|Under.bR<|tr<|f1 ?_
   cases osi hF
   exact rs Tryz.results58 (.tm rfl (.tm rfl .nil)) rfl rfl
  ·refine cs<|bN<|tn<|sr<|a_ rfl<|a_ rfl<|nt<|rc<|f1 ?_
   cases osi hF
   exact rs Tryz.results58 (.tm rfl (.tm rfl .nil)) rfl rfl
noncomputable def fg (a0:List Int):Option (aV×Int×Int):=
 (dM).bind fun y2=>
 (db (⟨y2.field,y2.at_,y2.stage,y2.left,y2.header,y2.sum,y2.err,y2.place⟩:am) a0).bind fun y6=>
 bif y6.2.1==0 then
  (dk (⟨y6.2.2.field,y6.2.2.at_,y6.2.2.stage,y6.2.2.left,y6.2.2.header,y6.2.2.sum,y6.2.2.err,y6.2.2.place⟩:am)).bind fun y9=>
  bif y9.2==0 then
   some ((⟨y6.2.2.header,y6.1⟩:aV),0,0)
  else
   some ((⟨(⟨(0:Int),(0:Int),(0:Int)⟩:ao),[]⟩:aV),y9.1,y9.2)
 else
  some ((⟨(⟨(0:Int),(0:Int),(0:Int)⟩:ao),[]⟩:aV),y6.2.2.place,y6.2.1)
theorem o49 {a0:List Int} {r0:(aV×Int×Int)} (hF:fg a0=some r0) (L:List Res):Ok Tryz.prog 30 [SV.val K8 a0] L (SV.tup [SV.val dg r0.1,SV.raw (.int .i64 r0.2.1),SV.raw (.int .i64 r0.2.2)]) L:=by
 unfold fg at hF
 refine okI 40 Tryz.func30 rfl rfl rfl fun F0=>?_
 refine bs hF fun y2 h3 hF=>sr<|al ZT66 rfl fun b1=>a_ rfl<|a_ rfl<|ns<|Under.callX Tryz.call56 rfl rfl (o40 h3 _) rfl ?_
 rintro⟨v4,b5⟩
 refine bs hF fun y6 h7 hF=>a_ rfl<|ns<|m_ rfl<|m_ rfl<|Under.callX Tryz.call57 rfl rfl (o47 h7 _) rfl ?_
 rintro v8
 refine m_ rfl<|oE rfl<|oE rfl<|a_ rfl<|a_ rfl<|nt<|sq<|sr<|mb rfl<|nt<|it hF rfl (fun hF=>?_) (fun hF=>?_)
 ·refine bs hF fun y9 xA hF=>sr<|a_ rfl<|nt<|sq<|sr<|m_ rfl<|cx Tryz.call58 rfl (o48 xA _)<|m_ rfl<|oE rfl<|oE rfl<|a_ rfl<|a_ rfl<|ns<|mb rfl<|nt<|it hF rfl (fun hF=>?_) (fun hF=>?_)
  ·refine sr<|m_ rfl<|ov (OpV.nilChk rfl ⟨_,rfl⟩) rfl<|oM gj rfl<|f1<|lP .box (.fld .id cd) kt35k rfl rfl<|m_ rfl<|ov (OpV.bst BT66 (Bld.cons (x':=(⟨y6.2.2.header,[]⟩:aV)) rfl rfl rdV (by intro q hq;simp only[List.mem_cons,List.not_mem_nil,or_false] at hq;rcases hq with rfl<;>rfl) (Bld.cons (x':=(⟨y6.2.2.header,y6.1⟩:aV)) rfl rfl rdV ⟨rfl,(fun q hq=>by simp at hq)⟩ (Bld.nil _)))) rfl<|f2<|sP (x':=(⟨y6.2.2.header,y6.1⟩:aV)) .box .id sz66k rfl rfl rdV rfl<|a_ rfl<|a_ rfl<|nl<|fz (t:=2) rfl<|dr<|dr<|tn<|rt<|tr ?_
   cases osi hF
   exact rs Tryz.results30 (.ce rfl kt66 (.tm rfl (.tm rfl .nil))) rfl rfl
  ·refine f1<|dr<|dr<|ct<|sr<|ov (OpV.bst BT66 (Bld.nil _)) rfl<|m_ rfl<|m_ rfl<|sP (x':=(⟨(⟨(0:Int),(0:Int),(0:Int)⟩:ao),[]⟩:aV)) .box .id sz66k rfl rfl rdV rfl<|a_ rfl<|a_ rfl<|nl<|fz (t:=2) rfl<|tn<|rt ?_
   cases osi hF
   exact rs Tryz.results30 (.ce rfl kt66 (.tm rfl (.tm rfl .nil))) rfl rfl
 ·refine ct<|sq<|ph rfl<|Under.grpT (L:=L) [0,1,2,3,4,5,6,7] [[],[5],[35],[36],[37],[7],[2,34],[38]] [⟨sk0 (.val dg (⟨(⟨(0:Int),(0:Int),(0:Int)⟩:ao),[]⟩:aV)),[],[],[]⟩,⟨sk0 (pb b5),[],[],[]⟩,⟨sk0 (pb b5),[],[],[]⟩,⟨sk0 (.raw (.pointer (some ⟨b5,0+10,none⟩))),[],[],[]⟩,⟨sk0 (.raw (.int .i64 y6.2.2.place)),[],[],[]⟩,⟨sk0 (.raw (.int .i64 y6.2.1)),[],[],[]⟩,⟨sk0 (.raw undef),[],[],[]⟩,⟨sk0 (.raw (.int .i64 y6.2.2.place)),[],[],[]⟩] [] (fun T:List Res=>(.own K10 v8 5 y6.2.2.field)::(.box az b5 132 (⟨v8,y6.2.2.at_,y6.2.2.stage,y6.2.2.left,y6.2.2.header,y6.2.2.sum,y6.2.2.err,y6.2.2.place⟩:ab))::(.box dg b1 66 (⟨(⟨(0:Int),(0:Int),(0:Int)⟩:ao),[]⟩:aV))::T) lf3 rfl (by kernel_rfl) rfl rfl (fun F hF0 yA=>?_)
  refine Tq.v (fun G T hG=>?_) ?_
  ·exact ov (OpV.bst BT66 (Bld.nil _)) rfl<|Tq.end undef rfl rfl
  refine Tq.v (fun G T hG=>?_) ?_
  ·exact m_ rfl<|Tq.end undef rfl rfl
  refine Tq.v (fun G T hG=>?_) ?_
  ·exact ov (OpV.nilChk rfl ⟨_,rfl⟩) rfl<|Tq.end undef rfl rfl
  refine Tq.v (fun G T hG=>?_) ?_
  ·exact oM jJ rfl<|Tq.end undef rfl rfl
  refine Tq.v (fun G T hG=>?_) ?_
  ·exact f1<|lP .box (.fld .id dj) kt3k rfl rfl<|rI (t:=38) rfl<|f2<|f1<|f2<|Tq.end undef rfl rfl
  refine Tq.v (fun G T hG=>?_) ?_
  ·exact m_ rfl<|Tq.end undef rfl rfl
  refine Tq.st0 [] rfl (fun G T hG=>?_) ?_
  ·exact f2<|sP (x':=(⟨(⟨(0:Int),(0:Int),(0:Int)⟩:ao),[]⟩:aV)) .box .id sz66k rfl rfl rdV rfl<|f2<|f2<|Tq.end0 undef rfl
  refine Tq.v (fun G T hG=>?_) ?_
  ·exact a_ rfl<|Tq.end undef rfl rfl
  refine Tq.nil<|Under.le hF0<|p1 8 rfl rfl<|a_ rfl<|pn<|pd rfl<|f1<|dr<|f1<|fz (t:=2) rfl<|dr<|tn<|rc ?_
  cases osi hF
  exact rs Tryz.results30 (.ce rfl kt66 (.tm rfl (.tm rfl .nil))) rfl rfl
noncomputable def eO (a0:List Int):Option Bool:=
 (((Loop.run (S := Int) (R := (Unit ⊕ Bool)) (fun xA =>
   bif decide (xA<(a0.length:Int)) then
    (idx a0 xA).bind fun yA=>
    bif yA != 0 then
     some (.done (.inr false))
    else
     some (.next (IntKind.wrap .i64 (xA+1)))
   else
    some (.done (.inl ()))) 0).bind fun zA=>match zA with
  | .inl _=>
   some (.inr ())
  | .inr z=>
   some (.inl z)
  : Option (Bool ⊕ Unit))).bind fun hA => match hA with
  | .inl z=>
   some z
  | .inr _=>
   some true
theorem o50 {a0:List Int} {r0:Bool} (hF:eO a0=some r0) (L:List Res):Ok Tryz.prog 59 [SV.val K8 a0] L (SV.raw (.bool r0)) L:=by
 unfold eO at hF
 refine okI 14 Tryz.func59 rfl rfl rfl fun F0=>?_
 refine bs hF fun oA yA hF=>sr<|a_ rfl<|nt<|sq<|Under.after (fun X=>∀(_:Unit),oA=(.inr ())→Under F0 14 [] (L) X) ?_ ?_
 ·intro _ zA
  replace zA:=zA.symm
  subst zA
  refine sr<|a_ rfl<|nt<|rc ?_
  cases osi hF
  exact rs Tryz.results59 (.tm rfl .nil) rfl rfl
 ·intro K kA
  refine bs yA fun cA dA yA=>sr<|m_ rfl<|oN Tryz.underlying24 rfl<|m_ rfl<|nt<|bk<|lp dA () (fun hA bA=>[(5,.val K8 a0),(6,.raw (.int .i64 (a0.length:Int))),(7,.raw (.int .i64 hA))]) (fun hA bA=>L) rfl rfl fun hA bA qA xA vA=>?_
  refine sr<|b_ rfl<|nt<|sq<|it xA rfl (fun xA=>?_) (fun xA=>?_)
  ·refine bs xA fun rA eA xA=>ct<|sq<|bk<|sr<|oS eA Tryz.underlying24 sz5 rfl<|oI kt5 rfl<|a_ rfl<|ns<|mb rfl<|nt<|it xA rfl (fun xA=>?_) (fun xA=>?_)
   ·refine sr<|a_ rfl<|nt<|rc<|Under.bR<|tr ?_
    cases aj xA vA
    refine tr<|Under.bR<|tr ?_
    cases osi yA
    cases osi hF
    exact rs Tryz.results59 (.tm rfl .nil) rfl rfl
   ·exact cs<|bN<|tn<|rg<|b_ rfl<|m_ rfl<|nl<|nx () xA rfl rfl
  ·refine xt<|te ?_
   cases aj xA vA
   exact te<|bh<|tn<|wr (kA () (osi yA).symm) rfl
noncomputable def fy (a0:List Int):Option ((List Int)×Bool×Int):=
 bif (a0.length:Int) != 320 then
  some ([],false,50)
 else
  (idx a0 0).bind fun x2=>
  bif x2==0 then
   some ([],false,0)
  else
   bif x2==1 then
    (idx a0 1).bind fun x5=>
    bif decide ((IntKind.wrap .i64 x5)>48) then
     some ([],false,53)
    else
     (sub a0 (IntKind.wrap .i64 (2+(IntKind.wrap .i64 x5))) (a0.length:Int)).bind fun x8=>
     (eO x8).bind fun xA=>
     bif !xA then
      some ([],false,51)
     else
      (sub a0 2 (IntKind.wrap .i64 (2+(IntKind.wrap .i64 x5)))).bind fun yA=>
      (app [] yA).bind fun zA=>
      some (zA,true,0)
   else
    some ([],false,52)
theorem o51 {a0:List Int} {r0:((List Int)×Bool×Int)} (hF:fy a0=some r0) (L:List Res):Ok Tryz.prog 31 [SV.val K8 a0] L (SV.tup [SV.val K8 r0.1,SV.raw (.bool r0.2.1),SV.raw (.int .i64 r0.2.2)]) L:=by
 unfold fy at hF
 refine okI 33 Tryz.func31 rfl rfl rfl fun F0=>?_
 refine sr<|a_ rfl<|a_ rfl<|a_ rfl<|nt<|sq<|sr<|m_ rfl<|oN Tryz.underlying24 rfl<|b_ rfl<|nt<|it hF rfl (fun hF=>?_) (fun hF=>?_)
 ·refine sr<|a_ rfl<|a_ rfl<|a_ rfl<|nt<|rt<|tV (K:=kSl K10) (x:=[]) (t:=2) rfl rdN ?_
  cases osi hF
  exact rs Tryz.results31 (.tm rfl (.tm rfl (.tm rfl .nil))) rfl rfl
 ·refine bs hF fun x2 h3 hF=>ct<|sq<|sr<|m_ rfl<|oS h3 Tryz.underlying24 sz5 rfl<|oI kt5 rfl<|nt<|bk<|sr<|b_ rfl<|a_ rfl<|nt<|it hF rfl (fun hF=>?_) (fun hF=>?_)
  ·refine sr<|a_ rfl<|a_ rfl<|a_ rfl<|nt<|rc<|Under.bR<|tr<|tV (K:=kSl K10) (x:=[]) (t:=2) rfl rdN ?_
   cases osi hF
   exact rs Tryz.results31 (.tm rfl (.tm rfl (.tm rfl .nil))) rfl rfl
  ·refine sr<|b_ rfl<|a_ rfl<|nt<|it hF rfl (fun hF=>?_) (fun hF=>?_)
   ·refine bs hF fun x5 h6 hF=>cs<|bN<|tn<|sr<|m_ rfl<|oS h6 Tryz.underlying24 sz5 rfl<|oI kt5 rfl<|oC (by kernel_rfl) Tryz.underlying3 rfl<|a_ rfl<|nt<|sq<|sr<|mb rfl<|nt<|it hF rfl (fun hF=>?_) (fun hF=>?_)
    ·refine sr<|a_ rfl<|a_ rfl<|a_ rfl<|nt<|rt<|tV (K:=kSl K10) (x:=[]) (t:=2) rfl rdN ?_
     cases osi hF
     exact rs Tryz.results31 (.tm rfl (.tm rfl (.tm rfl .nil))) rfl rfl
    ·refine bs hF fun x8 h9 hF=>bs hF fun hA xA hF=>ct<|sq<|sr<|m_ rfl<|mb rfl<|ov (OpV.slL h9 Tryz.underlying24 sz5 rfl rdV rfl) rfl<|cx Tryz.call59 rfl (o50 xA _)<|ov (OpV.not rfl) rfl<|nt<|it hF rfl (fun hF=>?_) (fun hF=>?_)
     ·refine sr<|a_ rfl<|a_ rfl<|a_ rfl<|nt<|rt<|tV (K:=kSl K10) (x:=[]) (t:=2) rfl rdN ?_
      cases osi hF
      exact rs Tryz.results31 (.tm rfl (.tm rfl (.tm rfl .nil))) rfl rfl
     ·refine bs hF fun bA yA hF=>bs hF fun vA zA hF=>ct<|sr<|m_ rfl<|mb rfl<|ov (OpV.slLH yA Tryz.underlying24 sz5 rfl rdV rfl rfl) rfl<|Under.ownNil (K:=kInt .u8) (e:=5)<|ap zA Tryz.underlying24 AT5 rfl rfl rdV rfl fun oA=>a_ rfl<|a_ rfl<|a_ rfl<|nl<|fzO (t:=2) rfl<|tn<|rc ?_
      cases osi hF
      exact rs Tryz.results31 (.tm rfl (.tm rfl (.tm rfl .nil))) rfl rfl
   ·refine sr<|a_ rfl<|a_ rfl<|a_ rfl<|nt<|rc<|Under.bR<|tr<|tV (K:=kSl K10) (x:=[]) (t:=2) rfl rdN ?_
    cases osi hF
    exact rs Tryz.results31 (.tm rfl (.tm rfl (.tm rfl .nil))) rfl rfl
noncomputable def dm (a0:List Int):Option ((List (List Int))×Int):=
 (fg a0).bind fun y1=>
 bif y1.2.2 != 0 then
  some ([],y1.2.2)
 else
  bif y1.1.Header.Left != 0 then
   some ([],212)
  else
   (((Loop.run (S := ((List (List Int)) × Int)) (R := ((List (List Int)) ⊕ ((List (List Int)) × Int))) (fun (yA, zA) =>
     bif decide (zA<(y1.1.Cells.length:Int)) then
      (((idx y1.1.Cells zA).bind fun hA=>
      (fy hA).bind fun xA=>
      bif xA.2.2 != 0 then
       some (.inl ([],xA.2.2))
      else
       bif xA.2.1 then
        (app yA [xA.1]).bind fun bA=>
        some (.inr bA)
       else
        some (.inr yA)
       : Option (((List (List Int)) × Int) ⊕ (List (List Int))))).bind fun vA => match vA with
       | .inl z=>
        some (.done (.inr z))
       | .inr oA=>
        some (.next (oA,IntKind.wrap .i64 (zA+1)))
     else
      some (.done (.inl yA))) ([],0)).bind fun kA=>match kA with
    | .inl dA=>
     some (.inr dA)
    | .inr z=>
     some (.inl z)
    : Option (((List (List Int)) × Int) ⊕ (List (List Int))))).bind fun eA => match eA with
    | .inl z=>
     some z
    | .inr x114=>
     some (x114,0)
theorem o52 {a0:List Int} {r0:((List (List Int))×Int)} (hF:dm a0=some r0) (L:List Res):Ok Tryz.prog 13 [SV.val K8 a0] L (SV.tup [SV.val K1 r0.1,SV.raw (.int .i64 r0.2)]) L:=by
 unfold dm at hF
 refine okI 49 Tryz.func13 rfl rfl rfl fun F0=>?_
 refine bs hF fun y1 h2 hF=>sr<|a_ rfl<|a_ rfl<|ns<|m_ rfl<|cx Tryz.call30 rfl (o49 h2 _)<|m_ rfl<|oE rfl<|oE rfl<|oE rfl<|al ZT66 rfl fun b3=>sP (x':=y1.1) .box .id sz66k rfl rfl rdV rfl<|a_ rfl<|a_ rfl<|nl<|fz (t:=4) rfl<|tn<|sq<|sr<|mb rfl<|nt<|it hF rfl (fun hF=>?_) (fun hF=>?_)
 ·refine sr<|m_ rfl<|a_ rfl<|a_ rfl<|nt<|rt<|tV (K:=kSl K8) (x:=[]) (t:=2) rfl rdN ?_
  cases osi hF
  exact rs Tryz.results13 (.tm rfl (.tm rfl .nil)) rfl rfl
 ·refine ct<|sq<|sr<|oF fb66k rfl<|oF fb35k rfl<|oI kt3 rfl<|b_ rfl<|nt<|it hF rfl (fun hF=>?_) (fun hF=>?_)
  ·refine sr<|a_ rfl<|a_ rfl<|nt<|rt<|tV (K:=kSl K8) (x:=[]) (t:=2) rfl rdN ?_
   cases osi hF
   exact rs Tryz.results13 (.tm rfl (.tm rfl .nil)) rfl rfl
  ·refine bs hF fun rA hA hF=>ct<|sr<|a_ rfl<|nt<|sq<|Under.after (fun X=>∀(oA:List (List Int)),rA=(.inr oA)→Under F0 49 [(7,.val K1 oA)] (L) X) ?_ ?_
   ·intro oA kA
    replace kA:=kA.symm
    subst kA
    refine sr<|m_ rfl<|a_ rfl<|a_ rfl<|nt<|rc ?_
    cases osi hF
    exact rs Tryz.results13 (.tm rfl (.tm rfl .nil)) rfl rfl
   ·intro K wA
    refine bs hA fun yB gA hA=>sr<|oF fb66k1 rfl<|oL kt22 rfl<|oN Tryz.underlying22 rfl<|m_ rfl<|nt<|bk<|Under.ownNil (K:=kSl K10) (e:=24)<|lp gA (C:=Value) (.slice none 0 0) (fun zA bA=>[(7,.raw bA),(27,.val K1 y1.1.Cells),(28,.raw (.int .i64 (y1.1.Cells.length:Int))),(29,.raw (.int .i64 zA.2))]) (fun zA bA=>(.own K8 bA 24 zA.1)::L) rfl rfl fun zA bA zB yA cA=>?_
    obtain⟨hB,mA⟩:=zA
    dsimp only at yA⊢
    refine sr<|b_ rfl<|nt<|sq<|it yA rfl (fun yA=>?_) (fun yA=>?_)
    ·refine bs yA fun nA xA yA=>ct<|sq<|Under.after (fun X=>∀(dA:List (List Int)) (vA:Value),nA=(.inr dA)→Under F0 49 [(7,.raw vA),(27,.val K1 y1.1.Cells),(28,.raw (.int .i64 (y1.1.Cells.length:Int))),(29,.raw (.int .i64 mA))] ((.own K8 vA 24 dA)::L) X) ?_ ?_
     ·intro dA vA eA
      replace eA:=eA.symm
      subst eA
      exact rg<|b_ rfl<|m_ rfl<|nl<|nx vA yA rfl rfl
     ·intro K qA
      refine bs xA fun bB pA xA=>bs xA fun tA uA xA=>bk<|sr<|oS pA Tryz.underlying22 sz24 rfl<|oL kt24 rfl<|a_ rfl<|ns<|m_ rfl<|cx Tryz.call31 rfl (o51 uA _)<|m_ rfl<|oE rfl<|oE rfl<|oE rfl<|a_ rfl<|a_ rfl<|a_ rfl<|nt<|sq<|sr<|mb rfl<|nt<|it xA rfl (fun xA=>?_) (fun xA=>?_)
      ·refine dr<|sr<|m_ rfl<|a_ rfl<|a_ rfl<|nt<|rt<|Under.bR<|tr ?_
       cases osi xA
       cases aj yA cA
       refine tr<|Under.bR<|tr ?_
       cases osi hA
       refine tV (K:=kSl K8) (x:=[]) (t:=2) rfl rdN ?_
       cases osi hF
       exact rs Tryz.results13 (.tm rfl (.tm rfl .nil)) rfl rfl
      ·refine ct<|sr<|m_ rfl<|nt<|it xA rfl (fun xA=>?_) (fun xA=>?_)
       ·exact bs xA fun vB xB xA=>rg<|m_ rfl<|m_ rfl<|bF (ys:=[tA.1]) Tryz.underlying22 ET24 (BldA.cons rfl rfl rdV (BldA.nil _)) rfl rfl<|ap xB Tryz.underlying22 AT24 rfl rfl rdV rfl fun oB=>a_ rfl<|nl<|bN<|tn<|wr (qA _ _ (osi xA).symm) rfl
       ·exact cs<|bN<|tn<|wr (qA _ _ (osi xA).symm) rfl
    ·refine fzO (t:=7) rfl<|xt<|te ?_
     cases aj yA cA
     exact te<|bh<|tn<|wr (wA _ (osi hA).symm) rfl
noncomputable def bz (a0:Int) (a1:List Int) (a2:List (List Int)) (a3:List Int):Option (List ck):=
 some []
theorem o53 {a0:Int} {a1:List Int} {a2:List (List Int)} {a3:List Int} {r0:(List ck)} (hF:bz a0 a1 a2 a3=some r0) (L:List Res):Ok Tryz.prog 21 [SV.raw (.pointer none),SV.raw (.int .i64 a0),SV.val K8 a1,SV.val K1 a2,SV.val (kSl (kInt .i64)) a3] L (SV.val (kSl ge) r0) L:=by
 unfold bz at hF
 refine okI 53 Tryz.func21 rfl rfl rfl fun F0=>?_
 refine sr<|a_ rfl<|nt<|sq<|sr<|m_ rfl<|ov (OpV.ptrNil Tryz.underlying55 (.inl rfl) rfl) rfl<|nt<|Under.condT rfl<|sr<|a_ rfl<|nt<|rt<|tV (K:=kSl ge) (x:=[]) (t:=10) rfl rdN ?_
 cases osi hF
 exact rs Tryz.results21 (.tm rfl .nil) rfl rfl
noncomputable def ci:Option Bool:=
 (dt []).bind fun y1=>
 (bc [] 0 [] []).bind fun y3=>
 (dm []).bind fun y5=>
 ((bif ((y1.2==80)&&(y3.2 != 0))&&(y5.2 != 0) then
  (bz 0 [] [] []).bind fun xA=>
  some ((xA.length:Int)==0)
 else
  some false
  :Option Bool)).bind fun yA=>
 some yA
theorem o54 {r0:Bool} (hF:ci=some r0) (L:List Res):Ok Tryz.prog 7 [] L (SV.raw (.bool r0)) L:=by
 unfold ci at hF
 refine okI 39 Tryz.func7 rfl rfl rfl fun F0=>?_
 refine bs hF fun y1 h2 hF=>bs hF fun y3 h4 hF=>bs hF fun y5 h6 hF=>sr<|a_ rfl<|ns<|cx Tryz.call20 rfl (Ok.cv (.rd rdN .nil) (o0 h2 _))<|m_ rfl<|oE rfl<|oE rfl<|a_ rfl<|a_ rfl<|ns<|ca Tryz.call9 rfl rfl (Ok.cv (.rd rdN (.sm (.rd rdN (.rd rdN .nil)))) (o39 h4 _)) rfl<|m_ rfl<|oE rfl<|oE rfl<|a_ rfl<|a_ rfl<|ns<|cx Tryz.call13 rfl (Ok.cv (.rd rdN .nil) (o52 h6 _))<|m_ rfl<|oE rfl<|oE rfl<|a_ rfl<|a_ rfl<|ns<|m_ rfl<|ov (OpV.ptrNil Tryz.underlying55 (.inl rfl) rfl) rfl<|m_ rfl<|gc (rfl:(true:Bool)=true) rfl rfl<|m_ rfl<|gc (rfl:(true:Bool)=true) rfl rfl<|b_ rfl<|ov (pkT (rfl:(true:Bool)=true) rfl rfl) rfl<|m_ rfl<|fe 28 ((y1.2==80)&&(y3.2 != 0)) ?_ (fun k=>?_)
 ·refine m_ rfl<|fe 32 (((y1.2==80)&&(y3.2 != 0))&&(y5.2 != 0)) ?_ (fun k=>?_)
  ·refine bs hF fun bA hA hF=>m_ rfl<|l9 38 bA ?_ (fun k=>?_)
   ·refine a_ rfl<|nt<|rc ?_
    cases osi hF
    exact rs Tryz.results7 (.tm rfl .nil) rfl rfl
   ·refine by_ (t:=33) rfl (fun xA=>?_) (fun xA=>?_)
    ·replace hA:=ctrue xA hA
     exact bs hA fun oA vA hA=>gc_ xA rfl<|m_ rfl<|gc_ xA rfl<|ca Tryz.call21 rfl rfl (Ok.cv (.sm (.sm (.rd rdN (.rd rdN (.rd rdN .nil))))) (o53 vA _)) rfl<|gc_ xA rfl<|oN Tryz.underlying58 rfl<|gc_ xA rfl<|b_ rfl<|pT xA rfl<|rf 4 (rbq hA) rfl k
    ·replace hA:=cfalse xA hA
     exact sk_ xA rfl<|sk_ xA rfl<|sk_ xA rfl<|sk_ xA rfl<|pF xA rfl<|rf 4 (rbq hA) rfl k
  ·refine by_ (t:=29) rfl (fun yA=>?_) (fun yA=>?_)
   ·exact gc_ yA rfl<|m_ rfl<|gc_ yA rfl<|b_ rfl<|pT yA rfl<|rf 2 (mN yA) rfl k
   ·exact sk_ yA rfl<|sk_ yA rfl<|pF yA rfl<|rf 2 (mO (e:=y5.2 != 0) yA) rfl k
 ·refine by_ (t:=25) rfl (fun zA=>?_) (fun zA=>?_)
  ·exact gc_ zA rfl<|m_ rfl<|gc_ zA rfl<|b_ rfl<|pT zA rfl<|rf 2 (mN zA) rfl k
  ·exact sk_ zA rfl<|sk_ zA rfl<|pF zA rfl<|rf 2 (mO (e:=y3.2 != 0) zA) rfl k
noncomputable def cy:Option (List Int):=
 some [1116352408,1899447441,3049323471,3921009573,961987163,1508970993,2453635748,2870763221,3624381080,310598401,607225278,1426881987,1925078388,2162078206,2614888103,3248222580,3835390401,4022224774,264347078,604807628,770255983,1249150122,1555081692,1996064986,2554220882,2821834349,2952996808,3210313671,3336571891,3584528711,113926993,338241895,666307205,773529912,1294757372,1396182291,1695183700,1986661051,2177026350,2456956037,2730485921,2820302411,3259730800,3345764771,3516065817,3600352804,4094571909,275423344,430227734,506948616,659060556,883997877,958139571,1322822218,1537002063,1747873779,1955562222,2024104815,2227730452,2361852424,2428436474,2756734187,3204031479,3329325298]
theorem o55 {r0:(List Int)} (hF:cy=some r0) (L:List Res):Ok Tryz.prog 179 [] L (SV.val K2 r0) L:=by
 unfold cy at hF
 refine okI 2 Tryz.func179 rfl rfl rfl fun F0=>?_
 refine sr<|al ZT295 rfl fun b1=>ns<|ov (OpV.bar (ys:=[1116352408,1899447441,3049323471,3921009573,961987163,1508970993,2453635748,2870763221,3624381080,310598401,607225278,1426881987,1925078388,2162078206,2614888103,3248222580,3835390401,4022224774,264347078,604807628,770255983,1249150122,1555081692,1996064986,2554220882,2821834349,2952996808,3210313671,3336571891,3584528711,113926993,338241895,666307205,773529912,1294757372,1396182291,1695183700,1986661051,2177026350,2456956037,2730485921,2820302411,3259730800,3345764771,3516065817,3600352804,4094571909,275423344,430227734,506948616,659060556,883997877,958139571,1322822218,1537002063,1747873779,1955562222,2024104815,2227730452,2361852424,2428436474,2756734187,3204031479,3329325298]) BTA295 (BldA.cons rfl rfl rdI (BldA.cons rfl rfl rdI (BldA.cons rfl rfl rdI (BldA.cons rfl rfl rdI (BldA.cons rfl rfl rdI (BldA.cons rfl rfl rdI (BldA.cons rfl rfl rdI (BldA.cons rfl rfl rdI (BldA.cons rfl rfl rdI (BldA.cons rfl rfl rdI (BldA.cons rfl rfl rdI (BldA.cons rfl rfl rdI (BldA.cons rfl rfl rdI (BldA.cons rfl rfl rdI (BldA.cons rfl rfl rdI (BldA.cons rfl rfl rdI (BldA.cons rfl rfl rdI (BldA.cons rfl rfl rdI (BldA.cons rfl rfl rdI (BldA.cons rfl rfl rdI (BldA.cons rfl rfl rdI (BldA.cons rfl rfl rdI (BldA.cons rfl rfl rdI (BldA.cons rfl rfl rdI (BldA.cons rfl rfl rdI (BldA.cons rfl rfl rdI (BldA.cons rfl rfl rdI (BldA.cons rfl rfl rdI (BldA.cons rfl rfl rdI (BldA.cons rfl rfl rdI (BldA.cons rfl rfl rdI (BldA.cons rfl rfl rdI (BldA.cons rfl rfl rdI (BldA.cons rfl rfl rdI (BldA.cons rfl rfl rdI (BldA.cons rfl rfl rdI (BldA.cons rfl rfl rdI (BldA.cons rfl rfl rdI (BldA.cons rfl rfl rdI (BldA.cons rfl rfl rdI (BldA.cons rfl rfl rdI (BldA.cons rfl rfl rdI (BldA.cons rfl rfl rdI (BldA.cons rfl rfl rdI (BldA.cons rfl rfl rdI (BldA.cons rfl rfl rdI (BldA.cons rfl rfl rdI (BldA.cons rfl rfl rdI (BldA.cons rfl rfl rdI (BldA.cons rfl rfl rdI (BldA.cons rfl rfl rdI (BldA.cons rfl rfl rdI (BldA.cons rfl rfl rdI (BldA.cons rfl rfl rdI (BldA.cons rfl rfl rdI (BldA.cons rfl rfl rdI (BldA.cons rfl rfl rdI (BldA.cons rfl rfl rdI (BldA.cons rfl rfl rdI (BldA.cons rfl rfl rdI (BldA.cons rfl rfl rdI (BldA.cons rfl rfl rdI (BldA.cons rfl rfl rdI (BldA.cons rfl rfl rdI (BldA.nil _)))))))))))))))))))))))))))))))))))))))))))))))))))))))))))))))))) rfl<|sP (x':=[1116352408,1899447441,3049323471,3921009573,961987163,1508970993,2453635748,2870763221,3624381080,310598401,607225278,1426881987,1925078388,2162078206,2614888103,3248222580,3835390401,4022224774,264347078,604807628,770255983,1249150122,1555081692,1996064986,2554220882,2821834349,2952996808,3210313671,3336571891,3584528711,113926993,338241895,666307205,773529912,1294757372,1396182291,1695183700,1986661051,2177026350,2456956037,2730485921,2820302411,3259730800,3345764771,3516065817,3600352804,4094571909,275423344,430227734,506948616,659060556,883997877,958139571,1322822218,1537002063,1747873779,1955562222,2024104815,2227730452,2361852424,2428436474,2756734187,3204031479,3329325298]) .box .id sz295k rfl rfl rdV rfl<|nl<|fz (t:=0) rfl<|tn<|rc ?_
 cases osi hF
 exact rs Tryz.results179 (.ce rfl kt295 .nil) rfl rfl
end Go.Proofs.YtdkfkpbijdimkaaGreatDoor

import Derived.Test.YtobbmodjdkcdcaaGreatDoorBr4
set_option linter.unusedVariables false
set_option linter.unusedSimpArgs false
set_option maxRecDepth 20000
namespace Go.Proofs.YtobbmodjdkcdcaaGreatDoor
open Go Go.Sim Go.ChangeShapes Go.WideShapes Go.ChangeAt Go.RowKit
set_option linter.unusedSectionVars false
variable [Fu]
noncomputable def kh (a0:aB) (a1:aL) (a2:List Int) (a3:List Int):Option (aO×aK):=
 (mL a0 a1 a2 a3).bind fun y3=>
 bif y3.Err != 0 then
  some (y3,(⟨(⟨(0:Int),(0:Int),(0:Int)⟩:ab),(0:Int),[],[]⟩:aK))
 else
  (eO a2).bind fun y7=>
  (jk a1.Window y7.1.Header.Epoch a0.Span).bind fun pA=>
  (lj a0 pA.1 y7.1).bind fun vA=>
  (iO a3 (IntKind.wrap .i64 ((vA.length:Int)+y3.Report.Noise)) a0.Chunks).bind fun nA=>
  bif mkB (y7.1.Cells.length:Int) (y7.1.Cells.length:Int) then
  (((Loop.run (S:=(Int×(List (List Int)))) (R:=(List (List Int))) (fun(xA,yA)=>
    bif decide (xA<(vA.length:Int)) then
     (idx vA xA).bind fun zA=>
     (idx yA zA).bind fun kA=>
     (idx y7.1.Cells zA).bind fun dA=>
     bif decide ((Int.toNat 0)≤(Int.toNat 16)∧(Int.toNat 16)≤16) then
     some (.next (IntKind.wrap .i64 (xA+1),List.set yA (Int.toNat zA) (over kA (Int.toNat 0) (Int.toNat 16) dA)))
     else none
    else
     some (.done yA)) (0,List.replicate (Int.toNat (y7.1.Cells.length:Int)) (List.replicate 16 (0:Int)))).bind fun eA=>
  some eA
   :Option (List (List Int)))).bind fun tA=>
  (((Loop.run (S:=(Int×(List Int))) (R:=aK) (fun(hA,bA)=>
    bif decide (hA<(nA.1.length:Int)) then
     (((idx nA.1 hA).bind fun oA=>
     bif decide (oA<(vA.length:Int)) then
      (idx vA oA).bind fun cA=>
      (app bA [cA]).bind fun qA=>
      some qA
     else
      (app bA [(-1)]).bind fun rA=>
      some rA
      :Option (List Int))).bind fun wA=>
     some (.next (IntKind.wrap .i64 (hA+1),wA))
    else
     some (.done (⟨({y7.1.Header with Left:=IntKind.wrap .i64 (a0.Left - 1)}:ab),(y7.1.Cells.length:Int),bA,tA⟩:aK))) (0,[])).bind fun gA=>
  some gA
   :Option aK)).bind fun mA=>
  some (y3,mA)
  else none
theorem o103 {a0:aB} {a1:aL} {a2 a3:List Int} {r0:(aO×aK)} (hF:kh a0 a1 a2 a3=some r0) (L:List Res):Ok Tryz.prog 42 [SV.val aJ a0,SV.val bT a1,SV.val K9 a2,SV.val K9 a3] L (SV.tup [SV.val aT r0.1,SV.val aI r0.2]) L:=by
 unfold kh at hF
 refine okI 128 Tryz.func42 rfl rfl rfl fun F0=>?_
 refine bs hF fun y3 h4 hF=>sr<|bX (K:=aJ) rfl rdV rfl<|bX (K:=bT) rfl rdV rfl<|al ZT37 rfl fun b1=>al ZT87 rfl fun b2=>ns<|oL kt24 rfl<|oL kt29 rfl<|m_ rfl<|m_ rfl<|cx Tryz.call18 rfl (o101 h4 _)<|al ZT37 rfl fun b5=>sP (x':=y3) .box .id sz37k rfl rfl rdV rfl<|nl<|fz (t:=10) rfl<|tn<|sq<|sr<|oF fb37k rfl<|oI kt35 rfl<|b_ rfl<|nt<|it hF rfl (fun hF=>?_) (fun hF=>?_)
 ·refine sr<|oL kt37 rfl<|ov (OpV.bst BT87 (Bld.nil _)) rfl<|f1<|sP (x':=y3) .box .id sz37k rfl rfl rdV rfl<|f1<|sP (x':=(⟨(⟨(0:Int),(0:Int),(0:Int)⟩:ab),(0:Int),[],[]⟩:aK)) .box .id sz87k rfl rfl rdV rfl<|nl<|fz (t:=9) rfl<|fz (t:=8) rfl<|tn<|rt ?_
  cases osi hF
  exact rs Tryz.results42 (.ce rfl kt37 (.ce rfl kt87 .nil)) rfl rfl
 ·refine bs hF fun y7 h8 hF=>bs hF fun vC oC hF=>bs hF fun mA kC hF=>bs hF fun nA dC hF=>gs hF fun eC hF=>ct<|sr<|m_ rfl<|cx Tryz.call20 rfl (o20 h8 _)<|m_ rfl<|oE rfl<|oE rfl<|oE rfl<|al ZT46 rfl fun b9=>sP (x':=y7.1) .box .id sz46k rfl rfl rdV rfl<|a_ rfl<|a_ rfl<|nl<|fz (t:=11) rfl<|tn<|sr<|oF fb29k1 rfl<|oL kt27 rfl<|oF fb46k rfl<|oF fb43k2 rfl<|oI kt2 rfl<|oF fb24k2 rfl<|oI kt3 rfl<|cx Tryz.call25 rfl (o23 oC _)<|m_ rfl<|oE rfl<|oE rfl<|al ZT27 rfl fun zD=>sP (x':=vC.1) .box .id sz27k rfl rfl rdV rfl<|a_ rfl<|nl<|fz (t:=14) rfl<|tn<|sr<|oL kt24 rfl<|oL kt27 rfl<|oL kt46 rfl<|cx Tryz.call92 rfl (o102 kC _)<|a_ rfl<|ns<|m_ rfl<|m_ rfl<|oN Tryz.underlying68 rfl<|oF fb37k1 rfl<|oF fb34k rfl<|oI kt3 rfl<|b_ rfl<|oF fb24k7 rfl<|oI kt3 rfl<|cx Tryz.call29 rfl (o90 dC _)<|m_ rfl<|oE rfl<|oE rfl<|a_ rfl<|a_ rfl<|nt<|sq<|ph rfl<|Under.grpT (L:=L) [0,1,2,3,4,5,6,7,8,9,10] [[11],[68],[11],[70],[71],[11],[73],[74],[75],[69,72,76],[]] [⟨sk0 (.ptr bu y7.1.Header),[],[],[]⟩,⟨sk0 (.val bu y7.1.Header),[],[],[]⟩,⟨sk0 (.ptr K1 y7.1.Cells),[],[],[]⟩,⟨sk0 (.val K1 y7.1.Cells),[],[],[]⟩,⟨sk0 (.raw (.int .i64 (y7.1.Cells.length:Int))),[],[],[]⟩,⟨sk0 (.ptr K1 y7.1.Cells),[],[],[]⟩,⟨sk0 (.val K1 y7.1.Cells),[],[],[]⟩,⟨sk0 (.raw (.int .i64 (y7.1.Cells.length:Int))),[],[],[]⟩,⟨sk1 8 (fun u8=> .raw u8),[],[(0,tk1 8 (fun u8=> .own K4 u8 64 (List.replicate (Int.toNat (y7.1.Cells.length:Int)) (List.replicate 16 (0:Int)))))],[]⟩,⟨sk1 8 (fun u8=> .val cw (⟨y7.1.Header,(y7.1.Cells.length:Int),.slice none 0 0,u8⟩:aP)),[],[],[0]⟩,⟨sk1 10 (fun xB=> .raw (.pointer (some ⟨(vblk xB),0,none⟩))),[],[(1,tk1 10 (fun xB=> .box cw (vblk xB) 87 (⟨(⟨(0:Int),(0:Int),(0:Int)⟩:ab),(0:Int),.slice none 0 0,.slice none 0 0⟩:aP)))],[]⟩] [] (fun T:List Res=>(.box aI b2 87 (⟨(⟨(0:Int),(0:Int),(0:Int)⟩:ab),(0:Int),[],[]⟩:aK))::(.box aT b1 37 (⟨[],(⟨(0:Int),(⟨(0:Int),[]⟩:ah)⟩:aL),(⟨(0:Int),(0:Int),(0:Int),(0:Int),(0:Int)⟩:av),(0:Int),(0:Int)⟩:aO))::T) lf2 rfl (by kernel_rfl) rfl rfl (fun F hF0 xA=>?_)
  refine Tq.v (fun G T hG=>?_) ?_
  ·exact oF fb46k rfl<|Tq.end undef rfl rfl
  refine Tq.v (fun G T hG=>?_) ?_
  ·exact oL kt43 rfl<|Tq.end undef rfl rfl
  refine Tq.v (fun G T hG=>?_) ?_
  ·exact oF fb46k1 rfl<|Tq.end undef rfl rfl
  refine Tq.v (fun G T hG=>?_) ?_
  ·exact oL kt44 rfl<|Tq.end undef rfl rfl
  refine Tq.v (fun G T hG=>?_) ?_
  ·exact oN Tryz.underlying44 rfl<|Tq.end undef rfl rfl
  refine Tq.v (fun G T hG=>?_) ?_
  ·exact oF fb46k1 rfl<|Tq.end undef rfl rfl
  refine Tq.v (fun G T hG=>?_) ?_
  ·exact oL kt44 rfl<|Tq.end undef rfl rfl
  refine Tq.v (fun G T hG=>?_) ?_
  ·exact oN Tryz.underlying44 rfl<|Tq.end undef rfl rfl
  refine Tq.st (.raw (xA 8)) [] rfl rfl (fun G T hG=>?_) ?_
  ·exact Under.mk eC Tryz.underlying85 AT64 rfl rfl rfl fun cC=>Tq.end cC rfl rfl
  refine Tq.r1 (.val cw (⟨y7.1.Header,(y7.1.Cells.length:Int),.slice none 0 0,(xA 8)⟩:aP)) [.own K4 (xA 8) 64 (List.replicate (Int.toNat (y7.1.Cells.length:Int)) (List.replicate 16 (0:Int)))] rfl rfl (fun G T hG=>?_) ?_
  ·exact Under.ownCell fun qC=>ov (OpV.bst mw (Bld.cons (x':=(⟨y7.1.Header,(0:Int),.slice none 0 0,.slice none 0 0⟩:aP)) rfl rfl rdV (by intro q hq;simp only[List.mem_cons,List.not_mem_nil,or_false] at hq;rcases hq with rfl|rfl|rfl<;>rfl) (Bld.cons (x':=(⟨y7.1.Header,(y7.1.Cells.length:Int),.slice none 0 0,.slice none 0 0⟩:aP)) rfl rfl rdI ⟨rfl,(by intro q hq;simp only[List.mem_cons,List.not_mem_nil,or_false] at hq;rcases hq with rfl|rfl<;>rfl)⟩ (Bld.cons (x':=(⟨y7.1.Header,(y7.1.Cells.length:Int),.slice none 0 0,(xA 8)⟩:aP)) rfl rfl (fT qC) ⟨rfl,⟨rfl,⟨rfl,(fun q hq=>by simp at hq)⟩⟩⟩ (Bld.nil _))))) rfl<|Tq.end undef rfl rfl
  refine Tq.st (.raw (.pointer (some ⟨(vblk (xA 10)),0,none⟩))) [] rfl rfl (fun G T hG=>?_) ?_
  ·exact al ZT87k rfl fun rC=>Tq.end (.pointer (some ⟨rC,0,none⟩)) rfl rfl
  refine bs hF fun cA yB hF=>Tq.nil<|Under.le hF0<|p1 11 rfl rfl<|f3<|sP (x':=(⟨y7.1.Header,(y7.1.Cells.length:Int),.slice none 0 0,(xA 8)⟩:aP)) .box .id sz87k1 rfl rfl rdV rfl<|pn<|pd rfl<|tn<|sr<|oF fb24k1 rfl<|oI kt3 rfl<|b_ rfl<|oM AJ rfl<|oM ta rfl<|sP (x':=(⟨({y7.1.Header with Left:=IntKind.wrap .i64 (a0.Left - 1)}:ab),(y7.1.Cells.length:Int),.slice none 0 0,(xA 8)⟩:aP)) .box (.fld (.fld .id mx) ip) sz3k rfl rfl rdI rfl<|nt<|sq<|afr (r:=cA) (fun cA=>[(8,pb b1),(9,pb b2),(10,.ptr aT y3),(16,.val K8 mA),(17,.val K8 nA.1),(19,.raw (.pointer (some ⟨(vblk (xA 10)),0,none⟩)))]) (fun cA=>((.box aT b1 37 (⟨[],(⟨(0:Int),(⟨(0:Int),[]⟩:ah)⟩:aL),(⟨(0:Int),(0:Int),(0:Int),(0:Int),(0:Int)⟩:av),(0:Int),(0:Int)⟩:aO))::(.box aI b2 87 (⟨(⟨(0:Int),(0:Int),(0:Int)⟩:ab),(0:Int),[],[]⟩:aK))::(.own K4 (xA 8) 64 cA)::(.box cw (vblk (xA 10)) 87 (⟨({y7.1.Header with Left:=IntKind.wrap .i64 (a0.Left - 1)}:ab),(y7.1.Cells.length:Int),.slice none 0 0,(xA 8)⟩:aP))::L)) ?_ fun K wC=>?_
  ·refine bs hF fun bA qA hF=>sq<|afr (r:=bA) (fun bA=>[(8,pb b1),(9,pb b2),(10,.ptr aT y3),(19,.ptr aI bA)]) (fun bA=>((.box aT b1 37 (⟨[],(⟨(0:Int),(⟨(0:Int),[]⟩:ah)⟩:aL),(⟨(0:Int),(0:Int),(0:Int),(0:Int),(0:Int)⟩:av),(0:Int),(0:Int)⟩:aO))::(.box aI b2 87 (⟨(⟨(0:Int),(0:Int),(0:Int)⟩:ab),(0:Int),[],[]⟩:aK))::L)) ?_ fun K zB=>?_
   ·refine sq<|ph rfl<|f1<|Under.grpT (L:=L) [0,1,2] [[10],[19],[8,126]] [⟨sk0 (.val aT y3),[],[],[]⟩,⟨sk0 (.val aI bA),[],[],[]⟩,⟨sk0 (.raw undef),[0],[(1,tk0 (.box aT b1 37 y3))],[]⟩] [(0,.box aT b1 37 (⟨[],(⟨(0:Int),(⟨(0:Int),[]⟩:ah)⟩:aL),(⟨(0:Int),(0:Int),(0:Int),(0:Int),(0:Int)⟩:av),(0:Int),(0:Int)⟩:aO))] (fun T:List Res=>(.box aI b2 87 (⟨(⟨(0:Int),(0:Int),(0:Int)⟩:ab),(0:Int),[],[]⟩:aK))::T) lf1 rfl (by kernel_rfl) rfl rfl (fun F hF0 bC=>?_)
    refine Tq.v (fun G T hG=>?_) ?_
    ·exact oL kt37 rfl<|Tq.end undef rfl rfl
    refine Tq.v (fun G T hG=>?_) ?_
    ·exact oL kt87 rfl<|Tq.end undef rfl rfl
    refine Tq.st0 [.box aT b1 37 (⟨[],(⟨(0:Int),(⟨(0:Int),[]⟩:ah)⟩:aL),(⟨(0:Int),(0:Int),(0:Int),(0:Int),(0:Int)⟩:av),(0:Int),(0:Int)⟩:aO)] rfl (fun G T hG=>?_) ?_
    ·exact sP (x':=y3) .box .id sz37k rfl rfl rdV rfl<|Tq.end0 undef rfl
    refine Tq.nil<|Under.le hF0<|p1 3 rfl rfl<|sP (x':=bA) .box .id sz87k rfl rfl rdV rfl<|pn<|pd rfl<|fz (t:=9) rfl<|fz (t:=8) rfl<|tn<|rc ?_
    cases osi hF
    exact rs Tryz.results42 (.ce rfl kt37 (.ce rfl kt87 .nil)) rfl rfl
   ·refine bs qA fun gC hB qA=>sr<|m_ rfl<|oN Tryz.underlying68 rfl<|m_ rfl<|nt<|bk<|Under.ownNil (K:=kInt .i64) (e:=3)<|f4<|f4<|f2<|f4<|f4<|lp hB (C:=Value) (.slice none 0 0) (fun vA dA=>[(8,pb b1),(9,pb b2),(10,.ptr aT y3),(16,.val K8 mA),(19,.raw (.pointer (some ⟨(vblk (xA 10)),0,none⟩))),(101,.val K8 nA.1),(102,.raw (.int .i64 (nA.1.length:Int))),(103,.raw (.int .i64 vA.1))]) (fun vA dA=>(.box aT b1 37 (⟨[],(⟨(0:Int),(⟨(0:Int),[]⟩:ah)⟩:aL),(⟨(0:Int),(0:Int),(0:Int),(0:Int),(0:Int)⟩:av),(0:Int),(0:Int)⟩:aO))::(.box aI b2 87 (⟨(⟨(0:Int),(0:Int),(0:Int)⟩:ab),(0:Int),[],[]⟩:aK))::(.own K10 dA 3 vA.2)::(.own K4 (xA 8) 64 cA)::(.box cw (vblk (xA 10)) 87 (⟨({y7.1.Header with Left:=IntKind.wrap .i64 (a0.Left - 1)}:ab),(y7.1.Cells.length:Int),dA,(xA 8)⟩:aP))::L) rfl rfl fun vA dA mC hA bB=>?_
    obtain⟨vB,pA⟩:=vA
    dsimp only at hA⊢
    refine sr<|b_ rfl<|nt<|sq<|it hA rfl (fun hA=>?_) (fun hA=>?_)
    ·refine bs hA fun oB zA hA=>ct<|sq<|Under.after (fun X=>∀(rA:List Int) (eA:Value),oB=rA→Under F0 128 [(8,pb b1),(9,pb b2),(10,.ptr aT y3),(16,.val K8 mA),(19,.raw (.pointer (some ⟨(vblk (xA 10)),0,none⟩))),(101,.val K8 nA.1),(102,.raw (.int .i64 (nA.1.length:Int))),(103,.raw (.int .i64 vB))] ((.box aT b1 37 (⟨[],(⟨(0:Int),(⟨(0:Int),[]⟩:ah)⟩:aL),(⟨(0:Int),(0:Int),(0:Int),(0:Int),(0:Int)⟩:av),(0:Int),(0:Int)⟩:aO))::(.box aI b2 87 (⟨(⟨(0:Int),(0:Int),(0:Int)⟩:ab),(0:Int),[],[]⟩:aK))::(.own K10 eA 3 rA)::(.own K4 (xA 8) 64 cA)::(.box cw (vblk (xA 10)) 87 (⟨({y7.1.Header with Left:=IntKind.wrap .i64 (a0.Left - 1)}:ab),(y7.1.Cells.length:Int),eA,(xA 8)⟩:aP))::L) X) ?_ ?_
     ·intro rA eA wA
      replace wA:=wA.symm
      subst wA
      exact rg<|b_ rfl<|m_ rfl<|nl<|nx eA hA rfl rfl
     ·intro K tA
      refine bs zA fun nC kB zA=>bk<|sr<|oS kB Tryz.underlying68 sz3 rfl<|oI kt3 rfl<|a_ rfl<|ns<|m_ rfl<|m_ rfl<|oN Tryz.underlying68 rfl<|b_ rfl<|nt<|it zA rfl (fun zA=>?_) (fun zA=>?_)
      ·exact bs zA fun dB eB zA=>bs zA fun pC cB zA=>ph rfl<|gV [0,1,2,3,4,5,6] [[19],[111],[16],[23],[113,114],[115],[116]] 5 (by kernel_rfl) rfl<|vo (fun _=>OpV.fdM ti rfl) rfl<|Vq.v (fun G T hG=>f4<|lP .box (.fld .id fh) kt68k rfl rfl<|Under.rawR (t:=112) rfl<|f4<|f4<|f4<|f4<|Vq.end rfl)<|vm_ rfl<|vm_ rfl<|vo (fun _=>OpV.ixS eB Tryz.underlying68 sz3 rfl rdV rfl) rfl<|vo (fun _=>OpV.ldI kt3 rfl) rfl<|Vq.v (fun G T hG=>bF (ys:=[dB]) Tryz.underlying68 ET3 (BldA.cons rfl rfl rdI (BldA.nil _)) rfl rfl<|Vq.end rfl)<|vn<|p1 7 rfl rfl<|f2<|ap cB Tryz.underlying68 AT3 rfl rfl rdV rfl fun qB=>pn<|p1 8 rfl rfl<|oM ti rfl<|pn<|p1 9 rfl rfl<|Under.ownCell fun rB=>f4<|sP (x':=(⟨({y7.1.Header with Left:=IntKind.wrap .i64 (a0.Left - 1)}:ab),(y7.1.Cells.length:Int),qB,(xA 8)⟩:aP)) .box (.fld .id fh) sz68k1 rfl rfl (fT rB) rfl<|pn<|pd rfl<|bN<|tn<|f4<|f2<|f4<|f4<|wr (tA _ _ (osi zA).symm) rfl
      ·exact bs zA fun tC wB zA=>rg<|oM ti rfl<|f4<|lP .box (.fld .id fh) kt68k rfl rfl<|Under.rawR (t:=121) rfl<|bF (ys:=[(-1)]) Tryz.underlying68 ET3 (BldA.cons rfl rfl rdI (BldA.nil _)) rfl rfl<|f3<|ap wB Tryz.underlying68 AT3 rfl rfl rdV rfl fun gB=>oM ti rfl<|Under.ownCell fun mB=>f1<|sP (x':=(⟨({y7.1.Header with Left:=IntKind.wrap .i64 (a0.Left - 1)}:ab),(y7.1.Cells.length:Int),gB,(xA 8)⟩:aP)) .box (.fld .id fh) sz68k1 rfl rfl (fT mB) rfl<|nl<|bN<|tn<|f4<|f2<|f4<|f4<|wr (tA _ _ (osi zA).symm) rfl
    ·refine f4<|f3<|Under.frzBO (fs:=mg) (⟨({y7.1.Header with Left:=IntKind.wrap .i64 (a0.Left - 1)}:ab),(y7.1.Cells.length:Int),pA,(xA 8)⟩:fA) (fun F hv=>⟨fun _ h=>h,fun _ h=>h,iB hv,fun _ h=>h,trivial⟩)<|f3<|Under.frzBO (fs:=fg) (⟨({y7.1.Header with Left:=IntKind.wrap .i64 (a0.Left - 1)}:ab),(y7.1.Cells.length:Int),pA,cA⟩:aK) (fun F hv=>⟨fun _ h=>h,fun _ h=>h,fun _ h=>h,iB hv,trivial⟩)<|fz (t:=19) rfl<|xt<|te ?_
     cases ai hA bB
     exact te<|bh<|tn<|wr (zB _ (osi qA).symm) rfl
  ·refine bs yB fun uC nB yB=>sr<|m_ rfl<|oN Tryz.underlying68 rfl<|m_ rfl<|nt<|bk<|f3<|f2<|f3<|lp nB () (fun oA uA=>[(8,pb b1),(9,pb b2),(10,.ptr aT y3),(11,.ptr aV y7.1),(16,.val K8 mA),(17,.val K8 nA.1),(19,.raw (.pointer (some ⟨(vblk (xA 10)),0,none⟩))),(83,.val K8 mA),(84,.raw (.int .i64 (mA.length:Int))),(85,.raw (.int .i64 oA.1))]) (fun oA uA=>(.box aT b1 37 (⟨[],(⟨(0:Int),(⟨(0:Int),[]⟩:ah)⟩:aL),(⟨(0:Int),(0:Int),(0:Int),(0:Int),(0:Int)⟩:av),(0:Int),(0:Int)⟩:aO))::(.box aI b2 87 (⟨(⟨(0:Int),(0:Int),(0:Int)⟩:ab),(0:Int),[],[]⟩:aK))::(.own K4 (xA 8) 64 oA.2)::(.box cw (vblk (xA 10)) 87 (⟨({y7.1.Header with Left:=IntKind.wrap .i64 (a0.Left - 1)}:ab),(y7.1.Cells.length:Int),.slice none 0 0,(xA 8)⟩:aP))::L) rfl rfl fun oA uA xD yA pB=>?_
   obtain⟨yD,tB⟩:=oA
   dsimp only at yA⊢
   refine sr<|b_ rfl<|nt<|sq<|it yA rfl (fun yA=>?_) (fun yA=>?_)
   ·refine bs yA fun uB xC yA=>bs yA fun yC gA yA=>bs yA fun zC hC yA=>gs yA fun kA yA=>ct<|sq<|bk<|sr<|oS xC Tryz.underlying68 sz3 rfl<|oI kt3 rfl<|a_ rfl<|nl<|tn ?_
    replace kA:(Int.toNat 0)≤(Int.toNat 16)∧(Int.toNat 16)≤16:=of_decide_eq_true kA
    exact ph rfl<|gV [0,1,2,3,4,5,6,7,8,9] [[19],[89],[21],[90,91],[92],[11],[94],[21],[95,96],[97]] 4 (by kernel_rfl) rfl<|vo (fun _=>OpV.fdM AK rfl) rfl<|Vq.v (fun G T hG=>f3<|lP .box (.fld .id my) kt85k1 rfl rfl<|Under.rawR (t:=90) rfl<|f3<|f3<|f3<|Vq.end rfl)<|vm_ rfl<|Vq.v (fun G T hG=>f2<|ov (OpV.ixO gA Tryz.underlying85 sz64k rfl rfl) rfl<|f3<|f1<|f3<|f3<|Vq.end rfl)<|Vq.v (fun G T hG=>ov (OpV.slP (l:=0) (h:=16) Tryz.underlying64 sz5k rfl rfl rfl (by decide) (by decide) (by decide)) rfl<|Vq.end rfl)<|vo (fun _=>OpV.fd fb46k1 rfl rfl) rfl<|vo (fun _=>OpV.ld kt44 rfl) rfl<|vm_ rfl<|vo (fun _=>OpV.ixS hC Tryz.underlying44 sz22 rfl rdV rfl) rfl<|vo (fun _=>OpV.ld kt22 rfl) rfl<|vn<|p1 10 rfl rfl<|f2<|Under.cpB (x':=List.set tB (Int.toNat uB) (over yC (Int.toNat 0) (Int.toNat 16) zC)) (.own gA) (.ix .id gA) (And.left kA) (And.right kA) (pP (And.right kA)) Tryz.underlying22 sz5k rfl rfl (.sl rdV) rfl rfl<|pn<|pd rfl<|bN<|tn<|rg<|b_ rfl<|m_ rfl<|nl<|f3<|f1<|f3<|f3<|nx () yA rfl rfl
   ·refine xt<|te ?_
    cases ai yA pB
    exact te<|bh<|tn<|wr (wC _ (osi yB).symm) rfl
noncomputable def gY (a0:aK):Option Int:=
 bif (((decide (a0.Count<0))||(decide (a0.Count>256)))||(decide ((a0.From.length:Int)>256)))||((a0.Nonces.length:Int) != a0.Count) then
  some 290
 else
  bif (((((decide (a0.Header.Left<0))||(decide (a0.Header.Left≥8)))||(decide (a0.Header.Round<0)))||(decide (a0.Header.Round>4611686018427387903)))||(decide (a0.Header.Epoch<0)))||(decide (a0.Header.Epoch>4611686018427387904)) then
   some 290
  else
   bif mkB a0.Count a0.Count then
   (((Loop.run (S := ((List Bool) × Int)) (R := (Unit ⊕ Int)) (fun (yA, zA) =>
     bif decide (zA<(a0.From.length:Int)) then
      (((idx a0.From zA).bind fun xA=>
      bif xA==(-1) then
       some (.inr yA)
      else
       ((bif (decide (xA<0))||(decide (xA≥a0.Count)) then
        some true
       else
        (idx yA xA).bind fun hA=>
        some hA
        :Option Bool)).bind fun bA=>
       bif bA then
        some (.inl 290)
       else
        (idx yA xA).bind fun eA=>
        some (.inr (List.set yA (Int.toNat xA) true))
       : Option (Int ⊕ (List Bool)))).bind fun vA => match vA with
       | .inl z=>
        some (.done (.inr z))
       | .inr oA=>
        some (.next (oA,IntKind.wrap .i64 (zA+1)))
     else
      some (.done (.inl ()))) (List.replicate (Int.toNat a0.Count) false,0)).bind fun kA=>match kA with
    | .inl _=>
     some (.inr ())
    | .inr z=>
     some (.inl z)
    : Option (Int ⊕ Unit))).bind fun dA => match dA with
    | .inl z=>
     some z
    | .inr _=>
     some 0
   else none
theorem o104 {a0:aK} {r0:Int} (hF:gY a0=some r0) (L:List Res):Ok Tryz.prog 45 [SV.val aI a0] L (SV.raw (.int .i64 r0)) L:=by
 unfold gY at hF
 refine okI 89 Tryz.func45 rfl rfl rfl fun F0=>?_
 refine sr<|bX (K:=aI) rfl rdV rfl<|a_ rfl<|ns<|oF fb87k1 rfl<|oL kt43 rfl<|al ZT43 rfl fun b1=>sP (x':=a0.Header) .box .id sz43k rfl rfl rdV rfl<|nl<|fz (t:=3) rfl<|tn<|sq<|sr<|oF fb87k rfl<|oI kt3 rfl<|b_ rfl<|m_ rfl<|bt 16 ((decide (a0.Count<0))||(decide (a0.Count>256))) ?_ (fun k=>?_)
 ·refine m_ rfl<|jC 22 (((decide (a0.Count<0))||(decide (a0.Count>256)))||(decide ((a0.From.length:Int)>256))) ?_ (fun k=>?_)
  ·refine m_ rfl<|ym 30 ((((decide (a0.Count<0))||(decide (a0.Count>256)))||(decide ((a0.From.length:Int)>256)))||((a0.Nonces.length:Int) != a0.Count)) ?_ (fun k=>?_)
   ·refine nt<|it hF rfl (fun hF=>?_) (fun hF=>?_)
    ·refine sr<|a_ rfl<|nt<|rt ?_
     cases osi hF
     exact rs Tryz.results45 (.tm rfl .nil) rfl rfl
    ·refine ct<|sq<|sr<|oF fb43k rfl<|oI kt3 rfl<|b_ rfl<|m_ rfl<|bt 38 ((decide (a0.Header.Left<0))||(decide (a0.Header.Left≥8))) ?_ (fun k=>?_)
     ·refine m_ rfl<|bt 43 (((decide (a0.Header.Left<0))||(decide (a0.Header.Left≥8)))||(decide (a0.Header.Round<0))) ?_ (fun k=>?_)
      ·refine m_ rfl<|bt 48 ((((decide (a0.Header.Left<0))||(decide (a0.Header.Left≥8)))||(decide (a0.Header.Round<0)))||(decide (a0.Header.Round>4611686018427387903))) ?_ (fun k=>?_)
       ·refine m_ rfl<|bt 53 (((((decide (a0.Header.Left<0))||(decide (a0.Header.Left≥8)))||(decide (a0.Header.Round<0)))||(decide (a0.Header.Round>4611686018427387903)))||(decide (a0.Header.Epoch<0))) ?_ (fun k=>?_)
        ·refine m_ rfl<|bt 58 ((((((decide (a0.Header.Left<0))||(decide (a0.Header.Left≥8)))||(decide (a0.Header.Round<0)))||(decide (a0.Header.Round>4611686018427387903)))||(decide (a0.Header.Epoch<0)))||(decide (a0.Header.Epoch>4611686018427387904))) ?_ (fun k=>?_)
         ·refine nt<|it hF rfl (fun hF=>?_) (fun hF=>?_)
          ·refine sr<|a_ rfl<|nt<|rt ?_
           cases osi hF
           exact rs Tryz.results45 (.tm rfl .nil) rfl rfl
          ·refine gs hF fun cB hF=>bs hF fun zB qA hF=>ct<|sr<|oF fb87k rfl<|oI kt3 rfl<|Under.mk cB Tryz.underlying106 AT4 rfl rfl rfl fun yB=>a_ rfl<|nt<|sq<|Under.after (fun X=>∀(_:Unit),zB=(.inr ())→Under F0 89 [] (L) X) ?_ ?_
           ·intro _ wA
            replace wA:=wA.symm
            subst wA
            refine sr<|a_ rfl<|nt<|rc ?_
            cases osi hF
            exact rs Tryz.results45 (.tm rfl .nil) rfl rfl
           ·intro K hB
            refine bs qA fun qB bB qA=>sr<|oF fb87k2 rfl<|oL kt68 rfl<|oN Tryz.underlying68 rfl<|m_ rfl<|nt<|bk<|lp bB () (fun vA tA=>[(1,.ptr aI a0),(4,.raw yB),(63,.val K8 a0.From),(64,.raw (.int .i64 (a0.From.length:Int))),(65,.raw (.int .i64 vA.2))]) (fun vA tA=>(.own jJ yB 4 vA.1)::L) rfl rfl fun vA tA rB hA uA=>?_
            obtain⟨vB,oB⟩:=vA
            dsimp only at hA⊢
            refine sr<|b_ rfl<|nt<|sq<|it hA rfl (fun hA=>?_) (fun hA=>?_)
            ·refine bs hA fun kB xA hA=>ct<|sq<|Under.after (fun X=>∀(gA:List Bool),kB=(.inr gA)→Under F0 89 [(1,.ptr aI a0),(4,.raw yB),(63,.val K8 a0.From),(64,.raw (.int .i64 (a0.From.length:Int))),(65,.raw (.int .i64 oB))] ((.own jJ yB 4 gA)::L) X) ?_ ?_
             ·intro gA mA
              replace mA:=mA.symm
              subst mA
              exact rg<|b_ rfl<|m_ rfl<|nl<|nx () hA rfl rfl
             ·intro K xB
              refine bs xA fun rA dB xA=>bk<|sr<|oS dB Tryz.underlying68 sz3 rfl<|oI kt3 rfl<|a_ rfl<|nt<|sq<|sr<|mb rfl<|nt<|it xA rfl (fun xA=>?_) (fun xA=>?_)
              ·exact xt<|te<|bh<|tn<|wr (xB _ (osi xA).symm) rfl
              ·refine ct<|sq<|sr<|mb rfl<|m_ rfl<|jC 78 ((decide (rA<0))||(decide (rA≥a0.Count))) ?_ (fun k=>?_)
               ·refine bs xA fun eB bA xA=>m_ rfl<|jC 84 eB ?_ (fun k=>?_)
                ·refine nt<|it xA rfl (fun xA=>?_) (fun xA=>?_)
                 ·refine dr<|sr<|a_ rfl<|nt<|rt<|Under.bR<|tr ?_
                  cases osi xA
                  cases ai hA uA
                  refine tr<|Under.bR<|tr ?_
                  cases osi qA
                  cases osi hF
                  exact rs Tryz.results45 (.tm rfl .nil) rfl rfl
                 ·exact bs xA fun wB nA xA=>ct<|rg<|m_ rfl<|m_ rfl<|ov (OpV.ixO nA Tryz.underlying106 sz4k rfl rfl) rfl<|sP (x':=List.set vB (Int.toNat rA) true) (.own nA) (.ix .id nA) sz4k rfl rfl rdB rfl<|nl<|bN<|tn<|wr (xB _ (osi xA).symm) rfl
                ·refine by_ (t:=79) rfl (fun yA=>?_) (fun yA=>?_)
                 ·replace bA:=ctrue yA bA
                  exact sk_ yA rfl<|sk_ yA rfl<|sk_ yA rfl<|sk_ yA rfl<|pT yA rfl<|rf 4 (rbq bA) rfl k
                 ·replace bA:=cfalse yA bA
                  exact bs bA fun gB pA bA=>gc_ yA rfl<|m_ rfl<|gc_ yA rfl<|m_ rfl<|gc_ yA rfl<|ov (OpV.ixO pA Tryz.underlying106 sz4k rfl rfl) rfl<|gc_ yA rfl<|lP (.own pA) (.ix .id pA) kt4k rfl rfl<|Under.rawB (t:=83) rfl<|pF yA rfl<|rf 5 (rbq bA) rfl k
               ·refine by_ (t:=73) rfl (fun zA=>?_) (fun zA=>?_)
                ·exact sk_ zA rfl<|sk_ zA rfl<|sk_ zA rfl<|sk_ zA rfl<|pT zA rfl<|rf 4 (or_t (e:=decide (rA≥a0.Count)) zA) rfl k
                ·exact gc_ zA rfl<|m_ rfl<|gc_ zA rfl<|oF fb87k rfl<|gc_ zA rfl<|oI kt3 rfl<|gc_ zA rfl<|b_ rfl<|pF zA rfl<|rf 4 (or_f zA) rfl k
            ·refine dr<|xt<|te ?_
             cases ai hA uA
             exact te<|bh<|tn<|wr (hB () (osi qA).symm) rfl
         ·refine by_ (t:=54) rfl (fun oA=>?_) (fun oA=>?_)
          ·exact sk_ oA rfl<|sk_ oA rfl<|sk_ oA rfl<|pT oA rfl<|rf 3 (or_t (e:=decide (a0.Header.Epoch>4611686018427387904)) oA) rfl k
          ·exact gc_ oA rfl<|oF fb43k2 rfl<|gc_ oA rfl<|oI kt2 rfl<|gc_ oA rfl<|b_ rfl<|pF oA rfl<|rf 3 (or_f oA) rfl k
        ·refine by_ (t:=49) rfl (fun kA=>?_) (fun kA=>?_)
         ·exact sk_ kA rfl<|sk_ kA rfl<|sk_ kA rfl<|pT kA rfl<|rf 3 (or_t (e:=decide (a0.Header.Epoch<0)) kA) rfl k
         ·exact gc_ kA rfl<|oF fb43k2 rfl<|gc_ kA rfl<|oI kt2 rfl<|gc_ kA rfl<|b_ rfl<|pF kA rfl<|rf 3 (or_f kA) rfl k
       ·refine by_ (t:=44) rfl (fun dA=>?_) (fun dA=>?_)
        ·exact sk_ dA rfl<|sk_ dA rfl<|sk_ dA rfl<|pT dA rfl<|rf 3 (or_t (e:=decide (a0.Header.Round>4611686018427387903)) dA) rfl k
        ·exact gc_ dA rfl<|oF fb43k1 rfl<|gc_ dA rfl<|oI kt2 rfl<|gc_ dA rfl<|b_ rfl<|pF dA rfl<|rf 3 (or_f dA) rfl k
      ·refine by_ (t:=39) rfl (fun eA=>?_) (fun eA=>?_)
       ·exact sk_ eA rfl<|sk_ eA rfl<|sk_ eA rfl<|pT eA rfl<|rf 3 (or_t (e:=decide (a0.Header.Round<0)) eA) rfl k
       ·exact gc_ eA rfl<|oF fb43k1 rfl<|gc_ eA rfl<|oI kt2 rfl<|gc_ eA rfl<|b_ rfl<|pF eA rfl<|rf 3 (or_f eA) rfl k
     ·refine by_ (t:=34) rfl (fun cA=>?_) (fun cA=>?_)
      ·exact sk_ cA rfl<|sk_ cA rfl<|sk_ cA rfl<|pT cA rfl<|rf 3 (or_t (e:=decide (a0.Header.Left≥8)) cA) rfl k
      ·exact gc_ cA rfl<|oF fb43k rfl<|gc_ cA rfl<|oI kt3 rfl<|gc_ cA rfl<|b_ rfl<|pF cA rfl<|rf 3 (or_f cA) rfl k
   ·refine by_ (t:=23) rfl (fun c8=>?_) (fun c8=>?_)
    ·exact sk_ c8 rfl<|sk_ c8 rfl<|sk_ c8 rfl<|sk_ c8 rfl<|sk_ c8 rfl<|sk_ c8 rfl<|pT c8 rfl<|rf 6 (or_t (e:=(a0.Nonces.length:Int) != a0.Count) c8) rfl k
    ·exact gc_ c8 rfl<|oF fb87k3 rfl<|gc_ c8 rfl<|oL kt85 rfl<|gc_ c8 rfl<|oN Tryz.underlying85 rfl<|gc_ c8 rfl<|oF fb87k rfl<|gc_ c8 rfl<|oI kt3 rfl<|gc_ c8 rfl<|b_ rfl<|pF c8 rfl<|rf 6 (or_f c8) rfl k
  ·refine by_ (t:=17) rfl (fun c5=>?_) (fun c5=>?_)
   ·exact sk_ c5 rfl<|sk_ c5 rfl<|sk_ c5 rfl<|sk_ c5 rfl<|pT c5 rfl<|rf 4 (or_t (e:=decide ((a0.From.length:Int)>256)) c5) rfl k
   ·exact gc_ c5 rfl<|oF fb87k2 rfl<|gc_ c5 rfl<|oL kt68 rfl<|gc_ c5 rfl<|oN Tryz.underlying68 rfl<|gc_ c5 rfl<|b_ rfl<|pF c5 rfl<|rf 4 (or_f c5) rfl k
 ·refine by_ (t:=12) rfl (fun c2=>?_) (fun c2=>?_)
  ·exact sk_ c2 rfl<|sk_ c2 rfl<|sk_ c2 rfl<|pT c2 rfl<|rf 3 (or_t (e:=decide (a0.Count>256)) c2) rfl k
  ·exact gc_ c2 rfl<|oF fb87k rfl<|gc_ c2 rfl<|oI kt3 rfl<|gc_ c2 rfl<|b_ rfl<|pF c2 rfl<|rf 3 (or_f c2) rfl k
noncomputable def fL (a0:List Int):Option Bool:=
 (((Loop.run (S := Int) (R := (Unit ⊕ Bool)) (fun xA =>
   bif decide (xA<(a0.length:Int)) then
    (idx a0 xA).bind fun yA=>
    bif yA != 0 then
     some (.done (.inr false))
    else
     some (.next (IntKind.wrap .i64 (xA+1)))
   else
    some (.done (.inl ()))) 0).bind fun zA=>match zA with
  | .inl _=>
   some (.inr ())
  | .inr z=>
   some (.inl z)
  : Option (Bool ⊕ Unit))).bind fun hA => match hA with
  | .inl z=>
   some z
  | .inr _=>
   some true
theorem o105 {a0:List Int} {r0:Bool} (hF:fL a0=some r0) (L:List Res):Ok Tryz.prog 160 [SV.val K9 a0] L (SV.raw (.bool r0)) L:=by
 unfold fL at hF
 refine okI 14 Tryz.func160 rfl rfl rfl fun F0=>?_
 refine bs hF fun oA yA hF=>sr<|a_ rfl<|nt<|sq<|Under.after (fun X=>∀(_:Unit),oA=(.inr ())→Under F0 14 [] (L) X) ?_ ?_
 ·intro _ zA
  replace zA:=zA.symm
  subst zA
  refine sr<|a_ rfl<|nt<|rc ?_
  cases osi hF
  exact rs Tryz.results160 (.tm rfl .nil) rfl rfl
 ·intro K kA
  refine bs yA fun cA dA yA=>sr<|m_ rfl<|oN Tryz.underlying22 rfl<|m_ rfl<|nt<|bk<|lp dA () (fun hA bA=>[(5,.val K9 a0),(6,.raw (.int .i64 (a0.length:Int))),(7,.raw (.int .i64 hA))]) (fun hA bA=>L) rfl rfl fun hA bA qA xA vA=>?_
  refine sr<|b_ rfl<|nt<|sq<|it xA rfl (fun xA=>?_) (fun xA=>?_)
  ·refine bs xA fun rA eA xA=>ct<|sq<|bk<|sr<|oS eA Tryz.underlying22 sz5 rfl<|oI kt5 rfl<|a_ rfl<|ns<|mb rfl<|nt<|it xA rfl (fun xA=>?_) (fun xA=>?_)
   ·refine sr<|a_ rfl<|nt<|rc<|Under.bR<|tr ?_
    cases ai xA vA
    refine tr<|Under.bR<|tr ?_
    cases osi yA
    cases osi hF
    exact rs Tryz.results160 (.tm rfl .nil) rfl rfl
   ·exact cs<|bN<|tn<|rg<|b_ rfl<|m_ rfl<|nl<|nx () xA rfl rfl
  ·refine xt<|te ?_
   cases ai xA vA
   exact te<|bh<|tn<|wr (kA () (osi yA).symm) rfl
noncomputable def jt (a0:List Int):Option ((List Int)×Bool×Int):=
 bif (a0.length:Int) != 320 then
  some ([],false,50)
 else
  (idx a0 0).bind fun x2=>
  bif x2==0 then
   some ([],false,0)
  else
   bif x2==1 then
    (idx a0 1).bind fun x5=>
    bif decide ((IntKind.wrap .i64 x5)>48) then
     some ([],false,53)
    else
     (sub a0 (IntKind.wrap .i64 (2+(IntKind.wrap .i64 x5))) (a0.length:Int)).bind fun x8=>
     (fL x8).bind fun xA=>
     bif !xA then
      some ([],false,51)
     else
      (sub a0 2 (IntKind.wrap .i64 (2+(IntKind.wrap .i64 x5)))).bind fun yA=>
      (app [] yA).bind fun zA=>
      some (zA,true,0)
   else
    some ([],false,52)
theorem o106 {a0:List Int} {r0:((List Int)×Bool×Int)} (hF:jt a0=some r0) (L:List Res):Ok Tryz.prog 106 [SV.val K9 a0] L (SV.tup [SV.val K9 r0.1,SV.raw (.bool r0.2.1),SV.raw (.int .i64 r0.2.2)]) L:=by
 unfold jt at hF
 refine okI 33 Tryz.func106 rfl rfl rfl fun F0=>?_
 refine sr<|a_ rfl<|a_ rfl<|a_ rfl<|nt<|sq<|sr<|m_ rfl<|oN Tryz.underlying22 rfl<|b_ rfl<|nt<|it hF rfl (fun hF=>?_) (fun hF=>?_)
 ·refine sr<|a_ rfl<|a_ rfl<|a_ rfl<|nt<|rt<|tV (K:=kSl K12) (x:=[]) (t:=2) rfl rdN ?_
  cases osi hF
  exact rs Tryz.results106 (.tm rfl (.tm rfl (.tm rfl .nil))) rfl rfl
 ·refine bs hF fun x2 h3 hF=>ct<|sq<|sr<|m_ rfl<|oS h3 Tryz.underlying22 sz5 rfl<|oI kt5 rfl<|nt<|bk<|sr<|b_ rfl<|a_ rfl<|nt<|it hF rfl (fun hF=>?_) (fun hF=>?_)
  ·refine sr<|a_ rfl<|a_ rfl<|a_ rfl<|nt<|rc<|Under.bR<|tr<|tV (K:=kSl K12) (x:=[]) (t:=2) rfl rdN ?_
   cases osi hF
   exact rs Tryz.results106 (.tm rfl (.tm rfl (.tm rfl .nil))) rfl rfl
  ·refine sr<|b_ rfl<|a_ rfl<|nt<|it hF rfl (fun hF=>?_) (fun hF=>?_)
   ·refine bs hF fun x5 h6 hF=>cs<|bN<|tn<|sr<|m_ rfl<|oS h6 Tryz.underlying22 sz5 rfl<|oI kt5 rfl<|oC (by kernel_rfl) Tryz.underlying3 rfl<|a_ rfl<|nt<|sq<|sr<|mb rfl<|nt<|it hF rfl (fun hF=>?_) (fun hF=>?_)
    ·refine sr<|a_ rfl<|a_ rfl<|a_ rfl<|nt<|rt<|tV (K:=kSl K12) (x:=[]) (t:=2) rfl rdN ?_
     cases osi hF
     exact rs Tryz.results106 (.tm rfl (.tm rfl (.tm rfl .nil))) rfl rfl
    ·refine bs hF fun x8 h9 hF=>bs hF fun hA xA hF=>ct<|sq<|sr<|m_ rfl<|mb rfl<|ov (OpV.slL h9 Tryz.underlying22 sz5 rfl rdV rfl) rfl<|cx Tryz.call160 rfl (o105 xA _)<|ov (OpV.not rfl) rfl<|nt<|it hF rfl (fun hF=>?_) (fun hF=>?_)
     ·refine sr<|a_ rfl<|a_ rfl<|a_ rfl<|nt<|rt<|tV (K:=kSl K12) (x:=[]) (t:=2) rfl rdN ?_
      cases osi hF
      exact rs Tryz.results106 (.tm rfl (.tm rfl (.tm rfl .nil))) rfl rfl
     ·refine bs hF fun bA yA hF=>bs hF fun vA zA hF=>ct<|sr<|m_ rfl<|mb rfl<|ov (OpV.slLH yA Tryz.underlying22 sz5 rfl rdV rfl rfl) rfl<|Under.ownNil (K:=kInt .u8) (e:=5)<|ap zA Tryz.underlying22 AT5 rfl rfl rdV rfl fun oA=>a_ rfl<|a_ rfl<|a_ rfl<|nl<|fzO (t:=2) rfl<|tn<|rc ?_
      cases osi hF
      exact rs Tryz.results106 (.tm rfl (.tm rfl (.tm rfl .nil))) rfl rfl
   ·refine sr<|a_ rfl<|a_ rfl<|a_ rfl<|nt<|rc<|Under.bR<|tr<|tV (K:=kSl K12) (x:=[]) (t:=2) rfl rdN ?_
    cases osi hF
    exact rs Tryz.results106 (.tm rfl (.tm rfl (.tm rfl .nil))) rfl rfl
noncomputable def ki (a0:List Int) (a1:Int):Option ((List Int)×Int):=
 bif (a0.length:Int) != 320 then
  some ([],50)
 else
  bif (decide (a1<0))||(decide (a1>320)) then
   some ([],2)
  else
   (sub a0 a1 (a0.length:Int)).bind fun x6=>
   (fL x6).bind fun y8=>
   bif !y8 then
    some ([],51)
   else
    (sub a0 0 a1).bind fun xA=>
    (app [] xA).bind fun yA=>
    some (yA,0)
theorem o107 {a0:List Int} {a1:Int} {r0:((List Int)×Int)} (hF:ki a0 a1=some r0) (L:List Res):Ok Tryz.prog 98 [SV.val K9 a0,SV.raw (.int .i64 a1)] L (SV.tup [SV.val K9 r0.1,SV.raw (.int .i64 r0.2)]) L:=by
 unfold ki at hF
 refine okI 27 Tryz.func98 rfl rfl rfl fun F0=>?_
 refine sr<|a_ rfl<|a_ rfl<|nt<|sq<|bk<|sr<|m_ rfl<|oN Tryz.underlying22 rfl<|b_ rfl<|a_ rfl<|nt<|it hF rfl (fun hF=>?_) (fun hF=>?_)
 ·refine sr<|a_ rfl<|a_ rfl<|nt<|rc<|Under.bR<|tr<|tV (K:=kSl K12) (x:=[]) (t:=4) rfl rdN ?_
  cases osi hF
  exact rs Tryz.results98 (.tm rfl (.tm rfl .nil)) rfl rfl
 ·refine sr<|mb rfl<|m_ rfl<|cN 16 ((decide (a1<0))||(decide (a1>320))) ?_ (fun k=>?_)
  ·refine a_ rfl<|nt<|it hF rfl (fun hF=>?_) (fun hF=>?_)
   ·refine sr<|a_ rfl<|a_ rfl<|nt<|rc<|Under.bR<|tr<|tV (K:=kSl K12) (x:=[]) (t:=4) rfl rdN ?_
    cases osi hF
    exact rs Tryz.results98 (.tm rfl (.tm rfl .nil)) rfl rfl
   ·refine bs hF fun x6 h7 hF=>bs hF fun y8 h9 hF=>sr<|m_ rfl<|m_ rfl<|ov (OpV.slL h7 Tryz.underlying22 sz5 rfl rdV rfl) rfl<|cx Tryz.call160 rfl (o105 h9 _)<|ov (OpV.not rfl) rfl<|a_ rfl<|nt<|it hF rfl (fun hF=>?_) (fun hF=>?_)
    ·refine sr<|a_ rfl<|a_ rfl<|nt<|rc<|Under.bR<|tr<|tV (K:=kSl K12) (x:=[]) (t:=4) rfl rdN ?_
     cases osi hF
     exact rs Tryz.results98 (.tm rfl (.tm rfl .nil)) rfl rfl
    ·refine bs hF fun zA xA hF=>bs hF fun hA yA hF=>cs<|bN<|tn<|sr<|m_ rfl<|m_ rfl<|ov (OpV.slH xA Tryz.underlying22 sz5 rfl rdV rfl) rfl<|Under.ownNil (K:=kInt .u8) (e:=5)<|ap yA Tryz.underlying22 AT5 rfl rfl rdV rfl fun bA=>a_ rfl<|a_ rfl<|nl<|fzO (t:=4) rfl<|tn<|rc ?_
     cases osi hF
     exact rs Tryz.results98 (.tm rfl (.tm rfl .nil)) rfl rfl
  ·refine by_ (t:=13) rfl (fun c2=>?_) (fun c2=>?_)
   ·exact sk_ c2 rfl<|sk_ c2 rfl<|pT c2 rfl<|rf 2 (or_t (e:=decide (a1>320)) c2) rfl k
   ·exact gc_ c2 rfl<|m_ rfl<|gc_ c2 rfl<|b_ rfl<|pF c2 rfl<|rf 2 (or_f c2) rfl k
noncomputable def ij (a0:List Int) (a1:Int):Option ((List Int)×Bool):=
 bif a1==1 then
  (jt a0).bind fun y1=>
  some (y1.1,y1.2.1&&(y1.2.2==0))
 else
  (((Loop.run (S:=(Bool×Int)) (R:=Bool) (fun(yA,xA)=>
    bif decide (xA<(a0.length:Int)) then
     (idx a0 xA).bind fun hA=>
     some (.next (yA&&(hA==0),IntKind.wrap .i64 (xA+1)))
    else
     some (.done yA)) (true,0)).bind fun bA=>
  some bA
   :Option Bool)).bind fun vA=>
  bif vA then
   some ([],false)
  else
   (eP (IntKind.wrap .i64 (a1 - 1))).bind fun oA=>
   (ki a0 oA).bind fun zA=>
   some (zA.1,zA.2==0)
theorem o108 {a0:List Int} {a1:Int} {r0:((List Int)×Bool)} (hF:ij a0 a1=some r0) (L:List Res):Ok Tryz.prog 156 [SV.val K9 a0,SV.raw (.int .i64 a1)] L (SV.tup [SV.val K9 r0.1,SV.raw (.bool r0.2)]) L:=by
 unfold ij at hF
 refine okI 52 Tryz.func156 rfl rfl rfl fun F0=>?_
 refine sr<|a_ rfl<|a_ rfl<|nt<|sq<|sr<|mb rfl<|nt<|it hF rfl (fun hF=>?_) (fun hF=>?_)
 ·refine bs hF fun y1 h2 hF=>sr<|m_ rfl<|cx Tryz.call106 rfl (o106 h2 _)<|m_ rfl<|oE rfl<|oE rfl<|oE rfl<|a_ rfl<|a_ rfl<|a_ rfl<|ns<|m_ rfl<|m_ rfl<|m_ rfl<|cN 27 (y1.2.1&&(y1.2.2==0)) ?_ (fun k=>?_)
  ·refine a_ rfl<|a_ rfl<|nt<|rt ?_
   cases osi hF
   exact rs Tryz.results156 (.tm rfl (.tm rfl .nil)) rfl rfl
  ·refine by_ (t:=24) rfl (fun c3=>?_) (fun c3=>?_)
   ·exact gc_ c3 rfl<|m_ rfl<|gc_ c3 rfl<|b_ rfl<|pT c3 rfl<|rf 2 (iV c3) rfl k
   ·exact sk_ c3 rfl<|sk_ c3 rfl<|pF c3 rfl<|rf 2 (iW (e:=y1.2.2==0) c3) rfl k
 ·refine bs hF fun hA bA hF=>ct<|sr<|a_ rfl<|nt<|sq<|afr (r:=hA) (fun hA=>[(0,.val K9 a0),(1,.raw (.int .i64 a1)),(9,.raw (.bool hA))]) (fun hA=>(L)) ?_ fun K kA=>?_
  ·refine sq<|sr<|m_ rfl<|nt<|it hF rfl (fun hF=>?_) (fun hF=>?_)
   ·refine sr<|a_ rfl<|a_ rfl<|nt<|rt<|tV (K:=kSl K12) (x:=[]) (t:=4) rfl rdN ?_
    cases osi hF
    exact rs Tryz.results156 (.tm rfl (.tm rfl .nil)) rfl rfl
   ·refine bs hF fun gA dA hF=>bs hF fun mA eA hF=>ct<|sr<|m_ rfl<|mb rfl<|cx Tryz.call79 rfl (o46 dA _)<|cx Tryz.call98 rfl (o107 eA _)<|m_ rfl<|oE rfl<|oE rfl<|a_ rfl<|a_ rfl<|ns<|m_ rfl<|mb rfl<|a_ rfl<|a_ rfl<|nt<|rc ?_
    cases osi hF
    exact rs Tryz.results156 (.tm rfl (.tm rfl .nil)) rfl rfl
  ·refine bs bA fun nA cA bA=>sr<|m_ rfl<|oN Tryz.underlying22 rfl<|m_ rfl<|nt<|bk<|lp cA () (fun zA vA=>[(0,.val K9 a0),(1,.raw (.int .i64 a1)),(9,.raw (.bool zA.1)),(28,.val K9 a0),(29,.raw (.int .i64 (a0.length:Int))),(30,.raw (.int .i64 zA.2))]) (fun zA vA=>L) rfl rfl fun zA vA pA yA qA=>?_
   obtain⟨rA,tA⟩:=zA
   dsimp only at yA⊢
   refine sr<|b_ rfl<|nt<|sq<|it yA rfl (fun yA=>?_) (fun yA=>?_)
   ·refine bs yA fun oA wA yA=>ct<|sq<|bk<|sr<|oS wA Tryz.underlying22 sz5 rfl<|oI kt5 rfl<|a_ rfl<|nt<|rg<|m_ rfl<|m_ rfl<|cN 38 (rA&&(oA==0)) ?_ (fun k=>?_)
    ·exact a_ rfl<|nl<|bN<|tn<|rg<|b_ rfl<|m_ rfl<|nl<|nx () yA rfl rfl
    ·refine by_ (t:=35) rfl (fun xA=>?_) (fun xA=>?_)
     ·exact gc_ xA rfl<|m_ rfl<|gc_ xA rfl<|b_ rfl<|pT xA rfl<|rf 2 (iV xA) rfl k
     ·exact sk_ xA rfl<|sk_ xA rfl<|pF xA rfl<|rf 2 (iW (e:=oA==0) xA) rfl k
   ·refine xt<|te ?_
    cases ai yA qA
    exact te<|bh<|tn<|wr (kA _ (osi bA).symm) rfl
noncomputable def ju (a0:List Int) (a1:List Int):Option ((List Int)×Int):=
 bif (a0.length:Int) != 32 then
  some ([],2)
 else
  bif decide (0<[99,104,117,114,110,32,98,97,99,107].length) then
  (f7 a0 a1 [99,104,117,114,110,32,98,97,99,107] 32).bind fun y4=>
  some (y4.1,y4.2)
  else none
theorem o109 {a0 a1:List Int} {r0:((List Int)×Int)} (hF:ju a0 a1=some r0) (L:List Res):Ok Tryz.prog 51 [SV.val K9 a0,SV.val K4 a1] L (SV.tup [SV.val K9 r0.1,SV.raw (.int .i64 r0.2)]) L:=by
 unfold ju at hF
 refine okI 16 Tryz.func51 rfl rfl rfl fun F0=>?_
 refine sr<|bX (K:=kArr 16 K12) rfl rdV rfl<|a_ rfl<|a_ rfl<|nt<|sq<|sr<|m_ rfl<|oN Tryz.underlying22 rfl<|b_ rfl<|nt<|it hF rfl (fun hF=>?_) (fun hF=>?_)
 ·refine sr<|a_ rfl<|a_ rfl<|nt<|rt<|tV (K:=kSl K12) (x:=[]) (t:=4) rfl rdN ?_
  cases osi hF
  exact rs Tryz.results51 (.tm rfl (.tm rfl .nil)) rfl rfl
 ·refine gs hF fun h3 hF=>bs hF fun y4 h5 hF=>ct<|sr<|m_ rfl<|ov (OpV.slA Tryz.underlying64 sz5 rfl) rfl<|bO (ys:=[99,104,117,114,110,32,98,97,99,107]) Tryz.underlying22 ET5 (BldA.cons rfl rfl rdI (BldA.cons rfl rfl rdI (BldA.cons rfl rfl rdI (BldA.cons rfl rfl rdI (BldA.cons rfl rfl rdI (BldA.cons rfl rfl rdI (BldA.cons rfl rfl rdI (BldA.cons rfl rfl rdI (BldA.cons rfl rfl rdI (BldA.cons rfl rfl rdI (BldA.nil _))))))))))) rfl rfl fun v2=>Under.cvS Tryz.underlying22 Tryz.underlying5 (of_decide_eq_true h3) rfl rfl<|cx Tryz.call97 rfl (o39 h5 _)<|oE rfl<|oE rfl<|a_ rfl<|a_ rfl<|nt<|rc ?_
  cases osi hF
  exact rs Tryz.results51 (.tm rfl (.tm rfl .nil)) rfl rfl
noncomputable def gN (a0:List Int) (a1:List Int):Option (an×Int):=
 bif (a0.length:Int) != 32 then
  some ((⟨(List.replicate 16 (0:Int)),(List.replicate 32 (0:Int)),(List.replicate 32 (0:Int))⟩:an),2)
 else
  bif decide (0<[99,104,117,114,110].length) then
  (f7 a0 a1 [99,104,117,114,110] 80).bind fun y5=>
  bif y5.2 != 0 then
   some ((⟨(List.replicate 16 (0:Int)),(List.replicate 32 (0:Int)),(List.replicate 32 (0:Int))⟩:an),y5.2)
  else
   (sub y5.1 0 16).bind fun x9=>
   bif decide (16≤x9.length) then
   (sub y5.1 16 48).bind fun xA=>
   bif decide (32≤xA.length) then
   (sub y5.1 48 (y5.1.length:Int)).bind fun yA=>
   bif decide (32≤yA.length) then
   some ((⟨List.take 16 x9,List.take 32 xA,List.take 32 yA⟩:an),0)
   else none
   else none
   else none
  else none
theorem o110 {a0 a1:List Int} {r0:(an×Int)} (hF:gN a0 a1=some r0) (L:List Res):Ok Tryz.prog 99 [SV.val K9 a0,SV.val K4 a1] L (SV.tup [SV.val bS r0.1,SV.raw (.int .i64 r0.2)]) L:=by
 unfold gN at hF
 refine okI 37 Tryz.func99 rfl rfl rfl fun F0=>?_
 refine sr<|bX (K:=kArr 16 K12) rfl rdV rfl<|al ZT181 rfl fun b1=>a_ rfl<|nt<|sq<|sr<|m_ rfl<|oN Tryz.underlying22 rfl<|b_ rfl<|nt<|it hF rfl (fun hF=>?_) (fun hF=>?_)
 ·refine sr<|ov (OpV.bst BT181 (Bld.nil _)) rfl<|sP (x':=(⟨(List.replicate 16 (0:Int)),(List.replicate 32 (0:Int)),(List.replicate 32 (0:Int))⟩:an)) .box .id sz181k rfl rfl rdV rfl<|a_ rfl<|nl<|fz (t:=4) rfl<|tn<|rt ?_
  cases osi hF
  exact rs Tryz.results99 (.ce rfl kt181 (.tm rfl .nil)) rfl rfl
 ·refine gs hF fun h4 hF=>bs hF fun y5 h6 hF=>ct<|sr<|m_ rfl<|ov (OpV.slA Tryz.underlying64 sz5 rfl) rfl<|bO (ys:=[99,104,117,114,110]) Tryz.underlying22 ET5 (BldA.cons rfl rfl rdI (BldA.cons rfl rfl rdI (BldA.cons rfl rfl rdI (BldA.cons rfl rfl rdI (BldA.cons rfl rfl rdI (BldA.nil _)))))) rfl rfl fun v3=>Under.cvS Tryz.underlying22 Tryz.underlying5 (of_decide_eq_true h4) rfl rfl<|cx Tryz.call97 rfl (o39 h6 _)<|m_ rfl<|oE rfl<|oE rfl<|a_ rfl<|a_ rfl<|nt<|sq<|sr<|mb rfl<|nt<|it hF rfl (fun hF=>?_) (fun hF=>?_)
  ·refine sr<|ov (OpV.bst BT181 (Bld.nil _)) rfl<|m_ rfl<|sP (x':=(⟨(List.replicate 16 (0:Int)),(List.replicate 32 (0:Int)),(List.replicate 32 (0:Int))⟩:an)) .box .id sz181k rfl rfl rdV rfl<|a_ rfl<|nl<|fz (t:=4) rfl<|tn<|rt ?_
   cases osi hF
   exact rs Tryz.results99 (.ce rfl kt181 (.tm rfl .nil)) rfl rfl
  ·refine bs hF fun x9 zA hF=>gs hF fun hA hF=>bs hF fun xA bA hF=>gs hF fun vA hF=>bs hF fun yA oA hF=>gs hF fun kA hF=>ct<|sq<|ph rfl<|gV [0,1,2,3,4,5,6,7,8,9,10,11] [[6],[24],[25],[26],[6],[28],[29],[30],[6],[32],[33],[34]] 1 (by kernel_rfl) rfl<|vm_ rfl<|vo (fun _=>OpV.slH zA Tryz.underlying22 sz5 rfl rdV rfl) rfl<|Vq.v (fun G T hG=>ov (OpV.s2a (of_decide_eq_true hA) rfl Tryz.underlying64 rfl rdV) rfl<|Vq.end rfl)<|vo (fun _=>OpV.ld kt64 rfl) rfl<|vm_ rfl<|vo (fun _=>OpV.slLH bA Tryz.underlying22 sz5 rfl rdV rfl rfl) rfl<|Vq.v (fun G T hG=>ov (OpV.s2a (of_decide_eq_true vA) rfl Tryz.underlying179 rfl rdV) rfl<|Vq.end rfl)<|vo (fun _=>OpV.ld kt179 rfl) rfl<|vm_ rfl<|vo (fun _=>OpV.slL oA Tryz.underlying22 sz5 rfl rdV rfl) rfl<|Vq.v (fun G T hG=>ov (OpV.s2a (of_decide_eq_true kA) rfl Tryz.underlying179 rfl rdV) rfl<|Vq.end rfl)<|vo (fun _=>OpV.ld kt179 rfl) rfl<|vn<|p1 12 rfl rfl<|ov (OpV.bst BT181 (Bld.cons (x':=(⟨List.take 16 x9,(List.replicate 32 (0:Int)),(List.replicate 32 (0:Int))⟩:an)) rfl rfl rdV (by intro q hq;simp only[List.mem_cons,List.not_mem_nil,or_false] at hq;rcases hq with rfl|rfl<;>rfl) (Bld.cons (x':=(⟨List.take 16 x9,List.take 32 xA,(List.replicate 32 (0:Int))⟩:an)) rfl rfl rdV ⟨rfl,(by intro q hq;simp only[List.mem_cons,List.not_mem_nil,or_false] at hq;rcases hq with rfl<;>rfl)⟩ (Bld.cons (x':=(⟨List.take 16 x9,List.take 32 xA,List.take 32 yA⟩:an)) rfl rfl rdV ⟨rfl,⟨rfl,(fun q hq=>by simp at hq)⟩⟩ (Bld.nil _))))) rfl<|pn<|p1 13 rfl rfl<|sP (x':=(⟨List.take 16 x9,List.take 32 xA,List.take 32 yA⟩:an)) .box .id sz181k rfl rfl rdV rfl<|pn<|p1 14 rfl rfl<|a_ rfl<|pn<|pd rfl<|fz (t:=4) rfl<|tn<|rc ?_
   cases osi hF
   exact rs Tryz.results99 (.ce rfl kt181 (.tm rfl .nil)) rfl rfl
noncomputable def jS (a0:Int):Option Int:=
 (eP a0).bind fun y1=>
 some (IntKind.wrap .i64 (y1 - 34))
theorem o111 {a0:Int} {r0:Int} (hF:jS a0=some r0) (L:List Res):Ok Tryz.prog 161 [SV.raw (.int .i64 a0)] L (SV.raw (.int .i64 r0)) L:=by
 unfold jS at hF
 refine okI 6 Tryz.func161 rfl rfl rfl fun F0=>?_
 refine bs hF fun y1 h2 hF=>sr<|a_ rfl<|ns<|m_ rfl<|cx Tryz.call79 rfl (o46 h2 _)<|b_ rfl<|a_ rfl<|nt<|rc ?_
 cases osi hF
 exact rs Tryz.results161 (.tm rfl .nil) rfl rfl
noncomputable def gO (a0:an) (a1:Int) (a2:List Int) (a3:List Int):Option (List Int):=
 (app [IntKind.wrap .u8 a1] a2).bind fun z2=>
 (app z2 a3).bind fun z6=>
 (ja a0.Mac z6).bind fun y9=>
 (sub y9 0 16).bind fun xA=>
 some xA
theorem o112 {a0:an} {a1:Int} {a2 a3:List Int} {r0:(List Int)} (hF:gO a0 a1 a2 a3=some r0) (L:List Res):Ok Tryz.prog 101 [SV.val bS a0,SV.raw (.int .i64 a1),SV.val K4 a2,SV.val K9 a3] L (SV.val K9 r0) L:=by
 unfold gO at hF
 refine okI 23 Tryz.func101 rfl rfl rfl fun F0=>?_
 refine bs hF fun z2 h3 hF=>bs hF fun z6 h7 hF=>bs hF fun y9 yA hF=>sr<|bX (K:=bS) rfl rdV rfl<|bX (K:=kArr 16 K12) rfl rdV rfl<|a_ rfl<|ns<|m_ rfl<|oC (by kernel_rfl) Tryz.underlying5 rfl<|bO (ys:=[IntKind.wrap .u8 a1]) Tryz.underlying22 ET5 (BldA.cons rfl rfl rdI (BldA.nil _)) rfl rfl fun v1=>ov (OpV.slA Tryz.underlying64 sz5 rfl) rfl<|ap h3 Tryz.underlying22 AT5 rfl rfl rdV rfl fun v4=>a_ rfl<|nt<|sq<|ph rfl<|Under.grpT (L:=L) [0,1,2,3,4,5,6] [[4],[16],[9],[3],[18,19],[17,20],[]] [⟨sk0 (.ptr K6 a0.Mac),[],[],[]⟩,⟨sk0 (.val K9 a0.Mac),[],[],[]⟩,⟨sk0 (.raw v4),[],[],[]⟩,⟨sk0 (.val K9 a3),[],[],[]⟩,⟨sk1 4 (fun u4=> .raw u4),[0],[(1,tk1 4 (fun u4=> .own K12 u4 5 z6))],[]⟩,⟨sk0 (.val K6 y9),[1],[],[]⟩,⟨sk1 6 (fun u6=> .raw (.pointer (some ⟨(vblk u6),0,none⟩))),[],[(2,tk1 6 (fun u6=> .box K6 (vblk u6) 179 (List.replicate 32 (0:Int))))],[]⟩] [(0,.own K12 v4 5 z2)] (fun T:List Res=>T) lf0 rfl (by kernel_rfl) rfl rfl (fun F hF0 xA=>?_)
 refine Tq.v (fun G T hG=>?_) ?_
 ·exact oF fb181k1 rfl<|Tq.end undef rfl rfl
 refine Tq.v (fun G T hG=>?_) ?_
 ·exact ov (OpV.slA Tryz.underlying179 sz5 rfl) rfl<|Tq.end undef rfl rfl
 refine Tq.v (fun G T hG=>?_) ?_
 ·exact m_ rfl<|Tq.end undef rfl rfl
 refine Tq.v (fun G T hG=>?_) ?_
 ·exact m_ rfl<|Tq.end undef rfl rfl
 refine Tq.st (.raw (xA 4)) [.own K12 v4 5 z2] rfl rfl (fun G T hG=>?_) ?_
 ·exact ap h7 Tryz.underlying22 AT5 rfl rfl rdV rfl fun v8=>Tq.end v8 rfl rfl
 refine Tq.st (.val K6 y9) [.own K12 (xA 4) 5 z6] rfl rfl (fun G T hG=>?_) ?_
 ·exact fzO (t:=20) rfl<|cx Tryz.call104 rfl (o36 yA _)<|Tq.end undef rfl rfl
 refine Tq.st (.raw (.pointer (some ⟨(vblk (xA 6)),0,none⟩))) [] rfl rfl (fun G T hG=>?_) ?_
 ·exact al ZT179 rfl fun zA=>Tq.end (.pointer (some ⟨zA,0,none⟩)) rfl rfl
 refine bs hF fun bA hA hF=>Tq.nil<|Under.le hF0<|p1 7 rfl rfl<|sP (x':=y9) .box .id sz179k rfl rfl rdV rfl<|pn<|pd rfl<|fz (t:=10) rfl<|tn<|sr<|ov (OpV.slF hA Tryz.underlying179 sz5 rfl rfl rfl) rfl<|a_ rfl<|nt<|rc ?_
 cases osi hF
 exact rs Tryz.results101 (.tm rfl .nil) rfl rfl
noncomputable def iP (a0:List Int) (a1:List Int) (a2:Int) (a3:List Int):Option ((List Int)×Int):=
 (gN a0 a1).bind fun y1=>
 ((bif y1.2 != 0 then
  some true
 else
  (eP a2).bind fun y7=>
  some (y7==0)
  :Option Bool)).bind fun x6=>
 bif x6 then
  some ([],2)
 else
  (jS a2).bind fun zA=>
  bif decide ((a3.length:Int)>zA) then
   some ([],1)
  else
   (eP a2).bind fun xA=>
   bif mkB (IntKind.wrap .i64 (xA - 32)) (IntKind.wrap .i64 (xA - 32)) then
   (idx (List.replicate (Int.toNat (IntKind.wrap .i64 (xA - 32))) (0:Int)) 0).bind fun kA=>
   (idx (List.set (List.replicate (Int.toNat (IntKind.wrap .i64 (xA - 32))) (0:Int)) (Int.toNat 0) (IntKind.wrap .u8 (shrI .i64 (a3.length:Int) 8))) 1).bind fun dA=>
   bif decide ((0:Int)≤2∧(2:Int)≤((List.set (List.set (List.replicate (Int.toNat (IntKind.wrap .i64 (xA - 32))) (0:Int)) (Int.toNat 0) (IntKind.wrap .u8 (shrI .i64 (a3.length:Int) 8))) (Int.toNat 1) (IntKind.wrap .u8 (a3.length:Int))).length:Int)∧(((List.set (List.set (List.replicate (Int.toNat (IntKind.wrap .i64 (xA - 32))) (0:Int)) (Int.toNat 0) (IntKind.wrap .u8 (shrI .i64 (a3.length:Int) 8))) (Int.toNat 1) (IntKind.wrap .u8 (a3.length:Int))).length:Int):Int)≤((List.set (List.set (List.replicate (Int.toNat (IntKind.wrap .i64 (xA - 32))) (0:Int)) (Int.toNat 0) (IntKind.wrap .u8 (shrI .i64 (a3.length:Int) 8))) (Int.toNat 1) (IntKind.wrap .u8 (a3.length:Int))).length:Int)) then
   bif decide ((Int.toNat 2)≤(Int.toNat ((List.set (List.set (List.replicate (Int.toNat (IntKind.wrap .i64 (xA - 32))) (0:Int)) (Int.toNat 0) (IntKind.wrap .u8 (shrI .i64 (a3.length:Int) 8))) (Int.toNat 1) (IntKind.wrap .u8 (a3.length:Int))).length:Int))∧(Int.toNat ((List.set (List.set (List.replicate (Int.toNat (IntKind.wrap .i64 (xA - 32))) (0:Int)) (Int.toNat 0) (IntKind.wrap .u8 (shrI .i64 (a3.length:Int) 8))) (Int.toNat 1) (IntKind.wrap .u8 (a3.length:Int))).length:Int))≤(List.length (List.set (List.set (List.replicate (Int.toNat (IntKind.wrap .i64 (xA - 32))) (0:Int)) (Int.toNat 0) (IntKind.wrap .u8 (shrI .i64 (a3.length:Int) 8))) (Int.toNat 1) (IntKind.wrap .u8 (a3.length:Int))))) then
   (gU y1.1.Box (List.replicate 16 (0:Int)) (over (List.set (List.set (List.replicate (Int.toNat (IntKind.wrap .i64 (xA - 32))) (0:Int)) (Int.toNat 0) (IntKind.wrap .u8 (shrI .i64 (a3.length:Int) 8))) (Int.toNat 1) (IntKind.wrap .u8 (a3.length:Int))) (Int.toNat 2) (Int.toNat ((List.set (List.set (List.replicate (Int.toNat (IntKind.wrap .i64 (xA - 32))) (0:Int)) (Int.toNat 0) (IntKind.wrap .u8 (shrI .i64 (a3.length:Int) 8))) (Int.toNat 1) (IntKind.wrap .u8 (a3.length:Int))).length:Int)) a3)).bind fun yA=>
   (app [] a1).bind fun hA=>
   (gO y1.1 a2 a1 yA).bind fun bA=>
   (app hA bA).bind fun vA=>
   (app vA yA).bind fun oA=>
   some (oA,0)
   else none
   else none
   else none
theorem o113 {a0 a1:List Int} {a2:Int} {a3:List Int} {r0:((List Int)×Int)} (hF:iP a0 a1 a2 a3=some r0) (L:List Res):Ok Tryz.prog 201 [SV.val K9 a0,SV.val K4 a1,SV.raw (.int .i64 a2),SV.val K9 a3] L (SV.tup [SV.val K9 r0.1,SV.raw (.int .i64 r0.2)]) L:=by
 unfold iP at hF
 refine okI 70 Tryz.func201 rfl rfl rfl fun F0=>?_
 refine bs hF fun y1 h2 hF=>bs hF fun x6 h5 hF=>sr<|bX (K:=kArr 16 K12) rfl rdV rfl<|a_ rfl<|a_ rfl<|ns<|m_ rfl<|oL kt64 rfl<|cx Tryz.call99 rfl (o110 h2 _)<|m_ rfl<|oE rfl<|oE rfl<|al ZT181 rfl fun b3=>sP (x':=y1.1) .box .id sz181k rfl rfl rdV rfl<|a_ rfl<|nl<|fz (t:=10) rfl<|tn<|sq<|sr<|mb rfl<|m_ rfl<|bt 27 x6 ?_ (fun k=>?_)
 ·refine nt<|it hF rfl (fun hF=>?_) (fun hF=>?_)
  ·refine sr<|a_ rfl<|a_ rfl<|nt<|rt<|tV (K:=kSl K12) (x:=[]) (t:=8) rfl rdN ?_
   cases osi hF
   exact rs Tryz.results201 (.tm rfl (.tm rfl .nil)) rfl rfl
  ·refine bs hF fun wA vA hF=>ct<|sq<|sr<|m_ rfl<|oN Tryz.underlying22 rfl<|m_ rfl<|cx Tryz.call161 rfl (o111 vA _)<|b_ rfl<|nt<|it hF rfl (fun hF=>?_) (fun hF=>?_)
   ·refine sr<|a_ rfl<|a_ rfl<|nt<|rt<|tV (K:=kSl K12) (x:=[]) (t:=8) rfl rdN ?_
    cases osi hF
    exact rs Tryz.results201 (.tm rfl (.tm rfl .nil)) rfl rfl
   ·refine bs hF fun xA oA hF=>gs hF fun kA hF=>bs hF fun gA hA hF=>bs hF fun mA bA hF=>gs hF fun yA hF=>ct<|sr<|m_ rfl<|cx Tryz.call79 rfl (o46 oA _)<|b_ rfl<|Under.mk kA Tryz.underlying22 AT5 rfl rfl rfl fun nA=>a_ rfl<|ns<|m_ rfl<|m_ rfl<|m_ rfl<|oN Tryz.underlying22 rfl<|ov (OpV.sh rfl rfl (by decide) rfl) rfl<|oC (by kernel_rfl) Tryz.underlying5 rfl<|m_ rfl<|oN Tryz.underlying22 rfl<|oC (by kernel_rfl) Tryz.underlying5 rfl<|ov (OpV.ixO hA Tryz.underlying22 sz5k rfl rfl) rfl<|sP (x':=List.set (List.replicate (Int.toNat (IntKind.wrap .i64 (xA - 32))) (0:Int)) (Int.toNat 0) (IntKind.wrap .u8 (shrI .i64 (a3.length:Int) 8))) (.own hA) (.ix .id hA) sz5k rfl rfl rdI rfl<|ov (OpV.ixO bA Tryz.underlying22 sz5k rfl rfl) rfl<|sP (x':=List.set (List.set (List.replicate (Int.toNat (IntKind.wrap .i64 (xA - 32))) (0:Int)) (Int.toNat 0) (IntKind.wrap .u8 (shrI .i64 (a3.length:Int) 8))) (Int.toNat 1) (IntKind.wrap .u8 (a3.length:Int))) (.own bA) (.ix .id bA) sz5k rfl rfl rdI rfl<|ns<|m_ rfl ?_
    replace yA:(0:Int)≤2∧(2:Int)≤((List.set (List.set (List.replicate (Int.toNat (IntKind.wrap .i64 (xA - 32))) (0:Int)) (Int.toNat 0) (IntKind.wrap .u8 (shrI .i64 (a3.length:Int) 8))) (Int.toNat 1) (IntKind.wrap .u8 (a3.length:Int))).length:Int)∧(((List.set (List.set (List.replicate (Int.toNat (IntKind.wrap .i64 (xA - 32))) (0:Int)) (Int.toNat 0) (IntKind.wrap .u8 (shrI .i64 (a3.length:Int) 8))) (Int.toNat 1) (IntKind.wrap .u8 (a3.length:Int))).length:Int):Int)≤((List.set (List.set (List.replicate (Int.toNat (IntKind.wrap .i64 (xA - 32))) (0:Int)) (Int.toNat 0) (IntKind.wrap .u8 (shrI .i64 (a3.length:Int) 8))) (Int.toNat 1) (IntKind.wrap .u8 (a3.length:Int))).length:Int):=of_decide_eq_true yA
    refine gs hF fun zA hF=>Under.slO (l:=2) (h:=((List.set (List.set (List.replicate (Int.toNat (IntKind.wrap .i64 (xA - 32))) (0:Int)) (Int.toNat 0) (IntKind.wrap .u8 (shrI .i64 (a3.length:Int) 8))) (Int.toNat 1) (IntKind.wrap .u8 (a3.length:Int))).length:Int)) Tryz.underlying22 sz5k rfl rfl rfl (And.left yA) (And.left (And.right yA)) (And.right (And.right yA)) rfl<|m_ rfl ?_
    replace zA:(Int.toNat 2)≤(Int.toNat ((List.set (List.set (List.replicate (Int.toNat (IntKind.wrap .i64 (xA - 32))) (0:Int)) (Int.toNat 0) (IntKind.wrap .u8 (shrI .i64 (a3.length:Int) 8))) (Int.toNat 1) (IntKind.wrap .u8 (a3.length:Int))).length:Int))∧(Int.toNat ((List.set (List.set (List.replicate (Int.toNat (IntKind.wrap .i64 (xA - 32))) (0:Int)) (Int.toNat 0) (IntKind.wrap .u8 (shrI .i64 (a3.length:Int) 8))) (Int.toNat 1) (IntKind.wrap .u8 (a3.length:Int))).length:Int))≤(List.length (List.set (List.set (List.replicate (Int.toNat (IntKind.wrap .i64 (xA - 32))) (0:Int)) (Int.toNat 0) (IntKind.wrap .u8 (shrI .i64 (a3.length:Int) 8))) (Int.toNat 1) (IntKind.wrap .u8 (a3.length:Int)))):=of_decide_eq_true zA
    refine bs hF fun pA dA hF=>bs hF fun tA eA hF=>bs hF fun uA cA hF=>bs hF fun xB qA hF=>bs hF fun yB rA hF=>Under.cpO (And.left zA) (And.right zA) Tryz.underlying22 sz5k rfl rfl (.sl rdV) rfl<|nl<|fzO (t:=12) rfl<|tn<|sr<|oF fb181k rfl<|oL kt64 rfl<|ov (OpV.bar (ys:=(List.replicate 16 (0:Int))) BTA64 (BldA.nil _)) rfl<|m_ rfl<|cx Tryz.call103 rfl (o63 dA _)<|a_ rfl<|ns<|bO (ys:=[]) Tryz.underlying22 ET5 (BldA.nil _) rfl rfl fun zB=>ov (OpV.slA Tryz.underlying64 sz5 rfl) rfl<|ap eA Tryz.underlying22 AT5 rfl rfl rdV rfl fun hB=>a_ rfl<|ns<|m_ rfl<|oL kt181 rfl<|m_ rfl<|oL kt64 rfl<|m_ rfl<|cx Tryz.call101 rfl (o112 cA _)<|ap qA Tryz.underlying22 AT5 rfl rfl rdV rfl fun bB=>a_ rfl<|ns<|m_ rfl<|m_ rfl<|ap rA Tryz.underlying22 AT5 rfl rfl rdV rfl fun vB=>a_ rfl<|a_ rfl<|nl<|fzO (t:=8) rfl<|tn<|rc ?_
    cases osi hF
    exact rs Tryz.results201 (.tm rfl (.tm rfl .nil)) rfl rfl
 ·refine by_ (t:=23) rfl (fun c4=>?_) (fun c4=>?_)
  ·replace h5:=ctrue c4 h5
   exact sk_ c4 rfl<|sk_ c4 rfl<|sk_ c4 rfl<|pT c4 rfl<|rf 3 (rbq h5) rfl k
  ·replace h5:=cfalse c4 h5
   exact bs h5 fun y7 h8 h5=>gc_ c4 rfl<|m_ rfl<|gc_ c4 rfl<|cx Tryz.call79 rfl (o46 h8 _)<|gc_ c4 rfl<|b_ rfl<|pF c4 rfl<|rf 3 (rbq h5) rfl k
noncomputable def jT (a0:List Int) (a1:List Int) (a2:Int) (a3:List Int):Option ((List Int)×Int):=
 (ju a0 a1).bind fun y1=>
 bif y1.2 != 0 then
  some ([],y1.2)
 else
  (iP y1.1 a1 a2 a3).bind fun y4=>
  some (y4.1,y4.2)
theorem o114 {a0 a1:List Int} {a2:Int} {a3:List Int} {r0:((List Int)×Int)} (hF:jT a0 a1 a2 a3=some r0) (L:List Res):Ok Tryz.prog 157 [SV.val K9 a0,SV.val K4 a1,SV.raw (.int .i64 a2),SV.val K9 a3] L (SV.tup [SV.val K9 r0.1,SV.raw (.int .i64 r0.2)]) L:=by
 unfold jT at hF
 refine okI 28 Tryz.func157 rfl rfl rfl fun F0=>?_
 refine bs hF fun y1 h2 hF=>sr<|bX (K:=kArr 16 K12) rfl rdV rfl<|a_ rfl<|a_ rfl<|ns<|m_ rfl<|oL kt64 rfl<|cx Tryz.call51 rfl (o109 h2 _)<|m_ rfl<|oE rfl<|oE rfl<|a_ rfl<|a_ rfl<|nt<|sq<|sr<|mb rfl<|nt<|it hF rfl (fun hF=>?_) (fun hF=>?_)
 ·refine sr<|m_ rfl<|a_ rfl<|a_ rfl<|nt<|rt<|tV (K:=kSl K12) (x:=[]) (t:=8) rfl rdN ?_
  cases osi hF
  exact rs Tryz.results157 (.tm rfl (.tm rfl .nil)) rfl rfl
 ·refine bs hF fun y4 h5 hF=>ct<|sr<|m_ rfl<|oL kt64 rfl<|m_ rfl<|m_ rfl<|cx Tryz.call201 rfl (o113 h5 _)<|oE rfl<|oE rfl<|a_ rfl<|a_ rfl<|nt<|rc ?_
  cases osi hF
  exact rs Tryz.results157 (.tm rfl (.tm rfl .nil)) rfl rfl
noncomputable def ge (a0:List Int) (a1:List Int) (a2:Int) (a3:List Int):Option ((List Int)×Bool):=
 (ij a3 a2).bind fun y1=>
 bif !y1.2 then
  some ([],false)
 else
  (jT a0 a1 a2 y1.1).bind fun y4=>
  bif y4.2 != 0 then
   some ([],false)
  else
   (jb y4.1).bind fun y7=>
   some (y7.1,y7.2==0)
theorem o115 {a0 a1:List Int} {a2:Int} {a3:List Int} {r0:((List Int)×Bool)} (hF:ge a0 a1 a2 a3=some r0) (L:List Res):Ok Tryz.prog 96 [SV.val K9 a0,SV.val K4 a1,SV.raw (.int .i64 a2),SV.val K9 a3] L (SV.tup [SV.val K9 r0.1,SV.raw (.bool r0.2)]) L:=by
 unfold ge at hF
 refine okI 41 Tryz.func96 rfl rfl rfl fun F0=>?_
 refine bs hF fun y1 h2 hF=>sr<|bX (K:=kArr 16 K12) rfl rdV rfl<|a_ rfl<|a_ rfl<|ns<|m_ rfl<|m_ rfl<|cx Tryz.call156 rfl (o108 h2 _)<|m_ rfl<|oE rfl<|oE rfl<|a_ rfl<|a_ rfl<|nt<|sq<|sr<|m_ rfl<|ov (OpV.not rfl) rfl<|nt<|it hF rfl (fun hF=>?_) (fun hF=>?_)
 ·refine sr<|a_ rfl<|a_ rfl<|nt<|rt<|tV (K:=kSl K12) (x:=[]) (t:=8) rfl rdN ?_
  cases osi hF
  exact rs Tryz.results96 (.tm rfl (.tm rfl .nil)) rfl rfl
 ·refine bs hF fun y4 h5 hF=>ct<|sr<|m_ rfl<|oL kt64 rfl<|m_ rfl<|m_ rfl<|cx Tryz.call157 rfl (o114 h5 _)<|m_ rfl<|oE rfl<|oE rfl<|a_ rfl<|a_ rfl<|nt<|sq<|sr<|mb rfl<|nt<|it hF rfl (fun hF=>?_) (fun hF=>?_)
  ·refine sr<|a_ rfl<|a_ rfl<|nt<|rt<|tV (K:=kSl K12) (x:=[]) (t:=8) rfl rdN ?_
   cases osi hF
   exact rs Tryz.results96 (.tm rfl (.tm rfl .nil)) rfl rfl
  ·refine bs hF fun y7 h8 hF=>ct<|sr<|m_ rfl<|cx Tryz.call80 rfl (o66 h8 _)<|m_ rfl<|oE rfl<|oE rfl<|a_ rfl<|a_ rfl<|ns<|m_ rfl<|mb rfl<|a_ rfl<|a_ rfl<|nt<|rc ?_
   cases osi hF
   exact rs Tryz.results96 (.tm rfl (.tm rfl .nil)) rfl rfl
noncomputable def gh (a0:aB) (a1:aK) (a2:List Int):Option ((List Int)×Int×Int):=
 (gg a0 (⟨(0:Int),(⟨(0:Int),[]⟩:ah)⟩:aL)).bind fun y1=>
 bif y1 != 0 then
  some ([],0,210)
 else
  (gY a1).bind fun y4=>
  bif (y4 != 0)||(a1.Header.Left != (IntKind.wrap .i64 (a0.Left - 1))) then
   some ([],0,290)
  else
   (eO a2).bind fun bA=>
   bif bA.2.2 != 0 then
    some ([],bA.2.1,bA.2.2)
   else
    bif bA.1.Header.Left != a1.Header.Left then
     some ([],0,212)
    else
     bif bA.1.Header.Round != a1.Header.Round then
      some ([],0,211)
     else
      bif bA.1.Header.Epoch != a1.Header.Epoch then
       some ([],0,161)
      else
       bif (bA.1.Cells.length:Int) != (a1.From.length:Int) then
        some ([],0,63)
       else
        (gK a0.Master a1.Header.Epoch).bind fun dA=>
        bif dA.2 != 0 then
         some ([],0,dA.2)
        else
         bif mkB a1.Count a1.Count then
         (((Loop.run (S:=(Int×(List (List Int)))) (R:=(List (List Int))) (fun(yA,vA)=>
           bif decide (yA<((List.replicate (Int.toNat a1.Count) ([]:List Int)).length:Int)) then
            bif mkB 320 320 then
            (idx vA yA).bind fun mA=>
            some (.next (IntKind.wrap .i64 (yA+1),List.set vA (Int.toNat yA) (List.replicate (Int.toNat 320) (0:Int))))
            else none
           else
            some (.done vA)) (0,List.replicate (Int.toNat a1.Count) ([]:List Int))).bind fun eA=>
         some eA
          :Option (List (List Int)))).bind fun nA=>
         (((Loop.run (S:=(Int×(List (List Int)))) (R:=ao) (fun(zA,xA)=>
           bif decide (zA<(a1.From.length:Int)) then
            (((idx a1.From zA).bind fun hA=>
            bif decide (hA<0) then
             some xA
            else
             (idx a1.Nonces hA).bind fun cA=>
             (idx bA.1.Cells zA).bind fun qA=>
             (ge dA.1 cA a0.Left qA).bind fun oA=>
             bif oA.2 then
              (idx xA hA).bind fun pA=>
              some (List.set xA (Int.toNat hA) oA.1)
             else
              some xA
             :Option (List (List Int)))).bind fun rA=>
            some (.next (IntKind.wrap .i64 (zA+1),rA))
           else
            some (.done (⟨({a1.Header with Left:=a0.Left}:ab),xA⟩:ao))) (0,nA)).bind fun wA=>
         some wA
          :Option ao)).bind fun gA=>
         (gX gA).bind fun kA=>
         some (kA.1,0,kA.2)
         else none
theorem o116 {a0:aB} {a1:aK} {a2:List Int} {r0:((List Int)×Int×Int)} (hF:gh a0 a1 a2=some r0) (L:List Res):Ok Tryz.prog 47 [SV.val aJ a0,SV.val aI a1,SV.val K9 a2] L (SV.tup [SV.val K9 r0.1,SV.raw (.int .i64 r0.2.1),SV.raw (.int .i64 r0.2.2)]) L:=by
 unfold gh at hF
 refine okI 155 Tryz.func47 rfl rfl rfl fun F0=>?_
 refine bs hF fun y1 h2 hF=>sr<|bX (K:=aJ) rfl rdV rfl<|bX (K:=aI) rfl rdV rfl<|a_ rfl<|a_ rfl<|a_ rfl<|nt<|sq<|sr<|oL kt24 rfl<|ov (OpV.bst BT29 (Bld.nil _)) rfl<|cx Tryz.call21 rfl (o10 h2 _)<|a_ rfl<|ns<|mb rfl<|nt<|it hF rfl (fun hF=>?_) (fun hF=>?_)
 ·refine sr<|a_ rfl<|a_ rfl<|a_ rfl<|nt<|rt<|tV (K:=kSl K12) (x:=[]) (t:=6) rfl rdN ?_
  cases osi hF
  exact rs Tryz.results47 (.tm rfl (.tm rfl (.tm rfl .nil))) rfl rfl
 ·refine bs hF fun y4 h5 hF=>ct<|sq<|sr<|oL kt87 rfl<|cx Tryz.call45 rfl (o104 h5 _)<|b_ rfl<|m_ rfl<|yk 37 ((y4 != 0)||(a1.Header.Left != (IntKind.wrap .i64 (a0.Left - 1)))) ?_ (fun k=>?_)
  ·refine nt<|it hF rfl (fun hF=>?_) (fun hF=>?_)
   ·refine sr<|a_ rfl<|a_ rfl<|a_ rfl<|nt<|rt<|tV (K:=kSl K12) (x:=[]) (t:=6) rfl rdN ?_
    cases osi hF
    exact rs Tryz.results47 (.tm rfl (.tm rfl (.tm rfl .nil))) rfl rfl
   ·refine bs hF fun rA pB hF=>ct<|sr<|m_ rfl<|cx Tryz.call20 rfl (o20 pB _)<|m_ rfl<|oE rfl<|oE rfl<|oE rfl<|al ZT46 rfl fun wC=>sP (x':=rA.1) .box .id sz46k rfl rfl rdV rfl<|a_ rfl<|a_ rfl<|nl<|fz (t:=10) rfl<|tn<|sq<|sr<|mb rfl<|nt<|it hF rfl (fun hF=>?_) (fun hF=>?_)
    ·refine sr<|m_ rfl<|m_ rfl<|a_ rfl<|a_ rfl<|a_ rfl<|nt<|rt<|tV (K:=kSl K12) (x:=[]) (t:=6) rfl rdN ?_
     cases osi hF
     exact rs Tryz.results47 (.tm rfl (.tm rfl (.tm rfl .nil))) rfl rfl
    ·refine ct<|sq<|bk<|sr<|oF fb46k rfl<|oF fb43k rfl<|oI kt3 rfl<|oF fb87k1 rfl<|oF fb43k rfl<|oI kt3 rfl<|b_ rfl<|a_ rfl<|nt<|it hF rfl (fun hF=>?_) (fun hF=>?_)
     ·refine sr<|a_ rfl<|a_ rfl<|a_ rfl<|nt<|rc<|Under.bR<|tr<|tV (K:=kSl K12) (x:=[]) (t:=6) rfl rdN ?_
      cases osi hF
      exact rs Tryz.results47 (.tm rfl (.tm rfl (.tm rfl .nil))) rfl rfl
     ·refine sr<|oF fb46k rfl<|oF fb43k1 rfl<|oI kt2 rfl<|oF fb87k1 rfl<|oF fb43k1 rfl<|oI kt2 rfl<|b_ rfl<|a_ rfl<|nt<|it hF rfl (fun hF=>?_) (fun hF=>?_)
      ·refine sr<|a_ rfl<|a_ rfl<|a_ rfl<|nt<|rc<|Under.bR<|tr<|tV (K:=kSl K12) (x:=[]) (t:=6) rfl rdN ?_
       cases osi hF
       exact rs Tryz.results47 (.tm rfl (.tm rfl (.tm rfl .nil))) rfl rfl
      ·refine sr<|oF fb46k rfl<|oF fb43k2 rfl<|oI kt2 rfl<|oF fb87k1 rfl<|oF fb43k2 rfl<|oI kt2 rfl<|b_ rfl<|a_ rfl<|nt<|it hF rfl (fun hF=>?_) (fun hF=>?_)
       ·refine sr<|a_ rfl<|a_ rfl<|a_ rfl<|nt<|rc<|Under.bR<|tr<|tV (K:=kSl K12) (x:=[]) (t:=6) rfl rdN ?_
        cases osi hF
        exact rs Tryz.results47 (.tm rfl (.tm rfl (.tm rfl .nil))) rfl rfl
       ·refine sr<|oF fb46k1 rfl<|oL kt44 rfl<|oN Tryz.underlying44 rfl<|oF fb87k2 rfl<|oL kt68 rfl<|oN Tryz.underlying68 rfl<|b_ rfl<|a_ rfl<|nt<|it hF rfl (fun hF=>?_) (fun hF=>?_)
        ·refine sr<|a_ rfl<|a_ rfl<|a_ rfl<|nt<|rc<|Under.bR<|tr<|tV (K:=kSl K12) (x:=[]) (t:=6) rfl rdN ?_
         cases osi hF
         exact rs Tryz.results47 (.tm rfl (.tm rfl (.tm rfl .nil))) rfl rfl
        ·refine bs hF fun uA tB hF=>cs<|bN<|tn<|sr<|oF fb24k rfl<|oL kt22 rfl<|oF fb87k1 rfl<|oF fb43k2 rfl<|oI kt2 rfl<|cx Tryz.call48 rfl (o40 tB _)<|m_ rfl<|oE rfl<|oE rfl<|a_ rfl<|a_ rfl<|nt<|sq<|sr<|mb rfl<|nt<|it hF rfl (fun hF=>?_) (fun hF=>?_)
         ·refine sr<|m_ rfl<|a_ rfl<|a_ rfl<|a_ rfl<|nt<|rt<|tV (K:=kSl K12) (x:=[]) (t:=6) rfl rdN ?_
          cases osi hF
          exact rs Tryz.results47 (.tm rfl (.tm rfl (.tm rfl .nil))) rfl rfl
         ·refine gs hF fun uB hF=>ct<|sq<|ph rfl<|Under.grpT (L:=L) [0,1,2,3,4,5,6] [[4],[92],[4],[94],[95],[93,96],[]] [⟨sk0 (.ptr bu a1.Header),[],[],[]⟩,⟨sk0 (.val bu a1.Header),[],[],[]⟩,⟨sk0 (.ptr K10 a1.Count),[],[],[]⟩,⟨sk0 (.raw (.int .i64 a1.Count)),[],[],[]⟩,⟨sk1 4 (fun u4=> .raw u4),[],[(0,tk1 4 (fun u4=> .own K9 u4 22 (List.replicate (Int.toNat a1.Count) ([]:List Int))))],[]⟩,⟨sk1 4 (fun u4=> .val cc (⟨a1.Header,u4⟩:aY)),[],[],[0]⟩,⟨sk1 6 (fun u6=> .raw (.pointer (some ⟨(vblk u6),0,none⟩))),[],[(1,tk1 6 (fun u6=> .box cc (vblk u6) 46 (⟨(⟨(0:Int),(0:Int),(0:Int)⟩:ab),.slice none 0 0⟩:aY)))],[]⟩] [] (fun T:List Res=>T) lf0 rfl (by kernel_rfl) rfl rfl (fun F hF0 xA=>?_)
          refine Tq.v (fun G T hG=>?_) ?_
          ·exact oF fb87k1 rfl<|Tq.end undef rfl rfl
          refine Tq.v (fun G T hG=>?_) ?_
          ·exact oL kt43 rfl<|Tq.end undef rfl rfl
          refine Tq.v (fun G T hG=>?_) ?_
          ·exact oF fb87k rfl<|Tq.end undef rfl rfl
          refine Tq.v (fun G T hG=>?_) ?_
          ·exact oI kt3 rfl<|Tq.end undef rfl rfl
          refine Tq.st (.raw (xA 4)) [] rfl rfl (fun G T hG=>?_) ?_
          ·exact Under.mk uB Tryz.underlying44 AT22 rfl rfl rfl fun xC=>Tq.end xC rfl rfl
          refine Tq.r1 (.val cc (⟨a1.Header,(xA 4)⟩:aY)) [.own K9 (xA 4) 22 (List.replicate (Int.toNat a1.Count) ([]:List Int))] rfl rfl (fun G T hG=>?_) ?_
          ·exact Under.ownCell fun yC=>ov (OpV.bst kK (Bld.cons (x':=(⟨a1.Header,.slice none 0 0⟩:aY)) rfl rfl rdV (by intro q hq;simp only[List.mem_cons,List.not_mem_nil,or_false] at hq;rcases hq with rfl<;>rfl) (Bld.cons (x':=(⟨a1.Header,(xA 4)⟩:aY)) rfl rfl (fT yC) ⟨rfl,(fun q hq=>by simp at hq)⟩ (Bld.nil _)))) rfl<|Tq.end undef rfl rfl
          refine Tq.st (.raw (.pointer (some ⟨(vblk (xA 6)),0,none⟩))) [] rfl rfl (fun G T hG=>?_) ?_
          ·exact al ZT46k rfl fun zC=>Tq.end (.pointer (some ⟨zC,0,none⟩)) rfl rfl
          refine bs hF fun xB yB hF=>Tq.nil<|Under.le hF0<|p1 7 rfl rfl<|f1<|sP (x':=(⟨a1.Header,(xA 4)⟩:aY)) .box .id sz46k1 rfl rfl rdV rfl<|pn<|pd rfl<|tn<|sr<|oF fb24k1 rfl<|oI kt3 rfl<|oM AL rfl<|oM ta rfl<|sP (x':=(⟨({a1.Header with Left:=a0.Left}:ab),(xA 4)⟩:aY)) .box (.fld (.fld .id ot) ip) sz3k rfl rfl rdI rfl<|nt<|sq<|afr (r:=xB) (fun xB=>[(3,.ptr aJ a0),(4,.ptr aI a1),(10,.ptr aV rA.1),(13,.val K9 uA.1),(14,.raw (.pointer (some ⟨(vblk (xA 6)),0,none⟩)))]) (fun xB=>((.own K9 (xA 4) 22 xB)::(.box cc (vblk (xA 6)) 46 (⟨({a1.Header with Left:=a0.Left}:ab),(xA 4)⟩:aY))::L)) ?_ fun K hC=>?_
          ·refine bs hF fun oA dA hF=>sq<|afr (r:=oA) (fun oA=>[(14,.ptr aV oA)]) (fun oA=>(L)) ?_ fun K zB=>?_
           ·refine bs hF fun bC hB hF=>sr<|oL kt46 rfl<|cx Tryz.call68 rfl (o100 hB _)<|m_ rfl<|oE rfl<|oE rfl<|a_ rfl<|a_ rfl<|ns<|m_ rfl<|m_ rfl<|a_ rfl<|a_ rfl<|a_ rfl<|nt<|rc ?_
            cases osi hF
            exact rs Tryz.results47 (.tm rfl (.tm rfl (.tm rfl .nil))) rfl rfl
           ·refine bs dA fun vC bB dA=>sr<|oF fb87k2 rfl<|oL kt68 rfl<|oN Tryz.underlying68 rfl<|m_ rfl<|nt<|bk<|lp bB () (fun bA wA=>[(3,.ptr aJ a0),(4,.ptr aI a1),(10,.ptr aV rA.1),(13,.val K9 uA.1),(14,.raw (.pointer (some ⟨(vblk (xA 6)),0,none⟩))),(115,.val K8 a1.From),(116,.raw (.int .i64 (a1.From.length:Int))),(117,.raw (.int .i64 bA.1))]) (fun bA wA=>(.own K9 (xA 4) 22 bA.2)::(.box cc (vblk (xA 6)) 46 (⟨({a1.Header with Left:=a0.Left}:ab),(xA 4)⟩:aY))::L) rfl rfl fun bA wA oC hA vB=>?_
            obtain⟨oB,gA⟩:=bA
            dsimp only at hA⊢
            refine sr<|b_ rfl<|nt<|sq<|it hA rfl (fun hA=>?_) (fun hA=>?_)
            ·refine bs hA fun kA yA hA=>ct<|sq<|afr (r:=kA) (fun kA=>[(3,.ptr aJ a0),(4,.ptr aI a1),(10,.ptr aV rA.1),(13,.val K9 uA.1),(14,.raw (.pointer (some ⟨(vblk (xA 6)),0,none⟩))),(115,.val K8 a1.From),(116,.raw (.int .i64 (a1.From.length:Int))),(117,.raw (.int .i64 oB))]) (fun kA=>((.own K9 (xA 4) 22 kA)::(.box cc (vblk (xA 6)) 46 (⟨({a1.Header with Left:=a0.Left}:ab),(xA 4)⟩:aY))::L)) ?_ fun K eA=>?_
             ·exact rg<|b_ rfl<|m_ rfl<|nl<|nx () hA rfl rfl
             ·refine bs yA fun kB dB yA=>bk<|sr<|m_ rfl<|oS dB Tryz.underlying68 sz3 rfl<|oI kt3 rfl<|a_ rfl<|a_ rfl<|nt<|sq<|sr<|mb rfl<|nt<|it yA rfl (fun yA=>?_) (fun yA=>?_)
              ·exact xt<|te<|bh<|tn<|wr (eA _ (osi yA).symm) rfl
              ·refine bs yA fun kC eB yA=>bs yA fun dC cB yA=>bs yA fun qB rB yA=>ct<|sq<|ph rfl<|gV [0,1,2,3,4,5,6,7,8,9,10,11,12] [[13],[4],[126],[17],[127,128],[129],[3],[131],[10],[133],[16],[134,135],[136]] 2 (by kernel_rfl) rfl<|vm_ rfl<|vo (fun _=>OpV.fd fb87k3 rfl rfl) rfl<|vo (fun _=>OpV.ld kt85 rfl) rfl<|vm_ rfl<|vo (fun _=>OpV.ixS eB Tryz.underlying85 sz64 rfl rdV rfl) rfl<|vo (fun _=>OpV.ld kt64 rfl) rfl<|vo (fun _=>OpV.fd fb24k1 rfl rfl) rfl<|vo (fun _=>OpV.ldI kt3 rfl) rfl<|vo (fun _=>OpV.fd fb46k1 rfl rfl) rfl<|vo (fun _=>OpV.ld kt44 rfl) rfl<|vm_ rfl<|vo (fun _=>OpV.ixS cB Tryz.underlying44 sz22 rfl rdV rfl) rfl<|vo (fun _=>OpV.ld kt22 rfl) rfl<|vn<|p1 13 rfl rfl<|cx Tryz.call96 rfl (o115 rB _)<|pn<|p1 14 rfl rfl<|m_ rfl<|pn<|gV [15,16,17] [[124],[124],[139]] 2 (by kernel_rfl) rfl<|vo (fun _=>OpV.extr rfl rfl) rfl<|vo (fun _=>OpV.extr rfl rfl) rfl<|Vq.v (fun G T hG=>a_ rfl<|Vq.end rfl)<|vn<|p1 18 rfl rfl<|a_ rfl<|pn<|pd rfl<|tn<|sr<|m_ rfl<|nt<|it yA rfl (fun yA=>?_) (fun yA=>?_)
               ·exact bs yA fun eC cA yA=>rg<|oM qR rfl<|f1<|lP .box (.fld .id fi) kt44k rfl rfl<|Under.rawR (t:=143) rfl<|m_ rfl<|m_ rfl<|f1<|ov (OpV.ixO cA Tryz.underlying44 sz22k1 rfl rfl) rfl<|sP (x':=List.set gA (Int.toNat kB) qB.1) (.own cA) (.ix .id cA) sz22k1 rfl rfl rdV rfl<|nl<|bN<|tn<|wr (eA _ (osi yA).symm) rfl
               ·exact cs<|bN<|tn<|wr (eA _ (osi yA).symm) rfl
            ·refine Under.frzBO (fs:=gn) (⟨({a1.Header with Left:=a0.Left}:ab),gA⟩:ao) (fun F hv=>⟨fun _ h=>h,iB hv,trivial⟩)<|fz (t:=14) rfl<|xt<|te ?_
             cases ai hA vB
             exact te<|bh<|tn<|wr (zB _ (osi dA).symm) rfl
          ·refine bs yB fun cC wB yB=>sr<|oM qR rfl<|lP .box (.fld .id fi) kt44k rfl rfl<|Under.rawR (t:=103) rfl<|f1<|ov (OpV.lenO Tryz.underlying44 rfl) rfl<|m_ rfl<|nt<|bk<|lp wB () (fun vA mA=>[(3,.ptr aJ a0),(4,.ptr aI a1),(10,.ptr aV rA.1),(13,.val K9 uA.1),(14,.raw (.pointer (some ⟨(vblk (xA 6)),0,none⟩))),(104,.raw (.int .i64 ((List.replicate (Int.toNat a1.Count) ([]:List Int)).length:Int))),(105,.raw (.int .i64 vA.1))]) (fun vA mA=>(.own K9 (xA 4) 22 vA.2)::(.box cc (vblk (xA 6)) 46 (⟨({a1.Header with Left:=a0.Left}:ab),(xA 4)⟩:aY))::L) rfl rfl fun vA mA qC zA gB=>?_
           obtain⟨nA,pA⟩:=vA
           dsimp only at zA⊢
           refine sr<|b_ rfl<|nt<|sq<|it zA rfl (fun zA=>?_) (fun zA=>?_)
           ·refine gs zA fun mB zA=>bs zA fun rC qA zA=>ct<|sq<|bk<|sr<|m_ rfl<|a_ rfl<|nt<|ph rfl<|Under.grpT (L:=L) [0,1,2,3] [[14],[108],[15],[]] [⟨sk0 (.raw (.pointer (some ⟨(vblk (xA 6)),0+3,none⟩))),[],[],[]⟩,⟨sk0 (.raw (xA 4)),[],[],[]⟩,⟨sk0 (.raw (.int .i64 nA)),[],[],[]⟩,⟨sk1 3 (fun u3=> .raw u3),[],[(0,tk1 3 (fun u3=> .own K12 u3 5 (List.replicate (Int.toNat 320) (0:Int))))],[]⟩] [] (fun T:List Res=>(.own K9 (xA 4) 22 pA)::(.box cc (vblk (xA 6)) 46 (⟨({a1.Header with Left:=a0.Left}:ab),(xA 4)⟩:aY))::T) lf2 rfl (by kernel_rfl) rfl rfl (fun F hF0 tA=>?_)
            refine Tq.v (fun G T hG=>?_) ?_
            ·exact oM qR rfl<|Tq.end undef rfl rfl
            refine Tq.v (fun G T hG=>?_) ?_
            ·exact f1<|lP .box (.fld .id fi) kt44k rfl rfl<|Under.rawR (t:=109) rfl<|f1<|Tq.end undef rfl rfl
            refine Tq.v (fun G T hG=>?_) ?_
            ·exact m_ rfl<|Tq.end undef rfl rfl
            refine Tq.st (.raw (tA 3)) [] rfl rfl (fun G T hG=>?_) ?_
            ·exact Under.mk mB Tryz.underlying22 AT5 rfl rfl rfl fun nB=>Tq.end nB rfl rfl
            exact Tq.nil<|Under.le hF0<|p1 4 rfl rfl<|ov (OpV.ixO qA Tryz.underlying44 sz22k1 rfl rfl) rfl<|pn<|p1 5 rfl rfl<|f2<|fzO (t:=111) rfl<|sP (x':=List.set pA (Int.toNat nA) (List.replicate (Int.toNat 320) (0:Int))) (.own qA) (.ix .id qA) sz22k1 rfl rfl rdV rfl<|pn<|pd rfl<|bN<|tn<|rg<|b_ rfl<|m_ rfl<|nl<|nx () zA rfl rfl
           ·refine xt<|te ?_
            cases ai zA gB
            exact te<|bh<|tn<|wr (hC _ (osi yB).symm) rfl
  ·refine by_ (t:=29) rfl (fun c6=>?_) (fun c6=>?_)
   ·exact sk_ c6 rfl<|sk_ c6 rfl<|sk_ c6 rfl<|sk_ c6 rfl<|sk_ c6 rfl<|sk_ c6 rfl<|sk_ c6 rfl<|pT c6 rfl<|rf 7 (or_t (e:=a1.Header.Left != (IntKind.wrap .i64 (a0.Left - 1))) c6) rfl k
   ·exact gc_ c6 rfl<|oF fb87k1 rfl<|gc_ c6 rfl<|oF fb43k rfl<|gc_ c6 rfl<|oI kt3 rfl<|gc_ c6 rfl<|oF fb24k1 rfl<|gc_ c6 rfl<|oI kt3 rfl<|gc_ c6 rfl<|b_ rfl<|gc_ c6 rfl<|b_ rfl<|pF c6 rfl<|rf 7 (or_f c6) rfl k
noncomputable def eY:Option Bool:=
 (fY).bind fun y2=>
 bif decide (0<[67,72,82,78,1,2,0,0,0,0,0,0,0,0,0,7,0,0,0,0,0,0,0,1,26,196,1,55].length) then
 bif mkB 18 18 then
 (kh y2 (⟨(0:Int),(⟨(0:Int),[]⟩:ah)⟩:aL) [67,72,82,78,1,2,0,0,0,0,0,0,0,0,0,7,0,0,0,0,0,0,0,1,26,196,1,55] (List.replicate (Int.toNat 18) (0:Int))).bind fun y9=>
 bif ((((y9.1.Err != 0)||((strB y9.1.Out) != [67,72,82,78,1,1,0,0,0,0,0,0,0,0,0,7,0,0,0,0,0,0,0,1,26,177,1,54]))||(y9.2.Count != 0))||(y9.2.Header.Round != 7))||(y9.2.Header.Left != 1) then
  some false
 else
  (fY).bind fun yA=>
  bif decide (0<[67,72,82,78,1,1,0,0,0,0,0,0,0,0,0,7,0,0,0,0,0,0,0,1,26,177,1,54].length) then
  (gh yA y9.2 [67,72,82,78,1,1,0,0,0,0,0,0,0,0,0,7,0,0,0,0,0,0,0,1,26,177,1,54]).bind fun xA=>
  ((bif ((xA.2.2==0)&&(xA.2.1==0))&&((strB xA.1)==[67,72,82,78,1,2,0,0,0,0,0,0,0,0,0,7,0,0,0,0,0,0,0,1,26,196,1,55]) then
   (gY (⟨(⟨(0:Int),(0:Int),(0:Int)⟩:ab),1,[],[]⟩:aK)).bind fun zA=>
   some (zA==290)
  else
   some false
   :Option Bool)).bind fun hA=>
  some hA
  else none
 else none
 else none
theorem o117 {r0:Bool} (hF:eY=some r0) (L:List Res):Ok Tryz.prog 40 [] L (SV.raw (.bool r0)) L:=by
 unfold eY at hF
 refine okI 66 Tryz.func40 rfl rfl rfl fun F0=>?_
 refine bs hF fun y2 h3 hF=>gs hF fun h5 hF=>gs hF fun h7 hF=>bs hF fun y9 rA hF=>sr<|a_ rfl<|nt<|sq<|ph rfl<|Under.grpT (L:=L) [0,1,2,3,4,5,6,7,8,9,10,11] [[],[],[],[9],[],[7,8,10,11],[12],[6],[6],[],[],[1,13]] [⟨sk0 (.val aJ y2),[],[],[]⟩,⟨sk0 (.val bT (⟨(0:Int),(⟨(0:Int),[]⟩:ah)⟩:aL)),[],[],[]⟩,⟨sk1 2 (fun u2=> .raw u2),[],[(0,tk1 2 (fun u2=> .own K12 u2 5 [67,72,82,78,1,2,0,0,0,0,0,0,0,0,0,7,0,0,0,0,0,0,0,1,26,196,1,55]))],[]⟩,⟨sk0 (.val K9 [67,72,82,78,1,2,0,0,0,0,0,0,0,0,0,7,0,0,0,0,0,0,0,1,26,196,1,55]),[0],[],[]⟩,⟨sk1 4 (fun u4=> .raw u4),[],[(1,tk1 4 (fun u4=> .own K12 u4 5 (List.replicate (Int.toNat 18) (0:Int))))],[]⟩,⟨sk0 (.tup [.val aT y9.1,.val aI y9.2]),[1],[],[]⟩,⟨sk0 (.tup [.val aT y9.1,.val aI y9.2]),[],[],[]⟩,⟨sk0 (.val aT y9.1),[],[],[]⟩,⟨sk0 (.val aI y9.2),[],[],[]⟩,⟨sk1 9 (fun u9=> .raw (.pointer (some ⟨(vblk u9),0,none⟩))),[],[(2,tk1 9 (fun u9=> .box aT (vblk u9) 37 (⟨[],(⟨(0:Int),(⟨(0:Int),[]⟩:ah)⟩:aL),(⟨(0:Int),(0:Int),(0:Int),(0:Int),(0:Int)⟩:av),(0:Int),(0:Int)⟩:aO)))],[]⟩,⟨sk1 10 (fun qA=> .raw (.pointer (some ⟨(vblk qA),0,none⟩))),[],[(3,tk1 10 (fun qA=> .box aI (vblk qA) 87 (⟨(⟨(0:Int),(0:Int),(0:Int)⟩:ab),(0:Int),[],[]⟩:aK)))],[]⟩,⟨sk0 (.raw undef),[2],[(4,tk1 9 (fun u9=> .box aT (vblk u9) 37 y9.1))],[]⟩] [] (fun T:List Res=>T) lf0 rfl (by kernel_rfl) rfl rfl (fun F hF0 dA=>?_)
 refine Tq.v (fun G T hG=>?_) ?_
 ·exact cx Tryz.call91 rfl (o0 h3 _)<|Tq.end undef rfl rfl
 refine Tq.v (fun G T hG=>?_) ?_
 ·exact ov (OpV.bst BT29 (Bld.nil _)) rfl<|Tq.end undef rfl rfl
 refine Tq.st (.raw (dA 2)) [] rfl rfl (fun G T hG=>?_) ?_
 ·exact bO (ys:=[67,72,82,78,1,2,0,0,0,0,0,0,0,0,0,7,0,0,0,0,0,0,0,1,26,196,1,55]) Tryz.underlying22 ET5 (BldA.cons rfl rfl rdI (BldA.cons rfl rfl rdI (BldA.cons rfl rfl rdI (BldA.cons rfl rfl rdI (BldA.cons rfl rfl rdI (BldA.cons rfl rfl rdI (BldA.cons rfl rfl rdI (BldA.cons rfl rfl rdI (BldA.cons rfl rfl rdI (BldA.cons rfl rfl rdI (BldA.cons rfl rfl rdI (BldA.cons rfl rfl rdI (BldA.cons rfl rfl rdI (BldA.cons rfl rfl rdI (BldA.cons rfl rfl rdI (BldA.cons rfl rfl rdI (BldA.cons rfl rfl rdI (BldA.cons rfl rfl rdI (BldA.cons rfl rfl rdI (BldA.cons rfl rfl rdI (BldA.cons rfl rfl rdI (BldA.cons rfl rfl rdI (BldA.cons rfl rfl rdI (BldA.cons rfl rfl rdI (BldA.cons rfl rfl rdI (BldA.cons rfl rfl rdI (BldA.cons rfl rfl rdI (BldA.cons rfl rfl rdI (BldA.nil _))))))))))))))))))))))))))))) rfl rfl fun v4=>Tq.end v4 rfl rfl
 refine Tq.st (.val K9 [67,72,82,78,1,2,0,0,0,0,0,0,0,0,0,7,0,0,0,0,0,0,0,1,26,196,1,55]) [.own K12 (dA 2) 5 [67,72,82,78,1,2,0,0,0,0,0,0,0,0,0,7,0,0,0,0,0,0,0,1,26,196,1,55]] rfl rfl (fun G T hG=>?_) ?_
 ·exact Under.cvS Tryz.underlying22 Tryz.underlying5 (of_decide_eq_true h5) rfl rfl<|Tq.end undef rfl rfl
 refine Tq.st (.raw (dA 4)) [] rfl rfl (fun G T hG=>?_) ?_
 ·exact Under.mk h7 Tryz.underlying22 AT5 rfl rfl rfl fun v6=>Tq.end v6 rfl rfl
 refine Tq.st (.tup [.val aT y9.1,.val aI y9.2]) [.own K12 (dA 4) 5 (List.replicate (Int.toNat 18) (0:Int))] rfl rfl (fun G T hG=>?_) ?_
 ·exact fzO (t:=11) rfl<|cx Tryz.call42 rfl (o103 rA _)<|Tq.end undef rfl rfl
 refine Tq.v (fun G T hG=>?_) ?_
 ·exact m_ rfl<|Tq.end undef rfl rfl
 refine Tq.v (fun G T hG=>?_) ?_
 ·exact oE rfl<|Tq.end undef rfl rfl
 refine Tq.v (fun G T hG=>?_) ?_
 ·exact oE rfl<|Tq.end undef rfl rfl
 refine Tq.st (.raw (.pointer (some ⟨(vblk (dA 9)),0,none⟩))) [] rfl rfl (fun G T hG=>?_) ?_
 ·exact al ZT37 rfl fun wA=>Tq.end (.pointer (some ⟨wA,0,none⟩)) rfl rfl
 refine Tq.st (.raw (.pointer (some ⟨(vblk (dA 10)),0,none⟩))) [] rfl rfl (fun G T hG=>?_) ?_
 ·exact al ZT87 rfl fun gA=>Tq.end (.pointer (some ⟨gA,0,none⟩)) rfl rfl
 refine Tq.st0 [.box aT (vblk (dA 9)) 37 (⟨[],(⟨(0:Int),(⟨(0:Int),[]⟩:ah)⟩:aL),(⟨(0:Int),(0:Int),(0:Int),(0:Int),(0:Int)⟩:av),(0:Int),(0:Int)⟩:aO)] rfl (fun G T hG=>?_) ?_
 ·exact sP (x':=y9.1) .box .id sz37k rfl rfl rdV rfl<|Tq.end0 undef rfl
 refine Tq.nil<|Under.le hF0<|p1 12 rfl rfl<|sP (x':=y9.2) .box .id sz87k rfl rfl rdV rfl<|pn<|pd rfl<|fz (t:=2) rfl<|fz (t:=1) rfl<|tn<|sq<|sr<|oF fb37k rfl<|oI kt35 rfl<|b_ rfl<|m_ rfl<|jC 23 ((y9.1.Err != 0)||((strB y9.1.Out) != [67,72,82,78,1,1,0,0,0,0,0,0,0,0,0,7,0,0,0,0,0,0,0,1,26,177,1,54])) ?_ (fun k=>?_)
 ·refine m_ rfl<|bt 28 (((y9.1.Err != 0)||((strB y9.1.Out) != [67,72,82,78,1,1,0,0,0,0,0,0,0,0,0,7,0,0,0,0,0,0,0,1,26,177,1,54]))||(y9.2.Count != 0)) ?_ (fun k=>?_)
  ·refine m_ rfl<|jC 34 ((((y9.1.Err != 0)||((strB y9.1.Out) != [67,72,82,78,1,1,0,0,0,0,0,0,0,0,0,7,0,0,0,0,0,0,0,1,26,177,1,54]))||(y9.2.Count != 0))||(y9.2.Header.Round != 7)) ?_ (fun k=>?_)
   ·refine m_ rfl<|jC 40 (((((y9.1.Err != 0)||((strB y9.1.Out) != [67,72,82,78,1,1,0,0,0,0,0,0,0,0,0,7,0,0,0,0,0,0,0,1,26,177,1,54]))||(y9.2.Count != 0))||(y9.2.Header.Round != 7))||(y9.2.Header.Left != 1)) ?_ (fun k=>?_)
    ·refine nt<|it hF rfl (fun hF=>?_) (fun hF=>?_)
     ·refine sr<|a_ rfl<|nt<|rt ?_
      cases osi hF
      exact rs Tryz.results40 (.tm rfl .nil) rfl rfl
     ·refine bs hF fun mA nA hF=>gs hF fun pA hF=>bs hF fun eA tA hF=>ct<|sq<|ph rfl<|Under.grpT (L:=L) [0,1,2,3] [[],[2],[],[44]] [⟨sk0 (.val aJ mA),[],[],[]⟩,⟨sk0 (.val aI y9.2),[],[],[]⟩,⟨sk1 2 (fun u2=> .raw u2),[],[(0,tk1 2 (fun u2=> .own K12 u2 5 [67,72,82,78,1,1,0,0,0,0,0,0,0,0,0,7,0,0,0,0,0,0,0,1,26,177,1,54]))],[]⟩,⟨sk0 (.val K9 [67,72,82,78,1,1,0,0,0,0,0,0,0,0,0,7,0,0,0,0,0,0,0,1,26,177,1,54]),[0],[],[]⟩] [] (fun T:List Res=>T) lf0 rfl (by kernel_rfl) rfl rfl (fun F hF0 cA=>?_)
      refine Tq.v (fun G T hG=>?_) ?_
      ·exact cx Tryz.call91 rfl (o0 nA _)<|Tq.end undef rfl rfl
      refine Tq.v (fun G T hG=>?_) ?_
      ·exact oL kt87 rfl<|Tq.end undef rfl rfl
      refine Tq.st (.raw (cA 2)) [] rfl rfl (fun G T hG=>?_) ?_
      ·exact bO (ys:=[67,72,82,78,1,1,0,0,0,0,0,0,0,0,0,7,0,0,0,0,0,0,0,1,26,177,1,54]) Tryz.underlying22 ET5 (BldA.cons rfl rfl rdI (BldA.cons rfl rfl rdI (BldA.cons rfl rfl rdI (BldA.cons rfl rfl rdI (BldA.cons rfl rfl rdI (BldA.cons rfl rfl rdI (BldA.cons rfl rfl rdI (BldA.cons rfl rfl rdI (BldA.cons rfl rfl rdI (BldA.cons rfl rfl rdI (BldA.cons rfl rfl rdI (BldA.cons rfl rfl rdI (BldA.cons rfl rfl rdI (BldA.cons rfl rfl rdI (BldA.cons rfl rfl rdI (BldA.cons rfl rfl rdI (BldA.cons rfl rfl rdI (BldA.cons rfl rfl rdI (BldA.cons rfl rfl rdI (BldA.cons rfl rfl rdI (BldA.cons rfl rfl rdI (BldA.cons rfl rfl rdI (BldA.cons rfl rfl rdI (BldA.cons rfl rfl rdI (BldA.cons rfl rfl rdI (BldA.cons rfl rfl rdI (BldA.cons rfl rfl rdI (BldA.cons rfl rfl rdI (BldA.nil _))))))))))))))))))))))))))))) rfl rfl fun uA=>Tq.end uA rfl rfl
      refine Tq.st (.val K9 [67,72,82,78,1,1,0,0,0,0,0,0,0,0,0,7,0,0,0,0,0,0,0,1,26,177,1,54]) [.own K12 (cA 2) 5 [67,72,82,78,1,1,0,0,0,0,0,0,0,0,0,7,0,0,0,0,0,0,0,1,26,177,1,54]] rfl rfl (fun G T hG=>?_) ?_
      ·exact Under.cvS Tryz.underlying22 Tryz.underlying5 (of_decide_eq_true pA) rfl rfl<|Tq.end undef rfl rfl
      refine Tq.nil<|Under.le hF0<|p1 4 rfl rfl<|cx Tryz.call47 rfl (o116 tA _)<|pn<|p1 5 rfl rfl<|m_ rfl<|pn<|gV [6,7,8,9,10] [[41],[41],[41],[47],[48]] 0 (by kernel_rfl) rfl<|vo (fun _=>OpV.extr rfl rfl) rfl<|vo (fun _=>OpV.extr rfl rfl) rfl<|vo (fun _=>OpV.extr rfl rfl) rfl<|Vq.v (fun G T hG=>a_ rfl<|Vq.end rfl)<|Vq.v (fun G T hG=>a_ rfl<|Vq.end rfl)<|vn<|p1 11 rfl rfl<|a_ rfl<|pn<|pd rfl<|tn<|sr<|mb rfl<|m_ rfl<|cN 55 ((eA.2.2==0)&&(eA.2.1==0)) ?_ (fun k=>?_)
      ·refine m_ rfl<|bt 60 (((eA.2.2==0)&&(eA.2.1==0))&&((strB eA.1)==[67,72,82,78,1,2,0,0,0,0,0,0,0,0,0,7,0,0,0,0,0,0,0,1,26,196,1,55])) ?_ (fun k=>?_)
       ·refine bs hF fun xB kA hF=>m_ rfl<|bt 65 xB ?_ (fun k=>?_)
        ·refine a_ rfl<|nt<|rc ?_
         cases osi hF
         exact rs Tryz.results40 (.tm rfl .nil) rfl rfl
        ·refine by_ (t:=61) rfl (fun hA=>?_) (fun hA=>?_)
         ·replace kA:=ctrue hA kA
          exact bs kA fun zB yB kA=>gc_ hA rfl<|ov (OpV.bst BT87 (Bld.cons (x':=(⟨(⟨(0:Int),(0:Int),(0:Int)⟩:ab),1,[],[]⟩:aK)) rfl rfl rdI ⟨rfl,(by intro q hq;simp only[List.mem_cons,List.not_mem_nil,or_false] at hq;rcases hq with rfl|rfl<;>rfl)⟩ (Bld.nil _))) rfl<|gc_ hA rfl<|cx Tryz.call45 rfl (o104 yB _)<|gc_ hA rfl<|b_ rfl<|pT hA rfl<|rf 3 (rbq kA) rfl k
         ·replace kA:=cfalse hA kA
          exact sk_ hA rfl<|sk_ hA rfl<|sk_ hA rfl<|pF hA rfl<|rf 3 (rbq kA) rfl k
       ·refine by_ (t:=56) rfl (fun bA=>?_) (fun bA=>?_)
        ·exact gc_ bA rfl<|m_ rfl<|gc_ bA rfl<|ov (OpV.b2s Tryz.underlying22 Tryz.underlying5 Tryz.underlying9 rfl rdV) rfl<|gc_ bA rfl<|ov (OpV.eqS Tryz.underlying9 rfl rdV rfl zO (.inl rfl)) rfl<|pT bA rfl<|rf 3 (iV bA) rfl k
        ·exact sk_ bA rfl<|sk_ bA rfl<|sk_ bA rfl<|pF bA rfl<|rf 3 (iW (e:=(strB eA.1)==[67,72,82,78,1,2,0,0,0,0,0,0,0,0,0,7,0,0,0,0,0,0,0,1,26,196,1,55]) bA) rfl k
      ·refine by_ (t:=52) rfl (fun oA=>?_) (fun oA=>?_)
       ·exact gc_ oA rfl<|m_ rfl<|gc_ oA rfl<|b_ rfl<|pT oA rfl<|rf 2 (iV oA) rfl k
       ·exact sk_ oA rfl<|sk_ oA rfl<|pF oA rfl<|rf 2 (iW (e:=eA.2.1==0) oA) rfl k
    ·refine by_ (t:=35) rfl (fun xA=>?_) (fun xA=>?_)
     ·exact sk_ xA rfl<|sk_ xA rfl<|sk_ xA rfl<|sk_ xA rfl<|pT xA rfl<|rf 4 (or_t (e:=y9.2.Header.Left != 1) xA) rfl k
     ·exact gc_ xA rfl<|oF fb87k1 rfl<|gc_ xA rfl<|oF fb43k rfl<|gc_ xA rfl<|oI kt3 rfl<|gc_ xA rfl<|b_ rfl<|pF xA rfl<|rf 4 (or_f xA) rfl k
   ·refine by_ (t:=29) rfl (fun yA=>?_) (fun yA=>?_)
    ·exact sk_ yA rfl<|sk_ yA rfl<|sk_ yA rfl<|sk_ yA rfl<|pT yA rfl<|rf 4 (or_t (e:=y9.2.Header.Round != 7) yA) rfl k
    ·exact gc_ yA rfl<|oF fb87k1 rfl<|gc_ yA rfl<|oF fb43k1 rfl<|gc_ yA rfl<|oI kt2 rfl<|gc_ yA rfl<|b_ rfl<|pF yA rfl<|rf 4 (or_f yA) rfl k
  ·refine by_ (t:=24) rfl (fun vA=>?_) (fun vA=>?_)
   ·exact sk_ vA rfl<|sk_ vA rfl<|sk_ vA rfl<|pT vA rfl<|rf 3 (or_t (e:=y9.2.Count != 0) vA) rfl k
   ·exact gc_ vA rfl<|oF fb87k rfl<|gc_ vA rfl<|oI kt3 rfl<|gc_ vA rfl<|b_ rfl<|pF vA rfl<|rf 3 (or_f vA) rfl k
 ·refine by_ (t:=18) rfl (fun zA=>?_) (fun zA=>?_)
  ·exact sk_ zA rfl<|sk_ zA rfl<|sk_ zA rfl<|sk_ zA rfl<|pT zA rfl<|rf 4 (or_t (e:=(strB y9.1.Out) != [67,72,82,78,1,1,0,0,0,0,0,0,0,0,0,7,0,0,0,0,0,0,0,1,26,177,1,54]) zA) rfl k
  ·exact gc_ zA rfl<|oF fb37k2 rfl<|gc_ zA rfl<|oL kt22 rfl<|gc_ zA rfl<|ov (OpV.b2s Tryz.underlying22 Tryz.underlying5 Tryz.underlying9 rfl rdV) rfl<|gc_ zA rfl<|ov (OpV.eqS Tryz.underlying9 rfl rdV rfl zN (.inr rfl)) rfl<|pF zA rfl<|rf 4 (or_f zA) rfl k
noncomputable def bg (a0:Int) (a1:Int) (a2:Int):Option Bool:=
 some ((decide (a0≥a1))&&(decide (a0≤a2)))
theorem o118 {a0 a1 a2:Int} {r0:Bool} (hF:bg a0 a1 a2=some r0) (L:List Res):Ok Tryz.prog 152 [SV.raw (.int .i64 a0),SV.raw (.int .i64 a1),SV.raw (.int .i64 a2)] L (SV.raw (.bool r0)) L:=by
 unfold bg at hF
 refine okI 15 Tryz.func152 rfl rfl rfl fun F0=>?_
 refine sr<|a_ rfl<|ns<|m_ rfl<|mb rfl<|m_ rfl<|bt 14 ((decide (a0≥a1))&&(decide (a0≤a2))) ?_ (fun k=>?_)
 ·refine a_ rfl<|nt<|rc ?_
  cases osi hF
  exact rs Tryz.results152 (.tm rfl .nil) rfl rfl
 ·refine by_ (t:=10) rfl (fun c1=>?_) (fun c1=>?_)
  ·exact gc_ c1 rfl<|m_ rfl<|gc_ c1 rfl<|m_ rfl<|gc_ c1 rfl<|b_ rfl<|pT c1 rfl<|rf 3 (iV c1) rfl k
  ·exact sk_ c1 rfl<|sk_ c1 rfl<|sk_ c1 rfl<|pF c1 rfl<|rf 3 (iW (e:=decide (a0≤a2)) c1) rfl k
noncomputable def dM (a0:aB):Option Bool:=
 ((bif (a0.Master.length:Int)==32 then
  (bg a0.Left 1 8).bind fun y4=>
  some y4
 else
  some false
  :Option Bool)).bind fun x3=>
 ((bif x3 then
  (bg a0.Span 1 8).bind fun y9=>
  some y9
 else
  some false
  :Option Bool)).bind fun x8=>
 ((bif x8 then
  (bg a0.Room 0 4096).bind fun xA=>
  some xA
 else
  some false
  :Option Bool)).bind fun yA=>
 ((bif yA then
  (bg a0.Den 1 1000).bind fun zA=>
  some zA
 else
  some false
  :Option Bool)).bind fun hA=>
 ((bif hA then
  (bg a0.Num 0 a0.Den).bind fun bA=>
  some bA
 else
  some false
  :Option Bool)).bind fun vA=>
 ((bif vA then
  (bg a0.Noise 0 16).bind fun oA=>
  some oA
 else
  some false
  :Option Bool)).bind fun kA=>
 ((bif kA then
  (bg a0.Chunks 1 64).bind fun dA=>
  some dA
 else
  some false
  :Option Bool)).bind fun eA=>
 ((bif eA then
  (bg a0.Workers 1 64).bind fun cA=>
  some cA
 else
  some false
  :Option Bool)).bind fun qA=>
 ((bif qA then
  (bg a0.Cap 0 1024).bind fun rA=>
  some rA
 else
  some false
  :Option Bool)).bind fun wA=>
 ((bif wA then
  (bg a0.Shards 1 64).bind fun gA=>
  some gA
 else
  some false
  :Option Bool)).bind fun mA=>
 some mA
theorem o119 {a0:aB} {r0:Bool} (hF:dM a0=some r0) (L:List Res):Ok Tryz.prog 93 [SV.val aJ a0] L (SV.raw (.bool r0)) L:=by
 unfold dM at hF
 refine okI 59 Tryz.func93 rfl rfl rfl fun F0=>?_
 refine bs hF fun x3 h2 hF=>sr<|bX (K:=aJ) rfl rdV rfl<|a_ rfl<|ns<|oF fb24k rfl<|oL kt22 rfl<|oN Tryz.underlying22 rfl<|b_ rfl<|m_ rfl<|bt 11 x3 ?_ (fun k=>?_)
 ·refine bs hF fun x8 h7 hF=>m_ rfl<|bt 16 x8 ?_ (fun k=>?_)
  ·refine bs hF fun nA dA hF=>m_ rfl<|bt 21 nA ?_ (fun k=>?_)
   ·refine bs hF fun pA eA hF=>m_ rfl<|bt 26 pA ?_ (fun k=>?_)
    ·refine bs hF fun tA cA hF=>m_ rfl<|nK 33 tA ?_ (fun k=>?_)
     ·refine bs hF fun uA qA hF=>m_ rfl<|bt 38 uA ?_ (fun k=>?_)
      ·refine bs hF fun xB rA hF=>m_ rfl<|bt 43 xB ?_ (fun k=>?_)
       ·refine bs hF fun yB wA hF=>m_ rfl<|bt 48 yB ?_ (fun k=>?_)
        ·refine bs hF fun zB gA hF=>m_ rfl<|bt 53 zB ?_ (fun k=>?_)
         ·refine bs hF fun hB mA hF=>m_ rfl<|bt 58 hB ?_ (fun k=>?_)
          ·refine a_ rfl<|nt<|rc ?_
           cases osi hF
           exact rs Tryz.results93 (.tm rfl .nil) rfl rfl
          ·refine by_ (t:=54) rfl (fun yA=>?_) (fun yA=>?_)
           ·replace mA:=ctrue yA mA
            exact bs mA fun wB bB mA=>gc_ yA rfl<|oF fb24k10 rfl<|gc_ yA rfl<|oI kt3 rfl<|gc_ yA rfl<|cx Tryz.call152 rfl (o118 bB _)<|pT yA rfl<|rf 3 (rbq mA) rfl k
           ·replace mA:=cfalse yA mA
            exact sk_ yA rfl<|sk_ yA rfl<|sk_ yA rfl<|pF yA rfl<|rf 3 (rbq mA) rfl k
         ·refine by_ (t:=49) rfl (fun zA=>?_) (fun zA=>?_)
          ·replace gA:=ctrue zA gA
           exact bs gA fun gB vB gA=>gc_ zA rfl<|oF fb24k9 rfl<|gc_ zA rfl<|oI kt3 rfl<|gc_ zA rfl<|cx Tryz.call152 rfl (o118 vB _)<|pT zA rfl<|rf 3 (rbq gA) rfl k
          ·replace gA:=cfalse zA gA
           exact sk_ zA rfl<|sk_ zA rfl<|sk_ zA rfl<|pF zA rfl<|rf 3 (rbq gA) rfl k
        ·refine by_ (t:=44) rfl (fun hA=>?_) (fun hA=>?_)
         ·replace wA:=ctrue hA wA
          exact bs wA fun mB oB wA=>gc_ hA rfl<|oF fb24k8 rfl<|gc_ hA rfl<|oI kt3 rfl<|gc_ hA rfl<|cx Tryz.call152 rfl (o118 oB _)<|pT hA rfl<|rf 3 (rbq wA) rfl k
         ·replace wA:=cfalse hA wA
          exact sk_ hA rfl<|sk_ hA rfl<|sk_ hA rfl<|pF hA rfl<|rf 3 (rbq wA) rfl k
       ·refine by_ (t:=39) rfl (fun bA=>?_) (fun bA=>?_)
        ·replace rA:=ctrue bA rA
         exact bs rA fun nB kB rA=>gc_ bA rfl<|oF fb24k7 rfl<|gc_ bA rfl<|oI kt3 rfl<|gc_ bA rfl<|cx Tryz.call152 rfl (o118 kB _)<|pT bA rfl<|rf 3 (rbq rA) rfl k
        ·replace rA:=cfalse bA rA
         exact sk_ bA rfl<|sk_ bA rfl<|sk_ bA rfl<|pF bA rfl<|rf 3 (rbq rA) rfl k
      ·refine by_ (t:=34) rfl (fun vA=>?_) (fun vA=>?_)
       ·replace qA:=ctrue vA qA
        exact bs qA fun pB dB qA=>gc_ vA rfl<|oF fb24k6 rfl<|gc_ vA rfl<|oI kt3 rfl<|gc_ vA rfl<|cx Tryz.call152 rfl (o118 dB _)<|pT vA rfl<|rf 3 (rbq qA) rfl k
       ·replace qA:=cfalse vA qA
        exact sk_ vA rfl<|sk_ vA rfl<|sk_ vA rfl<|pF vA rfl<|rf 3 (rbq qA) rfl k
     ·refine by_ (t:=27) rfl (fun xA=>?_) (fun xA=>?_)
      ·replace cA:=ctrue xA cA
       exact bs cA fun tB eB cA=>gc_ xA rfl<|oF fb24k5 rfl<|gc_ xA rfl<|oI kt3 rfl<|gc_ xA rfl<|oF fb24k4 rfl<|gc_ xA rfl<|oI kt3 rfl<|gc_ xA rfl<|cx Tryz.call152 rfl (o118 eB _)<|pT xA rfl<|rf 5 (rbq cA) rfl k
      ·replace cA:=cfalse xA cA
       exact sk_ xA rfl<|sk_ xA rfl<|sk_ xA rfl<|sk_ xA rfl<|sk_ xA rfl<|pF xA rfl<|rf 5 (rbq cA) rfl k
    ·refine by_ (t:=22) rfl (fun oA=>?_) (fun oA=>?_)
     ·replace eA:=ctrue oA eA
      exact bs eA fun uB cB eA=>gc_ oA rfl<|oF fb24k4 rfl<|gc_ oA rfl<|oI kt3 rfl<|gc_ oA rfl<|cx Tryz.call152 rfl (o118 cB _)<|pT oA rfl<|rf 3 (rbq eA) rfl k
     ·replace eA:=cfalse oA eA
      exact sk_ oA rfl<|sk_ oA rfl<|sk_ oA rfl<|pF oA rfl<|rf 3 (rbq eA) rfl k
   ·refine by_ (t:=17) rfl (fun kA=>?_) (fun kA=>?_)
    ·replace dA:=ctrue kA dA
     exact bs dA fun xC qB dA=>gc_ kA rfl<|oF fb24k3 rfl<|gc_ kA rfl<|oI kt3 rfl<|gc_ kA rfl<|cx Tryz.call152 rfl (o118 qB _)<|pT kA rfl<|rf 3 (rbq dA) rfl k
    ·replace dA:=cfalse kA dA
     exact sk_ kA rfl<|sk_ kA rfl<|sk_ kA rfl<|pF kA rfl<|rf 3 (rbq dA) rfl k
  ·refine by_ (t:=12) rfl (fun c6=>?_) (fun c6=>?_)
   ·replace h7:=ctrue c6 h7
    exact bs h7 fun y9 rB h7=>gc_ c6 rfl<|oF fb24k2 rfl<|gc_ c6 rfl<|oI kt3 rfl<|gc_ c6 rfl<|cx Tryz.call152 rfl (o118 rB _)<|pT c6 rfl<|rf 3 (rbq h7) rfl k
   ·replace h7:=cfalse c6 h7
    exact sk_ c6 rfl<|sk_ c6 rfl<|sk_ c6 rfl<|pF c6 rfl<|rf 3 (rbq h7) rfl k
 ·refine by_ (t:=7) rfl (fun c1=>?_) (fun c1=>?_)
  ·replace h2:=ctrue c1 h2
   exact bs h2 fun y4 h5 h2=>gc_ c1 rfl<|oF fb24k1 rfl<|gc_ c1 rfl<|oI kt3 rfl<|gc_ c1 rfl<|cx Tryz.call152 rfl (o118 h5 _)<|pT c1 rfl<|rf 3 (rbq h2) rfl k
  ·replace h2:=cfalse c1 h2
   exact sk_ c1 rfl<|sk_ c1 rfl<|sk_ c1 rfl<|pF c1 rfl<|rf 3 (rbq h2) rfl k
noncomputable def eZ (a0:aK):Option Int:=
 bif (((((((((decide (a0.Count<0))||(decide (a0.Count>256)))||(decide ((a0.From.length:Int)>256)))||((a0.Nonces.length:Int) != a0.Count))||(decide (a0.Header.Left<0)))||(decide (a0.Header.Left≥8)))||(decide (a0.Header.Round<0)))||(decide (a0.Header.Round>4611686018427387903)))||(decide (a0.Header.Epoch<0)))||(decide (a0.Header.Epoch>4611686018427387904)) then
  some 290
 else
  (((Loop.run (S := Int) (R := (Unit ⊕ Int)) (fun xA =>
    bif decide (xA<(a0.From.length:Int)) then
     (((idx a0.From xA).bind fun zA=>
     ((bif decide (zA<(-1)) then
      some true
     else
      (idx a0.From xA).bind fun hA=>
      some (decide (hA≥a0.Count))
      :Option Bool)).bind fun bA=>
     bif bA then
      some (.inl 290)
     else
      (Loop.run (S := Int) (R := (Unit ⊕ Int)) (fun yA =>
        bif decide (yA<xA) then
         (idx a0.From xA).bind fun vA=>
         ((bif decide (vA≥0) then
          (idx a0.From yA).bind fun oA=>
          (idx a0.From xA).bind fun kA=>
          some (oA==kA)
         else
          some false
          :Option Bool)).bind fun dA=>
         bif dA then
          some (.done (.inr 290))
         else
          some (.next (IntKind.wrap .i64 (yA+1)))
        else
         some (.done (.inl ()))) 0).bind fun eA=>match eA with
       | .inl _=>
        some (.inr ())
       | .inr z=>
        some (.inl z)
      : Option (Int ⊕ Unit))).bind fun cA => match cA with
      | .inl z=>
       some (.done (.inr z))
      | .inr _=>
       some (.next (IntKind.wrap .i64 (xA+1)))
    else
     some (.done (.inl ()))) 0).bind fun qA=>match qA with
   | .inl _=>
    some (.inr ())
   | .inr z=>
    some (.inl z)
   : Option (Int ⊕ Unit))).bind fun rA => match rA with
   | .inl z=>
    some z
   | .inr _=>
    some 0
theorem o120 {a0:aK} {r0:Int} (hF:eZ a0=some r0) (L:List Res):Ok Tryz.prog 44 [SV.val aI a0] L (SV.raw (.int .i64 r0)) L:=by
 unfold eZ at hF
 refine okI 107 Tryz.func44 rfl rfl rfl fun F0=>?_
 refine sr<|bX (K:=aI) rfl rdV rfl<|a_ rfl<|ns<|oF fb87k1 rfl<|oL kt43 rfl<|al ZT43 rfl fun b1=>sP (x':=a0.Header) .box .id sz43k rfl rfl rdV rfl<|nl<|fz (t:=3) rfl<|tn<|sq<|sr<|oF fb87k rfl<|oI kt3 rfl<|b_ rfl<|m_ rfl<|bt 15 ((decide (a0.Count<0))||(decide (a0.Count>256))) ?_ (fun k=>?_)
 ·refine m_ rfl<|jC 21 (((decide (a0.Count<0))||(decide (a0.Count>256)))||(decide ((a0.From.length:Int)>256))) ?_ (fun k=>?_)
  ·refine m_ rfl<|ym 29 ((((decide (a0.Count<0))||(decide (a0.Count>256)))||(decide ((a0.From.length:Int)>256)))||((a0.Nonces.length:Int) != a0.Count)) ?_ (fun k=>?_)
   ·refine m_ rfl<|bt 34 (((((decide (a0.Count<0))||(decide (a0.Count>256)))||(decide ((a0.From.length:Int)>256)))||((a0.Nonces.length:Int) != a0.Count))||(decide (a0.Header.Left<0))) ?_ (fun k=>?_)
    ·refine m_ rfl<|bt 39 ((((((decide (a0.Count<0))||(decide (a0.Count>256)))||(decide ((a0.From.length:Int)>256)))||((a0.Nonces.length:Int) != a0.Count))||(decide (a0.Header.Left<0)))||(decide (a0.Header.Left≥8))) ?_ (fun k=>?_)
     ·refine m_ rfl<|bt 44 (((((((decide (a0.Count<0))||(decide (a0.Count>256)))||(decide ((a0.From.length:Int)>256)))||((a0.Nonces.length:Int) != a0.Count))||(decide (a0.Header.Left<0)))||(decide (a0.Header.Left≥8)))||(decide (a0.Header.Round<0))) ?_ (fun k=>?_)
      ·refine m_ rfl<|bt 49 ((((((((decide (a0.Count<0))||(decide (a0.Count>256)))||(decide ((a0.From.length:Int)>256)))||((a0.Nonces.length:Int) != a0.Count))||(decide (a0.Header.Left<0)))||(decide (a0.Header.Left≥8)))||(decide (a0.Header.Round<0)))||(decide (a0.Header.Round>4611686018427387903))) ?_ (fun k=>?_)
       ·refine m_ rfl<|bt 54 (((((((((decide (a0.Count<0))||(decide (a0.Count>256)))||(decide ((a0.From.length:Int)>256)))||((a0.Nonces.length:Int) != a0.Count))||(decide (a0.Header.Left<0)))||(decide (a0.Header.Left≥8)))||(decide (a0.Header.Round<0)))||(decide (a0.Header.Round>4611686018427387903)))||(decide (a0.Header.Epoch<0))) ?_ (fun k=>?_)
        ·refine m_ rfl<|bt 59 ((((((((((decide (a0.Count<0))||(decide (a0.Count>256)))||(decide ((a0.From.length:Int)>256)))||((a0.Nonces.length:Int) != a0.Count))||(decide (a0.Header.Left<0)))||(decide (a0.Header.Left≥8)))||(decide (a0.Header.Round<0)))||(decide (a0.Header.Round>4611686018427387903)))||(decide (a0.Header.Epoch<0)))||(decide (a0.Header.Epoch>4611686018427387904))) ?_ (fun k=>?_)
         ·refine nt<|it hF rfl (fun hF=>?_) (fun hF=>?_)
          ·refine sr<|a_ rfl<|nt<|rt ?_
           cases osi hF
           exact rs Tryz.results44 (.tm rfl .nil) rfl rfl
          ·refine bs hF fun zB kA hF=>ct<|sq<|Under.after (fun X=>∀(_:Unit),zB=(.inr ())→Under F0 107 [] (L) X) ?_ ?_
           ·intro _ mA
            replace mA:=mA.symm
            subst mA
            refine sr<|a_ rfl<|nt<|rc ?_
            cases osi hF
            exact rs Tryz.results44 (.tm rfl .nil) rfl rfl
           ·intro K hB
            refine bs kA fun mB bB kA=>sr<|a_ rfl<|nt<|bk<|lp bB () (fun dA uA=>[(1,.ptr aI a0),(4,.raw (.int .i64 dA))]) (fun dA uA=>L) rfl rfl fun dA uA nB vA nA=>?_
            refine sq<|sr<|m_ rfl<|oF fb87k2 rfl<|oL kt68 rfl<|oN Tryz.underlying68 rfl<|b_ rfl<|nt<|it vA rfl (fun vA=>?_) (fun vA=>?_)
            ·refine bs vA fun vB hA vA=>ct<|sq<|Under.after (fun X=>∀(_:Unit),vB=(.inr ())→Under F0 107 [(1,.ptr aI a0),(4,.raw (.int .i64 dA))] (L) X) ?_ ?_
             ·intro _ pA
              replace pA:=pA.symm
              subst pA
              exact rg<|mb rfl<|a_ rfl<|nl<|nx () vA rfl rfl
             ·intro K oB
              refine bs hA fun pB kB hA=>bs hA fun dB oA hA=>bk<|sq<|sq<|dw rfl (by kernel_rfl) fun F hF0=>oq (OpV.fd fb87k2 rfl rfl) rfl<|oq (OpV.ld kt68 rfl) rfl<|mvq rfl rfl<|oq (OpV.ixS kB Tryz.underlying68 sz3 rfl rdV rfl) rfl<|oq (OpV.ldI kt3 rfl) rfl<|bnq rfl rfl rfl rfl<|mvq rfl rfl<|zK 82 dB ?_ (fun k=>?_)
              ·refine nlq hF0<|tn<|it hA rfl (fun hA=>?_) (fun hA=>?_)
               ·refine sr<|a_ rfl<|nt<|rt<|Under.bR<|tr ?_
                cases osi hA
                cases ai vA nA
                refine tr<|Under.bR<|tr ?_
                cases osi kA
                cases osi hF
                exact rs Tryz.results44 (.tm rfl .nil) rfl rfl
               ·refine bs hA fun tB eB hA=>ct<|sr<|a_ rfl<|nt<|bk<|lp eB () (fun tA xB=>[(1,.ptr aI a0),(4,.raw (.int .i64 dA)),(5,.raw (.int .i64 tA))]) (fun tA xB=>L) rfl rfl fun tA xB uB zA yB=>?_
                refine sq<|sr<|m_ rfl<|mb rfl<|nt<|it zA rfl (fun zA=>?_) (fun zA=>?_)
                ·refine bs zA fun xC cB zA=>bs zA fun qB bA zA=>ct<|sq<|bk<|sq<|dw rfl (by kernel_rfl) fun F hF0=>oq (OpV.fd fb87k2 rfl rfl) rfl<|oq (OpV.ld kt68 rfl) rfl<|mvq rfl rfl<|oq (OpV.ixS cB Tryz.underlying68 sz3 rfl rdV rfl) rfl<|oq (OpV.ldI kt3 rfl) rfl<|bnq rfl rfl rfl rfl<|mvq rfl rfl<|yn 106 qB ?_ (fun k=>?_)
                 ·refine nlq hF0<|tn<|it zA rfl (fun zA=>?_) (fun zA=>?_)
                  ·refine sr<|a_ rfl<|nt<|rc<|Under.bR<|tr ?_
                   cases ai zA yB
                   refine tr<|Under.bR<|Under.bR<|tr ?_
                   cases osi hA
                   cases ai vA nA
                   refine tr<|Under.bR<|tr ?_
                   cases osi kA
                   cases osi hF
                   exact rs Tryz.results44 (.tm rfl .nil) rfl rfl
                  ·exact cs<|bN<|tn<|rg<|mb rfl<|a_ rfl<|nl<|nx () zA rfl rfl
                 ·refine byq (t:=94) rfl (fun xA=>?_) (fun xA=>?_)
                  ·replace bA:=ctrue xA bA
                   exact bs bA fun yC rB bA=>bs bA fun zC wB bA=>gq xA rfl rfl<|oq (OpV.fd fb87k2 rfl rfl) rfl<|gq xA rfl rfl<|oq (OpV.ld kt68 rfl) rfl<|gq xA rfl rfl<|mvq rfl rfl<|gq xA rfl rfl<|oq (OpV.ixS rB Tryz.underlying68 sz3 rfl rdV rfl) rfl<|gq xA rfl rfl<|oq (OpV.ldI kt3 rfl) rfl<|gq xA rfl rfl<|oq (OpV.fd fb87k2 rfl rfl) rfl<|gq xA rfl rfl<|oq (OpV.ld kt68 rfl) rfl<|gq xA rfl rfl<|mvq rfl rfl<|gq xA rfl rfl<|oq (OpV.ixS wB Tryz.underlying68 sz3 rfl rdV rfl) rfl<|gq xA rfl rfl<|oq (OpV.ldI kt3 rfl) rfl<|gq xA rfl rfl<|bnq rfl rfl rfl rfl<|oq (pkT xA rfl rfl) rfl<|rfq 11 (rbq bA) rfl k
                  ·replace bA:=cfalse xA bA
                   exact skq xA rfl rfl rfl<|skq xA rfl rfl rfl<|skq xA rfl rfl rfl<|skq xA rfl rfl rfl<|skq xA rfl rfl rfl<|skq xA rfl rfl rfl<|skq xA rfl rfl rfl<|skq xA rfl rfl rfl<|skq xA rfl rfl rfl<|skq xA rfl rfl rfl<|skq xA rfl rfl rfl<|oq (pkF xA rfl rfl) rfl<|rfq 11 (rbq bA) rfl k
                ·refine xt<|te ?_
                 cases ai zA yB
                 exact te<|bh<|bN<|tn<|wr (oB () (osi hA).symm) rfl
              ·refine byq (t:=73) rfl (fun yA=>?_) (fun yA=>?_)
               ·replace oA:=ctrue yA oA
                exact skq yA rfl rfl rfl<|skq yA rfl rfl rfl<|skq yA rfl rfl rfl<|skq yA rfl rfl rfl<|skq yA rfl rfl rfl<|skq yA rfl rfl rfl<|skq yA rfl rfl rfl<|skq yA rfl rfl rfl<|oq (pkT yA rfl rfl) rfl<|rfq 8 (rbq oA) rfl k
               ·replace oA:=cfalse yA oA
                exact bs oA fun hC gB oA=>gq yA rfl rfl<|oq (OpV.fd fb87k2 rfl rfl) rfl<|gq yA rfl rfl<|oq (OpV.ld kt68 rfl) rfl<|gq yA rfl rfl<|mvq rfl rfl<|gq yA rfl rfl<|oq (OpV.ixS gB Tryz.underlying68 sz3 rfl rdV rfl) rfl<|gq yA rfl rfl<|oq (OpV.ldI kt3 rfl) rfl<|gq yA rfl rfl<|oq (OpV.fd fb87k rfl rfl) rfl<|gq yA rfl rfl<|oq (OpV.ldI kt3 rfl) rfl<|gq yA rfl rfl<|bnq rfl rfl rfl rfl<|oq (pkF yA rfl rfl) rfl<|rfq 8 (rbq oA) rfl k
            ·refine xt<|te ?_
             cases ai vA nA
             exact te<|bh<|tn<|wr (hB () (osi kA).symm) rfl
         ·refine by_ (t:=55) rfl (fun eA=>?_) (fun eA=>?_)
          ·exact sk_ eA rfl<|sk_ eA rfl<|sk_ eA rfl<|pT eA rfl<|rf 3 (or_t (e:=decide (a0.Header.Epoch>4611686018427387904)) eA) rfl k
          ·exact gc_ eA rfl<|oF fb43k2 rfl<|gc_ eA rfl<|oI kt2 rfl<|gc_ eA rfl<|b_ rfl<|pF eA rfl<|rf 3 (or_f eA) rfl k
        ·refine by_ (t:=50) rfl (fun cA=>?_) (fun cA=>?_)
         ·exact sk_ cA rfl<|sk_ cA rfl<|sk_ cA rfl<|pT cA rfl<|rf 3 (or_t (e:=decide (a0.Header.Epoch<0)) cA) rfl k
         ·exact gc_ cA rfl<|oF fb43k2 rfl<|gc_ cA rfl<|oI kt2 rfl<|gc_ cA rfl<|b_ rfl<|pF cA rfl<|rf 3 (or_f cA) rfl k
       ·refine by_ (t:=45) rfl (fun qA=>?_) (fun qA=>?_)
        ·exact sk_ qA rfl<|sk_ qA rfl<|sk_ qA rfl<|pT qA rfl<|rf 3 (or_t (e:=decide (a0.Header.Round>4611686018427387903)) qA) rfl k
        ·exact gc_ qA rfl<|oF fb43k1 rfl<|gc_ qA rfl<|oI kt2 rfl<|gc_ qA rfl<|b_ rfl<|pF qA rfl<|rf 3 (or_f qA) rfl k
      ·refine by_ (t:=40) rfl (fun rA=>?_) (fun rA=>?_)
       ·exact sk_ rA rfl<|sk_ rA rfl<|sk_ rA rfl<|pT rA rfl<|rf 3 (or_t (e:=decide (a0.Header.Round<0)) rA) rfl k
       ·exact gc_ rA rfl<|oF fb43k1 rfl<|gc_ rA rfl<|oI kt2 rfl<|gc_ rA rfl<|b_ rfl<|pF rA rfl<|rf 3 (or_f rA) rfl k
     ·refine by_ (t:=35) rfl (fun wA=>?_) (fun wA=>?_)
      ·exact sk_ wA rfl<|sk_ wA rfl<|sk_ wA rfl<|pT wA rfl<|rf 3 (or_t (e:=decide (a0.Header.Left≥8)) wA) rfl k
      ·exact gc_ wA rfl<|oF fb43k rfl<|gc_ wA rfl<|oI kt3 rfl<|gc_ wA rfl<|b_ rfl<|pF wA rfl<|rf 3 (or_f wA) rfl k
    ·refine by_ (t:=30) rfl (fun gA=>?_) (fun gA=>?_)
     ·exact sk_ gA rfl<|sk_ gA rfl<|sk_ gA rfl<|pT gA rfl<|rf 3 (or_t (e:=decide (a0.Header.Left<0)) gA) rfl k
     ·exact gc_ gA rfl<|oF fb43k rfl<|gc_ gA rfl<|oI kt3 rfl<|gc_ gA rfl<|b_ rfl<|pF gA rfl<|rf 3 (or_f gA) rfl k
   ·refine by_ (t:=22) rfl (fun c8=>?_) (fun c8=>?_)
    ·exact sk_ c8 rfl<|sk_ c8 rfl<|sk_ c8 rfl<|sk_ c8 rfl<|sk_ c8 rfl<|sk_ c8 rfl<|pT c8 rfl<|rf 6 (or_t (e:=(a0.Nonces.length:Int) != a0.Count) c8) rfl k
    ·exact gc_ c8 rfl<|oF fb87k3 rfl<|gc_ c8 rfl<|oL kt85 rfl<|gc_ c8 rfl<|oN Tryz.underlying85 rfl<|gc_ c8 rfl<|oF fb87k rfl<|gc_ c8 rfl<|oI kt3 rfl<|gc_ c8 rfl<|b_ rfl<|pF c8 rfl<|rf 6 (or_f c8) rfl k
  ·refine by_ (t:=16) rfl (fun c5=>?_) (fun c5=>?_)
   ·exact sk_ c5 rfl<|sk_ c5 rfl<|sk_ c5 rfl<|sk_ c5 rfl<|pT c5 rfl<|rf 4 (or_t (e:=decide ((a0.From.length:Int)>256)) c5) rfl k
   ·exact gc_ c5 rfl<|oF fb87k2 rfl<|gc_ c5 rfl<|oL kt68 rfl<|gc_ c5 rfl<|oN Tryz.underlying68 rfl<|gc_ c5 rfl<|b_ rfl<|pF c5 rfl<|rf 4 (or_f c5) rfl k
 ·refine by_ (t:=11) rfl (fun c2=>?_) (fun c2=>?_)
  ·exact sk_ c2 rfl<|sk_ c2 rfl<|sk_ c2 rfl<|pT c2 rfl<|rf 3 (or_t (e:=decide (a0.Count>256)) c2) rfl k
  ·exact gc_ c2 rfl<|oF fb87k rfl<|gc_ c2 rfl<|oI kt3 rfl<|gc_ c2 rfl<|b_ rfl<|pF c2 rfl<|rf 3 (or_f c2) rfl k
end Go.Proofs.YtobbmodjdkcdcaaGreatDoor

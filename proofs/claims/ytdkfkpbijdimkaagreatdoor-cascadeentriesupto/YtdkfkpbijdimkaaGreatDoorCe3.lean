import Derived.Test.YtdkfkpbijdimkaaGreatDoorCe2
set_option linter.unusedVariables false
set_option linter.unusedSimpArgs false
set_option maxRecDepth 20000
namespace Go.Proofs.YtdkfkpbijdimkaaGreatDoor
open Go Go.Sim Go.ChangeShapes Go.WideShapes Go.ChangeAt Go.RowKit
set_option linter.unusedSectionVars false
variable [Fu]
noncomputable def cj (a0:List Int):Option (List Int):=
 (((Loop.run (S:=(Int×Int×Int)) (R:=(Int×Int)) (fun(xA,zA,yA)=>
   bif decide (yA<(a0.length:Int)) then
    (idx a0 yA).bind fun hA=>
    some (.next (Int.tmod (IntKind.wrap .i64 (xA+(IntKind.wrap .i64 hA))) 65521,Int.tmod (IntKind.wrap .i64 (zA+(Int.tmod (IntKind.wrap .i64 (xA+(IntKind.wrap .i64 hA))) 65521))) 65521,IntKind.wrap .i64 (yA+1)))
   else
    some (.done (xA,zA))) (1,0,0)).bind fun bA=>match bA with
  |(vA,oA)=>
   some (vA,oA)
  :Option (Int×Int))).bind fun kA=>match kA with
  |(dA,eA)=>
   (cI (IntKind.wrap .i64 ((IntKind.wrap .i64 (eA*65536))+dA)) 4).bind fun cA=>
   some cA
theorem o57 {a0:List Int} {r0:(List Int)} (hF:cj a0=some r0) (L:List Res):OkX Tryz.prog 49 [SV.val K5 a0] L (fun y:Value=>SV.raw y) (fun y:Value=>(.own K7 y 5 r0)::L):=by
 unfold cj at hF
 refine OkX.intro 29 [(0,.val K5 a0)] Tryz.func49 rfl rfl rfl rfl fun F0=>?_
 refine bs hF fun kA zA hF=>sr<|a_ rfl<|ns<|a_ rfl<|a_ rfl<|nt<|sq<|Under.after (fun X=>∀(hA:Int) (bA:Int),kA=(hA,bA)→Under F0 29 [(3,.raw (.int .i64 hA)),(4,.raw (.int .i64 bA))] (L) X) ?_ ?_
 ·intro hA bA vA
  replace vA:=vA.symm
  subst vA
  refine bs hF fun gA dA hF=>sr<|mb rfl<|mb rfl<|Under.callX Tryz.call48 rfl rfl (o56 dA _) rfl ?_
  rintro eA
  refine a_ rfl<|nt<|rc ?_
  cases osi hF
  exact Under.retsX eA Tryz.results49 (.tm rfl .nil) rfl rfl
 ·intro K cA
  refine bs zA fun mA qA zA=>sr<|a_ rfl<|nt<|bk<|lp qA () (fun yA oA=>[(0,.val K5 a0),(3,.raw (.int .i64 yA.1)),(4,.raw (.int .i64 yA.2.1)),(5,.raw (.int .i64 yA.2.2))]) (fun yA oA=>L) rfl rfl fun yA oA nA xA rA=>?_
  obtain⟨pA,tA,uA⟩:=yA
  dsimp only at xA⊢
  refine sq<|sr<|m_ rfl<|m_ rfl<|oN Tryz.underlying24 rfl<|b_ rfl<|nt<|it xA rfl (fun xA=>?_) (fun xA=>?_)
  ·exact bs xA fun xB wA xA=>ct<|sq<|bk<|sr<|m_ rfl<|m_ rfl<|m_ rfl<|oS wA Tryz.underlying24 sz5 rfl<|oI kt5 rfl<|oC (by kernel_rfl) Tryz.underlying3 rfl<|b_ rfl<|ov (OpV.quo rfl rfl (by decide) rfl) rfl<|a_ rfl<|nt<|rg<|m_ rfl<|mb rfl<|ov (OpV.quo rfl rfl (by decide) rfl) rfl<|a_ rfl<|nl<|bN<|tn<|rg<|mb rfl<|a_ rfl<|nl<|nx () xA rfl rfl
  ·refine xt<|te ?_
   cases an xA rA
   exact te<|bh<|tn<|wr (cA _ _ (osi zA).symm) rfl
noncomputable def ck (a0:aq):Option ((List Int)×Int):=
 bif (((((decide (a0.Header.Left<0))||(decide (a0.Header.Left>8)))||(decide (a0.Header.Round<0)))||(decide (a0.Header.Round≥4611686018427387904)))||(decide (a0.Header.Epoch<0)))||(decide (a0.Header.Epoch>4611686018427387904)) then
  some ([],62)
 else
  bif decide ((a0.Cells.length:Int)>256) then
   some ([],63)
  else
   (aO (a0.Cells.length:Int) 2).bind fun wA=>
   (app [67,72,82,78,1,IntKind.wrap .u8 a0.Header.Left] wA).bind fun gA=>
   (aO a0.Header.Round 8).bind fun mA=>
   (app gA mA).bind fun nA=>
   (aO a0.Header.Epoch 8).bind fun pA=>
   (app nA pA).bind fun tA=>
   (((Loop.run (S := ((List Int) × Int)) (R := ((List Int) ⊕ ((List Int) × Int))) (fun (yA, xA) =>
     bif decide (xA<(a0.Cells.length:Int)) then
      (idx a0.Cells xA).bind fun hA=>
      bif (hA.length:Int) != 320 then
       some (.done (.inr ([],64)))
      else
       (aO 320 2).bind fun bA=>
       (app yA bA).bind fun vA=>
       (idx a0.Cells xA).bind fun oA=>
       (app vA oA).bind fun kA=>
       some (.next (kA,IntKind.wrap .i64 (xA+1)))
     else
      some (.done (.inl yA))) (tA,0)).bind fun dA=>match dA with
    | .inl eA=>
     some (.inr eA)
    | .inr z=>
     some (.inl z)
    : Option (((List Int) × Int) ⊕ (List Int)))).bind fun cA => match cA with
    | .inl z=>
     some z
    | .inr zA=>
     (cj zA).bind fun qA=>
     (app zA qA).bind fun rA=>
     some (rA,0)
theorem o58 {a0:aq} {r0:((List Int)×Int)} (hF:ck a0=some r0) (L:List Res):Ok Tryz.prog 26 [SV.val bf a0] L (SV.tup [SV.val K5 r0.1,SV.raw (.int .i64 r0.2)]) L:=by
 unfold ck at hF
 refine okI 91 Tryz.func26 rfl rfl rfl fun F0=>?_
 refine sr<|bX (K:=bf) rfl rdV rfl<|a_ rfl<|a_ rfl<|ns<|oF fb66k rfl<|oL kt35 rfl<|al ZT35 rfl fun b1=>sP (x':=a0.Header) .box .id sz35k rfl rfl rdV rfl<|nl<|fz (t:=4) rfl<|tn<|sq<|sr<|oF fb35k rfl<|oI kt3 rfl<|b_ rfl<|m_ rfl<|dz 17 ((decide (a0.Header.Left<0))||(decide (a0.Header.Left>8))) ?_ (fun k=>?_)
 ·refine m_ rfl<|dz 22 (((decide (a0.Header.Left<0))||(decide (a0.Header.Left>8)))||(decide (a0.Header.Round<0))) ?_ (fun k=>?_)
  ·refine m_ rfl<|dz 27 ((((decide (a0.Header.Left<0))||(decide (a0.Header.Left>8)))||(decide (a0.Header.Round<0)))||(decide (a0.Header.Round≥4611686018427387904))) ?_ (fun k=>?_)
   ·refine m_ rfl<|dz 32 (((((decide (a0.Header.Left<0))||(decide (a0.Header.Left>8)))||(decide (a0.Header.Round<0)))||(decide (a0.Header.Round≥4611686018427387904)))||(decide (a0.Header.Epoch<0))) ?_ (fun k=>?_)
    ·refine m_ rfl<|dz 37 ((((((decide (a0.Header.Left<0))||(decide (a0.Header.Left>8)))||(decide (a0.Header.Round<0)))||(decide (a0.Header.Round≥4611686018427387904)))||(decide (a0.Header.Epoch<0)))||(decide (a0.Header.Epoch>4611686018427387904))) ?_ (fun k=>?_)
     ·refine nt<|it hF rfl (fun hF=>?_) (fun hF=>?_)
      ·refine sr<|a_ rfl<|a_ rfl<|nt<|rt<|tV (K:=kSl K7) (x:=[]) (t:=2) rfl rdN ?_
       cases osi hF
       exact rs Tryz.results26 (.tm rfl (.tm rfl .nil)) rfl rfl
      ·refine ct<|sq<|sr<|oF fb66k1 rfl<|oL kt22 rfl<|oN Tryz.underlying22 rfl<|b_ rfl<|nt<|it hF rfl (fun hF=>?_) (fun hF=>?_)
       ·refine sr<|a_ rfl<|a_ rfl<|nt<|rt<|tV (K:=kSl K7) (x:=[]) (t:=2) rfl rdN ?_
        cases osi hF
        exact rs Tryz.results26 (.tm rfl (.tm rfl .nil)) rfl rfl
       ·refine bs hF fun zC yB hF=>bs hF fun hC zB hF=>bs hF fun bC hB hF=>bs hF fun vC bB hF=>bs hF fun kC vB hF=>bs hF fun dC oB hF=>bs hF fun cA bA hF=>ct<|sr<|oF fb35k rfl<|oI kt3 rfl<|oC (by kernel_rfl) Tryz.underlying5 rfl<|bO (ys:=[67,72,82,78,1,IntKind.wrap .u8 a0.Header.Left]) Tryz.underlying24 ET5 (BldA.cons rfl rfl rdI (BldA.cons rfl rfl rdI (BldA.cons rfl rfl rdI (BldA.cons rfl rfl rdI (BldA.cons rfl rfl rdI (BldA.cons rfl rfl rdI (BldA.nil _))))))) rfl rfl fun eC=>a_ rfl<|ns<|m_ rfl<|oF fb66k1 rfl<|oL kt22 rfl<|oN Tryz.underlying22 rfl<|cx Tryz.call48 rfl (o55 yB _)<|ap zB Tryz.underlying24 AT5 rfl rfl rdV rfl fun cC=>a_ rfl<|ns<|m_ rfl<|oF fb35k1 rfl<|oI kt2 rfl<|cx Tryz.call48 rfl (o55 hB _)<|ap bB Tryz.underlying24 AT5 rfl rfl rdV rfl fun qC=>a_ rfl<|ns<|m_ rfl<|oF fb35k2 rfl<|oI kt2 rfl<|cx Tryz.call48 rfl (o55 vB _)<|ap oB Tryz.underlying24 AT5 rfl rfl rdV rfl fun kB=>a_ rfl<|nt<|sq<|Under.after (fun X=>∀(oA:List Int) (kA:Value),cA=(.inr oA)→Under F0 91 [(5,.raw kA)] ((.own K7 kA 5 oA)::L) X) ?_ ?_
        ·intro oA kA dA
         replace dA:=dA.symm
         subst dA
         refine bs hF fun dB qA hF=>sr<|m_ rfl<|Under.callX Tryz.call49 rfl rfl (OkX.lend (fun L=>o57 qA L) ⟨.inr ⟨rfl,rfl⟩,trivial⟩ (fun _=>SvF.raw) (fun _ _ _ _ h=>kv Free.int h)) rfl ?_
         rintro eB
         refine bs hF fun cB rA hF=>f1<|fzO (t:=87) rfl<|a_ rfl<|ns<|m_ rfl<|m_ rfl<|ap rA Tryz.underlying24 AT5 rfl rfl rdV rfl fun qB=>a_ rfl<|a_ rfl<|nl<|fzO (t:=2) rfl<|tn<|rc ?_
         cases osi hF
         exact rs Tryz.results26 (.tm rfl (.tm rfl .nil)) rfl rfl
        ·intro K wA
         refine bs bA fun rB gA bA=>sr<|a_ rfl<|nt<|bk<|lp gA (C:=Value) kB (fun yA vA=>[(1,.ptr bf a0),(5,.raw vA),(6,.raw (.int .i64 yA.2))]) (fun yA vA=>(.own K7 vA 5 yA.1)::L) rfl rfl fun yA vA wB xA eA=>?_
         obtain⟨gB,mB⟩:=yA
         dsimp only at xA⊢
         refine sq<|sr<|m_ rfl<|oF fb66k1 rfl<|oL kt22 rfl<|oN Tryz.underlying22 rfl<|b_ rfl<|nt<|it xA rfl (fun xA=>?_) (fun xA=>?_)
         ·refine bs xA fun nB mA xA=>ct<|sq<|bk<|sq<|sr<|oF fb66k1 rfl<|oL kt22 rfl<|m_ rfl<|oS mA Tryz.underlying22 sz24 rfl<|oL kt24 rfl<|oN Tryz.underlying24 rfl<|b_ rfl<|nt<|it xA rfl (fun xA=>?_) (fun xA=>?_)
          ·refine dr<|sr<|a_ rfl<|a_ rfl<|nt<|rt<|Under.bR<|tr ?_
           cases an xA eA
           refine tr<|Under.bR<|tr ?_
           cases osi bA
           refine tV (K:=kSl K7) (x:=[]) (t:=2) rfl rdN ?_
           cases osi hF
           exact rs Tryz.results26 (.tm rfl (.tm rfl .nil)) rfl rfl
          ·exact bs xA fun pB nA xA=>bs xA fun tB pA xA=>bs xA fun uB tA xA=>bs xA fun xC uA xA=>ct<|sr<|m_ rfl<|cx Tryz.call48 rfl (o55 nA _)<|ap pA Tryz.underlying24 AT5 rfl rfl rdV rfl fun yC=>a_ rfl<|nt<|rg<|m_ rfl<|oF fb66k1 rfl<|oL kt22 rfl<|m_ rfl<|oS tA Tryz.underlying22 sz24 rfl<|oL kt24 rfl<|ap uA Tryz.underlying24 AT5 rfl rfl rdV rfl fun xB=>a_ rfl<|nl<|bN<|tn<|rg<|mb rfl<|a_ rfl<|nl<|nx xB xA rfl rfl
         ·refine xt<|te ?_
          cases an xA eA
          exact te<|bh<|tn<|wr (wA _ _ (osi bA).symm) rfl
     ·refine by_ (t:=33) rfl (fun zA=>?_) (fun zA=>?_)
      ·exact sk_ zA rfl<|sk_ zA rfl<|sk_ zA rfl<|pT zA rfl<|rf 3 (or_t (e:=decide (a0.Header.Epoch>4611686018427387904)) zA) rfl k
      ·exact gc_ zA rfl<|oF fb35k2 rfl<|gc_ zA rfl<|oI kt2 rfl<|gc_ zA rfl<|b_ rfl<|pF zA rfl<|rf 3 (or_f zA) rfl k
    ·refine by_ (t:=28) rfl (fun hA=>?_) (fun hA=>?_)
     ·exact sk_ hA rfl<|sk_ hA rfl<|sk_ hA rfl<|pT hA rfl<|rf 3 (or_t (e:=decide (a0.Header.Epoch<0)) hA) rfl k
     ·exact gc_ hA rfl<|oF fb35k2 rfl<|gc_ hA rfl<|oI kt2 rfl<|gc_ hA rfl<|b_ rfl<|pF hA rfl<|rf 3 (or_f hA) rfl k
   ·refine by_ (t:=23) rfl (fun c8=>?_) (fun c8=>?_)
    ·exact sk_ c8 rfl<|sk_ c8 rfl<|sk_ c8 rfl<|pT c8 rfl<|rf 3 (or_t (e:=decide (a0.Header.Round≥4611686018427387904)) c8) rfl k
    ·exact gc_ c8 rfl<|oF fb35k1 rfl<|gc_ c8 rfl<|oI kt2 rfl<|gc_ c8 rfl<|b_ rfl<|pF c8 rfl<|rf 3 (or_f c8) rfl k
  ·refine by_ (t:=18) rfl (fun c5=>?_) (fun c5=>?_)
   ·exact sk_ c5 rfl<|sk_ c5 rfl<|sk_ c5 rfl<|pT c5 rfl<|rf 3 (or_t (e:=decide (a0.Header.Round<0)) c5) rfl k
   ·exact gc_ c5 rfl<|oF fb35k1 rfl<|gc_ c5 rfl<|oI kt2 rfl<|gc_ c5 rfl<|b_ rfl<|pF c5 rfl<|rf 3 (or_f c5) rfl k
 ·refine by_ (t:=13) rfl (fun c2=>?_) (fun c2=>?_)
  ·exact sk_ c2 rfl<|sk_ c2 rfl<|sk_ c2 rfl<|pT c2 rfl<|rf 3 (or_t (e:=decide (a0.Header.Left>8)) c2) rfl k
  ·exact gc_ c2 rfl<|oF fb35k rfl<|gc_ c2 rfl<|oI kt3 rfl<|gc_ c2 rfl<|b_ rfl<|pF c2 rfl<|rf 3 (or_f c2) rfl k
noncomputable def cJ (a0:Int) (a1:Int) (a2:Int) (a3:List (List Int)):Option ((List Int)×Int):=
 (ck (⟨(⟨a0,a1,a2⟩:ae),a3⟩:aq)).bind fun y1=>
 some (y1.1,y1.2)
theorem o59 {a0 a1 a2:Int} {a3:List (List Int)} {r0:((List Int)×Int)} (hF:cJ a0 a1 a2 a3=some r0) (L:List Res):Ok Tryz.prog 10 [SV.raw (.int .i64 a0),SV.raw (.int .i64 a1),SV.raw (.int .i64 a2),SV.val K0 a3] L (SV.tup [SV.val K5 r0.1,SV.raw (.int .i64 r0.2)]) L:=by
 unfold cJ at hF
 refine okI 19 Tryz.func10 rfl rfl rfl fun F0=>?_
 refine bs hF fun y1 h2 hF=>sr<|a_ rfl<|a_ rfl<|ns<|m_ rfl<|m_ rfl<|m_ rfl<|ov (OpV.bst BT35 (Bld.cons (x':=(⟨a0,(0:Int),(0:Int)⟩:ae)) rfl rfl rdI (by intro q hq;simp only[List.mem_cons,List.not_mem_nil,or_false] at hq;rcases hq with rfl|rfl<;>rfl) (Bld.cons (x':=(⟨a0,a1,(0:Int)⟩:ae)) rfl rfl rdI ⟨rfl,(by intro q hq;simp only[List.mem_cons,List.not_mem_nil,or_false] at hq;rcases hq with rfl<;>rfl)⟩ (Bld.cons (x':=(⟨a0,a1,a2⟩:ae)) rfl rfl rdI ⟨rfl,⟨rfl,(fun q hq=>by simp at hq)⟩⟩ (Bld.nil _))))) rfl<|m_ rfl<|ov (OpV.bst BT66 (Bld.cons (x':=(⟨(⟨a0,a1,a2⟩:ae),[]⟩:aq)) rfl rfl rdV (by intro q hq;simp only[List.mem_cons,List.not_mem_nil,or_false] at hq;rcases hq with rfl<;>rfl) (Bld.cons (x':=(⟨(⟨a0,a1,a2⟩:ae),a3⟩:aq)) rfl rfl rdV ⟨rfl,(fun q hq=>by simp at hq)⟩ (Bld.nil _)))) rfl<|cx Tryz.call26 rfl (o58 h2 _)<|oE rfl<|oE rfl<|a_ rfl<|a_ rfl<|nt<|rc ?_
 cases osi hF
 exact rs Tryz.results10 (.tm rfl (.tm rfl .nil)) rfl rfl
noncomputable def d7 (a0:ae):Option Bool:=
 some ((((((decide (a0.Left≥0))&&(decide (a0.Left≤8)))&&(decide (a0.Round≥0)))&&(decide (a0.Round≤4611686018427387903)))&&(decide (a0.Epoch≥0)))&&(decide (a0.Epoch≤4611686018427387904)))
theorem o60 {a0:ae} {r0:Bool} (hF:d7 a0=some r0) (L:List Res):Ok Tryz.prog 50 [SV.val aM a0] L (SV.raw (.bool r0)) L:=by
 unfold d7 at hF
 refine okI 31 Tryz.func50 rfl rfl rfl fun F0=>?_
 refine sr<|bX (K:=aM) rfl rdV rfl<|a_ rfl<|ns<|oF fb35k rfl<|oI kt3 rfl<|b_ rfl<|m_ rfl<|dz 10 ((decide (a0.Left≥0))&&(decide (a0.Left≤8))) ?_ (fun k=>?_)
 ·refine m_ rfl<|dz 15 (((decide (a0.Left≥0))&&(decide (a0.Left≤8)))&&(decide (a0.Round≥0))) ?_ (fun k=>?_)
  ·refine m_ rfl<|dz 20 ((((decide (a0.Left≥0))&&(decide (a0.Left≤8)))&&(decide (a0.Round≥0)))&&(decide (a0.Round≤4611686018427387903))) ?_ (fun k=>?_)
   ·refine m_ rfl<|dz 25 (((((decide (a0.Left≥0))&&(decide (a0.Left≤8)))&&(decide (a0.Round≥0)))&&(decide (a0.Round≤4611686018427387903)))&&(decide (a0.Epoch≥0))) ?_ (fun k=>?_)
    ·refine m_ rfl<|dz 30 ((((((decide (a0.Left≥0))&&(decide (a0.Left≤8)))&&(decide (a0.Round≥0)))&&(decide (a0.Round≤4611686018427387903)))&&(decide (a0.Epoch≥0)))&&(decide (a0.Epoch≤4611686018427387904))) ?_ (fun k=>?_)
     ·refine a_ rfl<|nt<|rc ?_
      cases osi hF
      exact rs Tryz.results50 (.tm rfl .nil) rfl rfl
     ·refine by_ (t:=26) rfl (fun xA=>?_) (fun xA=>?_)
      ·exact gc_ xA rfl<|oF fb35k2 rfl<|gc_ xA rfl<|oI kt2 rfl<|gc_ xA rfl<|b_ rfl<|pT xA rfl<|rf 3 (iy xA) rfl k
      ·exact sk_ xA rfl<|sk_ xA rfl<|sk_ xA rfl<|pF xA rfl<|rf 3 (iz (e:=decide (a0.Epoch≤4611686018427387904)) xA) rfl k
    ·refine by_ (t:=21) rfl (fun yA=>?_) (fun yA=>?_)
     ·exact gc_ yA rfl<|oF fb35k2 rfl<|gc_ yA rfl<|oI kt2 rfl<|gc_ yA rfl<|b_ rfl<|pT yA rfl<|rf 3 (iy yA) rfl k
     ·exact sk_ yA rfl<|sk_ yA rfl<|sk_ yA rfl<|pF yA rfl<|rf 3 (iz (e:=decide (a0.Epoch≥0)) yA) rfl k
   ·refine by_ (t:=16) rfl (fun c7=>?_) (fun c7=>?_)
    ·exact gc_ c7 rfl<|oF fb35k1 rfl<|gc_ c7 rfl<|oI kt2 rfl<|gc_ c7 rfl<|b_ rfl<|pT c7 rfl<|rf 3 (iy c7) rfl k
    ·exact sk_ c7 rfl<|sk_ c7 rfl<|sk_ c7 rfl<|pF c7 rfl<|rf 3 (iz (e:=decide (a0.Round≤4611686018427387903)) c7) rfl k
  ·refine by_ (t:=11) rfl (fun c4=>?_) (fun c4=>?_)
   ·exact gc_ c4 rfl<|oF fb35k1 rfl<|gc_ c4 rfl<|oI kt2 rfl<|gc_ c4 rfl<|b_ rfl<|pT c4 rfl<|rf 3 (iy c4) rfl k
   ·exact sk_ c4 rfl<|sk_ c4 rfl<|sk_ c4 rfl<|pF c4 rfl<|rf 3 (iz (e:=decide (a0.Round≥0)) c4) rfl k
 ·refine by_ (t:=6) rfl (fun c1=>?_) (fun c1=>?_)
  ·exact gc_ c1 rfl<|oF fb35k rfl<|gc_ c1 rfl<|oI kt3 rfl<|gc_ c1 rfl<|b_ rfl<|pT c1 rfl<|rf 3 (iy c1) rfl k
  ·exact sk_ c1 rfl<|sk_ c1 rfl<|sk_ c1 rfl<|pF c1 rfl<|rf 3 (iz (e:=decide (a0.Left≤8)) c1) rfl k
noncomputable def aV (a0:List Int) (a1:Int) (a2:Int):Option (List Int):=
 (((Loop.run (S:=((List Int)×Int)) (R:=(List Int)) (fun(yA,xA)=>
   bif decide (xA≥0) then
    bif decide (0≤(IntKind.wrap .i64 (8*xA))) then
    (app yA [IntKind.wrap .u8 (shrI .u64 a1 (IntKind.wrap .i64 (8*xA)))]).bind fun zA=>
    some (.next (zA,IntKind.wrap .i64 (xA - 1)))
    else none
   else
    some (.done yA)) (a0,IntKind.wrap .i64 (a2 - 1))).bind fun hA=>
 some hA
  :Option (List Int))).bind fun bA=>
 some bA
theorem o61 {a0:List Int} {a1 a2:Int} {w0:Value} {r0:(List Int)} (hF:aV a0 a1 a2=some r0) (L:List Res):OkX Tryz.prog 51 [SV.raw w0,SV.raw (.int .u64 a1),SV.raw (.int .i64 a2)] ((.own K7 w0 5 a0)::L) (fun y:Value=>SV.raw y) (fun y:Value=>(.own K7 y 5 r0)::L):=by
 unfold aV at hF
 refine OkX.intro 23 [(0,.raw w0),(1,.raw (.int .u64 a1)),(2,.raw (.int .i64 a2))] Tryz.func51 rfl rfl rfl rfl fun F0=>?_
 refine bs hF fun kA bA hF=>sr<|a_ rfl<|nt<|sq<|Under.after (fun X=>∀(vA:List Int) (zA:Value),kA=vA→Under F0 23 [(0,.raw zA)] ((.own K7 zA 5 vA)::L) X) ?_ ?_
 ·intro vA zA oA
  replace oA:=oA.symm
  subst oA
  refine sr<|m_ rfl<|a_ rfl<|nt<|rc ?_
  cases osi hF
  exact Under.retsX zA Tryz.results51 (.tm rfl .nil) rfl rfl
 ·intro K dA
  refine bs bA fun mA eA bA=>sr<|mb rfl<|a_ rfl<|nt<|bk<|lp eA (C:=Value) w0 (fun yA hA=>[(0,.raw hA),(1,.raw (.int .u64 a1)),(7,.raw (.int .i64 yA.2))]) (fun yA hA=>(.own K7 hA 5 yA.1)::L) rfl rfl fun yA hA nA xA cA=>?_
  obtain⟨pA,qA⟩:=yA
  dsimp only at xA⊢
  refine sq<|sr<|mb rfl<|nt<|it xA rfl (fun xA=>?_) (fun xA=>?_)
  ·exact gs xA fun rA xA=>bs xA fun tA wA xA=>ct<|sq<|bk<|rg<|m_ rfl<|m_ rfl<|mb rfl<|ov (OpV.sh rfl rfl (of_decide_eq_true rA) rfl) rfl<|oC (by kernel_rfl) Tryz.underlying5 rfl<|bF (ys:=[IntKind.wrap .u8 (shrI .u64 a1 (IntKind.wrap .i64 (8*qA)))]) Tryz.underlying24 ET5 (BldA.cons rfl rfl rdI (BldA.nil _)) rfl rfl<|ap wA Tryz.underlying24 AT5 rfl rfl rdV rfl fun gA=>a_ rfl<|nl<|bN<|tn<|rg<|mb rfl<|a_ rfl<|nl<|nx gA xA rfl rfl
  ·refine xt<|te ?_
   cases an xA cA
   exact te<|bh<|tn<|wr (dA _ _ (osi bA).symm) rfl
noncomputable def bg (a0:List Int) (a1:Int) (a2:Int):Option (List Int):=
 (((Loop.run (S:=((List Int)×Int)) (R:=(List Int)) (fun(yA,xA)=>
   bif decide (xA≥0) then
    bif decide (0≤(IntKind.wrap .i64 (8*xA))) then
    (app yA [IntKind.wrap .u8 (shrI .u64 a1 (IntKind.wrap .i64 (8*xA)))]).bind fun zA=>
    some (.next (zA,IntKind.wrap .i64 (xA - 1)))
    else none
   else
    some (.done yA)) (a0,IntKind.wrap .i64 (a2 - 1))).bind fun hA=>
 some hA
  :Option (List Int))).bind fun bA=>
 some bA
theorem o62 {a0:List Int} {a1 a2:Int} {w0:Value} {r0:(List Int)} (hF:bg a0 a1 a2=some r0) (L:List Res):Ok Tryz.prog 51 [SV.raw w0,SV.raw (.int .u64 a1),SV.raw (.int .i64 a2)] ((.own K7 w0 5 a0)::L) (SV.val K5 r0) L:=by
 unfold bg at hF
 refine okI 23 Tryz.func51 rfl rfl rfl fun F0=>?_
 refine bs hF fun zA bA hF=>sr<|a_ rfl<|nt<|sq<|afr (r:=zA) (fun zA=>[(0,.val K5 zA)]) (fun zA=>(L)) ?_ fun K vA=>?_
 ·refine sr<|m_ rfl<|a_ rfl<|nt<|rc ?_
  cases osi hF
  exact rs Tryz.results51 (.tm rfl .nil) rfl rfl
 ·refine bs bA fun rA oA bA=>sr<|mb rfl<|a_ rfl<|nt<|bk<|lp oA (C:=Value) w0 (fun yA hA=>[(0,.raw hA),(1,.raw (.int .u64 a1)),(7,.raw (.int .i64 yA.2))]) (fun yA hA=>(.own K7 hA 5 yA.1)::L) rfl rfl fun yA hA wA xA kA=>?_
  obtain⟨gA,dA⟩:=yA
  dsimp only at xA⊢
  refine sq<|sr<|mb rfl<|nt<|it xA rfl (fun xA=>?_) (fun xA=>?_)
  ·exact gs xA fun eA xA=>bs xA fun mA cA xA=>ct<|sq<|bk<|rg<|m_ rfl<|m_ rfl<|mb rfl<|ov (OpV.sh rfl rfl (of_decide_eq_true eA) rfl) rfl<|oC (by kernel_rfl) Tryz.underlying5 rfl<|bF (ys:=[IntKind.wrap .u8 (shrI .u64 a1 (IntKind.wrap .i64 (8*dA)))]) Tryz.underlying24 ET5 (BldA.cons rfl rfl rdI (BldA.nil _)) rfl rfl<|ap cA Tryz.underlying24 AT5 rfl rfl rdV rfl fun qA=>a_ rfl<|nl<|bN<|tn<|rg<|mb rfl<|a_ rfl<|nl<|nx qA xA rfl rfl
  ·refine fzO (t:=0) rfl<|xt<|te ?_
   cases an xA kA
   exact te<|bh<|tn<|wr (vA _ (osi bA).symm) rfl
noncomputable def dp (a0:aq):Option ((List Int)×Int):=
 (d7 a0.Header).bind fun y1=>
 bif !y1 then
  some ([],62)
 else
  bif decide ((a0.Cells.length:Int)>256) then
   some ([],63)
  else
   bif mkB 0 (IntKind.wrap .i64 ((IntKind.wrap .i64 (24+(IntKind.wrap .i64 ((a0.Cells.length:Int)*322))))+4)) then
   (app (List.replicate (Int.toNat 0) (0:Int)) [67,72,82,78]).bind fun z8=>
   (app z8 [1,IntKind.wrap .u8 a0.Header.Left]).bind fun dA=>
   (aV dA (IntKind.wrap .u64 (a0.Cells.length:Int)) 2).bind fun eA=>
   (aV eA (IntKind.wrap .u64 a0.Header.Round) 8).bind fun cA=>
   (aV cA (IntKind.wrap .u64 a0.Header.Epoch) 8).bind fun qA=>
   (((Loop.run (S := ((List Int) × Int)) (R := ((List Int) ⊕ ((List Int) × Int))) (fun (yA, xA) =>
     bif decide (xA<(a0.Cells.length:Int)) then
      (idx a0.Cells xA).bind fun zA=>
      bif (zA.length:Int) != 320 then
       some (.done (.inr ([],64)))
      else
       (aV yA 320 2).bind fun hA=>
       (app hA zA).bind fun bA=>
       some (.next (bA,IntKind.wrap .i64 (xA+1)))
     else
      some (.done (.inl yA))) (qA,0)).bind fun vA=>match vA with
    | .inl oA=>
     some (.inr oA)
    | .inr z=>
     some (.inl z)
    : Option (((List Int) × Int) ⊕ (List Int)))).bind fun rA => match rA with
    | .inl z=>
     some z
    | .inr kA=>
     (cg (⟨1,(0:Int)⟩:ah) kA).bind fun wA=>
     (bz wA).bind fun gA=>
     (bg kA (IntKind.wrap .u64 gA) 4).bind fun mA=>
     some (mA,0)
   else none
theorem o63 {a0:aq} {r0:((List Int)×Int)} (hF:dp a0=some r0) (L:List Res):Ok Tryz.prog 27 [SV.val bf a0] L (SV.tup [SV.val K5 r0.1,SV.raw (.int .i64 r0.2)]) L:=by
 unfold dp at hF
 refine okI 74 Tryz.func27 rfl rfl rfl fun F0=>?_
 refine bs hF fun y1 h2 hF=>sr<|bX (K:=bf) rfl rdV rfl<|a_ rfl<|a_ rfl<|nt<|sq<|bk<|sr<|oF fb66k rfl<|oL kt35 rfl<|cx Tryz.call50 rfl (o60 h2 _)<|ov (OpV.not rfl) rfl<|a_ rfl<|nt<|it hF rfl (fun hF=>?_) (fun hF=>?_)
 ·refine sr<|a_ rfl<|a_ rfl<|nt<|rc<|Under.bR<|tr<|tV (K:=kSl K7) (x:=[]) (t:=2) rfl rdN ?_
  cases osi hF
  exact rs Tryz.results27 (.tm rfl (.tm rfl .nil)) rfl rfl
 ·refine sr<|oF fb66k1 rfl<|oL kt22 rfl<|oN Tryz.underlying22 rfl<|b_ rfl<|a_ rfl<|nt<|it hF rfl (fun hF=>?_) (fun hF=>?_)
  ·refine sr<|a_ rfl<|a_ rfl<|nt<|rc<|Under.bR<|tr<|tV (K:=kSl K7) (x:=[]) (t:=2) rfl rdN ?_
   cases osi hF
   exact rs Tryz.results27 (.tm rfl (.tm rfl .nil)) rfl rfl
  ·refine gs hF fun h6 hF=>bs hF fun z8 h9 hF=>bs hF fun qB wA hF=>bs hF fun rB gA hF=>cs<|bN<|tn<|sr<|oF fb66k1 rfl<|oL kt22 rfl<|oN Tryz.underlying22 rfl<|b_ rfl<|b_ rfl<|b_ rfl<|Under.mk h6 Tryz.underlying24 AT5 rfl rfl rfl fun v5=>a_ rfl<|ns<|m_ rfl<|Under.appG h9 Tryz.underlying24 (by kernel_rfl) AT5 rfl rfl (.str jq) rfl fun wB=>a_ rfl<|ns<|m_ rfl<|oF fb66k rfl<|oF fb35k rfl<|oI kt3 rfl<|oC (by kernel_rfl) Tryz.underlying5 rfl<|bF (ys:=[1,IntKind.wrap .u8 a0.Header.Left]) Tryz.underlying24 ET5 (BldA.cons rfl rfl rdI (BldA.cons rfl rfl rdI (BldA.nil _))) rfl rfl<|ap wA Tryz.underlying24 AT5 rfl rfl rdV rfl fun gB=>a_ rfl<|ns<|m_ rfl<|oF fb66k1 rfl<|oL kt22 rfl<|oN Tryz.underlying22 rfl<|oC (by kernel_rfl) Tryz.underlying117 rfl<|Under.callX Tryz.call51 rfl rfl (o61 gA _) rfl ?_
   rintro mB
   refine bs hF fun nB mA hF=>a_ rfl<|ns<|m_ rfl<|oF fb66k rfl<|oF fb35k1 rfl<|oI kt2 rfl<|oC (by kernel_rfl) Tryz.underlying117 rfl<|Under.callX Tryz.call51 rfl rfl (o61 mA _) rfl ?_
   rintro pB
   refine bs hF fun tB nA hF=>a_ rfl<|ns<|m_ rfl<|oF fb66k rfl<|oF fb35k2 rfl<|oI kt2 rfl<|oC (by kernel_rfl) Tryz.underlying117 rfl<|Under.callX Tryz.call51 rfl rfl (o61 nA _) rfl ?_
   rintro pA
   refine bs hF fun tA vA hF=>a_ rfl<|nt<|sq<|Under.after (fun X=>∀(oA:List Int) (kA:Value),tA=(.inr oA)→Under F0 74 [(4,.raw kA)] ((.own K7 kA 5 oA)::L) X) ?_ ?_
   ·intro oA kA hA
    replace hA:=hA.symm
    subst hA
    refine bs hF fun uB uA hF=>bs hF fun xC xB hF=>bs hF fun yC yB hF=>sr<|m_ rfl<|ov (OpV.bst BT120 (Bld.cons (x':=(⟨1,(0:Int)⟩:ah)) rfl rfl rdI (by intro q hq;simp only[List.mem_cons,List.not_mem_nil,or_false] at hq;rcases hq with rfl<;>rfl) (Bld.nil _))) rfl<|m_ rfl<|ca Tryz.call52 rfl rfl (Ok.lend (fun L=>o45 uA L) ⟨.inl rfl,⟨.inr ⟨rfl,rfl⟩,trivial⟩⟩ (SvF.val (Free.st2 Free.int Free.int))) rfl<|cx Tryz.call53 rfl (o44 xB _)<|oC (by kernel_rfl) Tryz.underlying117 rfl<|cx Tryz.call51 rfl (o62 yB _)<|a_ rfl<|a_ rfl<|nt<|rc ?_
    cases osi hF
    exact rs Tryz.results27 (.tm rfl (.tm rfl .nil)) rfl rfl
   ·intro K zB
    refine bs vA fun hB dA vA=>sr<|oF fb66k1 rfl<|oL kt22 rfl<|oN Tryz.underlying22 rfl<|m_ rfl<|nt<|bk<|lp dA (C:=Value) pA (fun yA zA=>[(4,.raw zA),(52,.val K0 a0.Cells),(53,.raw (.int .i64 (a0.Cells.length:Int))),(54,.raw (.int .i64 yA.2))]) (fun yA zA=>(.own K7 zA 5 yA.1)::L) rfl rfl fun yA zA bB xA bA=>?_
    obtain⟨vB,oB⟩:=yA
    dsimp only at xA⊢
    refine sr<|b_ rfl<|nt<|sq<|it xA rfl (fun xA=>?_) (fun xA=>?_)
    ·refine bs xA fun kB eA xA=>ct<|sq<|bk<|sr<|oS eA Tryz.underlying22 sz24 rfl<|oL kt24 rfl<|a_ rfl<|nt<|sq<|sr<|m_ rfl<|oN Tryz.underlying24 rfl<|b_ rfl<|nt<|it xA rfl (fun xA=>?_) (fun xA=>?_)
     ·refine dr<|sr<|a_ rfl<|a_ rfl<|nt<|rt<|Under.bR<|tr ?_
      cases an xA bA
      refine tr<|Under.bR<|tr ?_
      cases osi vA
      refine tV (K:=kSl K7) (x:=[]) (t:=2) rfl rdN ?_
      cases osi hF
      exact rs Tryz.results27 (.tm rfl (.tm rfl .nil)) rfl rfl
     ·refine bs xA fun dB cA xA=>ct<|sr<|m_ rfl<|Under.callX Tryz.call51 rfl rfl (o61 cA _) rfl ?_
      rintro eB
      exact bs xA fun cB qA xA=>a_ rfl<|nt<|rg<|m_ rfl<|m_ rfl<|ap qA Tryz.underlying24 AT5 rfl rfl rdV rfl fun rA=>a_ rfl<|nl<|bN<|tn<|rg<|b_ rfl<|m_ rfl<|nl<|nx rA xA rfl rfl
    ·refine xt<|te ?_
     cases an xA bA
     exact te<|bh<|tn<|wr (zB _ _ (osi vA).symm) rfl
noncomputable def da (a0:Int) (a1:Int) (a2:Int) (a3:List (List Int)):Option ((List Int)×Int):=
 (dp (⟨(⟨a0,a1,a2⟩:ae),a3⟩:aq)).bind fun y1=>
 some (y1.1,y1.2)
theorem o64 {a0 a1 a2:Int} {a3:List (List Int)} {r0:((List Int)×Int)} (hF:da a0 a1 a2 a3=some r0) (L:List Res):Ok Tryz.prog 11 [SV.raw (.int .i64 a0),SV.raw (.int .i64 a1),SV.raw (.int .i64 a2),SV.val K0 a3] L (SV.tup [SV.val K5 r0.1,SV.raw (.int .i64 r0.2)]) L:=by
 unfold da at hF
 refine okI 19 Tryz.func11 rfl rfl rfl fun F0=>?_
 refine bs hF fun y1 h2 hF=>sr<|a_ rfl<|a_ rfl<|ns<|m_ rfl<|m_ rfl<|m_ rfl<|ov (OpV.bst BT35 (Bld.cons (x':=(⟨a0,(0:Int),(0:Int)⟩:ae)) rfl rfl rdI (by intro q hq;simp only[List.mem_cons,List.not_mem_nil,or_false] at hq;rcases hq with rfl|rfl<;>rfl) (Bld.cons (x':=(⟨a0,a1,(0:Int)⟩:ae)) rfl rfl rdI ⟨rfl,(by intro q hq;simp only[List.mem_cons,List.not_mem_nil,or_false] at hq;rcases hq with rfl<;>rfl)⟩ (Bld.cons (x':=(⟨a0,a1,a2⟩:ae)) rfl rfl rdI ⟨rfl,⟨rfl,(fun q hq=>by simp at hq)⟩⟩ (Bld.nil _))))) rfl<|m_ rfl<|ov (OpV.bst BT66 (Bld.cons (x':=(⟨(⟨a0,a1,a2⟩:ae),[]⟩:aq)) rfl rfl rdV (by intro q hq;simp only[List.mem_cons,List.not_mem_nil,or_false] at hq;rcases hq with rfl<;>rfl) (Bld.cons (x':=(⟨(⟨a0,a1,a2⟩:ae),a3⟩:aq)) rfl rfl rdV ⟨rfl,(fun q hq=>by simp at hq)⟩ (Bld.nil _)))) rfl<|cx Tryz.call27 rfl (o63 h2 _)<|oE rfl<|oE rfl<|a_ rfl<|a_ rfl<|nt<|rc ?_
 cases osi hF
 exact rs Tryz.results11 (.tm rfl (.tm rfl .nil)) rfl rfl
noncomputable def aA (a0:List Int) (a1:Int) (a2:Int):Option Int:=
 (((Loop.run (S := (Int × Int)) (R := (Int ⊕ Int)) (fun (xA, yA) =>
   bif decide (yA<(IntKind.wrap .i64 (a1+a2))) then
    bif decide (xA≥36028797018963968) then
     some (.done (.inr (-1)))
    else
     (idx a0 yA).bind fun zA=>
     some (.next (IntKind.wrap .i64 ((IntKind.wrap .i64 (xA*256))+(IntKind.wrap .i64 zA)),IntKind.wrap .i64 (yA+1)))
   else
    some (.done (.inl xA))) (0,a1)).bind fun hA=>match hA with
  | .inl bA=>
   some (.inr bA)
  | .inr z=>
   some (.inl z)
  : Option (Int ⊕ Int))).bind fun vA => match vA with
  | .inl z=>
   some z
  | .inr x23=>
   some x23
theorem o65 {a0:List Int} {a1 a2:Int} {r0:Int} (hF:aA a0 a1 a2=some r0) (L:List Res):Ok Tryz.prog 87 [SV.val K5 a0,SV.raw (.int .i64 a1),SV.raw (.int .i64 a2)] L (SV.raw (.int .i64 r0)) L:=by
 unfold aA at hF
 refine okI 28 Tryz.func87 rfl rfl rfl fun F0=>?_
 refine bs hF fun kA zA hF=>sr<|a_ rfl<|ns<|a_ rfl<|nt<|sq<|Under.after (fun X=>∀(hA:Int),kA=(.inr hA)→Under F0 28 [(7,.raw (.int .i64 hA))] (L) X) ?_ ?_
 ·intro hA bA
  replace bA:=bA.symm
  subst bA
  refine sr<|m_ rfl<|a_ rfl<|nt<|rc ?_
  cases osi hF
  exact rs Tryz.results87 (.tm rfl .nil) rfl rfl
 ·intro K dA
  refine bs zA fun qA eA zA=>sr<|m_ rfl<|a_ rfl<|nt<|bk<|lp eA () (fun yA vA=>[(0,.val K5 a0),(1,.raw (.int .i64 a1)),(2,.raw (.int .i64 a2)),(7,.raw (.int .i64 yA.1)),(8,.raw (.int .i64 yA.2))]) (fun yA vA=>L) rfl rfl fun yA vA rA xA oA=>?_
  obtain⟨wA,gA⟩:=yA
  dsimp only at xA⊢
  refine sq<|sr<|m_ rfl<|m_ rfl<|mb rfl<|b_ rfl<|nt<|it xA rfl (fun xA=>?_) (fun xA=>?_)
  ·refine ct<|sq<|bk<|sq<|sr<|mb rfl<|nt<|it xA rfl (fun xA=>?_) (fun xA=>?_)
   ·refine sr<|a_ rfl<|nt<|rt<|Under.bR<|tr ?_
    cases an xA oA
    refine tr<|Under.bR<|tr ?_
    cases osi zA
    cases osi hF
    exact rs Tryz.results87 (.tm rfl .nil) rfl rfl
   ·exact bs xA fun mA cA xA=>ct<|rg<|mb rfl<|m_ rfl<|m_ rfl<|oS cA Tryz.underlying24 sz5 rfl<|oI kt5 rfl<|oC (by kernel_rfl) Tryz.underlying3 rfl<|b_ rfl<|a_ rfl<|nl<|bN<|tn<|rg<|mb rfl<|a_ rfl<|nl<|nx () xA rfl rfl
  ·refine xt<|te ?_
   cases an xA oA
   exact te<|bh<|tn<|wr (dA _ (osi zA).symm) rfl
noncomputable def aH (a0:List Int) (a1:Int):Option Int:=
 ((bif a1==0 then
  (sub a0 0 4).bind fun zA=>
  bif (strB zA) != [67,72,82,78] then
   some (.inl 60)
  else
   some (.inr ())
 else
  bif a1==4 then
   (idx a0 4).bind fun hA=>
   bif hA != 1 then
    some (.inl 61)
   else
    some (.inr ())
  else
   bif a1==5 then
    (idx a0 5).bind fun bA=>
    bif decide (bA>8) then
     some (.inl 62)
    else
     some (.inr ())
   else
    bif a1==6 then
     (aA a0 6 2).bind fun vA=>
     bif decide (vA>256) then
      some (.inl 63)
     else
      some (.inr ())
    else
     bif a1==8 then
      (aA a0 8 8).bind fun xA=>
      bif (decide (xA<0))||(decide (xA≥4611686018427387904)) then
       some (.inl 62)
      else
       some (.inr ())
     else
      bif a1==16 then
       (aA a0 16 8).bind fun yA=>
       bif (decide (yA<0))||(decide (yA>4611686018427387904)) then
        some (.inl 62)
       else
        some (.inr ())
      else
       some (.inr ())
  : Option (Int ⊕ Unit))).bind fun oA => match oA with
  | .inl z=>
   some z
  | .inr _=>
   some 0
theorem o66 {a0:List Int} {a1:Int} {r0:Int} (hF:aH a0 a1=some r0) (L:List Res):Ok Tryz.prog 86 [SV.val K5 a0,SV.raw (.int .i64 a1)] L (SV.raw (.int .i64 r0)) L:=by
 unfold aH at hF
 refine okI 51 Tryz.func86 rfl rfl rfl fun F0=>?_
 refine bs hF fun kA xA hF=>sr<|a_ rfl<|nt<|sq<|Under.after (fun X=>∀(_:Unit),kA=(.inr ())→Under F0 51 [] (L) X) ?_ ?_
 ·intro _ bA
  replace bA:=bA.symm
  subst bA
  refine sr<|a_ rfl<|nt<|rc ?_
  cases osi hF
  exact rs Tryz.results86 (.tm rfl .nil) rfl rfl
 ·intro K hA
  refine sr<|m_ rfl<|nt<|bk<|sr<|b_ rfl<|a_ rfl<|nt<|it xA rfl (fun xA=>?_) (fun xA=>?_)
  ·refine bs xA fun gA dA xA=>sr<|m_ rfl<|ov (OpV.slH dA Tryz.underlying24 sz5 rfl rdV rfl) rfl<|ov (OpV.b2s Tryz.underlying24 Tryz.underlying5 Tryz.underlying9 rfl rdV) rfl<|ov (OpV.eqS Tryz.underlying9 rfl rdV rfl jq (.inr rfl)) rfl<|nt<|it xA rfl (fun xA=>?_) (fun xA=>?_)
   ·refine sr<|a_ rfl<|nt<|rc<|Under.bR<|tr ?_
    cases osi xA
    cases osi hF
    exact rs Tryz.results86 (.tm rfl .nil) rfl rfl
   ·exact cs<|bN<|tn<|wr (hA () (osi xA).symm) rfl
  ·refine sr<|b_ rfl<|a_ rfl<|nt<|it xA rfl (fun xA=>?_) (fun xA=>?_)
   ·refine bs xA fun mA eA xA=>sr<|m_ rfl<|oS eA Tryz.underlying24 sz5 rfl<|oI kt5 rfl<|b_ rfl<|nt<|it xA rfl (fun xA=>?_) (fun xA=>?_)
    ·refine sr<|a_ rfl<|nt<|rc<|Under.bR<|tr ?_
     cases osi xA
     cases osi hF
     exact rs Tryz.results86 (.tm rfl .nil) rfl rfl
    ·exact cs<|bN<|tn<|wr (hA () (osi xA).symm) rfl
   ·refine sr<|b_ rfl<|a_ rfl<|nt<|it xA rfl (fun xA=>?_) (fun xA=>?_)
    ·refine bs xA fun nA cA xA=>sr<|m_ rfl<|oS cA Tryz.underlying24 sz5 rfl<|oI kt5 rfl<|b_ rfl<|nt<|it xA rfl (fun xA=>?_) (fun xA=>?_)
     ·refine sr<|a_ rfl<|nt<|rc<|Under.bR<|tr ?_
      cases osi xA
      cases osi hF
      exact rs Tryz.results86 (.tm rfl .nil) rfl rfl
     ·exact cs<|bN<|tn<|wr (hA () (osi xA).symm) rfl
    ·refine sr<|b_ rfl<|a_ rfl<|nt<|it xA rfl (fun xA=>?_) (fun xA=>?_)
     ·refine bs xA fun pA qA xA=>sr<|m_ rfl<|cx Tryz.call87 rfl (o65 qA _)<|b_ rfl<|nt<|it xA rfl (fun xA=>?_) (fun xA=>?_)
      ·refine sr<|a_ rfl<|nt<|rc<|Under.bR<|tr ?_
       cases osi xA
       cases osi hF
       exact rs Tryz.results86 (.tm rfl .nil) rfl rfl
      ·exact cs<|bN<|tn<|wr (hA () (osi xA).symm) rfl
     ·refine sr<|b_ rfl<|a_ rfl<|nt<|it xA rfl (fun xA=>?_) (fun xA=>?_)
      ·refine bs xA fun vA rA xA=>sr<|m_ rfl<|cx Tryz.call87 rfl (o65 rA _)<|a_ rfl<|ns<|mb rfl<|m_ rfl<|f7 40 ((decide (vA<0))||(decide (vA≥4611686018427387904))) ?_ (fun k=>?_)
       ·refine nt<|it xA rfl (fun xA=>?_) (fun xA=>?_)
        ·refine sr<|a_ rfl<|nt<|rc<|Under.bR<|tr ?_
         cases osi xA
         cases osi hF
         exact rs Tryz.results86 (.tm rfl .nil) rfl rfl
        ·exact cs<|bN<|tn<|wr (hA () (osi xA).symm) rfl
       ·refine by_ (t:=37) rfl (fun yA=>?_) (fun yA=>?_)
        ·exact sk_ yA rfl<|sk_ yA rfl<|pT yA rfl<|rf 2 (or_t (e:=decide (vA≥4611686018427387904)) yA) rfl k
        ·exact gc_ yA rfl<|m_ rfl<|gc_ yA rfl<|b_ rfl<|pF yA rfl<|rf 2 (or_f yA) rfl k
      ·refine sr<|b_ rfl<|a_ rfl<|nt<|it xA rfl (fun xA=>?_) (fun xA=>?_)
       ·refine bs xA fun oA wA xA=>sr<|m_ rfl<|cx Tryz.call87 rfl (o65 wA _)<|a_ rfl<|ns<|mb rfl<|m_ rfl<|f7 50 ((decide (oA<0))||(decide (oA>4611686018427387904))) ?_ (fun k=>?_)
        ·refine nt<|it xA rfl (fun xA=>?_) (fun xA=>?_)
         ·refine sr<|a_ rfl<|nt<|rc<|Under.bR<|tr ?_
          cases osi xA
          cases osi hF
          exact rs Tryz.results86 (.tm rfl .nil) rfl rfl
         ·exact cs<|bN<|tn<|wr (hA () (osi xA).symm) rfl
        ·refine by_ (t:=47) rfl (fun zA=>?_) (fun zA=>?_)
         ·exact sk_ zA rfl<|sk_ zA rfl<|pT zA rfl<|rf 2 (or_t (e:=decide (oA>4611686018427387904)) zA) rfl k
         ·exact gc_ zA rfl<|m_ rfl<|gc_ zA rfl<|b_ rfl<|pF zA rfl<|rf 2 (or_f zA) rfl k
       ·exact cs<|bN<|tn<|wr (hA () (osi xA).symm) rfl
noncomputable def bT (a0:List Int):Option (List Int):=
 (app [] a0).bind fun z1=>
 some z1
theorem o67 {a0:List Int} {r0:(List Int)} (hF:bT a0=some r0) (L:List Res):Ok Tryz.prog 88 [SV.val K5 a0] L (SV.val K5 r0) L:=by
 unfold bT at hF
 refine okI 8 Tryz.func88 rfl rfl rfl fun F0=>?_
 refine bs hF fun z1 h2 hF=>sr<|a_ rfl<|ns<|a_ rfl<|ns<|m_ rfl<|m_ rfl<|Under.ownNil (K:=kInt .u8) (e:=5)<|ap h2 Tryz.underlying24 AT5 rfl rfl rdV rfl fun v3=>a_ rfl<|nl<|fzO (t:=3) rfl<|tn<|sr<|m_ rfl<|a_ rfl<|nt<|rc ?_
 cases osi hF
 exact rs Tryz.results88 (.tm rfl .nil) rfl rfl
noncomputable def bQ (a0:List Int):Option (List Int):=
 (((Loop.run (S:=(Int×Int×Int)) (R:=(Int×Int)) (fun(xA,zA,yA)=>
   bif decide (yA<(a0.length:Int)) then
    (idx a0 yA).bind fun hA=>
    some (.next (Int.tmod (IntKind.wrap .i64 (xA+(IntKind.wrap .i64 hA))) 65521,Int.tmod (IntKind.wrap .i64 (zA+(Int.tmod (IntKind.wrap .i64 (xA+(IntKind.wrap .i64 hA))) 65521))) 65521,IntKind.wrap .i64 (yA+1)))
   else
    some (.done (xA,zA))) (1,0,0)).bind fun bA=>match bA with
  |(vA,oA)=>
   some (vA,oA)
  :Option (Int×Int))).bind fun kA=>match kA with
  |(dA,eA)=>
   (aO (IntKind.wrap .i64 ((IntKind.wrap .i64 (eA*65536))+dA)) 4).bind fun cA=>
   some cA
theorem o68 {a0:List Int} {r0:(List Int)} (hF:bQ a0=some r0) (L:List Res):Ok Tryz.prog 49 [SV.val K5 a0] L (SV.val K5 r0) L:=by
 unfold bQ at hF
 refine okI 29 Tryz.func49 rfl rfl rfl fun F0=>?_
 refine bs hF fun kA zA hF=>sr<|a_ rfl<|ns<|a_ rfl<|a_ rfl<|nt<|sq<|Under.after (fun X=>∀(hA:Int) (bA:Int),kA=(hA,bA)→Under F0 29 [(3,.raw (.int .i64 hA)),(4,.raw (.int .i64 bA))] (L) X) ?_ ?_
 ·intro hA bA vA
  replace vA:=vA.symm
  subst vA
  refine bs hF fun wA dA hF=>sr<|mb rfl<|mb rfl<|cx Tryz.call48 rfl (o55 dA _)<|a_ rfl<|nt<|rc ?_
  cases osi hF
  exact rs Tryz.results49 (.tm rfl .nil) rfl rfl
 ·intro K eA
  refine bs zA fun gA cA zA=>sr<|a_ rfl<|nt<|bk<|lp cA () (fun yA oA=>[(0,.val K5 a0),(3,.raw (.int .i64 yA.1)),(4,.raw (.int .i64 yA.2.1)),(5,.raw (.int .i64 yA.2.2))]) (fun yA oA=>L) rfl rfl fun yA oA mA xA qA=>?_
  obtain⟨nA,pA,tA⟩:=yA
  dsimp only at xA⊢
  refine sq<|sr<|m_ rfl<|m_ rfl<|oN Tryz.underlying24 rfl<|b_ rfl<|nt<|it xA rfl (fun xA=>?_) (fun xA=>?_)
  ·exact bs xA fun uA rA xA=>ct<|sq<|bk<|sr<|m_ rfl<|m_ rfl<|m_ rfl<|oS rA Tryz.underlying24 sz5 rfl<|oI kt5 rfl<|oC (by kernel_rfl) Tryz.underlying3 rfl<|b_ rfl<|ov (OpV.quo rfl rfl (by decide) rfl) rfl<|a_ rfl<|nt<|rg<|m_ rfl<|mb rfl<|ov (OpV.quo rfl rfl (by decide) rfl) rfl<|a_ rfl<|nl<|bN<|tn<|rg<|mb rfl<|a_ rfl<|nl<|nx () xA rfl rfl
  ·refine xt<|te ?_
   cases an xA qA
   exact te<|bh<|tn<|wr (eA _ _ (osi zA).symm) rfl
noncomputable def bi (a0:List Int) (a1:Int) (a2:ab):Option ab:=
 bif decide ((a0.length:Int)<(IntKind.wrap .i64 (a1+4))) then
  some ({({a2 with Place:=(a0.length:Int)}:ab) with Err:=67}:ab)
 else
  (sub a0 0 a1).bind fun x4=>
  (bQ x4).bind fun y6=>
  (sub a0 a1 (IntKind.wrap .i64 (a1+4))).bind fun x8=>
  bif (strB x8) != (strB y6) then
   some ({({a2 with Place:=a1}:ab) with Err:=65}:ab)
  else
   ((bif decide ((a0.length:Int)>(IntKind.wrap .i64 (a1+4))) then
    some ({({a2 with Place:=IntKind.wrap .i64 (a1+4)}:ab) with Err:=66}:ab)
   else
    some a2
    :Option ab)).bind fun xA=>
   some xA
theorem o69 {a0:List Int} {a1:Int} {a2:ab} {r0:ab} (hF:bi a0 a1 a2=some r0) (L:List Res):Ok Tryz.prog 89 [SV.val K5 a0,SV.raw (.int .i64 a1),SV.val av a2] L (SV.val av r0) L:=by
 unfold bi at hF
 refine okI 45 Tryz.func89 rfl rfl rfl fun F0=>?_
 refine sr<|Under.bx (K:=av) rfl rdV rfl fun b1=>al ZT124 rfl fun b2=>nt<|sq<|sr<|m_ rfl<|oN Tryz.underlying24 rfl<|mb rfl<|b_ rfl<|nt<|it hF rfl (fun hF=>?_) (fun hF=>?_)
 ·refine sr<|m_ rfl<|oN Tryz.underlying24 rfl<|oM eW rfl<|f1<|sP (x':=({a2 with Place:=(a0.length:Int)}:ab)) .box (.fld .id cz) sz3k rfl rfl rdI rfl<|oM eX rfl<|sP (x':=({({a2 with Place:=(a0.length:Int)}:ab) with Err:=67}:ab)) .box (.fld .id cF) sz3k rfl rfl rdI rfl<|nl<|fz (t:=5) rfl<|tn<|sr<|oL kt124 rfl<|sP (x':=({({a2 with Place:=(a0.length:Int)}:ab) with Err:=67}:ab)) .box .id sz124k rfl rfl rdV rfl<|nl<|fz (t:=6) rfl<|tn<|rt ?_
  cases osi hF
  exact rs Tryz.results89 (.ce rfl kt124 .nil) rfl rfl
 ·refine bs hF fun x4 h5 hF=>bs hF fun y6 h7 hF=>bs hF fun x8 h9 hF=>ct<|sr<|m_ rfl<|m_ rfl<|ov (OpV.slH h5 Tryz.underlying24 sz5 rfl rdV rfl) rfl<|cx Tryz.call49 rfl (o68 h7 _)<|a_ rfl<|nt<|sq<|sq<|dw rfl (by kernel_rfl) fun F hF0=>mvq rfl rfl<|mvq rfl rfl<|mvq rfl rfl<|bnq rfl rfl rfl rfl<|oq (OpV.slLH h9 Tryz.underlying24 sz5 rfl rdV rfl rfl) rfl<|oq (OpV.b2s Tryz.underlying24 Tryz.underlying5 Tryz.underlying9 rfl rdV) rfl<|mvq rfl rfl<|oq (OpV.b2s Tryz.underlying24 Tryz.underlying5 Tryz.underlying9 rfl rdV) rfl<|oq (OpV.eqS Tryz.underlying9 rfl rdV rfl rdV (.inr rfl)) rfl<|nlq hF0<|tn<|it hF rfl (fun hF=>?_) (fun hF=>?_)
  ·refine sr<|m_ rfl<|oM eW rfl<|f1<|sP (x':=({a2 with Place:=a1}:ab)) .box (.fld .id cz) sz3k rfl rfl rdI rfl<|oM eX rfl<|sP (x':=({({a2 with Place:=a1}:ab) with Err:=65}:ab)) .box (.fld .id cF) sz3k rfl rfl rdI rfl<|nl<|fz (t:=5) rfl<|tn<|sr<|oL kt124 rfl<|sP (x':=({({a2 with Place:=a1}:ab) with Err:=65}:ab)) .box .id sz124k rfl rfl rdV rfl<|nl<|fz (t:=6) rfl<|tn<|rt ?_
   cases osi hF
   exact rs Tryz.results89 (.ce rfl kt124 .nil) rfl rfl
  ·refine bs hF fun xA yA hF=>ct<|sq<|afr (r:=xA) (fun xA=>[(5,.ptr av xA),(6,pb b2)]) (fun xA=>((.box av b2 124 (⟨false,(⟨(0:Int),(0:Int),(0:Int)⟩:ae),[],(0:Int),(0:Int)⟩:ab))::L)) ?_ fun K zA=>?_
   ·refine sr<|oL kt124 rfl<|sP (x':=xA) .box .id sz124k rfl rfl rdV rfl<|nl<|fz (t:=6) rfl<|tn<|rc ?_
    cases osi hF
    exact rs Tryz.results89 (.ce rfl kt124 .nil) rfl rfl
   ·refine sr<|m_ rfl<|oN Tryz.underlying24 rfl<|mb rfl<|b_ rfl<|nt<|it yA rfl (fun yA=>?_) (fun yA=>?_)
    ·exact rg<|mb rfl<|oM eW rfl<|f1<|sP (x':=({a2 with Place:=IntKind.wrap .i64 (a1+4)}:ab)) .box (.fld .id cz) sz3k rfl rfl rdI rfl<|oM eX rfl<|sP (x':=({({a2 with Place:=IntKind.wrap .i64 (a1+4)}:ab) with Err:=66}:ab)) .box (.fld .id cF) sz3k rfl rfl rdI rfl<|nl<|fz (t:=5) rfl<|tn<|wr (zA _ (osi yA).symm) rfl
    ·exact f1<|fz (t:=5) rfl<|ct<|wr (zA _ (osi yA).symm) rfl
noncomputable def cK (a0:List Int):Option ab:=
 (((Loop.run (S := (Int × Int)) (R := (Int ⊕ ab)) (fun (hA, yA) =>
   bif decide (yA<([4,5,6,8,16,24].length:Int)) then
    (idx [4,5,6,8,16,24] yA).bind fun oA=>
    bif decide ((a0.length:Int)<oA) then
     some (.done (.inr (⟨false,(⟨(0:Int),(0:Int),(0:Int)⟩:ae),[],(a0.length:Int),67⟩:ab)))
    else
     (aH a0 hA).bind fun bA=>
     bif bA != 0 then
      some (.done (.inr (⟨false,(⟨(0:Int),(0:Int),(0:Int)⟩:ae),[],hA,bA⟩:ab)))
     else
      (idx [4,5,6,8,16,24] yA).bind fun kA=>
      some (.next (kA,IntKind.wrap .i64 (yA+1)))
   else
    some (.done (.inl hA))) (0,0)).bind fun dA=>match dA with
  | .inl eA=>
   some (.inr eA)
  | .inr z=>
   some (.inl z)
  : Option (ab ⊕ Int))).bind fun vB => match vB with
  | .inl z=>
   some z
  | .inr oB=>
   (aA a0 8 8).bind fun cA=>
   (aA a0 16 8).bind fun qA=>
   (idx a0 5).bind fun rA=>
   (aA a0 6 2).bind fun kB=>
   (((Loop.run (S := (Int × Int × (List (List Int)))) (R := ((ab × Int) ⊕ ab)) (fun (xA, vA, zA) =>
     bif decide (vA<kB) then
      ((bif decide ((a0.length:Int)≥(IntKind.wrap .i64 (xA+2))) then
       (aA a0 xA 2).bind fun wA=>
       some (wA != 320)
      else
       some false
       :Option Bool)).bind fun gA=>
      bif gA then
       some (.done (.inr (⟨true,(⟨cA,qA,IntKind.wrap .i64 rA⟩:ae),zA,xA,64⟩:ab)))
      else
       bif decide ((a0.length:Int)<(IntKind.wrap .i64 ((IntKind.wrap .i64 (xA+2))+320))) then
        some (.done (.inr (⟨true,(⟨cA,qA,IntKind.wrap .i64 rA⟩:ae),zA,(a0.length:Int),67⟩:ab)))
       else
        (sub a0 (IntKind.wrap .i64 (xA+2)) (IntKind.wrap .i64 ((IntKind.wrap .i64 (xA+2))+320))).bind fun mA=>
        (bT mA).bind fun nA=>
        (app zA [nA]).bind fun pA=>
        some (.next (IntKind.wrap .i64 ((IntKind.wrap .i64 (xA+2))+320),IntKind.wrap .i64 (vA+1),pA))
     else
      some (.done (.inl ((⟨true,(⟨cA,qA,IntKind.wrap .i64 rA⟩:ae),zA,(0:Int),(0:Int)⟩:ab),xA)))) (oB,0,[])).bind fun tA=>match tA with
    | .inl (uA,xB)=>
     some (.inr (uA,xB))
    | .inr z=>
     some (.inl z)
    : Option (ab ⊕ (ab × Int)))).bind fun yB => match yB with
    | .inl z=>
     some z
    | .inr (zB,hB)=>
     (bi a0 hB zB).bind fun bB=>
     some bB
theorem o70 {a0:List Int} {r0:ab} (hF:cK a0=some r0) (L:List Res):Ok Tryz.prog 54 [SV.val K5 a0] L (SV.val av r0) L:=by
 unfold cK at hF
 refine okI 107 Tryz.func54 rfl rfl rfl fun F0=>?_
 refine bs hF fun yC yB hF=>sr<|al ZT124 rfl fun b1=>ns<|al ZT124k rfl fun b2=>ns<|a_ rfl<|ns<|bF (ys:=[4,5,6,8,16,24]) Tryz.underlying94 ET3 (BldA.cons rfl rfl rdI (BldA.cons rfl rfl rdI (BldA.cons rfl rfl rdI (BldA.cons rfl rfl rdI (BldA.cons rfl rfl rdI (BldA.cons rfl rfl rdI (BldA.nil _))))))) rfl rfl<|a_ rfl<|nt<|sq<|Under.after (fun X=>∀(bB:Int),yC=(.inr bB)→Under F0 107 [(0,.val K5 a0),(2,pb b1),(3,pb b2),(4,.raw (.int .i64 bB))] ((.box av b1 124 (⟨false,(⟨(0:Int),(0:Int),(0:Int)⟩:ae),[],(0:Int),(0:Int)⟩:ab))::(.box bt b2 124 (⟨false,(⟨(0:Int),(0:Int),(0:Int)⟩:ae),.slice none 0 0,(0:Int),(0:Int)⟩:ai))::L) X) ?_ ?_
 ·intro bB gA
  replace gA:=gA.symm
  subst gA
  refine bs hF fun vA zC hF=>bs hF fun oA hC hF=>bs hF fun kA bC hF=>bs hF fun vC oC hF=>bs hF fun vB eA hF=>sr<|oM me rfl<|f1<|sP (x':=(⟨true,(⟨(0:Int),(0:Int),(0:Int)⟩:ae),.slice none 0 0,(0:Int),(0:Int)⟩:ai)) .box (.fld .id ey) sz4k rfl rfl rdB rfl<|nt<|sq<|ph rfl<|gV [0,1,2,3,4,5,6,7] [[0],[44],[0],[46],[0],[48],[49],[50]] 2 (by kernel_rfl) rfl<|vm_ rfl<|Vq.v (fun G T hG=>cx Tryz.call87 rfl (o65 zC _)<|Vq.end rfl)<|vm_ rfl<|Vq.v (fun G T hG=>cx Tryz.call87 rfl (o65 hC _)<|Vq.end rfl)<|vm_ rfl<|vo (fun _=>OpV.ixS bC Tryz.underlying24 sz5 rfl rdV rfl) rfl<|vo (fun _=>OpV.ldI kt5 rfl) rfl<|vo (fun _=>OpV.conv (by kernel_rfl) Tryz.underlying3 rfl) rfl<|vn<|p1 8 rfl rfl<|ov (OpV.bst BT35 (Bld.cons (x':=(⟨vA,(0:Int),(0:Int)⟩:ae)) rfl rfl rdI (by intro q hq;simp only[List.mem_cons,List.not_mem_nil,or_false] at hq;rcases hq with rfl|rfl<;>rfl) (Bld.cons (x':=(⟨vA,oA,(0:Int)⟩:ae)) rfl rfl rdI ⟨rfl,(by intro q hq;simp only[List.mem_cons,List.not_mem_nil,or_false] at hq;rcases hq with rfl<;>rfl)⟩ (Bld.cons (x':=(⟨vA,oA,IntKind.wrap .i64 kA⟩:ae)) rfl rfl rdI ⟨rfl,⟨rfl,(fun q hq=>by simp at hq)⟩⟩ (Bld.nil _))))) rfl<|pn<|p1 9 rfl rfl<|oM mf rfl<|pn<|p1 10 rfl rfl<|sP (x':=(⟨true,(⟨vA,oA,IntKind.wrap .i64 kA⟩:ae),.slice none 0 0,(0:Int),(0:Int)⟩:ai)) .box (.fld .id eF) sz35k rfl rfl rdV rfl<|pn<|pd rfl<|tn<|sr<|m_ rfl<|cx Tryz.call87 rfl (o65 oC _)<|a_ rfl<|nt<|sq<|Under.after (fun X=>∀(mA:ab) (nA:Int),vB=(.inr (mA,nA))→Under F0 107 [(0,.val K5 a0),(2,pb b1),(3,.ptr av mA),(4,.raw (.int .i64 nA))] ((.box av b1 124 (⟨false,(⟨(0:Int),(0:Int),(0:Int)⟩:ae),[],(0:Int),(0:Int)⟩:ab))::L) X) ?_ ?_
  ·intro mA nA pA
   replace pA:=pA.symm
   subst pA
   refine bs hF fun oB kB hF=>sr<|m_ rfl<|m_ rfl<|oL kt124 rfl<|cx Tryz.call89 rfl (o69 kB _)<|sP (x':=oB) .box .id sz124k rfl rfl rdV rfl<|nl<|fz (t:=2) rfl<|tn<|rc ?_
   cases osi hF
   exact rs Tryz.results54 (.ce rfl kt124 .nil) rfl rfl
  ·intro K dB
   refine bs eA fun kC eB eA=>sr<|a_ rfl<|nt<|bk<|Under.ownNil (K:=kSl K7) (e:=24)<|f2<|lp eB (C:=Value) (.slice none 0 0) (fun dA hA=>[(0,.val K5 a0),(2,pb b1),(3,pb b2),(4,.raw (.int .i64 dA.1)),(8,.raw (.int .i64 vC)),(9,.raw (.int .i64 dA.2.1))]) (fun dA hA=>(.box av b1 124 (⟨false,(⟨(0:Int),(0:Int),(0:Int)⟩:ae),[],(0:Int),(0:Int)⟩:ab))::(.own K5 hA 24 dA.2.2)::(.box bt b2 124 (⟨true,(⟨vA,oA,IntKind.wrap .i64 kA⟩:ae),hA,(0:Int),(0:Int)⟩:ai))::L) rfl rfl fun dA hA dC xA tA=>?_
   obtain⟨rA,eC,cA⟩:=dA
   dsimp only at xA⊢
   refine sq<|sr<|m_ rfl<|mb rfl<|nt<|it xA rfl (fun xA=>?_) (fun xA=>?_)
   ·refine bs xA fun cB bA xA=>ct<|sq<|bk<|sq<|sr<|m_ rfl<|oN Tryz.underlying24 rfl<|mb rfl<|b_ rfl<|m_ rfl<|kL 71 cB ?_ (fun k=>?_)
    ·refine nt<|it xA rfl (fun xA=>?_) (fun xA=>?_)
     ·refine sr<|m_ rfl<|oM eW rfl<|f2<|sP (x':=(⟨true,(⟨vA,oA,IntKind.wrap .i64 kA⟩:ae),hA,rA,(0:Int)⟩:ai)) .box (.fld .id bq) sz3k rfl rfl rdI rfl<|oM eX rfl<|sP (x':=(⟨true,(⟨vA,oA,IntKind.wrap .i64 kA⟩:ae),hA,rA,64⟩:ai)) .box (.fld .id br) sz3k rfl rfl rdI rfl<|nl<|f2<|Under.frzBO (fs:=aC) (⟨true,(⟨vA,oA,IntKind.wrap .i64 kA⟩:ae),cA,rA,64⟩:ab) (fun F hv=>⟨fun _ h=>h,fun _ h=>h,kT hv,fun _ h=>h,fun _ h=>h,trivial⟩)<|fz (t:=3) rfl<|tn<|sr<|oL kt124 rfl<|sP (x':=(⟨true,(⟨vA,oA,IntKind.wrap .i64 kA⟩:ae),cA,rA,64⟩:ab)) .box .id sz124k rfl rfl rdV rfl<|nl<|fz (t:=2) rfl<|tn<|rt<|Under.bR<|tr ?_
      cases an xA tA
      refine tr<|Under.bR<|tr ?_
      cases osi eA
      cases osi hF
      exact rs Tryz.results54 (.ce rfl kt124 .nil) rfl rfl
     ·refine ct<|sq<|sr<|m_ rfl<|oN Tryz.underlying24 rfl<|mb rfl<|b_ rfl<|b_ rfl<|nt<|it xA rfl (fun xA=>?_) (fun xA=>?_)
      ·refine sr<|m_ rfl<|oN Tryz.underlying24 rfl<|oM eW rfl<|f2<|sP (x':=(⟨true,(⟨vA,oA,IntKind.wrap .i64 kA⟩:ae),hA,(a0.length:Int),(0:Int)⟩:ai)) .box (.fld .id bq) sz3k rfl rfl rdI rfl<|oM eX rfl<|sP (x':=(⟨true,(⟨vA,oA,IntKind.wrap .i64 kA⟩:ae),hA,(a0.length:Int),67⟩:ai)) .box (.fld .id br) sz3k rfl rfl rdI rfl<|nl<|f2<|Under.frzBO (fs:=aC) (⟨true,(⟨vA,oA,IntKind.wrap .i64 kA⟩:ae),cA,(a0.length:Int),67⟩:ab) (fun F hv=>⟨fun _ h=>h,fun _ h=>h,kT hv,fun _ h=>h,fun _ h=>h,trivial⟩)<|fz (t:=3) rfl<|tn<|sr<|oL kt124 rfl<|sP (x':=(⟨true,(⟨vA,oA,IntKind.wrap .i64 kA⟩:ae),cA,(a0.length:Int),67⟩:ab)) .box .id sz124k rfl rfl rdV rfl<|nl<|fz (t:=2) rfl<|tn<|rt<|Under.bR<|tr ?_
       cases an xA tA
       refine tr<|Under.bR<|tr ?_
       cases osi eA
       cases osi hF
       exact rs Tryz.results54 (.ce rfl kt124 .nil) rfl rfl
      ·exact bs xA fun cC qB xA=>bs xA fun rB wB xA=>bs xA fun qC gB xA=>ct<|sq<|ph rfl<|gV [0,1,2,3,4,5,6,7,8,9,10] [[3],[87],[0],[4],[90],[4],[92],[93],[89,91,94],[95],[96]] 3 (by kernel_rfl) rfl<|vo (fun _=>OpV.fdM kW rfl) rfl<|Vq.v (fun G T hG=>f2<|lP .box (.fld .id cU) kt22k rfl rfl<|Under.rawR (t:=88) rfl<|f2<|f2<|Vq.end rfl)<|vm_ rfl<|vm_ rfl<|vb_ rfl<|vm_ rfl<|vb_ rfl<|vb_ rfl<|vo (fun _=>OpV.slLH qB Tryz.underlying24 sz5 rfl rdV rfl rfl) rfl<|Vq.v (fun G T hG=>cx Tryz.call88 rfl (o67 wB _)<|Vq.end rfl)<|Vq.v (fun G T hG=>bF (ys:=[rB]) Tryz.underlying22 ET24 (BldA.cons rfl rfl rdV (BldA.nil _)) rfl rfl<|Vq.end rfl)<|vn<|p1 11 rfl rfl<|f1<|ap gB Tryz.underlying22 AT24 rfl rfl rdV rfl fun zB=>pn<|p1 12 rfl rfl<|oM kW rfl<|pn<|p1 13 rfl rfl<|Under.ownCell fun mB=>f2<|sP (x':=(⟨true,(⟨vA,oA,IntKind.wrap .i64 kA⟩:ae),zB,(0:Int),(0:Int)⟩:ai)) .box (.fld .id cU) sz22k rfl rfl (lh mB) rfl<|pn<|pd rfl<|tn<|rg<|mb rfl<|b_ rfl<|a_ rfl<|nl<|bN<|tn<|rg<|mb rfl<|a_ rfl<|nl<|f1<|f2<|nx zB xA rfl rfl
    ·refine by_ (t:=66) rfl (fun zA=>?_) (fun zA=>?_)
     ·replace bA:=ctrue zA bA
      exact bs bA fun rC nB bA=>gc_ zA rfl<|m_ rfl<|gc_ zA rfl<|m_ rfl<|gc_ zA rfl<|cx Tryz.call87 rfl (o65 nB _)<|gc_ zA rfl<|b_ rfl<|pT zA rfl<|rf 4 (rbq bA) rfl k
     ·replace bA:=cfalse zA bA
      exact sk_ zA rfl<|sk_ zA rfl<|sk_ zA rfl<|sk_ zA rfl<|pF zA rfl<|rf 4 (rbq bA) rfl k
   ·refine f2<|f2<|Under.frzBO (fs:=aC) (⟨true,(⟨vA,oA,IntKind.wrap .i64 kA⟩:ae),cA,(0:Int),(0:Int)⟩:ab) (fun F hv=>⟨fun _ h=>h,fun _ h=>h,kT hv,fun _ h=>h,fun _ h=>h,trivial⟩)<|fz (t:=3) rfl<|xt<|te ?_
    cases an xA tA
    exact te<|bh<|tn<|wr (dB _ _ (osi eA).symm) rfl
 ·intro K wC
  refine bs yB fun gC pB yB=>sr<|a_ rfl<|nt<|bk<|f1<|lp pB () (fun qA hB=>[(0,.val K5 a0),(2,pb b1),(3,pb b2),(4,.raw (.int .i64 qA.1)),(5,.val (kSl (kInt .i64)) [4,5,6,8,16,24]),(6,.raw (.int .i64 qA.2))]) (fun qA hB=>(.box av b1 124 (⟨false,(⟨(0:Int),(0:Int),(0:Int)⟩:ae),[],(0:Int),(0:Int)⟩:ab))::(.box bt b2 124 (⟨false,(⟨(0:Int),(0:Int),(0:Int)⟩:ae),.slice none 0 0,(0:Int),(0:Int)⟩:ai))::L) rfl rfl fun qA hB mC yA uA=>?_
  obtain⟨wA,nC⟩:=qA
  dsimp only at yA⊢
  refine sq<|sr<|m_ rfl<|m_ rfl<|oN Tryz.underlying94 rfl<|b_ rfl<|nt<|it yA rfl (fun yA=>?_) (fun yA=>?_)
  ·refine bs yA fun pC tB yA=>ct<|sq<|bk<|sq<|sr<|m_ rfl<|oN Tryz.underlying24 rfl<|m_ rfl<|m_ rfl<|oS tB Tryz.underlying94 sz3 rfl<|oI kt3 rfl<|b_ rfl<|nt<|it yA rfl (fun yA=>?_) (fun yA=>?_)
   ·refine sr<|m_ rfl<|oN Tryz.underlying24 rfl<|oM eW rfl<|f1<|sP (x':=(⟨false,(⟨(0:Int),(0:Int),(0:Int)⟩:ae),.slice none 0 0,(a0.length:Int),(0:Int)⟩:ai)) .box (.fld .id bq) sz3k rfl rfl rdI rfl<|oM eX rfl<|sP (x':=(⟨false,(⟨(0:Int),(0:Int),(0:Int)⟩:ae),.slice none 0 0,(a0.length:Int),67⟩:ai)) .box (.fld .id br) sz3k rfl rfl rdI rfl<|nl<|Under.cvB (fs:=aC) (⟨false,(⟨(0:Int),(0:Int),(0:Int)⟩:ae),[],(a0.length:Int),67⟩:ab) (fun F=>⟨fun _ h=>h,fun _ h=>h,lX,fun _ h=>h,fun _ h=>h,trivial⟩)<|fz (t:=3) rfl<|tn<|sr<|oL kt124 rfl<|sP (x':=(⟨false,(⟨(0:Int),(0:Int),(0:Int)⟩:ae),[],(a0.length:Int),67⟩:ab)) .box .id sz124k rfl rfl rdV rfl<|nl<|fz (t:=2) rfl<|tn<|rt<|Under.bR<|tr ?_
    cases an yA uA
    refine tr<|Under.bR<|tr ?_
    cases osi yB
    cases osi hF
    exact rs Tryz.results54 (.ce rfl kt124 .nil) rfl rfl
   ·refine bs yA fun xB uB yA=>ct<|sr<|m_ rfl<|m_ rfl<|cx Tryz.call86 rfl (o66 uB _)<|a_ rfl<|nt<|sq<|sr<|mb rfl<|nt<|it yA rfl (fun yA=>?_) (fun yA=>?_)
    ·refine sr<|m_ rfl<|m_ rfl<|oM eW rfl<|f1<|sP (x':=(⟨false,(⟨(0:Int),(0:Int),(0:Int)⟩:ae),.slice none 0 0,wA,(0:Int)⟩:ai)) .box (.fld .id bq) sz3k rfl rfl rdI rfl<|oM eX rfl<|sP (x':=(⟨false,(⟨(0:Int),(0:Int),(0:Int)⟩:ae),.slice none 0 0,wA,xB⟩:ai)) .box (.fld .id br) sz3k rfl rfl rdI rfl<|nl<|Under.cvB (fs:=aC) (⟨false,(⟨(0:Int),(0:Int),(0:Int)⟩:ae),[],wA,xB⟩:ab) (fun F=>⟨fun _ h=>h,fun _ h=>h,lX,fun _ h=>h,fun _ h=>h,trivial⟩)<|fz (t:=3) rfl<|tn<|sr<|oL kt124 rfl<|sP (x':=(⟨false,(⟨(0:Int),(0:Int),(0:Int)⟩:ae),[],wA,xB⟩:ab)) .box .id sz124k rfl rfl rdV rfl<|nl<|fz (t:=2) rfl<|tn<|rt<|Under.bR<|tr ?_
     cases an yA uA
     refine tr<|Under.bR<|tr ?_
     cases osi yB
     cases osi hF
     exact rs Tryz.results54 (.ce rfl kt124 .nil) rfl rfl
    ·exact bs yA fun tC xC yA=>ct<|rg<|m_ rfl<|m_ rfl<|oS xC Tryz.underlying94 sz3 rfl<|oI kt3 rfl<|a_ rfl<|nl<|bN<|tn<|rg<|mb rfl<|a_ rfl<|nl<|nx () yA rfl rfl
  ·refine xt<|te ?_
   cases an yA uA
   exact te<|bh<|tn<|wr (wC _ (osi yB).symm) rfl
noncomputable def cl (a0:List Int):Option (aq×Int×Int):=
 (cK a0).bind fun y2=>
 bif y2.Err != 0 then
  some ((⟨(⟨(0:Int),(0:Int),(0:Int)⟩:ae),[]⟩:aq),y2.Place,y2.Err)
 else
  some ((⟨y2.Header,y2.Cells⟩:aq),0,0)
theorem o71 {a0:List Int} {r0:(aq×Int×Int)} (hF:cl a0=some r0) (L:List Res):Ok Tryz.prog 28 [SV.val K5 a0] L (SV.tup [SV.val bf r0.1,SV.raw (.int .i64 r0.2.1),SV.raw (.int .i64 r0.2.2)]) L:=by
 unfold cl at hF
 refine okI 21 Tryz.func28 rfl rfl rfl fun F0=>?_
 refine bs hF fun y2 h3 hF=>sr<|al ZT66 rfl fun b1=>a_ rfl<|a_ rfl<|ns<|m_ rfl<|cx Tryz.call54 rfl (o70 h3 _)<|al ZT124 rfl fun b4=>sP (x':=y2) .box .id sz124k rfl rfl rdV rfl<|nl<|fz (t:=5) rfl<|tn<|sq<|sr<|oF fb124k rfl<|oI kt3 rfl<|b_ rfl<|nt<|it hF rfl (fun hF=>?_) (fun hF=>?_)
 ·refine sq<|ph rfl<|Under.grpT (L:=L) [0,1,2,3,4,5,6] [[],[5],[12],[5],[14],[2,11],[13]] [⟨sk0 (.val bf (⟨(⟨(0:Int),(0:Int),(0:Int)⟩:ae),[]⟩:aq)),[],[],[]⟩,⟨sk0 (.ptr (kInt .i64) y2.Place),[],[],[]⟩,⟨sk0 (.raw (.int .i64 y2.Place)),[],[],[]⟩,⟨sk0 (.ptr (kInt .i64) y2.Err),[],[],[]⟩,⟨sk0 (.raw (.int .i64 y2.Err)),[],[],[]⟩,⟨sk0 (.raw undef),[],[],[]⟩,⟨sk0 (.raw (.int .i64 y2.Place)),[],[],[]⟩] [] (fun T:List Res=>(.box bf b1 66 (⟨(⟨(0:Int),(0:Int),(0:Int)⟩:ae),[]⟩:aq))::T) lf1 rfl (by kernel_rfl) rfl rfl (fun F hF0 xA=>?_)
  refine Tq.v (fun G T hG=>?_) ?_
  ·exact ov (OpV.bst BT66 (Bld.nil _)) rfl<|Tq.end undef rfl rfl
  refine Tq.v (fun G T hG=>?_) ?_
  ·exact oF fb124k1 rfl<|Tq.end undef rfl rfl
  refine Tq.v (fun G T hG=>?_) ?_
  ·exact oI kt3 rfl<|Tq.end undef rfl rfl
  refine Tq.v (fun G T hG=>?_) ?_
  ·exact oF fb124k rfl<|Tq.end undef rfl rfl
  refine Tq.v (fun G T hG=>?_) ?_
  ·exact oI kt3 rfl<|Tq.end undef rfl rfl
  refine Tq.st0 [] rfl (fun G T hG=>?_) ?_
  ·exact sP (x':=(⟨(⟨(0:Int),(0:Int),(0:Int)⟩:ae),[]⟩:aq)) .box .id sz66k rfl rfl rdV rfl<|Tq.end0 undef rfl
  refine Tq.v (fun G T hG=>?_) ?_
  ·exact a_ rfl<|Tq.end undef rfl rfl
  refine Tq.nil<|Under.le hF0<|p1 7 rfl rfl<|a_ rfl<|pn<|pd rfl<|fz (t:=2) rfl<|tn<|rt ?_
  cases osi hF
  exact rs Tryz.results28 (.ce rfl kt66 (.tm rfl (.tm rfl .nil))) rfl rfl
 ·refine ct<|sr<|oF fb124k2 rfl<|oL kt35 rfl<|oF fb124k3 rfl<|oL kt22 rfl<|ov (OpV.bst BT66 (Bld.cons (x':=(⟨y2.Header,[]⟩:aq)) rfl rfl rdV (by intro q hq;simp only[List.mem_cons,List.not_mem_nil,or_false] at hq;rcases hq with rfl<;>rfl) (Bld.cons (x':=(⟨y2.Header,y2.Cells⟩:aq)) rfl rfl rdV ⟨rfl,(fun q hq=>by simp at hq)⟩ (Bld.nil _)))) rfl<|sP (x':=(⟨y2.Header,y2.Cells⟩:aq)) .box .id sz66k rfl rfl rdV rfl<|a_ rfl<|a_ rfl<|nl<|fz (t:=2) rfl<|tn<|rc ?_
  cases osi hF
  exact rs Tryz.results28 (.ce rfl kt66 (.tm rfl (.tm rfl .nil))) rfl rfl
noncomputable def bK (a0:List Int) (a1:Int):Option Bool:=
 (((Loop.run (S := Int) (R := (Unit ⊕ Bool)) (fun xA =>
   bif decide (xA<(a0.length:Int)) then
    (idx a0 xA).bind fun yA=>
    bif yA != 0 then
     some (.done (.inr false))
    else
     some (.next (IntKind.wrap .i64 (xA+1)))
   else
    some (.done (.inl ()))) a1).bind fun zA=>match zA with
  | .inl _=>
   some (.inr ())
  | .inr z=>
   some (.inl z)
  : Option (Bool ⊕ Unit))).bind fun hA => match hA with
  | .inl z=>
   some z
  | .inr _=>
   some true
theorem o72 {a0:List Int} {a1:Int} {r0:Bool} (hF:bK a0 a1=some r0) (L:List Res):Ok Tryz.prog 55 [SV.val K5 a0,SV.raw (.int .i64 a1)] L (SV.raw (.bool r0)) L:=by
 unfold bK at hF
 refine okI 16 Tryz.func55 rfl rfl rfl fun F0=>?_
 refine bs hF fun oA yA hF=>sr<|a_ rfl<|nt<|sq<|Under.after (fun X=>∀(_:Unit),oA=(.inr ())→Under F0 16 [] (L) X) ?_ ?_
 ·intro _ zA
  replace zA:=zA.symm
  subst zA
  refine sr<|a_ rfl<|nt<|rc ?_
  cases osi hF
  exact rs Tryz.results55 (.tm rfl .nil) rfl rfl
 ·intro K kA
  refine bs yA fun cA dA yA=>bk<|lp dA () (fun hA bA=>[(0,.val K5 a0),(1,.raw (.int .i64 hA))]) (fun hA bA=>L) rfl rfl fun hA bA qA xA vA=>?_
  refine sq<|sr<|m_ rfl<|m_ rfl<|oN Tryz.underlying24 rfl<|b_ rfl<|nt<|it xA rfl (fun xA=>?_) (fun xA=>?_)
  ·refine bs xA fun rA eA xA=>ct<|sq<|bk<|sr<|m_ rfl<|m_ rfl<|oS eA Tryz.underlying24 sz5 rfl<|oI kt5 rfl<|b_ rfl<|nt<|it xA rfl (fun xA=>?_) (fun xA=>?_)
   ·refine sr<|a_ rfl<|nt<|rc<|Under.bR<|tr ?_
    cases an xA vA
    refine tr<|Under.bR<|tr ?_
    cases osi yA
    cases osi hF
    exact rs Tryz.results55 (.tm rfl .nil) rfl rfl
   ·exact cs<|bN<|tn<|rg<|mb rfl<|a_ rfl<|nl<|nx () xA rfl rfl
  ·refine xt<|te ?_
   cases an xA vA
   exact te<|bh<|tn<|wr (kA () (osi yA).symm) rfl
noncomputable def bl (a0:List Int):Option ((List Int)×Bool×Int):=
 bif (a0.length:Int) != 320 then
  some ([],false,50)
 else
  (idx a0 0).bind fun x2=>
  bif decide (x2>1) then
   some ([],false,52)
  else
   (idx a0 0).bind fun x5=>
   bif x5==0 then
    some ([],false,0)
   else
    (idx a0 1).bind fun x8=>
    bif decide (x8>48) then
     some ([],false,53)
    else
     (idx a0 1).bind fun xA=>
     (bK a0 (IntKind.wrap .i64 (2+(IntKind.wrap .i64 xA)))).bind fun yA=>
     bif !yA then
      some ([],false,51)
     else
      (idx a0 1).bind fun zA=>
      (sub a0 2 (IntKind.wrap .i64 (2+(IntKind.wrap .i64 zA)))).bind fun hA=>
      (app [] hA).bind fun bA=>
      some (bA,true,0)
theorem o73 {a0:List Int} {r0:((List Int)×Bool×Int)} (hF:bl a0=some r0) (L:List Res):Ok Tryz.prog 29 [SV.val K5 a0] L (SV.tup [SV.val K5 r0.1,SV.raw (.bool r0.2.1),SV.raw (.int .i64 r0.2.2)]) L:=by
 unfold bl at hF
 refine okI 42 Tryz.func29 rfl rfl rfl fun F0=>?_
 refine sr<|a_ rfl<|a_ rfl<|a_ rfl<|nt<|sq<|bk<|sr<|m_ rfl<|oN Tryz.underlying24 rfl<|b_ rfl<|a_ rfl<|nt<|it hF rfl (fun hF=>?_) (fun hF=>?_)
 ·refine sr<|a_ rfl<|a_ rfl<|a_ rfl<|nt<|rc<|Under.bR<|tr<|tV (K:=kSl K7) (x:=[]) (t:=2) rfl rdN ?_
  cases osi hF
  exact rs Tryz.results29 (.tm rfl (.tm rfl (.tm rfl .nil))) rfl rfl
 ·refine bs hF fun x2 h3 hF=>sr<|m_ rfl<|oS h3 Tryz.underlying24 sz5 rfl<|oI kt5 rfl<|b_ rfl<|a_ rfl<|nt<|it hF rfl (fun hF=>?_) (fun hF=>?_)
  ·refine sr<|a_ rfl<|a_ rfl<|a_ rfl<|nt<|rc<|Under.bR<|tr<|tV (K:=kSl K7) (x:=[]) (t:=2) rfl rdN ?_
   cases osi hF
   exact rs Tryz.results29 (.tm rfl (.tm rfl (.tm rfl .nil))) rfl rfl
  ·refine bs hF fun x5 h6 hF=>sr<|m_ rfl<|oS h6 Tryz.underlying24 sz5 rfl<|oI kt5 rfl<|b_ rfl<|a_ rfl<|nt<|it hF rfl (fun hF=>?_) (fun hF=>?_)
   ·refine sr<|a_ rfl<|a_ rfl<|a_ rfl<|nt<|rc<|Under.bR<|tr<|tV (K:=kSl K7) (x:=[]) (t:=2) rfl rdN ?_
    cases osi hF
    exact rs Tryz.results29 (.tm rfl (.tm rfl (.tm rfl .nil))) rfl rfl
   ·refine bs hF fun x8 h9 hF=>sr<|m_ rfl<|oS h9 Tryz.underlying24 sz5 rfl<|oI kt5 rfl<|b_ rfl<|a_ rfl<|nt<|it hF rfl (fun hF=>?_) (fun hF=>?_)
    ·refine sr<|a_ rfl<|a_ rfl<|a_ rfl<|nt<|rc<|Under.bR<|tr<|tV (K:=kSl K7) (x:=[]) (t:=2) rfl rdN ?_
     cases osi hF
     exact rs Tryz.results29 (.tm rfl (.tm rfl (.tm rfl .nil))) rfl rfl
    ·refine bs hF fun vA xA hF=>bs hF fun oA yA hF=>sr<|m_ rfl<|m_ rfl<|oS xA Tryz.underlying24 sz5 rfl<|oI kt5 rfl<|oC (by kernel_rfl) Tryz.underlying3 rfl<|b_ rfl<|cx Tryz.call55 rfl (o72 yA _)<|ov (OpV.not rfl) rfl<|a_ rfl<|nt<|it hF rfl (fun hF=>?_) (fun hF=>?_)
     ·refine sr<|a_ rfl<|a_ rfl<|a_ rfl<|nt<|rc<|Under.bR<|tr<|tV (K:=kSl K7) (x:=[]) (t:=2) rfl rdN ?_
      cases osi hF
      exact rs Tryz.results29 (.tm rfl (.tm rfl (.tm rfl .nil))) rfl rfl
     ·refine bs hF fun kA zA hF=>bs hF fun dA hA hF=>bs hF fun eA bA hF=>cs<|bN<|tn<|sr<|bO (ys:=[]) Tryz.underlying24 ET5 (BldA.nil _) rfl rfl fun cA=>m_ rfl<|m_ rfl<|oS zA Tryz.underlying24 sz5 rfl<|oI kt5 rfl<|oC (by kernel_rfl) Tryz.underlying3 rfl<|b_ rfl<|ov (OpV.slLH hA Tryz.underlying24 sz5 rfl rdV rfl rfl) rfl<|ap bA Tryz.underlying24 AT5 rfl rfl rdV rfl fun qA=>a_ rfl<|a_ rfl<|a_ rfl<|nl<|fzO (t:=2) rfl<|tn<|rc ?_
      cases osi hF
      exact rs Tryz.results29 (.tm rfl (.tm rfl (.tm rfl .nil))) rfl rfl
noncomputable def bd (a0:List Int):Option ((List (List Int))×Int):=
 (cl a0).bind fun y1=>
 bif y1.2.2 != 0 then
  some ([],y1.2.2)
 else
  bif y1.1.Header.Left != 0 then
   some ([],212)
  else
   (((Loop.run (S := ((List (List Int)) × Int)) (R := ((List (List Int)) ⊕ ((List (List Int)) × Int))) (fun (yA, zA) =>
     bif decide (zA<(y1.1.Cells.length:Int)) then
      (((idx y1.1.Cells zA).bind fun hA=>
      (bl hA).bind fun xA=>
      bif xA.2.2 != 0 then
       some (.inl ([],xA.2.2))
      else
       bif xA.2.1 then
        (app yA [xA.1]).bind fun bA=>
        some (.inr bA)
       else
        some (.inr yA)
       : Option (((List (List Int)) × Int) ⊕ (List (List Int))))).bind fun vA => match vA with
       | .inl z=>
        some (.done (.inr z))
       | .inr oA=>
        some (.next (oA,IntKind.wrap .i64 (zA+1)))
     else
      some (.done (.inl yA))) ([],0)).bind fun kA=>match kA with
    | .inl dA=>
     some (.inr dA)
    | .inr z=>
     some (.inl z)
    : Option (((List (List Int)) × Int) ⊕ (List (List Int))))).bind fun eA => match eA with
    | .inl z=>
     some z
    | .inr x114=>
     some (x114,0)
theorem o74 {a0:List Int} {r0:((List (List Int))×Int)} (hF:bd a0=some r0) (L:List Res):Ok Tryz.prog 12 [SV.val K5 a0] L (SV.tup [SV.val K0 r0.1,SV.raw (.int .i64 r0.2)]) L:=by
 unfold bd at hF
 refine okI 49 Tryz.func12 rfl rfl rfl fun F0=>?_
 refine bs hF fun y1 h2 hF=>sr<|a_ rfl<|a_ rfl<|ns<|m_ rfl<|cx Tryz.call28 rfl (o71 h2 _)<|m_ rfl<|oE rfl<|oE rfl<|oE rfl<|al ZT66 rfl fun b3=>sP (x':=y1.1) .box .id sz66k rfl rfl rdV rfl<|a_ rfl<|a_ rfl<|nl<|fz (t:=4) rfl<|tn<|sq<|sr<|mb rfl<|nt<|it hF rfl (fun hF=>?_) (fun hF=>?_)
 ·refine sr<|m_ rfl<|a_ rfl<|a_ rfl<|nt<|rt<|tV (K:=kSl K5) (x:=[]) (t:=2) rfl rdN ?_
  cases osi hF
  exact rs Tryz.results12 (.tm rfl (.tm rfl .nil)) rfl rfl
 ·refine ct<|sq<|sr<|oF fb66k rfl<|oF fb35k rfl<|oI kt3 rfl<|b_ rfl<|nt<|it hF rfl (fun hF=>?_) (fun hF=>?_)
  ·refine sr<|a_ rfl<|a_ rfl<|nt<|rt<|tV (K:=kSl K5) (x:=[]) (t:=2) rfl rdN ?_
   cases osi hF
   exact rs Tryz.results12 (.tm rfl (.tm rfl .nil)) rfl rfl
  ·refine bs hF fun rA hA hF=>ct<|sr<|a_ rfl<|nt<|sq<|Under.after (fun X=>∀(oA:List (List Int)),rA=(.inr oA)→Under F0 49 [(7,.val K0 oA)] (L) X) ?_ ?_
   ·intro oA kA
    replace kA:=kA.symm
    subst kA
    refine sr<|m_ rfl<|a_ rfl<|a_ rfl<|nt<|rc ?_
    cases osi hF
    exact rs Tryz.results12 (.tm rfl (.tm rfl .nil)) rfl rfl
   ·intro K wA
    refine bs hA fun yB gA hA=>sr<|oF fb66k1 rfl<|oL kt22 rfl<|oN Tryz.underlying22 rfl<|m_ rfl<|nt<|bk<|Under.ownNil (K:=kSl K7) (e:=24)<|lp gA (C:=Value) (.slice none 0 0) (fun zA bA=>[(7,.raw bA),(27,.val K0 y1.1.Cells),(28,.raw (.int .i64 (y1.1.Cells.length:Int))),(29,.raw (.int .i64 zA.2))]) (fun zA bA=>(.own K5 bA 24 zA.1)::L) rfl rfl fun zA bA zB yA cA=>?_
    obtain⟨hB,mA⟩:=zA
    dsimp only at yA⊢
    refine sr<|b_ rfl<|nt<|sq<|it yA rfl (fun yA=>?_) (fun yA=>?_)
    ·refine bs yA fun nA xA yA=>ct<|sq<|Under.after (fun X=>∀(dA:List (List Int)) (vA:Value),nA=(.inr dA)→Under F0 49 [(7,.raw vA),(27,.val K0 y1.1.Cells),(28,.raw (.int .i64 (y1.1.Cells.length:Int))),(29,.raw (.int .i64 mA))] ((.own K5 vA 24 dA)::L) X) ?_ ?_
     ·intro dA vA eA
      replace eA:=eA.symm
      subst eA
      exact rg<|b_ rfl<|m_ rfl<|nl<|nx vA yA rfl rfl
     ·intro K qA
      refine bs xA fun bB pA xA=>bs xA fun tA uA xA=>bk<|sr<|oS pA Tryz.underlying22 sz24 rfl<|oL kt24 rfl<|a_ rfl<|ns<|m_ rfl<|cx Tryz.call29 rfl (o73 uA _)<|m_ rfl<|oE rfl<|oE rfl<|oE rfl<|a_ rfl<|a_ rfl<|a_ rfl<|nt<|sq<|sr<|mb rfl<|nt<|it xA rfl (fun xA=>?_) (fun xA=>?_)
      ·refine dr<|sr<|m_ rfl<|a_ rfl<|a_ rfl<|nt<|rt<|Under.bR<|tr ?_
       cases osi xA
       cases an yA cA
       refine tr<|Under.bR<|tr ?_
       cases osi hA
       refine tV (K:=kSl K5) (x:=[]) (t:=2) rfl rdN ?_
       cases osi hF
       exact rs Tryz.results12 (.tm rfl (.tm rfl .nil)) rfl rfl
      ·refine ct<|sr<|m_ rfl<|nt<|it xA rfl (fun xA=>?_) (fun xA=>?_)
       ·exact bs xA fun vB xB xA=>rg<|m_ rfl<|m_ rfl<|bF (ys:=[tA.1]) Tryz.underlying22 ET24 (BldA.cons rfl rfl rdV (BldA.nil _)) rfl rfl<|ap xB Tryz.underlying22 AT24 rfl rfl rdV rfl fun oB=>a_ rfl<|nl<|bN<|tn<|wr (qA _ _ (osi xA).symm) rfl
       ·exact cs<|bN<|tn<|wr (qA _ _ (osi xA).symm) rfl
    ·refine fzO (t:=7) rfl<|xt<|te ?_
     cases an yA cA
     exact te<|bh<|tn<|wr (wA _ (osi hA).symm) rfl
noncomputable def bo (a0:List (List Int)) (a1:List (List Int)):Option Bool:=
 bif (a0.length:Int) != (a1.length:Int) then
  some false
 else
  (((Loop.run (S := Int) (R := (Unit ⊕ Bool)) (fun xA =>
    bif decide (xA<(a0.length:Int)) then
     (idx a0 xA).bind fun yA=>
     (idx a1 xA).bind fun zA=>
     bif (strB yA) != (strB zA) then
      some (.done (.inr false))
     else
      some (.next (IntKind.wrap .i64 (xA+1)))
    else
     some (.done (.inl ()))) 0).bind fun hA=>match hA with
   | .inl _=>
    some (.inr ())
   | .inr z=>
    some (.inl z)
   : Option (Bool ⊕ Unit))).bind fun bA => match bA with
   | .inl z=>
    some z
   | .inr _=>
    some true
theorem o75 {a0 a1:List (List Int)} {r0:Bool} (hF:bo a0 a1=some r0) (L:List Res):Ok Tryz.prog 14 [SV.val K0 a0,SV.val K0 a1] L (SV.raw (.bool r0)) L:=by
 unfold bo at hF
 refine okI 28 Tryz.func14 rfl rfl rfl fun F0=>?_
 refine sr<|a_ rfl<|nt<|sq<|sr<|m_ rfl<|oN Tryz.underlying22 rfl<|m_ rfl<|oN Tryz.underlying22 rfl<|b_ rfl<|nt<|it hF rfl (fun hF=>?_) (fun hF=>?_)
 ·refine sr<|a_ rfl<|nt<|rt ?_
  cases osi hF
  exact rs Tryz.results14 (.tm rfl .nil) rfl rfl
 ·refine bs hF fun oA yA hF=>ct<|sq<|Under.after (fun X=>∀(_:Unit),oA=(.inr ())→Under F0 28 [] (L) X) ?_ ?_
  ·intro _ zA
   replace zA:=zA.symm
   subst zA
   refine sr<|a_ rfl<|nt<|rc ?_
   cases osi hF
   exact rs Tryz.results14 (.tm rfl .nil) rfl rfl
  ·intro K kA
   refine bs yA fun qA dA yA=>sr<|m_ rfl<|oN Tryz.underlying22 rfl<|m_ rfl<|nt<|bk<|lp dA () (fun hA bA=>[(0,.val K0 a0),(1,.val K0 a1),(12,.raw (.int .i64 (a0.length:Int))),(13,.raw (.int .i64 hA))]) (fun hA bA=>L) rfl rfl fun hA bA rA xA vA=>?_
   refine sr<|b_ rfl<|nt<|sq<|it xA rfl (fun xA=>?_) (fun xA=>?_)
   ·refine bs xA fun wA eA xA=>bs xA fun gA cA xA=>ct<|sq<|bk<|sr<|m_ rfl<|a_ rfl<|nt<|sq<|dw rfl (by kernel_rfl) fun F hF0=>mvq rfl rfl<|mvq rfl rfl<|oq (OpV.ixS eA Tryz.underlying22 sz24 rfl rdV rfl) rfl<|oq (OpV.ld kt24 rfl) rfl<|oq (OpV.b2s Tryz.underlying24 Tryz.underlying5 Tryz.underlying9 rfl rdV) rfl<|mvq rfl rfl<|mvq rfl rfl<|oq (OpV.ixS cA Tryz.underlying22 sz24 rfl rdV rfl) rfl<|oq (OpV.ld kt24 rfl) rfl<|oq (OpV.b2s Tryz.underlying24 Tryz.underlying5 Tryz.underlying9 rfl rdV) rfl<|oq (OpV.eqS Tryz.underlying9 rfl rdV rfl rdV (.inr rfl)) rfl<|nlq hF0<|tn<|it xA rfl (fun xA=>?_) (fun xA=>?_)
    ·refine sr<|a_ rfl<|nt<|rc<|Under.bR<|tr ?_
     cases an xA vA
     refine tr<|Under.bR<|tr ?_
     cases osi yA
     cases osi hF
     exact rs Tryz.results14 (.tm rfl .nil) rfl rfl
    ·exact cs<|bN<|tn<|rg<|b_ rfl<|m_ rfl<|nl<|nx () xA rfl rfl
   ·refine xt<|te ?_
    cases an xA vA
    exact te<|bh<|tn<|wr (kA () (osi yA).symm) rfl
noncomputable def aL (a0:ae) (a1:List (List Int)) (a2:List Int):Option Bool:=
 (bI).bind fun y1=>
 bif !y1 then
  some false
 else
  (cJ a0.Round a0.Epoch a0.Left a1).bind fun y4=>
  (da a0.Round a0.Epoch a0.Left a1).bind fun y6=>
  bif (y6.2 != y4.2)||((strB y6.1) != (strB y4.1)) then
   some false
  else
   (((Loop.run (S := Int) (R := (Unit ⊕ Bool)) (fun hA =>
     bif decide (hA<([a2,y4.1].length:Int)) then
      (idx [a2,y4.1] hA).bind fun xA=>
      (bd xA).bind fun yA=>
      (aR xA).bind fun zA=>
      ((bif zA.2 != yA.2 then
       some true
      else
       (bo yA.1 zA.1).bind fun bA=>
       some (!bA)
       :Option Bool)).bind fun vA=>
      bif vA then
       some (.done (.inr false))
      else
       some (.next (IntKind.wrap .i64 (hA+1)))
     else
      some (.done (.inl ()))) 0).bind fun oA=>match oA with
    | .inl _=>
     some (.inr ())
    | .inr z=>
     some (.inl z)
    : Option (Bool ⊕ Unit))).bind fun kA => match kA with
    | .inl z=>
     some z
    | .inr _=>
     some true
theorem o76 {a0:ae} {a1:List (List Int)} {a2:List Int} {r0:Bool} (hF:aL a0 a1 a2=some r0) (L:List Res):Ok Tryz.prog 4 [SV.val aM a0,SV.val K0 a1,SV.val K5 a2] L (SV.raw (.bool r0)) L:=by
 unfold aL at hF
 refine okI 79 Tryz.func4 rfl rfl rfl fun F0=>?_
 refine bs hF fun y1 h2 hF=>sr<|bX (K:=aM) rfl rdV rfl<|a_ rfl<|nt<|sq<|sr<|cx Tryz.call7 rfl (o54 h2 _)<|ov (OpV.not rfl) rfl<|nt<|it hF rfl (fun hF=>?_) (fun hF=>?_)
 ·refine sr<|a_ rfl<|nt<|rt ?_
  cases osi hF
  exact rs Tryz.results4 (.tm rfl .nil) rfl rfl
 ·refine bs hF fun y4 h5 hF=>bs hF fun y6 h7 hF=>ct<|sr<|oF fb35k1 rfl<|oI kt2 rfl<|oF fb35k2 rfl<|oI kt2 rfl<|oF fb35k rfl<|oI kt3 rfl<|m_ rfl<|cx Tryz.call10 rfl (o59 h5 _)<|m_ rfl<|oE rfl<|oE rfl<|a_ rfl<|a_ rfl<|ns<|oF fb35k1 rfl<|oI kt2 rfl<|oF fb35k2 rfl<|oI kt2 rfl<|oF fb35k rfl<|oI kt3 rfl<|m_ rfl<|cx Tryz.call11 rfl (o64 h7 _)<|m_ rfl<|oE rfl<|oE rfl<|a_ rfl<|a_ rfl<|nt<|sq<|sr<|m_ rfl<|mb rfl<|m_ rfl<|kK 50 ((y6.2 != y4.2)||((strB y6.1) != (strB y4.1))) ?_ (fun k=>?_)
  ·refine nt<|it hF rfl (fun hF=>?_) (fun hF=>?_)
   ·refine sr<|a_ rfl<|nt<|rt ?_
    cases osi hF
    exact rs Tryz.results4 (.tm rfl .nil) rfl rfl
   ·refine bs hF fun gA kA hF=>ct<|sq<|Under.after (fun X=>∀(_:Unit),gA=(.inr ())→Under F0 79 [] (L) X) ?_ ?_
    ·intro _ hA
     replace hA:=hA.symm
     subst hA
     refine sr<|a_ rfl<|nt<|rc ?_
     cases osi hF
     exact rs Tryz.results4 (.tm rfl .nil) rfl rfl
    ·intro K mA
     refine bs kA fun nA dA kA=>sr<|m_ rfl<|m_ rfl<|bF (ys:=[a2,y4.1]) Tryz.underlying22 ET24 (BldA.cons rfl rfl rdV (BldA.cons rfl rfl rdV (BldA.nil _))) rfl rfl<|oN Tryz.underlying22 rfl<|m_ rfl<|nt<|bk<|lp dA () (fun bA vA=>[(53,.val K0 [a2,y4.1]),(54,.raw (.int .i64 ([a2,y4.1].length:Int))),(55,.raw (.int .i64 bA))]) (fun bA vA=>L) rfl rfl fun bA vA pA xA oA=>?_
     refine sr<|b_ rfl<|nt<|sq<|it xA rfl (fun xA=>?_) (fun xA=>?_)
     ·refine bs xA fun tA eA xA=>bs xA fun uA cA xA=>bs xA fun xB qA xA=>bs xA fun rA zA xA=>ct<|sq<|bk<|sr<|oS eA Tryz.underlying22 sz24 rfl<|oL kt24 rfl<|a_ rfl<|ns<|m_ rfl<|cx Tryz.call12 rfl (o74 cA _)<|m_ rfl<|oE rfl<|oE rfl<|a_ rfl<|a_ rfl<|ns<|m_ rfl<|cx Tryz.call13 rfl (o52 qA _)<|m_ rfl<|oE rfl<|oE rfl<|a_ rfl<|a_ rfl<|ns<|m_ rfl<|mb rfl<|m_ rfl<|kL 77 rA ?_ (fun k=>?_)
      ·refine nt<|it xA rfl (fun xA=>?_) (fun xA=>?_)
       ·refine sr<|a_ rfl<|nt<|rc<|Under.bR<|tr ?_
        cases an xA oA
        refine tr<|Under.bR<|tr ?_
        cases osi kA
        cases osi hF
        exact rs Tryz.results4 (.tm rfl .nil) rfl rfl
       ·exact cs<|bN<|tn<|rg<|b_ rfl<|m_ rfl<|nl<|nx () xA rfl rfl
      ·refine by_ (t:=72) rfl (fun yA=>?_) (fun yA=>?_)
       ·replace zA:=ctrue yA zA
        exact sk_ yA rfl<|sk_ yA rfl<|sk_ yA rfl<|sk_ yA rfl<|pT yA rfl<|rf 4 (rbq zA) rfl k
       ·replace zA:=cfalse yA zA
        exact bs zA fun yB wA zA=>gc_ yA rfl<|m_ rfl<|gc_ yA rfl<|m_ rfl<|gc_ yA rfl<|cx Tryz.call14 rfl (o75 wA _)<|gc_ yA rfl<|ov (OpV.not rfl) rfl<|pF yA rfl<|rf 4 (rbq zA) rfl k
     ·refine xt<|te ?_
      cases an xA oA
      exact te<|bh<|tn<|wr (mA () (osi kA).symm) rfl
  ·refine by_ (t:=44) rfl (fun c8=>?_) (fun c8=>?_)
   ·exact sk_ c8 rfl<|sk_ c8 rfl<|sk_ c8 rfl<|sk_ c8 rfl<|sk_ c8 rfl<|pT c8 rfl<|rf 5 (or_t (e:=(strB y6.1) != (strB y4.1)) c8) rfl k
   ·exact gc_ c8 rfl<|m_ rfl<|gc_ c8 rfl<|ov (OpV.b2s Tryz.underlying24 Tryz.underlying5 Tryz.underlying9 rfl rdV) rfl<|gc_ c8 rfl<|m_ rfl<|gc_ c8 rfl<|ov (OpV.b2s Tryz.underlying24 Tryz.underlying5 Tryz.underlying9 rfl rdV) rfl<|gc_ c8 rfl<|ov (OpV.eqS Tryz.underlying9 rfl rdV rfl rdV (.inr rfl)) rfl<|pF c8 rfl<|rf 5 (or_f c8) rfl k
end Go.Proofs.YtdkfkpbijdimkaaGreatDoor

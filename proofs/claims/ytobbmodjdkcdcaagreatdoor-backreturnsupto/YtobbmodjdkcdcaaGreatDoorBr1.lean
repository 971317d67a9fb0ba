import Derived.Test.YtobbmodjdkcdcaaGreatDoorBr0
set_option linter.unusedVariables false
set_option linter.unusedSimpArgs false
set_option maxRecDepth 20000
namespace Go.Proofs.YtobbmodjdkcdcaaGreatDoor
open Go Go.Sim Go.ChangeShapes Go.WideShapes Go.ChangeAt Go.RowKit
set_option linter.unusedSectionVars false
variable [Fu]
noncomputable def fY:Option aB:=
 bif mkB 32 32 then
 some (⟨List.replicate (Int.toNat 32) (0:Int),2,1,(0:Int),(0:Int),1,(0:Int),1,1,(0:Int),1⟩:aB)
 else none
theorem o0 {r0:aB} (hF:fY=some r0) (L:List Res):Ok Tryz.prog 91 [] L (SV.val aJ r0) L:=by
 unfold fY at hF
 refine okI 3 Tryz.func91 rfl rfl rfl fun F0=>?_
 refine gs hF fun h3 hF=>sr<|al ZT24 rfl fun b1=>ns<|Under.mk h3 Tryz.underlying22 AT5 rfl rfl rfl fun v2=>fzO (t:=1) rfl<|ov (OpV.bst BT24 (Bld.cons (x':=(⟨List.replicate (Int.toNat 32) (0:Int),(0:Int),(0:Int),(0:Int),(0:Int),(0:Int),(0:Int),(0:Int),(0:Int),(0:Int),(0:Int)⟩:aB)) rfl rfl rdV (by intro q hq;simp only[List.mem_cons,List.not_mem_nil,or_false] at hq;rcases hq with rfl|rfl|rfl|rfl|rfl|rfl|rfl|rfl|rfl|rfl<;>rfl) (Bld.cons (x':=(⟨List.replicate (Int.toNat 32) (0:Int),2,(0:Int),(0:Int),(0:Int),(0:Int),(0:Int),(0:Int),(0:Int),(0:Int),(0:Int)⟩:aB)) rfl rfl rdI ⟨rfl,(by intro q hq;simp only[List.mem_cons,List.not_mem_nil,or_false] at hq;rcases hq with rfl|rfl|rfl|rfl|rfl|rfl|rfl|rfl|rfl<;>rfl)⟩ (Bld.cons (x':=(⟨List.replicate (Int.toNat 32) (0:Int),2,1,(0:Int),(0:Int),(0:Int),(0:Int),(0:Int),(0:Int),(0:Int),(0:Int)⟩:aB)) rfl rfl rdI ⟨rfl,⟨rfl,(by intro q hq;simp only[List.mem_cons,List.not_mem_nil,or_false] at hq;rcases hq with rfl|rfl|rfl|rfl|rfl|rfl|rfl|rfl<;>rfl)⟩⟩ (Bld.cons (x':=(⟨List.replicate (Int.toNat 32) (0:Int),2,1,(0:Int),(0:Int),1,(0:Int),(0:Int),(0:Int),(0:Int),(0:Int)⟩:aB)) rfl rfl rdI ⟨rfl,⟨rfl,⟨rfl,⟨rfl,⟨rfl,(by intro q hq;simp only[List.mem_cons,List.not_mem_nil,or_false] at hq;rcases hq with rfl|rfl|rfl|rfl|rfl<;>rfl)⟩⟩⟩⟩⟩ (Bld.cons (x':=(⟨List.replicate (Int.toNat 32) (0:Int),2,1,(0:Int),(0:Int),1,(0:Int),1,(0:Int),(0:Int),(0:Int)⟩:aB)) rfl rfl rdI ⟨rfl,⟨rfl,⟨rfl,⟨rfl,⟨rfl,⟨rfl,⟨rfl,(by intro q hq;simp only[List.mem_cons,List.not_mem_nil,or_false] at hq;rcases hq with rfl|rfl|rfl<;>rfl)⟩⟩⟩⟩⟩⟩⟩ (Bld.cons (x':=(⟨List.replicate (Int.toNat 32) (0:Int),2,1,(0:Int),(0:Int),1,(0:Int),1,1,(0:Int),(0:Int)⟩:aB)) rfl rfl rdI ⟨rfl,⟨rfl,⟨rfl,⟨rfl,⟨rfl,⟨rfl,⟨rfl,⟨rfl,(by intro q hq;simp only[List.mem_cons,List.not_mem_nil,or_false] at hq;rcases hq with rfl|rfl<;>rfl)⟩⟩⟩⟩⟩⟩⟩⟩ (Bld.cons (x':=(⟨List.replicate (Int.toNat 32) (0:Int),2,1,(0:Int),(0:Int),1,(0:Int),1,1,(0:Int),1⟩:aB)) rfl rfl rdI ⟨rfl,⟨rfl,⟨rfl,⟨rfl,⟨rfl,⟨rfl,⟨rfl,⟨rfl,⟨rfl,⟨rfl,(fun q hq=>by simp at hq)⟩⟩⟩⟩⟩⟩⟩⟩⟩⟩ (Bld.nil _))))))))) rfl<|sP (x':=(⟨List.replicate (Int.toNat 32) (0:Int),2,1,(0:Int),(0:Int),1,(0:Int),1,1,(0:Int),1⟩:aB)) .box .id sz24k rfl rfl rdV rfl<|nl<|fz (t:=0) rfl<|tn<|rc ?_
 cases osi hF
 exact rs Tryz.results91 (.ce rfl kt24 .nil) rfl rfl
noncomputable def bZ (a0:Int) (a1:Int) (a2:Int):Option Bool:=
 some ((decide (a1≤a0))&&(decide (a0≤a2)))
theorem o1 {a0 a1 a2:Int} {r0:Bool} (hF:bZ a0 a1 a2=some r0) (L:List Res):Ok Tryz.prog 133 [SV.raw (.int .i64 a0),SV.raw (.int .i64 a1),SV.raw (.int .i64 a2)] L (SV.raw (.bool r0)) L:=by
 unfold bZ at hF
 refine okI 15 Tryz.func133 rfl rfl rfl fun F0=>?_
 refine sr<|a_ rfl<|ns<|m_ rfl<|mb rfl<|m_ rfl<|bt 14 ((decide (a1≤a0))&&(decide (a0≤a2))) ?_ (fun k=>?_)
 ·refine a_ rfl<|nt<|rc ?_
  cases osi hF
  exact rs Tryz.results133 (.tm rfl .nil) rfl rfl
 ·refine by_ (t:=10) rfl (fun c1=>?_) (fun c1=>?_)
  ·exact gc_ c1 rfl<|m_ rfl<|gc_ c1 rfl<|m_ rfl<|gc_ c1 rfl<|b_ rfl<|pT c1 rfl<|rf 3 (iV c1) rfl k
  ·exact sk_ c1 rfl<|sk_ c1 rfl<|sk_ c1 rfl<|pF c1 rfl<|rf 3 (iW (e:=decide (a0≤a2)) c1) rfl k
noncomputable def eR (a0:aB):Option Bool:=
 ((bif (a0.Master.length:Int)==32 then
  (bZ a0.Left 1 8).bind fun y4=>
  some y4
 else
  some false
  :Option Bool)).bind fun x3=>
 ((bif x3 then
  (bZ a0.Span 1 8).bind fun y9=>
  some y9
 else
  some false
  :Option Bool)).bind fun x8=>
 ((bif x8 then
  (bZ a0.Room 0 4096).bind fun xA=>
  some xA
 else
  some false
  :Option Bool)).bind fun yA=>
 ((bif yA then
  (bZ a0.Den 1 1000).bind fun zA=>
  some zA
 else
  some false
  :Option Bool)).bind fun hA=>
 ((bif hA then
  (bZ a0.Num 0 a0.Den).bind fun bA=>
  some bA
 else
  some false
  :Option Bool)).bind fun vA=>
 ((bif vA then
  (bZ a0.Noise 0 16).bind fun oA=>
  some oA
 else
  some false
  :Option Bool)).bind fun kA=>
 ((bif kA then
  (bZ a0.Chunks 1 64).bind fun dA=>
  some dA
 else
  some false
  :Option Bool)).bind fun eA=>
 ((bif eA then
  (bZ a0.Workers 1 64).bind fun cA=>
  some cA
 else
  some false
  :Option Bool)).bind fun qA=>
 ((bif qA then
  (bZ a0.Cap 0 1024).bind fun rA=>
  some rA
 else
  some false
  :Option Bool)).bind fun wA=>
 ((bif wA then
  (bZ a0.Shards 1 64).bind fun gA=>
  some gA
 else
  some false
  :Option Bool)).bind fun mA=>
 some mA
theorem o2 {a0:aB} {r0:Bool} (hF:eR a0=some r0) (L:List Res):Ok Tryz.prog 72 [SV.val aJ a0] L (SV.raw (.bool r0)) L:=by
 unfold eR at hF
 refine okI 63 Tryz.func72 rfl rfl rfl fun F0=>?_
 refine bs hF fun x3 h2 hF=>sr<|bX (K:=aJ) rfl rdV rfl<|a_ rfl<|ns<|oF fb24k rfl<|oL kt22 rfl<|oN Tryz.underlying22 rfl<|b_ rfl<|m_ rfl<|bt 12 x3 ?_ (fun k=>?_)
 ·refine bs hF fun x8 h7 hF=>m_ rfl<|bt 17 x8 ?_ (fun k=>?_)
  ·refine bs hF fun nA dA hF=>a_ rfl<|ns<|m_ rfl<|m_ rfl<|bt 23 nA ?_ (fun k=>?_)
   ·refine bs hF fun pA eA hF=>m_ rfl<|bt 28 pA ?_ (fun k=>?_)
    ·refine bs hF fun tA cA hF=>m_ rfl<|nK 35 tA ?_ (fun k=>?_)
     ·refine bs hF fun uA qA hF=>a_ rfl<|ns<|m_ rfl<|m_ rfl<|bt 41 uA ?_ (fun k=>?_)
      ·refine bs hF fun xB rA hF=>m_ rfl<|bt 46 xB ?_ (fun k=>?_)
       ·refine bs hF fun yB wA hF=>a_ rfl<|ns<|m_ rfl<|m_ rfl<|bt 52 yB ?_ (fun k=>?_)
        ·refine bs hF fun zB gA hF=>m_ rfl<|bt 57 zB ?_ (fun k=>?_)
         ·refine bs hF fun hB mA hF=>m_ rfl<|bt 62 hB ?_ (fun k=>?_)
          ·refine a_ rfl<|nt<|rc ?_
           cases osi hF
           exact rs Tryz.results72 (.tm rfl .nil) rfl rfl
          ·refine by_ (t:=58) rfl (fun yA=>?_) (fun yA=>?_)
           ·replace mA:=ctrue yA mA
            exact bs mA fun wB bB mA=>gc_ yA rfl<|oF fb24k10 rfl<|gc_ yA rfl<|oI kt3 rfl<|gc_ yA rfl<|cx Tryz.call133 rfl (o1 bB _)<|pT yA rfl<|rf 3 (rbq mA) rfl k
           ·replace mA:=cfalse yA mA
            exact sk_ yA rfl<|sk_ yA rfl<|sk_ yA rfl<|pF yA rfl<|rf 3 (rbq mA) rfl k
         ·refine by_ (t:=53) rfl (fun zA=>?_) (fun zA=>?_)
          ·replace gA:=ctrue zA gA
           exact bs gA fun gB vB gA=>gc_ zA rfl<|oF fb24k9 rfl<|gc_ zA rfl<|oI kt3 rfl<|gc_ zA rfl<|cx Tryz.call133 rfl (o1 vB _)<|pT zA rfl<|rf 3 (rbq gA) rfl k
          ·replace gA:=cfalse zA gA
           exact sk_ zA rfl<|sk_ zA rfl<|sk_ zA rfl<|pF zA rfl<|rf 3 (rbq gA) rfl k
        ·refine by_ (t:=48) rfl (fun hA=>?_) (fun hA=>?_)
         ·replace wA:=ctrue hA wA
          exact bs wA fun mB oB wA=>gc_ hA rfl<|oF fb24k8 rfl<|gc_ hA rfl<|oI kt3 rfl<|gc_ hA rfl<|cx Tryz.call133 rfl (o1 oB _)<|pT hA rfl<|rf 3 (rbq wA) rfl k
         ·replace wA:=cfalse hA wA
          exact sk_ hA rfl<|sk_ hA rfl<|sk_ hA rfl<|pF hA rfl<|rf 3 (rbq wA) rfl k
       ·refine by_ (t:=42) rfl (fun bA=>?_) (fun bA=>?_)
        ·replace rA:=ctrue bA rA
         exact bs rA fun nB kB rA=>gc_ bA rfl<|oF fb24k7 rfl<|gc_ bA rfl<|oI kt3 rfl<|gc_ bA rfl<|cx Tryz.call133 rfl (o1 kB _)<|pT bA rfl<|rf 3 (rbq rA) rfl k
        ·replace rA:=cfalse bA rA
         exact sk_ bA rfl<|sk_ bA rfl<|sk_ bA rfl<|pF bA rfl<|rf 3 (rbq rA) rfl k
      ·refine by_ (t:=37) rfl (fun vA=>?_) (fun vA=>?_)
       ·replace qA:=ctrue vA qA
        exact bs qA fun pB dB qA=>gc_ vA rfl<|oF fb24k6 rfl<|gc_ vA rfl<|oI kt3 rfl<|gc_ vA rfl<|cx Tryz.call133 rfl (o1 dB _)<|pT vA rfl<|rf 3 (rbq qA) rfl k
       ·replace qA:=cfalse vA qA
        exact sk_ vA rfl<|sk_ vA rfl<|sk_ vA rfl<|pF vA rfl<|rf 3 (rbq qA) rfl k
     ·refine by_ (t:=29) rfl (fun xA=>?_) (fun xA=>?_)
      ·replace cA:=ctrue xA cA
       exact bs cA fun tB eB cA=>gc_ xA rfl<|oF fb24k5 rfl<|gc_ xA rfl<|oI kt3 rfl<|gc_ xA rfl<|oF fb24k4 rfl<|gc_ xA rfl<|oI kt3 rfl<|gc_ xA rfl<|cx Tryz.call133 rfl (o1 eB _)<|pT xA rfl<|rf 5 (rbq cA) rfl k
      ·replace cA:=cfalse xA cA
       exact sk_ xA rfl<|sk_ xA rfl<|sk_ xA rfl<|sk_ xA rfl<|sk_ xA rfl<|pF xA rfl<|rf 5 (rbq cA) rfl k
    ·refine by_ (t:=24) rfl (fun oA=>?_) (fun oA=>?_)
     ·replace eA:=ctrue oA eA
      exact bs eA fun uB cB eA=>gc_ oA rfl<|oF fb24k4 rfl<|gc_ oA rfl<|oI kt3 rfl<|gc_ oA rfl<|cx Tryz.call133 rfl (o1 cB _)<|pT oA rfl<|rf 3 (rbq eA) rfl k
     ·replace eA:=cfalse oA eA
      exact sk_ oA rfl<|sk_ oA rfl<|sk_ oA rfl<|pF oA rfl<|rf 3 (rbq eA) rfl k
   ·refine by_ (t:=19) rfl (fun kA=>?_) (fun kA=>?_)
    ·replace dA:=ctrue kA dA
     exact bs dA fun xC qB dA=>gc_ kA rfl<|oF fb24k3 rfl<|gc_ kA rfl<|oI kt3 rfl<|gc_ kA rfl<|cx Tryz.call133 rfl (o1 qB _)<|pT kA rfl<|rf 3 (rbq dA) rfl k
    ·replace dA:=cfalse kA dA
     exact sk_ kA rfl<|sk_ kA rfl<|sk_ kA rfl<|pF kA rfl<|rf 3 (rbq dA) rfl k
  ·refine by_ (t:=13) rfl (fun c6=>?_) (fun c6=>?_)
   ·replace h7:=ctrue c6 h7
    exact bs h7 fun y9 rB h7=>gc_ c6 rfl<|oF fb24k2 rfl<|gc_ c6 rfl<|oI kt3 rfl<|gc_ c6 rfl<|cx Tryz.call133 rfl (o1 rB _)<|pT c6 rfl<|rf 3 (rbq h7) rfl k
   ·replace h7:=cfalse c6 h7
    exact sk_ c6 rfl<|sk_ c6 rfl<|sk_ c6 rfl<|pF c6 rfl<|rf 3 (rbq h7) rfl k
 ·refine by_ (t:=8) rfl (fun c1=>?_) (fun c1=>?_)
  ·replace h2:=ctrue c1 h2
   exact bs h2 fun y4 h5 h2=>gc_ c1 rfl<|oF fb24k1 rfl<|gc_ c1 rfl<|oI kt3 rfl<|gc_ c1 rfl<|cx Tryz.call133 rfl (o1 h5 _)<|pT c1 rfl<|rf 3 (rbq h2) rfl k
  ·replace h2:=cfalse c1 h2
   exact sk_ c1 rfl<|sk_ c1 rfl<|sk_ c1 rfl<|pF c1 rfl<|rf 3 (rbq h2) rfl k
noncomputable def fZ (a0:ah):Option Int:=
 (((Loop.run (S:=(Int×Int)) (R:=Int) (fun(yA,xA)=>
   bif decide (xA<(a0.Epochs.length:Int)) then
    (idx a0.Epochs xA).bind fun zA=>
    some (.next (IntKind.wrap .i64 (yA+(zA.Tags.length:Int)),IntKind.wrap .i64 (xA+1)))
   else
    some (.done yA)) (0,0)).bind fun hA=>
 some hA
  :Option Int)).bind fun bA=>
 some bA
theorem o3 {a0:ah} {r0:Int} (hF:fZ a0=some r0) (L:List Res):Ok Tryz.prog 24 [SV.val am a0] L (SV.raw (.int .i64 r0)) L:=by
 unfold fZ at hF
 refine okI 20 Tryz.func24 rfl rfl rfl fun F0=>?_
 refine bs hF fun zA hA hF=>sr<|bX (K:=am) rfl rdV rfl<|a_ rfl<|ns<|a_ rfl<|nt<|sq<|afr (r:=zA) (fun zA=>[(3,.raw (.int .i64 zA))]) (fun zA=>(L)) ?_ fun K vA=>?_
 ·refine sr<|m_ rfl<|a_ rfl<|nt<|rc ?_
  cases osi hF
  exact rs Tryz.results24 (.tm rfl .nil) rfl rfl
 ·refine bs hA fun cA oA hA=>sr<|oF fb27k1 rfl<|oL kt25 rfl<|oN Tryz.underlying25 rfl<|m_ rfl<|nt<|bk<|lp oA () (fun yA bA=>[(3,.raw (.int .i64 yA.1)),(7,.val (kSl bc) a0.Epochs),(8,.raw (.int .i64 (a0.Epochs.length:Int))),(9,.raw (.int .i64 yA.2))]) (fun yA bA=>L) rfl rfl fun yA bA qA xA kA=>?_
  obtain⟨rA,wA⟩:=yA
  dsimp only at xA⊢
  refine sr<|b_ rfl<|nt<|sq<|it xA rfl (fun xA=>?_) (fun xA=>?_)
  ·exact bs xA fun dA eA xA=>ct<|sq<|bk<|sr<|oS eA Tryz.underlying25 sz152 rfl<|oL kt152 rfl<|al ZT152 rfl fun gA=>sP (x':=dA) .box .id sz152k rfl rfl rdV rfl<|nl<|fz (t:=5) rfl<|tn<|rg<|m_ rfl<|oF fb152k rfl<|oL kt85 rfl<|oN Tryz.underlying85 rfl<|b_ rfl<|a_ rfl<|nl<|bN<|tn<|rg<|b_ rfl<|m_ rfl<|nl<|nx () xA rfl rfl
  ·refine xt<|te ?_
   cases ai xA kA
   exact te<|bh<|tn<|wr (vA _ (osi hA).symm) rfl
noncomputable def fI (a0:ah):Option (List ((List Int)×Int)):=
 (((Loop.run (S:=(Int×(List ((List Int)×Int)))) (R:=(List ((List Int)×Int))) (fun(xA,zA)=>
   bif decide (xA<(a0.Epochs.length:Int)) then
    (((idx a0.Epochs xA).bind fun hA=>
    (Loop.run (S:=(Int×(List ((List Int)×Int)))) (R:=(List ((List Int)×Int))) (fun(yA,bA)=>
      bif decide (yA<(hA.Tags.length:Int)) then
       (idx hA.Tags yA).bind fun vA=>
       some (.next (IntKind.wrap .i64 (yA+1),mset vA xA bA))
      else
       some (.done bA)) (0,zA)).bind fun oA=>
    some oA
     :Option (List ((List Int)×Int)))).bind fun kA=>
    some (.next (IntKind.wrap .i64 (xA+1),kA))
   else
    some (.done zA)) (0,[])).bind fun dA=>
 some dA
  :Option (List ((List Int)×Int)))).bind fun eA=>
 some eA
theorem o4 {a0:ah} {r0:(List ((List Int)×Int))} (hF:fI a0=some r0) (L:List Res):Ok Tryz.prog 124 [SV.val am a0] L (SV.val (kMap K4 K10) r0) L:=by
 unfold fI at hF
 refine okI 30 Tryz.func124 rfl rfl rfl fun F0=>?_
 refine bs hF fun vA kA hF=>sr<|bX (K:=am) rfl rdV rfl<|a_ rfl<|ns<|Under.mkm K4 K10 rfl fun b1=>a_ rfl<|nt<|sq<|afr (r:=vA) (fun vA=>[(3,.val (kMap K4 K10) vA)]) (fun vA=>(L)) ?_ fun K rA=>?_
 ·refine sr<|m_ rfl<|a_ rfl<|nt<|rc ?_
  cases osi hF
  exact rs Tryz.results124 (.tm rfl .nil) rfl rfl
 ·refine bs kA fun yB wA kA=>sr<|oF fb27k1 rfl<|oL kt25 rfl<|oN Tryz.underlying25 rfl<|m_ rfl<|nt<|bk<|lp wA () (fun zA cA=>[(3,.raw (.map (some b1))),(10,.val (kSl bc) a0.Epochs),(11,.raw (.int .i64 (a0.Epochs.length:Int))),(12,.raw (.int .i64 zA.1))]) (fun zA cA=>(.mp K4 K10 b1 zA.2)::L) rfl rfl fun zA cA zB xA gA=>?_
  obtain⟨dA,hB⟩:=zA
  dsimp only at xA⊢
  refine sr<|b_ rfl<|nt<|sq<|it xA rfl (fun xA=>?_) (fun xA=>?_)
  ·refine bs xA fun oA hA xA=>ct<|sq<|afr (r:=oA) (fun oA=>[(3,.raw (.map (some b1))),(10,.val (kSl bc) a0.Epochs),(11,.raw (.int .i64 (a0.Epochs.length:Int))),(12,.raw (.int .i64 dA))]) (fun oA=>((.mp K4 K10 b1 oA)::L)) ?_ fun K mA=>?_
   ·exact rg<|b_ rfl<|m_ rfl<|nl<|nx () xA rfl rfl
   ·refine bs hA fun eA nA hA=>bs hA fun bB pA hA=>bk<|sr<|m_ rfl<|oS nA Tryz.underlying25 sz152 rfl<|oL kt152 rfl<|al ZT152 rfl fun vB=>a_ rfl<|sP (x':=eA) .box .id sz152k rfl rfl rdV rfl<|nl<|fz (t:=5) rfl<|tn<|sr<|oF fb152k rfl<|oL kt85 rfl<|oN Tryz.underlying85 rfl<|m_ rfl<|nt<|bk<|lp pA () (fun bA qA=>[(3,.raw (.map (some b1))),(4,.raw (.int .i64 dA)),(10,.val (kSl bc) a0.Epochs),(11,.raw (.int .i64 (a0.Epochs.length:Int))),(12,.raw (.int .i64 dA)),(18,.val K0 eA.Tags),(19,.raw (.int .i64 (eA.Tags.length:Int))),(20,.raw (.int .i64 bA.1))]) (fun bA qA=>(.mp K4 K10 b1 bA.2)::L) rfl rfl fun bA qA oB yA tA=>?_
    obtain⟨kB,dB⟩:=bA
    dsimp only at yA⊢
    refine sr<|b_ rfl<|nt<|sq<|it yA rfl (fun yA=>?_) (fun yA=>?_)
    ·exact bs yA fun uA xB yA=>ct<|sq<|bk<|sr<|oS xB Tryz.underlying85 sz64 rfl<|oL kt64 rfl<|al ZT64 rfl fun eB=>sP (x':=uA) .box .id sz64k rfl rfl rdV rfl<|nl<|fz (t:=7) rfl<|tn<|rg<|m_ rfl<|oL kt64 rfl<|m_ rfl<|Under.mup key64 Tryz.underlying155 rfl rfl rdV rfl rdI<|nl<|bN<|tn<|rg<|b_ rfl<|m_ rfl<|nl<|nx () yA rfl rfl
    ·refine xt<|te ?_
     cases ai yA tA
     exact te<|bh<|bN<|tn<|wr (mA _ (osi hA).symm) rfl
  ·refine Under.frzM (t:=3) rfl<|xt<|te ?_
   cases ai xA gA
   exact te<|bh<|tn<|wr (rA _ (osi kA).symm) rfl
noncomputable def jj (a0:Int) (a1:Int) (a2:Int):Option Bool:=
 some ((decide (a0≤a1))&&(decide ((IntKind.wrap .i64 (a1 - a0))<a2)))
theorem o5 {a0 a1 a2:Int} {r0:Bool} (hF:jj a0 a1 a2=some r0) (L:List Res):Ok Tryz.prog 123 [SV.raw (.int .i64 a0),SV.raw (.int .i64 a1),SV.raw (.int .i64 a2)] L (SV.raw (.bool r0)) L:=by
 unfold jj at hF
 refine okI 17 Tryz.func123 rfl rfl rfl fun F0=>?_
 refine sr<|a_ rfl<|ns<|m_ rfl<|mb rfl<|m_ rfl<|nK 16 ((decide (a0≤a1))&&(decide ((IntKind.wrap .i64 (a1 - a0))<a2))) ?_ (fun k=>?_)
 ·refine a_ rfl<|nt<|rc ?_
  cases osi hF
  exact rs Tryz.results123 (.tm rfl .nil) rfl rfl
 ·refine by_ (t:=10) rfl (fun c1=>?_) (fun c1=>?_)
  ·exact gc_ c1 rfl<|m_ rfl<|gc_ c1 rfl<|m_ rfl<|gc_ c1 rfl<|b_ rfl<|gc_ c1 rfl<|m_ rfl<|gc_ c1 rfl<|b_ rfl<|pT c1 rfl<|rf 5 (iV c1) rfl k
  ·exact sk_ c1 rfl<|sk_ c1 rfl<|sk_ c1 rfl<|sk_ c1 rfl<|sk_ c1 rfl<|pF c1 rfl<|rf 5 (iW (e:=decide ((IntKind.wrap .i64 (a1 - a0))<a2)) c1) rfl k
noncomputable def jD (a0:List Int) (a1:List Int):Option Int:=
 some (cmpB a0 a1)
theorem o6 {a0 a1:List Int} {r0:Int} (hF:jD a0 a1=some r0) (L:List Res):Ok Tryz.prog 189 [SV.val K9 a0,SV.val K9 a1] L (SV.raw (.int .i64 r0)) L:=by
 unfold jD at hF
 refine okI 8 Tryz.func189 rfl rfl rfl fun F0=>?_
 refine sr<|a_ rfl<|ns<|m_ rfl<|m_ rfl<|ov (OpV.cmp Tryz.func230 nn230 nb230 nx230 fd230 rfl rfl rdV rfl rdV) rfl<|a_ rfl<|nt<|rc ?_
 cases osi hF
 exact rs Tryz.results189 (.tm rfl .nil) rfl rfl
noncomputable def kc (a0:List Int) (a1:List Int):Option Int:=
 (jD a0 a1).bind fun y1=>
 some y1
theorem o7 {a0 a1:List Int} {r0:Int} (hF:kc a0 a1=some r0) (L:List Res):Ok Tryz.prog 126 [SV.val K4 a0,SV.val K4 a1] L (SV.raw (.int .i64 r0)) L:=by
 unfold kc at hF
 refine okI 8 Tryz.func126 rfl rfl rfl fun F0=>?_
 refine bs hF fun y1 h2 hF=>sr<|bX (K:=kArr 16 K12) rfl rdV rfl<|bX (K:=kArr 16 K12) rfl rdV rfl<|a_ rfl<|nt<|sq<|dw rfl (by kernel_rfl) fun F hF0=>oq (OpV.slA Tryz.underlying64 sz5 rfl) rfl<|oq (OpV.slA Tryz.underlying64 sz5 rfl) rfl<|oq (OpV.call Tryz.call189 rfl rfl (fun L=>(o6 h2 L))) rfl<|agq rfl rfl<|nlq hF0<|tn<|rc ?_
 cases osi hF
 exact rs Tryz.results126 (.tm rfl .nil) rfl rfl
noncomputable def cY (a0:List (List Int)):Option Bool:=
 (((Loop.run (S := Int) (R := (Unit ⊕ Bool)) (fun xA =>
   bif decide (xA>0) then
    (idx a0 xA).bind fun yA=>
    (idx a0 (IntKind.wrap .i64 (xA - 1))).bind fun zA=>
    (kc yA zA).bind fun hA=>
    bif decide (hA<0) then
     some (.done (.inr false))
    else
     some (.next (IntKind.wrap .i64 (xA - 1)))
   else
    some (.done (.inl ()))) (IntKind.wrap .i64 ((a0.length:Int) - 1))).bind fun bA=>match bA with
  | .inl _=>
   some (.inr ())
  | .inr z=>
   some (.inl z)
  : Option (Bool ⊕ Unit))).bind fun vA => match vA with
  | .inl z=>
   some z
  | .inr _=>
   some true
theorem o8 {a0:List (List Int)} {r0:Bool} (hF:cY a0=some r0) (L:List Res):Ok Tryz.prog 134 [SV.val K0 a0,SV.raw (.func (.func 126) #[] #[])] L (SV.raw (.bool r0)) L:=by
 unfold cY at hF
 refine okI 25 Tryz.func134 rfl rfl rfl fun F0=>?_
 refine bs hF fun oA yA hF=>sr<|a_ rfl<|nt<|sq<|Under.after (fun X=>∀(_:Unit),oA=(.inr ())→Under F0 25 [] (L) X) ?_ ?_
 ·intro _ zA
  replace zA:=zA.symm
  subst zA
  refine sr<|a_ rfl<|nt<|rc ?_
  cases osi hF
  exact rs Tryz.results134 (.tm rfl .nil) rfl rfl
 ·intro K kA
  refine bs yA fun rA dA yA=>sr<|m_ rfl<|oN Tryz.underlying85 rfl<|b_ rfl<|a_ rfl<|nt<|bk<|lp dA () (fun hA bA=>[(0,.val K0 a0),(1,.raw (.func (.func 126) #[] #[])),(5,.raw (.int .i64 hA))]) (fun hA bA=>L) rfl rfl fun hA bA wA xA vA=>?_
  refine sq<|sr<|mb rfl<|nt<|it xA rfl (fun xA=>?_) (fun xA=>?_)
  ·refine bs xA fun gA eA xA=>bs xA fun mA cA xA=>bs xA fun nA qA xA=>ct<|sq<|bk<|sq<|dw rfl (by kernel_rfl) fun F hF0=>mvq rfl rfl<|mvq rfl rfl<|mvq rfl rfl<|oq (OpV.ixS eA Tryz.underlying85 sz64 rfl rdV rfl) rfl<|oq (OpV.ld kt64 rfl) rfl<|mvq rfl rfl<|mvq rfl rfl<|bnq rfl rfl rfl rfl<|oq (OpV.ixS cA Tryz.underlying85 sz64 rfl rdV rfl) rfl<|oq (OpV.ld kt64 rfl) rfl<|oq (OpV.call Tryz.call126 rfl rfl (fun L=>(o7 qA L))) rfl<|bnq rfl rfl rfl rfl<|nlq hF0<|tn<|it xA rfl (fun xA=>?_) (fun xA=>?_)
   ·refine sr<|a_ rfl<|nt<|rc<|Under.bR<|tr ?_
    cases ai xA vA
    refine tr<|Under.bR<|tr ?_
    cases osi yA
    cases osi hF
    exact rs Tryz.results134 (.tm rfl .nil) rfl rfl
   ·exact cs<|bN<|tn<|rg<|mb rfl<|a_ rfl<|nl<|nx () xA rfl rfl
  ·refine xt<|te ?_
   cases ai xA vA
   exact te<|bh<|tn<|wr (kA () (osi yA).symm) rfl
noncomputable def fJ (a0:ah) (a1:Int) (a2:Int):Option Int:=
 bif (((decide (a1<1))||(decide (a1>8)))||(decide (a2<0)))||(decide (a2>4096)) then
  some 2
 else
  ((bif (decide (a0.Newest<0))||(decide (a0.Newest>4611686018427387904)) then
   some true
  else
   (fZ a0).bind fun cA=>
   some (decide (cA>a2))
   :Option Bool)).bind fun qA=>
  ((bif qA then
   some true
  else
   (fI a0).bind fun rA=>
   (fZ a0).bind fun wA=>
   some ((rA.length:Int) != wA)
   :Option Bool)).bind fun gA=>
  bif gA then
   some 2
  else
   (((Loop.run (S := Int) (R := (Unit ⊕ Int)) (fun xA =>
     bif decide (xA<(a0.Epochs.length:Int)) then
      (idx a0.Epochs xA).bind fun yA=>
      ((bif decide (yA.Number<0) then
       some true
      else
       (jj yA.Number a0.Newest a1).bind fun zA=>
       some (!zA)
       :Option Bool)).bind fun hA=>
      ((bif hA then
       some true
      else
       ((bif decide (xA>0) then
        (idx a0.Epochs (IntKind.wrap .i64 (xA - 1))).bind fun bA=>
        some (decide (yA.Number≤bA.Number))
       else
        some false
        :Option Bool)).bind fun vA=>
       some vA
       :Option Bool)).bind fun oA=>
      bif oA||((yA.Tags.length:Int)==0) then
       some (.done (.inr 2))
      else
       (cY yA.Tags).bind fun kA=>
       bif !kA then
        some (.done (.inr 2))
       else
        some (.next (IntKind.wrap .i64 (xA+1)))
     else
      some (.done (.inl ()))) 0).bind fun dA=>match dA with
    | .inl _=>
     some (.inr ())
    | .inr z=>
     some (.inl z)
    : Option (Int ⊕ Unit))).bind fun eA => match eA with
    | .inl z=>
     some z
    | .inr _=>
     some 0
theorem o9 {a0:ah} {a1 a2:Int} {r0:Int} (hF:fJ a0 a1 a2=some r0) (L:List Res):Ok Tryz.prog 73 [SV.val am a0,SV.raw (.int .i64 a1),SV.raw (.int .i64 a2)] L (SV.raw (.int .i64 r0)) L:=by
 unfold fJ at hF
 refine okI 92 Tryz.func73 rfl rfl rfl fun F0=>?_
 refine sr<|bX (K:=am) rfl rdV rfl<|a_ rfl<|nt<|sq<|sr<|mb rfl<|m_ rfl<|cN 14 ((decide (a1<1))||(decide (a1>8))) ?_ (fun k=>?_)
 ·refine m_ rfl<|cN 18 (((decide (a1<1))||(decide (a1>8)))||(decide (a2<0))) ?_ (fun k=>?_)
  ·refine m_ rfl<|cN 22 ((((decide (a1<1))||(decide (a1>8)))||(decide (a2<0)))||(decide (a2>4096))) ?_ (fun k=>?_)
   ·refine nt<|it hF rfl (fun hF=>?_) (fun hF=>?_)
    ·refine sr<|a_ rfl<|nt<|rt ?_
     cases osi hF
     exact rs Tryz.results73 (.tm rfl .nil) rfl rfl
    ·refine bs hF fun pA gA hF=>bs hF fun zB dA hF=>ct<|sq<|sq<|Under.drawz [[3],[23],[24],[25],[3,26],[26,27],[26,28],[26,29],[30],[3,31],[31,32],[2,31],[31,33,34],[31,35],[36],[3,37],[37,38],[37,39],[3,37],[37,41],[37,40,42],[37,43]] [(44,.raw (.bool zB))] rfl (by kernel_rfl) rfl ?_ (fun k F hF0=>?_)
     ·refine tn<|it hF rfl (fun hF=>?_) (fun hF=>?_)
      ·refine sr<|a_ rfl<|nt<|rt ?_
       cases osi hF
       exact rs Tryz.results73 (.tm rfl .nil) rfl rfl
      ·refine bs hF fun vB nA hF=>ct<|sq<|Under.after (fun X=>∀(_:Unit),vB=(.inr ())→Under F0 92 [] (L) X) ?_ ?_
       ·intro _ tA
        replace tA:=tA.symm
        subst tA
        refine sr<|a_ rfl<|nt<|rc ?_
        cases osi hF
        exact rs Tryz.results73 (.tm rfl .nil) rfl rfl
       ·intro K oB
        refine bs nA fun pB kB nA=>sr<|oF fb27k1 rfl<|oL kt25 rfl<|oN Tryz.underlying25 rfl<|m_ rfl<|nt<|bk<|lp kB () (fun uA hB=>[(1,.raw (.int .i64 a1)),(3,.ptr am a0),(46,.val (kSl bc) a0.Epochs),(47,.raw (.int .i64 (a0.Epochs.length:Int))),(48,.raw (.int .i64 uA))]) (fun uA hB=>L) rfl rfl fun uA hB tB yA xB=>?_
        refine sr<|b_ rfl<|nt<|sq<|it yA rfl (fun yA=>?_) (fun yA=>?_)
        ·refine bs yA fun yB dB yA=>bs yA fun eB eA yA=>ct<|sq<|bk<|sr<|m_ rfl<|oS dB Tryz.underlying25 sz152 rfl<|oL kt152 rfl<|al ZT152 rfl fun uB=>a_ rfl<|sP (x':=yB) .box .id sz152k rfl rfl rdV rfl<|nl<|fz (t:=8) rfl<|tn<|sq<|sq<|dw rfl (by kernel_rfl) fun F hF0=>oq (OpV.fd fb152k1 rfl rfl) rfl<|oq (OpV.ldI kt2 rfl) rfl<|bnq rfl rfl rfl rfl<|mvq rfl rfl<|zF 64 eB ?_ (fun k=>?_)
         ·refine bs yA fun bB cA yA=>mvq rfl rfl<|yj 80 bB ?_ (fun k=>?_)
          ·refine mvq rfl rfl<|zz 86 (bB||((yB.Tags.length:Int)==0)) ?_ (fun k=>?_)
           ·refine nlq hF0<|tn<|it yA rfl (fun yA=>?_) (fun yA=>?_)
            ·refine sr<|a_ rfl<|nt<|rt<|Under.bR<|tr ?_
             cases ai yA xB
             refine tr<|Under.bR<|tr ?_
             cases osi nA
             cases osi hF
             exact rs Tryz.results73 (.tm rfl .nil) rfl rfl
            ·refine bs yA fun xC cB yA=>ct<|sr<|oF fb152k rfl<|oL kt85 rfl<|cx Tryz.call134 rfl (o8 cB _)<|ov (OpV.not rfl) rfl<|nt<|it yA rfl (fun yA=>?_) (fun yA=>?_)
             ·refine sr<|a_ rfl<|nt<|rc<|Under.bR<|tr ?_
              cases ai yA xB
              refine tr<|Under.bR<|tr ?_
              cases osi nA
              cases osi hF
              exact rs Tryz.results73 (.tm rfl .nil) rfl rfl
             ·exact cs<|bN<|tn<|rg<|b_ rfl<|m_ rfl<|nl<|nx () yA rfl rfl
           ·refine byq (t:=81) rfl (fun vA=>?_) (fun vA=>?_)
            ·exact skq vA rfl rfl rfl<|skq vA rfl rfl rfl<|skq vA rfl rfl rfl<|skq vA rfl rfl rfl<|oq (pkT vA rfl rfl) rfl<|rfq 4 (or_t (e:=(yB.Tags.length:Int)==0) vA) rfl k
            ·exact gq vA rfl rfl<|oq (OpV.fd fb152k rfl rfl) rfl<|gq vA rfl rfl<|oq (OpV.ld kt85 rfl) rfl<|gq vA rfl rfl<|oq (OpV.len Tryz.underlying85 rfl rdV) rfl<|gq vA rfl rfl<|bnq rfl rfl rfl rfl<|oq (pkF vA rfl rfl) rfl<|rfq 4 (or_f vA) rfl k
          ·refine byq (t:=65) rfl (fun bA=>?_) (fun bA=>?_)
           ·replace cA:=ctrue bA cA
            exact skq bA rfl rfl rfl<|skq bA rfl rfl rfl<|skq bA rfl rfl rfl<|aM.sku rfl rfl rfl<|aM.sku rfl rfl rfl<|aM.sku rfl rfl rfl<|aM.sku rfl rfl rfl<|aM.sku rfl rfl rfl<|aM.sku rfl rfl rfl<|aM.sku rfl rfl rfl<|aM.sku rfl rfl rfl<|aM.sku rfl rfl rfl<|aM.sku rfl rfl rfl<|skq bA rfl rfl rfl<|oq (pkT bA rfl rfl) rfl<|rfq 14 (rbq cA) rfl k
           ·replace cA:=cfalse bA cA
            refine bs cA fun qB qA cA=>gq bA rfl rfl<|mvq rfl rfl<|gq bA rfl rfl<|bnq rfl rfl rfl rfl<|gq bA rfl rfl<|mvq rfl rfl<|yi 79 qB ?_ (fun k=>?_)
            ·exact oq (pkF bA rfl rfl) rfl<|rfq 4 (rbq cA) rfl k
            ·refine byq (t:=68) rfl (fun xA=>?_) (fun xA=>?_)
             ·replace qA:=ctrue xA qA
              exact bs qA fun yC rB qA=>gq xA rfl rfl<|oq (OpV.fd fb152k1 rfl rfl) rfl<|gq xA rfl rfl<|oq (OpV.ldI kt2 rfl) rfl<|gq xA rfl rfl<|oq (OpV.fd fb27k1 rfl rfl) rfl<|gq xA rfl rfl<|oq (OpV.ld kt25 rfl) rfl<|gq xA rfl rfl<|mvq rfl rfl<|gq xA rfl rfl<|bnq rfl rfl rfl rfl<|gq xA rfl rfl<|oq (OpV.ixS rB Tryz.underlying25 sz152 rfl rdV rfl) rfl<|gq xA rfl rfl<|oq (OpV.fd fb152k1 rfl rfl) rfl<|gq xA rfl rfl<|oq (OpV.ldI kt2 rfl) rfl<|gq xA rfl rfl<|bnq rfl rfl rfl rfl<|gq bA rfl rfl<|oq (pkT xA rfl rfl) rfl<|rfq 10 (rbq qA) rfl k
             ·replace qA:=cfalse xA qA
              exact skq xA rfl rfl rfl<|skq xA rfl rfl rfl<|skq xA rfl rfl rfl<|skq xA rfl rfl rfl<|skq xA rfl rfl rfl<|skq xA rfl rfl rfl<|skq xA rfl rfl rfl<|skq xA rfl rfl rfl<|skq xA rfl rfl rfl<|skq xA rfl rfl rfl<|gq bA rfl rfl<|oq (pkF xA rfl rfl) rfl<|rfq 10 (rbq qA) rfl k
         ·refine byq (t:=56) rfl (fun zA=>?_) (fun zA=>?_)
          ·replace eA:=ctrue zA eA
           exact skq zA rfl rfl rfl<|skq zA rfl rfl rfl<|skq zA rfl rfl rfl<|skq zA rfl rfl rfl<|skq zA rfl rfl rfl<|skq zA rfl rfl rfl<|skq zA rfl rfl rfl<|oq (pkT zA rfl rfl) rfl<|rfq 7 (rbq eA) rfl k
          ·replace eA:=cfalse zA eA
           exact bs eA fun zC wB eA=>gq zA rfl rfl<|oq (OpV.fd fb152k1 rfl rfl) rfl<|gq zA rfl rfl<|oq (OpV.ldI kt2 rfl) rfl<|gq zA rfl rfl<|oq (OpV.fd fb27k rfl rfl) rfl<|gq zA rfl rfl<|oq (OpV.ldI kt2 rfl) rfl<|gq zA rfl rfl<|mvq rfl rfl<|gq zA rfl rfl<|oq (OpV.call Tryz.call123 rfl rfl (fun L=>(o5 wB L))) rfl<|gq zA rfl rfl<|oq (OpV.not rfl) rfl<|oq (pkF zA rfl rfl) rfl<|rfq 7 (rbq eA) rfl k
        ·refine xt<|te ?_
         cases ai yA xB
         exact te<|bh<|tn<|wr (oB () (osi nA).symm) rfl
     ·refine Zq.st (.ptr K10 a0.Newest) (fun G hG=>?_) ?_
      ·exact oF fb27k rfl<|Zq.done rfl
      refine Zq.st (.raw (.int .i64 a0.Newest)) (fun G hG=>?_) ?_
      ·exact oI kt2 rfl<|Zq.done rfl
      refine Zq.st (.raw (.bool (decide (a0.Newest<0)))) (fun G hG=>?_) ?_
      ·exact b_ rfl<|Zq.done rfl
      refine Zq.st (.raw (.bool (decide (a0.Newest<0)))) (fun G hG=>?_) ?_
      ·exact m_ rfl<|Zq.done rfl
      refine Zq.by (decide (a0.Newest<0)) (fun kA=>?_) (fun kA=>?_)
      ·refine Zq.st (.raw undef) (fun G hG=>?_) ?_
       ·exact sk_ kA rfl<|Zq.done rfl
       refine Zq.st (.raw undef) (fun G hG=>?_) ?_
       ·exact sk_ kA rfl<|Zq.done rfl
       refine Zq.st (.raw undef) (fun G hG=>?_) ?_
       ·exact sk_ kA rfl<|Zq.done rfl
       refine Zq.st (.raw (.bool ((decide (a0.Newest<0))||(decide (a0.Newest>4611686018427387904))))) (fun G hG=>?_) ?_
       ·exact pT kA rfl<|Under.top (or_t (e:=decide (a0.Newest>4611686018427387904)) kA)<|Zq.done rfl
       have mA:=A0 (e:=decide (a0.Newest>4611686018427387904)) kA
       refine Zq.st (.raw (.bool ((decide (a0.Newest<0))||(decide (a0.Newest>4611686018427387904))))) (fun G hG=>?_) ?_
       ·exact m_ rfl<|Zq.done rfl
       replace gA:=ctrue mA gA
       refine Zq.st (.raw undef) (fun G hG=>?_) ?_
       ·exact sk_ mA rfl<|Zq.done rfl
       refine Zq.st (.raw undef) (fun G hG=>?_) ?_
       ·exact sk_ mA rfl<|Zq.done rfl
       refine Zq.st (.raw undef) (fun G hG=>?_) ?_
       ·exact sk_ mA rfl<|Zq.done rfl
       refine Zq.st (.raw undef) (fun G hG=>?_) ?_
       ·exact sk_ mA rfl<|Zq.done rfl
       refine Zq.st (.raw (.bool pA)) (fun G hG=>?_) ?_
       ·exact pT mA rfl<|Under.top (rbq gA)<|Zq.done rfl
       have rA:=(osi gA).symm
       refine Zq.st (.raw (.bool pA)) (fun G hG=>?_) ?_
       ·exact m_ rfl<|Zq.done rfl
       replace dA:=ctrue rA dA
       refine Zq.st (.raw undef) (fun G hG=>?_) ?_
       ·exact sk_ rA rfl<|Zq.done rfl
       refine Zq.st (.raw undef) (fun G hG=>?_) ?_
       ·exact sk_ rA rfl<|Zq.done rfl
       refine Zq.st (.raw undef) (fun G hG=>?_) ?_
       ·exact sk_ rA rfl<|Zq.done rfl
       refine Zq.st (.raw undef) (fun G hG=>?_) ?_
       ·exact sk_ rA rfl<|Zq.done rfl
       refine Zq.st (.raw undef) (fun G hG=>?_) ?_
       ·exact sk_ rA rfl<|Zq.done rfl
       refine Zq.st (.raw undef) (fun G hG=>?_) ?_
       ·exact sk_ rA rfl<|Zq.done rfl
       refine Zq.st (.raw (.bool zB)) (fun G hG=>?_) ?_
       ·exact pT rA rfl<|Under.top (rbq dA)<|Zq.done rfl
       have hC:=(osi dA).symm
       exact Zq.nil (Zq.fin 22 hF0 (SubZ.cons rfl rfl SubZ.nil) rfl k)
      ·refine Zq.st (.ptr K10 a0.Newest) (fun G hG=>?_) ?_
       ·exact gc_ kA rfl<|oF fb27k rfl<|Zq.done rfl
       refine Zq.st (.raw (.int .i64 a0.Newest)) (fun G hG=>?_) ?_
       ·exact gc_ kA rfl<|oI kt2 rfl<|Zq.done rfl
       refine Zq.st (.raw (.bool (decide (a0.Newest>4611686018427387904)))) (fun G hG=>?_) ?_
       ·exact gc_ kA rfl<|b_ rfl<|Zq.done rfl
       refine Zq.st (.raw (.bool ((decide (a0.Newest<0))||(decide (a0.Newest>4611686018427387904))))) (fun G hG=>?_) ?_
       ·exact pF kA rfl<|Under.top (or_f kA)<|Zq.done rfl
       refine Zq.st (.raw (.bool ((decide (a0.Newest<0))||(decide (a0.Newest>4611686018427387904))))) (fun G hG=>?_) ?_
       ·exact m_ rfl<|Zq.done rfl
       refine Zq.by ((decide (a0.Newest<0))||(decide (a0.Newest>4611686018427387904))) (fun oA=>?_) (fun oA=>?_)
       ·replace gA:=ctrue oA gA
        refine Zq.st (.raw undef) (fun G hG=>?_) ?_
        ·exact sk_ oA rfl<|Zq.done rfl
        refine Zq.st (.raw undef) (fun G hG=>?_) ?_
        ·exact sk_ oA rfl<|Zq.done rfl
        refine Zq.st (.raw undef) (fun G hG=>?_) ?_
        ·exact sk_ oA rfl<|Zq.done rfl
        refine Zq.st (.raw undef) (fun G hG=>?_) ?_
        ·exact sk_ oA rfl<|Zq.done rfl
        refine Zq.st (.raw (.bool pA)) (fun G hG=>?_) ?_
        ·exact pT oA rfl<|Under.top (rbq gA)<|Zq.done rfl
        have wA:=(osi gA).symm
        refine Zq.st (.raw (.bool pA)) (fun G hG=>?_) ?_
        ·exact m_ rfl<|Zq.done rfl
        replace dA:=ctrue wA dA
        refine Zq.st (.raw undef) (fun G hG=>?_) ?_
        ·exact sk_ wA rfl<|Zq.done rfl
        refine Zq.st (.raw undef) (fun G hG=>?_) ?_
        ·exact sk_ wA rfl<|Zq.done rfl
        refine Zq.st (.raw undef) (fun G hG=>?_) ?_
        ·exact sk_ wA rfl<|Zq.done rfl
        refine Zq.st (.raw undef) (fun G hG=>?_) ?_
        ·exact sk_ wA rfl<|Zq.done rfl
        refine Zq.st (.raw undef) (fun G hG=>?_) ?_
        ·exact sk_ wA rfl<|Zq.done rfl
        refine Zq.st (.raw undef) (fun G hG=>?_) ?_
        ·exact sk_ wA rfl<|Zq.done rfl
        refine Zq.st (.raw (.bool zB)) (fun G hG=>?_) ?_
        ·exact pT wA rfl<|Under.top (rbq dA)<|Zq.done rfl
        have bC:=(osi dA).symm
        exact Zq.nil (Zq.fin 22 hF0 (SubZ.cons rfl rfl SubZ.nil) rfl k)
       ·replace gA:=cfalse oA gA
        refine bs gA fun mB vC gA=>Zq.st (.val am a0) (fun G hG=>?_) ?_
        ·exact gc_ oA rfl<|oL kt27 rfl<|Zq.done rfl
        refine Zq.st (.raw (.int .i64 mB)) (fun G hG=>?_) ?_
        ·exact gc_ oA rfl<|cx Tryz.call24 rfl (o3 vC _)<|Zq.done rfl
        refine Zq.st (.raw (.int .i64 a2)) (fun G hG=>?_) ?_
        ·exact gc_ oA rfl<|m_ rfl<|Zq.done rfl
        refine Zq.st (.raw (.bool (decide (mB>a2)))) (fun G hG=>?_) ?_
        ·exact gc_ oA rfl<|b_ rfl<|Zq.done rfl
        refine Zq.st (.raw (.bool pA)) (fun G hG=>?_) ?_
        ·exact pF oA rfl<|Under.top (rbq gA)<|Zq.done rfl
        refine Zq.st (.raw (.bool pA)) (fun G hG=>?_) ?_
        ·exact m_ rfl<|Zq.done rfl
        refine Zq.by pA (fun hA=>?_) (fun hA=>?_)
        ·replace dA:=ctrue hA dA
         refine Zq.st (.raw undef) (fun G hG=>?_) ?_
         ·exact sk_ hA rfl<|Zq.done rfl
         refine Zq.st (.raw undef) (fun G hG=>?_) ?_
         ·exact sk_ hA rfl<|Zq.done rfl
         refine Zq.st (.raw undef) (fun G hG=>?_) ?_
         ·exact sk_ hA rfl<|Zq.done rfl
         refine Zq.st (.raw undef) (fun G hG=>?_) ?_
         ·exact sk_ hA rfl<|Zq.done rfl
         refine Zq.st (.raw undef) (fun G hG=>?_) ?_
         ·exact sk_ hA rfl<|Zq.done rfl
         refine Zq.st (.raw undef) (fun G hG=>?_) ?_
         ·exact sk_ hA rfl<|Zq.done rfl
         refine Zq.st (.raw (.bool zB)) (fun G hG=>?_) ?_
         ·exact pT hA rfl<|Under.top (rbq dA)<|Zq.done rfl
         have oC:=(osi dA).symm
         exact Zq.nil (Zq.fin 22 hF0 (SubZ.cons rfl rfl SubZ.nil) rfl k)
        ·replace dA:=cfalse hA dA
         refine bs dA fun gB kC dA=>bs dA fun nB dC dA=>Zq.st (.val am a0) (fun G hG=>?_) ?_
         ·exact gc_ hA rfl<|oL kt27 rfl<|Zq.done rfl
         refine Zq.st (.val (kMap K4 K10) gB) (fun G hG=>?_) ?_
         ·exact gc_ hA rfl<|cx Tryz.call124 rfl (o4 kC _)<|Zq.done rfl
         refine Zq.st (.raw (.int .i64 (gB.length:Int))) (fun G hG=>?_) ?_
         ·exact gc_ hA rfl<|ov (OpV.lenM Tryz.underlying155 rfl) rfl<|Zq.done rfl
         refine Zq.st (.val am a0) (fun G hG=>?_) ?_
         ·exact gc_ hA rfl<|oL kt27 rfl<|Zq.done rfl
         refine Zq.st (.raw (.int .i64 nB)) (fun G hG=>?_) ?_
         ·exact gc_ hA rfl<|cx Tryz.call24 rfl (o3 dC _)<|Zq.done rfl
         refine Zq.st (.raw (.bool ((gB.length:Int) != nB))) (fun G hG=>?_) ?_
         ·exact gc_ hA rfl<|b_ rfl<|Zq.done rfl
         refine Zq.st (.raw (.bool zB)) (fun G hG=>?_) ?_
         ·exact pF hA rfl<|Under.top (rbq dA)<|Zq.done rfl
         exact Zq.nil (Zq.fin 22 hF0 (SubZ.cons rfl rfl SubZ.nil) rfl k)
   ·refine by_ (t:=19) rfl (fun c7=>?_) (fun c7=>?_)
    ·exact sk_ c7 rfl<|sk_ c7 rfl<|pT c7 rfl<|rf 2 (or_t (e:=decide (a2>4096)) c7) rfl k
    ·exact gc_ c7 rfl<|m_ rfl<|gc_ c7 rfl<|b_ rfl<|pF c7 rfl<|rf 2 (or_f c7) rfl k
  ·refine by_ (t:=15) rfl (fun c4=>?_) (fun c4=>?_)
   ·exact sk_ c4 rfl<|sk_ c4 rfl<|pT c4 rfl<|rf 2 (or_t (e:=decide (a2<0)) c4) rfl k
   ·exact gc_ c4 rfl<|m_ rfl<|gc_ c4 rfl<|b_ rfl<|pF c4 rfl<|rf 2 (or_f c4) rfl k
 ·refine by_ (t:=11) rfl (fun c1=>?_) (fun c1=>?_)
  ·exact sk_ c1 rfl<|sk_ c1 rfl<|pT c1 rfl<|rf 2 (or_t (e:=decide (a1>8)) c1) rfl k
  ·exact gc_ c1 rfl<|m_ rfl<|gc_ c1 rfl<|b_ rfl<|pF c1 rfl<|rf 2 (or_f c1) rfl k
noncomputable def gg (a0:aB) (a1:aL):Option Int:=
 (eR a0).bind fun y1=>
 ((bif ((!y1)||(decide (a1.Next<0)))||(decide (a1.Next>4611686018427387904)) then
  some true
 else
  (fJ a1.Window a0.Span a0.Room).bind fun xA=>
  some (xA != 0)
  :Option Bool)).bind fun yA=>
 bif yA then
  some 210
 else
  some 0
theorem o10 {a0:aB} {a1:aL} {r0:Int} (hF:gg a0 a1=some r0) (L:List Res):Ok Tryz.prog 21 [SV.val aJ a0,SV.val bT a1] L (SV.raw (.int .i64 r0)) L:=by
 unfold gg at hF
 refine okI 28 Tryz.func21 rfl rfl rfl fun F0=>?_
 refine bs hF fun y1 h2 hF=>sr<|bX (K:=aJ) rfl rdV rfl<|bX (K:=bT) rfl rdV rfl<|a_ rfl<|nt<|sq<|sr<|oL kt24 rfl<|cx Tryz.call72 rfl (o2 h2 _)<|ov (OpV.not rfl) rfl<|m_ rfl<|bt 12 ((!y1)||(decide (a1.Next<0))) ?_ (fun k=>?_)
 ·refine m_ rfl<|bt 17 (((!y1)||(decide (a1.Next<0)))||(decide (a1.Next>4611686018427387904))) ?_ (fun k=>?_)
  ·refine bs hF fun yA xA hF=>m_ rfl<|AC 27 yA ?_ (fun k=>?_)
   ·refine nt<|it hF rfl (fun hF=>?_) (fun hF=>?_)
    ·refine sr<|a_ rfl<|nt<|rt ?_
     cases osi hF
     exact rs Tryz.results21 (.tm rfl .nil) rfl rfl
    ·refine ct<|sr<|a_ rfl<|nt<|rc ?_
     cases osi hF
     exact rs Tryz.results21 (.tm rfl .nil) rfl rfl
   ·refine by_ (t:=18) rfl (fun c9=>?_) (fun c9=>?_)
    ·replace xA:=ctrue c9 xA
     exact sk_ c9 rfl<|sk_ c9 rfl<|sk_ c9 rfl<|sk_ c9 rfl<|sk_ c9 rfl<|sk_ c9 rfl<|sk_ c9 rfl<|sk_ c9 rfl<|pT c9 rfl<|rf 8 (rbq xA) rfl k
    ·replace xA:=cfalse c9 xA
     exact bs xA fun hA zA xA=>gc_ c9 rfl<|oF fb29k1 rfl<|gc_ c9 rfl<|oL kt27 rfl<|gc_ c9 rfl<|oF fb24k2 rfl<|gc_ c9 rfl<|oI kt3 rfl<|gc_ c9 rfl<|oF fb24k3 rfl<|gc_ c9 rfl<|oI kt3 rfl<|gc_ c9 rfl<|cx Tryz.call73 rfl (o9 zA _)<|gc_ c9 rfl<|b_ rfl<|pF c9 rfl<|rf 8 (rbq xA) rfl k
  ·refine by_ (t:=13) rfl (fun c6=>?_) (fun c6=>?_)
   ·exact sk_ c6 rfl<|sk_ c6 rfl<|sk_ c6 rfl<|pT c6 rfl<|rf 3 (or_t (e:=decide (a1.Next>4611686018427387904)) c6) rfl k
   ·exact gc_ c6 rfl<|oF fb29k rfl<|gc_ c6 rfl<|oI kt2 rfl<|gc_ c6 rfl<|b_ rfl<|pF c6 rfl<|rf 3 (or_f c6) rfl k
 ·refine by_ (t:=8) rfl (fun c3=>?_) (fun c3=>?_)
  ·exact sk_ c3 rfl<|sk_ c3 rfl<|sk_ c3 rfl<|pT c3 rfl<|rf 3 (or_t (e:=decide (a1.Next<0)) c3) rfl k
  ·exact gc_ c3 rfl<|oF fb29k rfl<|gc_ c3 rfl<|oI kt2 rfl<|gc_ c3 rfl<|b_ rfl<|pF c3 rfl<|rf 3 (or_f c3) rfl k
noncomputable def fK:Option aD:=
 some (⟨[],(0:Int),(0:Int),(0:Int),(⟨(0:Int),(0:Int),(0:Int)⟩:ab),(⟨1,(0:Int)⟩:ak),(0:Int),(0:Int)⟩:aD)
theorem o11 {r0:aD} (hF:fK=some r0) (L:List Res):OkX Tryz.prog 69 [] L (fun y:(Value×Nat)=>SV.raw (.pointer (some ⟨y.2,0,none⟩))) (fun y:(Value×Nat)=>(.own K12 y.1 5 r0.field)::(.box bj y.2 146 (⟨y.1,r0.at_,r0.stage,r0.left,r0.header,r0.sum,r0.err,r0.place⟩:aj))::L):=by
 unfold fK at hF
 refine OkX.intro 4 [] Tryz.func69 rfl rfl rfl rfl fun F0=>?_
 refine sr<|a_ rfl<|ns<|ov (OpV.bst BT144 (Bld.cons (x':=(⟨1,(0:Int)⟩:ak)) rfl rfl rdI (by intro q hq;simp only[List.mem_cons,List.not_mem_nil,or_false] at hq;rcases hq with rfl<;>rfl) (Bld.nil _))) rfl<|ov (OpV.bst ni (Bld.cons (x':=(⟨.slice none 0 0,(0:Int),(0:Int),(0:Int),(⟨(0:Int),(0:Int),(0:Int)⟩:ab),(⟨1,(0:Int)⟩:ak),(0:Int),(0:Int)⟩:aj)) rfl rfl rdV ⟨rfl,⟨rfl,⟨rfl,⟨rfl,⟨rfl,(by intro q hq;simp only[List.mem_cons,List.not_mem_nil,or_false] at hq;rcases hq with rfl|rfl<;>rfl)⟩⟩⟩⟩⟩ (Bld.nil _))) rfl<|Under.bx (K:=bj) rfl rdV rfl fun b1=>a_ rfl<|nt<|rc<|Under.ownNil (K:=kInt .u8) (e:=5)<|f1<|f1 ?_
 cases osi hF
 exact Under.retsX ((.slice none 0 0),b1) Tryz.results69 (.tm rfl .nil) rfl rfl
noncomputable def cm (a0:aD):Option Int:=
 (idx [4,1,1,2,8,8,2,320,4,1] a0.stage).bind fun x1=>
 some x1
theorem o12 {a0:aD} {c0:Nat} {w0_0:Value} {r0:Int} (hF:cm a0=some r0) (L:List Res):Ok Tryz.prog 131 [SV.raw (.pointer (some ⟨c0,0,none⟩))] ((.own K12 w0_0 5 a0.field)::(.box bj c0 146 (⟨w0_0,a0.at_,a0.stage,a0.left,a0.header,a0.sum,a0.err,a0.place⟩:aj))::L) (SV.raw (.int .i64 r0)) ((.own K12 w0_0 5 a0.field)::(.box bj c0 146 (⟨w0_0,a0.at_,a0.stage,a0.left,a0.header,a0.sum,a0.err,a0.place⟩:aj))::L):=by
 unfold cm at hF
 refine okI 9 Tryz.func131 rfl rfl rfl fun F0=>?_
 refine bs hF fun x1 h2 hF=>sr<|a_ rfl<|ns<|ov (OpV.bar (ys:=[4,1,1,2,8,8,2,320,4,1]) BTA273 (BldA.cons rfl rfl rdI (BldA.cons rfl rfl rdI (BldA.cons rfl rfl rdI (BldA.cons rfl rfl rdI (BldA.cons rfl rfl rdI (BldA.cons rfl rfl rdI (BldA.cons rfl rfl rdI (BldA.cons rfl rfl rdI (BldA.cons rfl rfl rdI (BldA.cons rfl rfl rdI (BldA.nil _)))))))))))) rfl<|m_ rfl<|ov (OpV.nilChk rfl ⟨_,rfl⟩) rfl<|oM io rfl<|f1<|lP .box (.fld .id bQ) kt3k rfl rfl<|rI (t:=7) rfl<|ov (OpV.ixVI h2 Tryz.underlying273 kt3 rfl rfl) rfl<|a_ rfl<|nt<|rc<|f1 ?_
 cases osi hF
 exact rs Tryz.results131 (.tm rfl .nil) rfl rfl
noncomputable def cj (a0:List Int):Option (List Int):=
 (app [] a0).bind fun z5=>
 some z5
theorem o13 {a0:List Int} {r0:(List Int)} (hF:cj a0=some r0) (L:List Res):OkX Tryz.prog 74 [SV.val K9 a0] L (fun y:Value=>SV.raw y) (fun y:Value=>(.own K12 y 5 r0)::L):=by
 unfold cj at hF
 refine OkX.intro 8 [(0,.val K9 a0)] Tryz.func74 rfl rfl rfl rfl fun F0=>?_
 refine sr<|a_ rfl<|nt<|sq<|sr<|m_ rfl<|Under.eqNil Tryz.underlying22 rfl rfl fun b1 h2=>nt<|Under.conde rfl (fun h9=>?_) (fun _=>?_)
 ·replace hF:(some [])=some r0:=by rw[h2 h9] at hF;simpa[app,room] using hF
  refine sr<|a_ rfl<|nt<|rt<|Under.ownNil (K:=kInt .u8) (e:=5) ?_
  cases osi hF
  exact Under.retsX (.slice none 0 0) Tryz.results74 (.tm rfl .nil) rfl rfl
 ·refine bs hF fun z5 h6 hF=>ct<|sr<|bO (ys:=[]) Tryz.underlying22 ET5 (BldA.nil _) rfl rfl fun v4=>m_ rfl<|ap h6 Tryz.underlying22 AT5 rfl rfl rdV rfl fun v7=>a_ rfl<|nt<|rc ?_
  cases osi hF
  exact Under.retsX v7 Tryz.results74 (.tm rfl .nil) rfl rfl
noncomputable def eN (a0:List Int):Option Int:=
 (((Loop.run (S:=(Int×Int)) (R:=Int) (fun(yA,xA)=>
   bif decide (xA<(a0.length:Int)) then
    (idx a0 xA).bind fun zA=>
    some (.next (orI .u64 (shlI .u64 yA 8) (IntKind.wrap .u64 zA),IntKind.wrap .i64 (xA+1)))
   else
    some (.done yA)) (0,0)).bind fun hA=>
 some hA
  :Option Int)).bind fun bA=>
 some bA
theorem o14 {a0:List Int} {r0:Int} (hF:eN a0=some r0) (L:List Res):Ok Tryz.prog 190 [SV.val K9 a0] L (SV.raw (.int .u64 r0)) L:=by
 unfold eN at hF
 refine okI 19 Tryz.func190 rfl rfl rfl fun F0=>?_
 refine bs hF fun zA hA hF=>sr<|a_ rfl<|ns<|a_ rfl<|nt<|sq<|afr (r:=zA) (fun zA=>[(3,.raw (.int .u64 zA))]) (fun zA=>(L)) ?_ fun K vA=>?_
 ·refine sr<|m_ rfl<|a_ rfl<|nt<|rc ?_
  cases osi hF
  exact rs Tryz.results190 (.tm rfl .nil) rfl rfl
 ·refine bs hA fun eA oA hA=>sr<|m_ rfl<|oN Tryz.underlying22 rfl<|m_ rfl<|nt<|bk<|lp oA () (fun yA bA=>[(3,.raw (.int .u64 yA.1)),(6,.val K9 a0),(7,.raw (.int .i64 (a0.length:Int))),(8,.raw (.int .i64 yA.2))]) (fun yA bA=>L) rfl rfl fun yA bA cA xA kA=>?_
  obtain⟨qA,rA⟩:=yA
  dsimp only at xA⊢
  refine sr<|b_ rfl<|nt<|sq<|it xA rfl (fun xA=>?_) (fun xA=>?_)
  ·exact bs xA fun wA dA xA=>ct<|sq<|bk<|sr<|oS dA Tryz.underlying22 sz5 rfl<|oI kt5 rfl<|a_ rfl<|nt<|rg<|m_ rfl<|ov (OpV.sh rfl rfl (by decide) rfl) rfl<|m_ rfl<|oC (by kernel_rfl) Tryz.underlying71 rfl<|b_ rfl<|a_ rfl<|nl<|bN<|tn<|rg<|b_ rfl<|m_ rfl<|nl<|nx () xA rfl rfl
  ·refine xt<|te ?_
   cases ai xA kA
   exact te<|bh<|tn<|wr (vA _ (osi hA).symm) rfl
noncomputable def dK (a0:ak):Option Int:=
 some (orI .u32 (shlI .u32 a0.b 16) a0.a)
theorem o15 {a0:ak} {r0:Int} (hF:dK a0=some r0) (L:List Res):Ok Tryz.prog 130 [SV.val cO a0] L (SV.raw (.int .u32 r0)) L:=by
 unfold dK at hF
 refine okI 9 Tryz.func130 rfl rfl rfl fun F0=>?_
 refine sr<|bX (K:=cO) rfl rdV rfl<|a_ rfl<|ns<|oF fb144k rfl<|oI kt142 rfl<|ov (OpV.sh rfl rfl (by decide) rfl) rfl<|oF fb144k1 rfl<|oI kt142 rfl<|b_ rfl<|a_ rfl<|nt<|rc ?_
 cases osi hF
 exact rs Tryz.results130 (.tm rfl .nil) rfl rfl
noncomputable def fe (a0:ak) (a1:List Int):Option ak:=
 (((Loop.run (S:=(Int×ak)) (R:=ak) (fun(yA,xA)=>
   bif decide (yA<(a1.length:Int)) then
    (idx a1 yA).bind fun zA=>
    some (.next (IntKind.wrap .i64 (yA+1),({({xA with a:=Int.tmod (IntKind.wrap .u32 (xA.a+(IntKind.wrap .u32 zA))) 65521}:ak) with b:=Int.tmod (IntKind.wrap .u32 ((({xA with a:=Int.tmod (IntKind.wrap .u32 (xA.a+(IntKind.wrap .u32 zA))) 65521}:ak).b)+(({xA with a:=Int.tmod (IntKind.wrap .u32 (xA.a+(IntKind.wrap .u32 zA))) 65521}:ak).a))) 65521}:ak)))
   else
    some (.done xA)) (0,a0)).bind fun hA=>
 some hA
  :Option ak)).bind fun bA=>
 some bA
theorem o16 {a0:ak} {a1:List Int} {r0:ak} (hF:fe a0 a1=some r0) (L:List Res):Ok Tryz.prog 129 [SV.val cO a0,SV.val K9 a1] L (SV.val cO r0) L:=by
 unfold fe at hF
 refine okI 29 Tryz.func129 rfl rfl rfl fun F0=>?_
 refine bs hF fun zA vA hF=>sr<|Under.bx (K:=cO) rfl rdV rfl fun b1=>al ZT144 rfl fun b2=>nt<|sq<|afr (r:=zA) (fun zA=>[(2,.ptr cO zA),(4,pb b2)]) (fun zA=>((.box cO b2 144 (⟨(0:Int),(0:Int)⟩:ak))::L)) ?_ fun K kA=>?_
 ·refine sr<|oL kt144 rfl<|sP (x':=zA) .box .id sz144k rfl rfl rdV rfl<|nl<|fz (t:=4) rfl<|tn<|rc ?_
  cases osi hF
  exact rs Tryz.results129 (.ce rfl kt144 .nil) rfl rfl
 ·refine bs vA fun qA dA vA=>sr<|m_ rfl<|oN Tryz.underlying22 rfl<|m_ rfl<|nt<|bk<|f1<|lp dA () (fun hA oA=>[(2,pb b1),(4,pb b2),(7,.val K9 a1),(8,.raw (.int .i64 (a1.length:Int))),(9,.raw (.int .i64 hA.1))]) (fun hA oA=>(.box cO b1 144 hA.2)::(.box cO b2 144 (⟨(0:Int),(0:Int)⟩:ak))::L) rfl rfl fun hA oA rA xA eA=>?_
  obtain⟨wA,yA⟩:=hA
  dsimp only at xA⊢
  refine sr<|b_ rfl<|nt<|sq<|it xA rfl (fun xA=>?_) (fun xA=>?_)
  ·exact bs xA fun bA cA xA=>ct<|sq<|bk<|sr<|oS cA Tryz.underlying22 sz5 rfl<|oI kt5 rfl<|a_ rfl<|ns<|oM s4 rfl<|lP .box (.fld .id jW) kt142k rfl rfl<|rI (t:=14) rfl<|m_ rfl<|oC (by kernel_rfl) Tryz.underlying142 rfl<|b_ rfl<|ov (OpV.quo rfl rfl (by decide) rfl) rfl<|oM s4 rfl<|sP (x':=({yA with a:=Int.tmod (IntKind.wrap .u32 (yA.a+(IntKind.wrap .u32 bA))) 65521}:ak)) .box (.fld .id jW) sz142k rfl rfl rdI rfl<|nt<|rg<|oM wz rfl<|lP .box (.fld .id mq) kt142k rfl rfl<|rI (t:=21) rfl<|oM s4 rfl<|lP .box (.fld .id jW) kt142k rfl rfl<|rI (t:=23) rfl<|b_ rfl<|ov (OpV.quo rfl rfl (by decide) rfl) rfl<|oM wz rfl<|sP (x':=({({yA with a:=Int.tmod (IntKind.wrap .u32 (yA.a+(IntKind.wrap .u32 bA))) 65521}:ak) with b:=Int.tmod (IntKind.wrap .u32 ((({yA with a:=Int.tmod (IntKind.wrap .u32 (yA.a+(IntKind.wrap .u32 bA))) 65521}:ak).b)+(({yA with a:=Int.tmod (IntKind.wrap .u32 (yA.a+(IntKind.wrap .u32 bA))) 65521}:ak).a))) 65521}:ak)) .box (.fld .id mq) sz142k rfl rfl rdI rfl<|nl<|bN<|tn<|rg<|b_ rfl<|m_ rfl<|nl<|nx () xA rfl rfl
  ·refine fz (t:=2) rfl<|xt<|te ?_
   cases ai xA eA
   exact te<|bh<|tn<|wr (kA _ (osi vA).symm) rfl
noncomputable def bV (a0:aD):Option (Int×aD):=
 bif a0.stage==8 then
  (eN a0.field).bind fun y2=>
  (dK a0.sum).bind fun y4=>
  bif y2 != (IntKind.wrap .u64 y4) then
   some (65,(⟨a0.field,a0.at_,a0.stage,a0.left,a0.header,a0.sum,a0.err,a0.place⟩:aD))
  else
   some (0,(⟨a0.field,a0.at_,9,a0.left,a0.header,a0.sum,a0.err,a0.place⟩:aD))
 else
  (fe a0.sum a0.field).bind fun y8=>
  ((bif a0.stage==0 then
   bif (strB a0.field) != [67,72,82,78] then
    some (.inl (60,(⟨a0.field,a0.at_,a0.stage,a0.left,a0.header,y8,a0.err,a0.place⟩:aD)))
   else
    some (.inr (a0.left,a0.header))
  else
   bif a0.stage==1 then
    (idx a0.field 0).bind fun vA=>
    bif vA != 1 then
     some (.inl (61,(⟨a0.field,a0.at_,a0.stage,a0.left,a0.header,y8,a0.err,a0.place⟩:aD)))
    else
     some (.inr (a0.left,a0.header))
   else
    bif a0.stage==2 then
     (idx a0.field 0).bind fun xA=>
     bif decide ((({a0.header with Left:=IntKind.wrap .i64 xA}:ab).Left)>8) then
      some (.inl (62,(⟨a0.field,a0.at_,a0.stage,a0.left,({a0.header with Left:=IntKind.wrap .i64 xA}:ab),y8,a0.err,a0.place⟩:aD)))
     else
      some (.inr (a0.left,({a0.header with Left:=IntKind.wrap .i64 xA}:ab)))
    else
     bif a0.stage==3 then
      (eN a0.field).bind fun yA=>
      bif decide ((IntKind.wrap .i64 yA)>256) then
       some (.inl (63,(⟨a0.field,a0.at_,a0.stage,IntKind.wrap .i64 yA,a0.header,y8,a0.err,a0.place⟩:aD)))
      else
       some (.inr (IntKind.wrap .i64 yA,a0.header))
     else
      bif a0.stage==4 then
       (eN a0.field).bind fun zA=>
       bif decide (zA>4611686018427387903) then
        some (.inl (62,(⟨a0.field,a0.at_,a0.stage,a0.left,({a0.header with Round:=IntKind.wrap .i64 zA}:ab),y8,a0.err,a0.place⟩:aD)))
       else
        some (.inr (a0.left,({a0.header with Round:=IntKind.wrap .i64 zA}:ab)))
      else
       bif a0.stage==5 then
        (eN a0.field).bind fun hA=>
        bif decide (hA>4611686018427387904) then
         some (.inl (62,(⟨a0.field,a0.at_,a0.stage,a0.left,({a0.header with Epoch:=IntKind.wrap .i64 hA}:ab),y8,a0.err,a0.place⟩:aD)))
        else
         some (.inr (a0.left,({a0.header with Epoch:=IntKind.wrap .i64 hA}:ab)))
       else
        bif a0.stage==6 then
         (eN a0.field).bind fun oA=>
         bif oA != 320 then
          some (.inl (64,(⟨a0.field,a0.at_,a0.stage,a0.left,a0.header,y8,a0.err,a0.place⟩:aD)))
         else
          some (.inr (a0.left,a0.header))
        else
         bif a0.stage==7 then
          some (.inr (IntKind.wrap .i64 (a0.left - 1),a0.header))
         else
          bif a0.stage==9 then
           some (.inl (66,(⟨a0.field,a0.at_,a0.stage,a0.left,a0.header,y8,a0.err,a0.place⟩:aD)))
          else
           some (.inr (a0.left,a0.header))
   : Option ((Int × aD) ⊕ (Int × ab)))).bind fun kA => match kA with
   | .inl z=>
    some z
   | .inr (bA,dA)=>
    ((bif ((IntKind.wrap .i64 (a0.stage+1))==6)||((IntKind.wrap .i64 (a0.stage+1))==8) then
     bif bA==0 then
      some 8
     else
      some 6
    else
     some (IntKind.wrap .i64 (a0.stage+1))
     :Option Int)).bind fun eA=>
    some (0,(⟨a0.field,a0.at_,eA,bA,dA,y8,a0.err,a0.place⟩:aD))
theorem o17 {a0:aD} {c0:Nat} {w0_0:Value} {r0:(Int×aD)} (hF:bV a0=some r0) (L:List Res):OkX Tryz.prog 132 [SV.raw (.pointer (some ⟨c0,0,none⟩))] ((.own K12 w0_0 5 a0.field)::(.box bj c0 146 (⟨w0_0,a0.at_,a0.stage,a0.left,a0.header,a0.sum,a0.err,a0.place⟩:aj))::L) (fun y:Value=>SV.raw (.int .i64 r0.1)) (fun y:Value=>(.own K12 y 5 r0.2.field)::(.box bj c0 146 (⟨y,r0.2.at_,r0.2.stage,r0.2.left,r0.2.header,r0.2.sum,r0.2.err,r0.2.place⟩:aj))::L):=by
 unfold bV at hF
 refine OkX.intro 150 [(0,pb c0)] Tryz.func132 rfl rfl rfl rfl fun F0=>?_
 refine sr<|a_ rfl<|ns<|m_ rfl<|ov (OpV.nilChk rfl ⟨_,rfl⟩) rfl<|oM ji rfl<|f1<|lP .box (.fld .id ck) kt22k rfl rfl<|Under.rawR (t:=9) rfl<|a_ rfl<|nt<|sq<|sr<|m_ rfl<|ov (OpV.nilChk rfl ⟨_,rfl⟩) rfl<|oM io rfl<|lP .box (.fld .id bQ) kt3k rfl rfl<|rI (t:=13) rfl<|b_ rfl<|nt<|it hF rfl (fun hF=>?_) (fun hF=>?_)
 ·refine bs hF fun y2 h3 hF=>bs hF fun y4 h5 hF=>sq<|sq<|ph rfl<|gV [0,1,2,3,4,5] [[3],[15],[0],[17],[18],[19]] 2 (by kernel_rfl) rfl<|vm_ rfl<|Vq.v (fun G T hG=>f1<|cx Tryz.call190 rfl (Ok.lend (fun L=>o14 h3 L) ⟨.inr ⟨rfl,rfl⟩,trivial⟩ SvF.raw)<|f1<|Vq.end rfl)<|vm_ rfl<|Vq.v (fun G T hG=>ov (OpV.nilChk rfl ⟨_,rfl⟩) rfl<|Vq.end rfl)<|vo (fun _=>OpV.fdM sZ rfl) rfl<|Vq.v (fun G T hG=>lP .box (.fld .id ir) kt144k rfl rfl<|Vq.end rfl)<|vn<|p1 6 rfl rfl<|cx Tryz.call130 rfl (o15 h5 _)<|pn<|p1 7 rfl rfl<|oC (by kernel_rfl) Tryz.underlying71 rfl<|pn<|p1 8 rfl rfl<|b_ rfl<|pn<|pd rfl<|tn<|it hF rfl (fun hF=>?_) (fun hF=>?_)
  ·refine sr<|a_ rfl<|nt<|rt<|tr<|f1 ?_
   cases osi hF
   exact Under.retsX w0_0 Tryz.results132 (.tm rfl .nil) rfl rfl
  ·refine ct<|sr<|m_ rfl<|ov (OpV.nilChk rfl ⟨_,rfl⟩) rfl<|oM io rfl<|sP (x':=(⟨w0_0,a0.at_,9,a0.left,a0.header,a0.sum,a0.err,a0.place⟩:aj)) .box (.fld .id bQ) sz3k rfl rfl rdI rfl<|ns<|a_ rfl<|nt<|rt<|f1 ?_
   cases osi hF
   exact Under.retsX w0_0 Tryz.results132 (.tm rfl .nil) rfl rfl
 ·refine bs hF fun y8 h9 hF=>bs hF fun qA xA hF=>ct<|sr<|m_ rfl<|m_ rfl<|ov (OpV.nilChk rfl ⟨_,rfl⟩) rfl<|oM sZ rfl<|lP .box (.fld .id ir) kt144k rfl rfl<|m_ rfl<|f1<|ca Tryz.call129 rfl rfl (Ok.lend (fun L=>o16 h9 L) ⟨.inl rfl,⟨.inr ⟨rfl,rfl⟩,trivial⟩⟩ (SvF.val (Free.st2 Free.int Free.int))) rfl<|ov (OpV.nilChk rfl ⟨_,rfl⟩) rfl<|oM sZ rfl<|f1<|sP (x':=(⟨w0_0,a0.at_,a0.stage,a0.left,a0.header,y8,a0.err,a0.place⟩:aj)) .box (.fld .id ir) sz144k rfl rfl rdV rfl<|nt<|sq<|Under.after (fun X=>∀(bA:Int) (vA:ab),qA=(.inr (bA,vA))→Under F0 150 [(0,pb c0)] ((.own K12 w0_0 5 a0.field)::(.box bj c0 146 (⟨w0_0,a0.at_,a0.stage,bA,vA,y8,a0.err,a0.place⟩:aj))::L) X) ?_ ?_
  ·intro bA vA kA
   replace kA:=kA.symm
   subst kA
   refine bs hF fun oA zA hF=>sr<|m_ rfl<|ov (OpV.nilChk rfl ⟨_,rfl⟩) rfl<|oM io rfl<|f1<|lP .box (.fld .id bQ) kt3k rfl rfl<|rI (t:=123) rfl<|b_ rfl<|ov (OpV.nilChk rfl ⟨_,rfl⟩) rfl<|oM io rfl<|sP (x':=(⟨w0_0,a0.at_,IntKind.wrap .i64 (a0.stage+1),bA,vA,y8,a0.err,a0.place⟩:aj)) .box (.fld .id bQ) sz3k rfl rfl rdI rfl<|nt<|sq<|afr (r:=oA) (fun oA=>[]) (fun oA=>((.own K12 w0_0 5 a0.field)::(.box bj c0 146 (⟨w0_0,a0.at_,oA,bA,vA,y8,a0.err,a0.place⟩:aj))::L)) ?_ fun K dA=>?_
   ·refine sr<|a_ rfl<|nt<|rc<|f1<|f1 ?_
    cases osi hF
    exact Under.retsX w0_0 Tryz.results132 (.tm rfl .nil) rfl rfl
   ·refine sr<|m_ rfl<|ov (OpV.nilChk rfl ⟨_,rfl⟩) rfl<|oM io rfl<|lP .box (.fld .id bQ) kt3k rfl rfl<|rI (t:=130) rfl<|b_ rfl<|m_ rfl<|nK 138 (((IntKind.wrap .i64 (a0.stage+1))==6)||((IntKind.wrap .i64 (a0.stage+1))==8)) ?_ (fun k=>?_)
    ·refine nt<|it zA rfl (fun zA=>?_) (fun zA=>?_)
     ·refine sr<|m_ rfl<|ov (OpV.nilChk rfl ⟨_,rfl⟩) rfl<|oM io rfl<|sP (x':=(⟨w0_0,a0.at_,6,bA,vA,y8,a0.err,a0.place⟩:aj)) .box (.fld .id bQ) sz3k rfl rfl rdI rfl<|ns<|m_ rfl<|ov (OpV.nilChk rfl ⟨_,rfl⟩) rfl<|oM oh rfl<|lP .box (.fld .id eV) kt3k rfl rfl<|rI (t:=145) rfl<|b_ rfl<|nt<|it zA rfl (fun zA=>?_) (fun zA=>?_)
      ·exact rg<|m_ rfl<|ov (OpV.nilChk rfl ⟨_,rfl⟩) rfl<|oM io rfl<|sP (x':=(⟨w0_0,a0.at_,8,bA,vA,y8,a0.err,a0.place⟩:aj)) .box (.fld .id bQ) sz3k rfl rfl rdI rfl<|nt<|f1<|wr (dA _ (osi zA).symm) rfl
      ·exact ct<|f1<|wr (dA _ (osi zA).symm) rfl
     ·exact ct<|f1<|wr (dA _ (osi zA).symm) rfl
    ·refine by_ (t:=132) rfl (fun yA=>?_) (fun yA=>?_)
     ·exact sk_ yA rfl<|sk_ yA rfl<|sk_ yA rfl<|sk_ yA rfl<|sk_ yA rfl<|pT yA rfl<|rf 5 (or_t (e:=(IntKind.wrap .i64 (a0.stage+1))==8) yA) rfl k
     ·exact gc_ yA rfl<|m_ rfl<|gc_ yA rfl<|ov (OpV.nilChk rfl ⟨_,rfl⟩) rfl<|gc_ yA rfl<|oM io rfl<|gc_ yA rfl<|lP .box (.fld .id bQ) kt3k rfl rfl<|rI (t:=136) rfl<|gc_ yA rfl<|b_ rfl<|pF yA rfl<|rf 6 (or_f yA) rfl k
  ·intro K hA
   refine sr<|m_ rfl<|ov (OpV.nilChk rfl ⟨_,rfl⟩) rfl<|oM io rfl<|lP .box (.fld .id bQ) kt3k rfl rfl<|rI (t:=39) rfl<|nt<|bk<|sr<|b_ rfl<|a_ rfl<|nt<|it xA rfl (fun xA=>?_) (fun xA=>?_)
   ·refine sr<|m_ rfl<|f1<|Under.lendOv (t:=42) (fun L=>OpV.b2s Tryz.underlying22 Tryz.underlying5 Tryz.underlying9 rfl rdV) rfl (SvF.val (fun _ _ _ _ h=>h)) rfl<|ov (OpV.eqS Tryz.underlying9 rfl rdV rfl s9 (.inr rfl)) rfl<|nt<|it xA rfl (fun xA=>?_) (fun xA=>?_)
    ·refine sr<|a_ rfl<|nt<|rc<|Under.bR<|tr ?_
     cases osi xA
     refine f1<|f1 ?_
     cases osi hF
     exact Under.retsX w0_0 Tryz.results132 (.tm rfl .nil) rfl rfl
    ·exact cs<|bN<|tn<|wr (hA _ _ (osi xA).symm) rfl
   ·refine sr<|b_ rfl<|a_ rfl<|nt<|it xA rfl (fun xA=>?_) (fun xA=>?_)
    ·refine bs xA fun xB eA xA=>sr<|m_ rfl<|f1<|ov (OpV.ixO eA Tryz.underlying22 sz5k rfl rfl) rfl<|lP (.own eA) (.ix .id eA) kt5k rfl rfl<|rI (t:=49) rfl<|b_ rfl<|nt<|it xA rfl (fun xA=>?_) (fun xA=>?_)
     ·refine sr<|a_ rfl<|nt<|rc<|Under.bR<|tr ?_
      cases osi xA
      refine f1<|f1 ?_
      cases osi hF
      exact Under.retsX w0_0 Tryz.results132 (.tm rfl .nil) rfl rfl
     ·exact cs<|bN<|tn<|wr (hA _ _ (osi xA).symm) rfl
    ·refine sr<|b_ rfl<|a_ rfl<|nt<|it xA rfl (fun xA=>?_) (fun xA=>?_)
     ·refine bs xA fun rA cA xA=>sr<|m_ rfl<|m_ rfl<|f1<|ov (OpV.ixO cA Tryz.underlying22 sz5k rfl rfl) rfl<|lP (.own cA) (.ix .id cA) kt5k rfl rfl<|rI (t:=56) rfl<|oC (by kernel_rfl) Tryz.underlying3 rfl<|ov (OpV.nilChk rfl ⟨_,rfl⟩) rfl<|oM og rfl<|oM ta rfl<|f1<|sP (x':=(⟨w0_0,a0.at_,a0.stage,a0.left,({a0.header with Left:=IntKind.wrap .i64 rA}:ab),y8,a0.err,a0.place⟩:aj)) .box (.fld (.fld .id eU) ip) sz3k rfl rfl rdI rfl<|ns<|m_ rfl<|ov (OpV.nilChk rfl ⟨_,rfl⟩) rfl<|oM og rfl<|oM ta rfl<|lP .box (.fld (.fld .id eU) ip) kt3k rfl rfl<|rI (t:=65) rfl<|b_ rfl<|nt<|it xA rfl (fun xA=>?_) (fun xA=>?_)
      ·refine sr<|a_ rfl<|nt<|rc<|Under.bR<|tr ?_
       cases osi xA
       refine f1 ?_
       cases osi hF
       exact Under.retsX w0_0 Tryz.results132 (.tm rfl .nil) rfl rfl
      ·exact cs<|bN<|tn<|f1<|wr (hA _ _ (osi xA).symm) rfl
     ·refine sr<|b_ rfl<|a_ rfl<|nt<|it xA rfl (fun xA=>?_) (fun xA=>?_)
      ·refine bs xA fun wA gA xA=>sr<|m_ rfl<|m_ rfl<|f1<|cx Tryz.call190 rfl (Ok.lend (fun L=>o14 gA L) ⟨.inr ⟨rfl,rfl⟩,trivial⟩ SvF.raw)<|oC (by kernel_rfl) Tryz.underlying3 rfl<|ov (OpV.nilChk rfl ⟨_,rfl⟩) rfl<|oM oh rfl<|f1<|sP (x':=(⟨w0_0,a0.at_,a0.stage,IntKind.wrap .i64 wA,a0.header,y8,a0.err,a0.place⟩:aj)) .box (.fld .id eV) sz3k rfl rfl rdI rfl<|ns<|m_ rfl<|ov (OpV.nilChk rfl ⟨_,rfl⟩) rfl<|oM oh rfl<|lP .box (.fld .id eV) kt3k rfl rfl<|rI (t:=78) rfl<|b_ rfl<|nt<|it xA rfl (fun xA=>?_) (fun xA=>?_)
       ·refine sr<|a_ rfl<|nt<|rc<|Under.bR<|tr ?_
        cases osi xA
        refine f1 ?_
        cases osi hF
        exact Under.retsX w0_0 Tryz.results132 (.tm rfl .nil) rfl rfl
       ·exact cs<|bN<|tn<|f1<|wr (hA _ _ (osi xA).symm) rfl
      ·refine sr<|b_ rfl<|a_ rfl<|nt<|it xA rfl (fun xA=>?_) (fun xA=>?_)
       ·refine bs xA fun mA nA xA=>sr<|m_ rfl<|f1<|cx Tryz.call190 rfl (Ok.lend (fun L=>o14 nA L) ⟨.inr ⟨rfl,rfl⟩,trivial⟩ SvF.raw)<|a_ rfl<|ns<|m_ rfl<|m_ rfl<|oC (by kernel_rfl) Tryz.underlying2 rfl<|ov (OpV.nilChk rfl ⟨_,rfl⟩) rfl<|oM og rfl<|oM AD rfl<|f1<|sP (x':=(⟨w0_0,a0.at_,a0.stage,a0.left,({a0.header with Round:=IntKind.wrap .i64 mA}:ab),y8,a0.err,a0.place⟩:aj)) .box (.fld (.fld .id eU) qm) sz2k rfl rfl rdI rfl<|ns<|mb rfl<|nt<|it xA rfl (fun xA=>?_) (fun xA=>?_)
        ·refine sr<|a_ rfl<|nt<|rc<|Under.bR<|tr ?_
         cases osi xA
         refine f1 ?_
         cases osi hF
         exact Under.retsX w0_0 Tryz.results132 (.tm rfl .nil) rfl rfl
        ·exact cs<|bN<|tn<|f1<|wr (hA _ _ (osi xA).symm) rfl
       ·refine sr<|b_ rfl<|a_ rfl<|nt<|it xA rfl (fun xA=>?_) (fun xA=>?_)
        ·refine bs xA fun pA tA xA=>sr<|m_ rfl<|f1<|cx Tryz.call190 rfl (Ok.lend (fun L=>o14 tA L) ⟨.inr ⟨rfl,rfl⟩,trivial⟩ SvF.raw)<|a_ rfl<|ns<|m_ rfl<|m_ rfl<|oC (by kernel_rfl) Tryz.underlying2 rfl<|ov (OpV.nilChk rfl ⟨_,rfl⟩) rfl<|oM og rfl<|oM AE rfl<|f1<|sP (x':=(⟨w0_0,a0.at_,a0.stage,a0.left,({a0.header with Epoch:=IntKind.wrap .i64 pA}:ab),y8,a0.err,a0.place⟩:aj)) .box (.fld (.fld .id eU) qn) sz2k rfl rfl rdI rfl<|ns<|mb rfl<|nt<|it xA rfl (fun xA=>?_) (fun xA=>?_)
         ·refine sr<|a_ rfl<|nt<|rc<|Under.bR<|tr ?_
          cases osi xA
          refine f1 ?_
          cases osi hF
          exact Under.retsX w0_0 Tryz.results132 (.tm rfl .nil) rfl rfl
         ·exact cs<|bN<|tn<|f1<|wr (hA _ _ (osi xA).symm) rfl
        ·refine sr<|b_ rfl<|a_ rfl<|nt<|it xA rfl (fun xA=>?_) (fun xA=>?_)
         ·refine bs xA fun yB uA xA=>sr<|m_ rfl<|f1<|cx Tryz.call190 rfl (Ok.lend (fun L=>o14 uA L) ⟨.inr ⟨rfl,rfl⟩,trivial⟩ SvF.raw)<|b_ rfl<|nt<|it xA rfl (fun xA=>?_) (fun xA=>?_)
          ·refine sr<|a_ rfl<|nt<|rc<|Under.bR<|tr ?_
           cases osi xA
           refine f1<|f1 ?_
           cases osi hF
           exact Under.retsX w0_0 Tryz.results132 (.tm rfl .nil) rfl rfl
          ·exact cs<|bN<|tn<|wr (hA _ _ (osi xA).symm) rfl
         ·refine sr<|b_ rfl<|a_ rfl<|nt<|it xA rfl (fun xA=>?_) (fun xA=>?_)
          ·exact rg<|m_ rfl<|ov (OpV.nilChk rfl ⟨_,rfl⟩) rfl<|oM oh rfl<|lP .box (.fld .id eV) kt3k rfl rfl<|rI (t:=114) rfl<|b_ rfl<|ov (OpV.nilChk rfl ⟨_,rfl⟩) rfl<|oM oh rfl<|sP (x':=(⟨w0_0,a0.at_,a0.stage,IntKind.wrap .i64 (a0.left - 1),a0.header,y8,a0.err,a0.place⟩:aj)) .box (.fld .id eV) sz3k rfl rfl rdI rfl<|nl<|bN<|tn<|f1<|wr (hA _ _ (osi xA).symm) rfl
          ·refine sr<|b_ rfl<|a_ rfl<|nt<|it xA rfl (fun xA=>?_) (fun xA=>?_)
           ·refine sr<|a_ rfl<|nt<|rc<|Under.bR<|tr ?_
            cases osi xA
            refine f1 ?_
            cases osi hF
            exact Under.retsX w0_0 Tryz.results132 (.tm rfl .nil) rfl rfl
           ·exact cs<|bN<|tn<|f1<|wr (hA _ _ (osi xA).symm) rfl
noncomputable def di (a0:aD) (a1:List Int):Option ((List (List Int))×Int×aD):=
 (((Loop.run (S:=((List Int)×(List (List Int))×(List Int)×Int×Int×Int×ab×ak×Int×Int)) (R:=((List (List Int))×(List Int)×Int×Int×Int×ab×ak×Int×Int)) (fun(zA,vA,yA,oA,hA,kA,dA,eA,bA,cA)=>
   bif bA==0 then
    (cm (⟨yA,oA,hA,kA,dA,eA,bA,cA⟩:aD)).bind fun qA=>
    bif decide ((IntKind.wrap .i64 (qA - (yA.length:Int)))>(zA.length:Int)) then
     (app yA zA).bind fun mA=>
     some (.done (vA,mA,IntKind.wrap .i64 (oA+(zA.length:Int)),hA,kA,dA,eA,bA,cA))
    else
     (sub zA 0 (IntKind.wrap .i64 (qA - (yA.length:Int)))).bind fun nA=>
     (app yA nA).bind fun rA=>
     (sub zA (IntKind.wrap .i64 (qA - (yA.length:Int))) (zA.length:Int)).bind fun pA=>
     ((bif hA==7 then
      (cj rA).bind fun tA=>
      (app vA [tA]).bind fun uA=>
      some uA
     else
      some vA
      :Option (List (List Int)))).bind fun wA=>
     (bV (⟨rA,IntKind.wrap .i64 (oA+(IntKind.wrap .i64 (qA - (yA.length:Int)))),hA,kA,dA,eA,bA,cA⟩:aD)).bind fun xA=>
     bif xA.1 != 0 then
      some (.done (wA,xA.2.field,xA.2.at_,xA.2.stage,xA.2.left,xA.2.header,xA.2.sum,xA.1,IntKind.wrap .i64 (xA.2.at_ - (xA.2.field.length:Int))))
     else
      bif decide ((0:Int)≤0∧(0:Int)≤0∧(0:Int)≤(xA.2.field.length:Int)) then
      some (.next (pA,wA,List.take (Int.toNat 0) xA.2.field,xA.2.at_,xA.2.stage,xA.2.left,xA.2.header,xA.2.sum,xA.1,xA.2.place))
      else none
   else
    some (.done (vA,yA,oA,hA,kA,dA,eA,bA,cA))) (a1,[],a0.field,a0.at_,a0.stage,a0.left,a0.header,a0.sum,a0.err,a0.place)).bind fun xB=>match xB with
  |(yB,zB,hB,bB,vB,oB,kB,dB,eB)=>
   some (yB,zB,hB,bB,vB,oB,kB,dB,eB)
  :Option ((List (List Int))×(List Int)×Int×Int×Int×ab×ak×Int×Int))).bind fun cB=>match cB with
  |(qB,rB,wB,gB,mB,nB,pB,gA,tB)=>
   some (qB,gA,(⟨rB,wB,gB,mB,nB,pB,gA,tB⟩:aD))
theorem o18 {a0:aD} {a1:List Int} {c0:Nat} {w0_0:Value} {r0:((List (List Int))×Int×aD)} (hF:di a0 a1=some r0) (L:List Res):OkX Tryz.prog 70 [SV.raw (.pointer (some ⟨c0,0,none⟩)),SV.val K9 a1] ((.own K12 w0_0 5 a0.field)::(.box bj c0 146 (⟨w0_0,a0.at_,a0.stage,a0.left,a0.header,a0.sum,a0.err,a0.place⟩:aj))::L) (fun y:Value=>SV.tup [SV.val K1 r0.1,SV.raw (.int .i64 r0.2.1)]) (fun y:Value=>(.own K12 y 5 r0.2.2.field)::(.box bj c0 146 (⟨y,r0.2.2.at_,r0.2.2.stage,r0.2.2.left,r0.2.2.header,r0.2.2.sum,r0.2.2.err,r0.2.2.place⟩:aj))::L):=by
 unfold di at hF
 refine OkX.intro 116 [(0,pb c0),(1,.val K9 a1)] Tryz.func70 rfl rfl rfl rfl fun F0=>?_
 refine bs hF fun uB gA hF=>sr<|a_ rfl<|a_ rfl<|nt<|Under.scope<|sq<|sr<|m_ rfl<|ov (OpV.ptrNil Tryz.underlying138 (.inl rfl) rfl) rfl<|nt<|Under.condF rfl<|ct<|sr<|a_ rfl<|nt<|sq<|Under.label<|tn<|sq<|Under.after (fun X=>∀(xB:List (List Int)) (yB:List Int) (zB:Int) (hB:Int) (bB:Int) (vB:ab) (oB:ak) (kB:Int) (dB:Int) (pA:Value),uB=(xB,yB,zB,hB,bB,vB,oB,kB,dB)→Under F0 116 [(0,pb c0),(6,.val K1 xB)] ((.own K12 pA 5 yB)::(.box bj c0 146 (⟨pA,zB,hB,bB,vB,oB,kB,dB⟩:aj))::L) X) ?_ ?_
 ·intro xB yB zB hB bB vB oB kB dB pA eB
  replace eB:=eB.symm
  subst eB
  refine sq<|ph rfl<|gV [0,1,2,3,4,5] [[6],[0],[112],[113],[114],[111]] 2 (by kernel_rfl) rfl<|vm_ rfl<|vm_ rfl<|Vq.v (fun G T hG=>ov (OpV.nilChk rfl ⟨_,rfl⟩) rfl<|Vq.end rfl)<|vo (fun _=>OpV.fdM na rfl) rfl<|Vq.v (fun G T hG=>f1<|lP .box (.fld .id dy) kt35k rfl rfl<|rI (t:=115) rfl<|f1<|Vq.end rfl)<|Vq.v (fun G T hG=>a_ rfl<|Vq.end rfl)<|vn<|p1 6 rfl rfl<|a_ rfl<|pn<|pd rfl<|tn<|rc<|Under.scR<|f1<|f1 ?_
  cases osi hF
  exact Under.retsX pA Tryz.results70 (.tm rfl (.tm rfl .nil)) rfl rfl
 ·intro K cB
  refine bs gA fun xD xC gA=>bk<|Under.ownNil (K:=kSl K12) (e:=22)<|lp xC (C:=(Value×Value)) ((.slice none 0 0),w0_0) (fun zA vA=>[(0,pb c0),(1,.val K9 zA.1),(6,.raw vA.1)]) (fun zA vA=>(.own K9 vA.1 22 zA.2.1)::(.own K12 vA.2 5 zA.2.2.1)::(.box bj c0 146 (⟨vA.2,zA.2.2.2.1,zA.2.2.2.2.1,zA.2.2.2.2.2.1,zA.2.2.2.2.2.2.1,zA.2.2.2.2.2.2.2.1,zA.2.2.2.2.2.2.2.2.1,zA.2.2.2.2.2.2.2.2.2⟩:aj))::L) rfl rfl fun zA vA yD yA qB=>?_
  obtain⟨mB,yC,mA,kA,dA,eA,cA,qA,rA,wA⟩:=zA
  obtain⟨zC,tA⟩:=vA
  dsimp only at yA⊢
  refine sq<|sr<|m_ rfl<|ov (OpV.nilChk rfl ⟨_,rfl⟩) rfl<|oM na rfl<|f2<|lP .box (.fld .id dy) kt35k rfl rfl<|rI (t:=13) rfl<|b_ rfl<|nt<|it yA rfl (fun yA=>?_) (fun yA=>?_)
  ·refine bs yA fun rB hC yA=>ct<|bk<|sq<|ph rfl<|gV [0,1,2,3,4,5,6] [[0],[15],[0],[17],[18],[19],[20]] 3 (by kernel_rfl) rfl<|vm_ rfl<|Vq.v (fun G T hG=>f2<|cx Tryz.call131 rfl (o12 hC _)<|f2<|f2<|Vq.end rfl)<|vm_ rfl<|Vq.v (fun G T hG=>ov (OpV.nilChk rfl ⟨_,rfl⟩) rfl<|Vq.end rfl)<|vo (fun _=>OpV.fdM ji rfl) rfl<|Vq.v (fun G T hG=>lP .box (.fld .id ck) kt22k rfl rfl<|Under.rawR (t:=20) rfl<|Vq.end rfl)<|Vq.v (fun G T hG=>f2<|ov (OpV.lenO Tryz.underlying22 rfl) rfl<|f2<|f2<|Vq.end rfl)<|vn<|p1 7 rfl rfl<|b_ rfl<|pn<|p1 8 rfl rfl<|a_ rfl<|pn<|pd rfl<|tn<|sq<|sr<|m_ rfl<|m_ rfl<|oN Tryz.underlying22 rfl<|b_ rfl<|nt<|it yA rfl (fun yA=>?_) (fun yA=>?_)
   ·refine bs yA fun zD bC yA=>f1<|fzO (t:=6) rfl<|sr<|m_ rfl<|m_ rfl<|ov (OpV.nilChk rfl ⟨_,rfl⟩) rfl<|oM ji rfl<|lP .box (.fld .id ck) kt22k rfl rfl<|Under.rawR (t:=31) rfl<|m_ rfl<|f1<|ap bC Tryz.underlying22 AT5 rfl rfl rdV rfl fun nB=>ov (OpV.nilChk rfl ⟨_,rfl⟩) rfl<|oM ji rfl<|Under.ownCell fun vC=>f1<|sP (x':=(⟨nB,kA,dA,eA,cA,qA,rA,wA⟩:aj)) .box (.fld .id ck) sz22k rfl rfl (fT vC) rfl<|ns<|m_ rfl<|ov (OpV.nilChk rfl ⟨_,rfl⟩) rfl<|oM nb rfl<|lP .box (.fld .id dz) kt3k rfl rfl<|rI (t:=39) rfl<|m_ rfl<|oN Tryz.underlying22 rfl<|b_ rfl<|ov (OpV.nilChk rfl ⟨_,rfl⟩) rfl<|oM nb rfl<|sP (x':=(⟨nB,IntKind.wrap .i64 (kA+(mB.length:Int)),dA,eA,cA,qA,rA,wA⟩:aj)) .box (.fld .id dz) sz3k rfl rfl rdI rfl<|nt<|xt<|te<|bm rfl ?_
    cases ai yA qB
    exact te<|bh<|tn<|f1<|wr (cB _ _ _ _ _ _ _ _ _ _ (osi gA).symm) rfl
   ·refine bs yA fun oC kC yA=>bs yA fun pB dC yA=>ct<|sq<|ph rfl<|Under.grpT (L:=L) [0,1,2,3,4,5,6,7,8] [[0],[0],[46],[47],[48],[1],[7],[50,51],[49,52]] [⟨sk0 (pb c0),[],[],[]⟩,⟨sk0 (pb c0),[],[],[]⟩,⟨sk0 (pb c0),[],[],[]⟩,⟨sk0 (.raw (.pointer (some ⟨c0,0+0,none⟩))),[],[],[]⟩,⟨sk0 (.raw tA),[],[],[]⟩,⟨sk0 (.val K9 mB),[],[],[]⟩,⟨sk0 (.raw (.int .i64 (IntKind.wrap .i64 (rB - (mA.length:Int))))),[],[],[]⟩,⟨sk0 (.val K9 oC),[],[],[]⟩,⟨sk1 8 (fun u8=> .raw u8),[0],[(1,tk1 8 (fun u8=> .own K12 u8 5 pB))],[]⟩] [(0,.own K12 tA 5 mA)] (fun T:List Res=>(.box bj c0 146 (⟨tA,kA,dA,eA,cA,qA,rA,wA⟩:aj))::(.own K9 zC 22 yC)::T) lf2 rfl (by kernel_rfl) rfl rfl (fun F hF0 bA=>?_)
    refine Tq.v (fun G T hG=>?_) ?_
    ·exact m_ rfl<|Tq.end undef rfl rfl
    refine Tq.v (fun G T hG=>?_) ?_
    ·exact m_ rfl<|Tq.end undef rfl rfl
    refine Tq.v (fun G T hG=>?_) ?_
    ·exact ov (OpV.nilChk rfl ⟨_,rfl⟩) rfl<|Tq.end undef rfl rfl
    refine Tq.v (fun G T hG=>?_) ?_
    ·exact oM ji rfl<|Tq.end undef rfl rfl
    refine Tq.v (fun G T hG=>?_) ?_
    ·exact lP .box (.fld .id ck) kt22k rfl rfl<|Under.rawR (t:=49) rfl<|Tq.end undef rfl rfl
    refine Tq.v (fun G T hG=>?_) ?_
    ·exact m_ rfl<|Tq.end undef rfl rfl
    refine Tq.v (fun G T hG=>?_) ?_
    ·exact m_ rfl<|Tq.end undef rfl rfl
    refine Tq.v (fun G T hG=>?_) ?_
    ·exact ov (OpV.slH kC Tryz.underlying22 sz5 rfl rdV rfl) rfl<|Tq.end undef rfl rfl
    refine Tq.st (.raw (bA 8)) [.own K12 tA 5 mA] rfl rfl (fun G T hG=>?_) ?_
    ·exact ap dC Tryz.underlying22 AT5 rfl rfl rdV rfl fun eC=>Tq.end eC rfl rfl
    refine bs yA fun cC qC yA=>bs yA fun rC hA yA=>Tq.nil<|Under.le hF0<|p1 9 rfl rfl<|ov (OpV.nilChk rfl ⟨_,rfl⟩) rfl<|pn<|p1 10 rfl rfl<|oM ji rfl<|pn<|p1 11 rfl rfl<|f2<|Under.ownCell fun wC=>f1<|sP (x':=(⟨(bA 8),kA,dA,eA,cA,qA,rA,wA⟩:aj)) .box (.fld .id ck) sz22k rfl rfl (fT wC) rfl<|pn<|pd rfl<|tn<|sr<|m_ rfl<|m_ rfl<|ov (OpV.slL qC Tryz.underlying22 sz5 rfl rdV rfl) rfl<|a_ rfl<|ns<|m_ rfl<|ov (OpV.nilChk rfl ⟨_,rfl⟩) rfl<|oM nb rfl<|lP .box (.fld .id dz) kt3k rfl rfl<|rI (t:=62) rfl<|mb rfl<|ov (OpV.nilChk rfl ⟨_,rfl⟩) rfl<|oM nb rfl<|sP (x':=(⟨(bA 8),IntKind.wrap .i64 (kA+(IntKind.wrap .i64 (rB - (mA.length:Int)))),dA,eA,cA,qA,rA,wA⟩:aj)) .box (.fld .id dz) sz3k rfl rfl rdI rfl<|nt<|sq<|Under.after (fun X=>∀(wB:List (List Int)) (uA:Value),rC=wB→Under F0 116 [(0,pb c0),(1,.val K9 cC),(6,.raw uA)] ((.own K9 uA 22 wB)::(.own K12 (bA 8) 5 pB)::(.box bj c0 146 (⟨(bA 8),IntKind.wrap .i64 (kA+(IntKind.wrap .i64 (rB - (mA.length:Int)))),dA,eA,cA,qA,rA,wA⟩:aj))::L) X) ?_ ?_
    ·intro wB uA gB
     replace gB:=gB.symm
     subst gB
     refine bs yA fun xA gC yA=>sr<|m_ rfl<|m_ rfl<|f2<|f2<|Under.callX Tryz.call132 rfl rfl (o17 gC _) rfl ?_
     rintro oA
     refine ov (OpV.nilChk rfl ⟨_,rfl⟩) rfl<|oM na rfl<|f1<|sP (x':=(⟨oA,xA.2.at_,xA.2.stage,xA.2.left,xA.2.header,xA.2.sum,xA.1,xA.2.place⟩:aj)) .box (.fld .id dy) sz35k rfl rfl rdI rfl<|nt<|sq<|sr<|m_ rfl<|ov (OpV.nilChk rfl ⟨_,rfl⟩) rfl<|oM na rfl<|lP .box (.fld .id dy) kt35k rfl rfl<|rI (t:=88) rfl<|b_ rfl<|nt<|it yA rfl (fun yA=>?_) (fun yA=>?_)
     ·refine f2<|fzO (t:=6) rfl<|sq<|ph rfl<|Under.grpT (L:=L) [0,1,2,3,4,5,6,7,8,9,10] [[0],[0],[91],[92],[93],[0],[95],[96],[97],[98],[94,99]] [⟨sk0 (pb c0),[],[],[]⟩,⟨sk0 (pb c0),[],[],[]⟩,⟨sk0 (pb c0),[],[],[]⟩,⟨sk0 (.raw (.pointer (some ⟨c0,0+1,none⟩))),[],[],[]⟩,⟨sk0 (.raw (.int .i64 xA.2.at_)),[],[],[]⟩,⟨sk0 (pb c0),[],[],[]⟩,⟨sk0 (pb c0),[],[],[]⟩,⟨sk0 (.raw (.pointer (some ⟨c0,0+0,none⟩))),[],[],[]⟩,⟨sk0 (.raw oA),[],[],[]⟩,⟨sk0 (.raw (.int .i64 (xA.2.field.length:Int))),[],[],[]⟩,⟨sk0 (.raw (.int .i64 (IntKind.wrap .i64 (xA.2.at_ - (xA.2.field.length:Int))))),[],[],[]⟩] [] (fun T:List Res=>(.box bj c0 146 (⟨oA,xA.2.at_,xA.2.stage,xA.2.left,xA.2.header,xA.2.sum,xA.1,xA.2.place⟩:aj))::(.own K12 oA 5 xA.2.field)::T) lf2 rfl (by kernel_rfl) rfl rfl (fun F hF0 uC=>?_)
      refine Tq.v (fun G T hG=>?_) ?_
      ·exact m_ rfl<|Tq.end undef rfl rfl
      refine Tq.v (fun G T hG=>?_) ?_
      ·exact m_ rfl<|Tq.end undef rfl rfl
      refine Tq.v (fun G T hG=>?_) ?_
      ·exact ov (OpV.nilChk rfl ⟨_,rfl⟩) rfl<|Tq.end undef rfl rfl
      refine Tq.v (fun G T hG=>?_) ?_
      ·exact oM nb rfl<|Tq.end undef rfl rfl
      refine Tq.v (fun G T hG=>?_) ?_
      ·exact lP .box (.fld .id dz) kt3k rfl rfl<|rI (t:=94) rfl<|Tq.end undef rfl rfl
      refine Tq.v (fun G T hG=>?_) ?_
      ·exact m_ rfl<|Tq.end undef rfl rfl
      refine Tq.v (fun G T hG=>?_) ?_
      ·exact ov (OpV.nilChk rfl ⟨_,rfl⟩) rfl<|Tq.end undef rfl rfl
      refine Tq.v (fun G T hG=>?_) ?_
      ·exact oM ji rfl<|Tq.end undef rfl rfl
      refine Tq.v (fun G T hG=>?_) ?_
      ·exact lP .box (.fld .id ck) kt22k rfl rfl<|Under.rawR (t:=98) rfl<|Tq.end undef rfl rfl
      refine Tq.v (fun G T hG=>?_) ?_
      ·exact f1<|ov (OpV.lenO Tryz.underlying22 rfl) rfl<|f1<|Tq.end undef rfl rfl
      refine Tq.v (fun G T hG=>?_) ?_
      ·exact b_ rfl<|Tq.end undef rfl rfl
      refine Tq.nil<|Under.le hF0<|p1 11 rfl rfl<|ov (OpV.nilChk rfl ⟨_,rfl⟩) rfl<|pn<|p1 12 rfl rfl<|oM tc rfl<|pn<|p1 13 rfl rfl<|sP (x':=(⟨oA,xA.2.at_,xA.2.stage,xA.2.left,xA.2.header,xA.2.sum,xA.1,IntKind.wrap .i64 (xA.2.at_ - (xA.2.field.length:Int))⟩:aj)) .box (.fld .id iu) sz3k rfl rfl rdI rfl<|pn<|pd rfl<|tn<|xt<|te<|bm rfl ?_
      cases ai yA qB
      exact te<|bh<|tn<|f1<|wr (cB _ _ _ _ _ _ _ _ _ _ (osi gA).symm) rfl
     ·refine gs yA fun nA yA=>ct<|rg<|m_ rfl<|m_ rfl<|ov (OpV.nilChk rfl ⟨_,rfl⟩) rfl<|oM ji rfl<|lP .box (.fld .id ck) kt22k rfl rfl<|Under.rawR (t:=107) rfl ?_
      replace nA:(0:Int)≤0∧(0:Int)≤0∧(0:Int)≤(xA.2.field.length:Int):=of_decide_eq_true nA
      exact f1<|Under.slO (l:=0) (h:=0) Tryz.underlying22 sz5k rfl rfl rfl (And.left nA) (And.left (And.right nA)) (And.right (And.right nA)) rfl<|ov (OpV.nilChk rfl ⟨_,rfl⟩) rfl<|oM ji rfl<|Under.ownTrunc (h:=Int.toNat 0) (Nat.zero_le _)<|Under.ownCell fun mC=>f1<|sP (x':=(⟨(subV oA (Int.toNat 0) (Int.toNat 0) 1),xA.2.at_,xA.2.stage,xA.2.left,xA.2.header,xA.2.sum,xA.1,xA.2.place⟩:aj)) .box (.fld .id ck) sz22k rfl rfl (fT mC) rfl<|nl<|bN<|f1<|f2<|Under.next _ (uA,(subV oA (Int.toNat 0) (Int.toNat 0) 1)) yA (s3 rfl rfl rfl) rfl
    ·intro K tB
     refine sr<|m_ rfl<|ov (OpV.nilChk rfl ⟨_,rfl⟩) rfl<|oM io rfl<|lP .box (.fld .id bQ) kt3k rfl rfl<|rI (t:=70) rfl<|b_ rfl<|nt<|it hA rfl (fun hA=>?_) (fun hA=>?_)
     ·refine bs hA fun nC pC hA=>rg<|m_ rfl<|m_ rfl<|ov (OpV.nilChk rfl ⟨_,rfl⟩) rfl<|oM ji rfl<|lP .box (.fld .id ck) kt22k rfl rfl<|Under.rawR (t:=76) rfl<|f1<|Under.callX Tryz.call74 rfl rfl (OkX.lend (fun L=>o13 pC L) ⟨.inr ⟨rfl,rfl⟩,trivial⟩ (fun _=>SvF.raw) (fun _ _ _ _ h=>pj Free.int h)) rfl ?_
      rintro hD
      exact bs hA fun bD tC hA=>f1<|fzO (t:=77) rfl<|bF (ys:=[nC]) Tryz.underlying44 ET22 (BldA.cons rfl rfl rdV (BldA.nil _)) rfl rfl<|f2<|ap tC Tryz.underlying44 AT22 rfl rfl rdV rfl fun vD=>a_ rfl<|nt<|wr (tB _ _ (osi hA).symm) rfl
     ·exact ct<|f1<|f2<|wr (tB _ _ (osi hA).symm) rfl
  ·refine f1<|fzO (t:=6) rfl<|xt<|te ?_
   cases ai yA qB
   exact te<|bh<|tn<|f1<|wr (cB _ _ _ _ _ _ _ _ _ _ (osi gA).symm) rfl
noncomputable def eW (a0:aD):Option (Int×Int):=
 bif a0.err != 0 then
  some (a0.place,a0.err)
 else
  bif decide (a0.stage<9) then
   some (a0.at_,67)
  else
   some (0,0)
theorem o19 {a0:aD} {c0:Nat} {w0_0:Value} {r0:(Int×Int)} (hF:eW a0=some r0) (L:List Res):Ok Tryz.prog 71 [SV.raw (.pointer (some ⟨c0,0,none⟩))] ((.own K12 w0_0 5 a0.field)::(.box bj c0 146 (⟨w0_0,a0.at_,a0.stage,a0.left,a0.header,a0.sum,a0.err,a0.place⟩:aj))::L) (SV.tup [SV.raw (.int .i64 r0.1),SV.raw (.int .i64 r0.2)]) ((.own K12 w0_0 5 a0.field)::(.box bj c0 146 (⟨w0_0,a0.at_,a0.stage,a0.left,a0.header,a0.sum,a0.err,a0.place⟩:aj))::L):=by
 unfold eW at hF
 refine okI 31 Tryz.func71 rfl rfl rfl fun F0=>?_
 refine sr<|a_ rfl<|a_ rfl<|nt<|sq<|bk<|sr<|m_ rfl<|ov (OpV.ptrNil Tryz.underlying138 (.inl rfl) rfl) rfl<|a_ rfl<|nt<|Under.condF rfl<|sr<|m_ rfl<|ov (OpV.nilChk rfl ⟨_,rfl⟩) rfl<|oM na rfl<|f1<|lP .box (.fld .id dy) kt35k rfl rfl<|rI (t:=11) rfl<|b_ rfl<|a_ rfl<|nt<|it hF rfl (fun hF=>?_) (fun hF=>?_)
 ·refine sq<|ph rfl<|Under.grpT (L:=L) [0,1,2,3,4,5,6,7,8] [[0],[13],[14],[15],[0],[17],[18],[19],[16]] [⟨sk0 (pb c0),[],[],[]⟩,⟨sk0 (pb c0),[],[],[]⟩,⟨sk0 (.raw (.pointer (some ⟨c0,0+10,none⟩))),[],[],[]⟩,⟨sk0 (.raw (.int .i64 a0.place)),[],[],[]⟩,⟨sk0 (pb c0),[],[],[]⟩,⟨sk0 (pb c0),[],[],[]⟩,⟨sk0 (.raw (.pointer (some ⟨c0,0+9,none⟩))),[],[],[]⟩,⟨sk0 (.raw (.int .i64 a0.err)),[],[],[]⟩,⟨sk0 (.raw (.int .i64 a0.place)),[],[],[]⟩] [] (fun T:List Res=>(.box bj c0 146 (⟨w0_0,a0.at_,a0.stage,a0.left,a0.header,a0.sum,a0.err,a0.place⟩:aj))::(.own K12 w0_0 5 a0.field)::T) lf2 rfl (by kernel_rfl) rfl rfl (fun F hF0 xA=>?_)
  refine Tq.v (fun G T hG=>?_) ?_
  ·exact m_ rfl<|Tq.end undef rfl rfl
  refine Tq.v (fun G T hG=>?_) ?_
  ·exact ov (OpV.nilChk rfl ⟨_,rfl⟩) rfl<|Tq.end undef rfl rfl
  refine Tq.v (fun G T hG=>?_) ?_
  ·exact oM tc rfl<|Tq.end undef rfl rfl
  refine Tq.v (fun G T hG=>?_) ?_
  ·exact lP .box (.fld .id iu) kt3k rfl rfl<|rI (t:=16) rfl<|Tq.end undef rfl rfl
  refine Tq.v (fun G T hG=>?_) ?_
  ·exact m_ rfl<|Tq.end undef rfl rfl
  refine Tq.v (fun G T hG=>?_) ?_
  ·exact ov (OpV.nilChk rfl ⟨_,rfl⟩) rfl<|Tq.end undef rfl rfl
  refine Tq.v (fun G T hG=>?_) ?_
  ·exact oM na rfl<|Tq.end undef rfl rfl
  refine Tq.v (fun G T hG=>?_) ?_
  ·exact lP .box (.fld .id dy) kt35k rfl rfl<|rI (t:=20) rfl<|Tq.end undef rfl rfl
  refine Tq.v (fun G T hG=>?_) ?_
  ·exact a_ rfl<|Tq.end undef rfl rfl
  refine Tq.nil<|Under.le hF0<|p1 9 rfl rfl<|a_ rfl<|pn<|pd rfl<|tn<|rc<|Under.bR<|tr<|f1 ?_
  cases osi hF
  exact rs Tryz.results71 (.tm rfl (.tm rfl .nil)) rfl rfl
 ·refine sr<|m_ rfl<|ov (OpV.nilChk rfl ⟨_,rfl⟩) rfl<|oM io rfl<|lP .box (.fld .id bQ) kt3k rfl rfl<|rI (t:=25) rfl<|b_ rfl<|a_ rfl<|nt<|it hF rfl (fun hF=>?_) (fun hF=>?_)
  ·refine sr<|m_ rfl<|ov (OpV.nilChk rfl ⟨_,rfl⟩) rfl<|oM nb rfl<|lP .box (.fld .id dz) kt3k rfl rfl<|rI (t:=30) rfl<|a_ rfl<|a_ rfl<|nt<|rc<|Under.bR<|tr<|f1 ?_
   cases osi hF
   exact rs Tryz.results71 (.tm rfl (.tm rfl .nil)) rfl rfl
  ·refine cs<|bN<|tn<|sr<|a_ rfl<|a_ rfl<|nt<|rc<|f1 ?_
   cases osi hF
   exact rs Tryz.results71 (.tm rfl (.tm rfl .nil)) rfl rfl
noncomputable def eO (a0:List Int):Option (ao×Int×Int):=
 (fK).bind fun y2=>
 (di (⟨y2.field,y2.at_,y2.stage,y2.left,y2.header,y2.sum,y2.err,y2.place⟩:aD) a0).bind fun y6=>
 bif y6.2.1==0 then
  (eW (⟨y6.2.2.field,y6.2.2.at_,y6.2.2.stage,y6.2.2.left,y6.2.2.header,y6.2.2.sum,y6.2.2.err,y6.2.2.place⟩:aD)).bind fun y9=>
  bif y9.2==0 then
   some ((⟨y6.2.2.header,y6.1⟩:ao),0,0)
  else
   some ((⟨(⟨(0:Int),(0:Int),(0:Int)⟩:ab),[]⟩:ao),y9.1,y9.2)
 else
  some ((⟨(⟨(0:Int),(0:Int),(0:Int)⟩:ab),[]⟩:ao),y6.2.2.place,y6.2.1)
theorem o20 {a0:List Int} {r0:(ao×Int×Int)} (hF:eO a0=some r0) (L:List Res):Ok Tryz.prog 20 [SV.val K9 a0] L (SV.tup [SV.val aV r0.1,SV.raw (.int .i64 r0.2.1),SV.raw (.int .i64 r0.2.2)]) L:=by
 unfold eO at hF
 refine okI 40 Tryz.func20 rfl rfl rfl fun F0=>?_
 refine bs hF fun y2 h3 hF=>sr<|al ZT46 rfl fun b1=>a_ rfl<|a_ rfl<|ns<|Under.callX Tryz.call69 rfl rfl (o11 h3 _) rfl ?_
 rintro⟨v4,b5⟩
 refine bs hF fun y6 h7 hF=>a_ rfl<|ns<|m_ rfl<|m_ rfl<|Under.callX Tryz.call70 rfl rfl (o18 h7 _) rfl ?_
 rintro v8
 refine m_ rfl<|oE rfl<|oE rfl<|a_ rfl<|a_ rfl<|nt<|sq<|sr<|mb rfl<|nt<|it hF rfl (fun hF=>?_) (fun hF=>?_)
 ·refine bs hF fun y9 xA hF=>sr<|a_ rfl<|nt<|sq<|sr<|m_ rfl<|cx Tryz.call71 rfl (o19 xA _)<|m_ rfl<|oE rfl<|oE rfl<|a_ rfl<|a_ rfl<|ns<|mb rfl<|nt<|it hF rfl (fun hF=>?_) (fun hF=>?_)
  ·refine sr<|m_ rfl<|ov (OpV.nilChk rfl ⟨_,rfl⟩) rfl<|oM og rfl<|f1<|lP .box (.fld .id eU) kt43k rfl rfl<|m_ rfl<|ov (OpV.bst BT46 (Bld.cons (x':=(⟨y6.2.2.header,[]⟩:ao)) rfl rfl rdV (by intro q hq;simp only[List.mem_cons,List.not_mem_nil,or_false] at hq;rcases hq with rfl<;>rfl) (Bld.cons (x':=(⟨y6.2.2.header,y6.1⟩:ao)) rfl rfl rdV ⟨rfl,(fun q hq=>by simp at hq)⟩ (Bld.nil _)))) rfl<|f2<|sP (x':=(⟨y6.2.2.header,y6.1⟩:ao)) .box .id sz46k rfl rfl rdV rfl<|a_ rfl<|a_ rfl<|nl<|fz (t:=2) rfl<|dr<|dr<|tn<|rt<|tr ?_
   cases osi hF
   exact rs Tryz.results20 (.ce rfl kt46 (.tm rfl (.tm rfl .nil))) rfl rfl
  ·refine f1<|dr<|dr<|ct<|sr<|ov (OpV.bst BT46 (Bld.nil _)) rfl<|m_ rfl<|m_ rfl<|sP (x':=(⟨(⟨(0:Int),(0:Int),(0:Int)⟩:ab),[]⟩:ao)) .box .id sz46k rfl rfl rdV rfl<|a_ rfl<|a_ rfl<|nl<|fz (t:=2) rfl<|tn<|rt ?_
   cases osi hF
   exact rs Tryz.results20 (.ce rfl kt46 (.tm rfl (.tm rfl .nil))) rfl rfl
 ·refine ct<|sq<|ph rfl<|Under.grpT (L:=L) [0,1,2,3,4,5,6,7] [[],[5],[35],[36],[37],[7],[2,34],[38]] [⟨sk0 (.val aV (⟨(⟨(0:Int),(0:Int),(0:Int)⟩:ab),[]⟩:ao)),[],[],[]⟩,⟨sk0 (pb b5),[],[],[]⟩,⟨sk0 (pb b5),[],[],[]⟩,⟨sk0 (.raw (.pointer (some ⟨b5,0+10,none⟩))),[],[],[]⟩,⟨sk0 (.raw (.int .i64 y6.2.2.place)),[],[],[]⟩,⟨sk0 (.raw (.int .i64 y6.2.1)),[],[],[]⟩,⟨sk0 (.raw undef),[],[],[]⟩,⟨sk0 (.raw (.int .i64 y6.2.2.place)),[],[],[]⟩] [] (fun T:List Res=>(.own K12 v8 5 y6.2.2.field)::(.box bj b5 146 (⟨v8,y6.2.2.at_,y6.2.2.stage,y6.2.2.left,y6.2.2.header,y6.2.2.sum,y6.2.2.err,y6.2.2.place⟩:aj))::(.box aV b1 46 (⟨(⟨(0:Int),(0:Int),(0:Int)⟩:ab),[]⟩:ao))::T) lf3 rfl (by kernel_rfl) rfl rfl (fun F hF0 yA=>?_)
  refine Tq.v (fun G T hG=>?_) ?_
  ·exact ov (OpV.bst BT46 (Bld.nil _)) rfl<|Tq.end undef rfl rfl
  refine Tq.v (fun G T hG=>?_) ?_
  ·exact m_ rfl<|Tq.end undef rfl rfl
  refine Tq.v (fun G T hG=>?_) ?_
  ·exact ov (OpV.nilChk rfl ⟨_,rfl⟩) rfl<|Tq.end undef rfl rfl
  refine Tq.v (fun G T hG=>?_) ?_
  ·exact oM tc rfl<|Tq.end undef rfl rfl
  refine Tq.v (fun G T hG=>?_) ?_
  ·exact f1<|lP .box (.fld .id iu) kt3k rfl rfl<|rI (t:=38) rfl<|f2<|f1<|f2<|Tq.end undef rfl rfl
  refine Tq.v (fun G T hG=>?_) ?_
  ·exact m_ rfl<|Tq.end undef rfl rfl
  refine Tq.st0 [] rfl (fun G T hG=>?_) ?_
  ·exact f2<|sP (x':=(⟨(⟨(0:Int),(0:Int),(0:Int)⟩:ab),[]⟩:ao)) .box .id sz46k rfl rfl rdV rfl<|f2<|f2<|Tq.end0 undef rfl
  refine Tq.v (fun G T hG=>?_) ?_
  ·exact a_ rfl<|Tq.end undef rfl rfl
  refine Tq.nil<|Under.le hF0<|p1 8 rfl rfl<|a_ rfl<|pn<|pd rfl<|f1<|dr<|f1<|fz (t:=2) rfl<|dr<|tn<|rc ?_
  cases osi hF
  exact rs Tryz.results20 (.ce rfl kt46 (.tm rfl (.tm rfl .nil))) rfl rfl
noncomputable def gF (a0:Int) (a1:Int) (a2:Int):Option Bool:=
 bif (decide (a2<0))&&(decide ((IntKind.wrap .i64 (a1+a2))>a1)) then
  some true
 else
  bif (decide (a2>0))&&(decide ((IntKind.wrap .i64 (a1+a2))<a1)) then
   some false
  else
   some (decide (a0>(IntKind.wrap .i64 (a1+a2))))
theorem o21 {a0 a1 a2:Int} {r0:Bool} (hF:gF a0 a1 a2=some r0) (L:List Res):Ok Tryz.prog 76 [SV.raw (.int .i64 a0),SV.raw (.int .i64 a1),SV.raw (.int .i64 a2)] L (SV.raw (.bool r0)) L:=by
 unfold gF at hF
 refine okI 30 Tryz.func76 rfl rfl rfl fun F0=>?_
 refine sr<|a_ rfl<|ns<|m_ rfl<|mb rfl<|a_ rfl<|nt<|sq<|bk<|sr<|mb rfl<|m_ rfl<|bt 18 ((decide (a2<0))&&(decide ((IntKind.wrap .i64 (a1+a2))>a1))) ?_ (fun k=>?_)
 ·refine a_ rfl<|nt<|it hF rfl (fun hF=>?_) (fun hF=>?_)
  ·refine sr<|a_ rfl<|nt<|rc<|Under.bR<|tr ?_
   cases osi hF
   exact rs Tryz.results76 (.tm rfl .nil) rfl rfl
  ·refine sr<|mb rfl<|m_ rfl<|bt 26 ((decide (a2>0))&&(decide ((IntKind.wrap .i64 (a1+a2))<a1))) ?_ (fun k=>?_)
   ·refine a_ rfl<|nt<|it hF rfl (fun hF=>?_) (fun hF=>?_)
    ·refine sr<|a_ rfl<|nt<|rc<|Under.bR<|tr ?_
     cases osi hF
     exact rs Tryz.results76 (.tm rfl .nil) rfl rfl
    ·refine cs<|bN<|tn<|sr<|m_ rfl<|mb rfl<|a_ rfl<|nt<|rc ?_
     cases osi hF
     exact rs Tryz.results76 (.tm rfl .nil) rfl rfl
   ·refine by_ (t:=22) rfl (fun c5=>?_) (fun c5=>?_)
    ·exact gc_ c5 rfl<|m_ rfl<|gc_ c5 rfl<|m_ rfl<|gc_ c5 rfl<|b_ rfl<|pT c5 rfl<|rf 3 (iV c5) rfl k
    ·exact sk_ c5 rfl<|sk_ c5 rfl<|sk_ c5 rfl<|pF c5 rfl<|rf 3 (iW (e:=decide ((IntKind.wrap .i64 (a1+a2))<a1)) c5) rfl k
 ·refine by_ (t:=14) rfl (fun c1=>?_) (fun c1=>?_)
  ·exact gc_ c1 rfl<|m_ rfl<|gc_ c1 rfl<|m_ rfl<|gc_ c1 rfl<|b_ rfl<|pT c1 rfl<|rf 3 (iV c1) rfl k
  ·exact sk_ c1 rfl<|sk_ c1 rfl<|sk_ c1 rfl<|pF c1 rfl<|rf 3 (iW (e:=decide ((IntKind.wrap .i64 (a1+a2))>a1)) c1) rfl k
noncomputable def iJ (a0:List (List Int)):Option (List (List Int)):=
 (app [] a0).bind fun z5=>
 some z5
theorem o22 {a0:List (List Int)} {r0:(List (List Int))} (hF:iJ a0=some r0) (L:List Res):Ok Tryz.prog 77 [SV.val K0 a0] L (SV.val K0 r0) L:=by
 unfold iJ at hF
 refine okI 8 Tryz.func77 rfl rfl rfl fun F0=>?_
 refine sr<|a_ rfl<|nt<|sq<|sr<|m_ rfl<|Under.eqNil Tryz.underlying85 rfl rfl fun b1 h2=>nt<|Under.conde rfl (fun h9=>?_) (fun _=>?_)
 ·replace hF:(some [])=some r0:=by rw[h2 h9] at hF;simpa[app,room] using hF
  refine sr<|a_ rfl<|nt<|rt<|tV (K:=kSl K4) (x:=[]) (t:=2) rfl rdN ?_
  cases osi hF
  exact rs Tryz.results77 (.tm rfl .nil) rfl rfl
 ·refine bs hF fun z5 h6 hF=>ct<|sr<|bO (ys:=[]) Tryz.underlying85 ET64 (BldA.nil _) rfl rfl fun v4=>m_ rfl<|ap h6 Tryz.underlying85 AT64 rfl rfl rdV rfl fun v7=>a_ rfl<|nl<|fzO (t:=2) rfl<|tn<|rc ?_
  cases osi hF
  exact rs Tryz.results77 (.tm rfl .nil) rfl rfl
noncomputable def jk (a0:ah) (a1:Int) (a2:Int):Option (ah×Int):=
 bif (((decide (a2<1))||(decide (a2>8)))||(decide (a1<0)))||(decide (a1>4611686018427387904)) then
  some ((⟨(0:Int),[]⟩:ah),2)
 else
  (gF a1 a0.Newest (IntKind.wrap .i64 (0 - a2))).bind fun eA=>
  ((bif !eA then
   some true
  else
   (gF a1 a0.Newest 1024).bind fun cA=>
   some cA
   :Option Bool)).bind fun qA=>
  bif qA then
   some ((⟨(0:Int),[]⟩:ah),161)
  else
   (((Loop.run (S:=(Int×(List aA))) (R:=ah) (fun(xA,yA)=>
     bif decide (xA<(a0.Epochs.length:Int)) then
      (((idx a0.Epochs xA).bind fun zA=>
      (gF zA.Number (max a0.Newest a1) (IntKind.wrap .i64 (0 - a2))).bind fun hA=>
      bif hA then
       (iJ zA.Tags).bind fun bA=>
       (app yA [(⟨zA.Number,bA⟩:aA)]).bind fun vA=>
       some vA
      else
       some yA
       :Option (List aA))).bind fun oA=>
      some (.next (IntKind.wrap .i64 (xA+1),oA))
     else
      some (.done (⟨max a0.Newest a1,yA⟩:ah))) (0,[])).bind fun kA=>
   some kA
    :Option ah)).bind fun dA=>
   some (dA,0)
theorem o23 {a0:ah} {a1 a2:Int} {r0:(ah×Int)} (hF:jk a0 a1 a2=some r0) (L:List Res):Ok Tryz.prog 25 [SV.val am a0,SV.raw (.int .i64 a1),SV.raw (.int .i64 a2)] L (SV.tup [SV.val am r0.1,SV.raw (.int .i64 r0.2)]) L:=by
 unfold jk at hF
 refine okI 72 Tryz.func25 rfl rfl rfl fun F0=>?_
 refine sr<|bX (K:=am) rfl rdV rfl<|al ZT27 rfl fun b1=>a_ rfl<|nt<|sq<|sr<|mb rfl<|m_ rfl<|cN 16 ((decide (a2<1))||(decide (a2>8))) ?_ (fun k=>?_)
 ·refine m_ rfl<|cN 20 (((decide (a2<1))||(decide (a2>8)))||(decide (a1<0))) ?_ (fun k=>?_)
  ·refine m_ rfl<|cN 24 ((((decide (a2<1))||(decide (a2>8)))||(decide (a1<0)))||(decide (a1>4611686018427387904))) ?_ (fun k=>?_)
   ·refine nt<|it hF rfl (fun hF=>?_) (fun hF=>?_)
    ·refine sr<|ov (OpV.bst BT27 (Bld.nil _)) rfl<|sP (x':=(⟨(0:Int),[]⟩:ah)) .box .id sz27k rfl rfl rdV rfl<|a_ rfl<|nl<|fz (t:=6) rfl<|tn<|rt ?_
     cases osi hF
     exact rs Tryz.results25 (.ce rfl kt27 (.tm rfl .nil)) rfl rfl
    ·refine bs hF fun mB kB hF=>bs hF fun dB dA hF=>ct<|sq<|sr<|m_ rfl<|oF fb27k rfl<|oI kt2 rfl<|m_ rfl<|ov (OpV.neg rfl) rfl<|cx Tryz.call76 rfl (o21 kB _)<|ov (OpV.not rfl) rfl<|m_ rfl<|jC 38 dB ?_ (fun k=>?_)
     ·refine nt<|it hF rfl (fun hF=>?_) (fun hF=>?_)
      ·refine sr<|ov (OpV.bst BT27 (Bld.nil _)) rfl<|sP (x':=(⟨(0:Int),[]⟩:ah)) .box .id sz27k rfl rfl rdV rfl<|a_ rfl<|nl<|fz (t:=6) rfl<|tn<|rt ?_
       cases osi hF
       exact rs Tryz.results25 (.ce rfl kt27 (.tm rfl .nil)) rfl rfl
      ·refine bs hF fun hA eA hF=>ct<|sr<|oF fb27k rfl<|oI kt2 rfl<|m_ rfl<|ov (OpV.max2 rfl rfl) rfl<|ov (OpV.bst jX (Bld.cons (x':=(⟨max a0.Newest a1,.slice none 0 0⟩:aF)) rfl rfl rdI (by intro q hq;simp only[List.mem_cons,List.not_mem_nil,or_false] at hq;rcases hq with rfl<;>rfl) (Bld.nil _))) rfl<|al ZT27k rfl fun gA=>sP (x':=(⟨max a0.Newest a1,.slice none 0 0⟩:aF)) .box .id sz27k1 rfl rfl rdV rfl<|nt<|sq<|afr (r:=hA) (fun hA=>[(6,pb b1),(8,.ptr am hA)]) (fun hA=>((.box am b1 27 (⟨(0:Int),[]⟩:ah))::L)) ?_ fun K mA=>?_
       ·refine sr<|oL kt27 rfl<|sP (x':=hA) .box .id sz27k rfl rfl rdV rfl<|a_ rfl<|nl<|fz (t:=6) rfl<|tn<|rc ?_
        cases osi hF
        exact rs Tryz.results25 (.ce rfl kt27 (.tm rfl .nil)) rfl rfl
       ·refine bs eA fun eB nA eA=>sr<|oF fb27k1 rfl<|oL kt25 rfl<|oN Tryz.underlying25 rfl<|m_ rfl<|nt<|bk<|Under.ownNil (K:=bc) (e:=152)<|f2<|lp nA (C:=Value) (.slice none 0 0) (fun bA vA=>[(2,.raw (.int .i64 a2)),(6,pb b1),(8,pb gA),(46,.val (kSl bc) a0.Epochs),(47,.raw (.int .i64 (a0.Epochs.length:Int))),(48,.raw (.int .i64 bA.1))]) (fun bA vA=>(.box am b1 27 (⟨(0:Int),[]⟩:ah))::(.own bc vA 152 bA.2)::(.box bw gA 27 (⟨max a0.Newest a1,vA⟩:aF))::L) rfl rfl fun bA vA cB yA pA=>?_
        obtain⟨tA,uA⟩:=bA
        dsimp only at yA⊢
        refine sr<|b_ rfl<|nt<|sq<|it yA rfl (fun yA=>?_) (fun yA=>?_)
        ·refine bs yA fun xB xA yA=>ct<|sq<|Under.after (fun X=>∀(cA:List aA) (oA:Value),xB=cA→Under F0 72 [(2,.raw (.int .i64 a2)),(6,pb b1),(8,pb gA),(46,.val (kSl bc) a0.Epochs),(47,.raw (.int .i64 (a0.Epochs.length:Int))),(48,.raw (.int .i64 tA))] ((.box am b1 27 (⟨(0:Int),[]⟩:ah))::(.own bc oA 152 cA)::(.box bw gA 27 (⟨max a0.Newest a1,oA⟩:aF))::L) X) ?_ ?_
         ·intro cA oA qA
          replace qA:=qA.symm
          subst qA
          exact rg<|b_ rfl<|m_ rfl<|nl<|nx oA yA rfl rfl
         ·intro K rA
          refine bs xA fun kA yB xA=>bs xA fun qB zB xA=>bk<|sr<|oS yB Tryz.underlying25 sz152 rfl<|oL kt152 rfl<|al ZT152 rfl fun rB=>sP (x':=kA) .box .id sz152k rfl rfl rdV rfl<|nl<|fz (t:=10) rfl<|tn<|sr<|oF fb152k1 rfl<|oI kt2 rfl<|oM AF rfl<|f2<|lP .box (.fld .id nL) kt2k rfl rfl<|rI (t:=55) rfl<|m_ rfl<|ov (OpV.neg rfl) rfl<|cx Tryz.call76 rfl (o21 zB _)<|nt<|it xA rfl (fun xA=>?_) (fun xA=>?_)
          ·exact bs xA fun wA hB xA=>bs xA fun wB bB xA=>ph rfl<|gV [0,1,2,3,4,5,6,7,8] [[8],[59],[10],[61],[10],[63],[64],[62,65],[66]] 3 (by kernel_rfl) rfl<|vo (fun _=>OpV.fdM fB rfl) rfl<|Vq.v (fun G T hG=>lP .box (.fld .id aR) kt25k rfl rfl<|Under.rawR (t:=60) rfl<|Vq.end rfl)<|vo (fun _=>OpV.fd fb152k1 rfl rfl) rfl<|vo (fun _=>OpV.ldI kt2 rfl) rfl<|vo (fun _=>OpV.fd fb152k rfl rfl) rfl<|vo (fun _=>OpV.ld kt85 rfl) rfl<|Vq.v (fun G T hG=>cx Tryz.call77 rfl (o22 hB _)<|Vq.end rfl)<|vo (fun _=>OpV.bst BT152 (Bld.cons (x':=(⟨kA.Number,[]⟩:aA)) rfl rfl rdI (by intro q hq;simp only[List.mem_cons,List.not_mem_nil,or_false] at hq;rcases hq with rfl<;>rfl) (Bld.cons (x':=(⟨kA.Number,wA⟩:aA)) rfl rfl rdV ⟨rfl,(fun q hq=>by simp at hq)⟩ (Bld.nil _)))) rfl<|Vq.v (fun G T hG=>bF (ys:=[(⟨kA.Number,wA⟩:aA)]) Tryz.underlying25 ET152 (BldA.cons rfl rfl rdV (BldA.nil _)) rfl rfl<|Vq.end rfl)<|vn<|p1 9 rfl rfl<|f2<|ap bB Tryz.underlying25 AT152 rfl rfl rdV rfl fun vB=>pn<|p1 10 rfl rfl<|oM fB rfl<|pn<|p1 11 rfl rfl<|Under.ownCell fun oB=>f1<|sP (x':=(⟨max a0.Newest a1,vB⟩:aF)) .box (.fld .id aR) sz25k rfl rfl (fT oB) rfl<|pn<|pd rfl<|bN<|tn<|f1<|f2<|wr (rA _ _ (osi xA).symm) rfl
          ·exact cs<|bN<|tn<|f2<|f2<|wr (rA _ _ (osi xA).symm) rfl
        ·refine f2<|f2<|Under.frzBO (fs:=dh) (⟨max a0.Newest a1,uA⟩:ah) (fun F hv=>⟨fun _ h=>h,iB hv,trivial⟩)<|fz (t:=8) rfl<|xt<|te ?_
         cases ai yA pA
         exact te<|bh<|tn<|wr (mA _ (osi eA).symm) rfl
     ·refine by_ (t:=33) rfl (fun zA=>?_) (fun zA=>?_)
      ·replace dA:=ctrue zA dA
       exact sk_ zA rfl<|sk_ zA rfl<|sk_ zA rfl<|sk_ zA rfl<|pT zA rfl<|rf 4 (rbq dA) rfl k
      ·replace dA:=cfalse zA dA
       exact bs dA fun nB gB dA=>gc_ zA rfl<|m_ rfl<|gc_ zA rfl<|oF fb27k rfl<|gc_ zA rfl<|oI kt2 rfl<|gc_ zA rfl<|cx Tryz.call76 rfl (o21 gB _)<|pF zA rfl<|rf 4 (rbq dA) rfl k
   ·refine by_ (t:=21) rfl (fun c8=>?_) (fun c8=>?_)
    ·exact sk_ c8 rfl<|sk_ c8 rfl<|pT c8 rfl<|rf 2 (or_t (e:=decide (a1>4611686018427387904)) c8) rfl k
    ·exact gc_ c8 rfl<|m_ rfl<|gc_ c8 rfl<|b_ rfl<|pF c8 rfl<|rf 2 (or_f c8) rfl k
  ·refine by_ (t:=17) rfl (fun c5=>?_) (fun c5=>?_)
   ·exact sk_ c5 rfl<|sk_ c5 rfl<|pT c5 rfl<|rf 2 (or_t (e:=decide (a1<0)) c5) rfl k
   ·exact gc_ c5 rfl<|m_ rfl<|gc_ c5 rfl<|b_ rfl<|pF c5 rfl<|rf 2 (or_f c5) rfl k
 ·refine by_ (t:=13) rfl (fun c2=>?_) (fun c2=>?_)
  ·exact sk_ c2 rfl<|sk_ c2 rfl<|pT c2 rfl<|rf 2 (or_t (e:=decide (a2>8)) c2) rfl k
  ·exact gc_ c2 rfl<|m_ rfl<|gc_ c2 rfl<|b_ rfl<|pF c2 rfl<|rf 2 (or_f c2) rfl k
noncomputable def kV (a0:aB) (a1:aL) (a2:List Int):Option (ao×ah×Int×Int):=
 (gg a0 a1).bind fun y4=>
 bif y4 != 0 then
  some ((⟨(⟨(0:Int),(0:Int),(0:Int)⟩:ab),[]⟩:ao),(⟨(0:Int),[]⟩:ah),0,y4)
 else
  (eO a2).bind fun y7=>
  bif y7.2.2 != 0 then
   some ((⟨(⟨(0:Int),(0:Int),(0:Int)⟩:ab),[]⟩:ao),(⟨(0:Int),[]⟩:ah),y7.2.1,y7.2.2)
  else
   bif y7.1.Header.Left != a0.Left then
    some ((⟨(⟨(0:Int),(0:Int),(0:Int)⟩:ab),[]⟩:ao),(⟨(0:Int),[]⟩:ah),0,212)
   else
    bif decide (y7.1.Header.Round<a1.Next) then
     some ((⟨(⟨(0:Int),(0:Int),(0:Int)⟩:ab),[]⟩:ao),(⟨(0:Int),[]⟩:ah),0,211)
    else
     (jk a1.Window y7.1.Header.Epoch a0.Span).bind fun xA=>
     some (y7.1,xA.1,0,xA.2)
theorem o24 {a0:aB} {a1:aL} {a2:List Int} {r0:(ao×ah×Int×Int)} (hF:kV a0 a1 a2=some r0) (L:List Res):Ok Tryz.prog 63 [SV.val aJ a0,SV.val bT a1,SV.val K9 a2] L (SV.tup [SV.val aV r0.1,SV.val am r0.2.1,SV.raw (.int .i64 r0.2.2.1),SV.raw (.int .i64 r0.2.2.2)]) L:=by
 unfold kV at hF
 refine okI 68 Tryz.func63 rfl rfl rfl fun F0=>?_
 refine bs hF fun y4 h5 hF=>sr<|bX (K:=aJ) rfl rdV rfl<|bX (K:=bT) rfl rdV rfl<|al ZT46 rfl fun b1=>al ZT27 rfl fun b2=>a_ rfl<|a_ rfl<|ns<|al ZT46 rfl fun b3=>nl<|fz (t:=10) rfl<|tn<|sq<|sr<|oL kt24 rfl<|oL kt29 rfl<|cx Tryz.call21 rfl (o10 h5 _)<|a_ rfl<|ns<|mb rfl<|nt<|it hF rfl (fun hF=>?_) (fun hF=>?_)
 ·refine sr<|oL kt46 rfl<|ov (OpV.bst BT27 (Bld.nil _)) rfl<|m_ rfl<|f1<|sP (x':=(⟨(⟨(0:Int),(0:Int),(0:Int)⟩:ab),[]⟩:ao)) .box .id sz46k rfl rfl rdV rfl<|f1<|sP (x':=(⟨(0:Int),[]⟩:ah)) .box .id sz27k rfl rfl rdV rfl<|a_ rfl<|a_ rfl<|nl<|fz (t:=7) rfl<|fz (t:=6) rfl<|tn<|rt ?_
  cases osi hF
  exact rs Tryz.results63 (.ce rfl kt46 (.ce rfl kt27 (.tm rfl (.tm rfl .nil)))) rfl rfl
 ·refine bs hF fun y7 h8 hF=>ct<|sr<|m_ rfl<|cx Tryz.call20 rfl (o20 h8 _)<|m_ rfl<|oE rfl<|oE rfl<|oE rfl<|al ZT46 rfl fun b9=>sP (x':=y7.1) .box .id sz46k rfl rfl rdV rfl<|a_ rfl<|a_ rfl<|nl<|fz (t:=12) rfl<|tn<|sq<|sr<|mb rfl<|nt<|it hF rfl (fun hF=>?_) (fun hF=>?_)
  ·refine sr<|oL kt46 rfl<|ov (OpV.bst BT27 (Bld.nil _)) rfl<|m_ rfl<|m_ rfl<|f1<|sP (x':=(⟨(⟨(0:Int),(0:Int),(0:Int)⟩:ab),[]⟩:ao)) .box .id sz46k rfl rfl rdV rfl<|f1<|sP (x':=(⟨(0:Int),[]⟩:ah)) .box .id sz27k rfl rfl rdV rfl<|a_ rfl<|a_ rfl<|nl<|fz (t:=7) rfl<|fz (t:=6) rfl<|tn<|rt ?_
   cases osi hF
   exact rs Tryz.results63 (.ce rfl kt46 (.ce rfl kt27 (.tm rfl (.tm rfl .nil)))) rfl rfl
  ·refine ct<|sq<|bk<|sr<|oF fb46k rfl<|oF fb43k rfl<|oI kt3 rfl<|oF fb24k1 rfl<|oI kt3 rfl<|b_ rfl<|a_ rfl<|nt<|it hF rfl (fun hF=>?_) (fun hF=>?_)
   ·refine sr<|oL kt46 rfl<|ov (OpV.bst BT27 (Bld.nil _)) rfl<|f1<|sP (x':=(⟨(⟨(0:Int),(0:Int),(0:Int)⟩:ab),[]⟩:ao)) .box .id sz46k rfl rfl rdV rfl<|f1<|sP (x':=(⟨(0:Int),[]⟩:ah)) .box .id sz27k rfl rfl rdV rfl<|a_ rfl<|a_ rfl<|nl<|fz (t:=7) rfl<|fz (t:=6) rfl<|tn<|rc<|Under.bR<|tr ?_
    cases osi hF
    exact rs Tryz.results63 (.ce rfl kt46 (.ce rfl kt27 (.tm rfl (.tm rfl .nil)))) rfl rfl
   ·refine sr<|oF fb46k rfl<|oF fb43k1 rfl<|oI kt2 rfl<|oF fb29k rfl<|oI kt2 rfl<|b_ rfl<|a_ rfl<|nt<|it hF rfl (fun hF=>?_) (fun hF=>?_)
    ·refine sr<|oL kt46 rfl<|ov (OpV.bst BT27 (Bld.nil _)) rfl<|f1<|sP (x':=(⟨(⟨(0:Int),(0:Int),(0:Int)⟩:ab),[]⟩:ao)) .box .id sz46k rfl rfl rdV rfl<|f1<|sP (x':=(⟨(0:Int),[]⟩:ah)) .box .id sz27k rfl rfl rdV rfl<|a_ rfl<|a_ rfl<|nl<|fz (t:=7) rfl<|fz (t:=6) rfl<|tn<|rc<|Under.bR<|tr ?_
     cases osi hF
     exact rs Tryz.results63 (.ce rfl kt46 (.ce rfl kt27 (.tm rfl (.tm rfl .nil)))) rfl rfl
    ·refine bs hF fun xA yA hF=>cs<|bN<|tn<|sr<|oF fb29k1 rfl<|oL kt27 rfl<|oF fb46k rfl<|oF fb43k2 rfl<|oI kt2 rfl<|oF fb24k2 rfl<|oI kt3 rfl<|cx Tryz.call25 rfl (o23 yA _)<|m_ rfl<|oE rfl<|oE rfl<|al ZT27 rfl fun hA=>sP (x':=xA.1) .box .id sz27k rfl rfl rdV rfl<|a_ rfl<|nl<|fz (t:=15) rfl<|tn<|sq<|ph rfl<|Under.grpT (L:=L) [0,1,2,3,4,5] [[12],[15],[14],[6,65],[7,66],[]] [⟨sk0 (.val aV y7.1),[],[],[]⟩,⟨sk0 (.val am xA.1),[],[],[]⟩,⟨sk0 (.raw (.int .i64 xA.2)),[],[],[]⟩,⟨sk0 (.raw undef),[1],[(2,tk0 (.box aV b1 46 y7.1))],[]⟩,⟨sk0 (.raw undef),[0],[(3,tk0 (.box am b2 27 xA.1))],[]⟩,⟨sk0 (.raw (.int .i64 0)),[],[],[]⟩] [(0,.box am b2 27 (⟨(0:Int),[]⟩:ah)),(1,.box aV b1 46 (⟨(⟨(0:Int),(0:Int),(0:Int)⟩:ab),[]⟩:ao))] (fun T:List Res=>T) lf0 rfl (by kernel_rfl) rfl rfl (fun F hF0 zA=>?_)
     refine Tq.v (fun G T hG=>?_) ?_
     ·exact oL kt46 rfl<|Tq.end undef rfl rfl
     refine Tq.v (fun G T hG=>?_) ?_
     ·exact oL kt27 rfl<|Tq.end undef rfl rfl
     refine Tq.v (fun G T hG=>?_) ?_
     ·exact m_ rfl<|Tq.end undef rfl rfl
     refine Tq.st0 [.box aV b1 46 (⟨(⟨(0:Int),(0:Int),(0:Int)⟩:ab),[]⟩:ao)] rfl (fun G T hG=>?_) ?_
     ·exact sP (x':=y7.1) .box .id sz46k rfl rfl rdV rfl<|Tq.end0 undef rfl
     refine Tq.st0 [.box am b2 27 (⟨(0:Int),[]⟩:ah)] rfl (fun G T hG=>?_) ?_
     ·exact sP (x':=xA.1) .box .id sz27k rfl rfl rdV rfl<|Tq.end0 undef rfl
     refine Tq.v (fun G T hG=>?_) ?_
     ·exact a_ rfl<|Tq.end undef rfl rfl
     refine Tq.nil<|Under.le hF0<|p1 6 rfl rfl<|a_ rfl<|pn<|pd rfl<|fz (t:=6) rfl<|fz (t:=7) rfl<|tn<|rc ?_
     cases osi hF
     exact rs Tryz.results63 (.ce rfl kt46 (.ce rfl kt27 (.tm rfl (.tm rfl .nil)))) rfl rfl
noncomputable def gi (a0:List aA):Option (List aA):=
 (app [] a0).bind fun z5=>
 some z5
theorem o25 {a0:List aA} {r0:(List aA)} (hF:gi a0=some r0) (L:List Res):OkX Tryz.prog 184 [SV.val (kSl bc) a0] L (fun y:Value=>SV.raw y) (fun y:Value=>(.own bc y 152 r0)::L):=by
 unfold gi at hF
 refine OkX.intro 8 [(0,.val (kSl bc) a0)] Tryz.func184 rfl rfl rfl rfl fun F0=>?_
 refine sr<|a_ rfl<|nt<|sq<|sr<|m_ rfl<|Under.eqNil Tryz.underlying25 rfl rfl fun b1 h2=>nt<|Under.conde rfl (fun h9=>?_) (fun _=>?_)
 ·replace hF:(some [])=some r0:=by rw[h2 h9] at hF;simpa[app,room] using hF
  refine sr<|a_ rfl<|nt<|rt<|Under.ownNil (K:=bc) (e:=152) ?_
  cases osi hF
  exact Under.retsX (.slice none 0 0) Tryz.results184 (.tm rfl .nil) rfl rfl
 ·refine bs hF fun z5 h6 hF=>ct<|sr<|bO (ys:=[]) Tryz.underlying25 ET152 (BldA.nil _) rfl rfl fun v4=>m_ rfl<|ap h6 Tryz.underlying25 AT152 rfl rfl rdV rfl fun v7=>a_ rfl<|nt<|rc ?_
  cases osi hF
  exact Under.retsX v7 Tryz.results184 (.tm rfl .nil) rfl rfl
noncomputable def kd (a0:aL):Option aL:=
 (gi a0.Window.Epochs).bind fun y3=>
 (((Loop.run (S:=(Int×(List aA))) (R:=aL) (fun(xA,yA)=>
   bif decide (xA<(y3.length:Int)) then
    (idx yA xA).bind fun zA=>
    (iJ zA.Tags).bind fun hA=>
    (idx yA xA).bind fun bA=>
    some (.next (IntKind.wrap .i64 (xA+1),List.set yA (Int.toNat xA) ({bA with Tags:=hA}:aA)))
   else
    some (.done (⟨a0.Next,(⟨a0.Window.Newest,yA⟩:ah)⟩:aL))) (0,y3)).bind fun vA=>
 some vA
  :Option aL)).bind fun oA=>
 some oA
theorem o26 {a0:aL} {r0:aL} (hF:kd a0=some r0) (L:List Res):Ok Tryz.prog 121 [SV.val bT a0] L (SV.val bT r0) L:=by
 unfold kd at hF
 refine okI 33 Tryz.func121 rfl rfl rfl fun F0=>?_
 refine bs hF fun y3 h4 hF=>sr<|Under.bx (K:=bT) rfl rdV rfl fun b1=>al ZT29 rfl fun b2=>ns<|oM qM rfl<|oM fB rfl<|f1<|lP .box (.fld (.fld .id qN) qo) kt25k1 rfl rfl<|Under.callX Tryz.call184 rfl rfl (o25 h4 _) rfl ?_
 rintro v5
 refine bs hF fun yA hA hF=>oM qM rfl<|oM fB rfl<|f1<|Under.rawify (fs':=iZ) (i:=1) (fun v6=>(⟨a0.Next,(⟨a0.Window.Newest,v6⟩:aF)⟩:dR)) (fun F=>⟨fun _ _ h=>h,fun _ h=>CvE.rd (fs:=dh) (x:=a0.Window) (x':=fun v6=>(⟨a0.Window.Newest,v6⟩:aF)) (fs':=ed) (i:=1) ⟨fun _ _ h=>h,zp,trivial⟩ h,trivial⟩) fun v6 h7=>f1<|Under.ownCell fun h8=>f1<|sP (x':=(⟨a0.Next,(⟨a0.Window.Newest,v5⟩:aF)⟩:dR)) .box (.fld (.fld .id fF) aR) sz25k rfl rfl (fT h8) rfl<|nt<|sq<|afr (r:=yA) (fun yA=>[(1,.ptr bT yA),(2,pb b2)]) (fun yA=>((.box bT b2 29 (⟨(0:Int),(⟨(0:Int),[]⟩:ah)⟩:aL))::L)) ?_ fun K dA=>?_
 ·refine sr<|oL kt29 rfl<|sP (x':=yA) .box .id sz29k rfl rfl rdV rfl<|nl<|fz (t:=2) rfl<|tn<|rc ?_
  cases osi hF
  exact rs Tryz.results121 (.ce rfl kt29 .nil) rfl rfl
 ·refine bs hA fun mA eA hA=>sr<|oM qM rfl<|oM fB rfl<|lP .box (.fld (.fld .id fF) aR) kt25k rfl rfl<|Under.rawR (t:=12) rfl<|f1<|ov (OpV.lenO Tryz.underlying25 rfl) rfl<|m_ rfl<|nt<|bk<|lp eA () (fun zA kA=>[(1,pb b1),(2,pb b2),(13,.raw (.int .i64 (y3.length:Int))),(14,.raw (.int .i64 zA.1))]) (fun zA kA=>(.own bc v5 152 zA.2)::(.box ql b1 29 (⟨a0.Next,(⟨a0.Window.Newest,v5⟩:aF)⟩:dR))::(.box bT b2 29 (⟨(0:Int),(⟨(0:Int),[]⟩:ah)⟩:aL))::L) rfl rfl fun zA kA nA xA cA=>?_
  obtain⟨qA,bA⟩:=zA
  dsimp only at xA⊢
  refine sr<|b_ rfl<|nt<|sq<|it xA rfl (fun xA=>?_) (fun xA=>?_)
  ·exact bs xA fun pA vA xA=>bs xA fun rA wA xA=>bs xA fun gA oA xA=>ct<|sq<|bk<|sr<|m_ rfl<|a_ rfl<|nt<|ph rfl<|gV [0,1,2,3,4,5,6,7,8,9,10,11] [[1],[17],[18],[3],[1],[21],[22],[3],[23,24],[25],[26],[27]] 3 (by kernel_rfl) rfl<|vo (fun _=>OpV.fdM qM rfl) rfl<|vo (fun _=>OpV.fdM fB rfl) rfl<|Vq.v (fun G T hG=>f1<|lP .box (.fld (.fld .id fF) aR) kt25k rfl rfl<|Under.rawR (t:=19) rfl<|f2<|f1<|f2<|Vq.end rfl)<|vm_ rfl<|vo (fun _=>OpV.fdM qM rfl) rfl<|vo (fun _=>OpV.fdM fB rfl) rfl<|Vq.v (fun G T hG=>f1<|lP .box (.fld (.fld .id fF) aR) kt25k rfl rfl<|Under.rawR (t:=23) rfl<|f2<|f1<|f2<|Vq.end rfl)<|vm_ rfl<|Vq.v (fun G T hG=>ov (OpV.ixO vA Tryz.underlying25 sz152k rfl rfl) rfl<|Vq.end rfl)<|vo (fun _=>OpV.fdM nc rfl) rfl<|Vq.v (fun G T hG=>lP (.own vA) (.fld (.ix .id vA) iI) kt85k rfl rfl<|Vq.end rfl)<|Vq.v (fun G T hG=>cx Tryz.call77 rfl (o22 wA _)<|Vq.end rfl)<|vn<|p1 12 rfl rfl<|ov (OpV.ixO oA Tryz.underlying25 sz152k rfl rfl) rfl<|pn<|p1 13 rfl rfl<|oM nc rfl<|pn<|p1 14 rfl rfl<|sP (x':=List.set bA (Int.toNat qA) ({gA with Tags:=rA}:aA)) (.own oA) (.fld (.ix .id oA) iI) sz85k rfl rfl rdV rfl<|pn<|pd rfl<|bN<|tn<|rg<|b_ rfl<|m_ rfl<|nl<|nx () xA rfl rfl
  ·refine Under.frzBO (fs:=gt) (⟨a0.Next,(⟨a0.Window.Newest,bA⟩:ah)⟩:aL) (fun F hv=>⟨fun _ h=>h,fun _ h=>rL (fs':=ed) (x':=(⟨a0.Window.Newest,v5⟩:aF)) (fs:=dh) (x:=(⟨a0.Window.Newest,bA⟩:ah)) ⟨fun _ h=>h,iB hv,trivial⟩ h,trivial⟩)<|fz (t:=1) rfl<|xt<|te ?_
   cases ai xA cA
   exact te<|bh<|tn<|wr (dA _ (osi hA).symm) rfl
noncomputable def dq (a0:aL) (a1:Int) (a2:Int):Option aO:=
 (kd a0).bind fun y2=>
 some (⟨[],y2,(⟨(0:Int),(0:Int),(0:Int),(0:Int),(0:Int)⟩:av),a1,a2⟩:aO)
theorem o27 {a0:aL} {a1 a2:Int} {r0:aO} (hF:dq a0 a1 a2=some r0) (L:List Res):Ok Tryz.prog 64 [SV.val bT a0,SV.raw (.int .i64 a1),SV.raw (.int .i64 a2)] L (SV.val aT r0) L:=by
 unfold dq at hF
 refine okI 12 Tryz.func64 rfl rfl rfl fun F0=>?_
 refine bs hF fun y2 h3 hF=>sr<|bX (K:=bT) rfl rdV rfl<|al ZT37 rfl fun b1=>ns<|oL kt29 rfl<|cx Tryz.call121 rfl (o26 h3 _)<|m_ rfl<|m_ rfl<|ov (OpV.bst BT37 (Bld.cons (x':=(⟨[],y2,(⟨(0:Int),(0:Int),(0:Int),(0:Int),(0:Int)⟩:av),(0:Int),(0:Int)⟩:aO)) rfl rfl rdV ⟨rfl,(by intro q hq;simp only[List.mem_cons,List.not_mem_nil,or_false] at hq;rcases hq with rfl|rfl|rfl<;>rfl)⟩ (Bld.cons (x':=(⟨[],y2,(⟨(0:Int),(0:Int),(0:Int),(0:Int),(0:Int)⟩:av),a1,(0:Int)⟩:aO)) rfl rfl rdI ⟨rfl,⟨rfl,⟨rfl,(by intro q hq;simp only[List.mem_cons,List.not_mem_nil,or_false] at hq;rcases hq with rfl<;>rfl)⟩⟩⟩ (Bld.cons (x':=(⟨[],y2,(⟨(0:Int),(0:Int),(0:Int),(0:Int),(0:Int)⟩:av),a1,a2⟩:aO)) rfl rfl rdI ⟨rfl,⟨rfl,⟨rfl,⟨rfl,(fun q hq=>by simp at hq)⟩⟩⟩⟩ (Bld.nil _))))) rfl<|sP (x':=(⟨[],y2,(⟨(0:Int),(0:Int),(0:Int),(0:Int),(0:Int)⟩:av),a1,a2⟩:aO)) .box .id sz37k rfl rfl rdV rfl<|nl<|fz (t:=6) rfl<|tn<|rc ?_
 cases osi hF
 exact rs Tryz.results64 (.ce rfl kt37 .nil) rfl rfl
noncomputable def ke:Option az:=
 some (⟨(List.replicate 8 (0:Int)),(List.replicate 64 (0:Int)),(0:Int)⟩:az)
theorem o28 {r0:az} (hF:ke=some r0) (L:List Res):Ok Tryz.prog 211 [] L (SV.val bY r0) L:=by
 unfold ke at hF
 refine okI 2 Tryz.func211 rfl rfl rfl fun F0=>?_
 refine sr<|al ZT253 rfl fun b1=>ns<|ov (OpV.bst BT253 (Bld.nil _)) rfl<|sP (x':=(⟨(List.replicate 8 (0:Int)),(List.replicate 64 (0:Int)),(0:Int)⟩:az)) .box .id sz253k rfl rfl rdV rfl<|nl<|fz (t:=0) rfl<|tn<|rc ?_
 cases osi hF
 exact rs Tryz.results211 (.ce rfl kt253 .nil) rfl rfl
noncomputable def jP:Option (List Int):=
 some [1779033703,3144134277,1013904242,2773480762,1359893119,2600822924,528734635,1541459225]
theorem o29 {r0:(List Int)} (hF:jP=some r0) (L:List Res):Ok Tryz.prog 212 [] L (SV.val K5 r0) L:=by
 unfold jP at hF
 refine okI 2 Tryz.func212 rfl rfl rfl fun F0=>?_
 refine sr<|al ZT250 rfl fun b1=>ns<|ov (OpV.bar (ys:=[1779033703,3144134277,1013904242,2773480762,1359893119,2600822924,528734635,1541459225]) BTA250 (BldA.cons rfl rfl rdI (BldA.cons rfl rfl rdI (BldA.cons rfl rfl rdI (BldA.cons rfl rfl rdI (BldA.cons rfl rfl rdI (BldA.cons rfl rfl rdI (BldA.cons rfl rfl rdI (BldA.cons rfl rfl rdI (BldA.nil _)))))))))) rfl<|sP (x':=[1779033703,3144134277,1013904242,2773480762,1359893119,2600822924,528734635,1541459225]) .box .id sz250k rfl rfl rdV rfl<|nl<|fz (t:=0) rfl<|tn<|rc ?_
 cases osi hF
 exact rs Tryz.results212 (.ce rfl kt250 .nil) rfl rfl
noncomputable def bf (a0:Int) (a1:Int):Option Int:=
 bif decide (0≤(andI .u64 (IntKind.wrap .u64 a1) 31)) then
 bif decide (0≤(IntKind.wrap .u64 (32 - (andI .u64 (IntKind.wrap .u64 a1) 31)))) then
 some (orI .u32 (shlI .u32 a0 (andI .u64 (IntKind.wrap .u64 a1) 31)) (shrI .u32 a0 (IntKind.wrap .u64 (32 - (andI .u64 (IntKind.wrap .u64 a1) 31)))))
 else none
 else none
theorem o30 {a0 a1:Int} {r0:Int} (hF:bf a0 a1=some r0) (L:List Res):Ok Tryz.prog 243 [SV.raw (.int .u32 a0),SV.raw (.int .i64 a1)] L (SV.raw (.int .u32 r0)) L:=by
 unfold bf at hF
 refine okI 17 Tryz.func243 rfl rfl rfl fun F0=>?_
 refine gs hF fun h1 hF=>gs hF fun h2 hF=>sr<|a_ rfl<|ns<|m_ rfl<|oC (by kernel_rfl) Tryz.underlying74 rfl<|b_ rfl<|a_ rfl<|ns<|m_ rfl<|m_ rfl<|ov (OpV.sh rfl rfl (of_decide_eq_true h1) rfl) rfl<|m_ rfl<|mb rfl<|ov (OpV.sh rfl rfl (of_decide_eq_true h2) rfl) rfl<|b_ rfl<|a_ rfl<|nt<|rc ?_
 cases osi hF
 exact rs Tryz.results243 (.tm rfl .nil) rfl rfl
end Go.Proofs.YtobbmodjdkcdcaaGreatDoor

import Derived.Test.YtdkfkpbijdimkaaGreatSl0
set_option linter.unusedVariables false
set_option linter.unusedSimpArgs false
set_option maxRecDepth 20000
namespace Go.Proofs.YtdkfkpbijdimkaaGreat
open Go Go.Sim Go.ChangeShapes Go.WideShapes Go.ChangeAt Go.RowKit
set_option linter.unusedSectionVars false
variable [Fu]
noncomputable def bm (a0:List Int):Option Unit:=
 some ()
theorem o0 {a0:List Int} {r0:Unit} (hF:bm a0=some r0) (L:List Res):Ok Tryz.prog 10 [SV.raw (.pointer none),SV.val (kSl K2) a0] L (SV.tup []) L:=by
 unfold bm at hF
 refine okI 15 Tryz.func10 rfl rfl rfl fun F0=>?_
 refine sr<|m_ rfl<|ov (OpV.ptrNil Tryz.underlying31 (.inr rfl) rfl) rfl<|nt<|Under.condF rfl<|cs ?_
 cases osi hF
 exact rs Tryz.results10 .nil rfl rfl
noncomputable def aS (a0:Int) (a1:List Int) (a2:List Int) (a3:List Int):Option au:=
 some (⟨[],(⟨(0:Int),(⟨(0:Int),[]⟩:aa)⟩:ab),(⟨(0:Int),(0:Int),(0:Int),(0:Int),(0:Int)⟩:aA),210,(0:Int)⟩:au)
theorem o1 {a0:Int} {a1 a2 a3:List Int} {r0:au} (hF:aS a0 a1 a2 a3=some r0) (L:List Res):Ok Tryz.prog 11 [SV.raw (.pointer none),SV.raw (.int .i64 a0),SV.val (kSl K2) a1,SV.val (kSl K2) a2,SV.val (kSl (kInt .i64)) a3] L (SV.val bv r0) L:=by
 unfold aS at hF
 refine okI 58 Tryz.func11 rfl rfl rfl fun F0=>?_
 refine sr<|al ZT44 rfl fun b1=>nt<|sq<|sr<|m_ rfl<|ov (OpV.ptrNil Tryz.underlying31 (.inl rfl) rfl) rfl<|nt<|Under.condT rfl<|sr<|ov (OpV.bst BT44 (Bld.cons (x':=(⟨[],(⟨(0:Int),(⟨(0:Int),[]⟩:aa)⟩:ab),(⟨(0:Int),(0:Int),(0:Int),(0:Int),(0:Int)⟩:aA),210,(0:Int)⟩:au)) rfl rfl rdI ⟨rfl,⟨rfl,⟨rfl,(by intro q hq;simp only[List.mem_cons,List.not_mem_nil,or_false] at hq;rcases hq with rfl<;>rfl)⟩⟩⟩ (Bld.nil _))) rfl<|sP (x':=(⟨[],(⟨(0:Int),(⟨(0:Int),[]⟩:aa)⟩:ab),(⟨(0:Int),(0:Int),(0:Int),(0:Int),(0:Int)⟩:aA),210,(0:Int)⟩:au)) .box .id sz44k rfl rfl rdV rfl<|nl<|fz (t:=10) rfl<|tn<|rt ?_
 cases osi hF
 exact rs Tryz.results11 (.ce rfl kt44 .nil) rfl rfl
noncomputable def aX (a0:List Int):Option au:=
 some (⟨[],(⟨(0:Int),(⟨(0:Int),[]⟩:aa)⟩:ab),(⟨(0:Int),(0:Int),(0:Int),(0:Int),(0:Int)⟩:aA),210,(0:Int)⟩:au)
theorem o2 {a0:List Int} {r0:au} (hF:aX a0=some r0) (L:List Res):Ok Tryz.prog 12 [SV.raw (.pointer none),SV.val (kSl K2) a0] L (SV.val bv r0) L:=by
 unfold aX at hF
 refine okI 20 Tryz.func12 rfl rfl rfl fun F0=>?_
 refine sr<|al ZT44 rfl fun b1=>nt<|sq<|sr<|m_ rfl<|ov (OpV.ptrNil Tryz.underlying31 (.inl rfl) rfl) rfl<|nt<|Under.condT rfl<|sr<|ov (OpV.bst BT44 (Bld.cons (x':=(⟨[],(⟨(0:Int),(⟨(0:Int),[]⟩:aa)⟩:ab),(⟨(0:Int),(0:Int),(0:Int),(0:Int),(0:Int)⟩:aA),210,(0:Int)⟩:au)) rfl rfl rdI ⟨rfl,⟨rfl,⟨rfl,(by intro q hq;simp only[List.mem_cons,List.not_mem_nil,or_false] at hq;rcases hq with rfl<;>rfl)⟩⟩⟩ (Bld.nil _))) rfl<|sP (x':=(⟨[],(⟨(0:Int),(⟨(0:Int),[]⟩:aa)⟩:ab),(⟨(0:Int),(0:Int),(0:Int),(0:Int),(0:Int)⟩:aA),210,(0:Int)⟩:au)) .box .id sz44k rfl rfl rdV rfl<|nl<|fz (t:=4) rfl<|tn<|rt ?_
 cases osi hF
 exact rs Tryz.results12 (.ce rfl kt44 .nil) rfl rfl
noncomputable def be:Option ab:=
 some (⟨(0:Int),(⟨(0:Int),[]⟩:aa)⟩:ab)
theorem o3 {r0:ab} (hF:be=some r0) (L:List Res):Ok Tryz.prog 8 [SV.raw (.pointer none)] L (SV.val ah r0) L:=by
 unfold be at hF
 refine okI 11 Tryz.func8 rfl rfl rfl fun F0=>?_
 refine sr<|al ZT29 rfl fun b1=>nt<|sq<|sr<|m_ rfl<|ov (OpV.ptrNil Tryz.underlying31 (.inl rfl) rfl) rfl<|nt<|Under.condT rfl<|sr<|ov (OpV.bst BT29 (Bld.nil _)) rfl<|sP (x':=(⟨(0:Int),(⟨(0:Int),[]⟩:aa)⟩:ab)) .box .id sz29k rfl rfl rdV rfl<|nl<|fz (t:=2) rfl<|tn<|rt ?_
 cases osi hF
 exact rs Tryz.results8 (.ce rfl kt29 .nil) rfl rfl
noncomputable def aV:Option Bool:=
 (bm [1]).bind fun y1=>
 (aS 0 [] [] []).bind fun y3=>
 (aX []).bind fun y6=>
 ((bif ((y3.Err==210)&&(y6.Err==210))&&((y3.Out.length:Int)==0) then
  (be).bind fun xA=>
  some (xA.Next==0)
 else
  some false
  :Option Bool)).bind fun yA=>
 some yA
theorem o4 {r0:Bool} (hF:aV=some r0) (L:List Res):Ok Tryz.prog 4 [] L (SV.raw (.bool r0)) L:=by
 unfold aV at hF
 refine okI 31 Tryz.func4 rfl rfl rfl fun F0=>?_
 refine bs hF fun y1 h2 hF=>bs hF fun y3 h4 hF=>bs hF fun y6 h7 hF=>sr<|a_ rfl<|ns<|a_ rfl<|ns<|m_ rfl<|bF (ys:=[1]) Tryz.underlying22 ET5 (BldA.cons rfl rfl rdI (BldA.nil _)) rfl rfl<|cx Tryz.call10 rfl (o0 h2 _)<|ns<|m_ rfl<|ca Tryz.call11 rfl rfl (Ok.cv (.sm (.sm (.rd rdN (.rd rdN (.rd rdN .nil))))) (o1 h4 _)) rfl<|al ZT44 rfl fun b5=>sP (x':=y3) .box .id sz44k rfl rfl rdV rfl<|nl<|fz (t:=2) rfl<|tn<|sr<|m_ rfl<|ca Tryz.call12 rfl rfl (Ok.cv (.sm (.rd rdN .nil)) (o2 h7 _)) rfl<|al ZT44 rfl fun b8=>sP (x':=y6) .box .id sz44k rfl rfl rdV rfl<|nl<|fz (t:=3) rfl<|tn<|sr<|oF fb44k rfl<|oI kt32 rfl<|b_ rfl<|m_ rfl<|aK 18 ((y3.Err==210)&&(y6.Err==210)) ?_ (fun k=>?_)
 ·refine m_ rfl<|dS 24 (((y3.Err==210)&&(y6.Err==210))&&((y3.Out.length:Int)==0)) ?_ (fun k=>?_)
  ·refine bs hF fun hA zA hF=>m_ rfl<|dS 30 hA ?_ (fun k=>?_)
   ·refine a_ rfl<|nt<|rc ?_
    cases osi hF
    exact rs Tryz.results4 (.tm rfl .nil) rfl rfl
   ·refine by_ (t:=25) rfl (fun xA=>?_) (fun xA=>?_)
    ·replace zA:=ctrue xA zA
     exact bs zA fun vA bA zA=>gc_ xA rfl<|m_ rfl<|gc_ xA rfl<|cx Tryz.call8 rfl (o3 bA _)<|gc_ xA rfl<|ov (OpV.fdVI fb29k kt2 rfl rfl ⟨_,_,Tryz.underlying29,rfl,rfl⟩) rfl<|gc_ xA rfl<|b_ rfl<|pT xA rfl<|rf 4 (rbq zA) rfl k
    ·replace zA:=cfalse xA zA
     exact sk_ xA rfl<|sk_ xA rfl<|sk_ xA rfl<|sk_ xA rfl<|pF xA rfl<|rf 4 (rbq zA) rfl k
  ·refine by_ (t:=19) rfl (fun yA=>?_) (fun yA=>?_)
   ·exact gc_ yA rfl<|oF fb44k1 rfl<|gc_ yA rfl<|oL kt22 rfl<|gc_ yA rfl<|oN Tryz.underlying22 rfl<|gc_ yA rfl<|b_ rfl<|pT yA rfl<|rf 4 (fT yA) rfl k
   ·exact sk_ yA rfl<|sk_ yA rfl<|sk_ yA rfl<|sk_ yA rfl<|pF yA rfl<|rf 4 (fU (e:=(y3.Out.length:Int)==0) yA) rfl k
 ·refine by_ (t:=14) rfl (fun c9=>?_) (fun c9=>?_)
  ·exact gc_ c9 rfl<|oF fb44k rfl<|gc_ c9 rfl<|oI kt32 rfl<|gc_ c9 rfl<|b_ rfl<|pT c9 rfl<|rf 3 (fT c9) rfl k
  ·exact sk_ c9 rfl<|sk_ c9 rfl<|sk_ c9 rfl<|pF c9 rfl<|rf 3 (fU (e:=y6.Err==210) c9) rfl k
noncomputable def ao (a0:Int) (a1:Int) (a2:Int):Option Bool:=
 some ((decide (a1≤a0))&&(decide (a0≤a2)))
theorem o5 {a0 a1 a2:Int} {r0:Bool} (hF:ao a0 a1 a2=some r0) (L:List Res):Ok Tryz.prog 28 [SV.raw (.int .i64 a0),SV.raw (.int .i64 a1),SV.raw (.int .i64 a2)] L (SV.raw (.bool r0)) L:=by
 unfold ao at hF
 refine okI 15 Tryz.func28 rfl rfl rfl fun F0=>?_
 refine sr<|a_ rfl<|ns<|m_ rfl<|mb rfl<|m_ rfl<|aK 14 ((decide (a1≤a0))&&(decide (a0≤a2))) ?_ (fun k=>?_)
 ·refine a_ rfl<|nt<|rc ?_
  cases osi hF
  exact rs Tryz.results28 (.tm rfl .nil) rfl rfl
 ·refine by_ (t:=10) rfl (fun c1=>?_) (fun c1=>?_)
  ·exact gc_ c1 rfl<|m_ rfl<|gc_ c1 rfl<|m_ rfl<|gc_ c1 rfl<|b_ rfl<|pT c1 rfl<|rf 3 (fT c1) rfl k
  ·exact sk_ c1 rfl<|sk_ c1 rfl<|sk_ c1 rfl<|pF c1 rfl<|rf 3 (fU (e:=decide (a0≤a2)) c1) rfl k
noncomputable def bc (a0:af):Option Bool:=
 ((bif (a0.Master.length:Int)==32 then
  (ao a0.Left 1 8).bind fun y4=>
  some y4
 else
  some false
  :Option Bool)).bind fun x3=>
 ((bif x3 then
  (ao a0.Span 1 8).bind fun y9=>
  some y9
 else
  some false
  :Option Bool)).bind fun x8=>
 ((bif x8 then
  (ao a0.Room 0 4096).bind fun xA=>
  some xA
 else
  some false
  :Option Bool)).bind fun yA=>
 ((bif yA then
  (ao a0.Den 1 1000).bind fun zA=>
  some zA
 else
  some false
  :Option Bool)).bind fun hA=>
 ((bif hA then
  (ao a0.Num 0 a0.Den).bind fun bA=>
  some bA
 else
  some false
  :Option Bool)).bind fun vA=>
 ((bif vA then
  (ao a0.Noise 0 16).bind fun oA=>
  some oA
 else
  some false
  :Option Bool)).bind fun kA=>
 ((bif kA then
  (ao a0.Chunks 1 64).bind fun dA=>
  some dA
 else
  some false
  :Option Bool)).bind fun eA=>
 ((bif eA then
  (ao a0.Workers 1 64).bind fun cA=>
  some cA
 else
  some false
  :Option Bool)).bind fun qA=>
 ((bif qA then
  (ao a0.Cap 0 1024).bind fun rA=>
  some rA
 else
  some false
  :Option Bool)).bind fun wA=>
 ((bif wA then
  (ao a0.Shards 1 64).bind fun gA=>
  some gA
 else
  some false
  :Option Bool)).bind fun mA=>
 some mA
theorem o6 {a0:af} {r0:Bool} (hF:bc a0=some r0) (L:List Res):Ok Tryz.prog 19 [SV.val ar a0] L (SV.raw (.bool r0)) L:=by
 unfold bc at hF
 refine okI 63 Tryz.func19 rfl rfl rfl fun F0=>?_
 refine bs hF fun x3 h2 hF=>sr<|bX (K:=ar) rfl rdV rfl<|a_ rfl<|ns<|oF fb24k rfl<|oL kt22 rfl<|oN Tryz.underlying22 rfl<|b_ rfl<|m_ rfl<|aK 12 x3 ?_ (fun k=>?_)
 ·refine bs hF fun x8 h7 hF=>m_ rfl<|aK 17 x8 ?_ (fun k=>?_)
  ·refine bs hF fun nA dA hF=>a_ rfl<|ns<|m_ rfl<|m_ rfl<|aK 23 nA ?_ (fun k=>?_)
   ·refine bs hF fun pA eA hF=>m_ rfl<|aK 28 pA ?_ (fun k=>?_)
    ·refine bs hF fun tA cA hF=>m_ rfl<|dT 35 tA ?_ (fun k=>?_)
     ·refine bs hF fun uA qA hF=>a_ rfl<|ns<|m_ rfl<|m_ rfl<|aK 41 uA ?_ (fun k=>?_)
      ·refine bs hF fun xB rA hF=>m_ rfl<|aK 46 xB ?_ (fun k=>?_)
       ·refine bs hF fun yB wA hF=>a_ rfl<|ns<|m_ rfl<|m_ rfl<|aK 52 yB ?_ (fun k=>?_)
        ·refine bs hF fun zB gA hF=>m_ rfl<|aK 57 zB ?_ (fun k=>?_)
         ·refine bs hF fun hB mA hF=>m_ rfl<|aK 62 hB ?_ (fun k=>?_)
          ·refine a_ rfl<|nt<|rc ?_
           cases osi hF
           exact rs Tryz.results19 (.tm rfl .nil) rfl rfl
          ·refine by_ (t:=58) rfl (fun yA=>?_) (fun yA=>?_)
           ·replace mA:=ctrue yA mA
            exact bs mA fun wB bB mA=>gc_ yA rfl<|oF fb24k10 rfl<|gc_ yA rfl<|oI kt3 rfl<|gc_ yA rfl<|cx Tryz.call28 rfl (o5 bB _)<|pT yA rfl<|rf 3 (rbq mA) rfl k
           ·replace mA:=cfalse yA mA
            exact sk_ yA rfl<|sk_ yA rfl<|sk_ yA rfl<|pF yA rfl<|rf 3 (rbq mA) rfl k
         ·refine by_ (t:=53) rfl (fun zA=>?_) (fun zA=>?_)
          ·replace gA:=ctrue zA gA
           exact bs gA fun gB vB gA=>gc_ zA rfl<|oF fb24k9 rfl<|gc_ zA rfl<|oI kt3 rfl<|gc_ zA rfl<|cx Tryz.call28 rfl (o5 vB _)<|pT zA rfl<|rf 3 (rbq gA) rfl k
          ·replace gA:=cfalse zA gA
           exact sk_ zA rfl<|sk_ zA rfl<|sk_ zA rfl<|pF zA rfl<|rf 3 (rbq gA) rfl k
        ·refine by_ (t:=48) rfl (fun hA=>?_) (fun hA=>?_)
         ·replace wA:=ctrue hA wA
          exact bs wA fun mB oB wA=>gc_ hA rfl<|oF fb24k8 rfl<|gc_ hA rfl<|oI kt3 rfl<|gc_ hA rfl<|cx Tryz.call28 rfl (o5 oB _)<|pT hA rfl<|rf 3 (rbq wA) rfl k
         ·replace wA:=cfalse hA wA
          exact sk_ hA rfl<|sk_ hA rfl<|sk_ hA rfl<|pF hA rfl<|rf 3 (rbq wA) rfl k
       ·refine by_ (t:=42) rfl (fun bA=>?_) (fun bA=>?_)
        ·replace rA:=ctrue bA rA
         exact bs rA fun nB kB rA=>gc_ bA rfl<|oF fb24k7 rfl<|gc_ bA rfl<|oI kt3 rfl<|gc_ bA rfl<|cx Tryz.call28 rfl (o5 kB _)<|pT bA rfl<|rf 3 (rbq rA) rfl k
        ·replace rA:=cfalse bA rA
         exact sk_ bA rfl<|sk_ bA rfl<|sk_ bA rfl<|pF bA rfl<|rf 3 (rbq rA) rfl k
      ·refine by_ (t:=37) rfl (fun vA=>?_) (fun vA=>?_)
       ·replace qA:=ctrue vA qA
        exact bs qA fun pB dB qA=>gc_ vA rfl<|oF fb24k6 rfl<|gc_ vA rfl<|oI kt3 rfl<|gc_ vA rfl<|cx Tryz.call28 rfl (o5 dB _)<|pT vA rfl<|rf 3 (rbq qA) rfl k
       ·replace qA:=cfalse vA qA
        exact sk_ vA rfl<|sk_ vA rfl<|sk_ vA rfl<|pF vA rfl<|rf 3 (rbq qA) rfl k
     ·refine by_ (t:=29) rfl (fun xA=>?_) (fun xA=>?_)
      ·replace cA:=ctrue xA cA
       exact bs cA fun tB eB cA=>gc_ xA rfl<|oF fb24k5 rfl<|gc_ xA rfl<|oI kt3 rfl<|gc_ xA rfl<|oF fb24k4 rfl<|gc_ xA rfl<|oI kt3 rfl<|gc_ xA rfl<|cx Tryz.call28 rfl (o5 eB _)<|pT xA rfl<|rf 5 (rbq cA) rfl k
      ·replace cA:=cfalse xA cA
       exact sk_ xA rfl<|sk_ xA rfl<|sk_ xA rfl<|sk_ xA rfl<|sk_ xA rfl<|pF xA rfl<|rf 5 (rbq cA) rfl k
    ·refine by_ (t:=24) rfl (fun oA=>?_) (fun oA=>?_)
     ·replace eA:=ctrue oA eA
      exact bs eA fun uB cB eA=>gc_ oA rfl<|oF fb24k4 rfl<|gc_ oA rfl<|oI kt3 rfl<|gc_ oA rfl<|cx Tryz.call28 rfl (o5 cB _)<|pT oA rfl<|rf 3 (rbq eA) rfl k
     ·replace eA:=cfalse oA eA
      exact sk_ oA rfl<|sk_ oA rfl<|sk_ oA rfl<|pF oA rfl<|rf 3 (rbq eA) rfl k
   ·refine by_ (t:=19) rfl (fun kA=>?_) (fun kA=>?_)
    ·replace dA:=ctrue kA dA
     exact bs dA fun xC qB dA=>gc_ kA rfl<|oF fb24k3 rfl<|gc_ kA rfl<|oI kt3 rfl<|gc_ kA rfl<|cx Tryz.call28 rfl (o5 qB _)<|pT kA rfl<|rf 3 (rbq dA) rfl k
    ·replace dA:=cfalse kA dA
     exact sk_ kA rfl<|sk_ kA rfl<|sk_ kA rfl<|pF kA rfl<|rf 3 (rbq dA) rfl k
  ·refine by_ (t:=13) rfl (fun c6=>?_) (fun c6=>?_)
   ·replace h7:=ctrue c6 h7
    exact bs h7 fun y9 rB h7=>gc_ c6 rfl<|oF fb24k2 rfl<|gc_ c6 rfl<|oI kt3 rfl<|gc_ c6 rfl<|cx Tryz.call28 rfl (o5 rB _)<|pT c6 rfl<|rf 3 (rbq h7) rfl k
   ·replace h7:=cfalse c6 h7
    exact sk_ c6 rfl<|sk_ c6 rfl<|sk_ c6 rfl<|pF c6 rfl<|rf 3 (rbq h7) rfl k
 ·refine by_ (t:=8) rfl (fun c1=>?_) (fun c1=>?_)
  ·replace h2:=ctrue c1 h2
   exact bs h2 fun y4 h5 h2=>gc_ c1 rfl<|oF fb24k1 rfl<|gc_ c1 rfl<|oI kt3 rfl<|gc_ c1 rfl<|cx Tryz.call28 rfl (o5 h5 _)<|pT c1 rfl<|rf 3 (rbq h2) rfl k
  ·replace h2:=cfalse c1 h2
   exact sk_ c1 rfl<|sk_ c1 rfl<|sk_ c1 rfl<|pF c1 rfl<|rf 3 (rbq h2) rfl k
noncomputable def bz (a0:aa):Option Int:=
 (((Loop.run (S:=(Int×Int)) (R:=Int) (fun(yA,xA)=>
   bif decide (xA<(a0.Epochs.length:Int)) then
    (idx a0.Epochs xA).bind fun zA=>
    some (.next (IntKind.wrap .i64 (yA+(zA.Tags.length:Int)),IntKind.wrap .i64 (xA+1)))
   else
    some (.done yA)) (0,0)).bind fun hA=>
 some hA
  :Option Int)).bind fun bA=>
 some bA
theorem o7 {a0:aa} {r0:Int} (hF:bz a0=some r0) (L:List Res):Ok Tryz.prog 29 [SV.val ak a0] L (SV.raw (.int .i64 r0)) L:=by
 unfold bz at hF
 refine okI 20 Tryz.func29 rfl rfl rfl fun F0=>?_
 refine bs hF fun zA hA hF=>sr<|bX (K:=ak) rfl rdV rfl<|a_ rfl<|ns<|a_ rfl<|nt<|sq<|afr (r:=zA) (fun zA=>[(3,.raw (.int .i64 zA))]) (fun zA=>(L)) ?_ fun K vA=>?_
 ·refine sr<|m_ rfl<|a_ rfl<|nt<|rc ?_
  cases osi hF
  exact rs Tryz.results29 (.tm rfl .nil) rfl rfl
 ·refine bs hA fun cA oA hA=>sr<|oF fb27k1 rfl<|oL kt25 rfl<|oN Tryz.underlying25 rfl<|m_ rfl<|nt<|bk<|lp oA () (fun yA bA=>[(3,.raw (.int .i64 yA.1)),(7,.val (kSl ai) a0.Epochs),(8,.raw (.int .i64 (a0.Epochs.length:Int))),(9,.raw (.int .i64 yA.2))]) (fun yA bA=>L) rfl rfl fun yA bA qA xA kA=>?_
  obtain⟨rA,wA⟩:=yA
  dsimp only at xA⊢
  refine sr<|b_ rfl<|nt<|sq<|it xA rfl (fun xA=>?_) (fun xA=>?_)
  ·exact bs xA fun dA eA xA=>ct<|sq<|bk<|sr<|oS eA Tryz.underlying25 sz57 rfl<|oL kt57 rfl<|al ZT57 rfl fun gA=>sP (x':=dA) .box .id sz57k rfl rfl rdV rfl<|nl<|fz (t:=5) rfl<|tn<|rg<|m_ rfl<|oF fb57k rfl<|oL kt55 rfl<|oN Tryz.underlying55 rfl<|b_ rfl<|a_ rfl<|nl<|bN<|tn<|rg<|b_ rfl<|m_ rfl<|nl<|nx () xA rfl rfl
  ·refine xt<|te ?_
   cases aG xA kA
   exact te<|bh<|tn<|wr (vA _ (osi hA).symm) rfl
noncomputable def bq (a0:aa):Option (List ((List Int)×Int)):=
 (((Loop.run (S:=(Int×(List ((List Int)×Int)))) (R:=(List ((List Int)×Int))) (fun(xA,zA)=>
   bif decide (xA<(a0.Epochs.length:Int)) then
    (((idx a0.Epochs xA).bind fun hA=>
    (Loop.run (S:=(Int×(List ((List Int)×Int)))) (R:=(List ((List Int)×Int))) (fun(yA,bA)=>
      bif decide (yA<(hA.Tags.length:Int)) then
       (idx hA.Tags yA).bind fun vA=>
       some (.next (IntKind.wrap .i64 (yA+1),mset vA xA bA))
      else
       some (.done bA)) (0,zA)).bind fun oA=>
    some oA
     :Option (List ((List Int)×Int)))).bind fun kA=>
    some (.next (IntKind.wrap .i64 (xA+1),kA))
   else
    some (.done zA)) (0,[])).bind fun dA=>
 some dA
  :Option (List ((List Int)×Int)))).bind fun eA=>
 some eA
theorem o8 {a0:aa} {r0:(List ((List Int)×Int))} (hF:bq a0=some r0) (L:List Res):Ok Tryz.prog 30 [SV.val ak a0] L (SV.val (kMap K1 (kInt .i64)) r0) L:=by
 unfold bq at hF
 refine okI 30 Tryz.func30 rfl rfl rfl fun F0=>?_
 refine bs hF fun vA kA hF=>sr<|bX (K:=ak) rfl rdV rfl<|a_ rfl<|ns<|Under.mkm K1 (kInt .i64) rfl fun b1=>a_ rfl<|nt<|sq<|afr (r:=vA) (fun vA=>[(3,.val (kMap K1 (kInt .i64)) vA)]) (fun vA=>(L)) ?_ fun K rA=>?_
 ·refine sr<|m_ rfl<|a_ rfl<|nt<|rc ?_
  cases osi hF
  exact rs Tryz.results30 (.tm rfl .nil) rfl rfl
 ·refine bs kA fun yB wA kA=>sr<|oF fb27k1 rfl<|oL kt25 rfl<|oN Tryz.underlying25 rfl<|m_ rfl<|nt<|bk<|lp wA () (fun zA cA=>[(3,.raw (.map (some b1))),(10,.val (kSl ai) a0.Epochs),(11,.raw (.int .i64 (a0.Epochs.length:Int))),(12,.raw (.int .i64 zA.1))]) (fun zA cA=>(.mp K1 (kInt .i64) b1 zA.2)::L) rfl rfl fun zA cA zB xA gA=>?_
  obtain⟨dA,hB⟩:=zA
  dsimp only at xA⊢
  refine sr<|b_ rfl<|nt<|sq<|it xA rfl (fun xA=>?_) (fun xA=>?_)
  ·refine bs xA fun oA hA xA=>ct<|sq<|afr (r:=oA) (fun oA=>[(3,.raw (.map (some b1))),(10,.val (kSl ai) a0.Epochs),(11,.raw (.int .i64 (a0.Epochs.length:Int))),(12,.raw (.int .i64 dA))]) (fun oA=>((.mp K1 (kInt .i64) b1 oA)::L)) ?_ fun K mA=>?_
   ·exact rg<|b_ rfl<|m_ rfl<|nl<|nx () xA rfl rfl
   ·refine bs hA fun eA nA hA=>bs hA fun bB pA hA=>bk<|sr<|m_ rfl<|oS nA Tryz.underlying25 sz57 rfl<|oL kt57 rfl<|al ZT57 rfl fun vB=>a_ rfl<|sP (x':=eA) .box .id sz57k rfl rfl rdV rfl<|nl<|fz (t:=5) rfl<|tn<|sr<|oF fb57k rfl<|oL kt55 rfl<|oN Tryz.underlying55 rfl<|m_ rfl<|nt<|bk<|lp pA () (fun bA qA=>[(3,.raw (.map (some b1))),(4,.raw (.int .i64 dA)),(10,.val (kSl ai) a0.Epochs),(11,.raw (.int .i64 (a0.Epochs.length:Int))),(12,.raw (.int .i64 dA)),(18,.val K0 eA.Tags),(19,.raw (.int .i64 (eA.Tags.length:Int))),(20,.raw (.int .i64 bA.1))]) (fun bA qA=>(.mp K1 (kInt .i64) b1 bA.2)::L) rfl rfl fun bA qA oB yA tA=>?_
    obtain⟨kB,dB⟩:=bA
    dsimp only at yA⊢
    refine sr<|b_ rfl<|nt<|sq<|it yA rfl (fun yA=>?_) (fun yA=>?_)
    ·exact bs yA fun uA xB yA=>ct<|sq<|bk<|sr<|oS xB Tryz.underlying55 sz70 rfl<|oL kt70 rfl<|al ZT70 rfl fun eB=>sP (x':=uA) .box .id sz70k rfl rfl rdV rfl<|nl<|fz (t:=7) rfl<|tn<|rg<|m_ rfl<|oL kt70 rfl<|m_ rfl<|Under.mup key70 Tryz.underlying75 rfl rfl rdV rfl rdI<|nl<|bN<|tn<|rg<|b_ rfl<|m_ rfl<|nl<|nx () yA rfl rfl
    ·refine xt<|te ?_
     cases aG yA tA
     exact te<|bh<|bN<|tn<|wr (mA _ (osi hA).symm) rfl
  ·refine Under.frzM (t:=3) rfl<|xt<|te ?_
   cases aG xA gA
   exact te<|bh<|tn<|wr (rA _ (osi kA).symm) rfl
noncomputable def ci (a0:Int) (a1:Int) (a2:Int):Option Bool:=
 some ((decide (a0≤a1))&&(decide ((IntKind.wrap .i64 (a1 - a0))<a2)))
theorem o9 {a0 a1 a2:Int} {r0:Bool} (hF:ci a0 a1 a2=some r0) (L:List Res):Ok Tryz.prog 31 [SV.raw (.int .i64 a0),SV.raw (.int .i64 a1),SV.raw (.int .i64 a2)] L (SV.raw (.bool r0)) L:=by
 unfold ci at hF
 refine okI 17 Tryz.func31 rfl rfl rfl fun F0=>?_
 refine sr<|a_ rfl<|ns<|m_ rfl<|mb rfl<|m_ rfl<|dT 16 ((decide (a0≤a1))&&(decide ((IntKind.wrap .i64 (a1 - a0))<a2))) ?_ (fun k=>?_)
 ·refine a_ rfl<|nt<|rc ?_
  cases osi hF
  exact rs Tryz.results31 (.tm rfl .nil) rfl rfl
 ·refine by_ (t:=10) rfl (fun c1=>?_) (fun c1=>?_)
  ·exact gc_ c1 rfl<|m_ rfl<|gc_ c1 rfl<|m_ rfl<|gc_ c1 rfl<|b_ rfl<|gc_ c1 rfl<|m_ rfl<|gc_ c1 rfl<|b_ rfl<|pT c1 rfl<|rf 5 (fT c1) rfl k
  ·exact sk_ c1 rfl<|sk_ c1 rfl<|sk_ c1 rfl<|sk_ c1 rfl<|sk_ c1 rfl<|pF c1 rfl<|rf 5 (fU (e:=decide ((IntKind.wrap .i64 (a1 - a0))<a2)) c1) rfl k
noncomputable def bK (a0:List Int) (a1:List Int):Option Int:=
 some (cmpB a0 a1)
theorem o10 {a0 a1:List Int} {r0:Int} (hF:bK a0 a1=some r0) (L:List Res):Ok Tryz.prog 34 [SV.val (kSl K2) a0,SV.val (kSl K2) a1] L (SV.raw (.int .i64 r0)) L:=by
 unfold bK at hF
 refine okI 8 Tryz.func34 rfl rfl rfl fun F0=>?_
 refine sr<|a_ rfl<|ns<|m_ rfl<|m_ rfl<|ov (OpV.cmp Tryz.func35 nn35 nb35 nx35 fd35 rfl rfl rdV rfl rdV) rfl<|a_ rfl<|nt<|rc ?_
 cases osi hF
 exact rs Tryz.results34 (.tm rfl .nil) rfl rfl
noncomputable def br (a0:List Int) (a1:List Int):Option Int:=
 (bK a0 a1).bind fun y1=>
 some y1
theorem o11 {a0 a1:List Int} {r0:Int} (hF:br a0 a1=some r0) (L:List Res):Ok Tryz.prog 33 [SV.val K1 a0,SV.val K1 a1] L (SV.raw (.int .i64 r0)) L:=by
 unfold br at hF
 refine okI 8 Tryz.func33 rfl rfl rfl fun F0=>?_
 refine bs hF fun y1 h2 hF=>sr<|bX (K:=kArr 16 K2) rfl rdV rfl<|bX (K:=kArr 16 K2) rfl rdV rfl<|a_ rfl<|nt<|sq<|dw rfl (by kernel_rfl) fun F hF0=>oq (OpV.slA Tryz.underlying70 sz5 rfl) rfl<|oq (OpV.slA Tryz.underlying70 sz5 rfl) rfl<|oq (OpV.call Tryz.call34 rfl rfl (fun L=>(o10 h2 L))) rfl<|agq rfl rfl<|nlq hF0<|tn<|rc ?_
 cases osi hF
 exact rs Tryz.results33 (.tm rfl .nil) rfl rfl
noncomputable def aq (a0:List (List Int)):Option Bool:=
 (((Loop.run (S := Int) (R := (Unit ⊕ Bool)) (fun xA =>
   bif decide (xA>0) then
    (idx a0 xA).bind fun yA=>
    (idx a0 (IntKind.wrap .i64 (xA - 1))).bind fun zA=>
    (br yA zA).bind fun hA=>
    bif decide (hA<0) then
     some (.done (.inr false))
    else
     some (.next (IntKind.wrap .i64 (xA - 1)))
   else
    some (.done (.inl ()))) (IntKind.wrap .i64 ((a0.length:Int) - 1))).bind fun bA=>match bA with
  | .inl _=>
   some (.inr ())
  | .inr z=>
   some (.inl z)
  : Option (Bool ⊕ Unit))).bind fun vA => match vA with
  | .inl z=>
   some z
  | .inr _=>
   some true
theorem o12 {a0:List (List Int)} {r0:Bool} (hF:aq a0=some r0) (L:List Res):Ok Tryz.prog 32 [SV.val K0 a0,SV.raw (.func (.func 33) #[] #[])] L (SV.raw (.bool r0)) L:=by
 unfold aq at hF
 refine okI 25 Tryz.func32 rfl rfl rfl fun F0=>?_
 refine bs hF fun oA yA hF=>sr<|a_ rfl<|nt<|sq<|Under.after (fun X=>∀(_:Unit),oA=(.inr ())→Under F0 25 [] (L) X) ?_ ?_
 ·intro _ zA
  replace zA:=zA.symm
  subst zA
  refine sr<|a_ rfl<|nt<|rc ?_
  cases osi hF
  exact rs Tryz.results32 (.tm rfl .nil) rfl rfl
 ·intro K kA
  refine bs yA fun rA dA yA=>sr<|m_ rfl<|oN Tryz.underlying55 rfl<|b_ rfl<|a_ rfl<|nt<|bk<|lp dA () (fun hA bA=>[(0,.val K0 a0),(1,.raw (.func (.func 33) #[] #[])),(5,.raw (.int .i64 hA))]) (fun hA bA=>L) rfl rfl fun hA bA wA xA vA=>?_
  refine sq<|sr<|mb rfl<|nt<|it xA rfl (fun xA=>?_) (fun xA=>?_)
  ·refine bs xA fun gA eA xA=>bs xA fun mA cA xA=>bs xA fun nA qA xA=>ct<|sq<|bk<|sq<|dw rfl (by kernel_rfl) fun F hF0=>mvq rfl rfl<|mvq rfl rfl<|mvq rfl rfl<|oq (OpV.ixS eA Tryz.underlying55 sz70 rfl rdV rfl) rfl<|oq (OpV.ld kt70 rfl) rfl<|mvq rfl rfl<|mvq rfl rfl<|bnq rfl rfl rfl rfl<|oq (OpV.ixS cA Tryz.underlying55 sz70 rfl rdV rfl) rfl<|oq (OpV.ld kt70 rfl) rfl<|oq (OpV.call Tryz.call33 rfl rfl (fun L=>(o11 qA L))) rfl<|bnq rfl rfl rfl rfl<|nlq hF0<|tn<|it xA rfl (fun xA=>?_) (fun xA=>?_)
   ·refine sr<|a_ rfl<|nt<|rc<|Under.bR<|tr ?_
    cases aG xA vA
    refine tr<|Under.bR<|tr ?_
    cases osi yA
    cases osi hF
    exact rs Tryz.results32 (.tm rfl .nil) rfl rfl
   ·exact cs<|bN<|tn<|rg<|mb rfl<|a_ rfl<|nl<|nx () xA rfl rfl
  ·refine xt<|te ?_
   cases aG xA vA
   exact te<|bh<|tn<|wr (kA () (osi yA).symm) rfl
noncomputable def bf (a0:aa) (a1:Int) (a2:Int):Option Int:=
 bif (((decide (a1<1))||(decide (a1>8)))||(decide (a2<0)))||(decide (a2>4096)) then
  some 2
 else
  ((bif (decide (a0.Newest<0))||(decide (a0.Newest>4611686018427387904)) then
   some true
  else
   (bz a0).bind fun cA=>
   some (decide (cA>a2))
   :Option Bool)).bind fun qA=>
  ((bif qA then
   some true
  else
   (bq a0).bind fun rA=>
   (bz a0).bind fun wA=>
   some ((rA.length:Int) != wA)
   :Option Bool)).bind fun gA=>
  bif gA then
   some 2
  else
   (((Loop.run (S := Int) (R := (Unit ⊕ Int)) (fun xA =>
     bif decide (xA<(a0.Epochs.length:Int)) then
      (idx a0.Epochs xA).bind fun yA=>
      ((bif decide (yA.Number<0) then
       some true
      else
       (ci yA.Number a0.Newest a1).bind fun zA=>
       some (!zA)
       :Option Bool)).bind fun hA=>
      ((bif hA then
       some true
      else
       ((bif decide (xA>0) then
        (idx a0.Epochs (IntKind.wrap .i64 (xA - 1))).bind fun bA=>
        some (decide (yA.Number≤bA.Number))
       else
        some false
        :Option Bool)).bind fun vA=>
       some vA
       :Option Bool)).bind fun oA=>
      bif oA||((yA.Tags.length:Int)==0) then
       some (.done (.inr 2))
      else
       (aq yA.Tags).bind fun kA=>
       bif !kA then
        some (.done (.inr 2))
       else
        some (.next (IntKind.wrap .i64 (xA+1)))
     else
      some (.done (.inl ()))) 0).bind fun dA=>match dA with
    | .inl _=>
     some (.inr ())
    | .inr z=>
     some (.inl z)
    : Option (Int ⊕ Unit))).bind fun eA => match eA with
    | .inl z=>
     some z
    | .inr _=>
     some 0
theorem o13 {a0:aa} {a1 a2:Int} {r0:Int} (hF:bf a0 a1 a2=some r0) (L:List Res):Ok Tryz.prog 20 [SV.val ak a0,SV.raw (.int .i64 a1),SV.raw (.int .i64 a2)] L (SV.raw (.int .i64 r0)) L:=by
 unfold bf at hF
 refine okI 92 Tryz.func20 rfl rfl rfl fun F0=>?_
 refine sr<|bX (K:=ak) rfl rdV rfl<|a_ rfl<|nt<|sq<|sr<|mb rfl<|m_ rfl<|dU 14 ((decide (a1<1))||(decide (a1>8))) ?_ (fun k=>?_)
 ·refine m_ rfl<|dU 18 (((decide (a1<1))||(decide (a1>8)))||(decide (a2<0))) ?_ (fun k=>?_)
  ·refine m_ rfl<|dU 22 ((((decide (a1<1))||(decide (a1>8)))||(decide (a2<0)))||(decide (a2>4096))) ?_ (fun k=>?_)
   ·refine nt<|it hF rfl (fun hF=>?_) (fun hF=>?_)
    ·refine sr<|a_ rfl<|nt<|rt ?_
     cases osi hF
     exact rs Tryz.results20 (.tm rfl .nil) rfl rfl
    ·refine bs hF fun pA gA hF=>bs hF fun zB dA hF=>ct<|sq<|sq<|Under.drawz [[3],[23],[24],[25],[3,26],[26,27],[26,28],[26,29],[30],[3,31],[31,32],[2,31],[31,33,34],[31,35],[36],[3,37],[37,38],[37,39],[3,37],[37,41],[37,40,42],[37,43]] [(44,.raw (.bool zB))] rfl (by kernel_rfl) rfl ?_ (fun k F hF0=>?_)
     ·refine tn<|it hF rfl (fun hF=>?_) (fun hF=>?_)
      ·refine sr<|a_ rfl<|nt<|rt ?_
       cases osi hF
       exact rs Tryz.results20 (.tm rfl .nil) rfl rfl
      ·refine bs hF fun vB nA hF=>ct<|sq<|Under.after (fun X=>∀(_:Unit),vB=(.inr ())→Under F0 92 [] (L) X) ?_ ?_
       ·intro _ tA
        replace tA:=tA.symm
        subst tA
        refine sr<|a_ rfl<|nt<|rc ?_
        cases osi hF
        exact rs Tryz.results20 (.tm rfl .nil) rfl rfl
       ·intro K oB
        refine bs nA fun pB kB nA=>sr<|oF fb27k1 rfl<|oL kt25 rfl<|oN Tryz.underlying25 rfl<|m_ rfl<|nt<|bk<|lp kB () (fun uA hB=>[(1,.raw (.int .i64 a1)),(3,.ptr ak a0),(46,.val (kSl ai) a0.Epochs),(47,.raw (.int .i64 (a0.Epochs.length:Int))),(48,.raw (.int .i64 uA))]) (fun uA hB=>L) rfl rfl fun uA hB tB yA xB=>?_
        refine sr<|b_ rfl<|nt<|sq<|it yA rfl (fun yA=>?_) (fun yA=>?_)
        ·refine bs yA fun yB dB yA=>bs yA fun eB eA yA=>ct<|sq<|bk<|sr<|m_ rfl<|oS dB Tryz.underlying25 sz57 rfl<|oL kt57 rfl<|al ZT57 rfl fun uB=>a_ rfl<|sP (x':=yB) .box .id sz57k rfl rfl rdV rfl<|nl<|fz (t:=8) rfl<|tn<|sq<|sq<|dw rfl (by kernel_rfl) fun F hF0=>oq (OpV.fd fb57k1 rfl rfl) rfl<|oq (OpV.ldI kt2 rfl) rfl<|bnq rfl rfl rfl rfl<|mvq rfl rfl<|iI 64 eB ?_ (fun k=>?_)
         ·refine bs yA fun bB cA yA=>mvq rfl rfl<|iu 80 bB ?_ (fun k=>?_)
          ·refine mvq rfl rfl<|iH 86 (bB||((yB.Tags.length:Int)==0)) ?_ (fun k=>?_)
           ·refine nlq hF0<|tn<|it yA rfl (fun yA=>?_) (fun yA=>?_)
            ·refine sr<|a_ rfl<|nt<|rt<|Under.bR<|tr ?_
             cases aG yA xB
             refine tr<|Under.bR<|tr ?_
             cases osi nA
             cases osi hF
             exact rs Tryz.results20 (.tm rfl .nil) rfl rfl
            ·refine bs yA fun xC cB yA=>ct<|sr<|oF fb57k rfl<|oL kt55 rfl<|cx Tryz.call32 rfl (o12 cB _)<|ov (OpV.not rfl) rfl<|nt<|it yA rfl (fun yA=>?_) (fun yA=>?_)
             ·refine sr<|a_ rfl<|nt<|rc<|Under.bR<|tr ?_
              cases aG yA xB
              refine tr<|Under.bR<|tr ?_
              cases osi nA
              cases osi hF
              exact rs Tryz.results20 (.tm rfl .nil) rfl rfl
             ·exact cs<|bN<|tn<|rg<|b_ rfl<|m_ rfl<|nl<|nx () yA rfl rfl
           ·refine byq (t:=81) rfl (fun vA=>?_) (fun vA=>?_)
            ·exact skq vA rfl rfl rfl<|skq vA rfl rfl rfl<|skq vA rfl rfl rfl<|skq vA rfl rfl rfl<|oq (pkT vA rfl rfl) rfl<|rfq 4 (or_t (e:=(yB.Tags.length:Int)==0) vA) rfl k
            ·exact gq vA rfl rfl<|oq (OpV.fd fb57k rfl rfl) rfl<|gq vA rfl rfl<|oq (OpV.ld kt55 rfl) rfl<|gq vA rfl rfl<|oq (OpV.len Tryz.underlying55 rfl rdV) rfl<|gq vA rfl rfl<|bnq rfl rfl rfl rfl<|oq (pkF vA rfl rfl) rfl<|rfq 4 (or_f vA) rfl k
          ·refine byq (t:=65) rfl (fun bA=>?_) (fun bA=>?_)
           ·replace cA:=ctrue bA cA
            exact skq bA rfl rfl rfl<|skq bA rfl rfl rfl<|skq bA rfl rfl rfl<|ae.sku rfl rfl rfl<|ae.sku rfl rfl rfl<|ae.sku rfl rfl rfl<|ae.sku rfl rfl rfl<|ae.sku rfl rfl rfl<|ae.sku rfl rfl rfl<|ae.sku rfl rfl rfl<|ae.sku rfl rfl rfl<|ae.sku rfl rfl rfl<|ae.sku rfl rfl rfl<|skq bA rfl rfl rfl<|oq (pkT bA rfl rfl) rfl<|rfq 14 (rbq cA) rfl k
           ·replace cA:=cfalse bA cA
            refine bs cA fun qB qA cA=>gq bA rfl rfl<|mvq rfl rfl<|gq bA rfl rfl<|bnq rfl rfl rfl rfl<|gq bA rfl rfl<|mvq rfl rfl<|eX 79 qB ?_ (fun k=>?_)
            ·exact oq (pkF bA rfl rfl) rfl<|rfq 4 (rbq cA) rfl k
            ·refine byq (t:=68) rfl (fun xA=>?_) (fun xA=>?_)
             ·replace qA:=ctrue xA qA
              exact bs qA fun yC rB qA=>gq xA rfl rfl<|oq (OpV.fd fb57k1 rfl rfl) rfl<|gq xA rfl rfl<|oq (OpV.ldI kt2 rfl) rfl<|gq xA rfl rfl<|oq (OpV.fd fb27k1 rfl rfl) rfl<|gq xA rfl rfl<|oq (OpV.ld kt25 rfl) rfl<|gq xA rfl rfl<|mvq rfl rfl<|gq xA rfl rfl<|bnq rfl rfl rfl rfl<|gq xA rfl rfl<|oq (OpV.ixS rB Tryz.underlying25 sz57 rfl rdV rfl) rfl<|gq xA rfl rfl<|oq (OpV.fd fb57k1 rfl rfl) rfl<|gq xA rfl rfl<|oq (OpV.ldI kt2 rfl) rfl<|gq xA rfl rfl<|bnq rfl rfl rfl rfl<|gq bA rfl rfl<|oq (pkT xA rfl rfl) rfl<|rfq 10 (rbq qA) rfl k
             ·replace qA:=cfalse xA qA
              exact skq xA rfl rfl rfl<|skq xA rfl rfl rfl<|skq xA rfl rfl rfl<|skq xA rfl rfl rfl<|skq xA rfl rfl rfl<|skq xA rfl rfl rfl<|skq xA rfl rfl rfl<|skq xA rfl rfl rfl<|skq xA rfl rfl rfl<|skq xA rfl rfl rfl<|gq bA rfl rfl<|oq (pkF xA rfl rfl) rfl<|rfq 10 (rbq qA) rfl k
         ·refine byq (t:=56) rfl (fun zA=>?_) (fun zA=>?_)
          ·replace eA:=ctrue zA eA
           exact skq zA rfl rfl rfl<|skq zA rfl rfl rfl<|skq zA rfl rfl rfl<|skq zA rfl rfl rfl<|skq zA rfl rfl rfl<|skq zA rfl rfl rfl<|skq zA rfl rfl rfl<|oq (pkT zA rfl rfl) rfl<|rfq 7 (rbq eA) rfl k
          ·replace eA:=cfalse zA eA
           exact bs eA fun zC wB eA=>gq zA rfl rfl<|oq (OpV.fd fb57k1 rfl rfl) rfl<|gq zA rfl rfl<|oq (OpV.ldI kt2 rfl) rfl<|gq zA rfl rfl<|oq (OpV.fd fb27k rfl rfl) rfl<|gq zA rfl rfl<|oq (OpV.ldI kt2 rfl) rfl<|gq zA rfl rfl<|mvq rfl rfl<|gq zA rfl rfl<|oq (OpV.call Tryz.call31 rfl rfl (fun L=>(o9 wB L))) rfl<|gq zA rfl rfl<|oq (OpV.not rfl) rfl<|oq (pkF zA rfl rfl) rfl<|rfq 7 (rbq eA) rfl k
        ·refine xt<|te ?_
         cases aG yA xB
         exact te<|bh<|tn<|wr (oB () (osi nA).symm) rfl
     ·refine Zq.st (.ptr (kInt .i64) a0.Newest) (fun G hG=>?_) ?_
      ·exact oF fb27k rfl<|Zq.done rfl
      refine Zq.st (.raw (.int .i64 a0.Newest)) (fun G hG=>?_) ?_
      ·exact oI kt2 rfl<|Zq.done rfl
      refine Zq.st (.raw (.bool (decide (a0.Newest<0)))) (fun G hG=>?_) ?_
      ·exact b_ rfl<|Zq.done rfl
      refine Zq.st (.raw (.bool (decide (a0.Newest<0)))) (fun G hG=>?_) ?_
      ·exact m_ rfl<|Zq.done rfl
      refine Zq.by (decide (a0.Newest<0)) (fun kA=>?_) (fun kA=>?_)
      ·refine Zq.st (.raw undef) (fun G hG=>?_) ?_
       ·exact sk_ kA rfl<|Zq.done rfl
       refine Zq.st (.raw undef) (fun G hG=>?_) ?_
       ·exact sk_ kA rfl<|Zq.done rfl
       refine Zq.st (.raw undef) (fun G hG=>?_) ?_
       ·exact sk_ kA rfl<|Zq.done rfl
       refine Zq.st (.raw (.bool ((decide (a0.Newest<0))||(decide (a0.Newest>4611686018427387904))))) (fun G hG=>?_) ?_
       ·exact pT kA rfl<|Under.top (or_t (e:=decide (a0.Newest>4611686018427387904)) kA)<|Zq.done rfl
       have mA:=iR (e:=decide (a0.Newest>4611686018427387904)) kA
       refine Zq.st (.raw (.bool ((decide (a0.Newest<0))||(decide (a0.Newest>4611686018427387904))))) (fun G hG=>?_) ?_
       ·exact m_ rfl<|Zq.done rfl
       replace gA:=ctrue mA gA
       refine Zq.st (.raw undef) (fun G hG=>?_) ?_
       ·exact sk_ mA rfl<|Zq.done rfl
       refine Zq.st (.raw undef) (fun G hG=>?_) ?_
       ·exact sk_ mA rfl<|Zq.done rfl
       refine Zq.st (.raw undef) (fun G hG=>?_) ?_
       ·exact sk_ mA rfl<|Zq.done rfl
       refine Zq.st (.raw undef) (fun G hG=>?_) ?_
       ·exact sk_ mA rfl<|Zq.done rfl
       refine Zq.st (.raw (.bool pA)) (fun G hG=>?_) ?_
       ·exact pT mA rfl<|Under.top (rbq gA)<|Zq.done rfl
       have rA:=(osi gA).symm
       refine Zq.st (.raw (.bool pA)) (fun G hG=>?_) ?_
       ·exact m_ rfl<|Zq.done rfl
       replace dA:=ctrue rA dA
       refine Zq.st (.raw undef) (fun G hG=>?_) ?_
       ·exact sk_ rA rfl<|Zq.done rfl
       refine Zq.st (.raw undef) (fun G hG=>?_) ?_
       ·exact sk_ rA rfl<|Zq.done rfl
       refine Zq.st (.raw undef) (fun G hG=>?_) ?_
       ·exact sk_ rA rfl<|Zq.done rfl
       refine Zq.st (.raw undef) (fun G hG=>?_) ?_
       ·exact sk_ rA rfl<|Zq.done rfl
       refine Zq.st (.raw undef) (fun G hG=>?_) ?_
       ·exact sk_ rA rfl<|Zq.done rfl
       refine Zq.st (.raw undef) (fun G hG=>?_) ?_
       ·exact sk_ rA rfl<|Zq.done rfl
       refine Zq.st (.raw (.bool zB)) (fun G hG=>?_) ?_
       ·exact pT rA rfl<|Under.top (rbq dA)<|Zq.done rfl
       have hC:=(osi dA).symm
       exact Zq.nil (Zq.fin 22 hF0 (SubZ.cons rfl rfl SubZ.nil) rfl k)
      ·refine Zq.st (.ptr (kInt .i64) a0.Newest) (fun G hG=>?_) ?_
       ·exact gc_ kA rfl<|oF fb27k rfl<|Zq.done rfl
       refine Zq.st (.raw (.int .i64 a0.Newest)) (fun G hG=>?_) ?_
       ·exact gc_ kA rfl<|oI kt2 rfl<|Zq.done rfl
       refine Zq.st (.raw (.bool (decide (a0.Newest>4611686018427387904)))) (fun G hG=>?_) ?_
       ·exact gc_ kA rfl<|b_ rfl<|Zq.done rfl
       refine Zq.st (.raw (.bool ((decide (a0.Newest<0))||(decide (a0.Newest>4611686018427387904))))) (fun G hG=>?_) ?_
       ·exact pF kA rfl<|Under.top (or_f kA)<|Zq.done rfl
       refine Zq.st (.raw (.bool ((decide (a0.Newest<0))||(decide (a0.Newest>4611686018427387904))))) (fun G hG=>?_) ?_
       ·exact m_ rfl<|Zq.done rfl
       refine Zq.by ((decide (a0.Newest<0))||(decide (a0.Newest>4611686018427387904))) (fun oA=>?_) (fun oA=>?_)
       ·replace gA:=ctrue oA gA
        refine Zq.st (.raw undef) (fun G hG=>?_) ?_
        ·exact sk_ oA rfl<|Zq.done rfl
        refine Zq.st (.raw undef) (fun G hG=>?_) ?_
        ·exact sk_ oA rfl<|Zq.done rfl
        refine Zq.st (.raw undef) (fun G hG=>?_) ?_
        ·exact sk_ oA rfl<|Zq.done rfl
        refine Zq.st (.raw undef) (fun G hG=>?_) ?_
        ·exact sk_ oA rfl<|Zq.done rfl
        refine Zq.st (.raw (.bool pA)) (fun G hG=>?_) ?_
        ·exact pT oA rfl<|Under.top (rbq gA)<|Zq.done rfl
        have wA:=(osi gA).symm
        refine Zq.st (.raw (.bool pA)) (fun G hG=>?_) ?_
        ·exact m_ rfl<|Zq.done rfl
        replace dA:=ctrue wA dA
        refine Zq.st (.raw undef) (fun G hG=>?_) ?_
        ·exact sk_ wA rfl<|Zq.done rfl
        refine Zq.st (.raw undef) (fun G hG=>?_) ?_
        ·exact sk_ wA rfl<|Zq.done rfl
        refine Zq.st (.raw undef) (fun G hG=>?_) ?_
        ·exact sk_ wA rfl<|Zq.done rfl
        refine Zq.st (.raw undef) (fun G hG=>?_) ?_
        ·exact sk_ wA rfl<|Zq.done rfl
        refine Zq.st (.raw undef) (fun G hG=>?_) ?_
        ·exact sk_ wA rfl<|Zq.done rfl
        refine Zq.st (.raw undef) (fun G hG=>?_) ?_
        ·exact sk_ wA rfl<|Zq.done rfl
        refine Zq.st (.raw (.bool zB)) (fun G hG=>?_) ?_
        ·exact pT wA rfl<|Under.top (rbq dA)<|Zq.done rfl
        have bC:=(osi dA).symm
        exact Zq.nil (Zq.fin 22 hF0 (SubZ.cons rfl rfl SubZ.nil) rfl k)
       ·replace gA:=cfalse oA gA
        refine bs gA fun mB vC gA=>Zq.st (.val ak a0) (fun G hG=>?_) ?_
        ·exact gc_ oA rfl<|oL kt27 rfl<|Zq.done rfl
        refine Zq.st (.raw (.int .i64 mB)) (fun G hG=>?_) ?_
        ·exact gc_ oA rfl<|cx Tryz.call29 rfl (o7 vC _)<|Zq.done rfl
        refine Zq.st (.raw (.int .i64 a2)) (fun G hG=>?_) ?_
        ·exact gc_ oA rfl<|m_ rfl<|Zq.done rfl
        refine Zq.st (.raw (.bool (decide (mB>a2)))) (fun G hG=>?_) ?_
        ·exact gc_ oA rfl<|b_ rfl<|Zq.done rfl
        refine Zq.st (.raw (.bool pA)) (fun G hG=>?_) ?_
        ·exact pF oA rfl<|Under.top (rbq gA)<|Zq.done rfl
        refine Zq.st (.raw (.bool pA)) (fun G hG=>?_) ?_
        ·exact m_ rfl<|Zq.done rfl
        refine Zq.by pA (fun hA=>?_) (fun hA=>?_)
        ·replace dA:=ctrue hA dA
         refine Zq.st (.raw undef) (fun G hG=>?_) ?_
         ·exact sk_ hA rfl<|Zq.done rfl
         refine Zq.st (.raw undef) (fun G hG=>?_) ?_
         ·exact sk_ hA rfl<|Zq.done rfl
         refine Zq.st (.raw undef) (fun G hG=>?_) ?_
         ·exact sk_ hA rfl<|Zq.done rfl
         refine Zq.st (.raw undef) (fun G hG=>?_) ?_
         ·exact sk_ hA rfl<|Zq.done rfl
         refine Zq.st (.raw undef) (fun G hG=>?_) ?_
         ·exact sk_ hA rfl<|Zq.done rfl
         refine Zq.st (.raw undef) (fun G hG=>?_) ?_
         ·exact sk_ hA rfl<|Zq.done rfl
         refine Zq.st (.raw (.bool zB)) (fun G hG=>?_) ?_
         ·exact pT hA rfl<|Under.top (rbq dA)<|Zq.done rfl
         have oC:=(osi dA).symm
         exact Zq.nil (Zq.fin 22 hF0 (SubZ.cons rfl rfl SubZ.nil) rfl k)
        ·replace dA:=cfalse hA dA
         refine bs dA fun gB kC dA=>bs dA fun nB dC dA=>Zq.st (.val ak a0) (fun G hG=>?_) ?_
         ·exact gc_ hA rfl<|oL kt27 rfl<|Zq.done rfl
         refine Zq.st (.val (kMap K1 (kInt .i64)) gB) (fun G hG=>?_) ?_
         ·exact gc_ hA rfl<|cx Tryz.call30 rfl (o8 kC _)<|Zq.done rfl
         refine Zq.st (.raw (.int .i64 (gB.length:Int))) (fun G hG=>?_) ?_
         ·exact gc_ hA rfl<|ov (OpV.lenM Tryz.underlying75 rfl) rfl<|Zq.done rfl
         refine Zq.st (.val ak a0) (fun G hG=>?_) ?_
         ·exact gc_ hA rfl<|oL kt27 rfl<|Zq.done rfl
         refine Zq.st (.raw (.int .i64 nB)) (fun G hG=>?_) ?_
         ·exact gc_ hA rfl<|cx Tryz.call29 rfl (o7 dC _)<|Zq.done rfl
         refine Zq.st (.raw (.bool ((gB.length:Int) != nB))) (fun G hG=>?_) ?_
         ·exact gc_ hA rfl<|b_ rfl<|Zq.done rfl
         refine Zq.st (.raw (.bool zB)) (fun G hG=>?_) ?_
         ·exact pF hA rfl<|Under.top (rbq dA)<|Zq.done rfl
         exact Zq.nil (Zq.fin 22 hF0 (SubZ.cons rfl rfl SubZ.nil) rfl k)
   ·refine by_ (t:=19) rfl (fun c7=>?_) (fun c7=>?_)
    ·exact sk_ c7 rfl<|sk_ c7 rfl<|pT c7 rfl<|rf 2 (or_t (e:=decide (a2>4096)) c7) rfl k
    ·exact gc_ c7 rfl<|m_ rfl<|gc_ c7 rfl<|b_ rfl<|pF c7 rfl<|rf 2 (or_f c7) rfl k
  ·refine by_ (t:=15) rfl (fun c4=>?_) (fun c4=>?_)
   ·exact sk_ c4 rfl<|sk_ c4 rfl<|pT c4 rfl<|rf 2 (or_t (e:=decide (a2<0)) c4) rfl k
   ·exact gc_ c4 rfl<|m_ rfl<|gc_ c4 rfl<|b_ rfl<|pF c4 rfl<|rf 2 (or_f c4) rfl k
 ·refine by_ (t:=11) rfl (fun c1=>?_) (fun c1=>?_)
  ·exact sk_ c1 rfl<|sk_ c1 rfl<|pT c1 rfl<|rf 2 (or_t (e:=decide (a1>8)) c1) rfl k
  ·exact gc_ c1 rfl<|m_ rfl<|gc_ c1 rfl<|b_ rfl<|pF c1 rfl<|rf 2 (or_f c1) rfl k
noncomputable def aT (a0:af) (a1:ab):Option Int:=
 (bc a0).bind fun y1=>
 ((bif ((!y1)||(decide (a1.Next<0)))||(decide (a1.Next>4611686018427387904)) then
  some true
 else
  (bf a1.Window a0.Span a0.Room).bind fun xA=>
  some (xA != 0)
  :Option Bool)).bind fun yA=>
 bif yA then
  some 210
 else
  some 0
theorem o14 {a0:af} {a1:ab} {r0:Int} (hF:aT a0 a1=some r0) (L:List Res):Ok Tryz.prog 13 [SV.val ar a0,SV.val ah a1] L (SV.raw (.int .i64 r0)) L:=by
 unfold aT at hF
 refine okI 28 Tryz.func13 rfl rfl rfl fun F0=>?_
 refine bs hF fun y1 h2 hF=>sr<|bX (K:=ar) rfl rdV rfl<|bX (K:=ah) rfl rdV rfl<|a_ rfl<|nt<|sq<|sr<|oL kt24 rfl<|cx Tryz.call19 rfl (o6 h2 _)<|ov (OpV.not rfl) rfl<|m_ rfl<|aK 12 ((!y1)||(decide (a1.Next<0))) ?_ (fun k=>?_)
 ·refine m_ rfl<|aK 17 (((!y1)||(decide (a1.Next<0)))||(decide (a1.Next>4611686018427387904))) ?_ (fun k=>?_)
  ·refine bs hF fun yA xA hF=>m_ rfl<|iv 27 yA ?_ (fun k=>?_)
   ·refine nt<|it hF rfl (fun hF=>?_) (fun hF=>?_)
    ·refine sr<|a_ rfl<|nt<|rt ?_
     cases osi hF
     exact rs Tryz.results13 (.tm rfl .nil) rfl rfl
    ·refine ct<|sr<|a_ rfl<|nt<|rc ?_
     cases osi hF
     exact rs Tryz.results13 (.tm rfl .nil) rfl rfl
   ·refine by_ (t:=18) rfl (fun c9=>?_) (fun c9=>?_)
    ·replace xA:=ctrue c9 xA
     exact sk_ c9 rfl<|sk_ c9 rfl<|sk_ c9 rfl<|sk_ c9 rfl<|sk_ c9 rfl<|sk_ c9 rfl<|sk_ c9 rfl<|sk_ c9 rfl<|pT c9 rfl<|rf 8 (rbq xA) rfl k
    ·replace xA:=cfalse c9 xA
     exact bs xA fun hA zA xA=>gc_ c9 rfl<|oF fb29k1 rfl<|gc_ c9 rfl<|oL kt27 rfl<|gc_ c9 rfl<|oF fb24k2 rfl<|gc_ c9 rfl<|oI kt3 rfl<|gc_ c9 rfl<|oF fb24k3 rfl<|gc_ c9 rfl<|oI kt3 rfl<|gc_ c9 rfl<|cx Tryz.call20 rfl (o13 zA _)<|gc_ c9 rfl<|b_ rfl<|pF c9 rfl<|rf 8 (rbq xA) rfl k
  ·refine by_ (t:=13) rfl (fun c6=>?_) (fun c6=>?_)
   ·exact sk_ c6 rfl<|sk_ c6 rfl<|sk_ c6 rfl<|pT c6 rfl<|rf 3 (or_t (e:=decide (a1.Next>4611686018427387904)) c6) rfl k
   ·exact gc_ c6 rfl<|oF fb29k rfl<|gc_ c6 rfl<|oI kt2 rfl<|gc_ c6 rfl<|b_ rfl<|pF c6 rfl<|rf 3 (or_f c6) rfl k
 ·refine by_ (t:=8) rfl (fun c3=>?_) (fun c3=>?_)
  ·exact sk_ c3 rfl<|sk_ c3 rfl<|sk_ c3 rfl<|pT c3 rfl<|rf 3 (or_t (e:=decide (a1.Next<0)) c3) rfl k
  ·exact gc_ c3 rfl<|oF fb29k rfl<|gc_ c3 rfl<|oI kt2 rfl<|gc_ c3 rfl<|b_ rfl<|pF c3 rfl<|rf 3 (or_f c3) rfl k
noncomputable def cj (a0:List Int):Option (List Int):=
 (app [] a0).bind fun z5=>
 some z5
theorem o15 {a0:List Int} {r0:(List Int)} (hF:cj a0=some r0) (L:List Res):Ok Tryz.prog 14 [SV.val (kSl K2) a0] L (SV.val (kSl K2) r0) L:=by
 unfold cj at hF
 refine okI 8 Tryz.func14 rfl rfl rfl fun F0=>?_
 refine sr<|a_ rfl<|nt<|sq<|sr<|m_ rfl<|Under.eqNil Tryz.underlying22 rfl rfl fun b1 h2=>nt<|Under.conde rfl (fun h9=>?_) (fun _=>?_)
 ·replace hF:(some [])=some r0:=by rw[h2 h9] at hF;simpa[app,room] using hF
  refine sr<|a_ rfl<|nt<|rt<|tV (K:=kSl K2) (x:=[]) (t:=2) rfl rdN ?_
  cases osi hF
  exact rs Tryz.results14 (.tm rfl .nil) rfl rfl
 ·refine bs hF fun z5 h6 hF=>ct<|sr<|bO (ys:=[]) Tryz.underlying22 ET5 (BldA.nil _) rfl rfl fun v4=>m_ rfl<|ap h6 Tryz.underlying22 AT5 rfl rfl rdV rfl fun v7=>a_ rfl<|nl<|fzO (t:=2) rfl<|tn<|rc ?_
  cases osi hF
  exact rs Tryz.results14 (.tm rfl .nil) rfl rfl
noncomputable def ba (a0:List az):Option (List az):=
 (app [] a0).bind fun z5=>
 some z5
theorem o16 {a0:List az} {r0:(List az)} (hF:ba a0=some r0) (L:List Res):OkX Tryz.prog 21 [SV.val (kSl ai) a0] L (fun y:Value=>SV.raw y) (fun y:Value=>(.own ai y 57 r0)::L):=by
 unfold ba at hF
 refine OkX.intro 8 [(0,.val (kSl ai) a0)] Tryz.func21 rfl rfl rfl rfl fun F0=>?_
 refine sr<|a_ rfl<|nt<|sq<|sr<|m_ rfl<|Under.eqNil Tryz.underlying25 rfl rfl fun b1 h2=>nt<|Under.conde rfl (fun h9=>?_) (fun _=>?_)
 ·replace hF:(some [])=some r0:=by rw[h2 h9] at hF;simpa[app,room] using hF
  refine sr<|a_ rfl<|nt<|rt<|Under.ownNil (K:=ai) (e:=57) ?_
  cases osi hF
  exact Under.retsX (.slice none 0 0) Tryz.results21 (.tm rfl .nil) rfl rfl
 ·refine bs hF fun z5 h6 hF=>ct<|sr<|bO (ys:=[]) Tryz.underlying25 ET57 (BldA.nil _) rfl rfl fun v4=>m_ rfl<|ap h6 Tryz.underlying25 AT57 rfl rfl rdV rfl fun v7=>a_ rfl<|nt<|rc ?_
  cases osi hF
  exact Under.retsX v7 Tryz.results21 (.tm rfl .nil) rfl rfl
noncomputable def bt (a0:List (List Int)):Option (List (List Int)):=
 (app [] a0).bind fun z5=>
 some z5
theorem o17 {a0:List (List Int)} {r0:(List (List Int))} (hF:bt a0=some r0) (L:List Res):Ok Tryz.prog 22 [SV.val K0 a0] L (SV.val K0 r0) L:=by
 unfold bt at hF
 refine okI 8 Tryz.func22 rfl rfl rfl fun F0=>?_
 refine sr<|a_ rfl<|nt<|sq<|sr<|m_ rfl<|Under.eqNil Tryz.underlying55 rfl rfl fun b1 h2=>nt<|Under.conde rfl (fun h9=>?_) (fun _=>?_)
 ·replace hF:(some [])=some r0:=by rw[h2 h9] at hF;simpa[app,room] using hF
  refine sr<|a_ rfl<|nt<|rt<|tV (K:=kSl K1) (x:=[]) (t:=2) rfl rdN ?_
  cases osi hF
  exact rs Tryz.results22 (.tm rfl .nil) rfl rfl
 ·refine bs hF fun z5 h6 hF=>ct<|sr<|bO (ys:=[]) Tryz.underlying55 ET70 (BldA.nil _) rfl rfl fun v4=>m_ rfl<|ap h6 Tryz.underlying55 AT70 rfl rfl rdV rfl fun v7=>a_ rfl<|nl<|fzO (t:=2) rfl<|tn<|rc ?_
  cases osi hF
  exact rs Tryz.results22 (.tm rfl .nil) rfl rfl
noncomputable def aY (a0:ab):Option ab:=
 (ba a0.Window.Epochs).bind fun y3=>
 (((Loop.run (S:=(Int×(List az))) (R:=ab) (fun(xA,yA)=>
   bif decide (xA<(y3.length:Int)) then
    (idx yA xA).bind fun zA=>
    (bt zA.Tags).bind fun hA=>
    (idx yA xA).bind fun bA=>
    some (.next (IntKind.wrap .i64 (xA+1),List.set yA (Int.toNat xA) ({bA with Tags:=hA}:az)))
   else
    some (.done (⟨a0.Next,(⟨a0.Window.Newest,yA⟩:aa)⟩:ab))) (0,y3)).bind fun vA=>
 some vA
  :Option ab)).bind fun oA=>
 some oA
theorem o18 {a0:ab} {r0:ab} (hF:aY a0=some r0) (L:List Res):Ok Tryz.prog 15 [SV.val ah a0] L (SV.val ah r0) L:=by
 unfold aY at hF
 refine okI 33 Tryz.func15 rfl rfl rfl fun F0=>?_
 refine bs hF fun y3 h4 hF=>sr<|Under.bx (K:=ah) rfl rdV rfl fun b1=>al ZT29 rfl fun b2=>ns<|oM eY rfl<|oM eZ rfl<|f1<|lP .box (.fld (.fld .id fa) ef) kt25k rfl rfl<|Under.callX Tryz.call21 rfl rfl (o16 h4 _) rfl ?_
 rintro v5
 refine bs hF fun yA hA hF=>oM eY rfl<|oM eZ rfl<|f1<|Under.rawify (fs':=cg) (i:=1) (fun v6=>(⟨a0.Next,(⟨a0.Window.Newest,v6⟩:aE)⟩:aQ)) (fun F=>⟨fun _ _ h=>h,fun _ h=>CvE.rd (fs:=bu) (x:=a0.Window) (x':=fun v6=>(⟨a0.Window.Newest,v6⟩:aE)) (fs':=bJ) (i:=1) ⟨fun _ _ h=>h,il,trivial⟩ h,trivial⟩) fun v6 h7=>f1<|Under.ownCell fun h8=>f1<|sP (x':=(⟨a0.Next,(⟨a0.Window.Newest,v5⟩:aE)⟩:aQ)) .box (.fld (.fld .id bd) bl) sz25k rfl rfl (iS h8) rfl<|nt<|sq<|afr (r:=yA) (fun yA=>[(1,.ptr ah yA),(2,pb b2)]) (fun yA=>((.box ah b2 29 (⟨(0:Int),(⟨(0:Int),[]⟩:aa)⟩:ab))::L)) ?_ fun K dA=>?_
 ·refine sr<|oL kt29 rfl<|sP (x':=yA) .box .id sz29k rfl rfl rdV rfl<|nl<|fz (t:=2) rfl<|tn<|rc ?_
  cases osi hF
  exact rs Tryz.results15 (.ce rfl kt29 .nil) rfl rfl
 ·refine bs hA fun mA eA hA=>sr<|oM eY rfl<|oM eZ rfl<|lP .box (.fld (.fld .id bd) bl) kt25k1 rfl rfl<|Under.rawR (t:=12) rfl<|f1<|ov (OpV.lenO Tryz.underlying25 rfl) rfl<|m_ rfl<|nt<|bk<|lp eA () (fun zA kA=>[(1,pb b1),(2,pb b2),(13,.raw (.int .i64 (y3.length:Int))),(14,.raw (.int .i64 zA.1))]) (fun zA kA=>(.own ai v5 57 zA.2)::(.box ee b1 29 (⟨a0.Next,(⟨a0.Window.Newest,v5⟩:aE)⟩:aQ))::(.box ah b2 29 (⟨(0:Int),(⟨(0:Int),[]⟩:aa)⟩:ab))::L) rfl rfl fun zA kA nA xA cA=>?_
  obtain⟨qA,bA⟩:=zA
  dsimp only at xA⊢
  refine sr<|b_ rfl<|nt<|sq<|it xA rfl (fun xA=>?_) (fun xA=>?_)
  ·exact bs xA fun pA vA xA=>bs xA fun rA wA xA=>bs xA fun gA oA xA=>ct<|sq<|bk<|sr<|m_ rfl<|a_ rfl<|nt<|ph rfl<|gV [0,1,2,3,4,5,6,7,8,9,10,11] [[1],[17],[18],[3],[1],[21],[22],[3],[23,24],[25],[26],[27]] 3 (by kernel_rfl) rfl<|vo (fun _=>OpV.fdM eY rfl) rfl<|vo (fun _=>OpV.fdM eZ rfl) rfl<|Vq.v (fun G T hG=>f1<|lP .box (.fld (.fld .id bd) bl) kt25k1 rfl rfl<|Under.rawR (t:=19) rfl<|f2<|f1<|f2<|Vq.end rfl)<|vm_ rfl<|vo (fun _=>OpV.fdM eY rfl) rfl<|vo (fun _=>OpV.fdM eZ rfl) rfl<|Vq.v (fun G T hG=>f1<|lP .box (.fld (.fld .id bd) bl) kt25k1 rfl rfl<|Under.rawR (t:=23) rfl<|f2<|f1<|f2<|Vq.end rfl)<|vm_ rfl<|Vq.v (fun G T hG=>ov (OpV.ixO vA Tryz.underlying25 sz57k rfl rfl) rfl<|Vq.end rfl)<|vo (fun _=>OpV.fdM iy rfl) rfl<|Vq.v (fun G T hG=>lP (.own vA) (.fld (.ix .id vA) dk) kt55k rfl rfl<|Vq.end rfl)<|Vq.v (fun G T hG=>cx Tryz.call22 rfl (o17 wA _)<|Vq.end rfl)<|vn<|p1 12 rfl rfl<|ov (OpV.ixO oA Tryz.underlying25 sz57k rfl rfl) rfl<|pn<|p1 13 rfl rfl<|oM iy rfl<|pn<|p1 14 rfl rfl<|sP (x':=List.set bA (Int.toNat qA) ({gA with Tags:=rA}:az)) (.own oA) (.fld (.ix .id oA) dk) sz55k rfl rfl rdV rfl<|pn<|pd rfl<|bN<|tn<|rg<|b_ rfl<|m_ rfl<|nl<|nx () xA rfl rfl
  ·refine Under.frzBO (fs:=bp) (⟨a0.Next,(⟨a0.Window.Newest,bA⟩:aa)⟩:ab) (fun F hv=>⟨fun _ h=>h,fun _ h=>gu (fs':=bJ) (x':=(⟨a0.Window.Newest,v5⟩:aE)) (fs:=bu) (x:=(⟨a0.Window.Newest,bA⟩:aa)) ⟨fun _ h=>h,iO hv,trivial⟩ h,trivial⟩)<|fz (t:=1) rfl<|xt<|te ?_
   cases aG xA cA
   exact te<|bh<|tn<|wr (dA _ (osi hA).symm) rfl
noncomputable def aR (a0:af) (a1:ab):Option ((Option am)×Int):=
 (aT a0 a1).bind fun y2=>
 bif y2 != 0 then
  some (none,y2)
 else
  (cj a0.Master).bind fun y5=>
  (aY a1).bind fun y8=>
  some ((some (⟨({a0 with Master:=y5}:af),y8,[]⟩:am)),0)
theorem o19 {a0:af} {a1:ab} {r0:((Option am)×Int)} (hF:aR a0 a1=some r0) (L:List Res):Ok Tryz.prog 5 [SV.val ar a0,SV.val ah a1] L (SV.tup [SV.val (dh aP) r0.1,SV.raw (.int .i64 r0.2)]) L:=by
 unfold aR at hF
 refine okI 22 Tryz.func5 rfl rfl rfl fun F0=>?_
 refine bs hF fun y2 h3 hF=>sr<|Under.bx (K:=ar) rfl rdV rfl fun b1=>bX (K:=ah) rfl rdV rfl<|a_ rfl<|a_ rfl<|nt<|sq<|sr<|lP .box .id kt24k rfl rfl<|oL kt29 rfl<|cx Tryz.call13 rfl (o14 h3 _)<|a_ rfl<|ns<|mb rfl<|nt<|it hF rfl (fun hF=>?_) (fun hF=>?_)
 ·refine dr<|sr<|m_ rfl<|a_ rfl<|a_ rfl<|nt<|rt<|tV (K:=dh aP) (x:=none) (t:=4) rfl iU ?_
  cases osi hF
  exact rs Tryz.results5 (.tm rfl (.tm rfl .nil)) rfl rfl
 ·refine bs hF fun y5 h6 hF=>bs hF fun y8 h9 hF=>ct<|sr<|oM iw rfl<|lP .box (.fld .id cX) kt22k rfl rfl<|cx Tryz.call14 rfl (o15 h6 _)<|oM iw rfl<|sP (x':=({a0 with Master:=y5}:af)) .box (.fld .id cX) sz22k rfl rfl rdV rfl<|nl<|fz (t:=2) rfl<|tn<|sq<|ph rfl<|gV [0,1,2] [[2],[3],[18]] 0 (by kernel_rfl) rfl<|vo (fun _=>OpV.ld kt24 rfl) rfl<|vo (fun _=>OpV.ld kt29 rfl) rfl<|Vq.v (fun G T hG=>cx Tryz.call15 rfl (o18 h9 _)<|Vq.end rfl)<|vn<|p1 3 rfl rfl<|ov (OpV.bst BT51 (Bld.cons (x':=(⟨({a0 with Master:=y5}:af),(⟨(0:Int),(⟨(0:Int),[]⟩:aa)⟩:ab),[]⟩:am)) rfl rfl rdV (by intro q hq;simp only[List.mem_cons,List.not_mem_nil,or_false] at hq;rcases hq with rfl|rfl<;>rfl) (Bld.cons (x':=(⟨({a0 with Master:=y5}:af),y8,[]⟩:am)) rfl rfl rdV ⟨rfl,(by intro q hq;simp only[List.mem_cons,List.not_mem_nil,or_false] at hq;rcases hq with rfl<;>rfl)⟩ (Bld.nil _)))) rfl<|pn<|p1 4 rfl rfl<|bX (K:=aP) rfl rdV rfl<|pn<|p1 5 rfl rfl<|a_ rfl<|pn<|p1 6 rfl rfl<|a_ rfl<|pn<|pd rfl<|tn<|rc<|tV (K:=dh aP) (x:=some (⟨({a0 with Master:=y5}:af),y8,[]⟩:am)) (t:=4) rfl iV ?_
  cases osi hF
  exact rs Tryz.results5 (.tm rfl (.tm rfl .nil)) rfl rfl
noncomputable def aj (a0:Int) (a1:Int) (a2:Int):Option Bool:=
 some ((decide (a0≥a1))&&(decide (a0≤a2)))
theorem o20 {a0 a1 a2:Int} {r0:Bool} (hF:aj a0 a1 a2=some r0) (L:List Res):Ok Tryz.prog 23 [SV.raw (.int .i64 a0),SV.raw (.int .i64 a1),SV.raw (.int .i64 a2)] L (SV.raw (.bool r0)) L:=by
 unfold aj at hF
 refine okI 15 Tryz.func23 rfl rfl rfl fun F0=>?_
 refine sr<|a_ rfl<|ns<|m_ rfl<|mb rfl<|m_ rfl<|aK 14 ((decide (a0≥a1))&&(decide (a0≤a2))) ?_ (fun k=>?_)
 ·refine a_ rfl<|nt<|rc ?_
  cases osi hF
  exact rs Tryz.results23 (.tm rfl .nil) rfl rfl
 ·refine by_ (t:=10) rfl (fun c1=>?_) (fun c1=>?_)
  ·exact gc_ c1 rfl<|m_ rfl<|gc_ c1 rfl<|m_ rfl<|gc_ c1 rfl<|b_ rfl<|pT c1 rfl<|rf 3 (fT c1) rfl k
  ·exact sk_ c1 rfl<|sk_ c1 rfl<|sk_ c1 rfl<|pF c1 rfl<|rf 3 (fU (e:=decide (a0≤a2)) c1) rfl k
noncomputable def aW (a0:af):Option Bool:=
 ((bif (a0.Master.length:Int)==32 then
  (aj a0.Left 1 8).bind fun y4=>
  some y4
 else
  some false
  :Option Bool)).bind fun x3=>
 ((bif x3 then
  (aj a0.Span 1 8).bind fun y9=>
  some y9
 else
  some false
  :Option Bool)).bind fun x8=>
 ((bif x8 then
  (aj a0.Room 0 4096).bind fun xA=>
  some xA
 else
  some false
  :Option Bool)).bind fun yA=>
 ((bif yA then
  (aj a0.Den 1 1000).bind fun zA=>
  some zA
 else
  some false
  :Option Bool)).bind fun hA=>
 ((bif hA then
  (aj a0.Num 0 a0.Den).bind fun bA=>
  some bA
 else
  some false
  :Option Bool)).bind fun vA=>
 ((bif vA then
  (aj a0.Noise 0 16).bind fun oA=>
  some oA
 else
  some false
  :Option Bool)).bind fun kA=>
 ((bif kA then
  (aj a0.Chunks 1 64).bind fun dA=>
  some dA
 else
  some false
  :Option Bool)).bind fun eA=>
 ((bif eA then
  (aj a0.Workers 1 64).bind fun cA=>
  some cA
 else
  some false
  :Option Bool)).bind fun qA=>
 ((bif qA then
  (aj a0.Cap 0 1024).bind fun rA=>
  some rA
 else
  some false
  :Option Bool)).bind fun wA=>
 ((bif wA then
  (aj a0.Shards 1 64).bind fun gA=>
  some gA
 else
  some false
  :Option Bool)).bind fun mA=>
 some mA
theorem o21 {a0:af} {r0:Bool} (hF:aW a0=some r0) (L:List Res):Ok Tryz.prog 16 [SV.val ar a0] L (SV.raw (.bool r0)) L:=by
 unfold aW at hF
 refine okI 59 Tryz.func16 rfl rfl rfl fun F0=>?_
 refine bs hF fun x3 h2 hF=>sr<|bX (K:=ar) rfl rdV rfl<|a_ rfl<|ns<|oF fb24k rfl<|oL kt22 rfl<|oN Tryz.underlying22 rfl<|b_ rfl<|m_ rfl<|aK 11 x3 ?_ (fun k=>?_)
 ·refine bs hF fun x8 h7 hF=>m_ rfl<|aK 16 x8 ?_ (fun k=>?_)
  ·refine bs hF fun nA dA hF=>m_ rfl<|aK 21 nA ?_ (fun k=>?_)
   ·refine bs hF fun pA eA hF=>m_ rfl<|aK 26 pA ?_ (fun k=>?_)
    ·refine bs hF fun tA cA hF=>m_ rfl<|dT 33 tA ?_ (fun k=>?_)
     ·refine bs hF fun uA qA hF=>m_ rfl<|aK 38 uA ?_ (fun k=>?_)
      ·refine bs hF fun xB rA hF=>m_ rfl<|aK 43 xB ?_ (fun k=>?_)
       ·refine bs hF fun yB wA hF=>m_ rfl<|aK 48 yB ?_ (fun k=>?_)
        ·refine bs hF fun zB gA hF=>m_ rfl<|aK 53 zB ?_ (fun k=>?_)
         ·refine bs hF fun hB mA hF=>m_ rfl<|aK 58 hB ?_ (fun k=>?_)
          ·refine a_ rfl<|nt<|rc ?_
           cases osi hF
           exact rs Tryz.results16 (.tm rfl .nil) rfl rfl
          ·refine by_ (t:=54) rfl (fun yA=>?_) (fun yA=>?_)
           ·replace mA:=ctrue yA mA
            exact bs mA fun wB bB mA=>gc_ yA rfl<|oF fb24k10 rfl<|gc_ yA rfl<|oI kt3 rfl<|gc_ yA rfl<|cx Tryz.call23 rfl (o20 bB _)<|pT yA rfl<|rf 3 (rbq mA) rfl k
           ·replace mA:=cfalse yA mA
            exact sk_ yA rfl<|sk_ yA rfl<|sk_ yA rfl<|pF yA rfl<|rf 3 (rbq mA) rfl k
         ·refine by_ (t:=49) rfl (fun zA=>?_) (fun zA=>?_)
          ·replace gA:=ctrue zA gA
           exact bs gA fun gB vB gA=>gc_ zA rfl<|oF fb24k9 rfl<|gc_ zA rfl<|oI kt3 rfl<|gc_ zA rfl<|cx Tryz.call23 rfl (o20 vB _)<|pT zA rfl<|rf 3 (rbq gA) rfl k
          ·replace gA:=cfalse zA gA
           exact sk_ zA rfl<|sk_ zA rfl<|sk_ zA rfl<|pF zA rfl<|rf 3 (rbq gA) rfl k
        ·refine by_ (t:=44) rfl (fun hA=>?_) (fun hA=>?_)
         ·replace wA:=ctrue hA wA
          exact bs wA fun mB oB wA=>gc_ hA rfl<|oF fb24k8 rfl<|gc_ hA rfl<|oI kt3 rfl<|gc_ hA rfl<|cx Tryz.call23 rfl (o20 oB _)<|pT hA rfl<|rf 3 (rbq wA) rfl k
         ·replace wA:=cfalse hA wA
          exact sk_ hA rfl<|sk_ hA rfl<|sk_ hA rfl<|pF hA rfl<|rf 3 (rbq wA) rfl k
       ·refine by_ (t:=39) rfl (fun bA=>?_) (fun bA=>?_)
        ·replace rA:=ctrue bA rA
         exact bs rA fun nB kB rA=>gc_ bA rfl<|oF fb24k7 rfl<|gc_ bA rfl<|oI kt3 rfl<|gc_ bA rfl<|cx Tryz.call23 rfl (o20 kB _)<|pT bA rfl<|rf 3 (rbq rA) rfl k
        ·replace rA:=cfalse bA rA
         exact sk_ bA rfl<|sk_ bA rfl<|sk_ bA rfl<|pF bA rfl<|rf 3 (rbq rA) rfl k
      ·refine by_ (t:=34) rfl (fun vA=>?_) (fun vA=>?_)
       ·replace qA:=ctrue vA qA
        exact bs qA fun pB dB qA=>gc_ vA rfl<|oF fb24k6 rfl<|gc_ vA rfl<|oI kt3 rfl<|gc_ vA rfl<|cx Tryz.call23 rfl (o20 dB _)<|pT vA rfl<|rf 3 (rbq qA) rfl k
       ·replace qA:=cfalse vA qA
        exact sk_ vA rfl<|sk_ vA rfl<|sk_ vA rfl<|pF vA rfl<|rf 3 (rbq qA) rfl k
     ·refine by_ (t:=27) rfl (fun xA=>?_) (fun xA=>?_)
      ·replace cA:=ctrue xA cA
       exact bs cA fun tB eB cA=>gc_ xA rfl<|oF fb24k5 rfl<|gc_ xA rfl<|oI kt3 rfl<|gc_ xA rfl<|oF fb24k4 rfl<|gc_ xA rfl<|oI kt3 rfl<|gc_ xA rfl<|cx Tryz.call23 rfl (o20 eB _)<|pT xA rfl<|rf 5 (rbq cA) rfl k
      ·replace cA:=cfalse xA cA
       exact sk_ xA rfl<|sk_ xA rfl<|sk_ xA rfl<|sk_ xA rfl<|sk_ xA rfl<|pF xA rfl<|rf 5 (rbq cA) rfl k
    ·refine by_ (t:=22) rfl (fun oA=>?_) (fun oA=>?_)
     ·replace eA:=ctrue oA eA
      exact bs eA fun uB cB eA=>gc_ oA rfl<|oF fb24k4 rfl<|gc_ oA rfl<|oI kt3 rfl<|gc_ oA rfl<|cx Tryz.call23 rfl (o20 cB _)<|pT oA rfl<|rf 3 (rbq eA) rfl k
     ·replace eA:=cfalse oA eA
      exact sk_ oA rfl<|sk_ oA rfl<|sk_ oA rfl<|pF oA rfl<|rf 3 (rbq eA) rfl k
   ·refine by_ (t:=17) rfl (fun kA=>?_) (fun kA=>?_)
    ·replace dA:=ctrue kA dA
     exact bs dA fun xC qB dA=>gc_ kA rfl<|oF fb24k3 rfl<|gc_ kA rfl<|oI kt3 rfl<|gc_ kA rfl<|cx Tryz.call23 rfl (o20 qB _)<|pT kA rfl<|rf 3 (rbq dA) rfl k
    ·replace dA:=cfalse kA dA
     exact sk_ kA rfl<|sk_ kA rfl<|sk_ kA rfl<|pF kA rfl<|rf 3 (rbq dA) rfl k
  ·refine by_ (t:=12) rfl (fun c6=>?_) (fun c6=>?_)
   ·replace h7:=ctrue c6 h7
    exact bs h7 fun y9 rB h7=>gc_ c6 rfl<|oF fb24k2 rfl<|gc_ c6 rfl<|oI kt3 rfl<|gc_ c6 rfl<|cx Tryz.call23 rfl (o20 rB _)<|pT c6 rfl<|rf 3 (rbq h7) rfl k
   ·replace h7:=cfalse c6 h7
    exact sk_ c6 rfl<|sk_ c6 rfl<|sk_ c6 rfl<|pF c6 rfl<|rf 3 (rbq h7) rfl k
 ·refine by_ (t:=7) rfl (fun c1=>?_) (fun c1=>?_)
  ·replace h2:=ctrue c1 h2
   exact bs h2 fun y4 h5 h2=>gc_ c1 rfl<|oF fb24k1 rfl<|gc_ c1 rfl<|oI kt3 rfl<|gc_ c1 rfl<|cx Tryz.call23 rfl (o20 h5 _)<|pT c1 rfl<|rf 3 (rbq h2) rfl k
  ·replace h2:=cfalse c1 h2
   exact sk_ c1 rfl<|sk_ c1 rfl<|sk_ c1 rfl<|pF c1 rfl<|rf 3 (rbq h2) rfl k
noncomputable def aU (a0:aa):Option Int:=
 (((Loop.run (S:=(Int×Int)) (R:=Int) (fun(yA,xA)=>
   bif decide (xA<(a0.Epochs.length:Int)) then
    (idx a0.Epochs xA).bind fun zA=>
    some (.next (IntKind.wrap .i64 (yA+(zA.Tags.length:Int)),IntKind.wrap .i64 (xA+1)))
   else
    some (.done yA)) (0,0)).bind fun hA=>
 some hA
  :Option Int)).bind fun bA=>
 some bA
theorem o22 {a0:aa} {r0:Int} (hF:aU a0=some r0) (L:List Res):Ok Tryz.prog 24 [SV.val ak a0] L (SV.raw (.int .i64 r0)) L:=by
 unfold aU at hF
 refine okI 22 Tryz.func24 rfl rfl rfl fun F0=>?_
 refine bs hF fun zA hA hF=>sr<|bX (K:=ak) rfl rdV rfl<|a_ rfl<|ns<|a_ rfl<|nt<|sq<|afr (r:=zA) (fun zA=>[(3,.raw (.int .i64 zA))]) (fun zA=>(L)) ?_ fun K vA=>?_
 ·refine sr<|m_ rfl<|a_ rfl<|nt<|rc ?_
  cases osi hF
  exact rs Tryz.results24 (.tm rfl .nil) rfl rfl
 ·refine bs hA fun eA oA hA=>sr<|a_ rfl<|nt<|bk<|lp oA () (fun yA bA=>[(1,.ptr ak a0),(3,.raw (.int .i64 yA.1)),(4,.raw (.int .i64 yA.2))]) (fun yA bA=>L) rfl rfl fun yA bA cA xA kA=>?_
  obtain⟨qA,rA⟩:=yA
  dsimp only at xA⊢
  refine sq<|sr<|m_ rfl<|oF fb27k1 rfl<|oL kt25 rfl<|oN Tryz.underlying25 rfl<|b_ rfl<|nt<|it xA rfl (fun xA=>?_) (fun xA=>?_)
  ·exact bs xA fun wA dA xA=>ct<|sq<|bk<|rg<|m_ rfl<|oF fb27k1 rfl<|oL kt25 rfl<|m_ rfl<|oS dA Tryz.underlying25 sz57 rfl<|oF fb57k rfl<|oL kt55 rfl<|oN Tryz.underlying55 rfl<|b_ rfl<|a_ rfl<|nl<|bN<|tn<|rg<|mb rfl<|a_ rfl<|nl<|nx () xA rfl rfl
  ·refine xt<|te ?_
   cases aG xA kA
   exact te<|bh<|tn<|wr (vA _ (osi hA).symm) rfl
noncomputable def aH (a0:List Int) (a1:List Int):Option Bool:=
 (((Loop.run (S := Int) (R := (Unit ⊕ Bool)) (fun xA =>
   bif decide (xA<16) then
    (idx a0 xA).bind fun yA=>
    (idx a1 xA).bind fun zA=>
    bif yA != zA then
     (idx a0 xA).bind fun hA=>
     (idx a1 xA).bind fun bA=>
     some (.done (.inr (decide (hA<bA))))
    else
     some (.next (IntKind.wrap .i64 (xA+1)))
   else
    some (.done (.inl ()))) 0).bind fun vA=>match vA with
  | .inl _=>
   some (.inr ())
  | .inr z=>
   some (.inl z)
  : Option (Bool ⊕ Unit))).bind fun oA => match oA with
  | .inl z=>
   some z
  | .inr _=>
   some false
theorem o23 {a0 a1:List Int} {r0:Bool} (hF:aH a0 a1=some r0) (L:List Res):Ok Tryz.prog 25 [SV.val K1 a0,SV.val K1 a1] L (SV.raw (.bool r0)) L:=by
 unfold aH at hF
 refine okI 24 Tryz.func25 rfl rfl rfl fun F0=>?_
 refine bs hF fun oA yA hF=>sr<|bX (K:=kArr 16 K2) rfl rdV rfl<|bX (K:=kArr 16 K2) rfl rdV rfl<|a_ rfl<|nt<|sq<|Under.after (fun X=>∀(_:Unit),oA=(.inr ())→Under F0 24 [] (L) X) ?_ ?_
 ·intro _ zA
  replace zA:=zA.symm
  subst zA
  refine sr<|a_ rfl<|nt<|rc ?_
  cases osi hF
  exact rs Tryz.results25 (.tm rfl .nil) rfl rfl
 ·intro K kA
  refine bs yA fun wA dA yA=>sr<|a_ rfl<|nt<|bk<|lp dA () (fun hA bA=>[(2,.ptr K1 a0),(3,.ptr K1 a1),(5,.raw (.int .i64 hA))]) (fun hA bA=>L) rfl rfl fun hA bA gA xA vA=>?_
  refine sq<|sr<|mb rfl<|nt<|it xA rfl (fun xA=>?_) (fun xA=>?_)
  ·refine bs xA fun mA eA xA=>bs xA fun nA cA xA=>ct<|sq<|bk<|sq<|dw rfl (by kernel_rfl) fun F hF0=>mvq rfl rfl<|oq (OpV.ixA eA Tryz.underlying70 sz5 rfl rfl) rfl<|oq (OpV.ldI kt5 rfl) rfl<|mvq rfl rfl<|oq (OpV.ixA cA Tryz.underlying70 sz5 rfl rfl) rfl<|oq (OpV.ldI kt5 rfl) rfl<|bnq rfl rfl rfl rfl<|nlq hF0<|tn<|it xA rfl (fun xA=>?_) (fun xA=>?_)
   ·refine bs xA fun pA qA xA=>bs xA fun tA rA xA=>sq<|dw rfl (by kernel_rfl) fun F hF0=>mvq rfl rfl<|oq (OpV.ixA qA Tryz.underlying70 sz5 rfl rfl) rfl<|oq (OpV.ldI kt5 rfl) rfl<|mvq rfl rfl<|oq (OpV.ixA rA Tryz.underlying70 sz5 rfl rfl) rfl<|oq (OpV.ldI kt5 rfl) rfl<|bnq rfl rfl rfl rfl<|agq rfl rfl<|nlq hF0<|tn<|rc<|Under.bR<|tr ?_
    cases aG xA vA
    refine tr<|Under.bR<|tr ?_
    cases osi yA
    cases osi hF
    exact rs Tryz.results25 (.tm rfl .nil) rfl rfl
   ·exact cs<|bN<|tn<|rg<|mb rfl<|a_ rfl<|nl<|nx () xA rfl rfl
  ·refine xt<|te ?_
   cases aG xA vA
   exact te<|bh<|tn<|wr (kA () (osi yA).symm) rfl
noncomputable def bg (a0:aa):Option (List (List Int)):=
 (((Loop.run (S:=((List (List Int))×Int)) (R:=(List (List Int))) (fun(yA,xA)=>
   bif decide (xA<(a0.Epochs.length:Int)) then
    (idx a0.Epochs xA).bind fun zA=>
    (app yA zA.Tags).bind fun hA=>
    some (.next (hA,IntKind.wrap .i64 (xA+1)))
   else
    some (.done yA)) ([],0)).bind fun bA=>
 some bA
  :Option (List (List Int)))).bind fun vA=>
 some vA
theorem o24 {a0:aa} {r0:(List (List Int))} (hF:bg a0=some r0) (L:List Res):Ok Tryz.prog 27 [SV.val ak a0] L (SV.val K0 r0) L:=by
 unfold bg at hF
 refine okI 21 Tryz.func27 rfl rfl rfl fun F0=>?_
 refine bs hF fun zA bA hF=>sr<|bX (K:=ak) rfl rdV rfl<|a_ rfl<|ns<|a_ rfl<|nt<|sq<|afr (r:=zA) (fun zA=>[(3,.val K0 zA)]) (fun zA=>(L)) ?_ fun K vA=>?_
 ·refine sr<|m_ rfl<|a_ rfl<|nt<|rc ?_
  cases osi hF
  exact rs Tryz.results27 (.tm rfl .nil) rfl rfl
 ·refine bs bA fun qA oA bA=>sr<|a_ rfl<|nt<|bk<|Under.ownNil (K:=kArr 16 K2) (e:=70)<|lp oA (C:=Value) (.slice none 0 0) (fun yA hA=>[(1,.ptr ak a0),(3,.raw hA),(4,.raw (.int .i64 yA.2))]) (fun yA hA=>(.own K1 hA 70 yA.1)::L) rfl rfl fun yA hA rA xA kA=>?_
  obtain⟨wA,gA⟩:=yA
  dsimp only at xA⊢
  refine sq<|sr<|m_ rfl<|oF fb27k1 rfl<|oL kt25 rfl<|oN Tryz.underlying25 rfl<|b_ rfl<|nt<|it xA rfl (fun xA=>?_) (fun xA=>?_)
  ·exact bs xA fun mA dA xA=>bs xA fun nA eA xA=>ct<|sq<|bk<|rg<|m_ rfl<|oF fb27k1 rfl<|oL kt25 rfl<|m_ rfl<|oS dA Tryz.underlying25 sz57 rfl<|oF fb57k rfl<|oL kt55 rfl<|ap eA Tryz.underlying55 AT70 rfl rfl rdV rfl fun cA=>a_ rfl<|nl<|bN<|tn<|rg<|mb rfl<|a_ rfl<|nl<|nx cA xA rfl rfl
  ·refine fzO (t:=3) rfl<|xt<|te ?_
   cases aG xA kA
   exact te<|bh<|tn<|wr (vA _ (osi bA).symm) rfl
noncomputable def ax:Nat→(List (List Int))→Option (List (List Int))
 |0,_=>none
 |fuel+1,a0=>
  bif decide ((a0.length:Int)<2) then
   bif mkB 0 1 then
   (app (List.replicate (Int.toNat 0) (List.replicate 16 (0:Int))) a0).bind fun z4=>
   some z4
   else none
  else
   (sub a0 0 (IntKind.wrap .i64 (Int.tdiv (a0.length:Int) 2))).bind fun x8=>
   (ax fuel x8).bind fun bA=>
   (sub a0 (IntKind.wrap .i64 (Int.tdiv (a0.length:Int) 2)) (a0.length:Int)).bind fun xB=>
   (ax fuel xB).bind fun hA=>
   bif mkB 0 (a0.length:Int) then
   (((Loop.run (S:=((List (List Int))×Int×Int)) (R:=(List (List Int))) (fun(zA,yA,xA)=>
     bif (decide (yA<(bA.length:Int)))||(decide (xA<(hA.length:Int))) then
      ((bif xA==(hA.length:Int) then
       some true
      else
       ((bif decide (yA<(bA.length:Int)) then
        (idx hA xA).bind fun vA=>
        (idx bA yA).bind fun oA=>
        (aH vA oA).bind fun kA=>
        some (!kA)
       else
        some false
        :Option Bool)).bind fun dA=>
       some dA
       :Option Bool)).bind fun eA=>
      bif eA then
       ((((bif decide (xA<(hA.length:Int)) then
        (idx bA yA).bind fun cA=>
        (idx hA xA).bind fun qA=>
        some (cA==qA)
       else
        some false
        :Option Bool)).bind fun rA=>
       bif rA then
        some (IntKind.wrap .i64 (xA+1))
       else
        some xA
        :Option Int)).bind fun wA=>
       (idx bA yA).bind fun gA=>
       (app zA [gA]).bind fun mA=>
       some (.next (mA,IntKind.wrap .i64 (yA+1),wA))
      else
       (idx hA xA).bind fun nA=>
       (app zA [nA]).bind fun pA=>
       some (.next (pA,yA,IntKind.wrap .i64 (xA+1)))
     else
      some (.done zA)) (List.replicate (Int.toNat 0) (List.replicate 16 (0:Int)),0,0)).bind fun tA=>
   some tA
    :Option (List (List Int)))).bind fun uA=>
   some uA
   else none
theorem o25 {fuel:Nat}:∀{a0:List (List Int)} {r0:(List (List Int))} (hF:ax fuel a0=some r0) (L:List Res),Ok Tryz.prog 26 [SV.val K0 a0] (L) (SV.val K0 r0) (L):=by
 induction fuel with
 |zero=>intro a0 r0 hF;cases hF
 |succ fuel ih=>
  intro a0 r0 hF L
  rw[ax] at hF
  refine Ok.intro 99 [(0,.val K0 a0)] Tryz.func26 rfl rfl rfl rfl fun F0=>?_
  refine sr<|ag rfl rfl<|nt<|sq<|sr<|mv rfl rfl<|ov (OpV.len Tryz.underlying55 rfl rdV) rfl<|bn rfl rfl rfl rfl<|nt<|it hF rfl (fun hF=>?_) (fun hF=>?_)
  ·obtain⟨h2,hF⟩:=gsome hF
   obtain⟨z4,h5,hF⟩:=bsome hF
   refine sr<|Under.mk h2 Tryz.underlying55 AT70 rfl rfl rfl fun v1=>ag rfl rfl<|ns<|mv rfl rfl<|mv rfl rfl<|ap h5 Tryz.underlying55 AT70 rfl rfl rdV rfl fun v6=>ag rfl rfl<|nl<|fzO (t:=2) rfl<|tn<|rt ?_
   have e7:=osi hF
   subst e7
   exact rs Tryz.results26 (.tm rfl .nil) rfl rfl
  ·obtain⟨x8,h9,hF⟩:=bsome hF
   obtain⟨xB,vC,hF⟩:=bsome hF
   obtain⟨uC,oC,hF⟩:=bsome hF
   obtain⟨uA,kC,hF⟩:=bsome hF
   obtain⟨dC,hF⟩:=gsome hF
   obtain⟨yB,qA,hF⟩:=bsome hF
   refine ct<|sr<|mv rfl rfl<|mv rfl rfl<|ov (OpV.len Tryz.underlying55 rfl rdV) rfl<|ov (OpV.quo rfl rfl (by decide) rfl) rfl<|ov (OpV.slH h9 Tryz.underlying55 sz70 rfl rdV rfl) rfl<|ca Tryz.call26 rfl rfl (ih vC _) rfl<|ag rfl rfl<|ns<|mv rfl rfl<|mv rfl rfl<|ov (OpV.len Tryz.underlying55 rfl rdV) rfl<|ov (OpV.quo rfl rfl (by decide) rfl) rfl<|ov (OpV.slL oC Tryz.underlying55 sz70 rfl rdV rfl) rfl<|ca Tryz.call26 rfl rfl (ih kC _) rfl<|ag rfl rfl<|ns<|mv rfl rfl<|ov (OpV.len Tryz.underlying55 rfl rdV) rfl<|Under.mk dC Tryz.underlying55 AT70 rfl rfl rfl fun eC=>ag rfl rfl<|ns<|ag rfl rfl<|ag rfl rfl<|nt<|sq<|Under.after (fun X=>∀(rA:List (List Int)),yB=rA→Under F0 99 [(6,.val K0 rA)] (L) X) ?_ ?_
   ·intro rA wA
    replace wA:=wA.symm
    subst wA
    refine sr<|mv rfl rfl<|ag rfl rfl<|nt<|rc ?_
    have zB:=osi hF
    subst zB
    exact rs Tryz.results26 (.tm rfl .nil) rfl rfl
   ·intro K hB
    obtain⟨cC,bB,qA⟩:=bsome qA
    refine bk<|Under.loop (S:=((List (List Int))×Int×Int)) (C:=Value) eC (fun(eA:((List (List Int))×Int×Int)) (cA:Value)=>[(4,.val K0 xB),(5,.val K0 uA),(6,.raw cA),(7,.raw (.int .i64 eA.2.1)),(8,.raw (.int .i64 eA.2.2))]) (fun(eA:((List (List Int))×Int×Int)) (cA:Value)=>(.own K1 cA 70 eA.1)::L) bB (s5 rfl rfl rfl rfl rfl) rfl (fun eA cA qC zA vB=>?_)
    obtain⟨oB,nA,pA⟩:=eA
    dsimp only at zA⊢
    refine sq<|sr<|mv rfl rfl<|mv rfl rfl<|ov (OpV.len Tryz.underlying55 rfl rdV) rfl<|bn rfl rfl rfl rfl<|mv rfl rfl<|dS 40 ((decide (nA<(xB.length:Int)))||(decide (pA<(uA.length:Int)))) ?_ (fun k=>?_)
    ·refine nt<|it zA rfl (fun zA=>?_) (fun zA=>?_)
     ·obtain⟨kB,kA,zA⟩:=bsome zA
      refine ct<|bk<|sq<|dw rfl (by kernel_rfl) fun F hF0=>mvq rfl rfl<|mvq rfl rfl<|oq (OpV.len Tryz.underlying55 rfl rdV) rfl<|bnq rfl rfl rfl rfl<|mvq rfl rfl<|iz 62 kB ?_ (fun k=>?_)
      ·refine nlq hF0<|tn<|it zA rfl (fun zA=>?_) (fun zA=>?_)
       ·obtain⟨dB,dA,zA⟩:=bsome zA
        refine sq<|Under.after (fun X=>∀(gA:Int),dB=gA→Under F0 99 [(4,.val K0 xB),(5,.val K0 uA),(6,.raw cA),(7,.raw (.int .i64 nA)),(8,.raw (.int .i64 gA))] ((.own K1 cA 70 oB)::L) X) ?_ ?_
        ·intro gA mA
         replace mA:=mA.symm
         subst mA
         obtain⟨eB,cB,zA⟩:=bsome zA
         obtain⟨rC,qB,zA⟩:=bsome zA
         exact sr<|mv rfl rfl<|mv rfl rfl<|mv rfl rfl<|ov (OpV.ixS cB Tryz.underlying55 sz70 rfl rdV rfl) rfl<|ov (OpV.ld kt70 rfl) rfl<|bF (ys:=[eB]) Tryz.underlying55 ET70 (BldA.cons rfl rfl rdV (BldA.nil _)) rfl rfl<|ap qB Tryz.underlying55 AT70 rfl rfl rdV rfl fun rB=>ag rfl rfl<|nt<|rg<|mv rfl rfl<|bn rfl rfl rfl rfl<|ag rfl rfl<|nl<|bN<|nx rB zA rfl rfl
        ·intro K tA
         obtain⟨wB,oA,dA⟩:=bsome dA
         refine sq<|dw rfl (by kernel_rfl) fun F hF0=>mvq rfl rfl<|mvq rfl rfl<|oq (OpV.len Tryz.underlying55 rfl rdV) rfl<|bnq rfl rfl rfl rfl<|mvq rfl rfl<|iA 77 wB ?_ (fun k=>?_)
         ·refine nlq hF0<|tn<|it dA rfl (fun dA=>?_) (fun dA=>?_)
          ·exact rg<|mv rfl rfl<|bn rfl rfl rfl rfl<|ag rfl rfl<|nt<|wr (tA _ (osi dA).symm) rfl
          ·exact ct<|wr (tA _ (osi dA).symm) rfl
         ·refine byq (t:=67) rfl (fun yA=>?_) (fun yA=>?_)
          ·replace oA:=ctrue yA oA
           obtain⟨wC,gB,oA⟩:=bsome oA
           obtain⟨gC,mB,oA⟩:=bsome oA
           exact gq yA rfl rfl<|mvq rfl rfl<|gq yA rfl rfl<|mvq rfl rfl<|gq yA rfl rfl<|oq (OpV.ixS gB Tryz.underlying55 sz70 rfl rdV rfl) rfl<|gq yA rfl rfl<|oq (OpV.ld kt70 rfl) rfl<|gq yA rfl rfl<|mvq rfl rfl<|gq yA rfl rfl<|mvq rfl rfl<|gq yA rfl rfl<|oq (OpV.ixS mB Tryz.underlying55 sz70 rfl rdV rfl) rfl<|gq yA rfl rfl<|oq (OpV.ld kt70 rfl) rfl<|gq yA rfl rfl<|oq (OpV.eqK eqk70 eqg70 rfl rfl rfl rdV rfl rdV) rfl<|oq (pkT yA rfl rfl) rfl<|rfq 9 (rbq oA) rfl k
          ·replace oA:=cfalse yA oA
           exact skq yA rfl rfl rfl<|skq yA rfl rfl rfl<|skq yA rfl rfl rfl<|skq yA rfl rfl rfl<|skq yA rfl rfl rfl<|skq yA rfl rfl rfl<|skq yA rfl rfl rfl<|skq yA rfl rfl rfl<|skq yA rfl rfl rfl<|oq (pkF yA rfl rfl) rfl<|rfq 9 (rbq oA) rfl k
       ·obtain⟨nB,pB,zA⟩:=bsome zA
        obtain⟨mC,tB,zA⟩:=bsome zA
        exact sr<|mv rfl rfl<|mv rfl rfl<|mv rfl rfl<|ov (OpV.ixS pB Tryz.underlying55 sz70 rfl rdV rfl) rfl<|ov (OpV.ld kt70 rfl) rfl<|bF (ys:=[nB]) Tryz.underlying55 ET70 (BldA.cons rfl rfl rdV (BldA.nil _)) rfl rfl<|ap tB Tryz.underlying55 AT70 rfl rfl rdV rfl fun uB=>ag rfl rfl<|nt<|rg<|mv rfl rfl<|bn rfl rfl rfl rfl<|ag rfl rfl<|nl<|bN<|nx uB zA rfl rfl
      ·refine byq (t:=45) rfl (fun hA=>?_) (fun hA=>?_)
       ·replace kA:=ctrue hA kA
        exact skq hA rfl rfl rfl<|skq hA rfl rfl rfl<|skq hA rfl rfl rfl<|skq hA rfl rfl rfl<|skq hA rfl rfl rfl<|ae.sku rfl rfl rfl<|ae.sku rfl rfl rfl<|ae.sku rfl rfl rfl<|ae.sku rfl rfl rfl<|ae.sku rfl rfl rfl<|ae.sku rfl rfl rfl<|ae.sku rfl rfl rfl<|ae.sku rfl rfl rfl<|ae.sku rfl rfl rfl<|ae.sku rfl rfl rfl<|skq hA rfl rfl rfl<|oq (pkT hA rfl rfl) rfl<|rfq 16 (rbq kA) rfl k
       ·replace kA:=cfalse hA kA
        obtain⟨xC,vA,kA⟩:=bsome kA
        refine gq hA rfl rfl<|mvq rfl rfl<|gq hA rfl rfl<|mvq rfl rfl<|gq hA rfl rfl<|oq (OpV.len Tryz.underlying55 rfl rdV) rfl<|gq hA rfl rfl<|bnq rfl rfl rfl rfl<|gq hA rfl rfl<|mvq rfl rfl<|eX 61 xC ?_ (fun k=>?_)
        ·exact oq (pkF hA rfl rfl) rfl<|rfq 6 (rbq kA) rfl k
        ·refine byq (t:=50) rfl (fun xA=>?_) (fun xA=>?_)
         ·replace vA:=ctrue xA vA
          obtain⟨nC,yC,vA⟩:=bsome vA
          obtain⟨pC,zC,vA⟩:=bsome vA
          obtain⟨tC,hC,vA⟩:=bsome vA
          exact gq xA rfl rfl<|mvq rfl rfl<|gq xA rfl rfl<|mvq rfl rfl<|gq xA rfl rfl<|oq (OpV.ixS yC Tryz.underlying55 sz70 rfl rdV rfl) rfl<|gq xA rfl rfl<|oq (OpV.ld kt70 rfl) rfl<|gq xA rfl rfl<|mvq rfl rfl<|gq xA rfl rfl<|mvq rfl rfl<|gq xA rfl rfl<|oq (OpV.ixS zC Tryz.underlying55 sz70 rfl rdV rfl) rfl<|gq xA rfl rfl<|oq (OpV.ld kt70 rfl) rfl<|gq xA rfl rfl<|oq (OpV.call Tryz.call25 rfl rfl (fun L=>(o23 hC L))) rfl<|gq xA rfl rfl<|oq (OpV.not rfl) rfl<|gq hA rfl rfl<|oq (pkT xA rfl rfl) rfl<|rfq 10 (rbq vA) rfl k
         ·replace vA:=cfalse xA vA
          exact skq xA rfl rfl rfl<|skq xA rfl rfl rfl<|skq xA rfl rfl rfl<|skq xA rfl rfl rfl<|skq xA rfl rfl rfl<|skq xA rfl rfl rfl<|skq xA rfl rfl rfl<|skq xA rfl rfl rfl<|skq xA rfl rfl rfl<|skq xA rfl rfl rfl<|gq hA rfl rfl<|oq (pkF xA rfl rfl) rfl<|rfq 10 (rbq vA) rfl k
     ·refine fzO (t:=6) rfl<|xt<|te ?_
      have bC:=aG zA vB
      subst bC
      exact te<|bh<|tn<|wr (hB _ (osi qA).symm) rfl
    ·refine by_ (t:=35) rfl (fun bA=>?_) (fun bA=>?_)
     ·exact sk bA rfl rfl rfl<|sk bA rfl rfl rfl<|sk bA rfl rfl rfl<|sk bA rfl rfl rfl<|ov (pkT bA rfl rfl) rfl<|rf 4 (or_t (e:=decide (pA<(uA.length:Int))) bA) rfl k
     ·exact gc bA rfl rfl<|mv rfl rfl<|gc bA rfl rfl<|mv rfl rfl<|gc bA rfl rfl<|ov (OpV.len Tryz.underlying55 rfl rdV) rfl<|gc bA rfl rfl<|bn rfl rfl rfl rfl<|ov (pkF bA rfl rfl) rfl<|rf 4 (or_f bA) rfl k
noncomputable def aL (a0:aa) (a1:Int) (a2:Int):Option Int:=
 ((bif (((((decide (a1<1))||(decide (a1>8)))||(decide (a2<0)))||(decide (a2>4096)))||(decide (a0.Newest<0)))||(decide (a0.Newest>4611686018427387904)) then
  some true
 else
  (aU a0).bind fun mA=>
  some (decide (mA>a2))
  :Option Bool)).bind fun nA=>
 bif nA then
  some 2
 else
  (((Loop.run (S := Int) (R := (Unit ⊕ Int)) (fun yA =>
    bif decide (yA<(a0.Epochs.length:Int)) then
     (((idx a0.Epochs yA).bind fun xA=>
     bif (((decide (xA.Number<0))||(decide (xA.Number>a0.Newest)))||(decide (xA.Number≤(IntKind.wrap .i64 (a0.Newest - a1)))))||((xA.Tags.length:Int)==0) then
      some (.inl 2)
     else
      ((bif decide (yA>0) then
       (idx a0.Epochs (IntKind.wrap .i64 (yA - 1))).bind fun hA=>
       some (decide (hA.Number≥xA.Number))
      else
       some false
       :Option Bool)).bind fun bA=>
      bif bA then
       some (.inl 2)
      else
       (Loop.run (S := Int) (R := (Unit ⊕ Int)) (fun zA =>
         bif decide (zA<(xA.Tags.length:Int)) then
          (idx xA.Tags (IntKind.wrap .i64 (zA - 1))).bind fun vA=>
          (idx xA.Tags zA).bind fun oA=>
          (aH vA oA).bind fun kA=>
          bif !kA then
           some (.done (.inr 2))
          else
           some (.next (IntKind.wrap .i64 (zA+1)))
         else
          some (.done (.inl ()))) 1).bind fun dA=>match dA with
        | .inl _=>
         some (.inr ())
        | .inr z=>
         some (.inl z)
      : Option (Int ⊕ Unit))).bind fun eA => match eA with
      | .inl z=>
       some (.done (.inr z))
      | .inr _=>
       some (.next (IntKind.wrap .i64 (yA+1)))
    else
     some (.done (.inl ()))) 0).bind fun cA=>match cA with
   | .inl _=>
    some (.inr ())
   | .inr z=>
    some (.inl z)
   : Option (Int ⊕ Unit))).bind fun qA => match qA with
   | .inl z=>
    some z
   | .inr _=>
    (bg a0).bind fun rA=>
    (ax 64 rA).bind fun wA=>
    (aU a0).bind fun gA=>
    bif (wA.length:Int) != gA then
     some 2
    else
     some 0
theorem o26 {a0:aa} {a1 a2:Int} {r0:Int} (hF:aL a0 a1 a2=some r0) (L:List Res):Ok Tryz.prog 17 [SV.val ak a0,SV.raw (.int .i64 a1),SV.raw (.int .i64 a2)] L (SV.raw (.int .i64 r0)) L:=by
 unfold aL at hF
 refine okI 118 Tryz.func17 rfl rfl rfl fun F0=>?_
 refine sr<|bX (K:=ak) rfl rdV rfl<|a_ rfl<|nt<|sq<|sr<|mb rfl<|m_ rfl<|dU 15 ((decide (a1<1))||(decide (a1>8))) ?_ (fun k=>?_)
 ·refine m_ rfl<|dU 19 (((decide (a1<1))||(decide (a1>8)))||(decide (a2<0))) ?_ (fun k=>?_)
  ·refine m_ rfl<|dU 23 ((((decide (a1<1))||(decide (a1>8)))||(decide (a2<0)))||(decide (a2>4096))) ?_ (fun k=>?_)
   ·refine m_ rfl<|aK 28 (((((decide (a1<1))||(decide (a1>8)))||(decide (a2<0)))||(decide (a2>4096)))||(decide (a0.Newest<0))) ?_ (fun k=>?_)
    ·refine m_ rfl<|aK 33 ((((((decide (a1<1))||(decide (a1>8)))||(decide (a2<0)))||(decide (a2>4096)))||(decide (a0.Newest<0)))||(decide (a0.Newest>4611686018427387904))) ?_ (fun k=>?_)
     ·refine bs hF fun pB mA hF=>m_ rfl<|dS 39 pB ?_ (fun k=>?_)
      ·refine nt<|it hF rfl (fun hF=>?_) (fun hF=>?_)
       ·refine sr<|a_ rfl<|nt<|rt ?_
        cases osi hF
        exact rs Tryz.results17 (.tm rfl .nil) rfl rfl
       ·refine bs hF fun zB eA hF=>ct<|sq<|Under.after (fun X=>∀(_:Unit),zB=(.inr ())→Under F0 118 [(3,.ptr ak a0)] (L) X) ?_ ?_
        ·intro _ nA
         replace nA:=nA.symm
         subst nA
         refine bs hF fun tB hB hF=>bs hF fun uB bB hF=>bs hF fun xC vB hF=>sq<|sq<|ph rfl<|gV [0,1,2,3,4,5] [[3],[111],[112],[113],[3],[115]] 0 (by kernel_rfl) rfl<|vo (fun _=>OpV.ld kt27 rfl) rfl<|Vq.v (fun G T hG=>cx Tryz.call27 rfl (o24 hB _)<|Vq.end rfl)<|Vq.v (fun G T hG=>cx Tryz.call26 rfl (o25 bB _)<|Vq.end rfl)<|vo (fun _=>OpV.len Tryz.underlying55 rfl rdV) rfl<|vo (fun _=>OpV.ld kt27 rfl) rfl<|Vq.v (fun G T hG=>cx Tryz.call24 rfl (o22 vB _)<|Vq.end rfl)<|vn<|p1 6 rfl rfl<|b_ rfl<|pn<|pd rfl<|tn<|it hF rfl (fun hF=>?_) (fun hF=>?_)
         ·refine sr<|a_ rfl<|nt<|rt ?_
          cases osi hF
          exact rs Tryz.results17 (.tm rfl .nil) rfl rfl
         ·refine ct<|sr<|a_ rfl<|nt<|rc ?_
          cases osi hF
          exact rs Tryz.results17 (.tm rfl .nil) rfl rfl
        ·intro K oB
         refine bs eA fun yC kB eA=>sr<|a_ rfl<|nt<|bk<|lp kB () (fun qA uA=>[(1,.raw (.int .i64 a1)),(3,.ptr ak a0),(7,.raw (.int .i64 qA))]) (fun qA uA=>L) rfl rfl fun qA uA zC kA gA=>?_
         refine sq<|sr<|m_ rfl<|oF fb27k1 rfl<|oL kt25 rfl<|oN Tryz.underlying25 rfl<|b_ rfl<|nt<|it kA rfl (fun kA=>?_) (fun kA=>?_)
         ·refine bs kA fun dB zA kA=>ct<|sq<|Under.after (fun X=>∀(_:Unit),dB=(.inr ())→Under F0 118 [(1,.raw (.int .i64 a1)),(3,.ptr ak a0),(7,.raw (.int .i64 qA))] (L) X) ?_ ?_
          ·intro _ pA
           replace pA:=pA.symm
           subst pA
           exact rg<|mb rfl<|a_ rfl<|nl<|nx () kA rfl rfl
          ·intro K eB
           refine bs zA fun vA cB zA=>bk<|sr<|oF fb27k1 rfl<|oL kt25 rfl<|m_ rfl<|oS cB Tryz.underlying25 sz57 rfl<|oL kt57 rfl<|al ZT57 rfl fun hC=>sP (x':=vA) .box .id sz57k rfl rfl rdV rfl<|nl<|fz (t:=8) rfl<|tn<|sq<|sr<|oF fb57k1 rfl<|oI kt2 rfl<|b_ rfl<|m_ rfl<|dT 61 ((decide (vA.Number<0))||(decide (vA.Number>a0.Newest))) ?_ (fun k=>?_)
           ·refine m_ rfl<|gy 70 (((decide (vA.Number<0))||(decide (vA.Number>a0.Newest)))||(decide (vA.Number≤(IntKind.wrap .i64 (a0.Newest - a1))))) ?_ (fun k=>?_)
            ·refine m_ rfl<|dS 76 ((((decide (vA.Number<0))||(decide (vA.Number>a0.Newest)))||(decide (vA.Number≤(IntKind.wrap .i64 (a0.Newest - a1)))))||((vA.Tags.length:Int)==0)) ?_ (fun k=>?_)
             ·refine nt<|it zA rfl (fun zA=>?_) (fun zA=>?_)
              ·refine sr<|a_ rfl<|nt<|rt<|Under.bR<|tr ?_
               cases osi zA
               cases aG kA gA
               refine tr<|Under.bR<|tr ?_
               cases osi eA
               cases osi hF
               exact rs Tryz.results17 (.tm rfl .nil) rfl rfl
              ·refine bs zA fun qB dA zA=>ct<|sq<|sq<|dw rfl (by kernel_rfl) fun F hF0=>mvq rfl rfl<|bnq rfl rfl rfl rfl<|mvq rfl rfl<|eX 90 qB ?_ (fun k=>?_)
               ·refine nlq hF0<|tn<|it zA rfl (fun zA=>?_) (fun zA=>?_)
                ·refine sr<|a_ rfl<|nt<|rt<|Under.bR<|tr ?_
                 cases osi zA
                 cases aG kA gA
                 refine tr<|Under.bR<|tr ?_
                 cases osi eA
                 cases osi hF
                 exact rs Tryz.results17 (.tm rfl .nil) rfl rfl
                ·refine bs zA fun bC rB zA=>ct<|sr<|a_ rfl<|nt<|bk<|lp rB () (fun tA xB=>[(1,.raw (.int .i64 a1)),(3,.ptr ak a0),(7,.raw (.int .i64 qA)),(8,.ptr ai vA),(9,.raw (.int .i64 tA))]) (fun tA xB=>L) rfl rfl fun tA xB vC hA yB=>?_
                 refine sq<|sr<|m_ rfl<|oF fb57k rfl<|oL kt55 rfl<|oN Tryz.underlying55 rfl<|b_ rfl<|nt<|it hA rfl (fun hA=>?_) (fun hA=>?_)
                 ·refine bs hA fun oC wB hA=>bs hA fun kC gB hA=>bs hA fun dC mB hA=>ct<|sq<|bk<|sq<|dw rfl (by kernel_rfl) fun F hF0=>oq (OpV.fd fb57k rfl rfl) rfl<|oq (OpV.ld kt55 rfl) rfl<|mvq rfl rfl<|bnq rfl rfl rfl rfl<|oq (OpV.ixS wB Tryz.underlying55 sz70 rfl rdV rfl) rfl<|oq (OpV.ld kt70 rfl) rfl<|oq (OpV.fd fb57k rfl rfl) rfl<|oq (OpV.ld kt55 rfl) rfl<|mvq rfl rfl<|oq (OpV.ixS gB Tryz.underlying55 sz70 rfl rdV rfl) rfl<|oq (OpV.ld kt70 rfl) rfl<|oq (OpV.call Tryz.call25 rfl rfl (fun L=>(o23 mB L))) rfl<|oq (OpV.not rfl) rfl<|nlq hF0<|tn<|it hA rfl (fun hA=>?_) (fun hA=>?_)
                  ·refine sr<|a_ rfl<|nt<|rc<|Under.bR<|tr ?_
                   cases aG hA yB
                   refine tr<|Under.bR<|Under.bR<|tr ?_
                   cases osi zA
                   cases aG kA gA
                   refine tr<|Under.bR<|tr ?_
                   cases osi eA
                   cases osi hF
                   exact rs Tryz.results17 (.tm rfl .nil) rfl rfl
                  ·exact cs<|bN<|tn<|rg<|mb rfl<|a_ rfl<|nl<|nx () hA rfl rfl
                 ·refine xt<|te ?_
                  cases aG hA yB
                  exact te<|bh<|bN<|tn<|wr (eB () (osi zA).symm) rfl
               ·refine byq (t:=79) rfl (fun xA=>?_) (fun xA=>?_)
                ·replace dA:=ctrue xA dA
                 exact bs dA fun eC nB dA=>gq xA rfl rfl<|oq (OpV.fd fb27k1 rfl rfl) rfl<|gq xA rfl rfl<|oq (OpV.ld kt25 rfl) rfl<|gq xA rfl rfl<|mvq rfl rfl<|gq xA rfl rfl<|bnq rfl rfl rfl rfl<|gq xA rfl rfl<|oq (OpV.ixS nB Tryz.underlying25 sz57 rfl rdV rfl) rfl<|gq xA rfl rfl<|oq (OpV.fd fb57k1 rfl rfl) rfl<|gq xA rfl rfl<|oq (OpV.ldI kt2 rfl) rfl<|gq xA rfl rfl<|oq (OpV.fd fb57k1 rfl rfl) rfl<|gq xA rfl rfl<|oq (OpV.ldI kt2 rfl) rfl<|gq xA rfl rfl<|bnq rfl rfl rfl rfl<|oq (pkT xA rfl rfl) rfl<|rfq 10 (rbq dA) rfl k
                ·replace dA:=cfalse xA dA
                 exact skq xA rfl rfl rfl<|skq xA rfl rfl rfl<|skq xA rfl rfl rfl<|skq xA rfl rfl rfl<|skq xA rfl rfl rfl<|skq xA rfl rfl rfl<|skq xA rfl rfl rfl<|skq xA rfl rfl rfl<|skq xA rfl rfl rfl<|skq xA rfl rfl rfl<|oq (pkF xA rfl rfl) rfl<|rfq 10 (rbq dA) rfl k
             ·refine by_ (t:=71) rfl (fun oA=>?_) (fun oA=>?_)
              ·exact sk_ oA rfl<|sk_ oA rfl<|sk_ oA rfl<|sk_ oA rfl<|pT oA rfl<|rf 4 (or_t (e:=(vA.Tags.length:Int)==0) oA) rfl k
              ·exact gc_ oA rfl<|oF fb57k rfl<|gc_ oA rfl<|oL kt55 rfl<|gc_ oA rfl<|oN Tryz.underlying55 rfl<|gc_ oA rfl<|b_ rfl<|pF oA rfl<|rf 4 (or_f oA) rfl k
            ·refine by_ (t:=62) rfl (fun yA=>?_) (fun yA=>?_)
             ·exact sk_ yA rfl<|sk_ yA rfl<|sk_ yA rfl<|sk_ yA rfl<|sk_ yA rfl<|sk_ yA rfl<|sk_ yA rfl<|pT yA rfl<|rf 7 (or_t (e:=decide (vA.Number≤(IntKind.wrap .i64 (a0.Newest - a1)))) yA) rfl k
             ·exact gc_ yA rfl<|oF fb57k1 rfl<|gc_ yA rfl<|oI kt2 rfl<|gc_ yA rfl<|oF fb27k rfl<|gc_ yA rfl<|oI kt2 rfl<|gc_ yA rfl<|m_ rfl<|gc_ yA rfl<|b_ rfl<|gc_ yA rfl<|b_ rfl<|pF yA rfl<|rf 7 (or_f yA) rfl k
           ·refine by_ (t:=55) rfl (fun bA=>?_) (fun bA=>?_)
            ·exact sk_ bA rfl<|sk_ bA rfl<|sk_ bA rfl<|sk_ bA rfl<|sk_ bA rfl<|pT bA rfl<|rf 5 (or_t (e:=decide (vA.Number>a0.Newest)) bA) rfl k
            ·exact gc_ bA rfl<|oF fb57k1 rfl<|gc_ bA rfl<|oI kt2 rfl<|gc_ bA rfl<|oF fb27k rfl<|gc_ bA rfl<|oI kt2 rfl<|gc_ bA rfl<|b_ rfl<|pF bA rfl<|rf 5 (or_f bA) rfl k
         ·refine xt<|te ?_
          cases aG kA gA
          exact te<|bh<|tn<|wr (oB () (osi eA).symm) rfl
      ·refine by_ (t:=34) rfl (fun cA=>?_) (fun cA=>?_)
       ·replace mA:=ctrue cA mA
        exact sk_ cA rfl<|sk_ cA rfl<|sk_ cA rfl<|sk_ cA rfl<|pT cA rfl<|rf 4 (rbq mA) rfl k
       ·replace mA:=cfalse cA mA
        exact bs mA fun qC cC mA=>gc_ cA rfl<|oL kt27 rfl<|gc_ cA rfl<|cx Tryz.call24 rfl (o22 cC _)<|gc_ cA rfl<|m_ rfl<|gc_ cA rfl<|b_ rfl<|pF cA rfl<|rf 4 (rbq mA) rfl k
     ·refine by_ (t:=29) rfl (fun rA=>?_) (fun rA=>?_)
      ·exact sk_ rA rfl<|sk_ rA rfl<|sk_ rA rfl<|pT rA rfl<|rf 3 (or_t (e:=decide (a0.Newest>4611686018427387904)) rA) rfl k
      ·exact gc_ rA rfl<|oF fb27k rfl<|gc_ rA rfl<|oI kt2 rfl<|gc_ rA rfl<|b_ rfl<|pF rA rfl<|rf 3 (or_f rA) rfl k
    ·refine by_ (t:=24) rfl (fun wA=>?_) (fun wA=>?_)
     ·exact sk_ wA rfl<|sk_ wA rfl<|sk_ wA rfl<|pT wA rfl<|rf 3 (or_t (e:=decide (a0.Newest<0)) wA) rfl k
     ·exact gc_ wA rfl<|oF fb27k rfl<|gc_ wA rfl<|oI kt2 rfl<|gc_ wA rfl<|b_ rfl<|pF wA rfl<|rf 3 (or_f wA) rfl k
   ·refine by_ (t:=20) rfl (fun c7=>?_) (fun c7=>?_)
    ·exact sk_ c7 rfl<|sk_ c7 rfl<|pT c7 rfl<|rf 2 (or_t (e:=decide (a2>4096)) c7) rfl k
    ·exact gc_ c7 rfl<|m_ rfl<|gc_ c7 rfl<|b_ rfl<|pF c7 rfl<|rf 2 (or_f c7) rfl k
  ·refine by_ (t:=16) rfl (fun c4=>?_) (fun c4=>?_)
   ·exact sk_ c4 rfl<|sk_ c4 rfl<|pT c4 rfl<|rf 2 (or_t (e:=decide (a2<0)) c4) rfl k
   ·exact gc_ c4 rfl<|m_ rfl<|gc_ c4 rfl<|b_ rfl<|pF c4 rfl<|rf 2 (or_f c4) rfl k
 ·refine by_ (t:=12) rfl (fun c1=>?_) (fun c1=>?_)
  ·exact sk_ c1 rfl<|sk_ c1 rfl<|pT c1 rfl<|rf 2 (or_t (e:=decide (a1>8)) c1) rfl k
  ·exact gc_ c1 rfl<|m_ rfl<|gc_ c1 rfl<|b_ rfl<|pF c1 rfl<|rf 2 (or_f c1) rfl k
noncomputable def aM (a0:af) (a1:ab):Option Int:=
 (aW a0).bind fun y1=>
 ((bif ((!y1)||(decide (a1.Next<0)))||(decide (a1.Next>4611686018427387904)) then
  some true
 else
  (aL a1.Window a0.Span a0.Room).bind fun xA=>
  some (xA != 0)
  :Option Bool)).bind fun yA=>
 bif yA then
  some 210
 else
  some 0
theorem o27 {a0:af} {a1:ab} {r0:Int} (hF:aM a0 a1=some r0) (L:List Res):Ok Tryz.prog 6 [SV.val ar a0,SV.val ah a1] L (SV.raw (.int .i64 r0)) L:=by
 unfold aM at hF
 refine okI 28 Tryz.func6 rfl rfl rfl fun F0=>?_
 refine bs hF fun y1 h2 hF=>sr<|bX (K:=ar) rfl rdV rfl<|bX (K:=ah) rfl rdV rfl<|a_ rfl<|nt<|sq<|sr<|oL kt24 rfl<|cx Tryz.call16 rfl (o21 h2 _)<|ov (OpV.not rfl) rfl<|m_ rfl<|aK 12 ((!y1)||(decide (a1.Next<0))) ?_ (fun k=>?_)
 ·refine m_ rfl<|aK 17 (((!y1)||(decide (a1.Next<0)))||(decide (a1.Next>4611686018427387904))) ?_ (fun k=>?_)
  ·refine bs hF fun yA xA hF=>m_ rfl<|iv 27 yA ?_ (fun k=>?_)
   ·refine nt<|it hF rfl (fun hF=>?_) (fun hF=>?_)
    ·refine sr<|a_ rfl<|nt<|rt ?_
     cases osi hF
     exact rs Tryz.results6 (.tm rfl .nil) rfl rfl
    ·refine ct<|sr<|a_ rfl<|nt<|rc ?_
     cases osi hF
     exact rs Tryz.results6 (.tm rfl .nil) rfl rfl
   ·refine by_ (t:=18) rfl (fun c9=>?_) (fun c9=>?_)
    ·replace xA:=ctrue c9 xA
     exact sk_ c9 rfl<|sk_ c9 rfl<|sk_ c9 rfl<|sk_ c9 rfl<|sk_ c9 rfl<|sk_ c9 rfl<|sk_ c9 rfl<|sk_ c9 rfl<|pT c9 rfl<|rf 8 (rbq xA) rfl k
    ·replace xA:=cfalse c9 xA
     exact bs xA fun hA zA xA=>gc_ c9 rfl<|oF fb29k1 rfl<|gc_ c9 rfl<|oL kt27 rfl<|gc_ c9 rfl<|oF fb24k2 rfl<|gc_ c9 rfl<|oI kt3 rfl<|gc_ c9 rfl<|oF fb24k3 rfl<|gc_ c9 rfl<|oI kt3 rfl<|gc_ c9 rfl<|cx Tryz.call17 rfl (o26 zA _)<|gc_ c9 rfl<|b_ rfl<|pF c9 rfl<|rf 8 (rbq xA) rfl k
  ·refine by_ (t:=13) rfl (fun c6=>?_) (fun c6=>?_)
   ·exact sk_ c6 rfl<|sk_ c6 rfl<|sk_ c6 rfl<|pT c6 rfl<|rf 3 (or_t (e:=decide (a1.Next>4611686018427387904)) c6) rfl k
   ·exact gc_ c6 rfl<|oF fb29k rfl<|gc_ c6 rfl<|oI kt2 rfl<|gc_ c6 rfl<|b_ rfl<|pF c6 rfl<|rf 3 (or_f c6) rfl k
 ·refine by_ (t:=8) rfl (fun c3=>?_) (fun c3=>?_)
  ·exact sk_ c3 rfl<|sk_ c3 rfl<|sk_ c3 rfl<|pT c3 rfl<|rf 3 (or_t (e:=decide (a1.Next<0)) c3) rfl k
  ·exact gc_ c3 rfl<|oF fb29k rfl<|gc_ c3 rfl<|oI kt2 rfl<|gc_ c3 rfl<|b_ rfl<|pF c3 rfl<|rf 3 (or_f c3) rfl k
noncomputable def aD (a0:Option am):Option ab:=
 bif Option.isNone a0 then
  some (⟨(0:Int),(⟨(0:Int),[]⟩:aa)⟩:ab)
 else
  (a0).bind fun y3=>
  (aY y3.state).bind fun y5=>
  some y5
theorem o28 {a0:Option am} {r0:ab} (hF:aD a0=some r0) (L:List Res):Ok Tryz.prog 8 [SV.val (dh aP) a0] L (SV.val ah r0) L:=by
 unfold aD at hF
 refine okI 11 Tryz.func8 rfl rfl rfl fun F0=>?_
 refine sr<|al ZT29 rfl fun b1=>nt<|sq<|sr<|m_ rfl<|ov (OpV.ptrO Tryz.underlying31 (.inl rfl) rfl) rfl<|nt<|it hF rfl (fun hF=>?_) (fun hF=>?_)
 ·refine sr<|ov (OpV.bst BT29 (Bld.nil _)) rfl<|sP (x':=(⟨(0:Int),(⟨(0:Int),[]⟩:aa)⟩:ab)) .box .id sz29k rfl rfl rdV rfl<|nl<|fz (t:=2) rfl<|tn<|rt ?_
  cases osi hF
  exact rs Tryz.results8 (.ce rfl kt29 .nil) rfl rfl
 ·refine bs hF fun y3 h4 hF=>bs hF fun y5 h6 hF=>ct<|sr<|m_ rfl<|Under.ptrS 6 h4 rfl<|ov (OpV.nilChkP rfl) rfl<|oF fb51k rfl<|oL kt29 rfl<|cx Tryz.call15 rfl (o18 h6 _)<|sP (x':=y5) .box .id sz29k rfl rfl rdV rfl<|nl<|fz (t:=2) rfl<|tn<|rc ?_
  cases osi hF
  exact rs Tryz.results8 (.ce rfl kt29 .nil) rfl rfl
noncomputable def aI (a0:az) (a1:az):Option Bool:=
 bif (a0.Number != a1.Number)||((a0.Tags.length:Int) != (a1.Tags.length:Int)) then
  some false
 else
  (((Loop.run (S := Int) (R := (Unit ⊕ Bool)) (fun xA =>
    bif decide (xA<(a0.Tags.length:Int)) then
     (idx a0.Tags xA).bind fun yA=>
     (idx a1.Tags xA).bind fun zA=>
     bif yA != zA then
      some (.done (.inr false))
     else
      some (.next (IntKind.wrap .i64 (xA+1)))
    else
     some (.done (.inl ()))) 0).bind fun hA=>match hA with
   | .inl _=>
    some (.inr ())
   | .inr z=>
    some (.inl z)
   : Option (Bool ⊕ Unit))).bind fun bA => match bA with
   | .inl z=>
    some z
   | .inr _=>
    some true
theorem o29 {a0 a1:az} {r0:Bool} (hF:aI a0 a1=some r0) (L:List Res):Ok Tryz.prog 18 [SV.val ai a0,SV.val ai a1] L (SV.raw (.bool r0)) L:=by
 unfold aI at hF
 refine okI 38 Tryz.func18 rfl rfl rfl fun F0=>?_
 refine sr<|bX (K:=ai) rfl rdV rfl<|bX (K:=ai) rfl rdV rfl<|a_ rfl<|nt<|sq<|sr<|oF fb57k1 rfl<|oI kt2 rfl<|oF fb57k1 rfl<|oI kt2 rfl<|b_ rfl<|m_ rfl<|gy 19 ((a0.Number != a1.Number)||((a0.Tags.length:Int) != (a1.Tags.length:Int))) ?_ (fun k=>?_)
 ·refine nt<|it hF rfl (fun hF=>?_) (fun hF=>?_)
  ·refine sr<|a_ rfl<|nt<|rt ?_
   cases osi hF
   exact rs Tryz.results18 (.tm rfl .nil) rfl rfl
  ·refine bs hF fun oA yA hF=>ct<|sq<|Under.after (fun X=>∀(_:Unit),oA=(.inr ())→Under F0 38 [] (L) X) ?_ ?_
   ·intro _ zA
    replace zA:=zA.symm
    subst zA
    refine sr<|a_ rfl<|nt<|rc ?_
    cases osi hF
    exact rs Tryz.results18 (.tm rfl .nil) rfl rfl
   ·intro K kA
    refine bs yA fun qA dA yA=>sr<|oF fb57k rfl<|oL kt55 rfl<|oN Tryz.underlying55 rfl<|m_ rfl<|nt<|bk<|lp dA () (fun hA bA=>[(2,.ptr ai a0),(3,.ptr ai a1),(22,.raw (.int .i64 (a0.Tags.length:Int))),(23,.raw (.int .i64 hA))]) (fun hA bA=>L) rfl rfl fun hA bA rA xA vA=>?_
    refine sr<|b_ rfl<|nt<|sq<|it xA rfl (fun xA=>?_) (fun xA=>?_)
    ·refine bs xA fun wA eA xA=>bs xA fun gA cA xA=>ct<|sq<|bk<|sr<|m_ rfl<|a_ rfl<|nt<|sq<|dw rfl (by kernel_rfl) fun F hF0=>oq (OpV.fd fb57k rfl rfl) rfl<|oq (OpV.ld kt55 rfl) rfl<|mvq rfl rfl<|oq (OpV.ixS eA Tryz.underlying55 sz70 rfl rdV rfl) rfl<|oq (OpV.ld kt70 rfl) rfl<|oq (OpV.fd fb57k rfl rfl) rfl<|oq (OpV.ld kt55 rfl) rfl<|mvq rfl rfl<|oq (OpV.ixS cA Tryz.underlying55 sz70 rfl rdV rfl) rfl<|oq (OpV.ld kt70 rfl) rfl<|oq (OpV.neK eqk70 eqg70 rfl rfl rfl rdV rfl rdV) rfl<|nlq hF0<|tn<|it xA rfl (fun xA=>?_) (fun xA=>?_)
     ·refine sr<|a_ rfl<|nt<|rc<|Under.bR<|tr ?_
      cases aG xA vA
      refine tr<|Under.bR<|tr ?_
      cases osi yA
      cases osi hF
      exact rs Tryz.results18 (.tm rfl .nil) rfl rfl
     ·exact cs<|bN<|tn<|rg<|b_ rfl<|m_ rfl<|nl<|nx () xA rfl rfl
    ·refine xt<|te ?_
     cases aG xA vA
     exact te<|bh<|tn<|wr (kA () (osi yA).symm) rfl
 ·refine by_ (t:=11) rfl (fun c1=>?_) (fun c1=>?_)
  ·exact sk_ c1 rfl<|sk_ c1 rfl<|sk_ c1 rfl<|sk_ c1 rfl<|sk_ c1 rfl<|sk_ c1 rfl<|sk_ c1 rfl<|pT c1 rfl<|rf 7 (or_t (e:=(a0.Tags.length:Int) != (a1.Tags.length:Int)) c1) rfl k
  ·exact gc_ c1 rfl<|oF fb57k rfl<|gc_ c1 rfl<|oL kt55 rfl<|gc_ c1 rfl<|oN Tryz.underlying55 rfl<|gc_ c1 rfl<|oF fb57k rfl<|gc_ c1 rfl<|oL kt55 rfl<|gc_ c1 rfl<|oN Tryz.underlying55 rfl<|gc_ c1 rfl<|b_ rfl<|pF c1 rfl<|rf 7 (or_f c1) rfl k
noncomputable def aC (a0:ab) (a1:ab):Option Bool:=
 bif ((a0.Next != a1.Next)||(a0.Window.Newest != a1.Window.Newest))||((a0.Window.Epochs.length:Int) != (a1.Window.Epochs.length:Int)) then
  some false
 else
  (((Loop.run (S := Int) (R := (Unit ⊕ Bool)) (fun xA =>
    bif decide (xA<(a0.Window.Epochs.length:Int)) then
     (idx a0.Window.Epochs xA).bind fun yA=>
     (idx a1.Window.Epochs xA).bind fun zA=>
     (aI yA zA).bind fun hA=>
     bif !hA then
      some (.done (.inr false))
     else
      some (.next (IntKind.wrap .i64 (xA+1)))
    else
     some (.done (.inl ()))) 0).bind fun bA=>match bA with
   | .inl _=>
    some (.inr ())
   | .inr z=>
    some (.inl z)
   : Option (Bool ⊕ Unit))).bind fun vA => match vA with
   | .inl z=>
    some z
   | .inr _=>
    some true
theorem o30 {a0 a1:ab} {r0:Bool} (hF:aC a0 a1=some r0) (L:List Res):Ok Tryz.prog 7 [SV.val ah a0,SV.val ah a1] L (SV.raw (.bool r0)) L:=by
 unfold aC at hF
 refine okI 53 Tryz.func7 rfl rfl rfl fun F0=>?_
 refine sr<|bX (K:=ah) rfl rdV rfl<|bX (K:=ah) rfl rdV rfl<|a_ rfl<|nt<|sq<|sr<|oF fb29k rfl<|oI kt2 rfl<|oF fb29k rfl<|oI kt2 rfl<|b_ rfl<|m_ rfl<|gy 19 ((a0.Next != a1.Next)||(a0.Window.Newest != a1.Window.Newest)) ?_ (fun k=>?_)
 ·refine m_ rfl<|iJ 30 (((a0.Next != a1.Next)||(a0.Window.Newest != a1.Window.Newest))||((a0.Window.Epochs.length:Int) != (a1.Window.Epochs.length:Int))) ?_ (fun k=>?_)
  ·refine nt<|it hF rfl (fun hF=>?_) (fun hF=>?_)
   ·refine sr<|a_ rfl<|nt<|rt ?_
    cases osi hF
    exact rs Tryz.results7 (.tm rfl .nil) rfl rfl
   ·refine bs hF fun oA yA hF=>ct<|sq<|Under.after (fun X=>∀(_:Unit),oA=(.inr ())→Under F0 53 [] (L) X) ?_ ?_
    ·intro _ zA
     replace zA:=zA.symm
     subst zA
     refine sr<|a_ rfl<|nt<|rc ?_
     cases osi hF
     exact rs Tryz.results7 (.tm rfl .nil) rfl rfl
    ·intro K kA
     refine bs yA fun rA dA yA=>sr<|oF fb29k1 rfl<|oF fb27k1 rfl<|oL kt25 rfl<|oN Tryz.underlying25 rfl<|m_ rfl<|nt<|bk<|lp dA () (fun hA bA=>[(2,.ptr ah a0),(3,.ptr ah a1),(34,.raw (.int .i64 (a0.Window.Epochs.length:Int))),(35,.raw (.int .i64 hA))]) (fun hA bA=>L) rfl rfl fun hA bA wA xA vA=>?_
     refine sr<|b_ rfl<|nt<|sq<|it xA rfl (fun xA=>?_) (fun xA=>?_)
     ·refine bs xA fun gA eA xA=>bs xA fun mA cA xA=>bs xA fun nA qA xA=>ct<|sq<|bk<|sr<|m_ rfl<|a_ rfl<|nt<|sq<|dw rfl (by kernel_rfl) fun F hF0=>oq (OpV.fd fb29k1 rfl rfl) rfl<|oq (OpV.fd fb27k1 rfl rfl) rfl<|oq (OpV.ld kt25 rfl) rfl<|mvq rfl rfl<|oq (OpV.ixS eA Tryz.underlying25 sz57 rfl rdV rfl) rfl<|oq (OpV.ld kt57 rfl) rfl<|oq (OpV.fd fb29k1 rfl rfl) rfl<|oq (OpV.fd fb27k1 rfl rfl) rfl<|oq (OpV.ld kt25 rfl) rfl<|mvq rfl rfl<|oq (OpV.ixS cA Tryz.underlying25 sz57 rfl rdV rfl) rfl<|oq (OpV.ld kt57 rfl) rfl<|oq (OpV.call Tryz.call18 rfl rfl (fun L=>(o29 qA L))) rfl<|oq (OpV.not rfl) rfl<|nlq hF0<|tn<|it xA rfl (fun xA=>?_) (fun xA=>?_)
      ·refine sr<|a_ rfl<|nt<|rc<|Under.bR<|tr ?_
       cases aG xA vA
       refine tr<|Under.bR<|tr ?_
       cases osi yA
       cases osi hF
       exact rs Tryz.results7 (.tm rfl .nil) rfl rfl
      ·exact cs<|bN<|tn<|rg<|b_ rfl<|m_ rfl<|nl<|nx () xA rfl rfl
     ·refine xt<|te ?_
      cases aG xA vA
      exact te<|bh<|tn<|wr (kA () (osi yA).symm) rfl
  ·refine by_ (t:=20) rfl (fun c4=>?_) (fun c4=>?_)
   ·exact sk_ c4 rfl<|sk_ c4 rfl<|sk_ c4 rfl<|sk_ c4 rfl<|sk_ c4 rfl<|sk_ c4 rfl<|sk_ c4 rfl<|sk_ c4 rfl<|sk_ c4 rfl<|pT c4 rfl<|rf 9 (or_t (e:=(a0.Window.Epochs.length:Int) != (a1.Window.Epochs.length:Int)) c4) rfl k
   ·exact gc_ c4 rfl<|oF fb29k1 rfl<|gc_ c4 rfl<|oF fb27k1 rfl<|gc_ c4 rfl<|oL kt25 rfl<|gc_ c4 rfl<|oN Tryz.underlying25 rfl<|gc_ c4 rfl<|oF fb29k1 rfl<|gc_ c4 rfl<|oF fb27k1 rfl<|gc_ c4 rfl<|oL kt25 rfl<|gc_ c4 rfl<|oN Tryz.underlying25 rfl<|gc_ c4 rfl<|b_ rfl<|pF c4 rfl<|rf 9 (or_f c4) rfl k
 ·refine by_ (t:=11) rfl (fun c1=>?_) (fun c1=>?_)
  ·exact sk_ c1 rfl<|sk_ c1 rfl<|sk_ c1 rfl<|sk_ c1 rfl<|sk_ c1 rfl<|sk_ c1 rfl<|sk_ c1 rfl<|pT c1 rfl<|rf 7 (or_t (e:=a0.Window.Newest != a1.Window.Newest) c1) rfl k
  ·exact gc_ c1 rfl<|oF fb29k1 rfl<|gc_ c1 rfl<|oF fb27k rfl<|gc_ c1 rfl<|oI kt2 rfl<|gc_ c1 rfl<|oF fb29k1 rfl<|gc_ c1 rfl<|oF fb27k rfl<|gc_ c1 rfl<|oI kt2 rfl<|gc_ c1 rfl<|b_ rfl<|pF c1 rfl<|rf 7 (or_f c1) rfl k
noncomputable def bD (a0:af):Option ((Option am)×Int):=
 (aR a0 (⟨(0:Int),(⟨(0:Int),[]⟩:aa)⟩:ab)).bind fun y1=>
 some (y1.1,y1.2)
theorem o31 {a0:af} {r0:((Option am)×Int)} (hF:bD a0=some r0) (L:List Res):Ok Tryz.prog 9 [SV.val ar a0] L (SV.tup [SV.val (dh aP) r0.1,SV.raw (.int .i64 r0.2)]) L:=by
 unfold bD at hF
 refine okI 9 Tryz.func9 rfl rfl rfl fun F0=>?_
 refine bs hF fun y1 h2 hF=>sr<|bX (K:=ar) rfl rdV rfl<|a_ rfl<|a_ rfl<|ns<|oL kt24 rfl<|ov (OpV.bst BT29 (Bld.nil _)) rfl<|cx Tryz.call5 rfl (o19 h2 _)<|oE rfl<|oE rfl<|a_ rfl<|a_ rfl<|nt<|rc ?_
 cases osi hF
 exact rs Tryz.results9 (.tm rfl (.tm rfl .nil)) rfl rfl
noncomputable def aF (a0:af) (a1:ab):Option Bool:=
 (aV).bind fun y1=>
 bif !y1 then
  some false
 else
  (aR a0 a1).bind fun y4=>
  (aM a0 a1).bind fun y6=>
  bif (y4.2 != y6)||((Option.isNone y4.1) != (y4.2 != 0)) then
   some false
  else
   ((bif y4.2==0 then
    (aD y4.1).bind fun yA=>
    (aC yA a1).bind fun zA=>
    some (!zA)
   else
    some false
    :Option Bool)).bind fun hA=>
   bif hA then
    some false
   else
    (bD a0).bind fun xA=>
    (aM a0 (⟨(0:Int),(⟨(0:Int),[]⟩:aa)⟩:ab)).bind fun bA=>
    bif (xA.2 != bA)||((Option.isNone xA.1) != (xA.2 != 0)) then
     some false
    else
     ((bif xA.2 != 0 then
      some true
     else
      (aD xA.1).bind fun vA=>
      (aC vA (⟨(0:Int),(⟨(0:Int),[]⟩:aa)⟩:ab)).bind fun oA=>
      some oA
      :Option Bool)).bind fun kA=>
     some kA
theorem o32 {a0:af} {a1:ab} {r0:Bool} (hF:aF a0 a1=some r0) (L:List Res):Ok Tryz.prog 3 [SV.val ar a0,SV.val ah a1] L (SV.raw (.bool r0)) L:=by
 unfold aF at hF
 refine okI 63 Tryz.func3 rfl rfl rfl fun F0=>?_
 refine bs hF fun y1 h2 hF=>sr<|bX (K:=ar) rfl rdV rfl<|bX (K:=ah) rfl rdV rfl<|a_ rfl<|nt<|sq<|sr<|cx Tryz.call4 rfl (o4 h2 _)<|ov (OpV.not rfl) rfl<|nt<|it hF rfl (fun hF=>?_) (fun hF=>?_)
 ·refine sr<|a_ rfl<|nt<|rt ?_
  cases osi hF
  exact rs Tryz.results3 (.tm rfl .nil) rfl rfl
 ·refine bs hF fun y4 h5 hF=>bs hF fun y6 h7 hF=>ct<|sr<|oL kt24 rfl<|oL kt29 rfl<|cx Tryz.call5 rfl (o19 h5 _)<|m_ rfl<|oE rfl<|oE rfl<|a_ rfl<|a_ rfl<|nt<|sq<|sr<|m_ rfl<|oL kt24 rfl<|oL kt29 rfl<|cx Tryz.call6 rfl (o27 h7 _)<|b_ rfl<|m_ rfl<|dT 28 ((y4.2 != y6)||((Option.isNone y4.1) != (y4.2 != 0))) ?_ (fun k=>?_)
  ·refine nt<|it hF rfl (fun hF=>?_) (fun hF=>?_)
   ·refine sr<|a_ rfl<|nt<|rt ?_
    cases osi hF
    exact rs Tryz.results3 (.tm rfl .nil) rfl rfl
   ·refine bs hF fun oA hA hF=>ct<|sq<|sq<|Under.drawz [[6],[29],[30],[5,31],[31,32],[3,31],[31,33,34],[31,35],[31,36]] [(37,.raw (.bool oA))] rfl (by kernel_rfl) rfl ?_ (fun k F hF0=>?_)
    ·refine tn<|it hF rfl (fun hF=>?_) (fun hF=>?_)
     ·refine sr<|a_ rfl<|nt<|rt ?_
      cases osi hF
      exact rs Tryz.results3 (.tm rfl .nil) rfl rfl
     ·refine bs hF fun vA dA hF=>bs hF fun eA cA hF=>ct<|sr<|oL kt24 rfl<|cx Tryz.call9 rfl (o31 dA _)<|m_ rfl<|oE rfl<|oE rfl<|a_ rfl<|a_ rfl<|nt<|sq<|sr<|m_ rfl<|oL kt24 rfl<|ov (OpV.bst BT29 (Bld.nil _)) rfl<|cx Tryz.call6 rfl (o27 cA _)<|b_ rfl<|m_ rfl<|dT 54 ((vA.2 != eA)||((Option.isNone vA.1) != (vA.2 != 0))) ?_ (fun k=>?_)
      ·refine nt<|it hF rfl (fun hF=>?_) (fun hF=>?_)
       ·refine sr<|a_ rfl<|nt<|rt ?_
        cases osi hF
        exact rs Tryz.results3 (.tm rfl .nil) rfl rfl
       ·refine bs hF fun qA bA hF=>ct<|sr<|mb rfl<|m_ rfl<|dS 62 qA ?_ (fun k=>?_)
        ·refine a_ rfl<|nt<|rc ?_
         cases osi hF
         exact rs Tryz.results3 (.tm rfl .nil) rfl rfl
        ·refine by_ (t:=57) rfl (fun zA=>?_) (fun zA=>?_)
         ·replace bA:=ctrue zA bA
          exact sk_ zA rfl<|sk_ zA rfl<|sk_ zA rfl<|sk_ zA rfl<|pT zA rfl<|rf 4 (rbq bA) rfl k
         ·replace bA:=cfalse zA bA
          exact bs bA fun pA rA bA=>bs bA fun tA wA bA=>gc_ zA rfl<|m_ rfl<|gc_ zA rfl<|cx Tryz.call8 rfl (o28 rA _)<|gc_ zA rfl<|ov (OpV.bst BT29 (Bld.nil _)) rfl<|gc_ zA rfl<|cx Tryz.call7 rfl (o30 wA _)<|pF zA rfl<|rf 4 (rbq bA) rfl k
      ·refine by_ (t:=48) rfl (fun xA=>?_) (fun xA=>?_)
       ·exact sk_ xA rfl<|sk_ xA rfl<|sk_ xA rfl<|sk_ xA rfl<|sk_ xA rfl<|pT xA rfl<|rf 5 (or_t (e:=(Option.isNone vA.1) != (vA.2 != 0)) xA) rfl k
       ·exact gc_ xA rfl<|m_ rfl<|gc_ xA rfl<|ov (OpV.ptrO Tryz.underlying31 (.inl rfl) rfl) rfl<|gc_ xA rfl<|m_ rfl<|gc_ xA rfl<|b_ rfl<|gc_ xA rfl<|ov (OpV.eqBn Tryz.underlying4 rfl rfl) rfl<|pF xA rfl<|rf 5 (or_f xA) rfl k
    ·refine Zq.st (.raw (.int .i64 y4.2)) (fun G hG=>?_) ?_
     ·exact m_ rfl<|Zq.done rfl
     refine Zq.st (.raw (.bool (y4.2==0))) (fun G hG=>?_) ?_
     ·exact b_ rfl<|Zq.done rfl
     refine Zq.st (.raw (.bool (y4.2==0))) (fun G hG=>?_) ?_
     ·exact m_ rfl<|Zq.done rfl
     refine Zq.by (y4.2==0) (fun yA=>?_) (fun yA=>?_)
     ·replace hA:=ctrue yA hA
      refine bs hA fun gA mA hA=>bs hA fun kA nA hA=>Zq.st (.val (dh aP) y4.1) (fun G hG=>?_) ?_
      ·exact gc_ yA rfl<|m_ rfl<|Zq.done rfl
      refine Zq.st (.val ah gA) (fun G hG=>?_) ?_
      ·exact gc_ yA rfl<|cx Tryz.call8 rfl (o28 mA _)<|Zq.done rfl
      refine Zq.st (.val ah a1) (fun G hG=>?_) ?_
      ·exact gc_ yA rfl<|oL kt29 rfl<|Zq.done rfl
      refine Zq.st (.raw (.bool kA)) (fun G hG=>?_) ?_
      ·exact gc_ yA rfl<|cx Tryz.call7 rfl (o30 nA _)<|Zq.done rfl
      refine Zq.st (.raw (.bool (!kA))) (fun G hG=>?_) ?_
      ·exact gc_ yA rfl<|ov (OpV.not rfl) rfl<|Zq.done rfl
      refine Zq.st (.raw (.bool oA)) (fun G hG=>?_) ?_
      ·exact pT yA rfl<|Under.top (rbq hA)<|Zq.done rfl
      exact Zq.nil (Zq.fin 9 hF0 (SubZ.cons rfl rfl SubZ.nil) rfl k)
     ·replace hA:=cfalse yA hA
      refine Zq.st (.raw undef) (fun G hG=>?_) ?_
      ·exact sk_ yA rfl<|Zq.done rfl
      refine Zq.st (.raw undef) (fun G hG=>?_) ?_
      ·exact sk_ yA rfl<|Zq.done rfl
      refine Zq.st (.raw undef) (fun G hG=>?_) ?_
      ·exact sk_ yA rfl<|Zq.done rfl
      refine Zq.st (.raw undef) (fun G hG=>?_) ?_
      ·exact sk_ yA rfl<|Zq.done rfl
      refine Zq.st (.raw undef) (fun G hG=>?_) ?_
      ·exact sk_ yA rfl<|Zq.done rfl
      refine Zq.st (.raw (.bool oA)) (fun G hG=>?_) ?_
      ·exact pF yA rfl<|Under.top (rbq hA)<|Zq.done rfl
      have uA:=(osi hA).symm
      exact Zq.nil (Zq.fin 9 hF0 (SubZ.cons rfl rfl SubZ.nil) rfl k)
  ·refine by_ (t:=22) rfl (fun c8=>?_) (fun c8=>?_)
   ·exact sk_ c8 rfl<|sk_ c8 rfl<|sk_ c8 rfl<|sk_ c8 rfl<|sk_ c8 rfl<|pT c8 rfl<|rf 5 (or_t (e:=(Option.isNone y4.1) != (y4.2 != 0)) c8) rfl k
   ·exact gc_ c8 rfl<|m_ rfl<|gc_ c8 rfl<|ov (OpV.ptrO Tryz.underlying31 (.inl rfl) rfl) rfl<|gc_ c8 rfl<|m_ rfl<|gc_ c8 rfl<|b_ rfl<|gc_ c8 rfl<|ov (OpV.eqBn Tryz.underlying4 rfl rfl) rfl<|pF c8 rfl<|rf 5 (or_f c8) rfl k
end Go.Proofs.YtdkfkpbijdimkaaGreat

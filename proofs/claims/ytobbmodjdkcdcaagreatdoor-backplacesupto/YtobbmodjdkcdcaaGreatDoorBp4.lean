import Derived.Test.YtobbmodjdkcdcaaGreatDoorBp3
set_option linter.unusedVariables false
set_option linter.unusedSimpArgs false
set_option maxRecDepth 20000
namespace Go.Proofs.YtobbmodjdkcdcaaGreatDoor
open Go Go.Sim Go.ChangeShapes Go.WideShapes Go.ChangeAt Go.RowKit
set_option linter.unusedSectionVars false
variable [Fu]
noncomputable def jw (a0:Int) (a1:Int):Option ((List Int)×Int):=
 bif (((decide (a0<0))||(decide (a0>256)))||(decide (a1<1)))||(decide (a1>64)) then
  some ([],2)
 else
  bif mkB a1 a1 then
  (((Loop.run (S:=((List Int)×Int)) (R:=(List Int)) (fun(yA,xA)=>
    bif decide (xA<((List.replicate (Int.toNat a1) (0:Int)).length:Int)) then
     ((bif decide (a1≠0) then
     (idx yA xA).bind fun oA=>
     bif decide (a1≠0) then
     bif decide (xA<(Int.tmod a0 a1)) then
      (idx (List.set yA (Int.toNat xA) (IntKind.wrap .i64 (Int.tdiv a0 a1))) xA).bind fun zA=>
      (idx (List.set yA (Int.toNat xA) (IntKind.wrap .i64 (Int.tdiv a0 a1))) xA).bind fun kA=>
      some (List.set (List.set yA (Int.toNat xA) (IntKind.wrap .i64 (Int.tdiv a0 a1))) (Int.toNat xA) (IntKind.wrap .i64 (zA+1)))
     else
      some (List.set yA (Int.toNat xA) (IntKind.wrap .i64 (Int.tdiv a0 a1)))
     else none
     else none
      :Option (List Int))).bind fun hA=>
     some (.next (hA,IntKind.wrap .i64 (xA+1)))
    else
     some (.done yA)) (List.replicate (Int.toNat a1) (0:Int),0)).bind fun bA=>
  some bA
   :Option (List Int))).bind fun vA=>
  some (vA,0)
  else none
theorem o85 {a0 a1:Int} {r0:((List Int)×Int)} (hF:jw a0 a1=some r0) (L:List Res):Ok Tryz.prog 138 [SV.raw (.int .i64 a0),SV.raw (.int .i64 a1)] L (SV.tup [SV.val K6 r0.1,SV.raw (.int .i64 r0.2)]) L:=by
 unfold jw at hF
 refine okI 48 Tryz.func138 rfl rfl rfl fun F0=>?_
 refine sr<|a_ rfl<|a_ rfl<|nt<|sq<|sr<|mb rfl<|m_ rfl<|cr 13 ((decide (a0<0))||(decide (a0>256))) ?_ (fun k=>?_)
 ·refine m_ rfl<|cr 17 (((decide (a0<0))||(decide (a0>256)))||(decide (a1<1))) ?_ (fun k=>?_)
  ·refine m_ rfl<|cr 21 ((((decide (a0<0))||(decide (a0>256)))||(decide (a1<1)))||(decide (a1>64))) ?_ (fun k=>?_)
   ·refine nt<|it hF rfl (fun hF=>?_) (fun hF=>?_)
    ·refine sr<|a_ rfl<|a_ rfl<|nt<|rt<|tV (K:=kSl K8) (x:=[]) (t:=4) rfl rdN ?_
     cases osi hF
     exact rs Tryz.results138 (.tm rfl (.tm rfl .nil)) rfl rfl
    ·refine gs hF fun xB hF=>bs hF fun hA oA hF=>ct<|sr<|m_ rfl<|Under.mk xB Tryz.underlying68 AT3 rfl rfl rfl fun wA=>a_ rfl<|nt<|sq<|afr (r:=hA) (fun hA=>[(6,.val K6 hA)]) (fun hA=>(L)) ?_ fun K gA=>?_
     ·refine sr<|m_ rfl<|a_ rfl<|a_ rfl<|nt<|rc ?_
      cases osi hF
      exact rs Tryz.results138 (.tm rfl (.tm rfl .nil)) rfl rfl
     ·refine bs oA fun yB mA oA=>sr<|m_ rfl<|ov (OpV.lenO Tryz.underlying68 rfl) rfl<|m_ rfl<|nt<|bk<|lp mA () (fun zA cA=>[(0,.raw (.int .i64 a0)),(1,.raw (.int .i64 a1)),(6,.raw wA),(25,.raw (.int .i64 ((List.replicate (Int.toNat a1) (0:Int)).length:Int))),(26,.raw (.int .i64 zA.2))]) (fun zA cA=>(.own K8 wA 3 zA.1)::L) rfl rfl fun zA cA zB yA nA=>?_
      obtain⟨qA,bA⟩:=zA
      dsimp only at yA⊢
      refine sr<|b_ rfl<|nt<|sq<|it yA rfl (fun yA=>?_) (fun yA=>?_)
      ·refine bs yA fun vA xA yA=>ct<|sq<|afr (r:=vA) (fun vA=>[(0,.raw (.int .i64 a0)),(1,.raw (.int .i64 a1)),(6,.raw wA),(25,.raw (.int .i64 ((List.replicate (Int.toNat a1) (0:Int)).length:Int))),(26,.raw (.int .i64 bA))]) (fun vA=>((.own K8 wA 3 vA)::L)) ?_ fun K rA=>?_
       ·exact rg<|b_ rfl<|m_ rfl<|nl<|nx () yA rfl rfl
       ·refine gs xA fun pA xA=>bs xA fun hB kA xA=>gs xA fun tA xA=>bk<|sr<|m_ rfl<|a_ rfl<|ns<|m_ rfl<|m_ rfl<|m_ rfl<|m_ rfl<|ov (OpV.quo rfl rfl (of_decide_eq_true pA) rfl) rfl<|ov (OpV.ixO kA Tryz.underlying68 sz3k rfl rfl) rfl<|sP (x':=List.set qA (Int.toNat bA) (IntKind.wrap .i64 (Int.tdiv a0 a1))) (.own kA) (.ix .id kA) sz3k rfl rfl rdI rfl<|ns<|m_ rfl<|m_ rfl<|m_ rfl<|ov (OpV.quo rfl rfl (of_decide_eq_true tA) rfl) rfl<|b_ rfl<|nt<|it xA rfl (fun xA=>?_) (fun xA=>?_)
        ·exact bs xA fun uA dA xA=>bs xA fun bB eA xA=>rg<|m_ rfl<|m_ rfl<|ov (OpV.ixO dA Tryz.underlying68 sz3k rfl rfl) rfl<|lP (.own dA) (.ix .id dA) kt3k rfl rfl<|rI (t:=43) rfl<|b_ rfl<|ov (OpV.ixO eA Tryz.underlying68 sz3k rfl rfl) rfl<|sP (x':=List.set (List.set qA (Int.toNat bA) (IntKind.wrap .i64 (Int.tdiv a0 a1))) (Int.toNat bA) (IntKind.wrap .i64 (uA+1))) (.own eA) (.ix .id eA) sz3k rfl rfl rdI rfl<|nl<|bN<|tn<|wr (rA _ (osi xA).symm) rfl
        ·exact cs<|bN<|tn<|wr (rA _ (osi xA).symm) rfl
      ·refine fzO (t:=6) rfl<|xt<|te ?_
       cases aj yA nA
       exact te<|bh<|tn<|wr (gA _ (osi oA).symm) rfl
   ·refine by_ (t:=18) rfl (fun c7=>?_) (fun c7=>?_)
    ·exact sk_ c7 rfl<|sk_ c7 rfl<|pT c7 rfl<|rf 2 (or_t (e:=decide (a1>64)) c7) rfl k
    ·exact gc_ c7 rfl<|m_ rfl<|gc_ c7 rfl<|b_ rfl<|pF c7 rfl<|rf 2 (or_f c7) rfl k
  ·refine by_ (t:=14) rfl (fun c4=>?_) (fun c4=>?_)
   ·exact sk_ c4 rfl<|sk_ c4 rfl<|pT c4 rfl<|rf 2 (or_t (e:=decide (a1<1)) c4) rfl k
   ·exact gc_ c4 rfl<|m_ rfl<|gc_ c4 rfl<|b_ rfl<|pF c4 rfl<|rf 2 (or_f c4) rfl k
 ·refine by_ (t:=10) rfl (fun c1=>?_) (fun c1=>?_)
  ·exact sk_ c1 rfl<|sk_ c1 rfl<|pT c1 rfl<|rf 2 (or_t (e:=decide (a0>256)) c1) rfl k
  ·exact gc_ c1 rfl<|m_ rfl<|gc_ c1 rfl<|b_ rfl<|pF c1 rfl<|rf 2 (or_f c1) rfl k
noncomputable def jb (a0:Int):Option (List Int):=
 bif (decide (a0<1))||(decide (a0>256)) then
  some []
 else
  bif mkB 0 a0 then
  (((Loop.run (S:=((List Int)×Int)) (R:=(List Int)) (fun(yA,xA)=>
    bif decide (xA≥1) then
     (app yA [xA]).bind fun zA=>
     some (.next (zA,IntKind.wrap .i64 (xA - 1)))
    else
     some (.done yA)) (List.replicate (Int.toNat 0) (0:Int),a0)).bind fun hA=>
  some hA
   :Option (List Int))).bind fun bA=>
  some bA
  else none
theorem o86 {a0:Int} {r0:(List Int)} (hF:jb a0=some r0) (L:List Res):Ok Tryz.prog 140 [SV.raw (.int .i64 a0)] L (SV.val K6 r0) L:=by
 unfold jb at hF
 refine okI 23 Tryz.func140 rfl rfl rfl fun F0=>?_
 refine sr<|a_ rfl<|nt<|sq<|sr<|mb rfl<|m_ rfl<|cr 10 ((decide (a0<1))||(decide (a0>256))) ?_ (fun k=>?_)
 ·refine nt<|it hF rfl (fun hF=>?_) (fun hF=>?_)
  ·refine sr<|a_ rfl<|nt<|rt<|tV (K:=kSl K8) (x:=[]) (t:=2) rfl rdN ?_
   cases osi hF
   exact rs Tryz.results140 (.tm rfl .nil) rfl rfl
  ·refine gs hF fun h6 hF=>bs hF fun zA bA hF=>ct<|sr<|m_ rfl<|Under.mk h6 Tryz.underlying68 AT3 rfl rfl rfl fun v5=>a_ rfl<|nt<|sq<|afr (r:=zA) (fun zA=>[(3,.val K6 zA)]) (fun zA=>(L)) ?_ fun K vA=>?_
   ·refine sr<|m_ rfl<|a_ rfl<|nt<|rc ?_
    cases osi hF
    exact rs Tryz.results140 (.tm rfl .nil) rfl rfl
   ·refine bs bA fun qA oA bA=>sr<|m_ rfl<|a_ rfl<|nt<|bk<|lp oA (C:=Value) v5 (fun yA hA=>[(3,.raw hA),(4,.raw (.int .i64 yA.2))]) (fun yA hA=>(.own K8 hA 3 yA.1)::L) rfl rfl fun yA hA rA xA kA=>?_
    obtain⟨wA,dA⟩:=yA
    dsimp only at xA⊢
    refine sq<|sr<|mb rfl<|nt<|it xA rfl (fun xA=>?_) (fun xA=>?_)
    ·exact bs xA fun gA eA xA=>ct<|sq<|bk<|rg<|m_ rfl<|m_ rfl<|bF (ys:=[dA]) Tryz.underlying68 ET3 (BldA.cons rfl rfl rdI (BldA.nil _)) rfl rfl<|ap eA Tryz.underlying68 AT3 rfl rfl rdV rfl fun cA=>a_ rfl<|nl<|bN<|tn<|rg<|mb rfl<|a_ rfl<|nl<|nx cA xA rfl rfl
    ·refine fzO (t:=3) rfl<|xt<|te ?_
     cases aj xA kA
     exact te<|bh<|tn<|wr (vA _ (osi bA).symm) rfl
 ·refine by_ (t:=7) rfl (fun c1=>?_) (fun c1=>?_)
  ·exact sk_ c1 rfl<|sk_ c1 rfl<|pT c1 rfl<|rf 2 (or_t (e:=decide (a0>256)) c1) rfl k
  ·exact gc_ c1 rfl<|m_ rfl<|gc_ c1 rfl<|b_ rfl<|pF c1 rfl<|rf 2 (or_f c1) rfl k
noncomputable def gt (a0:Int):Option Bool:=
 some ((decide (a0≥1))&&(decide (a0≤256)))
theorem o87 {a0:Int} {r0:Bool} (hF:gt a0=some r0) (L:List Res):Ok Tryz.prog 233 [SV.raw (.int .i64 a0)] L (SV.raw (.bool r0)) L:=by
 unfold gt at hF
 refine okI 9 Tryz.func233 rfl rfl rfl fun F0=>?_
 refine sr<|a_ rfl<|ns<|mb rfl<|m_ rfl<|cr 8 ((decide (a0≥1))&&(decide (a0≤256))) ?_ (fun k=>?_)
 ·refine a_ rfl<|nt<|rc ?_
  cases osi hF
  exact rs Tryz.results233 (.tm rfl .nil) rfl rfl
 ·refine by_ (t:=5) rfl (fun c1=>?_) (fun c1=>?_)
  ·exact gc_ c1 rfl<|m_ rfl<|gc_ c1 rfl<|b_ rfl<|pT c1 rfl<|rf 2 (iF c1) rfl k
  ·exact sk_ c1 rfl<|sk_ c1 rfl<|pF c1 rfl<|rf 2 (iG (e:=decide (a0≤256)) c1) rfl k
noncomputable def jx (a0:Int):Option Bool:=
 (gt a0).bind fun y1=>
 some (!y1)
theorem o88 {a0:Int} {r0:Bool} (hF:jx a0=some r0) (L:List Res):Ok Tryz.prog 232 [SV.raw (.int .i64 a0)] L (SV.raw (.bool r0)) L:=by
 unfold jx at hF
 refine okI 6 Tryz.func232 rfl rfl rfl fun F0=>?_
 refine bs hF fun y1 h2 hF=>sr<|a_ rfl<|ns<|m_ rfl<|cx Tryz.call233 rfl (o87 h2 _)<|ov (OpV.not rfl) rfl<|a_ rfl<|nt<|rc ?_
 cases osi hF
 exact rs Tryz.results232 (.tm rfl .nil) rfl rfl
noncomputable def de (a0:List Int):Option Int:=
 (((Loop.run (S := Int) (R := (Unit ⊕ Int)) (fun xA =>
   bif decide (xA<(a0.length:Int)) then
    (idx a0 xA).bind fun yA=>
    (jx yA).bind fun zA=>
    bif zA then
     some (.done (.inr xA))
    else
     some (.next (IntKind.wrap .i64 (xA+1)))
   else
    some (.done (.inl ()))) 0).bind fun hA=>match hA with
  | .inl _=>
   some (.inr ())
  | .inr z=>
   some (.inl z)
  : Option (Int ⊕ Unit))).bind fun bA => match bA with
  | .inl z=>
   some z
  | .inr _=>
   some (-1)
theorem o89 {a0:List Int} {r0:Int} (hF:de a0=some r0) (L:List Res):Ok Tryz.prog 249 [SV.val K6 a0,SV.raw (.func (.func 232) #[] #[])] L (SV.raw (.int .i64 r0)) L:=by
 unfold de at hF
 refine okI 19 Tryz.func249 rfl rfl rfl fun F0=>?_
 refine bs hF fun oA yA hF=>sr<|a_ rfl<|nt<|sq<|Under.after (fun X=>∀(_:Unit),oA=(.inr ())→Under F0 19 [] (L) X) ?_ ?_
 ·intro _ zA
  replace zA:=zA.symm
  subst zA
  refine sr<|a_ rfl<|nt<|rc ?_
  cases osi hF
  exact rs Tryz.results249 (.tm rfl .nil) rfl rfl
 ·intro K kA
  refine bs yA fun qA dA yA=>sr<|m_ rfl<|oN Tryz.underlying68 rfl<|m_ rfl<|nt<|bk<|lp dA () (fun hA bA=>[(0,.val K6 a0),(1,.raw (.func (.func 232) #[] #[])),(7,.raw (.int .i64 (a0.length:Int))),(8,.raw (.int .i64 hA))]) (fun hA bA=>L) rfl rfl fun hA bA rA xA vA=>?_
  refine sr<|b_ rfl<|nt<|sq<|it xA rfl (fun xA=>?_) (fun xA=>?_)
  ·refine bs xA fun wA eA xA=>bs xA fun gA cA xA=>ct<|sq<|bk<|sr<|m_ rfl<|a_ rfl<|ns<|m_ rfl<|m_ rfl<|m_ rfl<|oS eA Tryz.underlying68 sz3 rfl<|oI kt3 rfl<|cx Tryz.call232 rfl (o88 cA _)<|nt<|it xA rfl (fun xA=>?_) (fun xA=>?_)
   ·refine sr<|m_ rfl<|a_ rfl<|nt<|rc<|Under.bR<|tr ?_
    cases aj xA vA
    refine tr<|Under.bR<|tr ?_
    cases osi yA
    cases osi hF
    exact rs Tryz.results249 (.tm rfl .nil) rfl rfl
   ·exact cs<|bN<|tn<|rg<|b_ rfl<|m_ rfl<|nl<|nx () xA rfl rfl
  ·refine xt<|te ?_
   cases aj xA vA
   exact te<|bh<|tn<|wr (kA () (osi yA).symm) rfl
noncomputable def cR (a0:List Int):Option Bool:=
 (de a0).bind fun y1=>
 some (decide (y1≥0))
theorem o90 {a0:List Int} {r0:Bool} (hF:cR a0=some r0) (L:List Res):Ok Tryz.prog 231 [SV.val K6 a0,SV.raw (.func (.func 232) #[] #[])] L (SV.raw (.bool r0)) L:=by
 unfold cR at hF
 refine okI 9 Tryz.func231 rfl rfl rfl fun F0=>?_
 refine bs hF fun y1 h2 hF=>sr<|a_ rfl<|ns<|m_ rfl<|m_ rfl<|cx Tryz.call249 rfl (o89 h2 _)<|b_ rfl<|a_ rfl<|nt<|rc ?_
 cases osi hF
 exact rs Tryz.results231 (.tm rfl .nil) rfl rfl
noncomputable def lS (a0:List Int):Option aP:=
 some (⟨strB a0,(0:Int)⟩:aP)
theorem o91 {a0:List Int} {r0:aP} (hF:lS a0=some r0) (L:List Res):Ok Tryz.prog 234 [SV.val K7 a0] L (SV.val bz r0) L:=by
 unfold lS at hF
 refine okI 6 Tryz.func234 rfl rfl rfl fun F0=>?_
 refine sr<|al ZT312 rfl fun b1=>ns<|m_ rfl<|ov (OpV.b2s Tryz.underlying22 Tryz.underlying5 Tryz.underlying9 rfl rdV) rfl<|ov (OpV.bst BT312 (Bld.cons (x':=(⟨strB a0,(0:Int)⟩:aP)) rfl rfl rdV (by intro q hq;simp only[List.mem_cons,List.not_mem_nil,or_false] at hq;rcases hq with rfl<;>rfl) (Bld.nil _))) rfl<|sP (x':=(⟨strB a0,(0:Int)⟩:aP)) .box .id sz312k rfl rfl rdV rfl<|nl<|fz (t:=2) rfl<|tn<|rc ?_
 cases osi hF
 exact rs Tryz.results234 (.ce rfl kt312 .nil) rfl rfl
noncomputable def gX (a0:aP):Option Int:=
 some (IntKind.wrap .i64 ((a0.bytes.length:Int) - a0.used))
theorem o92 {a0:aP} {r0:Int} (hF:gX a0=some r0) (L:List Res):Ok Tryz.prog 255 [SV.val bz a0] L (SV.raw (.int .i64 r0)) L:=by
 unfold gX at hF
 refine okI 9 Tryz.func255 rfl rfl rfl fun F0=>?_
 refine sr<|bX (K:=bz) rfl rdV rfl<|a_ rfl<|ns<|oF fb312k rfl<|oL kt9 rfl<|ov (OpV.lenS Tryz.underlying9 rfl rdV) rfl<|oF fb312k1 rfl<|oI kt3 rfl<|b_ rfl<|a_ rfl<|nt<|rc ?_
 cases osi hF
 exact rs Tryz.results255 (.tm rfl .nil) rfl rfl
noncomputable def gY (a0:aP):Option (Int×aP×Int):=
 (gX a0).bind fun y2=>
 bif y2==0 then
  some (0,(⟨[],(0:Int)⟩:aP),3)
 else
  (idx a0.bytes a0.used).bind fun x6=>
  some (x6,(⟨a0.bytes,IntKind.wrap .i64 (a0.used+1)⟩:aP),0)
theorem o93 {a0:aP} {r0:(Int×aP×Int)} (hF:gY a0=some r0) (L:List Res):Ok Tryz.prog 250 [SV.val bz a0] L (SV.tup [SV.raw (.int .u8 r0.1),SV.val bz r0.2.1,SV.raw (.int .i64 r0.2.2)]) L:=by
 unfold gY at hF
 refine okI 20 Tryz.func250 rfl rfl rfl fun F0=>?_
 refine bs hF fun y2 h3 hF=>sr<|bX (K:=bz) rfl rdV rfl<|a_ rfl<|al ZT312 rfl fun b1=>a_ rfl<|nt<|sq<|sr<|oL kt312 rfl<|cx Tryz.call255 rfl (o92 h3 _)<|b_ rfl<|nt<|it hF rfl (fun hF=>?_) (fun hF=>?_)
 ·refine sr<|ov (OpV.bst BT312 (Bld.nil _)) rfl<|a_ rfl<|sP (x':=(⟨[],(0:Int)⟩:aP)) .box .id sz312k rfl rfl rdV rfl<|a_ rfl<|nl<|fz (t:=3) rfl<|tn<|rt ?_
  cases osi hF
  exact rs Tryz.results250 (.tm rfl (.ce rfl kt312 (.tm rfl .nil))) rfl rfl
 ·refine bs hF fun x6 h7 hF=>ct<|sq<|ph rfl<|gV [0,1,2,3,4,5,6,7,8,9,10,11] [[1],[9],[1],[11],[10,12],[1],[14],[1],[16],[17],[15,18],[13]] 1 (by kernel_rfl) rfl<|vo (fun _=>OpV.fd fb312k rfl rfl) rfl<|vo (fun _=>OpV.ld kt9 rfl) rfl<|vo (fun _=>OpV.fd fb312k1 rfl rfl) rfl<|vo (fun _=>OpV.ldI kt3 rfl) rfl<|vo (fun _=>OpV.ixStr h7 Tryz.underlying9 rfl rdV rfl) rfl<|vo (fun _=>OpV.fd fb312k rfl rfl) rfl<|vo (fun _=>OpV.ld kt9 rfl) rfl<|vo (fun _=>OpV.fd fb312k1 rfl rfl) rfl<|vo (fun _=>OpV.ldI kt3 rfl) rfl<|vb_ rfl<|vo (fun _=>OpV.bst BT312 (Bld.cons (x':=(⟨a0.bytes,(0:Int)⟩:aP)) rfl rfl rdV (by intro q hq;simp only[List.mem_cons,List.not_mem_nil,or_false] at hq;rcases hq with rfl<;>rfl) (Bld.cons (x':=(⟨a0.bytes,IntKind.wrap .i64 (a0.used+1)⟩:aP)) rfl rfl rdI ⟨rfl,(fun q hq=>by simp at hq)⟩ (Bld.nil _)))) rfl<|Vq.v (fun G T hG=>a_ rfl<|Vq.end rfl)<|vn<|p1 12 rfl rfl<|sP (x':=(⟨a0.bytes,IntKind.wrap .i64 (a0.used+1)⟩:aP)) .box .id sz312k rfl rfl rdV rfl<|pn<|p1 13 rfl rfl<|a_ rfl<|pn<|pd rfl<|fz (t:=3) rfl<|tn<|rc ?_
  cases osi hF
  exact rs Tryz.results250 (.tm rfl (.ce rfl kt312 (.tm rfl .nil))) rfl rfl
noncomputable def jX (a0:aP) (a1:Int):Option (Int×aP×Int):=
 (gt a1).bind fun y3=>
 bif !y3 then
  some (0,(⟨[],(0:Int)⟩:aP),2)
 else
  bif a1==1 then
   some (0,a0,0)
  else
   (Loop.run (S:=aP) (R:=(Int×aP×Int)) (fun yA=>
    (gY yA).bind fun xA=>
    bif xA.2.2 != 0 then
     some (.done (0,(⟨[],(0:Int)⟩:aP),xA.2.2))
    else
     bif decide (a1≠0) then
     bif decide ((IntKind.wrap .i64 xA.1)<(IntKind.wrap .i64 (256 - (Int.tmod 256 a1)))) then
      bif decide (a1≠0) then
      some (.done (Int.tmod (IntKind.wrap .i64 xA.1) a1,xA.2.1,0))
      else none
     else
      some (.next xA.2.1)
     else none) a0).bind fun z=>
   some z
theorem o94 {a0:aP} {a1:Int} {r0:(Int×aP×Int)} (hF:jX a0 a1=some r0) (L:List Res):Ok Tryz.prog 235 [SV.val bz a0,SV.raw (.int .i64 a1)] L (SV.tup [SV.raw (.int .i64 r0.1),SV.val bz r0.2.1,SV.raw (.int .i64 r0.2.2)]) L:=by
 unfold jX at hF
 refine okI 39 Tryz.func235 rfl rfl rfl fun F0=>?_
 refine bs hF fun y3 h4 hF=>sr<|Under.bx (K:=bz) rfl rdV rfl fun b1=>a_ rfl<|al ZT312 rfl fun b2=>a_ rfl<|nt<|sq<|sr<|m_ rfl<|cx Tryz.call233 rfl (o87 h4 _)<|ov (OpV.not rfl) rfl<|nt<|it hF rfl (fun hF=>?_) (fun hF=>?_)
 ·refine f1<|dr<|sr<|ov (OpV.bst BT312 (Bld.nil _)) rfl<|a_ rfl<|sP (x':=(⟨[],(0:Int)⟩:aP)) .box .id sz312k rfl rfl rdV rfl<|a_ rfl<|nl<|fz (t:=5) rfl<|tn<|rt ?_
  cases osi hF
  exact rs Tryz.results235 (.tm rfl (.ce rfl kt312 (.tm rfl .nil))) rfl rfl
 ·refine ct<|sq<|sr<|mb rfl<|nt<|it hF rfl (fun hF=>?_) (fun hF=>?_)
  ·refine f1<|fz (t:=2) rfl<|sq<|ph rfl<|Under.grpT (L:=L) [0,1] [[2],[]] [⟨sk0 (.val bz a0),[],[],[]⟩,⟨sk0 (.raw (.int .i64 0)),[],[],[]⟩] [] (fun T:List Res=>(.box bz b2 312 (⟨[],(0:Int)⟩:aP))::T) lf1 rfl (by kernel_rfl) rfl rfl (fun F hF0 eA=>?_)
   refine Tq.v (fun G T hG=>?_) ?_
   ·exact oL kt312 rfl<|Tq.end undef rfl rfl
   refine Tq.v (fun G T hG=>?_) ?_
   ·exact a_ rfl<|Tq.end undef rfl rfl
   refine Tq.nil<|Under.le hF0<|p1 2 rfl rfl<|sP (x':=a0) .box .id sz312k rfl rfl rdV rfl<|pn<|p1 3 rfl rfl<|a_ rfl<|pn<|pd rfl<|fz (t:=5) rfl<|tn<|rt ?_
   cases osi hF
   exact rs Tryz.results235 (.tm rfl (.ce rfl kt312 (.tm rfl .nil))) rfl rfl
  ·refine bs hF fun cA vA hF=>ct<|bk<|f1<|lp vA () (fun yA hA=>[(1,.raw (.int .i64 a1)),(2,pb b1),(5,pb b2)]) (fun yA hA=>(.box bz b1 312 yA)::(.box bz b2 312 (⟨[],(0:Int)⟩:aP))::L) rfl rfl fun yA hA qA xA bA=>?_
   refine bs xA fun zA oA xA=>bk<|sr<|lP .box .id kt312k rfl rfl<|cx Tryz.call250 rfl (o93 oA _)<|m_ rfl<|oE rfl<|oE rfl<|oE rfl<|al ZT312 rfl fun rA=>a_ rfl<|sP (x':=zA.2.1) .box .id sz312k rfl rfl rdV rfl<|a_ rfl<|nl<|fz (t:=8) rfl<|tn<|sq<|sr<|mb rfl<|nt<|it xA rfl (fun xA=>?_) (fun xA=>?_)
   ·refine dr<|sr<|ov (OpV.bst BT312 (Bld.nil _)) rfl<|m_ rfl<|a_ rfl<|sP (x':=(⟨[],(0:Int)⟩:aP)) .box .id sz312k rfl rfl rdV rfl<|a_ rfl<|nl<|fz (t:=5) rfl<|tn<|rt<|Under.bR ?_
    cases aj xA bA
    refine tr<|Under.bR ?_
    cases osi hF
    exact rs Tryz.results235 (.tm rfl (.ce rfl kt312 (.tm rfl .nil))) rfl rfl
   ·refine gs xA fun kA xA=>ct<|sq<|sr<|m_ rfl<|oC (by kernel_rfl) Tryz.underlying3 rfl<|m_ rfl<|ov (OpV.quo rfl rfl (of_decide_eq_true kA) rfl) rfl<|b_ rfl<|b_ rfl<|nt<|it xA rfl (fun xA=>?_) (fun xA=>?_)
    ·refine gs xA fun dA xA=>dr<|sq<|ph rfl<|gV [0,1,2,3,4,5] [[7],[33],[1],[34,35],[8],[36]] 1 (by kernel_rfl) rfl<|vm_ rfl<|vo (fun _=>OpV.conv (by kernel_rfl) Tryz.underlying3 rfl) rfl<|vm_ rfl<|vo (fun _=>OpV.quo rfl rfl (of_decide_eq_true dA) rfl) rfl<|vo (fun _=>OpV.ld kt312 rfl) rfl<|Vq.v (fun G T hG=>a_ rfl<|Vq.end rfl)<|vn<|p1 6 rfl rfl<|sP (x':=zA.2.1) .box .id sz312k rfl rfl rdV rfl<|pn<|p1 7 rfl rfl<|a_ rfl<|pn<|pd rfl<|fz (t:=5) rfl<|tn<|rt<|Under.bR ?_
     cases aj xA bA
     refine tr<|Under.bR ?_
     cases osi hF
     exact rs Tryz.results235 (.tm rfl (.ce rfl kt312 (.tm rfl .nil))) rfl rfl
    ·exact ct<|rg<|oL kt312 rfl<|sP (x':=zA.2.1) .box .id sz312k rfl rfl rdV rfl<|nl<|bN<|nx () xA rfl rfl
noncomputable def fD (a0:aP):Option Int:=
 some a0.used
theorem o95 {a0:aP} {r0:Int} (hF:fD a0=some r0) (L:List Res):Ok Tryz.prog 236 [SV.val bz a0] L (SV.raw (.int .i64 r0)) L:=by
 unfold fD at hF
 refine okI 5 Tryz.func236 rfl rfl rfl fun F0=>?_
 refine sr<|bX (K:=bz) rfl rdV rfl<|a_ rfl<|ns<|oF fb312k1 rfl<|oI kt3 rfl<|a_ rfl<|nt<|rc ?_
 cases osi hF
 exact rs Tryz.results236 (.tm rfl .nil) rfl rfl
noncomputable def jY (a0:Int) (a1:Int) (a2:Int) (a3:List Int):Option (List Int):=
 (idx a3 a0).bind fun x1=>
 some (List.set a3 (Int.toNat a0) a2)
theorem o96 {a0 a1 a2:Int} {a3:List Int} {wv0:Value} {r0:(List Int)} (hF:jY a0 a1 a2 a3=some r0) (L:List Res):Ok Tryz.prog 192 [SV.raw (.int .i64 a0),SV.raw (.int .i64 a1),SV.raw (.int .i64 a2),SV.ptr kRaw wv0] ((.own K8 wv0 3 a3)::L) (SV.tup []) ((.own K8 wv0 3 r0)::L):=by
 unfold jY at hF
 refine okI 11 Tryz.func192 rfl rfl rfl fun F0=>?_
 refine bs hF fun x1 h2 hF=>rg<|oL kt68k rfl<|Under.rawR (t:=7) rfl<|m_ rfl<|m_ rfl<|ov (OpV.ixO h2 Tryz.underlying68 sz3k rfl rfl) rfl<|sP (x':=List.set a3 (Int.toNat a0) a2) (.own h2) (.ix .id h2) sz3k rfl rfl rdI rfl<|nl ?_
 cases osi hF
 exact rs Tryz.results192 .nil rfl rfl
noncomputable def eT (a0:List Int) (a1:List Int) (a2:List Int):Option (Int×Int×(List Int)):=
 (cR a1).bind fun y1=>
 bif y1 then
  some (0,2,a2)
 else
  (lS a0).bind fun y4=>
  (((Loop.run (S := (Int × aP × (List Int))) (R := ((aP × (List Int)) ⊕ (Int × Int × (List Int)))) (fun (yA, eA, zA) =>
    bif decide (yA<(a1.length:Int)) then
     (idx a1 yA).bind fun hA=>
     (jX eA hA).bind fun xA=>
     bif xA.2.2 != 0 then
      some (.done (.inr (0,xA.2.2,zA)))
     else
      (fD xA.2.1).bind fun bA=>
      (jY yA (IntKind.wrap .i64 (bA - 1)) xA.1 zA).bind fun vA=>
      some (.next (IntKind.wrap .i64 (yA+1),xA.2.1,vA))
    else
     some (.done (.inl (eA,zA)))) (0,y4,a2)).bind fun oA=>match oA with
   | .inl (kA,dA)=>
    some (.inr (kA,dA))
   | .inr z=>
    some (.inl z)
   : Option ((Int × Int × (List Int)) ⊕ (aP × (List Int))))).bind fun cA => match cA with
   | .inl z=>
    some z
   | .inr (qA,rA)=>
    (fD qA).bind fun wA=>
    some (wA,0,rA)
theorem o97 {a0 a1 a2:List Int} {wu2_0:Value} {r0:(Int×Int×(List Int))} (hF:eT a0 a1 a2=some r0) (L:List Res):Ok Tryz.prog 191 [SV.val K7 a0,SV.val K6 a1,SV.fn 192 [.ptr kRaw wu2_0]] ((.own K8 wu2_0 3 a2)::L) (SV.tup [SV.raw (.int .i64 r0.1),SV.raw (.int .i64 r0.2.1)]) ((.own K8 wu2_0 3 r0.2.2)::L):=by
 unfold eT at hF
 refine okI 46 Tryz.func191 rfl rfl rfl fun F0=>?_
 refine bs hF fun y1 h2 hF=>sr<|a_ rfl<|a_ rfl<|nt<|sq<|sr<|m_ rfl<|cx Tryz.call231 rfl (o90 h2 _)<|nt<|it hF rfl (fun hF=>?_) (fun hF=>?_)
 ·refine sr<|a_ rfl<|a_ rfl<|nt<|rt ?_
  cases osi hF
  exact rs Tryz.results191 (.tm rfl (.tm rfl .nil)) rfl rfl
 ·refine bs hF fun y4 h5 hF=>bs hF fun gA oA hF=>ct<|sr<|m_ rfl<|cx Tryz.call234 rfl (o91 h5 _)<|al ZT312 rfl fun b6=>sP (x':=y4) .box .id sz312k rfl rfl rdV rfl<|nt<|sq<|Under.after (fun X=>∀(kA:aP) (dA:List Int),gA=(.inr (kA,dA))→Under F0 46 [(8,.ptr bz kA)] ((.own K8 wu2_0 3 dA)::L) X) ?_ ?_
  ·intro kA dA zA
   replace zA:=zA.symm
   subst zA
   refine bs hF fun hB mA hF=>sr<|oL kt312 rfl<|cx Tryz.call236 rfl (o95 mA _)<|a_ rfl<|a_ rfl<|nt<|rc ?_
   cases osi hF
   exact rs Tryz.results191 (.tm rfl (.tm rfl .nil)) rfl rfl
  ·intro K nA
   refine bs oA fun pA eA oA=>sr<|m_ rfl<|oN Tryz.underlying68 rfl<|m_ rfl<|nt<|bk<|lp eA () (fun yA hA=>[(2,.fn 192 [.ptr kRaw wu2_0]),(8,pb b6),(18,.val K6 a1),(19,.raw (.int .i64 (a1.length:Int))),(20,.raw (.int .i64 yA.1))]) (fun yA hA=>(.box bz b6 312 yA.2.1)::(.own K8 wu2_0 3 yA.2.2)::L) rfl rfl fun yA hA tA xA bA=>?_
   obtain⟨bB,vB,oB⟩:=yA
   dsimp only at xA⊢
   refine sr<|b_ rfl<|nt<|sq<|it xA rfl (fun xA=>?_) (fun xA=>?_)
   ·refine bs xA fun uA cA xA=>bs xA fun vA qA xA=>ct<|sq<|bk<|sr<|m_ rfl<|oS cA Tryz.underlying68 sz3 rfl<|oI kt3 rfl<|a_ rfl<|a_ rfl<|ns<|lP .box .id kt312k rfl rfl<|m_ rfl<|cx Tryz.call235 rfl (o94 qA _)<|m_ rfl<|oE rfl<|oE rfl<|oE rfl<|al ZT312 rfl fun xB=>a_ rfl<|sP (x':=vA.2.1) .box .id sz312k rfl rfl rdV rfl<|a_ rfl<|nl<|fz (t:=12) rfl<|tn<|sq<|sr<|mb rfl<|nt<|it xA rfl (fun xA=>?_) (fun xA=>?_)
    ·refine dr<|sr<|m_ rfl<|a_ rfl<|a_ rfl<|nt<|rt<|Under.bR<|tr ?_
     cases aj xA bA
     refine tr<|Under.bR<|tr ?_
     cases osi oA
     cases osi hF
     exact rs Tryz.results191 (.tm rfl (.tm rfl .nil)) rfl rfl
    ·exact bs xA fun yB rA xA=>bs xA fun zB wA xA=>ct<|sr<|oL kt312 rfl<|sP (x':=vA.2.1) .box .id sz312k rfl rfl rdV rfl<|nt<|rg<|m_ rfl<|m_ rfl<|lP .box .id kt312k rfl rfl<|cx Tryz.call236 rfl (o95 rA _)<|b_ rfl<|m_ rfl<|f1<|Under.callC Tryz.call192 rfl rfl (o96 wA _) rfl<|nl<|bN<|tn<|rg<|b_ rfl<|m_ rfl<|nl<|f1<|nx () xA rfl rfl
   ·refine fz (t:=8) rfl<|xt<|te ?_
    cases aj xA bA
    exact te<|bh<|tn<|wr (nA _ _ (osi oA).symm) rfl
noncomputable def jZ (a0:List Int) (a1:List Int):Option ((List Int)×Int×Int):=
 bif mkB (a1.length:Int) (a1.length:Int) then
 (eT a0 a1 (List.replicate (Int.toNat (a1.length:Int)) (0:Int))).bind fun y6=>
 bif y6.2.1 != 0 then
  some ([],0,y6.2.1)
 else
  some (y6.2.2,y6.1,0)
 else none
theorem o98 {a0 a1:List Int} {r0:((List Int)×Int×Int)} (hF:jZ a0 a1=some r0) (L:List Res):Ok Tryz.prog 139 [SV.val K7 a0,SV.val K6 a1] L (SV.tup [SV.val K6 r0.1,SV.raw (.int .i64 r0.2.1),SV.raw (.int .i64 r0.2.2)]) L:=by
 unfold jZ at hF
 refine okI 25 Tryz.func139 rfl rfl rfl fun F0=>?_
 refine gs hF fun h2 hF=>bs hF fun y6 h7 hF=>sr<|a_ rfl<|a_ rfl<|a_ rfl<|ns<|m_ rfl<|oN Tryz.underlying68 rfl<|Under.mk h2 Tryz.underlying68 AT3 rfl rfl rfl fun v1=>al ZT68k rfl fun b4=>f1<|Under.ownCell fun h5=>f1<|sP (x':=v1) .box .id sz68k1 rfl rfl (eW h5) rfl<|fz (t:=7) rfl<|ns<|m_ rfl<|m_ rfl<|ov (OpV.mkf rfl) rfl<|cx Tryz.call191 rfl (o97 h7 _)<|m_ rfl<|oE rfl<|oE rfl<|a_ rfl<|a_ rfl<|nt<|sq<|sr<|mb rfl<|nt<|it hF rfl (fun hF=>?_) (fun hF=>?_)
 ·refine dr<|sr<|m_ rfl<|a_ rfl<|a_ rfl<|a_ rfl<|nt<|rt<|tV (K:=kSl K8) (x:=[]) (t:=4) rfl rdN ?_
  cases osi hF
  exact rs Tryz.results139 (.tm rfl (.tm rfl (.tm rfl .nil))) rfl rfl
 ·refine ct<|sr<|oL kt68k rfl<|Under.rawR (t:=23) rfl<|m_ rfl<|a_ rfl<|a_ rfl<|a_ rfl<|nl<|fzO (t:=4) rfl<|tn<|rc ?_
  cases osi hF
  exact rs Tryz.results139 (.tm rfl (.tm rfl (.tm rfl .nil))) rfl rfl
noncomputable def jy (a0:Int):Option (List Int):=
 (((Loop.run (S:=((List Int)×Int)) (R:=(List Int)) (fun(yA,xA)=>
   bif decide (xA≥2) then
    (app yA [xA]).bind fun zA=>
    some (.next (zA,IntKind.wrap .i64 (xA - 1)))
   else
    some (.done yA)) ([],a0)).bind fun hA=>
 some hA
  :Option (List Int))).bind fun bA=>
 some bA
theorem o99 {a0:Int} {r0:(List Int)} (hF:jy a0=some r0) (L:List Res):Ok Tryz.prog 141 [SV.raw (.int .i64 a0)] L (SV.val K6 r0) L:=by
 unfold jy at hF
 refine okI 15 Tryz.func141 rfl rfl rfl fun F0=>?_
 refine bs hF fun zA bA hF=>sr<|a_ rfl<|ns<|a_ rfl<|nt<|sq<|afr (r:=zA) (fun zA=>[(3,.val K6 zA)]) (fun zA=>(L)) ?_ fun K vA=>?_
 ·refine sr<|m_ rfl<|a_ rfl<|nt<|rc ?_
  cases osi hF
  exact rs Tryz.results141 (.tm rfl .nil) rfl rfl
 ·refine bs bA fun qA oA bA=>sr<|m_ rfl<|a_ rfl<|nt<|bk<|Under.ownNil (K:=kInt .i64) (e:=3)<|lp oA (C:=Value) (.slice none 0 0) (fun yA hA=>[(3,.raw hA),(4,.raw (.int .i64 yA.2))]) (fun yA hA=>(.own K8 hA 3 yA.1)::L) rfl rfl fun yA hA rA xA kA=>?_
  obtain⟨wA,dA⟩:=yA
  dsimp only at xA⊢
  refine sq<|sr<|mb rfl<|nt<|it xA rfl (fun xA=>?_) (fun xA=>?_)
  ·exact bs xA fun gA eA xA=>ct<|sq<|bk<|rg<|m_ rfl<|m_ rfl<|bF (ys:=[dA]) Tryz.underlying68 ET3 (BldA.cons rfl rfl rdI (BldA.nil _)) rfl rfl<|ap eA Tryz.underlying68 AT3 rfl rfl rdV rfl fun cA=>a_ rfl<|nl<|bN<|tn<|rg<|mb rfl<|a_ rfl<|nl<|nx cA xA rfl rfl
  ·refine fzO (t:=3) rfl<|xt<|te ?_
   cases aj xA kA
   exact te<|bh<|tn<|wr (vA _ (osi bA).symm) rfl
noncomputable def fY (a0:Int):Option (List Int):=
 (((Loop.run (S:=((List Int)×Int)) (R:=(List Int)) (fun(yA,xA)=>
   bif decide (xA<(max a0 0)) then
    (app yA [xA]).bind fun zA=>
    some (.next (zA,IntKind.wrap .i64 (xA+1)))
   else
    some (.done yA)) ([],0)).bind fun hA=>
 some hA
  :Option (List Int))).bind fun bA=>
 some bA
theorem o100 {a0:Int} {r0:(List Int)} (hF:fY a0=some r0) (L:List Res):OkX Tryz.prog 193 [SV.raw (.int .i64 a0)] L (fun y:Value=>SV.raw y) (fun y:Value=>(.own K8 y 3 r0)::L):=by
 unfold fY at hF
 refine OkX.intro 16 [(0,.raw (.int .i64 a0))] Tryz.func193 rfl rfl rfl rfl fun F0=>?_
 refine bs hF fun kA bA hF=>sr<|a_ rfl<|ns<|a_ rfl<|nt<|sq<|Under.after (fun X=>∀(vA:List Int) (zA:Value),kA=vA→Under F0 16 [(3,.raw zA)] ((.own K8 zA 3 vA)::L) X) ?_ ?_
 ·intro vA zA oA
  replace oA:=oA.symm
  subst oA
  refine sr<|m_ rfl<|a_ rfl<|nt<|rc ?_
  cases osi hF
  exact Under.retsX zA Tryz.results193 (.tm rfl .nil) rfl rfl
 ·intro K dA
  refine bs bA fun gA eA bA=>sr<|m_ rfl<|ov (OpV.max2 rfl rfl) rfl<|m_ rfl<|nt<|bk<|Under.ownNil (K:=kInt .i64) (e:=3)<|lp eA (C:=Value) (.slice none 0 0) (fun yA hA=>[(3,.raw hA),(6,.raw (.int .i64 (max a0 0))),(7,.raw (.int .i64 yA.2))]) (fun yA hA=>(.own K8 hA 3 yA.1)::L) rfl rfl fun yA hA mA xA cA=>?_
  obtain⟨nA,qA⟩:=yA
  dsimp only at xA⊢
  refine sr<|b_ rfl<|nt<|sq<|it xA rfl (fun xA=>?_) (fun xA=>?_)
  ·exact bs xA fun pA rA xA=>ct<|sq<|bk<|sr<|m_ rfl<|a_ rfl<|nt<|rg<|m_ rfl<|m_ rfl<|bF (ys:=[qA]) Tryz.underlying68 ET3 (BldA.cons rfl rfl rdI (BldA.nil _)) rfl rfl<|ap rA Tryz.underlying68 AT3 rfl rfl rdV rfl fun wA=>a_ rfl<|nl<|bN<|tn<|rg<|b_ rfl<|m_ rfl<|nl<|nx wA xA rfl rfl
  ·refine xt<|te ?_
   cases aj xA cA
   exact te<|bh<|tn<|wr (dA _ _ (osi bA).symm) rfl
noncomputable def kP (a0:Int) (a1:List Int):Option ((List Int)×Int):=
 bif decide (a0<0) then
  some ([],2)
 else
  bif (a1.length:Int) != (max (IntKind.wrap .i64 (a0 - 1)) 0) then
   some ([],110)
  else
   (((Loop.run (S := Int) (R := (Unit ⊕ ((List Int) × Int))) (fun zA =>
     bif decide (zA<(a1.length:Int)) then
      (idx a1 zA).bind fun bA=>
      bif (decide (bA<0))||(decide (bA≥(IntKind.wrap .i64 (a0 - zA)))) then
       some (.done (.inr ([],110)))
      else
       some (.next (IntKind.wrap .i64 (zA+1)))
     else
      some (.done (.inl ()))) 0).bind fun oA=>match oA with
    | .inl _=>
     some (.inr ())
    | .inr z=>
     some (.inl z)
    : Option (((List Int) × Int) ⊕ Unit))).bind fun eA => match eA with
    | .inl z=>
     some z
    | .inr _=>
     (fY a0).bind fun cA=>
     (((Loop.run (S:=((List Int)×Int)) (R:=(List Int)) (fun(yA,xA)=>
       bif decide (xA<(a1.length:Int)) then
        (idx a1 xA).bind fun hA=>
        (idx yA hA).bind fun vA=>
        (idx yA (IntKind.wrap .i64 ((IntKind.wrap .i64 (a0 - 1)) - xA))).bind fun kA=>
        (idx yA (IntKind.wrap .i64 ((IntKind.wrap .i64 (a0 - 1)) - xA))).bind fun qA=>
        (idx (List.set yA (Int.toNat (IntKind.wrap .i64 ((IntKind.wrap .i64 (a0 - 1)) - xA))) vA) hA).bind fun rA=>
        some (.next (List.set (List.set yA (Int.toNat (IntKind.wrap .i64 ((IntKind.wrap .i64 (a0 - 1)) - xA))) vA) (Int.toNat hA) kA,IntKind.wrap .i64 (xA+1)))
       else
        some (.done yA)) (cA,0)).bind fun dA=>
     some dA
      :Option (List Int))).bind fun wA=>
     some (wA,0)
theorem o101 {a0:Int} {a1:List Int} {r0:((List Int)×Int)} (hF:kP a0 a1=some r0) (L:List Res):Ok Tryz.prog 142 [SV.raw (.int .i64 a0),SV.val K6 a1] L (SV.tup [SV.val K6 r0.1,SV.raw (.int .i64 r0.2)]) L:=by
 unfold kP at hF
 refine okI 66 Tryz.func142 rfl rfl rfl fun F0=>?_
 refine sr<|a_ rfl<|a_ rfl<|nt<|sq<|sr<|mb rfl<|nt<|it hF rfl (fun hF=>?_) (fun hF=>?_)
 ·refine sr<|a_ rfl<|a_ rfl<|nt<|rt<|tV (K:=kSl K8) (x:=[]) (t:=4) rfl rdN ?_
  cases osi hF
  exact rs Tryz.results142 (.tm rfl (.tm rfl .nil)) rfl rfl
 ·refine ct<|sq<|sr<|m_ rfl<|oN Tryz.underlying68 rfl<|mb rfl<|ov (OpV.max2 rfl rfl) rfl<|b_ rfl<|nt<|it hF rfl (fun hF=>?_) (fun hF=>?_)
  ·refine sr<|a_ rfl<|a_ rfl<|nt<|rt<|tV (K:=kSl K8) (x:=[]) (t:=4) rfl rdN ?_
   cases osi hF
   exact rs Tryz.results142 (.tm rfl (.tm rfl .nil)) rfl rfl
  ·refine bs hF fun cB xB hF=>ct<|sq<|Under.after (fun X=>∀(_:Unit),cB=(.inr ())→Under F0 66 [(0,.raw (.int .i64 a0)),(1,.val K6 a1)] (L) X) ?_ ?_
   ·intro _ cA
    replace cA:=cA.symm
    subst cA
    refine bs hF fun uB qB hF=>sr<|m_ rfl<|Under.callX Tryz.call193 rfl rfl (o100 qB _) rfl ?_
    rintro bA
    refine bs hF fun yB zB hF=>a_ rfl<|nt<|sq<|afr (r:=yB) (fun yB=>[(8,.val K6 yB)]) (fun yB=>(L)) ?_ fun K hB=>?_
    ·refine sr<|m_ rfl<|a_ rfl<|a_ rfl<|nt<|rc ?_
     cases osi hF
     exact rs Tryz.results142 (.tm rfl (.tm rfl .nil)) rfl rfl
    ·refine bs zB fun rB bB zB=>sr<|m_ rfl<|oN Tryz.underlying68 rfl<|m_ rfl<|nt<|bk<|lp bB () (fun oA pA=>[(0,.raw (.int .i64 a0)),(8,.raw bA),(39,.val K6 a1),(40,.raw (.int .i64 (a1.length:Int))),(41,.raw (.int .i64 oA.2))]) (fun oA pA=>(.own K8 bA 3 oA.1)::L) rfl rfl fun oA pA wB xA vB=>?_
     obtain⟨hA,vA⟩:=oA
     dsimp only at xA⊢
     refine sr<|b_ rfl<|nt<|sq<|it xA rfl (fun xA=>?_) (fun xA=>?_)
     ·refine bs xA fun kA oB xA=>bs xA fun dA qA xA=>bs xA fun rA wA xA=>bs xA fun gB gA xA=>bs xA fun mB mA xA=>ct<|sq<|bk<|sr<|m_ rfl<|oS oB Tryz.underlying68 sz3 rfl<|oI kt3 rfl<|a_ rfl<|a_ rfl<|ns<|mb rfl<|mb rfl<|a_ rfl<|nt<|ph rfl<|Under.grpT (L:=L) [0,1,2,3,4,5,6,7,8,9,10,11,12,13] [[8],[11],[8],[10],[8],[10],[54,55],[56],[8],[11],[58,59],[60],[50,51],[57,62]] [⟨sk0 (.raw bA),[],[],[]⟩,⟨sk0 (.raw (.int .i64 (IntKind.wrap .i64 ((IntKind.wrap .i64 (a0 - 1)) - vA)))),[],[],[]⟩,⟨sk0 (.raw bA),[],[],[]⟩,⟨sk0 (.raw (.int .i64 kA)),[],[],[]⟩,⟨sk0 (.raw bA),[],[],[]⟩,⟨sk0 (.raw (.int .i64 kA)),[],[],[]⟩,⟨sk0 (.raw (.pointer (some ⟨(mQ bA),0+Int.toNat kA*1,none⟩))),[],[],[0]⟩,⟨sk0 (.raw (.int .i64 dA)),[],[],[0]⟩,⟨sk0 (.raw bA),[],[],[]⟩,⟨sk0 (.raw (.int .i64 (IntKind.wrap .i64 ((IntKind.wrap .i64 (a0 - 1)) - vA)))),[],[],[]⟩,⟨sk0 (.raw (.pointer (some ⟨(mQ bA),0+Int.toNat (IntKind.wrap .i64 ((IntKind.wrap .i64 (a0 - 1)) - vA))*1,none⟩))),[],[],[0]⟩,⟨sk0 (.raw (.int .i64 rA)),[],[],[0]⟩,⟨sk0 (.raw (.pointer (some ⟨(mQ bA),0+Int.toNat (IntKind.wrap .i64 ((IntKind.wrap .i64 (a0 - 1)) - vA))*1,none⟩))),[],[],[0]⟩,⟨sk0 (.raw undef),[0],[(1,tk0 (.own K8 bA 3 (List.set hA (Int.toNat (IntKind.wrap .i64 ((IntKind.wrap .i64 (a0 - 1)) - vA))) dA)))],[]⟩] [(0,.own K8 bA 3 hA)] (fun T:List Res=>T) lf0 rfl (by kernel_rfl) rfl rfl (fun F hF0 eB=>?_)
      refine Tq.v (fun G T hG=>?_) ?_
      ·exact m_ rfl<|Tq.end undef rfl rfl
      refine Tq.v (fun G T hG=>?_) ?_
      ·exact m_ rfl<|Tq.end undef rfl rfl
      refine Tq.v (fun G T hG=>?_) ?_
      ·exact m_ rfl<|Tq.end undef rfl rfl
      refine Tq.v (fun G T hG=>?_) ?_
      ·exact m_ rfl<|Tq.end undef rfl rfl
      refine Tq.v (fun G T hG=>?_) ?_
      ·exact m_ rfl<|Tq.end undef rfl rfl
      refine Tq.v (fun G T hG=>?_) ?_
      ·exact m_ rfl<|Tq.end undef rfl rfl
      refine Tq.r1 (.raw (.pointer (some ⟨(mQ bA),0+Int.toNat kA*1,none⟩))) [.own K8 bA 3 hA] rfl rfl (fun G T hG=>?_) ?_
      ·exact ov (OpV.ixO qA Tryz.underlying68 sz3k rfl rfl) rfl<|Tq.end undef rfl rfl
      refine Tq.r1 (.raw (.int .i64 dA)) [.own K8 bA 3 hA] rfl rfl (fun G T hG=>?_) ?_
      ·exact lP (.own qA) (.ix .id qA) kt3k rfl rfl<|rI (t:=57) rfl<|Tq.end undef rfl rfl
      refine Tq.v (fun G T hG=>?_) ?_
      ·exact m_ rfl<|Tq.end undef rfl rfl
      refine Tq.v (fun G T hG=>?_) ?_
      ·exact m_ rfl<|Tq.end undef rfl rfl
      refine Tq.r1 (.raw (.pointer (some ⟨(mQ bA),0+Int.toNat (IntKind.wrap .i64 ((IntKind.wrap .i64 (a0 - 1)) - vA))*1,none⟩))) [.own K8 bA 3 hA] rfl rfl (fun G T hG=>?_) ?_
      ·exact ov (OpV.ixO wA Tryz.underlying68 sz3k rfl rfl) rfl<|Tq.end undef rfl rfl
      refine Tq.r1 (.raw (.int .i64 rA)) [.own K8 bA 3 hA] rfl rfl (fun G T hG=>?_) ?_
      ·exact lP (.own wA) (.ix .id wA) kt3k rfl rfl<|rI (t:=61) rfl<|Tq.end undef rfl rfl
      refine Tq.r1 (.raw (.pointer (some ⟨(mQ bA),0+Int.toNat (IntKind.wrap .i64 ((IntKind.wrap .i64 (a0 - 1)) - vA))*1,none⟩))) [.own K8 bA 3 hA] rfl rfl (fun G T hG=>?_) ?_
      ·exact ov (OpV.ixO gA Tryz.underlying68 sz3k rfl rfl) rfl<|Tq.end undef rfl rfl
      refine Tq.st0 [.own K8 bA 3 hA] rfl (fun G T hG=>?_) ?_
      ·exact sP (x':=List.set hA (Int.toNat (IntKind.wrap .i64 ((IntKind.wrap .i64 (a0 - 1)) - vA))) dA) (.own gA) (.ix .id gA) sz3k rfl rfl rdI rfl<|Tq.end0 undef rfl
      exact Tq.nil<|Under.le hF0<|p1 14 rfl rfl<|ov (OpV.ixO mA Tryz.underlying68 sz3k rfl rfl) rfl<|pn<|p1 15 rfl rfl<|sP (x':=List.set (List.set hA (Int.toNat (IntKind.wrap .i64 ((IntKind.wrap .i64 (a0 - 1)) - vA))) dA) (Int.toNat kA) rA) (.own mA) (.ix .id mA) sz3k rfl rfl rdI rfl<|pn<|pd rfl<|bN<|tn<|rg<|b_ rfl<|m_ rfl<|nl<|nx () xA rfl rfl
     ·refine fzO (t:=8) rfl<|xt<|te ?_
      cases aj xA vB
      exact te<|bh<|tn<|wr (hB _ (osi zB).symm) rfl
   ·intro K nB
    refine bs xB fun pB kB xB=>sr<|m_ rfl<|oN Tryz.underlying68 rfl<|m_ rfl<|nt<|bk<|lp kB () (fun eA tA=>[(0,.raw (.int .i64 a0)),(1,.val K6 a1),(20,.val K6 a1),(21,.raw (.int .i64 (a1.length:Int))),(22,.raw (.int .i64 eA))]) (fun eA tA=>L) rfl rfl fun eA tA tB zA uA=>?_
    refine sr<|b_ rfl<|nt<|sq<|it zA rfl (fun zA=>?_) (fun zA=>?_)
    ·refine bs zA fun nA dB zA=>ct<|sq<|bk<|sr<|m_ rfl<|oS dB Tryz.underlying68 sz3 rfl<|oI kt3 rfl<|a_ rfl<|a_ rfl<|ns<|mb rfl<|m_ rfl<|kw 35 ((decide (nA<0))||(decide (nA≥(IntKind.wrap .i64 (a0 - eA))))) ?_ (fun k=>?_)
     ·refine nt<|it zA rfl (fun zA=>?_) (fun zA=>?_)
      ·refine sr<|a_ rfl<|a_ rfl<|nt<|rc<|Under.bR<|tr ?_
       cases aj zA uA
       refine tr<|Under.bR<|tr ?_
       cases osi xB
       refine tV (K:=kSl K8) (x:=[]) (t:=4) rfl rdN ?_
       cases osi hF
       exact rs Tryz.results142 (.tm rfl (.tm rfl .nil)) rfl rfl
      ·exact cs<|bN<|tn<|rg<|b_ rfl<|m_ rfl<|nl<|nx () zA rfl rfl
     ·refine by_ (t:=29) rfl (fun yA=>?_) (fun yA=>?_)
      ·exact sk_ yA rfl<|sk_ yA rfl<|sk_ yA rfl<|sk_ yA rfl<|sk_ yA rfl<|pT yA rfl<|rf 5 (or_t (e:=decide (nA≥(IntKind.wrap .i64 (a0 - eA)))) yA) rfl k
      ·exact gc_ yA rfl<|m_ rfl<|gc_ yA rfl<|m_ rfl<|gc_ yA rfl<|m_ rfl<|gc_ yA rfl<|b_ rfl<|gc_ yA rfl<|b_ rfl<|pF yA rfl<|rf 5 (or_f yA) rfl k
    ·refine xt<|te ?_
     cases aj zA uA
     exact te<|bh<|tn<|wr (nB () (osi xB).symm) rfl
noncomputable def jz (a0:List Int):Option (Int×Bool):=
 bif (decide ((a0.length:Int)<1))||(decide ((a0.length:Int)>64)) then
  some (0,false)
 else
  (((Loop.run (S := (Int × Int)) (R := (Int ⊕ (Int × Bool))) (fun (zA, xA) =>
    bif decide (xA<(a0.length:Int)) then
     (idx a0 xA).bind fun yA=>
     bif (decide (yA<0))||(decide (yA>256)) then
      some (.done (.inr (0,false)))
     else
      some (.next (IntKind.wrap .i64 (zA+yA),IntKind.wrap .i64 (xA+1)))
    else
     some (.done (.inl zA))) (0,0)).bind fun hA=>match hA with
   | .inl bA=>
    some (.inr bA)
   | .inr z=>
    some (.inl z)
   : Option ((Int × Bool) ⊕ Int))).bind fun vA => match vA with
   | .inl z=>
    some z
   | .inr x39=>
    some (x39,decide (x39≤256))
theorem o102 {a0:List Int} {r0:(Int×Bool)} (hF:jz a0=some r0) (L:List Res):Ok Tryz.prog 194 [SV.val K6 a0] L (SV.tup [SV.raw (.int .i64 r0.1),SV.raw (.bool r0.2)]) L:=by
 unfold jz at hF
 refine okI 34 Tryz.func194 rfl rfl rfl fun F0=>?_
 refine sr<|a_ rfl<|a_ rfl<|nt<|sq<|sr<|m_ rfl<|oN Tryz.underlying68 rfl<|b_ rfl<|m_ rfl<|cq 14 ((decide ((a0.length:Int)<1))||(decide ((a0.length:Int)>64))) ?_ (fun k=>?_)
 ·refine nt<|it hF rfl (fun hF=>?_) (fun hF=>?_)
  ·refine sr<|a_ rfl<|a_ rfl<|nt<|rt ?_
   cases osi hF
   exact rs Tryz.results194 (.tm rfl (.tm rfl .nil)) rfl rfl
  ·refine bs hF fun eA hA hF=>ct<|sr<|a_ rfl<|nt<|sq<|Under.after (fun X=>∀(bA:Int),eA=(.inr bA)→Under F0 34 [(4,.raw (.int .i64 bA))] (L) X) ?_ ?_
   ·intro bA vA
    replace vA:=vA.symm
    subst vA
    refine sr<|m_ rfl<|mb rfl<|a_ rfl<|a_ rfl<|nt<|rc ?_
    cases osi hF
    exact rs Tryz.results194 (.tm rfl (.tm rfl .nil)) rfl rfl
   ·intro K cA
    refine bs hA fun wA qA hA=>sr<|m_ rfl<|oN Tryz.underlying68 rfl<|m_ rfl<|nt<|bk<|lp qA () (fun zA kA=>[(4,.raw (.int .i64 zA.1)),(15,.val K6 a0),(16,.raw (.int .i64 (a0.length:Int))),(17,.raw (.int .i64 zA.2))]) (fun zA kA=>L) rfl rfl fun zA kA gA xA dA=>?_
    obtain⟨mA,nA⟩:=zA
    dsimp only at xA⊢
    refine sr<|b_ rfl<|nt<|sq<|it xA rfl (fun xA=>?_) (fun xA=>?_)
    ·refine bs xA fun oA rA xA=>ct<|sq<|bk<|sr<|oS rA Tryz.underlying68 sz3 rfl<|oI kt3 rfl<|a_ rfl<|nt<|sq<|sr<|mb rfl<|m_ rfl<|cr 26 ((decide (oA<0))||(decide (oA>256))) ?_ (fun k=>?_)
     ·refine nt<|it xA rfl (fun xA=>?_) (fun xA=>?_)
      ·refine sr<|a_ rfl<|a_ rfl<|nt<|rt<|Under.bR<|tr ?_
       cases aj xA dA
       refine tr<|Under.bR<|tr ?_
       cases osi hA
       cases osi hF
       exact rs Tryz.results194 (.tm rfl (.tm rfl .nil)) rfl rfl
      ·exact ct<|rg<|m_ rfl<|mb rfl<|a_ rfl<|nl<|bN<|tn<|rg<|b_ rfl<|m_ rfl<|nl<|nx () xA rfl rfl
     ·refine by_ (t:=23) rfl (fun yA=>?_) (fun yA=>?_)
      ·exact sk_ yA rfl<|sk_ yA rfl<|pT yA rfl<|rf 2 (or_t (e:=decide (oA>256)) yA) rfl k
      ·exact gc_ yA rfl<|m_ rfl<|gc_ yA rfl<|b_ rfl<|pF yA rfl<|rf 2 (or_f yA) rfl k
    ·refine xt<|te ?_
     cases aj xA dA
     exact te<|bh<|tn<|wr (cA _ (osi hA).symm) rfl
 ·refine by_ (t:=10) rfl (fun c1=>?_) (fun c1=>?_)
  ·exact sk_ c1 rfl<|sk_ c1 rfl<|sk_ c1 rfl<|pT c1 rfl<|rf 3 (or_t (e:=decide ((a0.length:Int)>64)) c1) rfl k
  ·exact gc_ c1 rfl<|m_ rfl<|gc_ c1 rfl<|oN Tryz.underlying68 rfl<|gc_ c1 rfl<|b_ rfl<|pF c1 rfl<|rf 3 (or_f c1) rfl k
noncomputable def iC (a0:List Int) (a1:List Int):Option ((List Int)×(List Int)×Int):=
 (jz a0).bind fun y1=>
 bif (!y1.2)||((a1.length:Int) != y1.1) then
  some ([],[],2)
 else
  (app [] a0).bind fun z8=>
  bif mkB (a0.length:Int) (a0.length:Int) then
  (((Loop.run (S := ((List Int) × (List Int) × (List (List Int)) × Int)) (R := (((List Int) × (List (List Int))) ⊕ ((List Int) × (List Int) × Int))) (fun (kA, yA, bA, zA) =>
    bif decide (zA<(a1.length:Int)) then
     (((idx a1 zA).bind fun vA=>
     bif (decide (vA<0))||(decide (vA≥(IntKind.wrap .i64 (y1.1 - zA)))) then
      some (.inl ([],[],2))
     else
      (((Loop.run (S:=(Int×Int)) (R:=(Int×Int)) (fun(oA,hA)=>
        (idx yA hA).bind fun eA=>
        bif decide (oA≥eA) then
         (idx yA hA).bind fun cA=>
         some (.next (IntKind.wrap .i64 (oA - cA),IntKind.wrap .i64 (hA+1)))
        else
         some (.done (oA,hA))) (vA,0)).bind fun qA=>match qA with
       |(rA,wA)=>
        some (rA,wA)
       :Option (Int×Int))).bind fun gA=>match gA with
       |(mA,xA)=>
        (idx yA xA).bind fun nA=>
        (idx yA xA).bind fun mB=>
        (app kA [xA]).bind fun pA=>
        (idx bA xA).bind fun tA=>
        (app tA [mA]).bind fun uA=>
        some (.inr (pA,List.set yA (Int.toNat xA) (IntKind.wrap .i64 (nA - 1)),List.set bA (Int.toNat xA) uA))
      : Option (((List Int) × (List Int) × Int) ⊕ ((List Int) × (List Int) × (List (List Int)))))).bind fun xB => match xB with
      | .inl z=>
       some (.done (.inr z))
      | .inr (yB,zB,hB)=>
       some (.next (yB,zB,hB,IntKind.wrap .i64 (zA+1)))
    else
     some (.done (.inl (kA,bA)))) ([],z8,List.replicate (Int.toNat (a0.length:Int)) ([]:List Int),0)).bind fun bB=>match bB with
   | .inl (vB,oB)=>
    some (.inr (vB,oB))
   | .inr z=>
    some (.inl z)
   : Option (((List Int) × (List Int) × Int) ⊕ ((List Int) × (List (List Int)))))).bind fun eB => match eB with
   | .inl z=>
    some z
   | .inr (cB,kB)=>
    (((Loop.run (S:=((List Int)×Int)) (R:=(List Int)) (fun(dB,dA)=>
      bif decide (dA<(kB.length:Int)) then
       (idx kB dA).bind fun qB=>
       (app dB qB).bind fun rB=>
       some (.next (rB,IntKind.wrap .i64 (dA+1)))
      else
       some (.done dB)) ([],0)).bind fun wB=>
    some wB
     :Option (List Int))).bind fun gB=>
    some (cB,gB,0)
  else none
theorem o103 {a0 a1:List Int} {r0:((List Int)×(List Int)×Int)} (hF:iC a0 a1=some r0) (L:List Res):Ok Tryz.prog 143 [SV.val K6 a0,SV.val K6 a1] L (SV.tup [SV.val K6 r0.1,SV.val K6 r0.2.1,SV.raw (.int .i64 r0.2.2)]) L:=by
 unfold iC at hF
 refine okI 98 Tryz.func143 rfl rfl rfl fun F0=>?_
 refine bs hF fun y1 h2 hF=>sr<|a_ rfl<|a_ rfl<|a_ rfl<|ns<|m_ rfl<|cx Tryz.call194 rfl (o102 h2 _)<|m_ rfl<|oE rfl<|oE rfl<|a_ rfl<|a_ rfl<|nt<|sq<|sr<|m_ rfl<|ov (OpV.not rfl) rfl<|m_ rfl<|iz 28 ((!y1.2)||((a1.length:Int) != y1.1)) ?_ (fun k=>?_)
 ·refine nt<|it hF rfl (fun hF=>?_) (fun hF=>?_)
  ·refine sr<|a_ rfl<|a_ rfl<|a_ rfl<|nt<|rt<|tV (K:=kSl K8) (x:=[]) (t:=4) rfl rdN<|tV (K:=kSl K8) (x:=[]) (t:=5) rfl rdN ?_
   cases osi hF
   exact rs Tryz.results143 (.tm rfl (.tm rfl (.tm rfl .nil))) rfl rfl
  ·refine bs hF fun z8 h9 hF=>gs hF fun tD hF=>bs hF fun nC eB hF=>ct<|sr<|bO (ys:=[]) Tryz.underlying68 ET3 (BldA.nil _) rfl rfl fun v7=>m_ rfl<|ap h9 Tryz.underlying68 AT3 rfl rfl rdV rfl fun rB=>a_ rfl<|ns<|m_ rfl<|oN Tryz.underlying68 rfl<|Under.mk tD Tryz.underlying164 AT68k rfl rfl rfl fun wB=>Under.rowsRep (KT:=kInt .i64) (TT:=3)<|a_ rfl<|nt<|sq<|Under.after (fun X=>∀(wA:List Int) (gA:List (List Int)),nC=(.inr (wA,gA))→Under F0 98 [(4,.val K6 wA),(5,.raw (.slice none 0 0)),(10,.val (kSl K6) gA)] (L) X) ?_ ?_
   ·intro wA gA mA
    replace mA:=mA.symm
    subst mA
    refine bs hF fun cB uB hF=>sq<|afr (r:=cB) (fun cB=>[(4,.val K6 wA),(5,.val K6 cB)]) (fun cB=>(L)) ?_ fun K pC=>?_
    ·refine sr<|m_ rfl<|m_ rfl<|a_ rfl<|a_ rfl<|a_ rfl<|nt<|rc ?_
     cases osi hF
     exact rs Tryz.results143 (.tm rfl (.tm rfl (.tm rfl .nil))) rfl rfl
    ·refine bs uB fun uD tC uB=>sr<|m_ rfl<|oN Tryz.underlying164 rfl<|m_ rfl<|nt<|bk<|Under.ownNil (K:=kInt .i64) (e:=3)<|lp tC (C:=Value) (.slice none 0 0) (fun nA qB=>[(4,.val K6 wA),(5,.raw qB),(86,.val (kSl K6) gA),(87,.raw (.int .i64 (gA.length:Int))),(88,.raw (.int .i64 nA.2))]) (fun nA qB=>(.own K8 qB 3 nA.1)::L) rfl rfl fun nA qB xE oA uC=>?_
     obtain⟨yE,zE⟩:=nA
     dsimp only at oA⊢
     refine sr<|b_ rfl<|nt<|sq<|it oA rfl (fun oA=>?_) (fun oA=>?_)
     ·exact bs oA fun hE xD oA=>bs oA fun bE yD oA=>ct<|sq<|bk<|sr<|oS xD Tryz.underlying164 sz68 rfl<|oL kt68 rfl<|a_ rfl<|nt<|rg<|m_ rfl<|m_ rfl<|ap yD Tryz.underlying68 AT3 rfl rfl rdV rfl fun zD=>a_ rfl<|nl<|bN<|tn<|rg<|b_ rfl<|m_ rfl<|nl<|nx zD oA rfl rfl
     ·refine fzO (t:=5) rfl<|xt<|te ?_
      cases aj oA uC
      exact te<|bh<|tn<|wr (pC _ (osi uB).symm) rfl
   ·intro K hD
    refine bs eB fun bD xC eB=>sr<|m_ rfl<|oN Tryz.underlying68 rfl<|m_ rfl<|nt<|bk<|Under.ownNil (K:=kInt .i64) (e:=3)<|f1<|f2<|f2<|lp xC (C:=Value) (.slice none 0 0) (fun vA bA=>[(4,.raw bA),(5,.raw (.slice none 0 0)),(7,.raw (.int .i64 y1.1)),(9,.raw rB),(10,.raw wB),(35,.val K6 a1),(36,.raw (.int .i64 (a1.length:Int))),(37,.raw (.int .i64 vA.2.2.2))]) (fun vA bA=>(.own K8 bA 3 vA.1)::(.own K8 rB 3 vA.2.1)::(.any (iH kRaw K8 kF kK 68 3 wB vA.2.2.1))::L) rfl rfl fun vA bA vD hA gB=>?_
    obtain⟨mB,pA,nB,eA⟩:=vA
    dsimp only at hA⊢
    refine sr<|b_ rfl<|nt<|sq<|it hA rfl (fun hA=>?_) (fun hA=>?_)
    ·refine bs hA fun yC xA hA=>ct<|sq<|Under.after (fun X=>∀(tA:List Int) (uA:List Int) (xB:List (List Int)) (qA:Value),yC=(.inr (tA,uA,xB))→Under F0 98 [(4,.raw qA),(5,.raw (.slice none 0 0)),(7,.raw (.int .i64 y1.1)),(9,.raw rB),(10,.raw wB),(35,.val K6 a1),(36,.raw (.int .i64 (a1.length:Int))),(37,.raw (.int .i64 eA))] ((.own K8 qA 3 tA)::(.own K8 rB 3 uA)::(.any (iH kRaw K8 kF kK 68 3 wB xB))::L) X) ?_ ?_
     ·intro tA uA xB qA yB
      replace yB:=yB.symm
      subst yB
      exact rg<|b_ rfl<|m_ rfl<|nl<|nx qA hA rfl rfl
     ·intro K zC
      refine bs xA fun zB hC xA=>bk<|sr<|m_ rfl<|oS hC Tryz.underlying68 sz3 rfl<|oI kt3 rfl<|a_ rfl<|a_ rfl<|nt<|sq<|sr<|mb rfl<|m_ rfl<|kw 50 ((decide (zB<0))||(decide (zB≥(IntKind.wrap .i64 (y1.1 - eA))))) ?_ (fun k=>?_)
      ·refine nt<|it xA rfl (fun xA=>?_) (fun xA=>?_)
       ·refine dr<|dr<|dr<|sr<|a_ rfl<|a_ rfl<|a_ rfl<|nt<|rt<|Under.bR<|tr ?_
        cases osi xA
        cases aj hA gB
        refine tr<|Under.bR<|tr ?_
        cases osi eB
        refine tV (K:=kSl K8) (x:=[]) (t:=4) rfl rdN<|tV (K:=kSl K8) (x:=[]) (t:=5) rfl rdN ?_
        cases osi hF
        exact rs Tryz.results143 (.tm rfl (.tm rfl (.tm rfl .nil))) rfl rfl
       ·refine bs xA fun bC hB xA=>ct<|sr<|a_ rfl<|nt<|sq<|Under.after (fun X=>∀(rA:Int) (kA:Int),bC=(rA,kA)→Under F0 98 [(4,.raw bA),(5,.raw (.slice none 0 0)),(7,.raw (.int .i64 y1.1)),(9,.raw rB),(10,.raw wB),(12,.raw (.int .i64 rA)),(13,.raw (.int .i64 kA)),(35,.val K6 a1),(36,.raw (.int .i64 (a1.length:Int))),(37,.raw (.int .i64 eA))] ((.own K8 bA 3 mB)::(.own K8 rB 3 pA)::(.any (iH kRaw K8 kF kK 68 3 wB nB))::L) X) ?_ ?_
        ·intro rA kA bB
         replace bB:=bB.symm
         subst bB
         exact bs xA fun vC vB xA=>bs xA fun oD oB xA=>bs xA fun kD oC xA=>bs xA fun dD kC xA=>bs xA fun dC eC xA=>sr<|m_ rfl<|m_ rfl<|f1<|ov (OpV.ixO vB Tryz.underlying68 sz3k rfl rfl) rfl<|lP (.own vB) (.ix .id vB) kt3k rfl rfl<|rI (t:=68) rfl<|b_ rfl<|ov (OpV.ixO oB Tryz.underlying68 sz3k rfl rfl) rfl<|sP (x':=List.set pA (Int.toNat kA) (IntKind.wrap .i64 (vC - 1))) (.own oB) (.ix .id oB) sz3k rfl rfl rdI rfl<|ns<|m_ rfl<|m_ rfl<|bF (ys:=[kA]) Tryz.underlying68 ET3 (BldA.cons rfl rfl rdI (BldA.nil _)) rfl rfl<|f1<|ap oC Tryz.underlying68 AT3 rfl rfl rdV rfl fun eD=>a_ rfl<|nt<|rg<|m_ rfl<|m_ rfl<|m_ rfl<|m_ rfl<|f2<|Under.rowTake qj kC fun cD cC l1646 qD dA qC=>ov (OpV.ixO dA Tryz.underlying164 sz68k1 rfl rfl) rfl<|lP (.own dA) (.ix .id dA) kt68k rfl rfl<|Under.rawR (t:=80) rfl<|m_ rfl<|bF (ys:=[rA]) Tryz.underlying68 ET3 (BldA.cons rfl rfl rdI (BldA.nil _)) rfl rfl<|f1<|ap eC Tryz.underlying68 AT3 rfl rfl rdV rfl fun pB=>f1<|ov (OpV.ixO dA Tryz.underlying164 sz68k1 rfl rfl) rfl<|f1<|Under.ownCell fun rC=>f1<|sP (x':=List.set cC (Int.toNat kA) pB) (.own dA) (.ix .id dA) sz68k1 rfl rfl (eW rC) rfl<|Under.back (fun F w h=>qC dC pB F w _ h)<|nl<|bN<|tn<|f2<|f2<|wr (zC _ _ _ _ (osi xA).symm) rfl
        ·intro K wC
         refine bs hB fun rD gC hB=>bk<|lp gC () (fun cA tB=>[(4,.raw bA),(5,.raw (.slice none 0 0)),(7,.raw (.int .i64 y1.1)),(9,.raw rB),(10,.raw wB),(12,.raw (.int .i64 cA.1)),(13,.raw (.int .i64 cA.2)),(35,.val K6 a1),(36,.raw (.int .i64 (a1.length:Int))),(37,.raw (.int .i64 eA))]) (fun cA tB=>(.own K8 bA 3 mB)::(.own K8 rB 3 pA)::(.any (iH kRaw K8 kF kK 68 3 wB nB))::L) rfl rfl fun cA tB wD zA mC=>?_
         obtain⟨gD,mD⟩:=cA
         dsimp only at zA⊢
         refine bs zA fun nD kB zA=>sq<|sr<|m_ rfl<|m_ rfl<|m_ rfl<|f1<|ov (OpV.ixO kB Tryz.underlying68 sz3k rfl rfl) rfl<|lP (.own kB) (.ix .id kB) kt3k rfl rfl<|rI (t:=55) rfl<|b_ rfl<|nt<|it zA rfl (fun zA=>?_) (fun zA=>?_)
         ·exact bs zA fun pD dB zA=>ct<|sq<|bk<|rg<|m_ rfl<|m_ rfl<|m_ rfl<|ov (OpV.ixO dB Tryz.underlying68 sz3k rfl rfl) rfl<|lP (.own dB) (.ix .id dB) kt3k rfl rfl<|rI (t:=63) rfl<|b_ rfl<|a_ rfl<|nl<|bN<|tn<|rg<|mb rfl<|a_ rfl<|nl<|f2<|f1<|f2<|nx () zA rfl rfl
         ·refine xt<|te ?_
          cases aj zA mC
          exact te<|bh<|tn<|f2<|f1<|f2<|wr (wC _ _ (osi hB).symm) rfl
      ·refine by_ (t:=44) rfl (fun yA=>?_) (fun yA=>?_)
       ·exact sk_ yA rfl<|sk_ yA rfl<|sk_ yA rfl<|sk_ yA rfl<|sk_ yA rfl<|pT yA rfl<|rf 5 (or_t (e:=decide (zB≥(IntKind.wrap .i64 (y1.1 - eA)))) yA) rfl k
       ·exact gc_ yA rfl<|m_ rfl<|gc_ yA rfl<|m_ rfl<|gc_ yA rfl<|m_ rfl<|gc_ yA rfl<|b_ rfl<|gc_ yA rfl<|b_ rfl<|pF yA rfl<|rf 5 (or_f yA) rfl k
    ·refine fzO (t:=4) rfl<|dr<|Under.manyPlain (KB:=kSl K8) uN qj rfl uO<|fzO (t:=10) rfl<|xt<|te ?_
     cases aj hA gB
     exact te<|bh<|tn<|wr (hD _ _ (osi eB).symm) rfl
 ·refine by_ (t:=23) rfl (fun c3=>?_) (fun c3=>?_)
  ·exact sk_ c3 rfl<|sk_ c3 rfl<|sk_ c3 rfl<|sk_ c3 rfl<|pT c3 rfl<|rf 4 (or_t (e:=(a1.length:Int) != y1.1) c3) rfl k
  ·exact gc_ c3 rfl<|m_ rfl<|gc_ c3 rfl<|oN Tryz.underlying68 rfl<|gc_ c3 rfl<|m_ rfl<|gc_ c3 rfl<|b_ rfl<|pF c3 rfl<|rf 4 (or_f c3) rfl k
noncomputable def jA (a0:List Int) (a1:Int) (a2:Int):Option (bt×(List Int)×(List Int)×(List (List Int))×Int):=
 (jw a1 a2).bind fun y2=>
 bif y2.2 != 0 then
  some ((⟨(⟨[],[],[]⟩:aL),[],[]⟩:bt),[],[],[],y2.2)
 else
  (iO a0 a2).bind fun y5=>
  bif y5.2 != 0 then
   some ((⟨(⟨[],[],[]⟩:aL),[],[]⟩:bt),[],[],[],y5.2)
  else
   (jb a1).bind fun y9=>
   (jZ y5.1.Braid y9).bind fun dA=>
   bif dA.2.2 != 0 then
    some ((⟨(⟨[],[],[]⟩:aL),[],[]⟩:bt),[],[],[],dA.2.2)
   else
    (((Loop.run (S := ((List (List Int)) × Int × Int × (List Int))) (R := (((List (List Int)) × (List Int)) ⊕ (bt × (List Int) × (List Int) × (List (List Int)) × Int))) (fun (vA, oA, xA, kA) =>
      bif decide (xA<(y2.1.length:Int)) then
       (idx y2.1 xA).bind fun yA=>
       (app kA [oA]).bind fun eA=>
       (idx y5.1.Chunks xA).bind fun cA=>
       (jy yA).bind fun qA=>
       (jZ cA qA).bind fun zA=>
       bif zA.2.2 != 0 then
        some (.done (.inr ((⟨(⟨[],[],[]⟩:aL),[],[]⟩:bt),[],[],[],zA.2.2)))
       else
        (kP yA zA.1).bind fun hA=>
        bif hA.2 != 0 then
         some (.done (.inr ((⟨(⟨[],[],[]⟩:aL),[],[]⟩:bt),[],[],[],hA.2)))
        else
         (app vA [hA.1]).bind fun rA=>
         some (.next (rA,IntKind.wrap .i64 (oA+yA),IntKind.wrap .i64 (xA+1),eA))
      else
       some (.done (.inl (vA,kA)))) ([],0,0,[])).bind fun wA=>match wA with
     | .inl (gA,mA)=>
      some (.inr (gA,mA))
     | .inr z=>
      some (.inl z)
     : Option ((bt × (List Int) × (List Int) × (List (List Int)) × Int) ⊕ ((List (List Int)) × (List Int))))).bind fun nA => match nA with
     | .inl z=>
      some z
     | .inr (pA,tA)=>
      (iC y2.1 dA.1).bind fun bA=>
      some ((⟨y5.1,y2.1,tA⟩:bt),bA.1,bA.2.1,pA,bA.2.2)
theorem o104 {a0:List Int} {a1 a2:Int} {r0:(bt×(List Int)×(List Int)×(List (List Int))×Int)} (hF:jA a0 a1 a2=some r0) (L:List Res):Ok Tryz.prog 85 [SV.val K7 a0,SV.raw (.int .i64 a1),SV.raw (.int .i64 a2)] L (SV.tup [SV.val fh r0.1,SV.val K6 r0.2.1,SV.val K6 r0.2.2.1,SV.val (kSl K6) r0.2.2.2.1,SV.raw (.int .i64 r0.2.2.2.2)]) L:=by
 unfold jA at hF
 refine okI 118 Tryz.func85 rfl rfl rfl fun F0=>?_
 refine bs hF fun y2 h3 hF=>sr<|al ZT163k rfl fun b1=>a_ rfl<|a_ rfl<|a_ rfl<|a_ rfl<|ns<|m_ rfl<|m_ rfl<|cx Tryz.call138 rfl (o85 h3 _)<|m_ rfl<|oE rfl<|oE rfl<|oM ra rfl<|sP (x':=(⟨(⟨[],[],[]⟩:aL),y2.1,.slice none 0 0⟩:bc)) .box (.fld .id fT) sz68k rfl rfl rdV rfl<|a_ rfl<|nt<|sq<|sr<|mb rfl<|nt<|it hF rfl (fun hF=>?_) (fun hF=>?_)
 ·refine sr<|ov (OpV.bst du (Bld.nil _)) rfl<|m_ rfl<|sP (x':=(⟨(⟨[],[],[]⟩:aL),[],.slice none 0 0⟩:bc)) .box .id sz163k rfl rfl rdV rfl<|a_ rfl<|a_ rfl<|a_ rfl<|a_ rfl<|nl<|Under.cvB (fs:=dy) (⟨(⟨[],[],[]⟩:aL),[],[]⟩:bt) (fun F=>⟨fun _ h=>h,fun _ h=>h,pN,trivial⟩)<|fz (t:=6) rfl<|tn<|rt<|tV (K:=kSl K8) (x:=[]) (t:=7) rfl rdN<|tV (K:=kSl K8) (x:=[]) (t:=8) rfl rdN<|tV (K:=kSl K6) (x:=[]) (t:=9) rfl rdN ?_
  cases osi hF
  exact rs Tryz.results85 (.ce rfl kt163 (.tm rfl (.tm rfl (.tm rfl (.tm rfl .nil))))) rfl rfl
 ·refine bs hF fun y5 h6 hF=>ct<|sr<|m_ rfl<|m_ rfl<|cx Tryz.call22 rfl (o78 h6 _)<|m_ rfl<|oE rfl<|oE rfl<|oM rb rfl<|sP (x':=(⟨y5.1,y2.1,.slice none 0 0⟩:bc)) .box (.fld .id fU) sz51k rfl rfl rdV rfl<|a_ rfl<|nt<|sq<|sr<|mb rfl<|nt<|it hF rfl (fun hF=>?_) (fun hF=>?_)
  ·refine sr<|ov (OpV.bst du (Bld.nil _)) rfl<|m_ rfl<|sP (x':=(⟨(⟨[],[],[]⟩:aL),[],.slice none 0 0⟩:bc)) .box .id sz163k rfl rfl rdV rfl<|a_ rfl<|a_ rfl<|a_ rfl<|a_ rfl<|nl<|Under.cvB (fs:=dy) (⟨(⟨[],[],[]⟩:aL),[],[]⟩:bt) (fun F=>⟨fun _ h=>h,fun _ h=>h,pN,trivial⟩)<|fz (t:=6) rfl<|tn<|rt<|tV (K:=kSl K8) (x:=[]) (t:=7) rfl rdN<|tV (K:=kSl K8) (x:=[]) (t:=8) rfl rdN<|tV (K:=kSl K6) (x:=[]) (t:=9) rfl rdN ?_
   cases osi hF
   exact rs Tryz.results85 (.ce rfl kt163 (.tm rfl (.tm rfl (.tm rfl (.tm rfl .nil))))) rfl rfl
  ·refine bs hF fun y9 oB hF=>bs hF fun vB kB hF=>ct<|sq<|ph rfl<|gV [0,1,2,3,4] [[6],[43],[44],[1],[46]] 1 (by kernel_rfl) rfl<|vo (fun _=>OpV.fdM rb rfl) rfl<|vo (fun _=>OpV.fdM xN rfl) rfl<|Vq.v (fun G T hG=>lP .box (.fld (.fld .id fU) oj) kt22k1 rfl rfl<|Vq.end rfl)<|vm_ rfl<|Vq.v (fun G T hG=>cx Tryz.call140 rfl (o86 oB _)<|Vq.end rfl)<|vn<|p1 5 rfl rfl<|cx Tryz.call139 rfl (o98 kB _)<|pn<|p1 6 rfl rfl<|m_ rfl<|pn<|gV [7,8,9,10,11] [[42],[42],[42],[49],[50]] 1 (by kernel_rfl) rfl<|vo (fun _=>OpV.extr rfl rfl) rfl<|vo (fun _=>OpV.extr rfl rfl) rfl<|vo (fun _=>OpV.extr rfl rfl) rfl<|Vq.v (fun G T hG=>a_ rfl<|Vq.end rfl)<|Vq.v (fun G T hG=>a_ rfl<|Vq.end rfl)<|vn<|p1 12 rfl rfl<|a_ rfl<|pn<|pd rfl<|tn<|sq<|sr<|mb rfl<|nt<|it hF rfl (fun hF=>?_) (fun hF=>?_)
   ·refine sr<|ov (OpV.bst du (Bld.nil _)) rfl<|m_ rfl<|sP (x':=(⟨(⟨[],[],[]⟩:aL),[],.slice none 0 0⟩:bc)) .box .id sz163k rfl rfl rdV rfl<|a_ rfl<|a_ rfl<|a_ rfl<|a_ rfl<|nl<|Under.cvB (fs:=dy) (⟨(⟨[],[],[]⟩:aL),[],[]⟩:bt) (fun F=>⟨fun _ h=>h,fun _ h=>h,pN,trivial⟩)<|fz (t:=6) rfl<|tn<|rt<|tV (K:=kSl K8) (x:=[]) (t:=7) rfl rdN<|tV (K:=kSl K8) (x:=[]) (t:=8) rfl rdN<|tV (K:=kSl K6) (x:=[]) (t:=9) rfl rdN ?_
    cases osi hF
    exact rs Tryz.results85 (.ce rfl kt163 (.tm rfl (.tm rfl (.tm rfl (.tm rfl .nil))))) rfl rfl
   ·refine bs hF fun cA hA hF=>ct<|sr<|a_ rfl<|nt<|sq<|Under.after (fun X=>∀(vA:List (List Int)) (bA:List Int) (oA:Value),cA=(.inr (vA,bA))→Under F0 118 [(6,pb b1),(9,.val (kSl K6) vA),(11,.val K6 vB.1)] ((.own K8 oA 3 bA)::(.box fi b1 163 (⟨y5.1,y2.1,oA⟩:bc))::L) X) ?_ ?_
    ·intro vA bA oA kA
     replace kA:=kA.symm
     subst kA
     refine bs hF fun dB qA hF=>sr<|oM ra rfl<|f1<|lP .box (.fld .id fT) kt68k1 rfl rfl<|m_ rfl<|cx Tryz.call143 rfl (o103 qA _)<|m_ rfl<|oE rfl<|oE rfl<|oE rfl<|a_ rfl<|a_ rfl<|a_ rfl<|ns<|f1<|Under.frzBO (fs:=dy) (⟨y5.1,y2.1,bA⟩:bt) (fun F hv=>⟨fun _ h=>h,fun _ h=>h,jh hv,trivial⟩)<|lP .box .id kt163k rfl rfl<|m_ rfl<|m_ rfl<|m_ rfl<|m_ rfl<|sP (x':=(⟨y5.1,y2.1,bA⟩:bt)) .box .id sz163k1 rfl rfl rdV rfl<|a_ rfl<|a_ rfl<|a_ rfl<|a_ rfl<|nl<|fz (t:=6) rfl<|tn<|rc ?_
     cases osi hF
     exact rs Tryz.results85 (.ce rfl kt163 (.tm rfl (.tm rfl (.tm rfl (.tm rfl .nil))))) rfl rfl
    ·intro K rA
     refine bs hA fun eB wA hA=>sr<|oM ra rfl<|lP .box (.fld .id fT) kt68k1 rfl rfl<|oN Tryz.underlying68 rfl<|m_ rfl<|nt<|bk<|Under.ownNil (K:=kSl K8) (e:=68)<|Under.ownNil (K:=kInt .i64) (e:=3)<|f2<|f1<|f2<|lp wA (C:=(Value×Value)) ((.slice none 0 0),(.slice none 0 0)) (fun yA zA=>[(6,pb b1),(9,.raw zA.1),(11,.val K6 vB.1),(13,.raw (.int .i64 yA.2.1)),(57,.val K6 y2.1),(58,.raw (.int .i64 (y2.1.length:Int))),(59,.raw (.int .i64 yA.2.2.1))]) (fun yA zA=>(.own K6 zA.1 68 yA.1)::(.own K8 zA.2 3 yA.2.2.2)::(.box fi b1 163 (⟨y5.1,y2.1,zA.2⟩:bc))::L) rfl rfl fun yA zA cB xA dA=>?_
     obtain⟨qB,gA,rB,wB⟩:=yA
     obtain⟨gB,mB⟩:=zA
     dsimp only at xA⊢
     refine sr<|b_ rfl<|nt<|sq<|it xA rfl (fun xA=>?_) (fun xA=>?_)
     ·refine bs xA fun nB mA xA=>bs xA fun pB nA xA=>bs xA fun tB pA xA=>bs xA fun uB tA xA=>bs xA fun xC uA xA=>ct<|sq<|bk<|sr<|m_ rfl<|oS mA Tryz.underlying68 sz3 rfl<|oI kt3 rfl<|a_ rfl<|a_ rfl<|ns<|oM ub rfl<|f2<|lP .box (.fld .id iW) kt68k rfl rfl<|Under.rawR (t:=65) rfl<|m_ rfl<|bF (ys:=[gA]) Tryz.underlying68 ET3 (BldA.cons rfl rfl rdI (BldA.nil _)) rfl rfl<|f2<|ap nA Tryz.underlying68 AT3 rfl rfl rdV rfl fun eA=>oM ub rfl<|Under.ownCell fun xB=>f1<|sP (x':=(⟨y5.1,y2.1,eA⟩:bc)) .box (.fld .id iW) sz68k1 rfl rfl (eW xB) rfl<|ns<|m_ rfl<|mb rfl<|a_ rfl<|nt<|sq<|ph rfl<|gV [0,1,2,3,4,5,6,7] [[6],[74],[75],[14],[76,77],[78],[15],[80]] 3 (by kernel_rfl) rfl<|vo (fun _=>OpV.fdM rb rfl) rfl<|vo (fun _=>OpV.fdM sZ rfl) rfl<|Vq.v (fun G T hG=>lP .box (.fld (.fld .id fU) om) kt44k1 rfl rfl<|Vq.end rfl)<|vm_ rfl<|vo (fun _=>OpV.ixS pA Tryz.underlying44 sz22 rfl rdV rfl) rfl<|vo (fun _=>OpV.ld kt22 rfl) rfl<|vm_ rfl<|Vq.v (fun G T hG=>cx Tryz.call141 rfl (o99 tA _)<|Vq.end rfl)<|vn<|p1 8 rfl rfl<|cx Tryz.call139 rfl (o98 uA _)<|pn<|p1 9 rfl rfl<|m_ rfl<|pn<|gV [10,11,12,13,14] [[73],[73],[73],[83],[84]] 3 (by kernel_rfl) rfl<|vo (fun _=>OpV.extr rfl rfl) rfl<|vo (fun _=>OpV.extr rfl rfl) rfl<|vo (fun _=>OpV.extr rfl rfl) rfl<|Vq.v (fun G T hG=>a_ rfl<|Vq.end rfl)<|Vq.v (fun G T hG=>a_ rfl<|Vq.end rfl)<|vn<|p1 15 rfl rfl<|a_ rfl<|pn<|pd rfl<|tn<|sq<|sr<|mb rfl<|nt<|it xA rfl (fun xA=>?_) (fun xA=>?_)
      ·refine f2<|dr<|sr<|ov (OpV.bst du (Bld.nil _)) rfl<|m_ rfl<|sP (x':=(⟨(⟨[],[],[]⟩:aL),[],.slice none 0 0⟩:bc)) .box .id sz163k rfl rfl rdV rfl<|a_ rfl<|a_ rfl<|a_ rfl<|a_ rfl<|nl<|Under.cvB (fs:=dy) (⟨(⟨[],[],[]⟩:aL),[],[]⟩:bt) (fun F=>⟨fun _ h=>h,fun _ h=>h,pN,trivial⟩)<|fz (t:=6) rfl<|dr<|tn<|rt<|Under.bR<|tr ?_
       cases aj xA dA
       refine tr<|Under.bR<|tr ?_
       cases osi hA
       refine tV (K:=kSl K8) (x:=[]) (t:=7) rfl rdN<|tV (K:=kSl K8) (x:=[]) (t:=8) rfl rdN<|tV (K:=kSl K6) (x:=[]) (t:=9) rfl rdN ?_
       cases osi hF
       exact rs Tryz.results85 (.ce rfl kt163 (.tm rfl (.tm rfl (.tm rfl (.tm rfl .nil))))) rfl rfl
      ·refine bs xA fun yB zB xA=>ct<|sr<|m_ rfl<|m_ rfl<|cx Tryz.call142 rfl (o101 zB _)<|m_ rfl<|oE rfl<|oE rfl<|a_ rfl<|a_ rfl<|nt<|sq<|sr<|mb rfl<|nt<|it xA rfl (fun xA=>?_) (fun xA=>?_)
       ·refine f2<|dr<|sr<|ov (OpV.bst du (Bld.nil _)) rfl<|m_ rfl<|sP (x':=(⟨(⟨[],[],[]⟩:aL),[],.slice none 0 0⟩:bc)) .box .id sz163k rfl rfl rdV rfl<|a_ rfl<|a_ rfl<|a_ rfl<|a_ rfl<|nl<|Under.cvB (fs:=dy) (⟨(⟨[],[],[]⟩:aL),[],[]⟩:bt) (fun F=>⟨fun _ h=>h,fun _ h=>h,pN,trivial⟩)<|fz (t:=6) rfl<|dr<|tn<|rt<|Under.bR<|tr ?_
        cases aj xA dA
        refine tr<|Under.bR<|tr ?_
        cases osi hA
        refine tV (K:=kSl K8) (x:=[]) (t:=7) rfl rdN<|tV (K:=kSl K8) (x:=[]) (t:=8) rfl rdN<|tV (K:=kSl K6) (x:=[]) (t:=9) rfl rdN ?_
        cases osi hF
        exact rs Tryz.results85 (.ce rfl kt163 (.tm rfl (.tm rfl (.tm rfl (.tm rfl .nil))))) rfl rfl
       ·exact bs xA fun yC hB xA=>ct<|rg<|m_ rfl<|m_ rfl<|bF (ys:=[yB.1]) Tryz.underlying164 ET68 (BldA.cons rfl rfl rdV (BldA.nil _)) rfl rfl<|f2<|ap hB Tryz.underlying164 AT68 rfl rfl rdV rfl fun bB=>a_ rfl<|nl<|bN<|tn<|rg<|b_ rfl<|m_ rfl<|nl<|f1<|f2<|f2<|Under.next _ (bB,eA) xA (s7 rfl rfl rfl rfl rfl rfl rfl) rfl
     ·refine fzO (t:=9) rfl<|xt<|te ?_
      cases aj xA dA
      exact te<|bh<|tn<|wr (rA _ _ _ (osi hA).symm) rfl
noncomputable def gu (a0:List Int) (a1:Int) (a2:Int):Option ((List Int)×Int):=
 (jA a0 a1 a2).bind fun y1=>
 bif y1.2.2.2.2 != 0 then
  some ([],y1.2.2.2.2)
 else
  bif mkB (y1.1.sizes.length:Int) (y1.1.sizes.length:Int) then
  bif mkB a1 a1 then
  (((Loop.run (S:=((List Int)×(List Int)×Int)) (R:=(List Int)) (fun(zA,hA,yA)=>
    bif decide (yA<(y1.2.1.length:Int)) then
     (idx y1.2.1 yA).bind fun xA=>
     (idx y1.1.starts xA).bind fun bA=>
     (idx y1.2.2.2.1 xA).bind fun vA=>
     (idx zA xA).bind fun oA=>
     (idx vA oA).bind fun kA=>
     (idx hA yA).bind fun cA=>
     (idx zA xA).bind fun dA=>
     (idx zA xA).bind fun qA=>
     some (.next (List.set zA (Int.toNat xA) (IntKind.wrap .i64 (dA+1)),List.set hA (Int.toNat yA) (IntKind.wrap .i64 (bA+kA)),IntKind.wrap .i64 (yA+1)))
    else
     some (.done hA)) (List.replicate (Int.toNat (y1.1.sizes.length:Int)) (0:Int),List.replicate (Int.toNat a1) (0:Int),0)).bind fun eA=>
  some eA
   :Option (List Int))).bind fun rA=>
  some (rA,0)
  else none
  else none
theorem o105 {a0:List Int} {a1 a2:Int} {r0:((List Int)×Int)} (hF:gu a0 a1 a2=some r0) (L:List Res):Ok Tryz.prog 29 [SV.val K7 a0,SV.raw (.int .i64 a1),SV.raw (.int .i64 a2)] L (SV.tup [SV.val K6 r0.1,SV.raw (.int .i64 r0.2)]) L:=by
 unfold gu at hF
 refine okI 70 Tryz.func29 rfl rfl rfl fun F0=>?_
 refine bs hF fun y1 h2 hF=>sr<|a_ rfl<|a_ rfl<|ns<|m_ rfl<|m_ rfl<|m_ rfl<|cx Tryz.call85 rfl (o104 h2 _)<|m_ rfl<|oE rfl<|oE rfl<|oE rfl<|oE rfl<|oE rfl<|al ZT163 rfl fun b3=>sP (x':=y1.1) .box .id sz163k1 rfl rfl rdV rfl<|a_ rfl<|a_ rfl<|a_ rfl<|a_ rfl<|nl<|fz (t:=8) rfl<|tn<|sq<|sr<|mb rfl<|nt<|it hF rfl (fun hF=>?_) (fun hF=>?_)
 ·refine sr<|m_ rfl<|a_ rfl<|a_ rfl<|nt<|rt<|tV (K:=kSl K8) (x:=[]) (t:=6) rfl rdN ?_
  cases osi hF
  exact rs Tryz.results29 (.tm rfl (.tm rfl .nil)) rfl rfl
 ·refine gs hF fun h6 hF=>gs hF fun h9 hF=>bs hF fun kA dA hF=>ct<|sr<|oF fb163k rfl<|oL kt68 rfl<|oN Tryz.underlying68 rfl<|Under.mk h6 Tryz.underlying68 AT3 rfl rfl rfl fun v5=>a_ rfl<|ns<|m_ rfl<|Under.mk h9 Tryz.underlying68 AT3 rfl rfl rfl fun v8=>a_ rfl<|nt<|sq<|afr (r:=kA) (fun kA=>[(14,.val K6 kA)]) (fun kA=>(L)) ?_ fun K zB=>?_
  ·refine sr<|m_ rfl<|a_ rfl<|a_ rfl<|nt<|rc ?_
   cases osi hF
   exact rs Tryz.results29 (.tm rfl (.tm rfl .nil)) rfl rfl
  ·refine bs dA fun hB eA dA=>sr<|m_ rfl<|oN Tryz.underlying68 rfl<|m_ rfl<|nt<|bk<|f1<|lp eA () (fun yA oA=>[(8,.ptr fh y1.1),(11,.val (kSl K6) y1.2.2.2.1),(13,.raw v5),(14,.raw v8),(36,.val K6 y1.2.1),(37,.raw (.int .i64 (y1.2.1.length:Int))),(38,.raw (.int .i64 yA.2.2))]) (fun yA oA=>(.own K8 v5 3 yA.1)::(.own K8 v8 3 yA.2.1)::L) rfl rfl fun yA oA bB xA cA=>?_
   obtain⟨qA,rA,wA⟩:=yA
   dsimp only at xA⊢
   refine sr<|b_ rfl<|nt<|sq<|it xA rfl (fun xA=>?_) (fun xA=>?_)
   ·exact bs xA fun gA mA xA=>bs xA fun nA pA xA=>bs xA fun vB tA xA=>bs xA fun oB zA xA=>bs xA fun uA xB xA=>bs xA fun kB hA xA=>bs xA fun yB bA xA=>bs xA fun dB vA xA=>ct<|sq<|bk<|sr<|m_ rfl<|oS mA Tryz.underlying68 sz3 rfl<|oI kt3 rfl<|a_ rfl<|a_ rfl<|nt<|sq<|ph rfl<|gV [0,1,2,3,4,5,6,7,8,9,10,11,12,13,14,15,16,17] [[14],[15],[8],[45],[16],[46,47],[48],[11],[16],[50,51],[52],[13],[16],[54,55],[56],[53,57],[58],[49,59]] 2 (by kernel_rfl) rfl<|vm_ rfl<|vm_ rfl<|vo (fun _=>OpV.fd fb163k1 rfl rfl) rfl<|vo (fun _=>OpV.ld kt68 rfl) rfl<|vm_ rfl<|vo (fun _=>OpV.ixS pA Tryz.underlying68 sz3 rfl rdV rfl) rfl<|vo (fun _=>OpV.ldI kt3 rfl) rfl<|vm_ rfl<|vm_ rfl<|vo (fun _=>OpV.ixS tA Tryz.underlying164 sz68 rfl rdV rfl) rfl<|vo (fun _=>OpV.ld kt68 rfl) rfl<|vm_ rfl<|vm_ rfl<|Vq.v (fun G T hG=>ov (OpV.ixO zA Tryz.underlying68 sz3k rfl rfl) rfl<|Vq.end rfl)<|Vq.v (fun G T hG=>lP (.own zA) (.ix .id zA) kt3k rfl rfl<|rI (t:=57) rfl<|Vq.end rfl)<|vo (fun _=>OpV.ixS xB Tryz.underlying68 sz3 rfl rdV rfl) rfl<|vo (fun _=>OpV.ldI kt3 rfl) rfl<|vb_ rfl<|vn<|p1 18 rfl rfl<|f1<|ov (OpV.ixO hA Tryz.underlying68 sz3k rfl rfl) rfl<|pn<|p1 19 rfl rfl<|sP (x':=List.set rA (Int.toNat wA) (IntKind.wrap .i64 (nA+uA))) (.own hA) (.ix .id hA) sz3k rfl rfl rdI rfl<|pn<|pd rfl<|tn<|rg<|m_ rfl<|m_ rfl<|f1<|ov (OpV.ixO bA Tryz.underlying68 sz3k rfl rfl) rfl<|lP (.own bA) (.ix .id bA) kt3k rfl rfl<|rI (t:=65) rfl<|b_ rfl<|ov (OpV.ixO vA Tryz.underlying68 sz3k rfl rfl) rfl<|sP (x':=List.set qA (Int.toNat gA) (IntKind.wrap .i64 (yB+1))) (.own vA) (.ix .id vA) sz3k rfl rfl rdI rfl<|nl<|bN<|tn<|rg<|b_ rfl<|m_ rfl<|nl<|nx () xA rfl rfl
   ·refine dr<|fzO (t:=14) rfl<|xt<|te ?_
    cases aj xA cA
    exact te<|bh<|tn<|wr (zB _ (osi dA).symm) rfl
noncomputable def kQ (a0:List Int):Option Bool:=
 bif mkB (a0.length:Int) (a0.length:Int) then
 (((Loop.run (S := ((List Bool) × Int)) (R := (Unit ⊕ Bool)) (fun (yA, zA) =>
   bif decide (zA<(a0.length:Int)) then
    (idx a0 zA).bind fun xA=>
    ((bif (decide (xA<0))||(decide (xA≥(a0.length:Int))) then
     some true
    else
     (idx yA xA).bind fun hA=>
     some hA
     :Option Bool)).bind fun bA=>
    bif bA then
     some (.done (.inr false))
    else
     (idx yA xA).bind fun oA=>
     some (.next (List.set yA (Int.toNat xA) true,IntKind.wrap .i64 (zA+1)))
   else
    some (.done (.inl ()))) (List.replicate (Int.toNat (a0.length:Int)) false,0)).bind fun vA=>match vA with
  | .inl _=>
   some (.inr ())
  | .inr z=>
   some (.inl z)
  : Option (Bool ⊕ Unit))).bind fun kA => match kA with
  | .inl z=>
   some z
  | .inr _=>
   some true
 else none
theorem o106 {a0:List Int} {r0:Bool} (hF:kQ a0=some r0) (L:List Res):Ok Tryz.prog 185 [SV.val K6 a0] L (SV.raw (.bool r0)) L:=by
 unfold kQ at hF
 refine okI 33 Tryz.func185 rfl rfl rfl fun F0=>?_
 refine gs hF fun h2 hF=>bs hF fun mA qA hF=>sr<|a_ rfl<|ns<|m_ rfl<|oN Tryz.underlying68 rfl<|Under.mk h2 Tryz.underlying106 AT4 rfl rfl rfl fun v1=>a_ rfl<|nt<|sq<|Under.after (fun X=>∀(_:Unit),mA=(.inr ())→Under F0 33 [] (L) X) ?_ ?_
 ·intro _ oA
  replace oA:=oA.symm
  subst oA
  refine sr<|a_ rfl<|nt<|rc ?_
  cases osi hF
  exact rs Tryz.results185 (.tm rfl .nil) rfl rfl
 ·intro K nA
  refine bs qA fun pA rA qA=>sr<|m_ rfl<|oN Tryz.underlying68 rfl<|m_ rfl<|nt<|bk<|lp rA () (fun bA eA=>[(0,.val K6 a0),(3,.raw v1),(9,.val K6 a0),(10,.raw (.int .i64 (a0.length:Int))),(11,.raw (.int .i64 bA.2))]) (fun bA eA=>(.own fw v1 4 bA.1)::L) rfl rfl fun bA eA tA xA cA=>?_
  obtain⟨uA,zB⟩:=bA
  dsimp only at xA⊢
  refine sr<|b_ rfl<|nt<|sq<|it xA rfl (fun xA=>?_) (fun xA=>?_)
  ·refine bs xA fun vA wA xA=>ct<|sq<|bk<|sr<|oS wA Tryz.underlying68 sz3 rfl<|oI kt3 rfl<|a_ rfl<|nt<|sq<|sr<|mb rfl<|m_ rfl<|iz 22 ((decide (vA<0))||(decide (vA≥(a0.length:Int)))) ?_ (fun k=>?_)
   ·refine bs xA fun gA hA xA=>m_ rfl<|iz 28 gA ?_ (fun k=>?_)
    ·refine nt<|it xA rfl (fun xA=>?_) (fun xA=>?_)
     ·refine dr<|sr<|a_ rfl<|nt<|rt<|Under.bR<|tr ?_
      cases aj xA cA
      refine tr<|Under.bR<|tr ?_
      cases osi qA
      cases osi hF
      exact rs Tryz.results185 (.tm rfl .nil) rfl rfl
     ·exact bs xA fun xB kA xA=>ct<|rg<|m_ rfl<|m_ rfl<|ov (OpV.ixO kA Tryz.underlying106 sz4k rfl rfl) rfl<|sP (x':=List.set uA (Int.toNat vA) true) (.own kA) (.ix .id kA) sz4k rfl rfl rdB rfl<|nl<|bN<|tn<|rg<|b_ rfl<|m_ rfl<|nl<|nx () xA rfl rfl
    ·refine by_ (t:=23) rfl (fun yA=>?_) (fun yA=>?_)
     ·replace hA:=ctrue yA hA
      exact sk_ yA rfl<|sk_ yA rfl<|sk_ yA rfl<|sk_ yA rfl<|pT yA rfl<|rf 4 (rbq hA) rfl k
     ·replace hA:=cfalse yA hA
      exact bs hA fun yB dA hA=>gc_ yA rfl<|m_ rfl<|gc_ yA rfl<|m_ rfl<|gc_ yA rfl<|ov (OpV.ixO dA Tryz.underlying106 sz4k rfl rfl) rfl<|gc_ yA rfl<|lP (.own dA) (.ix .id dA) kt4k rfl rfl<|Under.rawB (t:=27) rfl<|pF yA rfl<|rf 5 (rbq hA) rfl k
   ·refine by_ (t:=17) rfl (fun zA=>?_) (fun zA=>?_)
    ·exact sk_ zA rfl<|sk_ zA rfl<|sk_ zA rfl<|sk_ zA rfl<|pT zA rfl<|rf 4 (or_t (e:=decide (vA≥(a0.length:Int))) zA) rfl k
    ·exact gc_ zA rfl<|m_ rfl<|gc_ zA rfl<|m_ rfl<|gc_ zA rfl<|oN Tryz.underlying68 rfl<|gc_ zA rfl<|b_ rfl<|pF zA rfl<|rf 4 (or_f zA) rfl k
  ·refine dr<|xt<|te ?_
   cases aj xA cA
   exact te<|bh<|tn<|wr (nA () (osi qA).symm) rfl
noncomputable def jB (a0:List Int) (a1:List (List Int)):Option (List (List Int)):=
 bif mkB 0 (a0.length:Int) then
 (((Loop.run (S:=((List (List Int))×Int)) (R:=(List (List Int))) (fun(yA,xA)=>
   bif decide (xA<(a0.length:Int)) then
    (idx a0 xA).bind fun zA=>
    (idx a1 zA).bind fun hA=>
    (app yA [hA]).bind fun bA=>
    some (.next (bA,IntKind.wrap .i64 (xA+1)))
   else
    some (.done yA)) (List.replicate (Int.toNat 0) ([]:List Int),0)).bind fun vA=>
 some vA
  :Option (List (List Int)))).bind fun oA=>
 some oA
 else none
theorem o107 {a0:List Int} {a1:List (List Int)} {r0:(List (List Int))} (hF:jB a0 a1=some r0) (L:List Res):Ok Tryz.prog 186 [SV.val K6 a0,SV.val K1 a1] L (SV.val K1 r0) L:=by
 unfold jB at hF
 refine okI 26 Tryz.func186 rfl rfl rfl fun F0=>?_
 refine gs hF fun h2 hF=>bs hF fun zA bA hF=>sr<|a_ rfl<|ns<|m_ rfl<|oN Tryz.underlying68 rfl<|Under.mk h2 Tryz.underlying44 AT22 rfl rfl rfl fun v1=>a_ rfl<|nt<|sq<|afr (r:=zA) (fun zA=>[(5,.val K1 zA)]) (fun zA=>(L)) ?_ fun K vA=>?_
 ·refine sr<|m_ rfl<|a_ rfl<|nt<|rc ?_
  cases osi hF
  exact rs Tryz.results186 (.tm rfl .nil) rfl rfl
 ·refine bs bA fun wA oA bA=>sr<|m_ rfl<|oN Tryz.underlying68 rfl<|m_ rfl<|nt<|bk<|lp oA (C:=Value) v1 (fun yA hA=>[(1,.val K1 a1),(5,.raw hA),(11,.val K6 a0),(12,.raw (.int .i64 (a0.length:Int))),(13,.raw (.int .i64 yA.2))]) (fun yA hA=>(.own K7 hA 22 yA.1)::L) rfl rfl fun yA hA gA xA kA=>?_
  obtain⟨mA,nA⟩:=yA
  dsimp only at xA⊢
  refine sr<|b_ rfl<|nt<|sq<|it xA rfl (fun xA=>?_) (fun xA=>?_)
  ·exact bs xA fun pA dA xA=>bs xA fun eA cA xA=>bs xA fun tA qA xA=>ct<|sq<|bk<|sr<|oS dA Tryz.underlying68 sz3 rfl<|oI kt3 rfl<|a_ rfl<|nt<|rg<|m_ rfl<|m_ rfl<|m_ rfl<|oS cA Tryz.underlying44 sz22 rfl<|oL kt22 rfl<|bF (ys:=[eA]) Tryz.underlying44 ET22 (BldA.cons rfl rfl rdV (BldA.nil _)) rfl rfl<|ap qA Tryz.underlying44 AT22 rfl rfl rdV rfl fun rA=>a_ rfl<|nl<|bN<|tn<|rg<|b_ rfl<|m_ rfl<|nl<|nx rA xA rfl rfl
  ·refine fzO (t:=5) rfl<|xt<|te ?_
   cases aj xA kA
   exact te<|bh<|tn<|wr (vA _ (osi bA).symm) rfl
noncomputable def j5 (a0:List Int) (a1:List (List Int)):Option ((List (List Int))×Int):=
 ((bif (a0.length:Int) != (a1.length:Int) then
  some true
 else
  (kQ a0).bind fun y4=>
  some (!y4)
  :Option Bool)).bind fun x3=>
 bif x3 then
  some ([],110)
 else
  (jB a0 a1).bind fun y7=>
  some (y7,0)
theorem o108 {a0:List Int} {a1:List (List Int)} {r0:((List (List Int))×Int)} (hF:j5 a0 a1=some r0) (L:List Res):Ok Tryz.prog 122 [SV.val K6 a0,SV.val K1 a1] L (SV.tup [SV.val K1 r0.1,SV.raw (.int .i64 r0.2)]) L:=by
 unfold j5 at hF
 refine okI 19 Tryz.func122 rfl rfl rfl fun F0=>?_
 refine bs hF fun x3 h2 hF=>sr<|a_ rfl<|a_ rfl<|nt<|sq<|sr<|m_ rfl<|oN Tryz.underlying68 rfl<|m_ rfl<|oN Tryz.underlying44 rfl<|b_ rfl<|m_ rfl<|cq 15 x3 ?_ (fun k=>?_)
 ·refine nt<|it hF rfl (fun hF=>?_) (fun hF=>?_)
  ·refine sr<|a_ rfl<|a_ rfl<|nt<|rt<|tV (K:=kSl K7) (x:=[]) (t:=4) rfl rdN ?_
   cases osi hF
   exact rs Tryz.results122 (.tm rfl (.tm rfl .nil)) rfl rfl
  ·refine bs hF fun y7 h8 hF=>ct<|sr<|m_ rfl<|m_ rfl<|cx Tryz.call186 rfl (o107 h8 _)<|a_ rfl<|a_ rfl<|nt<|rc ?_
   cases osi hF
   exact rs Tryz.results122 (.tm rfl (.tm rfl .nil)) rfl rfl
 ·refine by_ (t:=11) rfl (fun c1=>?_) (fun c1=>?_)
  ·replace h2:=ctrue c1 h2
   exact sk_ c1 rfl<|sk_ c1 rfl<|sk_ c1 rfl<|pT c1 rfl<|rf 3 (rbq h2) rfl k
  ·replace h2:=cfalse c1 h2
   exact bs h2 fun y4 h5 h2=>gc_ c1 rfl<|m_ rfl<|gc_ c1 rfl<|cx Tryz.call185 rfl (o106 h5 _)<|gc_ c1 rfl<|ov (OpV.not rfl) rfl<|pF c1 rfl<|rf 3 (rbq h2) rfl k
noncomputable def gZ (a0:List Int) (a1:Int) (a2:List (List Int)):Option ((List (List Int))×Int):=
 (gu a0 (a2.length:Int) a1).bind fun y1=>
 bif y1.2 != 0 then
  some ([],y1.2)
 else
  (j5 y1.1 a2).bind fun y4=>
  some (y4.1,y4.2)
theorem o109 {a0:List Int} {a1:Int} {a2:List (List Int)} {r0:((List (List Int))×Int)} (hF:gZ a0 a1 a2=some r0) (L:List Res):Ok Tryz.prog 66 [SV.val K7 a0,SV.raw (.int .i64 a1),SV.val K1 a2] L (SV.tup [SV.val K1 r0.1,SV.raw (.int .i64 r0.2)]) L:=by
 unfold gZ at hF
 refine okI 26 Tryz.func66 rfl rfl rfl fun F0=>?_
 refine bs hF fun y1 h2 hF=>sr<|a_ rfl<|a_ rfl<|ns<|m_ rfl<|m_ rfl<|oN Tryz.underlying44 rfl<|m_ rfl<|cx Tryz.call29 rfl (o105 h2 _)<|m_ rfl<|oE rfl<|oE rfl<|a_ rfl<|a_ rfl<|nt<|sq<|sr<|mb rfl<|nt<|it hF rfl (fun hF=>?_) (fun hF=>?_)
 ·refine sr<|m_ rfl<|a_ rfl<|a_ rfl<|nt<|rt<|tV (K:=kSl K7) (x:=[]) (t:=6) rfl rdN ?_
  cases osi hF
  exact rs Tryz.results66 (.tm rfl (.tm rfl .nil)) rfl rfl
 ·refine bs hF fun y4 h5 hF=>ct<|sr<|m_ rfl<|m_ rfl<|cx Tryz.call122 rfl (o108 h5 _)<|oE rfl<|oE rfl<|a_ rfl<|a_ rfl<|nt<|rc ?_
  cases osi hF
  exact rs Tryz.results66 (.tm rfl (.tm rfl .nil)) rfl rfl
noncomputable def cP (a0:List (List Int)):Option (List (List Int)):=
 (app [] a0).bind fun z5=>
 some z5
theorem o110 {a0:List (List Int)} {r0:(List (List Int))} (hF:cP a0=some r0) (L:List Res):OkX Tryz.prog 77 [SV.val K0 a0] L (fun y:Value=>SV.raw y) (fun y:Value=>(.own K2 y 64 r0)::L):=by
 unfold cP at hF
 refine OkX.intro 8 [(0,.val K0 a0)] Tryz.func77 rfl rfl rfl rfl fun F0=>?_
 refine sr<|a_ rfl<|nt<|sq<|sr<|m_ rfl<|Under.eqNil Tryz.underlying85 rfl rfl fun b1 h2=>nt<|Under.conde rfl (fun h9=>?_) (fun _=>?_)
 ·replace hF:(some [])=some r0:=by rw[h2 h9] at hF;simpa[app,room] using hF
  refine sr<|a_ rfl<|nt<|rt<|Under.ownNil (K:=kArr 16 K10) (e:=64) ?_
  cases osi hF
  exact Under.retsX (.slice none 0 0) Tryz.results77 (.tm rfl .nil) rfl rfl
 ·refine bs hF fun z5 h6 hF=>ct<|sr<|bO (ys:=[]) Tryz.underlying85 ET64 (BldA.nil _) rfl rfl fun v4=>m_ rfl<|ap h6 Tryz.underlying85 AT64 rfl rfl rdV rfl fun v7=>a_ rfl<|nt<|rc ?_
  cases osi hF
  exact Under.retsX v7 Tryz.results77 (.tm rfl .nil) rfl rfl
end Go.Proofs.YtobbmodjdkcdcaaGreatDoor

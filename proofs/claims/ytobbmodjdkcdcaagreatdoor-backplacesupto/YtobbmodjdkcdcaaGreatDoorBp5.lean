import Derived.Test.YtobbmodjdkcdcaaGreatDoorBp4
set_option linter.unusedVariables false
set_option linter.unusedSimpArgs false
set_option maxRecDepth 20000
namespace Go.Proofs.YtobbmodjdkcdcaaGreatDoor
open Go Go.Sim Go.ChangeShapes Go.WideShapes Go.ChangeAt Go.RowKit
set_option linter.unusedSectionVars false
variable [Fu]
noncomputable def j6 (a0:ab) (a1:Int) (a2:List (List Int)) (a3:Int):Option (ab×Int):=
 ((bif (decide (a3<0))||(decide (a3>4096)) then
  some true
 else
  (ej a0 8 4096).bind fun y8=>
  some (y8 != 0)
  :Option Bool)).bind fun x7=>
 bif x7 then
  some ((⟨(0:Int),[]⟩:ab),2)
 else
  ((bif decide (a1<0) then
   some true
  else
   (ig a1 a0.Newest 8).bind fun tB=>
   some (!tB)
   :Option Bool)).bind fun uB=>
  bif uB then
   some ((⟨(0:Int),[]⟩:ab),161)
  else
   (((Loop.run (S:=(Int×(List ((List Int)×Int)))) (R:=(List ((List Int)×Int))) (fun(bA,cA)=>
     bif decide (bA<(a2.length:Int)) then
      (idx a2 bA).bind fun pA=>
      some (.next (IntKind.wrap .i64 (bA+1),mset pA bA cA))
     else
      some (.done cA)) (0,[])).bind fun tA=>
   some tA
    :Option (List ((List Int)×Int)))).bind fun xC=>
   (ei a0).bind fun yC=>
   pR (S:=(List ((List Int)×Int))) yC (fun(zC:(List Int)×Int) nA=>
     some (mdel zC.1 nA)) (fun nA=>
     (eN a0).bind fun hC=>
     bif decide ((IntKind.wrap .i64 (hC+(nA.length:Int)))>a3) then
      some ((⟨(0:Int),[]⟩:ab),160)
     else
      pR (S:=(List (List Int))) nA (fun(uA:(List Int)×Int) zA=>
       (app zA [uA.1]).bind fun xB=>
       some xB) (fun zA=>
       (Loop.run (S:=(Int×(List ak)×Bool)) (R:=((List ak)×Bool)) (fun(yA,hA,mode_)=>
         bif mode_ then
          bif decide (yA<(a0.Epochs.length:Int)) then
           (idx a0.Epochs yA).bind fun qA=>
           ((some ()
            :Option Unit)).bind fun _=>
           (cP qA.Tags).bind fun yB=>
           (app hA [(⟨qA.Number,yB⟩:ak)]).bind fun zB=>
           some (.next (IntKind.wrap .i64 (yA+1),zB,true))
          else
           some (.done (hA,true))
         else
          bif decide (yA<(a0.Epochs.length:Int)) then
           (idx a0.Epochs yA).bind fun xA=>
           bif decide (xA.Number≥a1) then
            bif decide (xA.Number>a1) then
             (app hA [(⟨a1,zA⟩:ak)]).bind fun hB=>
             (cP xA.Tags).bind fun bB=>
             (app hB [(⟨xA.Number,bB⟩:ak)]).bind fun vB=>
             some (.next (IntKind.wrap .i64 (yA+1),vB,true))
            else
             (app zA xA.Tags).bind fun rA=>
             (cP (({xA with Tags:=rA}:ak).Tags)).bind fun oB=>
             (app hA [(⟨({xA with Tags:=rA}:ak).Number,oB⟩:ak)]).bind fun kB=>
             some (.next (IntKind.wrap .i64 (yA+1),kB,true))
           else
            (cP xA.Tags).bind fun dB=>
            (app hA [(⟨xA.Number,dB⟩:ak)]).bind fun eB=>
            some (.next (IntKind.wrap .i64 (yA+1),eB,false))
          else
           some (.done (hA,false))) (0,[],(zA.length:Int)==0)).bind fun cB=>match cB with
        |(kA,mode_)=>
         bif mode_ then
          ((some ()
           :Option Unit)).bind fun _=>
          (((Loop.run (S:=((List ak)×Int)) (R:=ab) (fun(dA,vA)=>
            bif decide (vA<(kA.length:Int)) then
             (idx dA vA).bind fun wA=>
             (ut wA.Tags).bind fun qB=>
             some (.next (List.set dA (Int.toNat vA) ({wA with Tags:=qB}:ak),IntKind.wrap .i64 (vA+1)))
            else
             some (.done (⟨a0.Newest,dA⟩:ab))) (kA,0)).bind fun rB=>
          some rB
           :Option ab)).bind fun wB=>
          some (wB,0)
         else
          (((app kA [(⟨a1,zA⟩:ak)]).bind fun gB=>
          some gB
           :Option (List ak))).bind fun gA=>
          (((Loop.run (S:=((List ak)×Int)) (R:=ab) (fun(eA,oA)=>
            bif decide (oA<(gA.length:Int)) then
             (idx eA oA).bind fun mA=>
             (ut mA.Tags).bind fun mB=>
             some (.next (List.set eA (Int.toNat oA) ({mA with Tags:=mB}:ak),IntKind.wrap .i64 (oA+1)))
            else
             some (.done (⟨a0.Newest,eA⟩:ab))) (gA,0)).bind fun nB=>
          some nB
           :Option ab)).bind fun pB=>
          some (pB,0)) []) xC
theorem o111 {a0:ab} {a1:Int} {a2:List (List Int)} {a3:Int} {r0:(ab×Int)} (hF:j6 a0 a1 a2 a3=some r0) (L:List Res):Ok Tryz.prog 67 [SV.val ah a0,SV.raw (.int .i64 a1),SV.val K0 a2,SV.raw (.int .i64 a3)] L (SV.tup [SV.val ah r0.1,SV.raw (.int .i64 r0.2)]) L:=by
 unfold j6 at hF
 refine okI 155 Tryz.func67 rfl rfl rfl fun F0=>?_
 refine sr<|bX (K:=ah) rfl rdV rfl<|al ZT27 rfl fun b1=>a_ rfl<|nt<|sq<|sr<|mb rfl<|m_ rfl<|cr 27 ((decide (a3<0))||(decide (a3>4096))) ?_ (fun k=>?_)
 ·refine bs hF fun x7 h6 hF=>m_ rfl<|cq 32 x7 ?_ (fun k=>?_)
  ·refine nt<|it hF rfl (fun hF=>?_) (fun hF=>?_)
   ·refine sr<|ov (OpV.bst BT27 (Bld.nil _)) rfl<|sP (x':=(⟨(0:Int),[]⟩:ab)) .box .id sz27k rfl rfl rdV rfl<|a_ rfl<|nl<|fz (t:=8) rfl<|tn<|rt ?_
    cases osi hF
    exact rs Tryz.results67 (.ce rfl kt27 (.tm rfl .nil)) rfl rfl
   ·refine bs hF fun wH eB hF=>ct<|sq<|sr<|mb rfl<|m_ rfl<|kw 42 wH ?_ (fun k=>?_)
    ·refine nt<|it hF rfl (fun hF=>?_) (fun hF=>?_)
     ·refine sr<|ov (OpV.bst BT27 (Bld.nil _)) rfl<|sP (x':=(⟨(0:Int),[]⟩:ab)) .box .id sz27k rfl rfl rdV rfl<|a_ rfl<|nl<|fz (t:=8) rfl<|tn<|rt ?_
      cases osi hF
      exact rs Tryz.results67 (.ce rfl kt27 (.tm rfl .nil)) rfl rfl
     ·refine bs hF fun mC pC hF=>ct<|sr<|Under.mkm K2 K8 rfl fun zC=>a_ rfl<|nt<|sq<|afr (r:=mC) (fun mC=>[(1,.raw (.int .i64 a1)),(3,.raw (.int .i64 a3)),(4,.ptr ah a0),(8,pb b1),(10,.raw (.map (some zC)))]) (fun mC=>((.box ah b1 27 (⟨(0:Int),[]⟩:ab))::(.mp K2 K8 zC mC)::L)) ?_ fun K gH=>?_
      ·refine bs hF fun wJ mH hF=>sq<|sr<|oL kt27 rfl<|cx Tryz.call124 rfl (o4 mH _)<|Under.rng Tryz.underlying155 rfl rfl fun nH=>nt<|bk<|Under.loopM (S:=(List ((List Int)×Int))) (C:=Unit) () (fun(bB:(List ((List Int)×Int))) (hC:Unit)=>[(1,.raw (.int .i64 a1)),(3,.raw (.int .i64 a3)),(4,.ptr ah a0),(8,pb b1),(10,.raw (.map (some zC))),(58,pb nH)]) (fun(bB:(List ((List Int)×Int))) (hC:Unit)=>(.box ah b1 27 (⟨(0:Int),[]⟩:ab))::(.mp K2 K8 zC bB)::L) hF (s6 rfl rfl rfl rfl rfl rfl) rfl (fun bB hC l50 gJ kH dH=>?_)
       try dsimp only at kH
       try dsimp only at dH
       try dsimp only
       refine sr<|Under.nxt rfl rfl (fun pH=>?_) (fun nC l71 eH=>?_)
       ·refine oE rfl<|nt<|sq<|Under.condF rfl<|f2<|Under.frzM (t:=10) rfl<|xt<|te ?_
        have hF:=kH pH
        refine bs hF fun mJ tH hF=>dr<|te<|bh<|tn<|sq<|sr<|oL kt27 rfl<|cx Tryz.call24 rfl (o3 tH _)<|m_ rfl<|ov (OpV.lenM Tryz.underlying155 rfl) rfl<|b_ rfl<|mb rfl<|nt<|it hF rfl (fun hF=>?_) (fun hF=>?_)
        ·refine sr<|ov (OpV.bst BT27 (Bld.nil _)) rfl<|sP (x':=(⟨(0:Int),[]⟩:ab)) .box .id sz27k rfl rfl rdV rfl<|a_ rfl<|nl<|fz (t:=8) rfl<|tn<|rt ?_
         cases osi hF
         exact rs Tryz.results67 (.ce rfl kt27 (.tm rfl .nil)) rfl rfl
        ·refine ct<|sr<|a_ rfl<|nt<|sq<|sr<|m_ rfl<|Under.rng Tryz.underlying155 rfl rfl fun uH=>nt<|bk<|Under.ownNil (K:=kArr 16 K10) (e:=64)<|f2<|f1<|f2<|Under.loopM (S:=(List (List Int))) (C:=Value) (.slice none 0 0) (fun(wA:(List (List Int))) (oA:Value)=>[(1,.raw (.int .i64 a1)),(4,.ptr ah a0),(8,pb b1),(14,.raw oA),(74,pb uH)]) (fun(wA:(List (List Int))) (oA:Value)=>(.own K2 oA 64 wA)::(.box ah b1 27 (⟨(0:Int),[]⟩:ab))::L) hF (s5 rfl rfl rfl rfl rfl) rfl (fun wA oA l78 nJ cH qH=>?_)
         try dsimp only at cH
         try dsimp only at qH
         try dsimp only
         refine sr<|Under.nxt rfl rfl (fun tC=>?_) (fun vB l107 bC=>?_)
         ·refine oE rfl<|nt<|sq<|Under.condF rfl<|xt<|te ?_
          have hF:=cH tC
          refine bs hF fun xI uC hF=>dr<|te<|bh<|tn<|sr<|oF fb27k rfl<|oI kt2 rfl<|ov (OpV.bst iT (Bld.cons (x':=(⟨a0.Newest,.slice none 0 0⟩:az)) rfl rfl rdI (by intro q hq;simp only[List.mem_cons,List.not_mem_nil,or_false] at hq;rcases hq with rfl<;>rfl) (Bld.nil _))) rfl<|al ZT27k rfl fun hA=>sP (x':=(⟨a0.Newest,.slice none 0 0⟩:az)) .box .id sz27k1 rfl rfl rdV rfl<|ns<|m_ rfl<|f1<|ov (OpV.lenO Tryz.underlying85 rfl) rfl<|b_ rfl<|a_ rfl<|nt<|sq<|sr<|oF fb27k1 rfl<|oL kt25 rfl<|oN Tryz.underlying25 rfl<|m_ rfl<|nt<|bk<|Under.manyNil (KR:=aC) (KT:=kArr 16 K10) (mk:=ci) (tg:=cu) (TE:=152) (TT:=64)<|f2<|f1<|f3<|f3<|Under.modeD (b:=(wA.length:Int)==0)<|lp uC (C:=Value) (.slice none 0 0) (fun gA zA=>[(1,.raw (.int .i64 a1)),(8,pb b1),(14,.raw oA),(16,pb hA),(17,.raw (.bool gA.2.2)),(90,.val (kSl aO) a0.Epochs),(91,.raw (.int .i64 (a0.Epochs.length:Int))),(92,.raw (.int .i64 gA.1))]) (fun gA zA=>bif gA.2.2 then((.box ah b1 27 (⟨(0:Int),[]⟩:ab))::(.any (iH aC K2 ci cu 152 64 zA gA.2.1))::(.box bf hA 27 (⟨a0.Newest,zA⟩:az))::L) else((.own K2 oA 64 wA)::(.box ah b1 27 (⟨(0:Int),[]⟩:ab))::(.any (iH aC K2 ci cu 152 64 zA gA.2.1))::(.box bf hA 27 (⟨a0.Newest,zA⟩:az))::L)) rfl rfl fun gA zA yI xA vC=>?_
          obtain⟨xD,pA,mode_⟩:=gA
          cases mode_
          ·try dsimp only[cond_true,cond_false] at xA
           try dsimp only[cond_true,cond_false]
           refine sr<|b_ rfl<|nt<|sq<|it xA rfl (fun xA=>?_) (fun xA=>?_)
           ·refine bs xA fun yA yD xA=>ct<|sq<|bk<|sr<|oS yD Tryz.underlying25 sz152 rfl<|oL kt152 rfl<|al ZT152 rfl fun zI=>sP (x':=yA) .box .id sz152k rfl rfl rdV rfl<|nt<|sq<|sr<|m_ rfl<|ov (OpV.not rfl) rfl<|m_ rfl<|gc (rfl:(true:Bool)=true) rfl rfl<|oM uc rfl<|gc (rfl:(true:Bool)=true) rfl rfl<|lP .box (.fld .id kL) kt2k rfl rfl<|rI (t:=100) rfl<|gc (rfl:(true:Bool)=true) rfl rfl<|m_ rfl<|gc (rfl:(true:Bool)=true) rfl rfl<|b_ rfl<|ov (pkT (rfl:(true:Bool)=true) rfl rfl) rfl<|nt<|it xA rfl (fun xA=>?_) (fun xA=>?_)
            ·refine sr<|a_ rfl<|ns<|oM uc rfl<|lP .box (.fld .id kL) kt2k rfl rfl<|rI (t:=105) rfl<|mb rfl<|nt<|it xA rfl (fun xA=>?_) (fun xA=>?_)
             ·refine bs xA fun zD hD xA=>bs xA fun cB bD xA=>bs xA fun hI vD xA=>fz (t:=19) rfl<|rg<|oM eb rfl<|f3<|lP .box (.fld .id aM) kt25k rfl rfl<|Under.rawR (t:=109) rfl<|m_ rfl<|m_ rfl<|f1<|Under.ownCell fun oD=>ov (OpV.bst db (Bld.cons (x':=(⟨a1,.slice none 0 0⟩:ao)) rfl rfl rdI (by intro q hq;simp only[List.mem_cons,List.not_mem_nil,or_false] at hq;rcases hq with rfl<;>rfl) (Bld.cons (x':=(⟨a1,oA⟩:ao)) rfl rfl (eW oD) ⟨rfl,(fun q hq=>by simp at hq)⟩ (Bld.nil _)))) rfl<|bF (ys:=[(⟨a1,oA⟩:ao)]) Tryz.underlying25 ET152k (BldA.cons rfl rfl rdV (BldA.nil _)) rfl rfl<|f3<|Under.manyPush (x:=(⟨a1,wA⟩:ak)) bj bo hD Tryz.underlying25 (by kernel_rfl) AT152k rfl rfl (.sl rdV) rfl fun oB=>oM eb rfl<|Under.manyCell bj bo fun kD=>f1<|sP (x':=(⟨a0.Newest,oB⟩:az)) .box (.fld .id aM) sz25k rfl rfl (eW kD) rfl<|nt<|ph rfl<|Under.grpT (L:=L) [0,1,2,3,4,5,6,7,8] [[16],[121],[19],[123],[19],[125],[126],[124,127],[128]] [⟨sk0 (.raw (.pointer (some ⟨hA,0+1,none⟩))),[],[],[]⟩,⟨sk0 (.raw oB),[],[],[]⟩,⟨sk0 (.ptr K8 yA.Number),[],[],[]⟩,⟨sk0 (.raw (.int .i64 yA.Number)),[],[],[]⟩,⟨sk0 (.ptr K0 yA.Tags),[],[],[]⟩,⟨sk0 (.val K0 yA.Tags),[],[],[]⟩,⟨sk1 6 (fun u6=> .raw u6),[],[(0,tk1 6 (fun u6=> .own K2 u6 64 cB))],[]⟩,⟨sk1 6 (fun u6=> .val aC (⟨yA.Number,u6⟩:ao)),[],[],[0]⟩,⟨sk1 6 (fun u6=> .val (kSl aC) [(⟨yA.Number,u6⟩:ao)]),[],[],[]⟩] [] (fun T:List Res=>(.box bf hA 27 (⟨a0.Newest,oB⟩:az))::(.any (iH aC K2 ci cu 152 64 oB zD))::(.box ah b1 27 (⟨(0:Int),[]⟩:ab))::T) lf3 rfl (by kernel_rfl) rfl rfl (fun F hF0 eA=>?_)
              refine Tq.v (fun G T hG=>?_) ?_
              ·exact oM eb rfl<|Tq.end undef rfl rfl
              refine Tq.v (fun G T hG=>?_) ?_
              ·exact lP .box (.fld .id aM) kt25k rfl rfl<|Under.rawR (t:=122) rfl<|Tq.end undef rfl rfl
              refine Tq.v (fun G T hG=>?_) ?_
              ·exact oF fb152k1 rfl<|Tq.end undef rfl rfl
              refine Tq.v (fun G T hG=>?_) ?_
              ·exact oI kt2 rfl<|Tq.end undef rfl rfl
              refine Tq.v (fun G T hG=>?_) ?_
              ·exact oF fb152k rfl<|Tq.end undef rfl rfl
              refine Tq.v (fun G T hG=>?_) ?_
              ·exact oL kt85 rfl<|Tq.end undef rfl rfl
              refine Tq.st (.raw (eA 6)) [] rfl rfl (fun G T hG=>?_) ?_
              ·refine Under.callX Tryz.call77 rfl rfl (o110 bD _) rfl ?_
               rintro dD
               exact Tq.end dD rfl rfl
              refine Tq.r1 (.val aC (⟨yA.Number,(eA 6)⟩:ao)) [.own K2 (eA 6) 64 cB] rfl rfl (fun G T hG=>?_) ?_
              ·exact Under.ownCell fun eD=>ov (OpV.bst db (Bld.cons (x':=(⟨yA.Number,.slice none 0 0⟩:ao)) rfl rfl rdI (by intro q hq;simp only[List.mem_cons,List.not_mem_nil,or_false] at hq;rcases hq with rfl<;>rfl) (Bld.cons (x':=(⟨yA.Number,(eA 6)⟩:ao)) rfl rfl (eW eD) ⟨rfl,(fun q hq=>by simp at hq)⟩ (Bld.nil _)))) rfl<|Tq.end undef rfl rfl
              refine Tq.st (.val (kSl aC) [(⟨yA.Number,(eA 6)⟩:ao)]) [] rfl rfl (fun G T hG=>?_) ?_
              ·exact bF (ys:=[(⟨yA.Number,(eA 6)⟩:ao)]) Tryz.underlying25 ET152k (BldA.cons rfl rfl rdV (BldA.nil _)) rfl rfl<|Tq.end undef rfl rfl
              exact Tq.nil<|Under.le hF0<|p1 9 rfl rfl<|f3<|f2<|Under.manyPush (x:=(⟨yA.Number,cB⟩:ak)) bj bo vD Tryz.underlying25 (by kernel_rfl) AT152k rfl rfl (.sl rdV) rfl fun oC=>pn<|p1 10 rfl rfl<|oM eb rfl<|pn<|p1 11 rfl rfl<|Under.manyCell bj bo fun cD=>f1<|sP (x':=(⟨a0.Newest,oC⟩:az)) .box (.fld .id aM) sz25k rfl rfl (eW cD) rfl<|pn<|pd rfl<|bN<|tn<|rg<|b_ rfl<|m_ rfl<|nl<|f1<|f2<|nx oC xA rfl rfl
             ·refine bs xA fun vA qD xA=>bs xA fun qB rD xA=>bs xA fun bI wD xA=>rg<|m_ rfl<|oM lz rfl<|lP .box (.fld .id gf) kt85k rfl rfl<|f1<|ap qD Tryz.underlying85 AT64 rfl rfl rdV rfl fun vI=>oM lz rfl<|fzO (t:=119) rfl<|sP (x':=({yA with Tags:=vA}:ak)) .box (.fld .id gf) sz85k rfl rfl rdV rfl<|nl<|fz (t:=19) rfl<|tn<|ph rfl<|Under.grpT (L:=L) [0,1,2,3,4,5,6,7,8] [[16],[121],[19],[123],[19],[125],[126],[124,127],[128]] [⟨sk0 (.raw (.pointer (some ⟨hA,0+1,none⟩))),[],[],[]⟩,⟨sk0 (.raw zA),[],[],[]⟩,⟨sk0 (.ptr K8 (({yA with Tags:=vA}:ak).Number)),[],[],[]⟩,⟨sk0 (.raw (.int .i64 (({yA with Tags:=vA}:ak).Number))),[],[],[]⟩,⟨sk0 (.ptr K0 (({yA with Tags:=vA}:ak).Tags)),[],[],[]⟩,⟨sk0 (.val K0 (({yA with Tags:=vA}:ak).Tags)),[],[],[]⟩,⟨sk1 6 (fun u6=> .raw u6),[],[(0,tk1 6 (fun u6=> .own K2 u6 64 qB))],[]⟩,⟨sk1 6 (fun u6=> .val aC (⟨({yA with Tags:=vA}:ak).Number,u6⟩:ao)),[],[],[0]⟩,⟨sk1 6 (fun u6=> .val (kSl aC) [(⟨({yA with Tags:=vA}:ak).Number,u6⟩:ao)]),[],[],[]⟩] [] (fun T:List Res=>(.box ah b1 27 (⟨(0:Int),[]⟩:ab))::(.any (iH aC K2 ci cu 152 64 zA pA))::(.box bf hA 27 (⟨a0.Newest,zA⟩:az))::T) lf3 rfl (by kernel_rfl) rfl rfl (fun F hF0 cA=>?_)
              refine Tq.v (fun G T hG=>?_) ?_
              ·exact oM eb rfl<|Tq.end undef rfl rfl
              refine Tq.v (fun G T hG=>?_) ?_
              ·exact f2<|lP .box (.fld .id aM) kt25k rfl rfl<|Under.rawR (t:=122) rfl<|f2<|f2<|Tq.end undef rfl rfl
              refine Tq.v (fun G T hG=>?_) ?_
              ·exact oF fb152k1 rfl<|Tq.end undef rfl rfl
              refine Tq.v (fun G T hG=>?_) ?_
              ·exact oI kt2 rfl<|Tq.end undef rfl rfl
              refine Tq.v (fun G T hG=>?_) ?_
              ·exact oF fb152k rfl<|Tq.end undef rfl rfl
              refine Tq.v (fun G T hG=>?_) ?_
              ·exact oL kt85 rfl<|Tq.end undef rfl rfl
              refine Tq.st (.raw (cA 6)) [] rfl rfl (fun G T hG=>?_) ?_
              ·refine Under.callX Tryz.call77 rfl rfl (o110 rD _) rfl ?_
               rintro gD
               exact Tq.end gD rfl rfl
              refine Tq.r1 (.val aC (⟨({yA with Tags:=vA}:ak).Number,(cA 6)⟩:ao)) [.own K2 (cA 6) 64 qB] rfl rfl (fun G T hG=>?_) ?_
              ·exact Under.ownCell fun mD=>ov (OpV.bst db (Bld.cons (x':=(⟨({yA with Tags:=vA}:ak).Number,.slice none 0 0⟩:ao)) rfl rfl rdI (by intro q hq;simp only[List.mem_cons,List.not_mem_nil,or_false] at hq;rcases hq with rfl<;>rfl) (Bld.cons (x':=(⟨({yA with Tags:=vA}:ak).Number,(cA 6)⟩:ao)) rfl rfl (eW mD) ⟨rfl,(fun q hq=>by simp at hq)⟩ (Bld.nil _)))) rfl<|Tq.end undef rfl rfl
              refine Tq.st (.val (kSl aC) [(⟨({yA with Tags:=vA}:ak).Number,(cA 6)⟩:ao)]) [] rfl rfl (fun G T hG=>?_) ?_
              ·exact bF (ys:=[(⟨({yA with Tags:=vA}:ak).Number,(cA 6)⟩:ao)]) Tryz.underlying25 ET152k (BldA.cons rfl rfl rdV (BldA.nil _)) rfl rfl<|Tq.end undef rfl rfl
              exact Tq.nil<|Under.le hF0<|p1 9 rfl rfl<|f3<|f2<|Under.manyPush (x:=(⟨({yA with Tags:=vA}:ak).Number,qB⟩:ak)) bj bo wD Tryz.underlying25 (by kernel_rfl) AT152k rfl rfl (.sl rdV) rfl fun kC=>pn<|p1 10 rfl rfl<|oM eb rfl<|pn<|p1 11 rfl rfl<|Under.manyCell bj bo fun nD=>f2<|sP (x':=(⟨a0.Newest,kC⟩:az)) .box (.fld .id aM) sz25k rfl rfl (eW nD) rfl<|pn<|pd rfl<|bN<|tn<|rg<|b_ rfl<|m_ rfl<|nl<|f1<|f2<|nx kC xA rfl rfl
            ·refine bs xA fun rB pD xA=>bs xA fun kI tD xA=>fz (t:=19) rfl<|ct<|ph rfl<|Under.grpT (L:=L) [0,1,2,3,4,5,6,7,8] [[16],[121],[19],[123],[19],[125],[126],[124,127],[128]] [⟨sk0 (.raw (.pointer (some ⟨hA,0+1,none⟩))),[],[],[]⟩,⟨sk0 (.raw zA),[],[],[]⟩,⟨sk0 (.ptr K8 yA.Number),[],[],[]⟩,⟨sk0 (.raw (.int .i64 yA.Number)),[],[],[]⟩,⟨sk0 (.ptr K0 yA.Tags),[],[],[]⟩,⟨sk0 (.val K0 yA.Tags),[],[],[]⟩,⟨sk1 6 (fun u6=> .raw u6),[],[(0,tk1 6 (fun u6=> .own K2 u6 64 rB))],[]⟩,⟨sk1 6 (fun u6=> .val aC (⟨yA.Number,u6⟩:ao)),[],[],[0]⟩,⟨sk1 6 (fun u6=> .val (kSl aC) [(⟨yA.Number,u6⟩:ao)]),[],[],[]⟩] [] (fun T:List Res=>(.own K2 oA 64 wA)::(.box ah b1 27 (⟨(0:Int),[]⟩:ab))::(.any (iH aC K2 ci cu 152 64 zA pA))::(.box bf hA 27 (⟨a0.Newest,zA⟩:az))::T) lf4 rfl (by kernel_rfl) rfl rfl (fun F hF0 qA=>?_)
             refine Tq.v (fun G T hG=>?_) ?_
             ·exact oM eb rfl<|Tq.end undef rfl rfl
             refine Tq.v (fun G T hG=>?_) ?_
             ·exact f3<|lP .box (.fld .id aM) kt25k rfl rfl<|Under.rawR (t:=122) rfl<|f3<|f3<|f3<|Tq.end undef rfl rfl
             refine Tq.v (fun G T hG=>?_) ?_
             ·exact oF fb152k1 rfl<|Tq.end undef rfl rfl
             refine Tq.v (fun G T hG=>?_) ?_
             ·exact oI kt2 rfl<|Tq.end undef rfl rfl
             refine Tq.v (fun G T hG=>?_) ?_
             ·exact oF fb152k rfl<|Tq.end undef rfl rfl
             refine Tq.v (fun G T hG=>?_) ?_
             ·exact oL kt85 rfl<|Tq.end undef rfl rfl
             refine Tq.st (.raw (qA 6)) [] rfl rfl (fun G T hG=>?_) ?_
             ·refine Under.callX Tryz.call77 rfl rfl (o110 pD _) rfl ?_
              rintro uD
              exact Tq.end uD rfl rfl
             refine Tq.r1 (.val aC (⟨yA.Number,(qA 6)⟩:ao)) [.own K2 (qA 6) 64 rB] rfl rfl (fun G T hG=>?_) ?_
             ·exact Under.ownCell fun xE=>ov (OpV.bst db (Bld.cons (x':=(⟨yA.Number,.slice none 0 0⟩:ao)) rfl rfl rdI (by intro q hq;simp only[List.mem_cons,List.not_mem_nil,or_false] at hq;rcases hq with rfl<;>rfl) (Bld.cons (x':=(⟨yA.Number,(qA 6)⟩:ao)) rfl rfl (eW xE) ⟨rfl,(fun q hq=>by simp at hq)⟩ (Bld.nil _)))) rfl<|Tq.end undef rfl rfl
             refine Tq.st (.val (kSl aC) [(⟨yA.Number,(qA 6)⟩:ao)]) [] rfl rfl (fun G T hG=>?_) ?_
             ·exact bF (ys:=[(⟨yA.Number,(qA 6)⟩:ao)]) Tryz.underlying25 ET152k (BldA.cons rfl rfl rdV (BldA.nil _)) rfl rfl<|Tq.end undef rfl rfl
             exact Tq.nil<|Under.le hF0<|p1 9 rfl rfl<|f4<|f3<|Under.manyPush (x:=(⟨yA.Number,rB⟩:ak)) bj bo tD Tryz.underlying25 (by kernel_rfl) AT152k rfl rfl (.sl rdV) rfl fun dC=>pn<|p1 10 rfl rfl<|oM eb rfl<|pn<|p1 11 rfl rfl<|Under.manyCell bj bo fun yE=>f3<|sP (x':=(⟨a0.Newest,dC⟩:az)) .box (.fld .id aM) sz25k rfl rfl (eW yE) rfl<|pn<|pd rfl<|bN<|tn<|rg<|b_ rfl<|m_ rfl<|nl<|f1<|f3<|f3<|nx dC xA rfl rfl
           ·refine xt<|te ?_
            cases aj xA vC
            try dsimp only[cond_true,cond_false] at hF
            refine bs hF fun zE wB hF=>te<|bh<|tn<|sq<|Under.after (fun X=>∀(kB:List ak) (tA:Value),zE=kB→Under F0 155 [(8,pb b1),(16,pb hA)] ((.box ah b1 27 (⟨(0:Int),[]⟩:ab))::(.any (iH aC K2 ci cu 152 64 tA kB))::(.box bf hA 27 (⟨a0.Newest,tA⟩:az))::L) X) ?_ ?_
            ·intro kB tA gB
             replace gB:=gB.symm
             subst gB
             refine bs hF fun uA mB hF=>sq<|afr (r:=uA) (fun uA=>[(8,pb b1),(16,.ptr ah uA)]) (fun uA=>((.box ah b1 27 (⟨(0:Int),[]⟩:ab))::L)) ?_ fun K hE=>?_
             ·refine sr<|oL kt27 rfl<|sP (x':=uA) .box .id sz27k rfl rfl rdV rfl<|a_ rfl<|nl<|fz (t:=8) rfl<|tn<|rc ?_
              cases osi hF
              exact rs Tryz.results67 (.ce rfl kt27 (.tm rfl .nil)) rfl rfl
             ·refine bs mB fun dI bE mB=>sr<|oM eb rfl<|f2<|lP .box (.fld .id aM) kt25k rfl rfl<|Under.rawR (t:=144) rfl<|f2<|Under.lenMany bj bo Tryz.underlying25 rfl rfl<|m_ rfl<|nt<|bk<|f1<|f2<|f2<|lp bE () (fun xB eC=>[(8,pb b1),(16,pb hA),(144,.raw tA),(145,.raw (.int .i64 (kB.length:Int))),(146,.raw (.int .i64 xB.2))]) (fun xB eC=>(.any (iH aC K2 ci cu 152 64 tA xB.1))::(.box ah b1 27 (⟨(0:Int),[]⟩:ab))::(.box bf hA 27 (⟨a0.Newest,tA⟩:az))::L) rfl rfl fun xB eC eI kA vE=>?_
              obtain⟨kE,cI⟩:=xB
              dsimp only at kA⊢
              refine sr<|b_ rfl<|nt<|sq<|it kA rfl (fun kA=>?_) (fun kA=>?_)
              ·exact bs kA fun cC dE kA=>bs kA fun eE cE kA=>ct<|sq<|bk<|sr<|Under.manyTake bj bo dE fun qE qI l477 wI nB rE=>ov (OpV.ixO nB Tryz.underlying25 sz152k1 rfl rfl) rfl<|lP (.own nB) (.ix .id nB) kt152k rfl rfl<|al ZT152k rfl fun gI=>sP (x':=(⟨cC.Number,qE⟩:ao)) .box .id sz152k1 rfl rfl rdV rfl<|nt<|rg<|oM lz rfl<|lP .box (.fld .id jl) kt85k1 rfl rfl<|Under.rawR (t:=151) rfl<|f2<|cx Tryz.call125 rfl (lh cE _)<|nl<|f1<|dr<|f1<|Under.back (fun F w h=>rE ({cC with Tags:=eE}:ak) rfl F w _ h)<|bN<|tn<|rg<|b_ rfl<|m_ rfl<|nl<|nx () kA rfl rfl
              ·refine Under.manyPlain (KB:=aO) bj bo rfl lL<|f2<|f1<|Under.frzBO (fs:=cS) (⟨a0.Newest,kE⟩:ab) (fun F hv=>⟨fun _ h=>h,jh hv,trivial⟩)<|fz (t:=16) rfl<|xt<|te ?_
               cases aj kA vE
               exact te<|bh<|tn<|wr (hE _ (osi mB).symm) rfl
            ·intro K wE
             exact bs wB fun mI gE wB=>sr<|m_ rfl<|ov (OpV.not rfl) rfl<|nt<|Under.condT rfl<|rg<|oM eb rfl<|f3<|lP .box (.fld .id aM) kt25k rfl rfl<|Under.rawR (t:=136) rfl<|m_ rfl<|m_ rfl<|f1<|Under.ownCell fun mE=>ov (OpV.bst db (Bld.cons (x':=(⟨a1,.slice none 0 0⟩:ao)) rfl rfl rdI (by intro q hq;simp only[List.mem_cons,List.not_mem_nil,or_false] at hq;rcases hq with rfl<;>rfl) (Bld.cons (x':=(⟨a1,oA⟩:ao)) rfl rfl (eW mE) ⟨rfl,(fun q hq=>by simp at hq)⟩ (Bld.nil _)))) rfl<|bF (ys:=[(⟨a1,oA⟩:ao)]) Tryz.underlying25 ET152k (BldA.cons rfl rfl rdV (BldA.nil _)) rfl rfl<|f3<|Under.manyPush (x:=(⟨a1,wA⟩:ak)) bj bo gE Tryz.underlying25 (by kernel_rfl) AT152k rfl rfl (.sl rdV) rfl fun nE=>oM eb rfl<|Under.manyCell bj bo fun pE=>f1<|sP (x':=(⟨a0.Newest,nE⟩:az)) .box (.fld .id aM) sz25k rfl rfl (eW pE) rfl<|nt<|f1<|f2<|wr (wE _ _ (osi wB).symm) rfl
          ·try dsimp only[cond_true,cond_false] at xA
           try dsimp only[cond_true,cond_false]
           refine sr<|b_ rfl<|nt<|sq<|it xA rfl (fun xA=>?_) (fun xA=>?_)
           ·refine bs xA fun bA tE xA=>bs xA fun uE xG xA=>ct<|sq<|bk<|sr<|oS tE Tryz.underlying25 sz152 rfl<|oL kt152 rfl<|al ZT152 rfl fun nI=>sP (x':=bA) .box .id sz152k rfl rfl rdV rfl<|nt<|sq<|Under.after (fun X=>∀(_:Unit),uE=()→Under F0 155 [(1,.raw (.int .i64 a1)),(8,pb b1),(14,.raw oA),(16,pb hA),(17,.raw (.bool true)),(19,.ptr aO bA),(90,.val (kSl aO) a0.Epochs),(91,.raw (.int .i64 (a0.Epochs.length:Int))),(92,.raw (.int .i64 xD))] ((.box ah b1 27 (⟨(0:Int),[]⟩:ab))::(.any (iH aC K2 ci cu 152 64 zA pA))::(.box bf hA 27 (⟨a0.Newest,zA⟩:az))::L) X) ?_ ?_
            ·intro _ pB
             replace pB:=pB.symm
             subst pB
             refine bs xA fun tB yG xA=>bs xA fun pI zG xA=>ph rfl<|Under.grpT (L:=L) [0,1,2,3,4,5,6,7,8] [[16],[121],[19],[123],[19],[125],[126],[124,127],[128]] [⟨sk0 (.raw (.pointer (some ⟨hA,0+1,none⟩))),[],[],[]⟩,⟨sk0 (.raw zA),[],[],[]⟩,⟨sk0 (.ptr K8 bA.Number),[],[],[]⟩,⟨sk0 (.raw (.int .i64 bA.Number)),[],[],[]⟩,⟨sk0 (.ptr K0 bA.Tags),[],[],[]⟩,⟨sk0 (.val K0 bA.Tags),[],[],[]⟩,⟨sk1 6 (fun u6=> .raw u6),[],[(0,tk1 6 (fun u6=> .own K2 u6 64 tB))],[]⟩,⟨sk1 6 (fun u6=> .val aC (⟨bA.Number,u6⟩:ao)),[],[],[0]⟩,⟨sk1 6 (fun u6=> .val (kSl aC) [(⟨bA.Number,u6⟩:ao)]),[],[],[]⟩] [] (fun T:List Res=>(.box ah b1 27 (⟨(0:Int),[]⟩:ab))::(.any (iH aC K2 ci cu 152 64 zA pA))::(.box bf hA 27 (⟨a0.Newest,zA⟩:az))::T) lf3 rfl (by kernel_rfl) rfl rfl (fun F hF0 rA=>?_)
             refine Tq.v (fun G T hG=>?_) ?_
             ·exact oM eb rfl<|Tq.end undef rfl rfl
             refine Tq.v (fun G T hG=>?_) ?_
             ·exact f2<|lP .box (.fld .id aM) kt25k rfl rfl<|Under.rawR (t:=122) rfl<|f2<|f2<|Tq.end undef rfl rfl
             refine Tq.v (fun G T hG=>?_) ?_
             ·exact oF fb152k1 rfl<|Tq.end undef rfl rfl
             refine Tq.v (fun G T hG=>?_) ?_
             ·exact oI kt2 rfl<|Tq.end undef rfl rfl
             refine Tq.v (fun G T hG=>?_) ?_
             ·exact oF fb152k rfl<|Tq.end undef rfl rfl
             refine Tq.v (fun G T hG=>?_) ?_
             ·exact oL kt85 rfl<|Tq.end undef rfl rfl
             refine Tq.st (.raw (rA 6)) [] rfl rfl (fun G T hG=>?_) ?_
             ·refine Under.callX Tryz.call77 rfl rfl (o110 yG _) rfl ?_
              rintro bG
              exact Tq.end bG rfl rfl
             refine Tq.r1 (.val aC (⟨bA.Number,(rA 6)⟩:ao)) [.own K2 (rA 6) 64 tB] rfl rfl (fun G T hG=>?_) ?_
             ·exact Under.ownCell fun vG=>ov (OpV.bst db (Bld.cons (x':=(⟨bA.Number,.slice none 0 0⟩:ao)) rfl rfl rdI (by intro q hq;simp only[List.mem_cons,List.not_mem_nil,or_false] at hq;rcases hq with rfl<;>rfl) (Bld.cons (x':=(⟨bA.Number,(rA 6)⟩:ao)) rfl rfl (eW vG) ⟨rfl,(fun q hq=>by simp at hq)⟩ (Bld.nil _)))) rfl<|Tq.end undef rfl rfl
             refine Tq.st (.val (kSl aC) [(⟨bA.Number,(rA 6)⟩:ao)]) [] rfl rfl (fun G T hG=>?_) ?_
             ·exact bF (ys:=[(⟨bA.Number,(rA 6)⟩:ao)]) Tryz.underlying25 ET152k (BldA.cons rfl rfl rdV (BldA.nil _)) rfl rfl<|Tq.end undef rfl rfl
             exact Tq.nil<|Under.le hF0<|p1 9 rfl rfl<|f3<|f2<|Under.manyPush (x:=(⟨bA.Number,tB⟩:ak)) bj bo zG Tryz.underlying25 (by kernel_rfl) AT152k rfl rfl (.sl rdV) rfl fun qC=>pn<|p1 10 rfl rfl<|oM eb rfl<|pn<|p1 11 rfl rfl<|Under.manyCell bj bo fun oG=>f2<|sP (x':=(⟨a0.Newest,qC⟩:az)) .box (.fld .id aM) sz25k rfl rfl (eW oG) rfl<|pn<|pd rfl<|bN<|tn<|rg<|b_ rfl<|m_ rfl<|nl<|f1<|f2<|nx qC xA rfl rfl
            ·intro K kG
             exact sr<|m_ rfl<|ov (OpV.not rfl) rfl<|m_ rfl<|sk (rfl:(false:Bool)=false) rfl rfl rfl<|sk (rfl:(false:Bool)=false) rfl rfl rfl<|sk (rfl:(false:Bool)=false) rfl rfl rfl<|sk (rfl:(false:Bool)=false) rfl rfl rfl<|ov (pkF (rfl:(false:Bool)=false) rfl rfl) rfl<|nt<|Under.condF rfl<|fz (t:=19) rfl<|ct<|wr (kG () (osi xG).symm) rfl
           ·refine xt<|te ?_
            cases aj xA vC
            try dsimp only[cond_true,cond_false] at hF
            refine bs hF fun dG eG hF=>te<|bh<|tn<|sq<|Under.after (fun X=>∀(_:Unit),dG=()→Under F0 155 [(8,pb b1),(16,pb hA)] ((.box ah b1 27 (⟨(0:Int),[]⟩:ab))::(.any (iH aC K2 ci cu 152 64 zA pA))::(.box bf hA 27 (⟨a0.Newest,zA⟩:az))::L) X) ?_ ?_
            ·intro _ uB
             replace uB:=uB.symm
             subst uB
             refine bs hF fun yB xC hF=>sq<|afr (r:=yB) (fun yB=>[(8,pb b1),(16,.ptr ah yB)]) (fun yB=>((.box ah b1 27 (⟨(0:Int),[]⟩:ab))::L)) ?_ fun K cG=>?_
             ·refine sr<|oL kt27 rfl<|sP (x':=yB) .box .id sz27k rfl rfl rdV rfl<|a_ rfl<|nl<|fz (t:=8) rfl<|tn<|rc ?_
              cases osi hF
              exact rs Tryz.results67 (.ce rfl kt27 (.tm rfl .nil)) rfl rfl
             ·refine bs xC fun tI qG xC=>sr<|oM eb rfl<|f2<|lP .box (.fld .id aM) kt25k rfl rfl<|Under.rawR (t:=144) rfl<|f2<|Under.lenMany bj bo Tryz.underlying25 rfl rfl<|m_ rfl<|nt<|bk<|f1<|f2<|f2<|lp qG () (fun zB rC=>[(8,pb b1),(16,pb hA),(144,.raw zA),(145,.raw (.int .i64 (pA.length:Int))),(146,.raw (.int .i64 zB.2))]) (fun zB rC=>(.any (iH aC K2 ci cu 152 64 zA zB.1))::(.box ah b1 27 (⟨(0:Int),[]⟩:ab))::(.box bf hA 27 (⟨a0.Newest,zA⟩:az))::L) rfl rfl fun zB rC uI dA rG=>?_
              obtain⟨wG,xJ⟩:=zB
              dsimp only at dA⊢
              refine sr<|b_ rfl<|nt<|sq<|it dA rfl (fun dA=>?_) (fun dA=>?_)
              ·exact bs dA fun wC gG dA=>bs dA fun mG nG dA=>ct<|sq<|bk<|sr<|Under.manyTake bj bo gG fun pG yJ l633 zJ yC tG=>ov (OpV.ixO yC Tryz.underlying25 sz152k1 rfl rfl) rfl<|lP (.own yC) (.ix .id yC) kt152k rfl rfl<|al ZT152k rfl fun hJ=>sP (x':=(⟨wC.Number,pG⟩:ao)) .box .id sz152k1 rfl rfl rdV rfl<|nt<|rg<|oM lz rfl<|lP .box (.fld .id jl) kt85k1 rfl rfl<|Under.rawR (t:=151) rfl<|f2<|cx Tryz.call125 rfl (lh nG _)<|nl<|f1<|dr<|f1<|Under.back (fun F w h=>tG ({wC with Tags:=mG}:ak) rfl F w _ h)<|bN<|tn<|rg<|b_ rfl<|m_ rfl<|nl<|nx () dA rfl rfl
              ·refine Under.manyPlain (KB:=aO) bj bo rfl lL<|f2<|f1<|Under.frzBO (fs:=cS) (⟨a0.Newest,wG⟩:ab) (fun F hv=>⟨fun _ h=>h,jh hv,trivial⟩)<|fz (t:=16) rfl<|xt<|te ?_
               cases aj dA rG
               exact te<|bh<|tn<|wr (cG _ (osi xC).symm) rfl
            ·intro K uG
             exact sr<|m_ rfl<|ov (OpV.not rfl) rfl<|nt<|Under.condF rfl<|ct<|wr (uG () (osi eG).symm) rfl
         ·obtain⟨bJ,dB⟩:=qH vB l107 bC
          have h108k:=dB
          refine bs dB fun xH yH dB=>oE rfl<|nt<|sq<|Under.condT rfl<|ct<|bk<|sr<|Under.ent rfl rfl<|oE rfl<|al ZT64 rfl fun vJ=>sP (x':=vB.1) .box .id sz64k rfl rfl rdV rfl<|nl<|fz (t:=15) rfl<|tn<|rg<|m_ rfl<|oL kt64 rfl<|bF (ys:=[vB.1]) Tryz.underlying85 ET64 (BldA.cons rfl rfl rdV (BldA.nil _)) rfl rfl<|f1<|ap yH Tryz.underlying85 AT64 rfl rfl rdV rfl fun zH=>a_ rfl<|nl<|bN<|f2<|f1<|f2<|tn<|Under.nextM (cur':=some vB) xH zH bC ?_ dB ?_ ?_
          ·exact h108k
          ·exact(s5 rfl rfl rfl rfl rfl)
          ·rfl
       ·obtain⟨pJ,rH⟩:=dH nC l71 eH
        have h72k:=rH
        refine oE rfl<|nt<|sq<|Under.condT rfl<|ct<|bk<|sr<|Under.ent rfl rfl<|oE rfl<|al ZT64 rfl fun oJ=>sP (x':=nC.1) .box .id sz64k rfl rfl rdV rfl<|nl<|fz (t:=13) rfl<|tn<|rg<|m_ rfl<|oL kt64 rfl<|f2<|Under.mdel key64 Tryz.underlying155 rfl rfl rdV<|nl<|bN<|f2<|f2<|tn<|Under.nextM (cur':=some nC) (mdel nC.1 bB) () eH ?_ rH ?_ ?_
        ·exact h72k
        ·exact(s6 rfl rfl rfl rfl rfl rfl)
        ·rfl
      ·refine bs pC fun kJ hH pC=>sr<|m_ rfl<|oN Tryz.underlying85 rfl<|m_ rfl<|nt<|bk<|f1<|lp hH () (fun hB gC=>[(1,.raw (.int .i64 a1)),(3,.raw (.int .i64 a3)),(4,.ptr ah a0),(8,pb b1),(10,.raw (.map (some zC))),(45,.val K0 a2),(46,.raw (.int .i64 (a2.length:Int))),(47,.raw (.int .i64 hB.1))]) (fun hB gC=>(.box ah b1 27 (⟨(0:Int),[]⟩:ab))::(.mp K2 K8 zC hB.2)::L) rfl rfl fun hB gC dJ mA bH=>?_
       obtain⟨eJ,cJ⟩:=hB
       dsimp only at mA⊢
       refine sr<|b_ rfl<|nt<|sq<|it mA rfl (fun mA=>?_) (fun mA=>?_)
       ·exact bs mA fun vH oH mA=>ct<|sq<|bk<|sr<|m_ rfl<|oS oH Tryz.underlying85 sz64 rfl<|oL kt64 rfl<|al ZT64 rfl fun qJ=>a_ rfl<|sP (x':=vH) .box .id sz64k rfl rfl rdV rfl<|nl<|fz (t:=12) rfl<|tn<|rg<|m_ rfl<|oL kt64 rfl<|m_ rfl<|f1<|Under.mup key64 Tryz.underlying155 rfl rfl rdV rfl rdI<|nl<|bN<|tn<|rg<|b_ rfl<|m_ rfl<|nl<|f1<|nx () mA rfl rfl
       ·refine xt<|te ?_
        cases aj mA bH
        exact te<|bh<|tn<|wr (gH _ (osi pC).symm) rfl
    ·refine by_ (t:=36) rfl (fun nA=>?_) (fun nA=>?_)
     ·replace eB:=ctrue nA eB
      exact sk_ nA rfl<|sk_ nA rfl<|sk_ nA rfl<|sk_ nA rfl<|sk_ nA rfl<|pT nA rfl<|rf 5 (rbq eB) rfl k
     ·replace eB:=cfalse nA eB
      exact bs eB fun tJ rJ eB=>gc_ nA rfl<|m_ rfl<|gc_ nA rfl<|oF fb27k rfl<|gc_ nA rfl<|oI kt2 rfl<|gc_ nA rfl<|cx Tryz.call123 rfl (o5 rJ _)<|gc_ nA rfl<|ov (OpV.not rfl) rfl<|pF nA rfl<|rf 5 (rbq eB) rfl k
  ·refine by_ (t:=28) rfl (fun c5=>?_) (fun c5=>?_)
   ·replace h6:=ctrue c5 h6
    exact sk_ c5 rfl<|sk_ c5 rfl<|sk_ c5 rfl<|pT c5 rfl<|rf 3 (rbq h6) rfl k
   ·replace h6:=cfalse c5 h6
    exact bs h6 fun y8 h9 h6=>gc_ c5 rfl<|oL kt27 rfl<|gc_ c5 rfl<|cx Tryz.call73 rfl (o9 h9 _)<|gc_ c5 rfl<|b_ rfl<|pF c5 rfl<|rf 3 (rbq h6) rfl k
 ·refine by_ (t:=24) rfl (fun c2=>?_) (fun c2=>?_)
  ·exact sk_ c2 rfl<|sk_ c2 rfl<|pT c2 rfl<|rf 2 (or_t (e:=decide (a3>4096)) c2) rfl k
  ·exact gc_ c2 rfl<|m_ rfl<|gc_ c2 rfl<|b_ rfl<|pF c2 rfl<|rf 2 (or_f c2) rfl k
noncomputable def iP (a0:aa):Option Bool:=
 some ((((((decide (a0.Left≥0))&&(decide (a0.Left≤8)))&&(decide (a0.Round≥0)))&&(decide (a0.Round≤4611686018427387903)))&&(decide (a0.Epoch≥0)))&&(decide (a0.Epoch≤4611686018427387904)))
theorem o112 {a0:aa} {r0:Bool} (hF:iP a0=some r0) (L:List Res):Ok Tryz.prog 127 [SV.val bi a0] L (SV.raw (.bool r0)) L:=by
 unfold iP at hF
 refine okI 31 Tryz.func127 rfl rfl rfl fun F0=>?_
 refine sr<|bX (K:=bi) rfl rdV rfl<|a_ rfl<|ns<|oF fb43k rfl<|oI kt3 rfl<|b_ rfl<|m_ rfl<|cq 10 ((decide (a0.Left≥0))&&(decide (a0.Left≤8))) ?_ (fun k=>?_)
 ·refine m_ rfl<|cq 15 (((decide (a0.Left≥0))&&(decide (a0.Left≤8)))&&(decide (a0.Round≥0))) ?_ (fun k=>?_)
  ·refine m_ rfl<|cq 20 ((((decide (a0.Left≥0))&&(decide (a0.Left≤8)))&&(decide (a0.Round≥0)))&&(decide (a0.Round≤4611686018427387903))) ?_ (fun k=>?_)
   ·refine m_ rfl<|cq 25 (((((decide (a0.Left≥0))&&(decide (a0.Left≤8)))&&(decide (a0.Round≥0)))&&(decide (a0.Round≤4611686018427387903)))&&(decide (a0.Epoch≥0))) ?_ (fun k=>?_)
    ·refine m_ rfl<|cq 30 ((((((decide (a0.Left≥0))&&(decide (a0.Left≤8)))&&(decide (a0.Round≥0)))&&(decide (a0.Round≤4611686018427387903)))&&(decide (a0.Epoch≥0)))&&(decide (a0.Epoch≤4611686018427387904))) ?_ (fun k=>?_)
     ·refine a_ rfl<|nt<|rc ?_
      cases osi hF
      exact rs Tryz.results127 (.tm rfl .nil) rfl rfl
     ·refine by_ (t:=26) rfl (fun xA=>?_) (fun xA=>?_)
      ·exact gc_ xA rfl<|oF fb43k2 rfl<|gc_ xA rfl<|oI kt2 rfl<|gc_ xA rfl<|b_ rfl<|pT xA rfl<|rf 3 (iF xA) rfl k
      ·exact sk_ xA rfl<|sk_ xA rfl<|sk_ xA rfl<|pF xA rfl<|rf 3 (iG (e:=decide (a0.Epoch≤4611686018427387904)) xA) rfl k
    ·refine by_ (t:=21) rfl (fun yA=>?_) (fun yA=>?_)
     ·exact gc_ yA rfl<|oF fb43k2 rfl<|gc_ yA rfl<|oI kt2 rfl<|gc_ yA rfl<|b_ rfl<|pT yA rfl<|rf 3 (iF yA) rfl k
     ·exact sk_ yA rfl<|sk_ yA rfl<|sk_ yA rfl<|pF yA rfl<|rf 3 (iG (e:=decide (a0.Epoch≥0)) yA) rfl k
   ·refine by_ (t:=16) rfl (fun c7=>?_) (fun c7=>?_)
    ·exact gc_ c7 rfl<|oF fb43k1 rfl<|gc_ c7 rfl<|oI kt2 rfl<|gc_ c7 rfl<|b_ rfl<|pT c7 rfl<|rf 3 (iF c7) rfl k
    ·exact sk_ c7 rfl<|sk_ c7 rfl<|sk_ c7 rfl<|pF c7 rfl<|rf 3 (iG (e:=decide (a0.Round≤4611686018427387903)) c7) rfl k
  ·refine by_ (t:=11) rfl (fun c4=>?_) (fun c4=>?_)
   ·exact gc_ c4 rfl<|oF fb43k1 rfl<|gc_ c4 rfl<|oI kt2 rfl<|gc_ c4 rfl<|b_ rfl<|pT c4 rfl<|rf 3 (iF c4) rfl k
   ·exact sk_ c4 rfl<|sk_ c4 rfl<|sk_ c4 rfl<|pF c4 rfl<|rf 3 (iG (e:=decide (a0.Round≥0)) c4) rfl k
 ·refine by_ (t:=6) rfl (fun c1=>?_) (fun c1=>?_)
  ·exact gc_ c1 rfl<|oF fb43k rfl<|gc_ c1 rfl<|oI kt3 rfl<|gc_ c1 rfl<|b_ rfl<|pT c1 rfl<|rf 3 (iF c1) rfl k
  ·exact sk_ c1 rfl<|sk_ c1 rfl<|sk_ c1 rfl<|pF c1 rfl<|rf 3 (iG (e:=decide (a0.Left≤8)) c1) rfl k
noncomputable def cf (a0:List Int) (a1:Int) (a2:Int):Option (List Int):=
 (((Loop.run (S:=((List Int)×Int)) (R:=(List Int)) (fun(yA,xA)=>
   bif decide (xA≥0) then
    bif decide (0≤(IntKind.wrap .i64 (8*xA))) then
    (app yA [IntKind.wrap .u8 (shrI .u64 a1 (IntKind.wrap .i64 (8*xA)))]).bind fun zA=>
    some (.next (zA,IntKind.wrap .i64 (xA - 1)))
    else none
   else
    some (.done yA)) (a0,IntKind.wrap .i64 (a2 - 1))).bind fun hA=>
 some hA
  :Option (List Int))).bind fun bA=>
 some bA
theorem o113 {a0:List Int} {a1 a2:Int} {w0:Value} {r0:(List Int)} (hF:cf a0 a1 a2=some r0) (L:List Res):OkX Tryz.prog 128 [SV.raw w0,SV.raw (.int .u64 a1),SV.raw (.int .i64 a2)] ((.own K10 w0 5 a0)::L) (fun y:Value=>SV.raw y) (fun y:Value=>(.own K10 y 5 r0)::L):=by
 unfold cf at hF
 refine OkX.intro 23 [(0,.raw w0),(1,.raw (.int .u64 a1)),(2,.raw (.int .i64 a2))] Tryz.func128 rfl rfl rfl rfl fun F0=>?_
 refine bs hF fun kA bA hF=>sr<|a_ rfl<|nt<|sq<|Under.after (fun X=>∀(vA:List Int) (zA:Value),kA=vA→Under F0 23 [(0,.raw zA)] ((.own K10 zA 5 vA)::L) X) ?_ ?_
 ·intro vA zA oA
  replace oA:=oA.symm
  subst oA
  refine sr<|m_ rfl<|a_ rfl<|nt<|rc ?_
  cases osi hF
  exact Under.retsX zA Tryz.results128 (.tm rfl .nil) rfl rfl
 ·intro K dA
  refine bs bA fun mA eA bA=>sr<|mb rfl<|a_ rfl<|nt<|bk<|lp eA (C:=Value) w0 (fun yA hA=>[(0,.raw hA),(1,.raw (.int .u64 a1)),(7,.raw (.int .i64 yA.2))]) (fun yA hA=>(.own K10 hA 5 yA.1)::L) rfl rfl fun yA hA nA xA cA=>?_
  obtain⟨pA,qA⟩:=yA
  dsimp only at xA⊢
  refine sq<|sr<|mb rfl<|nt<|it xA rfl (fun xA=>?_) (fun xA=>?_)
  ·exact gs xA fun rA xA=>bs xA fun tA wA xA=>ct<|sq<|bk<|rg<|m_ rfl<|m_ rfl<|mb rfl<|ov (OpV.sh rfl rfl (of_decide_eq_true rA) rfl) rfl<|oC (by kernel_rfl) Tryz.underlying5 rfl<|bF (ys:=[IntKind.wrap .u8 (shrI .u64 a1 (IntKind.wrap .i64 (8*qA)))]) Tryz.underlying22 ET5 (BldA.cons rfl rfl rdI (BldA.nil _)) rfl rfl<|ap wA Tryz.underlying22 AT5 rfl rfl rdV rfl fun gA=>a_ rfl<|nl<|bN<|tn<|rg<|mb rfl<|a_ rfl<|nl<|nx gA xA rfl rfl
  ·refine xt<|te ?_
   cases aj xA cA
   exact te<|bh<|tn<|wr (dA _ _ (osi bA).symm) rfl
noncomputable def cO (a0:List Int) (a1:Int) (a2:Int):Option (List Int):=
 (((Loop.run (S:=((List Int)×Int)) (R:=(List Int)) (fun(yA,xA)=>
   bif decide (xA≥0) then
    bif decide (0≤(IntKind.wrap .i64 (8*xA))) then
    (app yA [IntKind.wrap .u8 (shrI .u64 a1 (IntKind.wrap .i64 (8*xA)))]).bind fun zA=>
    some (.next (zA,IntKind.wrap .i64 (xA - 1)))
    else none
   else
    some (.done yA)) (a0,IntKind.wrap .i64 (a2 - 1))).bind fun hA=>
 some hA
  :Option (List Int))).bind fun bA=>
 some bA
theorem o114 {a0:List Int} {a1 a2:Int} {w0:Value} {r0:(List Int)} (hF:cO a0 a1 a2=some r0) (L:List Res):Ok Tryz.prog 128 [SV.raw w0,SV.raw (.int .u64 a1),SV.raw (.int .i64 a2)] ((.own K10 w0 5 a0)::L) (SV.val K7 r0) L:=by
 unfold cO at hF
 refine okI 23 Tryz.func128 rfl rfl rfl fun F0=>?_
 refine bs hF fun zA bA hF=>sr<|a_ rfl<|nt<|sq<|afr (r:=zA) (fun zA=>[(0,.val K7 zA)]) (fun zA=>(L)) ?_ fun K vA=>?_
 ·refine sr<|m_ rfl<|a_ rfl<|nt<|rc ?_
  cases osi hF
  exact rs Tryz.results128 (.tm rfl .nil) rfl rfl
 ·refine bs bA fun rA oA bA=>sr<|mb rfl<|a_ rfl<|nt<|bk<|lp oA (C:=Value) w0 (fun yA hA=>[(0,.raw hA),(1,.raw (.int .u64 a1)),(7,.raw (.int .i64 yA.2))]) (fun yA hA=>(.own K10 hA 5 yA.1)::L) rfl rfl fun yA hA wA xA kA=>?_
  obtain⟨gA,dA⟩:=yA
  dsimp only at xA⊢
  refine sq<|sr<|mb rfl<|nt<|it xA rfl (fun xA=>?_) (fun xA=>?_)
  ·exact gs xA fun eA xA=>bs xA fun mA cA xA=>ct<|sq<|bk<|rg<|m_ rfl<|m_ rfl<|mb rfl<|ov (OpV.sh rfl rfl (of_decide_eq_true eA) rfl) rfl<|oC (by kernel_rfl) Tryz.underlying5 rfl<|bF (ys:=[IntKind.wrap .u8 (shrI .u64 a1 (IntKind.wrap .i64 (8*dA)))]) Tryz.underlying22 ET5 (BldA.cons rfl rfl rdI (BldA.nil _)) rfl rfl<|ap cA Tryz.underlying22 AT5 rfl rfl rdV rfl fun qA=>a_ rfl<|nl<|bN<|tn<|rg<|mb rfl<|a_ rfl<|nl<|nx qA xA rfl rfl
  ·refine fzO (t:=0) rfl<|xt<|te ?_
   cases aj xA kA
   exact te<|bh<|tn<|wr (vA _ (osi bA).symm) rfl
noncomputable def fE (a0:aG):Option ((List Int)×Int):=
 (iP a0.Header).bind fun y1=>
 bif !y1 then
  some ([],62)
 else
  bif decide ((a0.Cells.length:Int)>256) then
   some ([],63)
  else
   bif mkB 0 (IntKind.wrap .i64 ((IntKind.wrap .i64 (24+(IntKind.wrap .i64 ((a0.Cells.length:Int)*322))))+4)) then
   (app (List.replicate (Int.toNat 0) (0:Int)) [67,72,82,78]).bind fun z8=>
   (app z8 [1,IntKind.wrap .u8 a0.Header.Left]).bind fun dA=>
   (cf dA (IntKind.wrap .u64 (a0.Cells.length:Int)) 2).bind fun eA=>
   (cf eA (IntKind.wrap .u64 a0.Header.Round) 8).bind fun cA=>
   (cf cA (IntKind.wrap .u64 a0.Header.Epoch) 8).bind fun qA=>
   (((Loop.run (S := ((List Int) × Int)) (R := ((List Int) ⊕ ((List Int) × Int))) (fun (yA, xA) =>
     bif decide (xA<(a0.Cells.length:Int)) then
      (idx a0.Cells xA).bind fun zA=>
      bif (zA.length:Int) != 320 then
       some (.done (.inr ([],64)))
      else
       (cf yA 320 2).bind fun hA=>
       (app hA zA).bind fun bA=>
       some (.next (bA,IntKind.wrap .i64 (xA+1)))
     else
      some (.done (.inl yA))) (qA,0)).bind fun vA=>match vA with
    | .inl oA=>
     some (.inr oA)
    | .inr z=>
     some (.inl z)
    : Option (((List Int) × Int) ⊕ (List Int)))).bind fun rA => match rA with
    | .inl z=>
     some z
    | .inr kA=>
     (dT (⟨1,(0:Int)⟩:am) kA).bind fun wA=>
     (dc wA).bind fun gA=>
     (cO kA (IntKind.wrap .u64 gA) 4).bind fun mA=>
     some (mA,0)
   else none
theorem o115 {a0:aG} {r0:((List Int)×Int)} (hF:fE a0=some r0) (L:List Res):Ok Tryz.prog 68 [SV.val aV a0] L (SV.tup [SV.val K7 r0.1,SV.raw (.int .i64 r0.2)]) L:=by
 unfold fE at hF
 refine okI 74 Tryz.func68 rfl rfl rfl fun F0=>?_
 refine bs hF fun y1 h2 hF=>sr<|bX (K:=aV) rfl rdV rfl<|a_ rfl<|a_ rfl<|nt<|sq<|bk<|sr<|oF fb46k rfl<|oL kt43 rfl<|cx Tryz.call127 rfl (o112 h2 _)<|ov (OpV.not rfl) rfl<|a_ rfl<|nt<|it hF rfl (fun hF=>?_) (fun hF=>?_)
 ·refine sr<|a_ rfl<|a_ rfl<|nt<|rc<|Under.bR<|tr<|tV (K:=kSl K10) (x:=[]) (t:=2) rfl rdN ?_
  cases osi hF
  exact rs Tryz.results68 (.tm rfl (.tm rfl .nil)) rfl rfl
 ·refine sr<|oF fb46k1 rfl<|oL kt44 rfl<|oN Tryz.underlying44 rfl<|b_ rfl<|a_ rfl<|nt<|it hF rfl (fun hF=>?_) (fun hF=>?_)
  ·refine sr<|a_ rfl<|a_ rfl<|nt<|rc<|Under.bR<|tr<|tV (K:=kSl K10) (x:=[]) (t:=2) rfl rdN ?_
   cases osi hF
   exact rs Tryz.results68 (.tm rfl (.tm rfl .nil)) rfl rfl
  ·refine gs hF fun h6 hF=>bs hF fun z8 h9 hF=>bs hF fun qB wA hF=>bs hF fun rB gA hF=>cs<|bN<|tn<|sr<|oF fb46k1 rfl<|oL kt44 rfl<|oN Tryz.underlying44 rfl<|b_ rfl<|b_ rfl<|b_ rfl<|Under.mk h6 Tryz.underlying22 AT5 rfl rfl rfl fun v5=>a_ rfl<|ns<|m_ rfl<|Under.appG h9 Tryz.underlying22 (by kernel_rfl) AT5 rfl rfl (.str tZ) rfl fun wB=>a_ rfl<|ns<|m_ rfl<|oF fb46k rfl<|oF fb43k rfl<|oI kt3 rfl<|oC (by kernel_rfl) Tryz.underlying5 rfl<|bF (ys:=[1,IntKind.wrap .u8 a0.Header.Left]) Tryz.underlying22 ET5 (BldA.cons rfl rfl rdI (BldA.cons rfl rfl rdI (BldA.nil _))) rfl rfl<|ap wA Tryz.underlying22 AT5 rfl rfl rdV rfl fun gB=>a_ rfl<|ns<|m_ rfl<|oF fb46k1 rfl<|oL kt44 rfl<|oN Tryz.underlying44 rfl<|oC (by kernel_rfl) Tryz.underlying71 rfl<|Under.callX Tryz.call128 rfl rfl (o113 gA _) rfl ?_
   rintro mB
   refine bs hF fun nB mA hF=>a_ rfl<|ns<|m_ rfl<|oF fb46k rfl<|oF fb43k1 rfl<|oI kt2 rfl<|oC (by kernel_rfl) Tryz.underlying71 rfl<|Under.callX Tryz.call128 rfl rfl (o113 mA _) rfl ?_
   rintro pB
   refine bs hF fun tB nA hF=>a_ rfl<|ns<|m_ rfl<|oF fb46k rfl<|oF fb43k2 rfl<|oI kt2 rfl<|oC (by kernel_rfl) Tryz.underlying71 rfl<|Under.callX Tryz.call128 rfl rfl (o113 nA _) rfl ?_
   rintro pA
   refine bs hF fun tA vA hF=>a_ rfl<|nt<|sq<|Under.after (fun X=>∀(oA:List Int) (kA:Value),tA=(.inr oA)→Under F0 74 [(4,.raw kA)] ((.own K10 kA 5 oA)::L) X) ?_ ?_
   ·intro oA kA hA
    replace hA:=hA.symm
    subst hA
    refine bs hF fun uB uA hF=>bs hF fun xC xB hF=>bs hF fun yC yB hF=>sr<|m_ rfl<|ov (OpV.bst BT144 (Bld.cons (x':=(⟨1,(0:Int)⟩:am)) rfl rfl rdI (by intro q hq;simp only[List.mem_cons,List.not_mem_nil,or_false] at hq;rcases hq with rfl<;>rfl) (Bld.nil _))) rfl<|m_ rfl<|ca Tryz.call129 rfl rfl (Ok.lend (fun L=>o16 uA L) ⟨.inl rfl,⟨.inr ⟨rfl,rfl⟩,trivial⟩⟩ (SvF.val (Free.st2 Free.int Free.int))) rfl<|cx Tryz.call130 rfl (o15 xB _)<|oC (by kernel_rfl) Tryz.underlying71 rfl<|cx Tryz.call128 rfl (o114 yB _)<|a_ rfl<|a_ rfl<|nt<|rc ?_
    cases osi hF
    exact rs Tryz.results68 (.tm rfl (.tm rfl .nil)) rfl rfl
   ·intro K zB
    refine bs vA fun hB dA vA=>sr<|oF fb46k1 rfl<|oL kt44 rfl<|oN Tryz.underlying44 rfl<|m_ rfl<|nt<|bk<|lp dA (C:=Value) pA (fun yA zA=>[(4,.raw zA),(52,.val K1 a0.Cells),(53,.raw (.int .i64 (a0.Cells.length:Int))),(54,.raw (.int .i64 yA.2))]) (fun yA zA=>(.own K10 zA 5 yA.1)::L) rfl rfl fun yA zA bB xA bA=>?_
    obtain⟨vB,oB⟩:=yA
    dsimp only at xA⊢
    refine sr<|b_ rfl<|nt<|sq<|it xA rfl (fun xA=>?_) (fun xA=>?_)
    ·refine bs xA fun kB eA xA=>ct<|sq<|bk<|sr<|oS eA Tryz.underlying44 sz22 rfl<|oL kt22 rfl<|a_ rfl<|nt<|sq<|sr<|m_ rfl<|oN Tryz.underlying22 rfl<|b_ rfl<|nt<|it xA rfl (fun xA=>?_) (fun xA=>?_)
     ·refine dr<|sr<|a_ rfl<|a_ rfl<|nt<|rt<|Under.bR<|tr ?_
      cases aj xA bA
      refine tr<|Under.bR<|tr ?_
      cases osi vA
      refine tV (K:=kSl K10) (x:=[]) (t:=2) rfl rdN ?_
      cases osi hF
      exact rs Tryz.results68 (.tm rfl (.tm rfl .nil)) rfl rfl
     ·refine bs xA fun dB cA xA=>ct<|sr<|m_ rfl<|Under.callX Tryz.call128 rfl rfl (o113 cA _) rfl ?_
      rintro eB
      exact bs xA fun cB qA xA=>a_ rfl<|nt<|rg<|m_ rfl<|m_ rfl<|ap qA Tryz.underlying22 AT5 rfl rfl rdV rfl fun rA=>a_ rfl<|nl<|bN<|tn<|rg<|b_ rfl<|m_ rfl<|nl<|nx rA xA rfl rfl
    ·refine xt<|te ?_
     cases aj xA bA
     exact te<|bh<|tn<|wr (zB _ _ (osi vA).symm) rfl
noncomputable def kR (a0:aA) (a1:aD) (a2:List Int) (a3:List Int):Option aJ:=
 (js a0 a1 a2).bind fun y2=>
 bif y2.2.2.2 != 0 then
  (cW a1 y2.2.2.2 y2.2.2.1).bind fun y6=>
  some y6
 else
  (jV a0 y2.2.1 y2.1).bind fun y9=>
  bif y9.2.2 != 0 then
   (cW a1 y9.2.2 0).bind fun eA=>
   some eA
  else
   (iB a0 y9.1 a3).bind fun xA=>
   bif xA.2.2 != 0 then
    (cW a1 xA.2.2 0).bind fun cA=>
    some cA
   else
    (gZ a3 a0.Chunks xA.1).bind fun yA=>
    bif yA.2 != 0 then
     (cW a1 yA.2 0).bind fun qA=>
     some qA
    else
     (((Loop.run (S:=((List (List Int))×Int)) (R:=(List (List Int))) (fun(dA,zA)=>
       bif decide (zA<(y9.1.length:Int)) then
        (idx y9.1 zA).bind fun hA=>
        (app dA [hA.Replay]).bind fun bA=>
        some (.next (bA,IntKind.wrap .i64 (zA+1)))
       else
        some (.done dA)) ([],0)).bind fun vA=>
     some vA
      :Option (List (List Int)))).bind fun rA=>
     (j6 y2.2.1 y2.1.Header.Epoch rA a0.Room).bind fun oA=>
     bif oA.2 != 0 then
      (cW a1 oA.2 0).bind fun wA=>
      some wA
     else
      (fE (⟨(⟨y2.1.Header.Round,y2.1.Header.Epoch,IntKind.wrap .i64 (a0.Left - 1)⟩:aa),yA.1⟩:aG)).bind fun kA=>
      bif kA.2 != 0 then
       (cW a1 kA.2 0).bind fun gA=>
       some gA
      else
       some (⟨kA.1,(⟨IntKind.wrap .i64 (y2.1.Header.Round+1),oA.1⟩:aD),({({y9.2.1 with Noise:=xA.2.1}:ai) with Out:=(yA.1.length:Int)}:ai),(0:Int),(0:Int)⟩:aJ)
theorem o116 {a0:aA} {a1:aD} {a2 a3:List Int} {r0:aJ} (hF:kR a0 a1 a2 a3=some r0) (L:List Res):Ok Tryz.prog 18 [SV.val aH a0,SV.val br a1,SV.val K7 a2,SV.val K7 a3] L (SV.val aN r0) L:=by
 unfold kR at hF
 refine okI 138 Tryz.func18 rfl rfl rfl fun F0=>?_
 refine bs hF fun y2 h3 hF=>sr<|bX (K:=aH) rfl rdV rfl<|bX (K:=br) rfl rdV rfl<|al ZT37 rfl fun b1=>ns<|oL kt24 rfl<|oL kt29 rfl<|m_ rfl<|cx Tryz.call63 rfl (o24 h3 _)<|m_ rfl<|oE rfl<|oE rfl<|oE rfl<|oE rfl<|al ZT46 rfl fun b4=>al ZT27 rfl fun b5=>f1<|sP (x':=y2.1) .box .id sz46k rfl rfl rdV rfl<|f1<|sP (x':=y2.2.1) .box .id sz27k rfl rfl rdV rfl<|a_ rfl<|a_ rfl<|nl<|f1<|fz (t:=9) rfl<|tn<|sq<|sr<|mb rfl<|nt<|it hF rfl (fun hF=>?_) (fun hF=>?_)
 ·refine bs hF fun y6 h7 hF=>dr<|sr<|oL kt29 rfl<|m_ rfl<|m_ rfl<|cx Tryz.call64 rfl (o27 h7 _)<|sP (x':=y6) .box .id sz37k rfl rfl rdV rfl<|nl<|fz (t:=8) rfl<|tn<|rt ?_
  cases osi hF
  exact rs Tryz.results18 (.ce rfl kt37 .nil) rfl rfl
 ·refine bs hF fun y9 nA hF=>ct<|sr<|oL kt24 rfl<|lP .box .id kt27k rfl rfl<|oL kt46 rfl<|cx Tryz.call26 rfl (o76 nA _)<|m_ rfl<|oE rfl<|oE rfl<|oE rfl<|al ZT34 rfl fun kA=>a_ rfl<|sP (x':=y9.2.1) .box .id sz34k rfl rfl rdV rfl<|a_ rfl<|nt<|sq<|sr<|mb rfl<|nt<|it hF rfl (fun hF=>?_) (fun hF=>?_)
  ·refine bs hF fun pA tA hF=>dr<|dr<|sr<|oL kt29 rfl<|m_ rfl<|cx Tryz.call64 rfl (o27 tA _)<|sP (x':=pA) .box .id sz37k rfl rfl rdV rfl<|nl<|fz (t:=8) rfl<|tn<|rt ?_
   cases osi hF
   exact rs Tryz.results18 (.ce rfl kt37 .nil) rfl rfl
  ·refine bs hF fun hA uA hF=>ct<|sr<|oL kt24 rfl<|m_ rfl<|m_ rfl<|cx Tryz.call65 rfl (o84 uA _)<|m_ rfl<|oE rfl<|oE rfl<|oE rfl<|a_ rfl<|a_ rfl<|a_ rfl<|nt<|sq<|sr<|mb rfl<|nt<|it hF rfl (fun hF=>?_) (fun hF=>?_)
   ·refine bs hF fun xB yB hF=>dr<|dr<|sr<|oL kt29 rfl<|m_ rfl<|cx Tryz.call64 rfl (o27 yB _)<|sP (x':=xB) .box .id sz37k rfl rfl rdV rfl<|nl<|fz (t:=8) rfl<|tn<|rt ?_
    cases osi hF
    exact rs Tryz.results18 (.ce rfl kt37 .nil) rfl rfl
   ·refine bs hF fun bA zB hF=>ct<|sr<|m_ rfl<|oF fb24k7 rfl<|oI kt3 rfl<|m_ rfl<|cx Tryz.call66 rfl (o109 zB _)<|m_ rfl<|oE rfl<|oE rfl<|a_ rfl<|a_ rfl<|nt<|sq<|sr<|mb rfl<|nt<|it hF rfl (fun hF=>?_) (fun hF=>?_)
    ·refine bs hF fun hB bB hF=>dr<|dr<|sr<|oL kt29 rfl<|m_ rfl<|cx Tryz.call64 rfl (o27 bB _)<|sP (x':=hB) .box .id sz37k rfl rfl rdV rfl<|nl<|fz (t:=8) rfl<|tn<|rt ?_
     cases osi hF
     exact rs Tryz.results18 (.ce rfl kt37 .nil) rfl rfl
    ·refine bs hF fun dA cA hF=>ct<|sr<|a_ rfl<|nt<|sq<|afr (r:=dA) (fun dA=>[(4,.ptr aH a0),(5,.ptr br a1),(8,pb b1),(9,.ptr aV y2.1),(10,pb b5),(14,pb kA),(15,.val K1 bA.1),(16,.raw (.int .i64 hA.2.1)),(17,.val K0 dA)]) (fun dA=>((.box aN b1 37 (⟨[],(⟨(0:Int),(⟨(0:Int),[]⟩:ab)⟩:aD),(⟨(0:Int),(0:Int),(0:Int),(0:Int),(0:Int)⟩:ai),(0:Int),(0:Int)⟩:aJ))::(.box ah b5 27 y2.2.1)::(.box bU kA 34 y9.2.1)::L)) ?_ fun K vB=>?_
     ·refine bs hF fun vA oB hF=>sr<|f1<|lP .box .id kt27k rfl rfl<|oF fb46k rfl<|oF fb43k2 rfl<|oI kt2 rfl<|m_ rfl<|oF fb24k3 rfl<|oI kt3 rfl<|cx Tryz.call67 rfl (o111 oB _)<|m_ rfl<|oE rfl<|oE rfl<|sP (x':=vA.1) .box .id sz27k rfl rfl rdV rfl<|a_ rfl<|nl<|fz (t:=10) rfl<|tn<|sq<|sr<|mb rfl<|nt<|it hF rfl (fun hF=>?_) (fun hF=>?_)
      ·refine bs hF fun kB dB hF=>f1<|dr<|sr<|oL kt29 rfl<|m_ rfl<|cx Tryz.call64 rfl (o27 dB _)<|sP (x':=kB) .box .id sz37k rfl rfl rdV rfl<|nl<|fz (t:=8) rfl<|tn<|rt ?_
       cases osi hF
       exact rs Tryz.results18 (.ce rfl kt37 .nil) rfl rfl
      ·refine bs hF fun eA eB hF=>ct<|sr<|oF fb46k rfl<|oF fb43k1 rfl<|oI kt2 rfl<|oF fb46k rfl<|oF fb43k2 rfl<|oI kt2 rfl<|oF fb24k1 rfl<|oI kt3 rfl<|b_ rfl<|ov (OpV.bst BT43 (Bld.cons (x':=(⟨y2.1.Header.Round,(0:Int),(0:Int)⟩:aa)) rfl rfl rdI (by intro q hq;simp only[List.mem_cons,List.not_mem_nil,or_false] at hq;rcases hq with rfl|rfl<;>rfl) (Bld.cons (x':=(⟨y2.1.Header.Round,y2.1.Header.Epoch,(0:Int)⟩:aa)) rfl rfl rdI ⟨rfl,(by intro q hq;simp only[List.mem_cons,List.not_mem_nil,or_false] at hq;rcases hq with rfl<;>rfl)⟩ (Bld.cons (x':=(⟨y2.1.Header.Round,y2.1.Header.Epoch,IntKind.wrap .i64 (a0.Left - 1)⟩:aa)) rfl rfl rdI ⟨rfl,⟨rfl,(fun q hq=>by simp at hq)⟩⟩ (Bld.nil _))))) rfl<|m_ rfl<|ov (OpV.bst BT46 (Bld.cons (x':=(⟨(⟨y2.1.Header.Round,y2.1.Header.Epoch,IntKind.wrap .i64 (a0.Left - 1)⟩:aa),[]⟩:aG)) rfl rfl rdV (by intro q hq;simp only[List.mem_cons,List.not_mem_nil,or_false] at hq;rcases hq with rfl<;>rfl) (Bld.cons (x':=(⟨(⟨y2.1.Header.Round,y2.1.Header.Epoch,IntKind.wrap .i64 (a0.Left - 1)⟩:aa),bA.1⟩:aG)) rfl rfl rdV ⟨rfl,(fun q hq=>by simp at hq)⟩ (Bld.nil _)))) rfl<|cx Tryz.call68 rfl (o115 eB _)<|m_ rfl<|oE rfl<|oE rfl<|a_ rfl<|a_ rfl<|nt<|sq<|sr<|mb rfl<|nt<|it hF rfl (fun hF=>?_) (fun hF=>?_)
       ·refine bs hF fun cB qB hF=>f1<|dr<|sr<|oL kt29 rfl<|m_ rfl<|cx Tryz.call64 rfl (o27 qB _)<|sP (x':=cB) .box .id sz37k rfl rfl rdV rfl<|nl<|fz (t:=8) rfl<|tn<|rt ?_
        cases osi hF
        exact rs Tryz.results18 (.ce rfl kt37 .nil) rfl rfl
       ·refine ct<|sr<|m_ rfl<|m_ rfl<|oN Tryz.underlying44 rfl<|oM xO rfl<|f1<|sP (x':=({y9.2.1 with Noise:=hA.2.1}:ai)) .box (.fld .id nT) sz3k rfl rfl rdI rfl<|oM xP rfl<|sP (x':=({({y9.2.1 with Noise:=hA.2.1}:ai) with Out:=(bA.1.length:Int)}:ai)) .box (.fld .id nU) sz3k rfl rfl rdI rfl<|nl<|fz (t:=14) rfl<|tn<|sr<|m_ rfl<|oF fb46k rfl<|oF fb43k1 rfl<|oI kt2 rfl<|b_ rfl<|oL kt27 rfl<|ov (OpV.bst BT29 (Bld.cons (x':=(⟨IntKind.wrap .i64 (y2.1.Header.Round+1),(⟨(0:Int),[]⟩:ab)⟩:aD)) rfl rfl rdI (by intro q hq;simp only[List.mem_cons,List.not_mem_nil,or_false] at hq;rcases hq with rfl<;>rfl) (Bld.cons (x':=(⟨IntKind.wrap .i64 (y2.1.Header.Round+1),vA.1⟩:aD)) rfl rfl rdV ⟨rfl,(fun q hq=>by simp at hq)⟩ (Bld.nil _)))) rfl<|oL kt34 rfl<|ov (OpV.bst BT37 (Bld.cons (x':=(⟨eA.1,(⟨(0:Int),(⟨(0:Int),[]⟩:ab)⟩:aD),(⟨(0:Int),(0:Int),(0:Int),(0:Int),(0:Int)⟩:ai),(0:Int),(0:Int)⟩:aJ)) rfl rfl rdV (by intro q hq;simp only[List.mem_cons,List.not_mem_nil,or_false] at hq;rcases hq with rfl|rfl|rfl|rfl<;>rfl) (Bld.cons (x':=(⟨eA.1,(⟨IntKind.wrap .i64 (y2.1.Header.Round+1),vA.1⟩:aD),(⟨(0:Int),(0:Int),(0:Int),(0:Int),(0:Int)⟩:ai),(0:Int),(0:Int)⟩:aJ)) rfl rfl rdV ⟨rfl,(by intro q hq;simp only[List.mem_cons,List.not_mem_nil,or_false] at hq;rcases hq with rfl|rfl|rfl<;>rfl)⟩ (Bld.cons (x':=(⟨eA.1,(⟨IntKind.wrap .i64 (y2.1.Header.Round+1),vA.1⟩:aD),({({y9.2.1 with Noise:=hA.2.1}:ai) with Out:=(bA.1.length:Int)}:ai),(0:Int),(0:Int)⟩:aJ)) rfl rfl rdV ⟨rfl,⟨rfl,(by intro q hq;simp only[List.mem_cons,List.not_mem_nil,or_false] at hq;rcases hq with rfl|rfl<;>rfl)⟩⟩ (Bld.nil _))))) rfl<|sP (x':=(⟨eA.1,(⟨IntKind.wrap .i64 (y2.1.Header.Round+1),vA.1⟩:aD),({({y9.2.1 with Noise:=hA.2.1}:ai) with Out:=(bA.1.length:Int)}:ai),(0:Int),(0:Int)⟩:aJ)) .box .id sz37k rfl rfl rdV rfl<|nl<|fz (t:=8) rfl<|tn<|rc ?_
        cases osi hF
        exact rs Tryz.results18 (.ce rfl kt37 .nil) rfl rfl
     ·refine bs cA fun rB qA cA=>sr<|m_ rfl<|oN Tryz.underlying59 rfl<|m_ rfl<|nt<|bk<|Under.ownNil (K:=kArr 16 K10) (e:=64)<|f1<|f2<|f3<|f3<|lp qA (C:=Value) (.slice none 0 0) (fun yA zA=>[(4,.ptr aH a0),(5,.ptr br a1),(8,pb b1),(9,.ptr aV y2.1),(10,pb b5),(14,pb kA),(15,.val K1 bA.1),(16,.raw (.int .i64 hA.2.1)),(17,.raw zA),(75,.val (kSl aR) y9.1),(76,.raw (.int .i64 (y9.1.length:Int))),(77,.raw (.int .i64 yA.2))]) (fun yA zA=>(.own K2 zA 64 yA.1)::(.box aN b1 37 (⟨[],(⟨(0:Int),(⟨(0:Int),[]⟩:ab)⟩:aD),(⟨(0:Int),(0:Int),(0:Int),(0:Int),(0:Int)⟩:ai),(0:Int),(0:Int)⟩:aJ))::(.box ah b5 27 y2.2.1)::(.box bU kA 34 y9.2.1)::L) rfl rfl fun yA zA wB xA rA=>?_
      obtain⟨nB,pB⟩:=yA
      dsimp only at xA⊢
      refine sr<|b_ rfl<|nt<|sq<|it xA rfl (fun xA=>?_) (fun xA=>?_)
      ·exact bs xA fun oA wA xA=>bs xA fun gB gA xA=>ct<|sq<|bk<|sr<|oS wA Tryz.underlying59 sz66 rfl<|oL kt66 rfl<|al ZT66 rfl fun mB=>sP (x':=oA) .box .id sz66k rfl rfl rdV rfl<|nl<|fz (t:=19) rfl<|tn<|rg<|m_ rfl<|oF fb66k rfl<|oL kt64 rfl<|bF (ys:=[oA.Replay]) Tryz.underlying85 ET64 (BldA.cons rfl rfl rdV (BldA.nil _)) rfl rfl<|ap gA Tryz.underlying85 AT64 rfl rfl rdV rfl fun mA=>a_ rfl<|nl<|bN<|tn<|rg<|b_ rfl<|m_ rfl<|nl<|nx mA xA rfl rfl
      ·refine fzO (t:=17) rfl<|xt<|te ?_
       cases aj xA rA
       exact te<|bh<|tn<|wr (vB _ (osi cA).symm) rfl
noncomputable def jC (a0:aA) (a1:ab) (a2:aG):Option (List Int):=
 (eL a0.Master a2.Header.Epoch).bind fun y1=>
 bif y1.2 != 0 then
  some []
 else
  (((Loop.run (S:=((List Int)×Int×(List ((List Int)×Int)))) (R:=(List Int)) (fun(zA,hA,yA)=>
    bif decide (hA<(a2.Cells.length:Int)) then
     (((idx a2.Cells hA).bind fun bA=>
     (eS y1.1 a0.Left bA).bind fun xA=>
     bif xA.2 != 0 then
      some (zA,yA)
     else
      ((bif !((mfind xA.1.Replay yA).isSome) then
       (iN a1 xA.1.Replay).bind fun vA=>
       some (!vA)
      else
       some false
       :Option Bool)).bind fun oA=>
      bif oA then
       (app zA [hA]).bind fun kA=>
       some (kA,mset xA.1.Replay (IntKind.wrap .i64 ((cT xA.1.Replay yA (0:Int))+1)) (mset xA.1.Replay (cT xA.1.Replay yA (0:Int)) yA))
      else
       some (zA,mset xA.1.Replay (IntKind.wrap .i64 ((cT xA.1.Replay yA (0:Int))+1)) (mset xA.1.Replay (cT xA.1.Replay yA (0:Int)) yA))
      :Option ((List Int)×(List ((List Int)×Int))))).bind fun dA=>match dA with
      |(eA,cA)=>
       some (.next (eA,IntKind.wrap .i64 (hA+1),cA))
    else
     some (.done zA)) ([],0,[])).bind fun qA=>
  some qA
   :Option (List Int))).bind fun rA=>
  some rA
theorem o117 {a0:aA} {a1:ab} {a2:aG} {r0:(List Int)} (hF:jC a0 a1 a2=some r0) (L:List Res):Ok Tryz.prog 92 [SV.val aH a0,SV.val ah a1,SV.val aV a2] L (SV.val K6 r0) L:=by
 unfold jC at hF
 refine okI 76 Tryz.func92 rfl rfl rfl fun F0=>?_
 refine bs hF fun y1 h2 hF=>sr<|bX (K:=aH) rfl rdV rfl<|bX (K:=ah) rfl rdV rfl<|bX (K:=aV) rfl rdV rfl<|a_ rfl<|ns<|oF fb24k rfl<|oL kt22 rfl<|oF fb46k rfl<|oF fb43k2 rfl<|oI kt2 rfl<|cx Tryz.call48 rfl (o40 h2 _)<|m_ rfl<|oE rfl<|oE rfl<|a_ rfl<|a_ rfl<|nt<|sq<|sr<|mb rfl<|nt<|it hF rfl (fun hF=>?_) (fun hF=>?_)
 ·refine sr<|a_ rfl<|nt<|rt<|tV (K:=kSl K8) (x:=[]) (t:=6) rfl rdN ?_
  cases osi hF
  exact rs Tryz.results92 (.tm rfl .nil) rfl rfl
 ·refine bs hF fun eA qA hF=>ct<|sr<|a_ rfl<|ns<|Under.mkm K2 K8 rfl fun b4=>a_ rfl<|nt<|sq<|afr (r:=eA) (fun eA=>[(9,.val K6 eA)]) (fun eA=>(L)) ?_ fun K pA=>?_
  ·refine sr<|m_ rfl<|a_ rfl<|nt<|rc ?_
   cases osi hF
   exact rs Tryz.results92 (.tm rfl .nil) rfl rfl
  ·refine bs qA fun dB tA qA=>sr<|oF fb46k1 rfl<|oL kt44 rfl<|oN Tryz.underlying44 rfl<|m_ rfl<|nt<|bk<|Under.ownNil (K:=kInt .i64) (e:=3)<|lp tA (C:=Value) (.slice none 0 0) (fun oA kA=>[(3,.ptr aH a0),(4,.ptr ah a1),(7,.val K7 y1.1),(9,.raw kA),(10,.raw (.map (some b4))),(30,.val K1 a2.Cells),(31,.raw (.int .i64 (a2.Cells.length:Int))),(32,.raw (.int .i64 oA.2.1))]) (fun oA kA=>(.own K8 kA 3 oA.1)::(.mp K2 K8 b4 oA.2.2)::L) rfl rfl fun oA kA eB bA uA=>?_
   obtain⟨xB,nA,hA⟩:=oA
   dsimp only at bA⊢
   refine sr<|b_ rfl<|nt<|sq<|it bA rfl (fun bA=>?_) (fun bA=>?_)
   ·refine bs bA fun yB xA bA=>ct<|sq<|Under.after (fun X=>∀(rA:List Int) (wA:List ((List Int)×Int)) (cA:Value),yB=(rA,wA)→Under F0 76 [(3,.ptr aH a0),(4,.ptr ah a1),(7,.val K7 y1.1),(9,.raw cA),(10,.raw (.map (some b4))),(30,.val K1 a2.Cells),(31,.raw (.int .i64 (a2.Cells.length:Int))),(32,.raw (.int .i64 nA))] ((.own K8 cA 3 rA)::(.mp K2 K8 b4 wA)::L) X) ?_ ?_
    ·intro rA wA cA gA
     replace gA:=gA.symm
     subst gA
     exact rg<|b_ rfl<|m_ rfl<|nl<|nx cA bA rfl rfl
    ·intro K mA
     refine bs xA fun cB zB xA=>bs xA fun zA hB xA=>bk<|sr<|m_ rfl<|oS zB Tryz.underlying44 sz22 rfl<|oL kt22 rfl<|a_ rfl<|a_ rfl<|ns<|m_ rfl<|oF fb24k1 rfl<|oI kt3 rfl<|m_ rfl<|cx Tryz.call49 rfl (o69 hB _)<|m_ rfl<|oE rfl<|oE rfl<|al ZT66 rfl fun qB=>sP (x':=zA.1) .box .id sz66k rfl rfl rdV rfl<|a_ rfl<|nl<|fz (t:=13) rfl<|tn<|sq<|sr<|mb rfl<|nt<|it xA rfl (fun xA=>?_) (fun xA=>?_)
     ·exact xt<|te<|bh<|tn<|wr (mA _ _ _ (osi xA).symm) rfl
     ·refine ct<|sr<|m_ rfl<|oF fb66k rfl<|oL kt64 rfl<|f1<|Under.lkO2 key64 Tryz.underlying155 ZV3 rfl rfl rdV rfl<|m_ rfl<|oE rfl<|oE rfl<|a_ rfl<|a_ rfl<|nt<|sq<|ph rfl<|f1<|Under.grpT (L:=L) [0,1,2,5,3,4,6] [[10],[13],[55],[54,56],[54,56],[57],[59]] [⟨sk0 (.raw (.map (some b4))),[],[],[]⟩,⟨sk0 (.ptr K2 zA.1.Replay),[],[],[]⟩,⟨sk0 (.val K2 zA.1.Replay),[],[],[]⟩,⟨sk1 3 (fun u3=> .tup [.val K8 (cT zA.1.Replay hA (0:Int)),.raw (.int .i64 (ival u3))]),[0],[(1,tk1 3 (fun u3=>mpS K2 K8 b4 (mset zA.1.Replay (cT zA.1.Replay hA (0:Int)) hA) zA.1.Replay (ival u3)))],[]⟩,⟨sk0 (.raw (.int .i64 (cT zA.1.Replay hA (0:Int)))),[],[],[0,1]⟩,⟨sk0 (.raw (.int .i64 (IntKind.wrap .i64 ((cT zA.1.Replay hA (0:Int))+1)))),[],[],[]⟩,⟨sk1 3 (fun u3=> .raw (.int .i64 (ival u3))),[],[],[]⟩] [(0,.mp K2 K8 b4 hA)] (fun T:List Res=>(.own K8 kA 3 xB)::T) lf1 rfl (by kernel_rfl) rfl rfl (fun F hF0 dA=>?_)
      refine Tq.v (fun G T hG=>?_) ?_
      ·exact m_ rfl<|Tq.end undef rfl rfl
      refine Tq.v (fun G T hG=>?_) ?_
      ·exact oF fb66k rfl<|Tq.end undef rfl rfl
      refine Tq.v (fun G T hG=>?_) ?_
      ·exact oL kt64 rfl<|Tq.end undef rfl rfl
      refine Tq.st (.tup [.val K8 (cT zA.1.Replay hA (0:Int)),.raw (.int .i64 (ival (dA 3)))]) [.mp K2 K8 b4 hA] rfl rfl (fun G T hG=>?_) ?_
      ·exact Under.mpE (Free.arr Free.int) Free.int key64 Tryz.underlying155 ZV3 rfl rfl rdV rfl fun bB=>Tq.end (.int .i64 bB) rfl rfl
      refine Tq.r2 (.raw (.int .i64 (cT zA.1.Replay hA (0:Int)))) [.mp K2 K8 b4 hA] [mpS K2 K8 b4 (mset zA.1.Replay (cT zA.1.Replay hA (0:Int)) hA) zA.1.Replay (ival (dA 3))] rfl rfl (fun G T hG=>?_) (fun G T hG=>?_) ?_
      ·exact ov (OpV.lkI key64 Tryz.underlying155 ZV3 rfl rfl rdV) rfl<|Tq.end undef rfl rfl
      ·exact ov (OpV.lkS qa key64 Tryz.underlying155 ZV3 rfl rfl rdV) rfl<|Tq.end undef rfl rfl
      refine Tq.v (fun G T hG=>?_) ?_
      ·exact b_ rfl<|Tq.end undef rfl rfl
      refine Tq.st (.raw (.int .i64 (ival (dA 3)))) [] rfl rfl (fun G T hG=>?_) ?_
      ·exact oE rfl<|Tq.end undef rfl rfl
      refine bs xA fun vB vA xA=>Tq.nil<|Under.le hF0<|p1 7 rfl rfl<|f1<|Under.mpP rfl rfl rfl rdI<|pn<|pd rfl<|tn<|sr<|m_ rfl<|ov (OpV.not rfl) rfl<|m_ rfl<|kw 69 vB ?_ (fun k=>?_)
      ·refine nt<|it xA rfl (fun xA=>?_) (fun xA=>?_)
       ·exact bs xA fun rB oB xA=>rg<|m_ rfl<|m_ rfl<|bF (ys:=[nA]) Tryz.underlying68 ET3 (BldA.cons rfl rfl rdI (BldA.nil _)) rfl rfl<|f1<|ap oB Tryz.underlying68 AT3 rfl rfl rdV rfl fun wB=>a_ rfl<|nl<|bN<|tn<|wr (mA _ _ _ (osi xA).symm) rfl
       ·exact cs<|bN<|tn<|f1<|wr (mA _ _ _ (osi xA).symm) rfl
      ·refine by_ (t:=63) rfl (fun yA=>?_) (fun yA=>?_)
       ·replace vA:=ctrue yA vA
        exact bs vA fun gB kB vA=>gc_ yA rfl<|oL kt27 rfl<|gc_ yA rfl<|oF fb66k rfl<|gc_ yA rfl<|oL kt64 rfl<|gc_ yA rfl<|cx Tryz.call28 rfl (o75 kB _)<|gc_ yA rfl<|ov (OpV.not rfl) rfl<|pT yA rfl<|rf 5 (rbq vA) rfl k
       ·replace vA:=cfalse yA vA
        exact sk_ yA rfl<|sk_ yA rfl<|sk_ yA rfl<|sk_ yA rfl<|sk_ yA rfl<|pF yA rfl<|rf 5 (rbq vA) rfl k
   ·refine fzO (t:=9) rfl<|dr<|xt<|te ?_
    cases aj bA uA
    exact te<|bh<|tn<|wr (pA _ (osi qA).symm) rfl
noncomputable def jc (a0:aA) (a1:aD) (a2:List Int) (a3:List Int):Option (aJ×aI):=
 (kR a0 a1 a2 a3).bind fun y3=>
 bif y3.Err != 0 then
  some (y3,(⟨(⟨(0:Int),(0:Int),(0:Int)⟩:aa),(0:Int),[],[]⟩:aI))
 else
  (cw a2).bind fun y7=>
  (ii a1.Window y7.1.Header.Epoch a0.Span).bind fun pA=>
  (jC a0 pA.1 y7.1).bind fun vA=>
  (gu a3 (IntKind.wrap .i64 ((vA.length:Int)+y3.Report.Noise)) a0.Chunks).bind fun nA=>
  bif mkB (y7.1.Cells.length:Int) (y7.1.Cells.length:Int) then
  (((Loop.run (S:=(Int×(List (List Int)))) (R:=(List (List Int))) (fun(xA,yA)=>
    bif decide (xA<(vA.length:Int)) then
     (idx vA xA).bind fun zA=>
     (idx yA zA).bind fun kA=>
     (idx y7.1.Cells zA).bind fun dA=>
     bif decide ((Int.toNat 0)≤(Int.toNat 16)∧(Int.toNat 16)≤16) then
     some (.next (IntKind.wrap .i64 (xA+1),List.set yA (Int.toNat zA) (over kA (Int.toNat 0) (Int.toNat 16) dA)))
     else none
    else
     some (.done yA)) (0,List.replicate (Int.toNat (y7.1.Cells.length:Int)) (List.replicate 16 (0:Int)))).bind fun eA=>
  some eA
   :Option (List (List Int)))).bind fun tA=>
  (((Loop.run (S:=(Int×(List Int))) (R:=aI) (fun(hA,bA)=>
    bif decide (hA<(nA.1.length:Int)) then
     (((idx nA.1 hA).bind fun oA=>
     bif decide (oA<(vA.length:Int)) then
      (idx vA oA).bind fun cA=>
      (app bA [cA]).bind fun qA=>
      some qA
     else
      (app bA [(-1)]).bind fun rA=>
      some rA
      :Option (List Int))).bind fun wA=>
     some (.next (IntKind.wrap .i64 (hA+1),wA))
    else
     some (.done (⟨({y7.1.Header with Left:=IntKind.wrap .i64 (a0.Left - 1)}:aa),(y7.1.Cells.length:Int),bA,tA⟩:aI))) (0,[])).bind fun gA=>
  some gA
   :Option aI)).bind fun mA=>
  some (y3,mA)
  else none
theorem o118 {a0:aA} {a1:aD} {a2 a3:List Int} {r0:(aJ×aI)} (hF:jc a0 a1 a2 a3=some r0) (L:List Res):Ok Tryz.prog 42 [SV.val aH a0,SV.val br a1,SV.val K7 a2,SV.val K7 a3] L (SV.tup [SV.val aN r0.1,SV.val aQ r0.2]) L:=by
 unfold jc at hF
 refine okI 128 Tryz.func42 rfl rfl rfl fun F0=>?_
 refine bs hF fun y3 h4 hF=>sr<|bX (K:=aH) rfl rdV rfl<|bX (K:=br) rfl rdV rfl<|al ZT37 rfl fun b1=>al ZT87 rfl fun b2=>ns<|oL kt24 rfl<|oL kt29 rfl<|m_ rfl<|m_ rfl<|cx Tryz.call18 rfl (o116 h4 _)<|al ZT37 rfl fun b5=>sP (x':=y3) .box .id sz37k rfl rfl rdV rfl<|nl<|fz (t:=10) rfl<|tn<|sq<|sr<|oF fb37k rfl<|oI kt35 rfl<|b_ rfl<|nt<|it hF rfl (fun hF=>?_) (fun hF=>?_)
 ·refine sr<|oL kt37 rfl<|ov (OpV.bst BT87 (Bld.nil _)) rfl<|f1<|sP (x':=y3) .box .id sz37k rfl rfl rdV rfl<|f1<|sP (x':=(⟨(⟨(0:Int),(0:Int),(0:Int)⟩:aa),(0:Int),[],[]⟩:aI)) .box .id sz87k rfl rfl rdV rfl<|nl<|fz (t:=9) rfl<|fz (t:=8) rfl<|tn<|rt ?_
  cases osi hF
  exact rs Tryz.results42 (.ce rfl kt37 (.ce rfl kt87 .nil)) rfl rfl
 ·refine bs hF fun y7 h8 hF=>bs hF fun vC oC hF=>bs hF fun mA kC hF=>bs hF fun nA dC hF=>gs hF fun eC hF=>ct<|sr<|m_ rfl<|cx Tryz.call20 rfl (o20 h8 _)<|m_ rfl<|oE rfl<|oE rfl<|oE rfl<|al ZT46 rfl fun b9=>sP (x':=y7.1) .box .id sz46k rfl rfl rdV rfl<|a_ rfl<|a_ rfl<|nl<|fz (t:=11) rfl<|tn<|sr<|oF fb29k1 rfl<|oL kt27 rfl<|oF fb46k rfl<|oF fb43k2 rfl<|oI kt2 rfl<|oF fb24k2 rfl<|oI kt3 rfl<|cx Tryz.call25 rfl (o23 oC _)<|m_ rfl<|oE rfl<|oE rfl<|al ZT27 rfl fun zD=>sP (x':=vC.1) .box .id sz27k rfl rfl rdV rfl<|a_ rfl<|nl<|fz (t:=14) rfl<|tn<|sr<|oL kt24 rfl<|oL kt27 rfl<|oL kt46 rfl<|cx Tryz.call92 rfl (o117 kC _)<|a_ rfl<|ns<|m_ rfl<|m_ rfl<|oN Tryz.underlying68 rfl<|oF fb37k1 rfl<|oF fb34k rfl<|oI kt3 rfl<|b_ rfl<|oF fb24k7 rfl<|oI kt3 rfl<|cx Tryz.call29 rfl (o105 dC _)<|m_ rfl<|oE rfl<|oE rfl<|a_ rfl<|a_ rfl<|nt<|sq<|ph rfl<|Under.grpT (L:=L) [0,1,2,3,4,5,6,7,8,9,10] [[11],[68],[11],[70],[71],[11],[73],[74],[75],[69,72,76],[]] [⟨sk0 (.ptr bi y7.1.Header),[],[],[]⟩,⟨sk0 (.val bi y7.1.Header),[],[],[]⟩,⟨sk0 (.ptr K1 y7.1.Cells),[],[],[]⟩,⟨sk0 (.val K1 y7.1.Cells),[],[],[]⟩,⟨sk0 (.raw (.int .i64 (y7.1.Cells.length:Int))),[],[],[]⟩,⟨sk0 (.ptr K1 y7.1.Cells),[],[],[]⟩,⟨sk0 (.val K1 y7.1.Cells),[],[],[]⟩,⟨sk0 (.raw (.int .i64 (y7.1.Cells.length:Int))),[],[],[]⟩,⟨sk1 8 (fun u8=> .raw u8),[],[(0,tk1 8 (fun u8=> .own K2 u8 64 (List.replicate (Int.toNat (y7.1.Cells.length:Int)) (List.replicate 16 (0:Int)))))],[]⟩,⟨sk1 8 (fun u8=> .val cc (⟨y7.1.Header,(y7.1.Cells.length:Int),.slice none 0 0,u8⟩:aK)),[],[],[0]⟩,⟨sk1 10 (fun xB=> .raw (.pointer (some ⟨(vblk xB),0,none⟩))),[],[(1,tk1 10 (fun xB=> .box cc (vblk xB) 87 (⟨(⟨(0:Int),(0:Int),(0:Int)⟩:aa),(0:Int),.slice none 0 0,.slice none 0 0⟩:aK)))],[]⟩] [] (fun T:List Res=>(.box aQ b2 87 (⟨(⟨(0:Int),(0:Int),(0:Int)⟩:aa),(0:Int),[],[]⟩:aI))::(.box aN b1 37 (⟨[],(⟨(0:Int),(⟨(0:Int),[]⟩:ab)⟩:aD),(⟨(0:Int),(0:Int),(0:Int),(0:Int),(0:Int)⟩:ai),(0:Int),(0:Int)⟩:aJ))::T) lf2 rfl (by kernel_rfl) rfl rfl (fun F hF0 xA=>?_)
  refine Tq.v (fun G T hG=>?_) ?_
  ·exact oF fb46k rfl<|Tq.end undef rfl rfl
  refine Tq.v (fun G T hG=>?_) ?_
  ·exact oL kt43 rfl<|Tq.end undef rfl rfl
  refine Tq.v (fun G T hG=>?_) ?_
  ·exact oF fb46k1 rfl<|Tq.end undef rfl rfl
  refine Tq.v (fun G T hG=>?_) ?_
  ·exact oL kt44 rfl<|Tq.end undef rfl rfl
  refine Tq.v (fun G T hG=>?_) ?_
  ·exact oN Tryz.underlying44 rfl<|Tq.end undef rfl rfl
  refine Tq.v (fun G T hG=>?_) ?_
  ·exact oF fb46k1 rfl<|Tq.end undef rfl rfl
  refine Tq.v (fun G T hG=>?_) ?_
  ·exact oL kt44 rfl<|Tq.end undef rfl rfl
  refine Tq.v (fun G T hG=>?_) ?_
  ·exact oN Tryz.underlying44 rfl<|Tq.end undef rfl rfl
  refine Tq.st (.raw (xA 8)) [] rfl rfl (fun G T hG=>?_) ?_
  ·exact Under.mk eC Tryz.underlying85 AT64 rfl rfl rfl fun cC=>Tq.end cC rfl rfl
  refine Tq.r1 (.val cc (⟨y7.1.Header,(y7.1.Cells.length:Int),.slice none 0 0,(xA 8)⟩:aK)) [.own K2 (xA 8) 64 (List.replicate (Int.toNat (y7.1.Cells.length:Int)) (List.replicate 16 (0:Int)))] rfl rfl (fun G T hG=>?_) ?_
  ·exact Under.ownCell fun qC=>ov (OpV.bst kM (Bld.cons (x':=(⟨y7.1.Header,(0:Int),.slice none 0 0,.slice none 0 0⟩:aK)) rfl rfl rdV (by intro q hq;simp only[List.mem_cons,List.not_mem_nil,or_false] at hq;rcases hq with rfl|rfl|rfl<;>rfl) (Bld.cons (x':=(⟨y7.1.Header,(y7.1.Cells.length:Int),.slice none 0 0,.slice none 0 0⟩:aK)) rfl rfl rdI ⟨rfl,(by intro q hq;simp only[List.mem_cons,List.not_mem_nil,or_false] at hq;rcases hq with rfl|rfl<;>rfl)⟩ (Bld.cons (x':=(⟨y7.1.Header,(y7.1.Cells.length:Int),.slice none 0 0,(xA 8)⟩:aK)) rfl rfl (eW qC) ⟨rfl,⟨rfl,⟨rfl,(fun q hq=>by simp at hq)⟩⟩⟩ (Bld.nil _))))) rfl<|Tq.end undef rfl rfl
  refine Tq.st (.raw (.pointer (some ⟨(vblk (xA 10)),0,none⟩))) [] rfl rfl (fun G T hG=>?_) ?_
  ·exact al ZT87k rfl fun rC=>Tq.end (.pointer (some ⟨rC,0,none⟩)) rfl rfl
  refine bs hF fun cA yB hF=>Tq.nil<|Under.le hF0<|p1 11 rfl rfl<|f3<|sP (x':=(⟨y7.1.Header,(y7.1.Cells.length:Int),.slice none 0 0,(xA 8)⟩:aK)) .box .id sz87k1 rfl rfl rdV rfl<|pn<|pd rfl<|tn<|sr<|oF fb24k1 rfl<|oI kt3 rfl<|b_ rfl<|oM xQ rfl<|oM oe rfl<|sP (x':=(⟨({y7.1.Header with Left:=IntKind.wrap .i64 (a0.Left - 1)}:aa),(y7.1.Cells.length:Int),.slice none 0 0,(xA 8)⟩:aK)) .box (.fld (.fld .id kN) eU) sz3k rfl rfl rdI rfl<|nt<|sq<|afr (r:=cA) (fun cA=>[(8,pb b1),(9,pb b2),(10,.ptr aN y3),(16,.val K6 mA),(17,.val K6 nA.1),(19,.raw (.pointer (some ⟨(vblk (xA 10)),0,none⟩)))]) (fun cA=>((.box aN b1 37 (⟨[],(⟨(0:Int),(⟨(0:Int),[]⟩:ab)⟩:aD),(⟨(0:Int),(0:Int),(0:Int),(0:Int),(0:Int)⟩:ai),(0:Int),(0:Int)⟩:aJ))::(.box aQ b2 87 (⟨(⟨(0:Int),(0:Int),(0:Int)⟩:aa),(0:Int),[],[]⟩:aI))::(.own K2 (xA 8) 64 cA)::(.box cc (vblk (xA 10)) 87 (⟨({y7.1.Header with Left:=IntKind.wrap .i64 (a0.Left - 1)}:aa),(y7.1.Cells.length:Int),.slice none 0 0,(xA 8)⟩:aK))::L)) ?_ fun K wC=>?_
  ·refine bs hF fun bA qA hF=>sq<|afr (r:=bA) (fun bA=>[(8,pb b1),(9,pb b2),(10,.ptr aN y3),(19,.ptr aQ bA)]) (fun bA=>((.box aN b1 37 (⟨[],(⟨(0:Int),(⟨(0:Int),[]⟩:ab)⟩:aD),(⟨(0:Int),(0:Int),(0:Int),(0:Int),(0:Int)⟩:ai),(0:Int),(0:Int)⟩:aJ))::(.box aQ b2 87 (⟨(⟨(0:Int),(0:Int),(0:Int)⟩:aa),(0:Int),[],[]⟩:aI))::L)) ?_ fun K zB=>?_
   ·refine sq<|ph rfl<|f1<|Under.grpT (L:=L) [0,1,2] [[10],[19],[8,126]] [⟨sk0 (.val aN y3),[],[],[]⟩,⟨sk0 (.val aQ bA),[],[],[]⟩,⟨sk0 (.raw undef),[0],[(1,tk0 (.box aN b1 37 y3))],[]⟩] [(0,.box aN b1 37 (⟨[],(⟨(0:Int),(⟨(0:Int),[]⟩:ab)⟩:aD),(⟨(0:Int),(0:Int),(0:Int),(0:Int),(0:Int)⟩:ai),(0:Int),(0:Int)⟩:aJ))] (fun T:List Res=>(.box aQ b2 87 (⟨(⟨(0:Int),(0:Int),(0:Int)⟩:aa),(0:Int),[],[]⟩:aI))::T) lf1 rfl (by kernel_rfl) rfl rfl (fun F hF0 bC=>?_)
    refine Tq.v (fun G T hG=>?_) ?_
    ·exact oL kt37 rfl<|Tq.end undef rfl rfl
    refine Tq.v (fun G T hG=>?_) ?_
    ·exact oL kt87 rfl<|Tq.end undef rfl rfl
    refine Tq.st0 [.box aN b1 37 (⟨[],(⟨(0:Int),(⟨(0:Int),[]⟩:ab)⟩:aD),(⟨(0:Int),(0:Int),(0:Int),(0:Int),(0:Int)⟩:ai),(0:Int),(0:Int)⟩:aJ)] rfl (fun G T hG=>?_) ?_
    ·exact sP (x':=y3) .box .id sz37k rfl rfl rdV rfl<|Tq.end0 undef rfl
    refine Tq.nil<|Under.le hF0<|p1 3 rfl rfl<|sP (x':=bA) .box .id sz87k rfl rfl rdV rfl<|pn<|pd rfl<|fz (t:=9) rfl<|fz (t:=8) rfl<|tn<|rc ?_
    cases osi hF
    exact rs Tryz.results42 (.ce rfl kt37 (.ce rfl kt87 .nil)) rfl rfl
   ·refine bs qA fun gC hB qA=>sr<|m_ rfl<|oN Tryz.underlying68 rfl<|m_ rfl<|nt<|bk<|Under.ownNil (K:=kInt .i64) (e:=3)<|f4<|f4<|f2<|f4<|f4<|lp hB (C:=Value) (.slice none 0 0) (fun vA dA=>[(8,pb b1),(9,pb b2),(10,.ptr aN y3),(16,.val K6 mA),(19,.raw (.pointer (some ⟨(vblk (xA 10)),0,none⟩))),(101,.val K6 nA.1),(102,.raw (.int .i64 (nA.1.length:Int))),(103,.raw (.int .i64 vA.1))]) (fun vA dA=>(.box aN b1 37 (⟨[],(⟨(0:Int),(⟨(0:Int),[]⟩:ab)⟩:aD),(⟨(0:Int),(0:Int),(0:Int),(0:Int),(0:Int)⟩:ai),(0:Int),(0:Int)⟩:aJ))::(.box aQ b2 87 (⟨(⟨(0:Int),(0:Int),(0:Int)⟩:aa),(0:Int),[],[]⟩:aI))::(.own K8 dA 3 vA.2)::(.own K2 (xA 8) 64 cA)::(.box cc (vblk (xA 10)) 87 (⟨({y7.1.Header with Left:=IntKind.wrap .i64 (a0.Left - 1)}:aa),(y7.1.Cells.length:Int),dA,(xA 8)⟩:aK))::L) rfl rfl fun vA dA mC hA bB=>?_
    obtain⟨vB,pA⟩:=vA
    dsimp only at hA⊢
    refine sr<|b_ rfl<|nt<|sq<|it hA rfl (fun hA=>?_) (fun hA=>?_)
    ·refine bs hA fun oB zA hA=>ct<|sq<|Under.after (fun X=>∀(rA:List Int) (eA:Value),oB=rA→Under F0 128 [(8,pb b1),(9,pb b2),(10,.ptr aN y3),(16,.val K6 mA),(19,.raw (.pointer (some ⟨(vblk (xA 10)),0,none⟩))),(101,.val K6 nA.1),(102,.raw (.int .i64 (nA.1.length:Int))),(103,.raw (.int .i64 vB))] ((.box aN b1 37 (⟨[],(⟨(0:Int),(⟨(0:Int),[]⟩:ab)⟩:aD),(⟨(0:Int),(0:Int),(0:Int),(0:Int),(0:Int)⟩:ai),(0:Int),(0:Int)⟩:aJ))::(.box aQ b2 87 (⟨(⟨(0:Int),(0:Int),(0:Int)⟩:aa),(0:Int),[],[]⟩:aI))::(.own K8 eA 3 rA)::(.own K2 (xA 8) 64 cA)::(.box cc (vblk (xA 10)) 87 (⟨({y7.1.Header with Left:=IntKind.wrap .i64 (a0.Left - 1)}:aa),(y7.1.Cells.length:Int),eA,(xA 8)⟩:aK))::L) X) ?_ ?_
     ·intro rA eA wA
      replace wA:=wA.symm
      subst wA
      exact rg<|b_ rfl<|m_ rfl<|nl<|nx eA hA rfl rfl
     ·intro K tA
      refine bs zA fun nC kB zA=>bk<|sr<|oS kB Tryz.underlying68 sz3 rfl<|oI kt3 rfl<|a_ rfl<|ns<|m_ rfl<|m_ rfl<|oN Tryz.underlying68 rfl<|b_ rfl<|nt<|it zA rfl (fun zA=>?_) (fun zA=>?_)
      ·exact bs zA fun dB eB zA=>bs zA fun pC cB zA=>ph rfl<|gV [0,1,2,3,4,5,6] [[19],[111],[16],[23],[113,114],[115],[116]] 5 (by kernel_rfl) rfl<|vo (fun _=>OpV.fdM re rfl) rfl<|Vq.v (fun G T hG=>f4<|lP .box (.fld .id dW) kt68k rfl rfl<|Under.rawR (t:=112) rfl<|f4<|f4<|f4<|f4<|Vq.end rfl)<|vm_ rfl<|vm_ rfl<|vo (fun _=>OpV.ixS eB Tryz.underlying68 sz3 rfl rdV rfl) rfl<|vo (fun _=>OpV.ldI kt3 rfl) rfl<|Vq.v (fun G T hG=>bF (ys:=[dB]) Tryz.underlying68 ET3 (BldA.cons rfl rfl rdI (BldA.nil _)) rfl rfl<|Vq.end rfl)<|vn<|p1 7 rfl rfl<|f2<|ap cB Tryz.underlying68 AT3 rfl rfl rdV rfl fun qB=>pn<|p1 8 rfl rfl<|oM re rfl<|pn<|p1 9 rfl rfl<|Under.ownCell fun rB=>f4<|sP (x':=(⟨({y7.1.Header with Left:=IntKind.wrap .i64 (a0.Left - 1)}:aa),(y7.1.Cells.length:Int),qB,(xA 8)⟩:aK)) .box (.fld .id dW) sz68k1 rfl rfl (eW rB) rfl<|pn<|pd rfl<|bN<|tn<|f4<|f2<|f4<|f4<|wr (tA _ _ (osi zA).symm) rfl
      ·exact bs zA fun tC wB zA=>rg<|oM re rfl<|f4<|lP .box (.fld .id dW) kt68k rfl rfl<|Under.rawR (t:=121) rfl<|bF (ys:=[(-1)]) Tryz.underlying68 ET3 (BldA.cons rfl rfl rdI (BldA.nil _)) rfl rfl<|f3<|ap wB Tryz.underlying68 AT3 rfl rfl rdV rfl fun gB=>oM re rfl<|Under.ownCell fun mB=>f1<|sP (x':=(⟨({y7.1.Header with Left:=IntKind.wrap .i64 (a0.Left - 1)}:aa),(y7.1.Cells.length:Int),gB,(xA 8)⟩:aK)) .box (.fld .id dW) sz68k1 rfl rfl (eW mB) rfl<|nl<|bN<|tn<|f4<|f2<|f4<|f4<|wr (tA _ _ (osi zA).symm) rfl
    ·refine f4<|f3<|Under.frzBO (fs:=km) (⟨({y7.1.Header with Left:=IntKind.wrap .i64 (a0.Left - 1)}:aa),(y7.1.Cells.length:Int),pA,(xA 8)⟩:ea) (fun F hv=>⟨fun _ h=>h,fun _ h=>h,jh hv,fun _ h=>h,trivial⟩)<|f3<|Under.frzBO (fs:=dU) (⟨({y7.1.Header with Left:=IntKind.wrap .i64 (a0.Left - 1)}:aa),(y7.1.Cells.length:Int),pA,cA⟩:aI) (fun F hv=>⟨fun _ h=>h,fun _ h=>h,fun _ h=>h,jh hv,trivial⟩)<|fz (t:=19) rfl<|xt<|te ?_
     cases aj hA bB
     exact te<|bh<|tn<|wr (zB _ (osi qA).symm) rfl
  ·refine bs yB fun uC nB yB=>sr<|m_ rfl<|oN Tryz.underlying68 rfl<|m_ rfl<|nt<|bk<|f3<|f2<|f3<|lp nB () (fun oA uA=>[(8,pb b1),(9,pb b2),(10,.ptr aN y3),(11,.ptr aV y7.1),(16,.val K6 mA),(17,.val K6 nA.1),(19,.raw (.pointer (some ⟨(vblk (xA 10)),0,none⟩))),(83,.val K6 mA),(84,.raw (.int .i64 (mA.length:Int))),(85,.raw (.int .i64 oA.1))]) (fun oA uA=>(.box aN b1 37 (⟨[],(⟨(0:Int),(⟨(0:Int),[]⟩:ab)⟩:aD),(⟨(0:Int),(0:Int),(0:Int),(0:Int),(0:Int)⟩:ai),(0:Int),(0:Int)⟩:aJ))::(.box aQ b2 87 (⟨(⟨(0:Int),(0:Int),(0:Int)⟩:aa),(0:Int),[],[]⟩:aI))::(.own K2 (xA 8) 64 oA.2)::(.box cc (vblk (xA 10)) 87 (⟨({y7.1.Header with Left:=IntKind.wrap .i64 (a0.Left - 1)}:aa),(y7.1.Cells.length:Int),.slice none 0 0,(xA 8)⟩:aK))::L) rfl rfl fun oA uA xD yA pB=>?_
   obtain⟨yD,tB⟩:=oA
   dsimp only at yA⊢
   refine sr<|b_ rfl<|nt<|sq<|it yA rfl (fun yA=>?_) (fun yA=>?_)
   ·refine bs yA fun uB xC yA=>bs yA fun yC gA yA=>bs yA fun zC hC yA=>gs yA fun kA yA=>ct<|sq<|bk<|sr<|oS xC Tryz.underlying68 sz3 rfl<|oI kt3 rfl<|a_ rfl<|nl<|tn ?_
    replace kA:(Int.toNat 0)≤(Int.toNat 16)∧(Int.toNat 16)≤16:=of_decide_eq_true kA
    exact ph rfl<|gV [0,1,2,3,4,5,6,7,8,9] [[19],[89],[21],[90,91],[92],[11],[94],[21],[95,96],[97]] 4 (by kernel_rfl) rfl<|vo (fun _=>OpV.fdM xR rfl) rfl<|Vq.v (fun G T hG=>f3<|lP .box (.fld .id kO) kt85k1 rfl rfl<|Under.rawR (t:=90) rfl<|f3<|f3<|f3<|Vq.end rfl)<|vm_ rfl<|Vq.v (fun G T hG=>f2<|ov (OpV.ixO gA Tryz.underlying85 sz64k rfl rfl) rfl<|f3<|f1<|f3<|f3<|Vq.end rfl)<|Vq.v (fun G T hG=>ov (OpV.slP (l:=0) (h:=16) Tryz.underlying64 sz5k rfl rfl rfl (by decide) (by decide) (by decide)) rfl<|Vq.end rfl)<|vo (fun _=>OpV.fd fb46k1 rfl rfl) rfl<|vo (fun _=>OpV.ld kt44 rfl) rfl<|vm_ rfl<|vo (fun _=>OpV.ixS hC Tryz.underlying44 sz22 rfl rdV rfl) rfl<|vo (fun _=>OpV.ld kt22 rfl) rfl<|vn<|p1 10 rfl rfl<|f2<|Under.cpB (x':=List.set tB (Int.toNat uB) (over yC (Int.toNat 0) (Int.toNat 16) zC)) (.own gA) (.ix .id gA) (And.left kA) (And.right kA) (na (And.right kA)) Tryz.underlying22 sz5k rfl rfl (.sl rdV) rfl rfl<|pn<|pd rfl<|bN<|tn<|rg<|b_ rfl<|m_ rfl<|nl<|f3<|f1<|f3<|f3<|nx () yA rfl rfl
   ·refine xt<|te ?_
    cases aj yA pB
    exact te<|bh<|tn<|wr (wC _ (osi yB).symm) rfl
noncomputable def fF (a0:aI):Option Int:=
 bif (((decide (a0.Count<0))||(decide (a0.Count>256)))||(decide ((a0.From.length:Int)>256)))||((a0.Nonces.length:Int) != a0.Count) then
  some 290
 else
  bif (((((decide (a0.Header.Left<0))||(decide (a0.Header.Left≥8)))||(decide (a0.Header.Round<0)))||(decide (a0.Header.Round>4611686018427387903)))||(decide (a0.Header.Epoch<0)))||(decide (a0.Header.Epoch>4611686018427387904)) then
   some 290
  else
   bif mkB a0.Count a0.Count then
   (((Loop.run (S := ((List Bool) × Int)) (R := (Unit ⊕ Int)) (fun (yA, zA) =>
     bif decide (zA<(a0.From.length:Int)) then
      (((idx a0.From zA).bind fun xA=>
      bif xA==(-1) then
       some (.inr yA)
      else
       ((bif (decide (xA<0))||(decide (xA≥a0.Count)) then
        some true
       else
        (idx yA xA).bind fun hA=>
        some hA
        :Option Bool)).bind fun bA=>
       bif bA then
        some (.inl 290)
       else
        (idx yA xA).bind fun eA=>
        some (.inr (List.set yA (Int.toNat xA) true))
       : Option (Int ⊕ (List Bool)))).bind fun vA => match vA with
       | .inl z=>
        some (.done (.inr z))
       | .inr oA=>
        some (.next (oA,IntKind.wrap .i64 (zA+1)))
     else
      some (.done (.inl ()))) (List.replicate (Int.toNat a0.Count) false,0)).bind fun kA=>match kA with
    | .inl _=>
     some (.inr ())
    | .inr z=>
     some (.inl z)
    : Option (Int ⊕ Unit))).bind fun dA => match dA with
    | .inl z=>
     some z
    | .inr _=>
     some 0
   else none
theorem o119 {a0:aI} {r0:Int} (hF:fF a0=some r0) (L:List Res):Ok Tryz.prog 45 [SV.val aQ a0] L (SV.raw (.int .i64 r0)) L:=by
 unfold fF at hF
 refine okI 89 Tryz.func45 rfl rfl rfl fun F0=>?_
 refine sr<|bX (K:=aQ) rfl rdV rfl<|a_ rfl<|ns<|oF fb87k1 rfl<|oL kt43 rfl<|al ZT43 rfl fun b1=>sP (x':=a0.Header) .box .id sz43k rfl rfl rdV rfl<|nl<|fz (t:=3) rfl<|tn<|sq<|sr<|oF fb87k rfl<|oI kt3 rfl<|b_ rfl<|m_ rfl<|cq 16 ((decide (a0.Count<0))||(decide (a0.Count>256))) ?_ (fun k=>?_)
 ·refine m_ rfl<|iz 22 (((decide (a0.Count<0))||(decide (a0.Count>256)))||(decide ((a0.From.length:Int)>256))) ?_ (fun k=>?_)
  ·refine m_ rfl<|xS 30 ((((decide (a0.Count<0))||(decide (a0.Count>256)))||(decide ((a0.From.length:Int)>256)))||((a0.Nonces.length:Int) != a0.Count)) ?_ (fun k=>?_)
   ·refine nt<|it hF rfl (fun hF=>?_) (fun hF=>?_)
    ·refine sr<|a_ rfl<|nt<|rt ?_
     cases osi hF
     exact rs Tryz.results45 (.tm rfl .nil) rfl rfl
    ·refine ct<|sq<|sr<|oF fb43k rfl<|oI kt3 rfl<|b_ rfl<|m_ rfl<|cq 38 ((decide (a0.Header.Left<0))||(decide (a0.Header.Left≥8))) ?_ (fun k=>?_)
     ·refine m_ rfl<|cq 43 (((decide (a0.Header.Left<0))||(decide (a0.Header.Left≥8)))||(decide (a0.Header.Round<0))) ?_ (fun k=>?_)
      ·refine m_ rfl<|cq 48 ((((decide (a0.Header.Left<0))||(decide (a0.Header.Left≥8)))||(decide (a0.Header.Round<0)))||(decide (a0.Header.Round>4611686018427387903))) ?_ (fun k=>?_)
       ·refine m_ rfl<|cq 53 (((((decide (a0.Header.Left<0))||(decide (a0.Header.Left≥8)))||(decide (a0.Header.Round<0)))||(decide (a0.Header.Round>4611686018427387903)))||(decide (a0.Header.Epoch<0))) ?_ (fun k=>?_)
        ·refine m_ rfl<|cq 58 ((((((decide (a0.Header.Left<0))||(decide (a0.Header.Left≥8)))||(decide (a0.Header.Round<0)))||(decide (a0.Header.Round>4611686018427387903)))||(decide (a0.Header.Epoch<0)))||(decide (a0.Header.Epoch>4611686018427387904))) ?_ (fun k=>?_)
         ·refine nt<|it hF rfl (fun hF=>?_) (fun hF=>?_)
          ·refine sr<|a_ rfl<|nt<|rt ?_
           cases osi hF
           exact rs Tryz.results45 (.tm rfl .nil) rfl rfl
          ·refine gs hF fun cB hF=>bs hF fun zB qA hF=>ct<|sr<|oF fb87k rfl<|oI kt3 rfl<|Under.mk cB Tryz.underlying106 AT4 rfl rfl rfl fun yB=>a_ rfl<|nt<|sq<|Under.after (fun X=>∀(_:Unit),zB=(.inr ())→Under F0 89 [] (L) X) ?_ ?_
           ·intro _ wA
            replace wA:=wA.symm
            subst wA
            refine sr<|a_ rfl<|nt<|rc ?_
            cases osi hF
            exact rs Tryz.results45 (.tm rfl .nil) rfl rfl
           ·intro K hB
            refine bs qA fun qB bB qA=>sr<|oF fb87k2 rfl<|oL kt68 rfl<|oN Tryz.underlying68 rfl<|m_ rfl<|nt<|bk<|lp bB () (fun vA tA=>[(1,.ptr aQ a0),(4,.raw yB),(63,.val K6 a0.From),(64,.raw (.int .i64 (a0.From.length:Int))),(65,.raw (.int .i64 vA.2))]) (fun vA tA=>(.own fw yB 4 vA.1)::L) rfl rfl fun vA tA rB hA uA=>?_
            obtain⟨vB,oB⟩:=vA
            dsimp only at hA⊢
            refine sr<|b_ rfl<|nt<|sq<|it hA rfl (fun hA=>?_) (fun hA=>?_)
            ·refine bs hA fun kB xA hA=>ct<|sq<|Under.after (fun X=>∀(gA:List Bool),kB=(.inr gA)→Under F0 89 [(1,.ptr aQ a0),(4,.raw yB),(63,.val K6 a0.From),(64,.raw (.int .i64 (a0.From.length:Int))),(65,.raw (.int .i64 oB))] ((.own fw yB 4 gA)::L) X) ?_ ?_
             ·intro gA mA
              replace mA:=mA.symm
              subst mA
              exact rg<|b_ rfl<|m_ rfl<|nl<|nx () hA rfl rfl
             ·intro K xB
              refine bs xA fun rA dB xA=>bk<|sr<|oS dB Tryz.underlying68 sz3 rfl<|oI kt3 rfl<|a_ rfl<|nt<|sq<|sr<|mb rfl<|nt<|it xA rfl (fun xA=>?_) (fun xA=>?_)
              ·exact xt<|te<|bh<|tn<|wr (xB _ (osi xA).symm) rfl
              ·refine ct<|sq<|sr<|mb rfl<|m_ rfl<|iz 78 ((decide (rA<0))||(decide (rA≥a0.Count))) ?_ (fun k=>?_)
               ·refine bs xA fun eB bA xA=>m_ rfl<|iz 84 eB ?_ (fun k=>?_)
                ·refine nt<|it xA rfl (fun xA=>?_) (fun xA=>?_)
                 ·refine dr<|sr<|a_ rfl<|nt<|rt<|Under.bR<|tr ?_
                  cases osi xA
                  cases aj hA uA
                  refine tr<|Under.bR<|tr ?_
                  cases osi qA
                  cases osi hF
                  exact rs Tryz.results45 (.tm rfl .nil) rfl rfl
                 ·exact bs xA fun wB nA xA=>ct<|rg<|m_ rfl<|m_ rfl<|ov (OpV.ixO nA Tryz.underlying106 sz4k rfl rfl) rfl<|sP (x':=List.set vB (Int.toNat rA) true) (.own nA) (.ix .id nA) sz4k rfl rfl rdB rfl<|nl<|bN<|tn<|wr (xB _ (osi xA).symm) rfl
                ·refine by_ (t:=79) rfl (fun yA=>?_) (fun yA=>?_)
                 ·replace bA:=ctrue yA bA
                  exact sk_ yA rfl<|sk_ yA rfl<|sk_ yA rfl<|sk_ yA rfl<|pT yA rfl<|rf 4 (rbq bA) rfl k
                 ·replace bA:=cfalse yA bA
                  exact bs bA fun gB pA bA=>gc_ yA rfl<|m_ rfl<|gc_ yA rfl<|m_ rfl<|gc_ yA rfl<|ov (OpV.ixO pA Tryz.underlying106 sz4k rfl rfl) rfl<|gc_ yA rfl<|lP (.own pA) (.ix .id pA) kt4k rfl rfl<|Under.rawB (t:=83) rfl<|pF yA rfl<|rf 5 (rbq bA) rfl k
               ·refine by_ (t:=73) rfl (fun zA=>?_) (fun zA=>?_)
                ·exact sk_ zA rfl<|sk_ zA rfl<|sk_ zA rfl<|sk_ zA rfl<|pT zA rfl<|rf 4 (or_t (e:=decide (rA≥a0.Count)) zA) rfl k
                ·exact gc_ zA rfl<|m_ rfl<|gc_ zA rfl<|oF fb87k rfl<|gc_ zA rfl<|oI kt3 rfl<|gc_ zA rfl<|b_ rfl<|pF zA rfl<|rf 4 (or_f zA) rfl k
            ·refine dr<|xt<|te ?_
             cases aj hA uA
             exact te<|bh<|tn<|wr (hB () (osi qA).symm) rfl
         ·refine by_ (t:=54) rfl (fun oA=>?_) (fun oA=>?_)
          ·exact sk_ oA rfl<|sk_ oA rfl<|sk_ oA rfl<|pT oA rfl<|rf 3 (or_t (e:=decide (a0.Header.Epoch>4611686018427387904)) oA) rfl k
          ·exact gc_ oA rfl<|oF fb43k2 rfl<|gc_ oA rfl<|oI kt2 rfl<|gc_ oA rfl<|b_ rfl<|pF oA rfl<|rf 3 (or_f oA) rfl k
        ·refine by_ (t:=49) rfl (fun kA=>?_) (fun kA=>?_)
         ·exact sk_ kA rfl<|sk_ kA rfl<|sk_ kA rfl<|pT kA rfl<|rf 3 (or_t (e:=decide (a0.Header.Epoch<0)) kA) rfl k
         ·exact gc_ kA rfl<|oF fb43k2 rfl<|gc_ kA rfl<|oI kt2 rfl<|gc_ kA rfl<|b_ rfl<|pF kA rfl<|rf 3 (or_f kA) rfl k
       ·refine by_ (t:=44) rfl (fun dA=>?_) (fun dA=>?_)
        ·exact sk_ dA rfl<|sk_ dA rfl<|sk_ dA rfl<|pT dA rfl<|rf 3 (or_t (e:=decide (a0.Header.Round>4611686018427387903)) dA) rfl k
        ·exact gc_ dA rfl<|oF fb43k1 rfl<|gc_ dA rfl<|oI kt2 rfl<|gc_ dA rfl<|b_ rfl<|pF dA rfl<|rf 3 (or_f dA) rfl k
      ·refine by_ (t:=39) rfl (fun eA=>?_) (fun eA=>?_)
       ·exact sk_ eA rfl<|sk_ eA rfl<|sk_ eA rfl<|pT eA rfl<|rf 3 (or_t (e:=decide (a0.Header.Round<0)) eA) rfl k
       ·exact gc_ eA rfl<|oF fb43k1 rfl<|gc_ eA rfl<|oI kt2 rfl<|gc_ eA rfl<|b_ rfl<|pF eA rfl<|rf 3 (or_f eA) rfl k
     ·refine by_ (t:=34) rfl (fun cA=>?_) (fun cA=>?_)
      ·exact sk_ cA rfl<|sk_ cA rfl<|sk_ cA rfl<|pT cA rfl<|rf 3 (or_t (e:=decide (a0.Header.Left≥8)) cA) rfl k
      ·exact gc_ cA rfl<|oF fb43k rfl<|gc_ cA rfl<|oI kt3 rfl<|gc_ cA rfl<|b_ rfl<|pF cA rfl<|rf 3 (or_f cA) rfl k
   ·refine by_ (t:=23) rfl (fun c8=>?_) (fun c8=>?_)
    ·exact sk_ c8 rfl<|sk_ c8 rfl<|sk_ c8 rfl<|sk_ c8 rfl<|sk_ c8 rfl<|sk_ c8 rfl<|pT c8 rfl<|rf 6 (or_t (e:=(a0.Nonces.length:Int) != a0.Count) c8) rfl k
    ·exact gc_ c8 rfl<|oF fb87k3 rfl<|gc_ c8 rfl<|oL kt85 rfl<|gc_ c8 rfl<|oN Tryz.underlying85 rfl<|gc_ c8 rfl<|oF fb87k rfl<|gc_ c8 rfl<|oI kt3 rfl<|gc_ c8 rfl<|b_ rfl<|pF c8 rfl<|rf 6 (or_f c8) rfl k
  ·refine by_ (t:=17) rfl (fun c5=>?_) (fun c5=>?_)
   ·exact sk_ c5 rfl<|sk_ c5 rfl<|sk_ c5 rfl<|sk_ c5 rfl<|pT c5 rfl<|rf 4 (or_t (e:=decide ((a0.From.length:Int)>256)) c5) rfl k
   ·exact gc_ c5 rfl<|oF fb87k2 rfl<|gc_ c5 rfl<|oL kt68 rfl<|gc_ c5 rfl<|oN Tryz.underlying68 rfl<|gc_ c5 rfl<|b_ rfl<|pF c5 rfl<|rf 4 (or_f c5) rfl k
 ·refine by_ (t:=12) rfl (fun c2=>?_) (fun c2=>?_)
  ·exact sk_ c2 rfl<|sk_ c2 rfl<|sk_ c2 rfl<|pT c2 rfl<|rf 3 (or_t (e:=decide (a0.Count>256)) c2) rfl k
  ·exact gc_ c2 rfl<|oF fb87k rfl<|gc_ c2 rfl<|oI kt3 rfl<|gc_ c2 rfl<|b_ rfl<|pF c2 rfl<|rf 3 (or_f c2) rfl k
noncomputable def f9 (a0:List Int):Option ((List Int)×Bool×Int):=
 bif (a0.length:Int) != 320 then
  some ([],false,50)
 else
  (idx a0 0).bind fun x2=>
  bif x2==0 then
   some ([],false,0)
  else
   bif x2==1 then
    (idx a0 1).bind fun x5=>
    bif decide ((IntKind.wrap .i64 x5)>48) then
     some ([],false,53)
    else
     (sub a0 (IntKind.wrap .i64 (2+(IntKind.wrap .i64 x5))) (a0.length:Int)).bind fun x8=>
     (el x8).bind fun xA=>
     bif !xA then
      some ([],false,51)
     else
      (sub a0 2 (IntKind.wrap .i64 (2+(IntKind.wrap .i64 x5)))).bind fun yA=>
      (app [] yA).bind fun zA=>
      some (zA,true,0)
   else
    some ([],false,52)
theorem o120 {a0:List Int} {r0:((List Int)×Bool×Int)} (hF:f9 a0=some r0) (L:List Res):Ok Tryz.prog 106 [SV.val K7 a0] L (SV.tup [SV.val K7 r0.1,SV.raw (.bool r0.2.1),SV.raw (.int .i64 r0.2.2)]) L:=by
 unfold f9 at hF
 refine okI 33 Tryz.func106 rfl rfl rfl fun F0=>?_
 refine sr<|a_ rfl<|a_ rfl<|a_ rfl<|nt<|sq<|sr<|m_ rfl<|oN Tryz.underlying22 rfl<|b_ rfl<|nt<|it hF rfl (fun hF=>?_) (fun hF=>?_)
 ·refine sr<|a_ rfl<|a_ rfl<|a_ rfl<|nt<|rt<|tV (K:=kSl K10) (x:=[]) (t:=2) rfl rdN ?_
  cases osi hF
  exact rs Tryz.results106 (.tm rfl (.tm rfl (.tm rfl .nil))) rfl rfl
 ·refine bs hF fun x2 h3 hF=>ct<|sq<|sr<|m_ rfl<|oS h3 Tryz.underlying22 sz5 rfl<|oI kt5 rfl<|nt<|bk<|sr<|b_ rfl<|a_ rfl<|nt<|it hF rfl (fun hF=>?_) (fun hF=>?_)
  ·refine sr<|a_ rfl<|a_ rfl<|a_ rfl<|nt<|rc<|Under.bR<|tr<|tV (K:=kSl K10) (x:=[]) (t:=2) rfl rdN ?_
   cases osi hF
   exact rs Tryz.results106 (.tm rfl (.tm rfl (.tm rfl .nil))) rfl rfl
  ·refine sr<|b_ rfl<|a_ rfl<|nt<|it hF rfl (fun hF=>?_) (fun hF=>?_)
   ·refine bs hF fun x5 h6 hF=>cs<|bN<|tn<|sr<|m_ rfl<|oS h6 Tryz.underlying22 sz5 rfl<|oI kt5 rfl<|oC (by kernel_rfl) Tryz.underlying3 rfl<|a_ rfl<|nt<|sq<|sr<|mb rfl<|nt<|it hF rfl (fun hF=>?_) (fun hF=>?_)
    ·refine sr<|a_ rfl<|a_ rfl<|a_ rfl<|nt<|rt<|tV (K:=kSl K10) (x:=[]) (t:=2) rfl rdN ?_
     cases osi hF
     exact rs Tryz.results106 (.tm rfl (.tm rfl (.tm rfl .nil))) rfl rfl
    ·refine bs hF fun x8 h9 hF=>bs hF fun hA xA hF=>ct<|sq<|sr<|m_ rfl<|mb rfl<|ov (OpV.slL h9 Tryz.underlying22 sz5 rfl rdV rfl) rfl<|cx Tryz.call160 rfl (o42 xA _)<|ov (OpV.not rfl) rfl<|nt<|it hF rfl (fun hF=>?_) (fun hF=>?_)
     ·refine sr<|a_ rfl<|a_ rfl<|a_ rfl<|nt<|rt<|tV (K:=kSl K10) (x:=[]) (t:=2) rfl rdN ?_
      cases osi hF
      exact rs Tryz.results106 (.tm rfl (.tm rfl (.tm rfl .nil))) rfl rfl
     ·refine bs hF fun bA yA hF=>bs hF fun vA zA hF=>ct<|sr<|m_ rfl<|mb rfl<|ov (OpV.slLH yA Tryz.underlying22 sz5 rfl rdV rfl rfl) rfl<|Under.ownNil (K:=kInt .u8) (e:=5)<|ap zA Tryz.underlying22 AT5 rfl rfl rdV rfl fun oA=>a_ rfl<|a_ rfl<|a_ rfl<|nl<|fzO (t:=2) rfl<|tn<|rc ?_
      cases osi hF
      exact rs Tryz.results106 (.tm rfl (.tm rfl (.tm rfl .nil))) rfl rfl
   ·refine sr<|a_ rfl<|a_ rfl<|a_ rfl<|nt<|rc<|Under.bR<|tr<|tV (K:=kSl K10) (x:=[]) (t:=2) rfl rdN ?_
    cases osi hF
    exact rs Tryz.results106 (.tm rfl (.tm rfl (.tm rfl .nil))) rfl rfl
noncomputable def fL (a0:List Int) (a1:Int):Option ((List Int)×Bool):=
 bif a1==1 then
  (f9 a0).bind fun y1=>
  some (y1.1,y1.2.1&&(y1.2.2==0))
 else
  (((Loop.run (S:=(Bool×Int)) (R:=Bool) (fun(yA,xA)=>
    bif decide (xA<(a0.length:Int)) then
     (idx a0 xA).bind fun hA=>
     some (.next (yA&&(hA==0),IntKind.wrap .i64 (xA+1)))
    else
     some (.done yA)) (true,0)).bind fun bA=>
  some bA
   :Option Bool)).bind fun vA=>
  bif vA then
   some ([],false)
  else
   (cK (IntKind.wrap .i64 (a1 - 1))).bind fun oA=>
   (fW a0 oA).bind fun zA=>
   some (zA.1,zA.2==0)
theorem o121 {a0:List Int} {a1:Int} {r0:((List Int)×Bool)} (hF:fL a0 a1=some r0) (L:List Res):Ok Tryz.prog 156 [SV.val K7 a0,SV.raw (.int .i64 a1)] L (SV.tup [SV.val K7 r0.1,SV.raw (.bool r0.2)]) L:=by
 unfold fL at hF
 refine okI 52 Tryz.func156 rfl rfl rfl fun F0=>?_
 refine sr<|a_ rfl<|a_ rfl<|nt<|sq<|sr<|mb rfl<|nt<|it hF rfl (fun hF=>?_) (fun hF=>?_)
 ·refine bs hF fun y1 h2 hF=>sr<|m_ rfl<|cx Tryz.call106 rfl (o120 h2 _)<|m_ rfl<|oE rfl<|oE rfl<|oE rfl<|a_ rfl<|a_ rfl<|a_ rfl<|ns<|m_ rfl<|m_ rfl<|m_ rfl<|cr 27 (y1.2.1&&(y1.2.2==0)) ?_ (fun k=>?_)
  ·refine a_ rfl<|a_ rfl<|nt<|rt ?_
   cases osi hF
   exact rs Tryz.results156 (.tm rfl (.tm rfl .nil)) rfl rfl
  ·refine by_ (t:=24) rfl (fun c3=>?_) (fun c3=>?_)
   ·exact gc_ c3 rfl<|m_ rfl<|gc_ c3 rfl<|b_ rfl<|pT c3 rfl<|rf 2 (iF c3) rfl k
   ·exact sk_ c3 rfl<|sk_ c3 rfl<|pF c3 rfl<|rf 2 (iG (e:=y1.2.2==0) c3) rfl k
 ·refine bs hF fun hA bA hF=>ct<|sr<|a_ rfl<|nt<|sq<|afr (r:=hA) (fun hA=>[(0,.val K7 a0),(1,.raw (.int .i64 a1)),(9,.raw (.bool hA))]) (fun hA=>(L)) ?_ fun K kA=>?_
  ·refine sq<|sr<|m_ rfl<|nt<|it hF rfl (fun hF=>?_) (fun hF=>?_)
   ·refine sr<|a_ rfl<|a_ rfl<|nt<|rt<|tV (K:=kSl K10) (x:=[]) (t:=4) rfl rdN ?_
    cases osi hF
    exact rs Tryz.results156 (.tm rfl (.tm rfl .nil)) rfl rfl
   ·refine bs hF fun gA dA hF=>bs hF fun mA eA hF=>ct<|sr<|m_ rfl<|mb rfl<|cx Tryz.call79 rfl (o41 dA _)<|cx Tryz.call98 rfl (o43 eA _)<|m_ rfl<|oE rfl<|oE rfl<|a_ rfl<|a_ rfl<|ns<|m_ rfl<|mb rfl<|a_ rfl<|a_ rfl<|nt<|rc ?_
    cases osi hF
    exact rs Tryz.results156 (.tm rfl (.tm rfl .nil)) rfl rfl
  ·refine bs bA fun nA cA bA=>sr<|m_ rfl<|oN Tryz.underlying22 rfl<|m_ rfl<|nt<|bk<|lp cA () (fun zA vA=>[(0,.val K7 a0),(1,.raw (.int .i64 a1)),(9,.raw (.bool zA.1)),(28,.val K7 a0),(29,.raw (.int .i64 (a0.length:Int))),(30,.raw (.int .i64 zA.2))]) (fun zA vA=>L) rfl rfl fun zA vA pA yA qA=>?_
   obtain⟨rA,tA⟩:=zA
   dsimp only at yA⊢
   refine sr<|b_ rfl<|nt<|sq<|it yA rfl (fun yA=>?_) (fun yA=>?_)
   ·refine bs yA fun oA wA yA=>ct<|sq<|bk<|sr<|oS wA Tryz.underlying22 sz5 rfl<|oI kt5 rfl<|a_ rfl<|nt<|rg<|m_ rfl<|m_ rfl<|cr 38 (rA&&(oA==0)) ?_ (fun k=>?_)
    ·exact a_ rfl<|nl<|bN<|tn<|rg<|b_ rfl<|m_ rfl<|nl<|nx () yA rfl rfl
    ·refine by_ (t:=35) rfl (fun xA=>?_) (fun xA=>?_)
     ·exact gc_ xA rfl<|m_ rfl<|gc_ xA rfl<|b_ rfl<|pT xA rfl<|rf 2 (iF xA) rfl k
     ·exact sk_ xA rfl<|sk_ xA rfl<|pF xA rfl<|rf 2 (iG (e:=oA==0) xA) rfl k
   ·refine xt<|te ?_
    cases aj yA qA
    exact te<|bh<|tn<|wr (kA _ (osi bA).symm) rfl
noncomputable def ga (a0:List Int) (a1:List Int):Option ((List Int)×Int):=
 bif (a0.length:Int) != 32 then
  some ([],2)
 else
  bif decide (0<[99,104,117,114,110,32,98,97,99,107].length) then
  (eP a0 a1 [99,104,117,114,110,32,98,97,99,107] 32).bind fun y4=>
  some (y4.1,y4.2)
  else none
theorem o122 {a0 a1:List Int} {r0:((List Int)×Int)} (hF:ga a0 a1=some r0) (L:List Res):Ok Tryz.prog 51 [SV.val K7 a0,SV.val K2 a1] L (SV.tup [SV.val K7 r0.1,SV.raw (.int .i64 r0.2)]) L:=by
 unfold ga at hF
 refine okI 16 Tryz.func51 rfl rfl rfl fun F0=>?_
 refine sr<|bX (K:=kArr 16 K10) rfl rdV rfl<|a_ rfl<|a_ rfl<|nt<|sq<|sr<|m_ rfl<|oN Tryz.underlying22 rfl<|b_ rfl<|nt<|it hF rfl (fun hF=>?_) (fun hF=>?_)
 ·refine sr<|a_ rfl<|a_ rfl<|nt<|rt<|tV (K:=kSl K10) (x:=[]) (t:=4) rfl rdN ?_
  cases osi hF
  exact rs Tryz.results51 (.tm rfl (.tm rfl .nil)) rfl rfl
 ·refine gs hF fun h3 hF=>bs hF fun y4 h5 hF=>ct<|sr<|m_ rfl<|ov (OpV.slA Tryz.underlying64 sz5 rfl) rfl<|bO (ys:=[99,104,117,114,110,32,98,97,99,107]) Tryz.underlying22 ET5 (BldA.cons rfl rfl rdI (BldA.cons rfl rfl rdI (BldA.cons rfl rfl rdI (BldA.cons rfl rfl rdI (BldA.cons rfl rfl rdI (BldA.cons rfl rfl rdI (BldA.cons rfl rfl rdI (BldA.cons rfl rfl rdI (BldA.cons rfl rfl rdI (BldA.cons rfl rfl rdI (BldA.nil _))))))))))) rfl rfl fun v2=>Under.cvS Tryz.underlying22 Tryz.underlying5 (of_decide_eq_true h3) rfl rfl<|cx Tryz.call97 rfl (o39 h5 _)<|oE rfl<|oE rfl<|a_ rfl<|a_ rfl<|nt<|rc ?_
  cases osi hF
  exact rs Tryz.results51 (.tm rfl (.tm rfl .nil)) rfl rfl
end Go.Proofs.YtobbmodjdkcdcaaGreatDoor

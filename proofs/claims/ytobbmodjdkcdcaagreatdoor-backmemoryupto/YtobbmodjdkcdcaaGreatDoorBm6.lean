import Derived.Test.YtobbmodjdkcdcaaGreatDoorBm5
set_option linter.unusedVariables false
set_option linter.unusedSimpArgs false
set_option maxRecDepth 20000
namespace Go.Proofs.YtobbmodjdkcdcaaGreatDoor
open Go Go.Sim Go.ChangeShapes Go.WideShapes Go.ChangeAt Go.RowKit
set_option linter.unusedSectionVars false
variable [Fu]
noncomputable def kP (a0:am) (a1:aN) (a2:List Int):Option ((List Int)×Int×Int):=
 (el a0 (⟨(0:Int),(⟨(0:Int),[]⟩:aa)⟩:aq)).bind fun y1=>
 bif y1 != 0 then
  some ([],0,210)
 else
  (fP a1).bind fun y4=>
  bif (y4 != 0)||(a1.Header.Left != (IntKind.wrap .i64 (a0.Left - 1))) then
   some ([],0,290)
  else
   (cc a2).bind fun zA=>
   bif zA.2.2 != 0 then
    some ([],zA.2.1,zA.2.2)
   else
    bif zA.1.Header.Left != a1.Header.Left then
     some ([],0,212)
    else
     bif zA.1.Header.Round != a1.Header.Round then
      some ([],0,211)
     else
      bif zA.1.Header.Epoch != a1.Header.Epoch then
       some ([],0,161)
      else
       bif (zA.1.Cells.length:Int) != (a1.From.length:Int) then
        some ([],0,63)
       else
        (fH a0.Master a1.Header.Epoch).bind fun kA=>
        bif kA.2 != 0 then
         some ([],0,kA.2)
        else
         bif mkB a1.Count a1.Count then
         (((Loop.run (S:=(Int×(List (List Int)))) (R:=(List (List Int))) (fun(xA,hA)=>
           bif decide (xA<((List.replicate (Int.toNat a1.Count) ([]:List Int)).length:Int)) then
            bif mkB 320 320 then
            (idx hA xA).bind fun dA=>
            some (.next (IntKind.wrap .i64 (xA+1),List.set hA (Int.toNat xA) (List.replicate (Int.toNat 320) (0:Int))))
            else none
           else
            some (.done hA)) (0,List.replicate (Int.toNat a1.Count) ([]:List Int))).bind fun oA=>
         some oA
          :Option (List (List Int)))).bind fun eA=>
         (((Loop.run (S:=Int) (R:=Unit) (fun yA=>
           bif decide (yA<(a1.From.length:Int)) then
            (((idx a1.From yA).bind fun bA=>
            bif decide (bA<0) then
             some ()
            else
             (idx a1.Nonces bA).bind fun cA=>
             (idx zA.1.Cells yA).bind fun qA=>
             none
             :Option Unit)).bind fun _=>
            some (.next (IntKind.wrap .i64 (yA+1)))
           else
            some (.done ())) 0).bind fun _=>
         some ()
          :Option Unit)).bind fun _=>
         (gQ (⟨({a1.Header with Left:=a0.Left}:ab),eA⟩:aE)).bind fun vA=>
         some (vA.1,0,vA.2)
         else none
theorem o120 {a0:am} {a1:aN} {a2:List Int} {r0:((List Int)×Int×Int)} (hF:kP a0 a1 a2=some r0) (L:List Res):Ok Tryz.prog 47 [SV.val aO a0,SV.val aI a1,SV.val K7 a2] L (SV.tup [SV.val K7 r0.1,SV.raw (.int .i64 r0.2.1),SV.raw (.int .i64 r0.2.2)]) L:=by
 unfold kP at hF
 refine okI 155 Tryz.func47 rfl rfl rfl fun F0=>?_
 refine bs hF fun y1 h2 hF=>sr<|bX (K:=aO) rfl rdV rfl<|bX (K:=aI) rfl rdV rfl<|a_ rfl<|a_ rfl<|a_ rfl<|nt<|sq<|sr<|oL kt24 rfl<|ov (OpV.bst BT29 (Bld.nil _)) rfl<|cx Tryz.call21 rfl (o10 h2 _)<|a_ rfl<|ns<|mb rfl<|nt<|it hF rfl (fun hF=>?_) (fun hF=>?_)
 ·refine sr<|a_ rfl<|a_ rfl<|a_ rfl<|nt<|rt<|tV (K:=kSl K10) (x:=[]) (t:=6) rfl rdN ?_
  cases osi hF
  exact rs Tryz.results47 (.tm rfl (.tm rfl (.tm rfl .nil))) rfl rfl
 ·refine bs hF fun y4 h5 hF=>ct<|sq<|sr<|oL kt87 rfl<|cx Tryz.call45 rfl (o119 h5 _)<|b_ rfl<|m_ rfl<|qv 37 ((y4 != 0)||(a1.Header.Left != (IntKind.wrap .i64 (a0.Left - 1)))) ?_ (fun k=>?_)
  ·refine nt<|it hF rfl (fun hF=>?_) (fun hF=>?_)
   ·refine sr<|a_ rfl<|a_ rfl<|a_ rfl<|nt<|rt<|tV (K:=kSl K10) (x:=[]) (t:=6) rfl rdN ?_
    cases osi hF
    exact rs Tryz.results47 (.tm rfl (.tm rfl (.tm rfl .nil))) rfl rfl
   ·refine bs hF fun qA wB hF=>ct<|sr<|m_ rfl<|cx Tryz.call20 rfl (o20 wB _)<|m_ rfl<|oE rfl<|oE rfl<|oE rfl<|al ZT46 rfl fun eC=>sP (x':=qA.1) .box .id sz46k rfl rfl rdV rfl<|a_ rfl<|a_ rfl<|nl<|fz (t:=10) rfl<|tn<|sq<|sr<|mb rfl<|nt<|it hF rfl (fun hF=>?_) (fun hF=>?_)
    ·refine sr<|m_ rfl<|m_ rfl<|a_ rfl<|a_ rfl<|a_ rfl<|nt<|rt<|tV (K:=kSl K10) (x:=[]) (t:=6) rfl rdN ?_
     cases osi hF
     exact rs Tryz.results47 (.tm rfl (.tm rfl (.tm rfl .nil))) rfl rfl
    ·refine ct<|sq<|bk<|sr<|oF fb46k rfl<|oF fb43k rfl<|oI kt3 rfl<|oF fb87k1 rfl<|oF fb43k rfl<|oI kt3 rfl<|b_ rfl<|a_ rfl<|nt<|it hF rfl (fun hF=>?_) (fun hF=>?_)
     ·refine sr<|a_ rfl<|a_ rfl<|a_ rfl<|nt<|rc<|Under.bR<|tr<|tV (K:=kSl K10) (x:=[]) (t:=6) rfl rdN ?_
      cases osi hF
      exact rs Tryz.results47 (.tm rfl (.tm rfl (.tm rfl .nil))) rfl rfl
     ·refine sr<|oF fb46k rfl<|oF fb43k1 rfl<|oI kt2 rfl<|oF fb87k1 rfl<|oF fb43k1 rfl<|oI kt2 rfl<|b_ rfl<|a_ rfl<|nt<|it hF rfl (fun hF=>?_) (fun hF=>?_)
      ·refine sr<|a_ rfl<|a_ rfl<|a_ rfl<|nt<|rc<|Under.bR<|tr<|tV (K:=kSl K10) (x:=[]) (t:=6) rfl rdN ?_
       cases osi hF
       exact rs Tryz.results47 (.tm rfl (.tm rfl (.tm rfl .nil))) rfl rfl
      ·refine sr<|oF fb46k rfl<|oF fb43k2 rfl<|oI kt2 rfl<|oF fb87k1 rfl<|oF fb43k2 rfl<|oI kt2 rfl<|b_ rfl<|a_ rfl<|nt<|it hF rfl (fun hF=>?_) (fun hF=>?_)
       ·refine sr<|a_ rfl<|a_ rfl<|a_ rfl<|nt<|rc<|Under.bR<|tr<|tV (K:=kSl K10) (x:=[]) (t:=6) rfl rdN ?_
        cases osi hF
        exact rs Tryz.results47 (.tm rfl (.tm rfl (.tm rfl .nil))) rfl rfl
       ·refine sr<|oF fb46k1 rfl<|oL kt44 rfl<|oN Tryz.underlying44 rfl<|oF fb87k2 rfl<|oL kt68 rfl<|oN Tryz.underlying68 rfl<|b_ rfl<|a_ rfl<|nt<|it hF rfl (fun hF=>?_) (fun hF=>?_)
        ·refine sr<|a_ rfl<|a_ rfl<|a_ rfl<|nt<|rc<|Under.bR<|tr<|tV (K:=kSl K10) (x:=[]) (t:=6) rfl rdN ?_
         cases osi hF
         exact rs Tryz.results47 (.tm rfl (.tm rfl (.tm rfl .nil))) rfl rfl
        ·refine bs hF fun pA gB hF=>cs<|bN<|tn<|sr<|oF fb24k rfl<|oL kt22 rfl<|oF fb87k1 rfl<|oF fb43k2 rfl<|oI kt2 rfl<|cx Tryz.call48 rfl (o40 gB _)<|m_ rfl<|oE rfl<|oE rfl<|a_ rfl<|a_ rfl<|nt<|sq<|sr<|mb rfl<|nt<|it hF rfl (fun hF=>?_) (fun hF=>?_)
         ·refine sr<|m_ rfl<|a_ rfl<|a_ rfl<|a_ rfl<|nt<|rt<|tV (K:=kSl K10) (x:=[]) (t:=6) rfl rdN ?_
          cases osi hF
          exact rs Tryz.results47 (.tm rfl (.tm rfl (.tm rfl .nil))) rfl rfl
         ·refine gs hF fun mB hF=>ct<|sq<|ph rfl<|Under.grpT (L:=L) [0,1,2,3,4,5,6] [[4],[92],[4],[94],[95],[93,96],[]] [⟨sk0 (.ptr bv a1.Header),[],[],[]⟩,⟨sk0 (.val bv a1.Header),[],[],[]⟩,⟨sk0 (.ptr K8 a1.Count),[],[],[]⟩,⟨sk0 (.raw (.int .i64 a1.Count)),[],[],[]⟩,⟨sk1 4 (fun u4=> .raw u4),[],[(0,tk1 4 (fun u4=> .own K7 u4 22 (List.replicate (Int.toNat a1.Count) ([]:List Int))))],[]⟩,⟨sk1 4 (fun u4=> .val cX (⟨a1.Header,u4⟩:bo)),[],[],[0]⟩,⟨sk1 6 (fun u6=> .raw (.pointer (some ⟨(vblk u6),0,none⟩))),[],[(1,tk1 6 (fun u6=> .box cX (vblk u6) 46 (⟨(⟨(0:Int),(0:Int),(0:Int)⟩:ab),.slice none 0 0⟩:bo)))],[]⟩] [] (fun T:List Res=>T) lf0 rfl (by kernel_rfl) rfl rfl (fun F hF0 xA=>?_)
          refine Tq.v (fun G T hG=>?_) ?_
          ·exact oF fb87k1 rfl<|Tq.end undef rfl rfl
          refine Tq.v (fun G T hG=>?_) ?_
          ·exact oL kt43 rfl<|Tq.end undef rfl rfl
          refine Tq.v (fun G T hG=>?_) ?_
          ·exact oF fb87k rfl<|Tq.end undef rfl rfl
          refine Tq.v (fun G T hG=>?_) ?_
          ·exact oI kt3 rfl<|Tq.end undef rfl rfl
          refine Tq.st (.raw (xA 4)) [] rfl rfl (fun G T hG=>?_) ?_
          ·exact Under.mk mB Tryz.underlying44 AT22 rfl rfl rfl fun nB=>Tq.end nB rfl rfl
          refine Tq.r1 (.val cX (⟨a1.Header,(xA 4)⟩:bo)) [.own K7 (xA 4) 22 (List.replicate (Int.toNat a1.Count) ([]:List Int))] rfl rfl (fun G T hG=>?_) ?_
          ·exact Under.ownCell fun pB=>ov (OpV.bst pQ (Bld.cons (x':=(⟨a1.Header,.slice none 0 0⟩:bo)) rfl rfl rdV (by intro q hq;simp only[List.mem_cons,List.not_mem_nil,or_false] at hq;rcases hq with rfl<;>rfl) (Bld.cons (x':=(⟨a1.Header,(xA 4)⟩:bo)) rfl rfl (fQ pB) ⟨rfl,(fun q hq=>by simp at hq)⟩ (Bld.nil _)))) rfl<|Tq.end undef rfl rfl
          refine Tq.st (.raw (.pointer (some ⟨(vblk (xA 6)),0,none⟩))) [] rfl rfl (fun G T hG=>?_) ?_
          ·exact al ZT46k rfl fun tB=>Tq.end (.pointer (some ⟨tB,0,none⟩)) rfl rfl
          refine bs hF fun oA tA hF=>Tq.nil<|Under.le hF0<|p1 7 rfl rfl<|f1<|sP (x':=(⟨a1.Header,(xA 4)⟩:bo)) .box .id sz46k1 rfl rfl rdV rfl<|pn<|pd rfl<|tn<|sr<|oF fb24k1 rfl<|oI kt3 rfl<|oM Di rfl<|oM wm rfl<|sP (x':=(⟨({a1.Header with Left:=a0.Left}:ab),(xA 4)⟩:bo)) .box (.fld (.fld .id pR) iw) sz3k rfl rfl rdI rfl<|nt<|sq<|afr (r:=oA) (fun oA=>[(3,.ptr aO a0),(4,.ptr aI a1),(10,.ptr ba qA.1),(13,.val K7 pA.1),(14,.raw (.pointer (some ⟨(vblk (xA 6)),0,none⟩)))]) (fun oA=>((.own K7 (xA 4) 22 oA)::(.box cX (vblk (xA 6)) 46 (⟨({a1.Header with Left:=a0.Left}:ab),(xA 4)⟩:bo))::L)) ?_ fun K uB=>?_
          ·refine bs hF fun uA kA hF=>sq<|Under.after (fun X=>∀(_:Unit),uA=()→Under F0 155 [(14,.ptr ba (⟨({a1.Header with Left:=a0.Left}:ab),oA⟩:aE))] (L) X) ?_ ?_
           ·intro _ dA
            replace dA:=dA.symm
            subst dA
            refine bs hF fun xC xB hF=>sr<|oL kt46 rfl<|cx Tryz.call68 rfl (o115 xB _)<|m_ rfl<|oE rfl<|oE rfl<|a_ rfl<|a_ rfl<|ns<|m_ rfl<|m_ rfl<|a_ rfl<|a_ rfl<|a_ rfl<|nt<|rc ?_
            cases osi hF
            exact rs Tryz.results47 (.tm rfl (.tm rfl (.tm rfl .nil))) rfl rfl
           ·intro K yB
            refine bs kA fun yC zB kA=>sr<|oF fb87k2 rfl<|oL kt68 rfl<|oN Tryz.underlying68 rfl<|m_ rfl<|nt<|bk<|lp zB () (fun vA rA=>[(3,.ptr aO a0),(4,.ptr aI a1),(10,.ptr ba qA.1),(13,.val K7 pA.1),(14,.raw (.pointer (some ⟨(vblk (xA 6)),0,none⟩))),(115,.val K6 a1.From),(116,.raw (.int .i64 (a1.From.length:Int))),(117,.raw (.int .i64 vA))]) (fun vA rA=>(.own K7 (xA 4) 22 oA)::(.box cX (vblk (xA 6)) 46 (⟨({a1.Header with Left:=a0.Left}:ab),(xA 4)⟩:bo))::L) rfl rfl fun vA rA zC hA hB=>?_
            refine sr<|b_ rfl<|nt<|sq<|it hA rfl (fun hA=>?_) (fun hA=>?_)
            ·refine bs hA fun bB yA hA=>ct<|sq<|Under.after (fun X=>∀(_:Unit),bB=()→Under F0 155 [(3,.ptr aO a0),(4,.ptr aI a1),(10,.ptr ba qA.1),(13,.val K7 pA.1),(14,.raw (.pointer (some ⟨(vblk (xA 6)),0,none⟩))),(115,.val K6 a1.From),(116,.raw (.int .i64 (a1.From.length:Int))),(117,.raw (.int .i64 vA))] ((.own K7 (xA 4) 22 oA)::(.box cX (vblk (xA 6)) 46 (⟨({a1.Header with Left:=a0.Left}:ab),(xA 4)⟩:bo))::L) X) ?_ ?_
             ·intro _ eA
              replace eA:=eA.symm
              subst eA
              exact rg<|b_ rfl<|m_ rfl<|nl<|nx () hA rfl rfl
             ·intro K vB
              refine bs yA fun hC oB yA=>bk<|sr<|m_ rfl<|oS oB Tryz.underlying68 sz3 rfl<|oI kt3 rfl<|a_ rfl<|a_ rfl<|nt<|sq<|sr<|mb rfl<|nt<|it yA rfl (fun yA=>?_) (fun yA=>?_)
              ·exact xt<|te<|bh<|tn<|wr (vB () (osi yA).symm) rfl
              ·refine bs yA fun bC kB yA=>bs yA fun vC dB yA=>ct<|sq<|dw rfl (by kernel_rfl) fun F hF0=>mvq rfl rfl<|oq (OpV.fd fb87k3 rfl rfl) rfl<|oq (OpV.ld kt85 rfl) rfl<|mvq rfl rfl<|oq (OpV.ixS kB Tryz.underlying85 sz64 rfl rdV rfl) rfl<|oq (OpV.ld kt64 rfl) rfl<|oq (OpV.fd fb24k1 rfl rfl) rfl<|oq (OpV.ldI kt3 rfl) rfl<|oq (OpV.fd fb46k1 rfl rfl) rfl<|oq (OpV.ld kt44 rfl) rfl<|mvq rfl rfl<|oq (OpV.ixS dB Tryz.underlying44 sz22 rfl rdV rfl) rfl<|oq (OpV.ld kt22 rfl) rfl ?_
               cases yA
            ·refine Under.frzBO (fs:=iI) (⟨({a1.Header with Left:=a0.Left}:ab),oA⟩:aE) (fun F hv=>⟨fun _ h=>h,jX hv,trivial⟩)<|fz (t:=14) rfl<|xt<|te ?_
             cases ak hA hB
             exact te<|bh<|tn<|wr (yB () (osi kA).symm) rfl
          ·refine bs tA fun oC eB tA=>sr<|oM Cf rfl<|lP .box (.fld .id kK) kt44k rfl rfl<|Under.rawR (t:=103) rfl<|f1<|ov (OpV.lenO Tryz.underlying44 rfl) rfl<|m_ rfl<|nt<|bk<|lp eB () (fun bA wA=>[(3,.ptr aO a0),(4,.ptr aI a1),(10,.ptr ba qA.1),(13,.val K7 pA.1),(14,.raw (.pointer (some ⟨(vblk (xA 6)),0,none⟩))),(104,.raw (.int .i64 ((List.replicate (Int.toNat a1.Count) ([]:List Int)).length:Int))),(105,.raw (.int .i64 bA.1))]) (fun bA wA=>(.own K7 (xA 4) 22 bA.2)::(.box cX (vblk (xA 6)) 46 (⟨({a1.Header with Left:=a0.Left}:ab),(xA 4)⟩:bo))::L) rfl rfl fun bA wA kC zA cB=>?_
           obtain⟨gA,mA⟩:=bA
           dsimp only at zA⊢
           refine sr<|b_ rfl<|nt<|sq<|it zA rfl (fun zA=>?_) (fun zA=>?_)
           ·refine gs zA fun qB zA=>bs zA fun dC cA zA=>ct<|sq<|bk<|sr<|m_ rfl<|a_ rfl<|nt<|ph rfl<|Under.grpT (L:=L) [0,1,2,3] [[14],[108],[15],[]] [⟨sk0 (.raw (.pointer (some ⟨(vblk (xA 6)),0+3,none⟩))),[],[],[]⟩,⟨sk0 (.raw (xA 4)),[],[],[]⟩,⟨sk0 (.raw (.int .i64 gA)),[],[],[]⟩,⟨sk1 3 (fun u3=> .raw u3),[],[(0,tk1 3 (fun u3=> .own K10 u3 5 (List.replicate (Int.toNat 320) (0:Int))))],[]⟩] [] (fun T:List Res=>(.own K7 (xA 4) 22 mA)::(.box cX (vblk (xA 6)) 46 (⟨({a1.Header with Left:=a0.Left}:ab),(xA 4)⟩:bo))::T) lf2 rfl (by kernel_rfl) rfl rfl (fun F hF0 nA=>?_)
            refine Tq.v (fun G T hG=>?_) ?_
            ·exact oM Cf rfl<|Tq.end undef rfl rfl
            refine Tq.v (fun G T hG=>?_) ?_
            ·exact f1<|lP .box (.fld .id kK) kt44k rfl rfl<|Under.rawR (t:=109) rfl<|f1<|Tq.end undef rfl rfl
            refine Tq.v (fun G T hG=>?_) ?_
            ·exact m_ rfl<|Tq.end undef rfl rfl
            refine Tq.st (.raw (nA 3)) [] rfl rfl (fun G T hG=>?_) ?_
            ·exact Under.mk qB Tryz.underlying22 AT5 rfl rfl rfl fun rB=>Tq.end rB rfl rfl
            exact Tq.nil<|Under.le hF0<|p1 4 rfl rfl<|ov (OpV.ixO cA Tryz.underlying44 sz22k1 rfl rfl) rfl<|pn<|p1 5 rfl rfl<|f2<|fzO (t:=111) rfl<|sP (x':=List.set mA (Int.toNat gA) (List.replicate (Int.toNat 320) (0:Int))) (.own cA) (.ix .id cA) sz22k1 rfl rfl rdV rfl<|pn<|pd rfl<|bN<|tn<|rg<|b_ rfl<|m_ rfl<|nl<|nx () zA rfl rfl
           ·refine xt<|te ?_
            cases ak zA cB
            exact te<|bh<|tn<|wr (uB _ (osi tA).symm) rfl
  ·refine by_ (t:=29) rfl (fun c6=>?_) (fun c6=>?_)
   ·exact sk_ c6 rfl<|sk_ c6 rfl<|sk_ c6 rfl<|sk_ c6 rfl<|sk_ c6 rfl<|sk_ c6 rfl<|sk_ c6 rfl<|pT c6 rfl<|rf 7 (or_t (e:=a1.Header.Left != (IntKind.wrap .i64 (a0.Left - 1))) c6) rfl k
   ·exact gc_ c6 rfl<|oF fb87k1 rfl<|gc_ c6 rfl<|oF fb43k rfl<|gc_ c6 rfl<|oI kt3 rfl<|gc_ c6 rfl<|oF fb24k1 rfl<|gc_ c6 rfl<|oI kt3 rfl<|gc_ c6 rfl<|b_ rfl<|gc_ c6 rfl<|b_ rfl<|pF c6 rfl<|rf 7 (or_f c6) rfl k
noncomputable def dF:Option Bool:=
 (fJ).bind fun y2=>
 bif decide (0<[67,72,82,78,1,2,0,0,0,0,0,0,0,0,0,7,0,0,0,0,0,0,0,1,26,196,1,55].length) then
 bif mkB 18 18 then
 (fE y2 (⟨(0:Int),(⟨(0:Int),[]⟩:aa)⟩:aq) [67,72,82,78,1,2,0,0,0,0,0,0,0,0,0,7,0,0,0,0,0,0,0,1,26,196,1,55] (List.replicate (Int.toNat 18) (0:Int))).bind fun y9=>
 bif ((((y9.1.Err != 0)||((strB y9.1.Out) != [67,72,82,78,1,1,0,0,0,0,0,0,0,0,0,7,0,0,0,0,0,0,0,1,26,177,1,54]))||(y9.2.Count != 0))||(y9.2.Header.Round != 7))||(y9.2.Header.Left != 1) then
  some false
 else
  (fJ).bind fun yA=>
  bif decide (0<[67,72,82,78,1,1,0,0,0,0,0,0,0,0,0,7,0,0,0,0,0,0,0,1,26,177,1,54].length) then
  (kP yA y9.2 [67,72,82,78,1,1,0,0,0,0,0,0,0,0,0,7,0,0,0,0,0,0,0,1,26,177,1,54]).bind fun xA=>
  ((bif ((xA.2.2==0)&&(xA.2.1==0))&&((strB xA.1)==[67,72,82,78,1,2,0,0,0,0,0,0,0,0,0,7,0,0,0,0,0,0,0,1,26,196,1,55]) then
   (fP (⟨(⟨(0:Int),(0:Int),(0:Int)⟩:ab),1,[],[]⟩:aN)).bind fun zA=>
   some (zA==290)
  else
   some false
   :Option Bool)).bind fun hA=>
  some hA
  else none
 else none
 else none
theorem o121 {r0:Bool} (hF:dF=some r0) (L:List Res):Ok Tryz.prog 40 [] L (SV.raw (.bool r0)) L:=by
 unfold dF at hF
 refine okI 66 Tryz.func40 rfl rfl rfl fun F0=>?_
 refine bs hF fun y2 h3 hF=>gs hF fun h5 hF=>gs hF fun h7 hF=>bs hF fun y9 rA hF=>sr<|a_ rfl<|nt<|sq<|ph rfl<|Under.grpT (L:=L) [0,1,2,3,4,5,6,7,8,9,10,11] [[],[],[],[9],[],[7,8,10,11],[12],[6],[6],[],[],[1,13]] [⟨sk0 (.val aO y2),[],[],[]⟩,⟨sk0 (.val bc (⟨(0:Int),(⟨(0:Int),[]⟩:aa)⟩:aq)),[],[],[]⟩,⟨sk1 2 (fun u2=> .raw u2),[],[(0,tk1 2 (fun u2=> .own K10 u2 5 [67,72,82,78,1,2,0,0,0,0,0,0,0,0,0,7,0,0,0,0,0,0,0,1,26,196,1,55]))],[]⟩,⟨sk0 (.val K7 [67,72,82,78,1,2,0,0,0,0,0,0,0,0,0,7,0,0,0,0,0,0,0,1,26,196,1,55]),[0],[],[]⟩,⟨sk1 4 (fun u4=> .raw u4),[],[(1,tk1 4 (fun u4=> .own K10 u4 5 (List.replicate (Int.toNat 18) (0:Int))))],[]⟩,⟨sk0 (.tup [.val aH y9.1,.val aI y9.2]),[1],[],[]⟩,⟨sk0 (.tup [.val aH y9.1,.val aI y9.2]),[],[],[]⟩,⟨sk0 (.val aH y9.1),[],[],[]⟩,⟨sk0 (.val aI y9.2),[],[],[]⟩,⟨sk1 9 (fun u9=> .raw (.pointer (some ⟨(vblk u9),0,none⟩))),[],[(2,tk1 9 (fun u9=> .box aH (vblk u9) 37 (⟨[],(⟨(0:Int),(⟨(0:Int),[]⟩:aa)⟩:aq),(⟨(0:Int),(0:Int),(0:Int),(0:Int),(0:Int)⟩:ai),(0:Int),(0:Int)⟩:aG)))],[]⟩,⟨sk1 10 (fun qA=> .raw (.pointer (some ⟨(vblk qA),0,none⟩))),[],[(3,tk1 10 (fun qA=> .box aI (vblk qA) 87 (⟨(⟨(0:Int),(0:Int),(0:Int)⟩:ab),(0:Int),[],[]⟩:aN)))],[]⟩,⟨sk0 (.raw undef),[2],[(4,tk1 9 (fun u9=> .box aH (vblk u9) 37 y9.1))],[]⟩] [] (fun T:List Res=>T) lf0 rfl (by kernel_rfl) rfl rfl (fun F hF0 dA=>?_)
 refine Tq.v (fun G T hG=>?_) ?_
 ·exact cx Tryz.call91 rfl (o0 h3 _)<|Tq.end undef rfl rfl
 refine Tq.v (fun G T hG=>?_) ?_
 ·exact ov (OpV.bst BT29 (Bld.nil _)) rfl<|Tq.end undef rfl rfl
 refine Tq.st (.raw (dA 2)) [] rfl rfl (fun G T hG=>?_) ?_
 ·exact bO (ys:=[67,72,82,78,1,2,0,0,0,0,0,0,0,0,0,7,0,0,0,0,0,0,0,1,26,196,1,55]) Tryz.underlying22 ET5 (BldA.cons rfl rfl rdI (BldA.cons rfl rfl rdI (BldA.cons rfl rfl rdI (BldA.cons rfl rfl rdI (BldA.cons rfl rfl rdI (BldA.cons rfl rfl rdI (BldA.cons rfl rfl rdI (BldA.cons rfl rfl rdI (BldA.cons rfl rfl rdI (BldA.cons rfl rfl rdI (BldA.cons rfl rfl rdI (BldA.cons rfl rfl rdI (BldA.cons rfl rfl rdI (BldA.cons rfl rfl rdI (BldA.cons rfl rfl rdI (BldA.cons rfl rfl rdI (BldA.cons rfl rfl rdI (BldA.cons rfl rfl rdI (BldA.cons rfl rfl rdI (BldA.cons rfl rfl rdI (BldA.cons rfl rfl rdI (BldA.cons rfl rfl rdI (BldA.cons rfl rfl rdI (BldA.cons rfl rfl rdI (BldA.cons rfl rfl rdI (BldA.cons rfl rfl rdI (BldA.cons rfl rfl rdI (BldA.cons rfl rfl rdI (BldA.nil _))))))))))))))))))))))))))))) rfl rfl fun v4=>Tq.end v4 rfl rfl
 refine Tq.st (.val K7 [67,72,82,78,1,2,0,0,0,0,0,0,0,0,0,7,0,0,0,0,0,0,0,1,26,196,1,55]) [.own K10 (dA 2) 5 [67,72,82,78,1,2,0,0,0,0,0,0,0,0,0,7,0,0,0,0,0,0,0,1,26,196,1,55]] rfl rfl (fun G T hG=>?_) ?_
 ·exact Under.cvS Tryz.underlying22 Tryz.underlying5 (of_decide_eq_true h5) rfl rfl<|Tq.end undef rfl rfl
 refine Tq.st (.raw (dA 4)) [] rfl rfl (fun G T hG=>?_) ?_
 ·exact Under.mk h7 Tryz.underlying22 AT5 rfl rfl rfl fun v6=>Tq.end v6 rfl rfl
 refine Tq.st (.tup [.val aH y9.1,.val aI y9.2]) [.own K10 (dA 4) 5 (List.replicate (Int.toNat 18) (0:Int))] rfl rfl (fun G T hG=>?_) ?_
 ·exact fzO (t:=11) rfl<|cx Tryz.call42 rfl (o118 rA _)<|Tq.end undef rfl rfl
 refine Tq.v (fun G T hG=>?_) ?_
 ·exact m_ rfl<|Tq.end undef rfl rfl
 refine Tq.v (fun G T hG=>?_) ?_
 ·exact oE rfl<|Tq.end undef rfl rfl
 refine Tq.v (fun G T hG=>?_) ?_
 ·exact oE rfl<|Tq.end undef rfl rfl
 refine Tq.st (.raw (.pointer (some ⟨(vblk (dA 9)),0,none⟩))) [] rfl rfl (fun G T hG=>?_) ?_
 ·exact al ZT37 rfl fun wA=>Tq.end (.pointer (some ⟨wA,0,none⟩)) rfl rfl
 refine Tq.st (.raw (.pointer (some ⟨(vblk (dA 10)),0,none⟩))) [] rfl rfl (fun G T hG=>?_) ?_
 ·exact al ZT87 rfl fun gA=>Tq.end (.pointer (some ⟨gA,0,none⟩)) rfl rfl
 refine Tq.st0 [.box aH (vblk (dA 9)) 37 (⟨[],(⟨(0:Int),(⟨(0:Int),[]⟩:aa)⟩:aq),(⟨(0:Int),(0:Int),(0:Int),(0:Int),(0:Int)⟩:ai),(0:Int),(0:Int)⟩:aG)] rfl (fun G T hG=>?_) ?_
 ·exact sP (x':=y9.1) .box .id sz37k rfl rfl rdV rfl<|Tq.end0 undef rfl
 refine Tq.nil<|Under.le hF0<|p1 12 rfl rfl<|sP (x':=y9.2) .box .id sz87k rfl rfl rdV rfl<|pn<|pd rfl<|fz (t:=2) rfl<|fz (t:=1) rfl<|tn<|sq<|sr<|oF fb37k rfl<|oI kt35 rfl<|b_ rfl<|m_ rfl<|ka 23 ((y9.1.Err != 0)||((strB y9.1.Out) != [67,72,82,78,1,1,0,0,0,0,0,0,0,0,0,7,0,0,0,0,0,0,0,1,26,177,1,54])) ?_ (fun k=>?_)
 ·refine m_ rfl<|cO 28 (((y9.1.Err != 0)||((strB y9.1.Out) != [67,72,82,78,1,1,0,0,0,0,0,0,0,0,0,7,0,0,0,0,0,0,0,1,26,177,1,54]))||(y9.2.Count != 0)) ?_ (fun k=>?_)
  ·refine m_ rfl<|ka 34 ((((y9.1.Err != 0)||((strB y9.1.Out) != [67,72,82,78,1,1,0,0,0,0,0,0,0,0,0,7,0,0,0,0,0,0,0,1,26,177,1,54]))||(y9.2.Count != 0))||(y9.2.Header.Round != 7)) ?_ (fun k=>?_)
   ·refine m_ rfl<|ka 40 (((((y9.1.Err != 0)||((strB y9.1.Out) != [67,72,82,78,1,1,0,0,0,0,0,0,0,0,0,7,0,0,0,0,0,0,0,1,26,177,1,54]))||(y9.2.Count != 0))||(y9.2.Header.Round != 7))||(y9.2.Header.Left != 1)) ?_ (fun k=>?_)
    ·refine nt<|it hF rfl (fun hF=>?_) (fun hF=>?_)
     ·refine sr<|a_ rfl<|nt<|rt ?_
      cases osi hF
      exact rs Tryz.results40 (.tm rfl .nil) rfl rfl
     ·refine bs hF fun mA nA hF=>gs hF fun pA hF=>bs hF fun eA tA hF=>ct<|sq<|ph rfl<|Under.grpT (L:=L) [0,1,2,3] [[],[2],[],[44]] [⟨sk0 (.val aO mA),[],[],[]⟩,⟨sk0 (.val aI y9.2),[],[],[]⟩,⟨sk1 2 (fun u2=> .raw u2),[],[(0,tk1 2 (fun u2=> .own K10 u2 5 [67,72,82,78,1,1,0,0,0,0,0,0,0,0,0,7,0,0,0,0,0,0,0,1,26,177,1,54]))],[]⟩,⟨sk0 (.val K7 [67,72,82,78,1,1,0,0,0,0,0,0,0,0,0,7,0,0,0,0,0,0,0,1,26,177,1,54]),[0],[],[]⟩] [] (fun T:List Res=>T) lf0 rfl (by kernel_rfl) rfl rfl (fun F hF0 cA=>?_)
      refine Tq.v (fun G T hG=>?_) ?_
      ·exact cx Tryz.call91 rfl (o0 nA _)<|Tq.end undef rfl rfl
      refine Tq.v (fun G T hG=>?_) ?_
      ·exact oL kt87 rfl<|Tq.end undef rfl rfl
      refine Tq.st (.raw (cA 2)) [] rfl rfl (fun G T hG=>?_) ?_
      ·exact bO (ys:=[67,72,82,78,1,1,0,0,0,0,0,0,0,0,0,7,0,0,0,0,0,0,0,1,26,177,1,54]) Tryz.underlying22 ET5 (BldA.cons rfl rfl rdI (BldA.cons rfl rfl rdI (BldA.cons rfl rfl rdI (BldA.cons rfl rfl rdI (BldA.cons rfl rfl rdI (BldA.cons rfl rfl rdI (BldA.cons rfl rfl rdI (BldA.cons rfl rfl rdI (BldA.cons rfl rfl rdI (BldA.cons rfl rfl rdI (BldA.cons rfl rfl rdI (BldA.cons rfl rfl rdI (BldA.cons rfl rfl rdI (BldA.cons rfl rfl rdI (BldA.cons rfl rfl rdI (BldA.cons rfl rfl rdI (BldA.cons rfl rfl rdI (BldA.cons rfl rfl rdI (BldA.cons rfl rfl rdI (BldA.cons rfl rfl rdI (BldA.cons rfl rfl rdI (BldA.cons rfl rfl rdI (BldA.cons rfl rfl rdI (BldA.cons rfl rfl rdI (BldA.cons rfl rfl rdI (BldA.cons rfl rfl rdI (BldA.cons rfl rfl rdI (BldA.cons rfl rfl rdI (BldA.nil _))))))))))))))))))))))))))))) rfl rfl fun uA=>Tq.end uA rfl rfl
      refine Tq.st (.val K7 [67,72,82,78,1,1,0,0,0,0,0,0,0,0,0,7,0,0,0,0,0,0,0,1,26,177,1,54]) [.own K10 (cA 2) 5 [67,72,82,78,1,1,0,0,0,0,0,0,0,0,0,7,0,0,0,0,0,0,0,1,26,177,1,54]] rfl rfl (fun G T hG=>?_) ?_
      ·exact Under.cvS Tryz.underlying22 Tryz.underlying5 (of_decide_eq_true pA) rfl rfl<|Tq.end undef rfl rfl
      refine Tq.nil<|Under.le hF0<|p1 4 rfl rfl<|cx Tryz.call47 rfl (o120 tA _)<|pn<|p1 5 rfl rfl<|m_ rfl<|pn<|gV [6,7,8,9,10] [[41],[41],[41],[47],[48]] 0 (by kernel_rfl) rfl<|vo (fun _=>OpV.extr rfl rfl) rfl<|vo (fun _=>OpV.extr rfl rfl) rfl<|vo (fun _=>OpV.extr rfl rfl) rfl<|Vq.v (fun G T hG=>a_ rfl<|Vq.end rfl)<|Vq.v (fun G T hG=>a_ rfl<|Vq.end rfl)<|vn<|p1 11 rfl rfl<|a_ rfl<|pn<|pd rfl<|tn<|sr<|mb rfl<|m_ rfl<|dj 55 ((eA.2.2==0)&&(eA.2.1==0)) ?_ (fun k=>?_)
      ·refine m_ rfl<|cO 60 (((eA.2.2==0)&&(eA.2.1==0))&&((strB eA.1)==[67,72,82,78,1,2,0,0,0,0,0,0,0,0,0,7,0,0,0,0,0,0,0,1,26,196,1,55])) ?_ (fun k=>?_)
       ·refine bs hF fun xB kA hF=>m_ rfl<|cO 65 xB ?_ (fun k=>?_)
        ·refine a_ rfl<|nt<|rc ?_
         cases osi hF
         exact rs Tryz.results40 (.tm rfl .nil) rfl rfl
        ·refine by_ (t:=61) rfl (fun hA=>?_) (fun hA=>?_)
         ·replace kA:=ctrue hA kA
          exact bs kA fun zB yB kA=>gc_ hA rfl<|ov (OpV.bst BT87 (Bld.cons (x':=(⟨(⟨(0:Int),(0:Int),(0:Int)⟩:ab),1,[],[]⟩:aN)) rfl rfl rdI ⟨rfl,(by intro q hq;simp only[List.mem_cons,List.not_mem_nil,or_false] at hq;rcases hq with rfl|rfl<;>rfl)⟩ (Bld.nil _))) rfl<|gc_ hA rfl<|cx Tryz.call45 rfl (o119 yB _)<|gc_ hA rfl<|b_ rfl<|pT hA rfl<|rf 3 (rbq kA) rfl k
         ·replace kA:=cfalse hA kA
          exact sk_ hA rfl<|sk_ hA rfl<|sk_ hA rfl<|pF hA rfl<|rf 3 (rbq kA) rfl k
       ·refine by_ (t:=56) rfl (fun bA=>?_) (fun bA=>?_)
        ·exact gc_ bA rfl<|m_ rfl<|gc_ bA rfl<|ov (OpV.b2s Tryz.underlying22 Tryz.underlying5 Tryz.underlying9 rfl rdV) rfl<|gc_ bA rfl<|ov (OpV.eqS Tryz.underlying9 rfl rdV rfl CT (.inl rfl)) rfl<|pT bA rfl<|rf 3 (jV bA) rfl k
        ·exact sk_ bA rfl<|sk_ bA rfl<|sk_ bA rfl<|pF bA rfl<|rf 3 (jW (e:=(strB eA.1)==[67,72,82,78,1,2,0,0,0,0,0,0,0,0,0,7,0,0,0,0,0,0,0,1,26,196,1,55]) bA) rfl k
      ·refine by_ (t:=52) rfl (fun oA=>?_) (fun oA=>?_)
       ·exact gc_ oA rfl<|m_ rfl<|gc_ oA rfl<|b_ rfl<|pT oA rfl<|rf 2 (jV oA) rfl k
       ·exact sk_ oA rfl<|sk_ oA rfl<|pF oA rfl<|rf 2 (jW (e:=eA.2.1==0) oA) rfl k
    ·refine by_ (t:=35) rfl (fun xA=>?_) (fun xA=>?_)
     ·exact sk_ xA rfl<|sk_ xA rfl<|sk_ xA rfl<|sk_ xA rfl<|pT xA rfl<|rf 4 (or_t (e:=y9.2.Header.Left != 1) xA) rfl k
     ·exact gc_ xA rfl<|oF fb87k1 rfl<|gc_ xA rfl<|oF fb43k rfl<|gc_ xA rfl<|oI kt3 rfl<|gc_ xA rfl<|b_ rfl<|pF xA rfl<|rf 4 (or_f xA) rfl k
   ·refine by_ (t:=29) rfl (fun yA=>?_) (fun yA=>?_)
    ·exact sk_ yA rfl<|sk_ yA rfl<|sk_ yA rfl<|sk_ yA rfl<|pT yA rfl<|rf 4 (or_t (e:=y9.2.Header.Round != 7) yA) rfl k
    ·exact gc_ yA rfl<|oF fb87k1 rfl<|gc_ yA rfl<|oF fb43k1 rfl<|gc_ yA rfl<|oI kt2 rfl<|gc_ yA rfl<|b_ rfl<|pF yA rfl<|rf 4 (or_f yA) rfl k
  ·refine by_ (t:=24) rfl (fun vA=>?_) (fun vA=>?_)
   ·exact sk_ vA rfl<|sk_ vA rfl<|sk_ vA rfl<|pT vA rfl<|rf 3 (or_t (e:=y9.2.Count != 0) vA) rfl k
   ·exact gc_ vA rfl<|oF fb87k rfl<|gc_ vA rfl<|oI kt3 rfl<|gc_ vA rfl<|b_ rfl<|pF vA rfl<|rf 3 (or_f vA) rfl k
 ·refine by_ (t:=18) rfl (fun zA=>?_) (fun zA=>?_)
  ·exact sk_ zA rfl<|sk_ zA rfl<|sk_ zA rfl<|sk_ zA rfl<|pT zA rfl<|rf 4 (or_t (e:=(strB y9.1.Out) != [67,72,82,78,1,1,0,0,0,0,0,0,0,0,0,7,0,0,0,0,0,0,0,1,26,177,1,54]) zA) rfl k
  ·exact gc_ zA rfl<|oF fb37k2 rfl<|gc_ zA rfl<|oL kt22 rfl<|gc_ zA rfl<|ov (OpV.b2s Tryz.underlying22 Tryz.underlying5 Tryz.underlying9 rfl rdV) rfl<|gc_ zA rfl<|ov (OpV.eqS Tryz.underlying9 rfl rdV rfl CS (.inr rfl)) rfl<|pF zA rfl<|rf 4 (or_f zA) rfl k
noncomputable def de (a0:aa) (a1:aa):Option Bool:=
 bif (a0.Newest != a1.Newest)||((a0.Epochs.length:Int) != (a1.Epochs.length:Int)) then
  some false
 else
  (((Loop.run (S := Int) (R := (Unit ⊕ Bool)) (fun xA =>
    bif decide (xA<(a0.Epochs.length:Int)) then
     (((idx a0.Epochs xA).bind fun yA=>
     (idx a1.Epochs xA).bind fun hA=>
     bif (yA.Number != hA.Number)||((yA.Tags.length:Int) != (hA.Tags.length:Int)) then
      some (.inl false)
     else
      (Loop.run (S := Int) (R := (Unit ⊕ Bool)) (fun zA =>
        bif decide (zA<(yA.Tags.length:Int)) then
         (idx yA.Tags zA).bind fun bA=>
         (idx hA.Tags zA).bind fun vA=>
         bif bA != vA then
          some (.done (.inr false))
         else
          some (.next (IntKind.wrap .i64 (zA+1)))
        else
         some (.done (.inl ()))) 0).bind fun oA=>match oA with
       | .inl _=>
        some (.inr ())
       | .inr z=>
        some (.inl z)
      : Option (Bool ⊕ Unit))).bind fun kA => match kA with
      | .inl z=>
       some (.done (.inr z))
      | .inr _=>
       some (.next (IntKind.wrap .i64 (xA+1)))
    else
     some (.done (.inl ()))) 0).bind fun dA=>match dA with
   | .inl _=>
    some (.inr ())
   | .inr z=>
    some (.inl z)
   : Option (Bool ⊕ Unit))).bind fun eA => match eA with
   | .inl z=>
    some z
   | .inr _=>
    some true
theorem o122 {a0 a1:aa} {r0:Bool} (hF:de a0 a1=some r0) (L:List Res):Ok Tryz.prog 35 [SV.val ah a0,SV.val ah a1] L (SV.raw (.bool r0)) L:=by
 unfold de at hF
 refine okI 72 Tryz.func35 rfl rfl rfl fun F0=>?_
 refine sr<|bX (K:=ah) rfl rdV rfl<|bX (K:=ah) rfl rdV rfl<|a_ rfl<|nt<|sq<|sr<|oF fb27k rfl<|oI kt2 rfl<|oF fb27k rfl<|oI kt2 rfl<|b_ rfl<|m_ rfl<|qv 22 ((a0.Newest != a1.Newest)||((a0.Epochs.length:Int) != (a1.Epochs.length:Int))) ?_ (fun k=>?_)
 ·refine nt<|it hF rfl (fun hF=>?_) (fun hF=>?_)
  ·refine sr<|a_ rfl<|nt<|rt ?_
   cases osi hF
   exact rs Tryz.results35 (.tm rfl .nil) rfl rfl
  ·refine bs hF fun pA kA hF=>ct<|sq<|Under.after (fun X=>∀(_:Unit),pA=(.inr ())→Under F0 72 [] (L) X) ?_ ?_
   ·intro _ eA
    replace eA:=eA.symm
    subst eA
    refine sr<|a_ rfl<|nt<|rc ?_
    cases osi hF
    exact rs Tryz.results35 (.tm rfl .nil) rfl rfl
   ·intro K tA
    refine bs kA fun cB uA kA=>sr<|a_ rfl<|nt<|bk<|lp uA () (fun vA wA=>[(2,.ptr ah a0),(3,.ptr ah a1),(5,.raw (.int .i64 vA))]) (fun vA wA=>L) rfl rfl fun vA wA qB hA cA=>?_
    refine sq<|sr<|m_ rfl<|oF fb27k1 rfl<|oL kt25 rfl<|oN Tryz.underlying25 rfl<|b_ rfl<|nt<|it hA rfl (fun hA=>?_) (fun hA=>?_)
    ·refine bs hA fun xB zA hA=>ct<|sq<|Under.after (fun X=>∀(_:Unit),xB=(.inr ())→Under F0 72 [(2,.ptr ah a0),(3,.ptr ah a1),(5,.raw (.int .i64 vA))] (L) X) ?_ ?_
     ·intro _ qA
      replace qA:=qA.symm
      subst qA
      exact rg<|mb rfl<|a_ rfl<|nl<|nx () hA rfl rfl
     ·intro K yB
      refine bs zA fun bA zB zA=>bs zA fun oA hB zA=>bk<|sq<|ph rfl<|Under.grpT (L:=L) [0,1,2,3,4,5,6,7,8,9,10,11,12] [[2],[30],[5],[31,32],[33],[3],[35],[5],[36,37],[38],[],[],[6,34]] [⟨sk0 (.ptr (kSl aA) a0.Epochs),[],[],[]⟩,⟨sk0 (.val (kSl aA) a0.Epochs),[],[],[]⟩,⟨sk0 (.raw (.int .i64 vA)),[],[],[]⟩,⟨sk0 (.ptr aA bA),[],[],[]⟩,⟨sk0 (.val aA bA),[],[],[]⟩,⟨sk0 (.ptr (kSl aA) a1.Epochs),[],[],[]⟩,⟨sk0 (.val (kSl aA) a1.Epochs),[],[],[]⟩,⟨sk0 (.raw (.int .i64 vA)),[],[],[]⟩,⟨sk0 (.ptr aA oA),[],[],[]⟩,⟨sk0 (.val aA oA),[],[],[]⟩,⟨sk1 10 (fun gA=> .raw (.pointer (some ⟨(vblk gA),0,none⟩))),[],[(0,tk1 10 (fun gA=> .box aA (vblk gA) 152 (⟨(0:Int),[]⟩:af)))],[]⟩,⟨sk1 11 (fun bB=> .raw (.pointer (some ⟨(vblk bB),0,none⟩))),[],[(1,tk1 11 (fun bB=> .box aA (vblk bB) 152 (⟨(0:Int),[]⟩:af)))],[]⟩,⟨sk0 (.raw undef),[0],[(2,tk1 10 (fun gA=> .box aA (vblk gA) 152 bA))],[]⟩] [] (fun T:List Res=>T) lf0 rfl (by kernel_rfl) rfl rfl (fun F hF0 dA=>?_)
      refine Tq.v (fun G T hG=>?_) ?_
      ·exact oF fb27k1 rfl<|Tq.end undef rfl rfl
      refine Tq.v (fun G T hG=>?_) ?_
      ·exact oL kt25 rfl<|Tq.end undef rfl rfl
      refine Tq.v (fun G T hG=>?_) ?_
      ·exact m_ rfl<|Tq.end undef rfl rfl
      refine Tq.v (fun G T hG=>?_) ?_
      ·exact oS zB Tryz.underlying25 sz152 rfl<|Tq.end undef rfl rfl
      refine Tq.v (fun G T hG=>?_) ?_
      ·exact oL kt152 rfl<|Tq.end undef rfl rfl
      refine Tq.v (fun G T hG=>?_) ?_
      ·exact oF fb27k1 rfl<|Tq.end undef rfl rfl
      refine Tq.v (fun G T hG=>?_) ?_
      ·exact oL kt25 rfl<|Tq.end undef rfl rfl
      refine Tq.v (fun G T hG=>?_) ?_
      ·exact m_ rfl<|Tq.end undef rfl rfl
      refine Tq.v (fun G T hG=>?_) ?_
      ·exact oS hB Tryz.underlying25 sz152 rfl<|Tq.end undef rfl rfl
      refine Tq.v (fun G T hG=>?_) ?_
      ·exact oL kt152 rfl<|Tq.end undef rfl rfl
      refine Tq.st (.raw (.pointer (some ⟨(vblk (dA 10)),0,none⟩))) [] rfl rfl (fun G T hG=>?_) ?_
      ·exact al ZT152 rfl fun vB=>Tq.end (.pointer (some ⟨vB,0,none⟩)) rfl rfl
      refine Tq.st (.raw (.pointer (some ⟨(vblk (dA 11)),0,none⟩))) [] rfl rfl (fun G T hG=>?_) ?_
      ·exact al ZT152 rfl fun oB=>Tq.end (.pointer (some ⟨oB,0,none⟩)) rfl rfl
      refine Tq.st0 [.box aA (vblk (dA 10)) 152 (⟨(0:Int),[]⟩:af)] rfl (fun G T hG=>?_) ?_
      ·exact sP (x':=bA) .box .id sz152k rfl rfl rdV rfl<|Tq.end0 undef rfl
      refine Tq.nil<|Under.le hF0<|p1 13 rfl rfl<|sP (x':=oA) .box .id sz152k rfl rfl rdV rfl<|pn<|pd rfl<|fz (t:=7) rfl<|fz (t:=6) rfl<|tn<|sq<|sr<|oF fb152k1 rfl<|oI kt2 rfl<|oF fb152k1 rfl<|oI kt2 rfl<|b_ rfl<|m_ rfl<|qv 53 ((bA.Number != oA.Number)||((bA.Tags.length:Int) != (oA.Tags.length:Int))) ?_ (fun k=>?_)
      ·refine nt<|it zA rfl (fun zA=>?_) (fun zA=>?_)
       ·refine sr<|a_ rfl<|nt<|rt<|Under.bR<|tr ?_
        cases osi zA
        cases ak hA cA
        refine tr<|Under.bR<|tr ?_
        cases osi kA
        cases osi hF
        exact rs Tryz.results35 (.tm rfl .nil) rfl rfl
       ·refine bs zA fun rB kB zA=>ct<|sr<|a_ rfl<|nt<|bk<|lp kB () (fun rA mA=>[(2,.ptr ah a0),(3,.ptr ah a1),(5,.raw (.int .i64 vA)),(6,.ptr aA bA),(7,.ptr aA oA),(8,.raw (.int .i64 rA))]) (fun rA mA=>L) rfl rfl fun rA mA wB yA nA=>?_
        refine sq<|sr<|m_ rfl<|oF fb152k rfl<|oL kt85 rfl<|oN Tryz.underlying85 rfl<|b_ rfl<|nt<|it yA rfl (fun yA=>?_) (fun yA=>?_)
        ·refine bs yA fun gB dB yA=>bs yA fun mB eB yA=>ct<|sq<|bk<|sq<|dw rfl (by kernel_rfl) fun F hF0=>oq (OpV.fd fb152k rfl rfl) rfl<|oq (OpV.ld kt85 rfl) rfl<|mvq rfl rfl<|oq (OpV.ixS dB Tryz.underlying85 sz64 rfl rdV rfl) rfl<|oq (OpV.ld kt64 rfl) rfl<|oq (OpV.fd fb152k rfl rfl) rfl<|oq (OpV.ld kt85 rfl) rfl<|mvq rfl rfl<|oq (OpV.ixS eB Tryz.underlying85 sz64 rfl rdV rfl) rfl<|oq (OpV.ld kt64 rfl) rfl<|oq (OpV.neK eqk64 eqg64 rfl rfl rfl rdV rfl rdV) rfl<|nlq hF0<|tn<|it yA rfl (fun yA=>?_) (fun yA=>?_)
         ·refine sr<|a_ rfl<|nt<|rc<|Under.bR<|tr ?_
          cases ak yA nA
          refine tr<|Under.bR<|Under.bR<|tr ?_
          cases osi zA
          cases ak hA cA
          refine tr<|Under.bR<|tr ?_
          cases osi kA
          cases osi hF
          exact rs Tryz.results35 (.tm rfl .nil) rfl rfl
         ·exact cs<|bN<|tn<|rg<|mb rfl<|a_ rfl<|nl<|nx () yA rfl rfl
        ·refine xt<|te ?_
         cases ak yA nA
         exact te<|bh<|bN<|tn<|wr (yB () (osi zA).symm) rfl
      ·refine by_ (t:=45) rfl (fun xA=>?_) (fun xA=>?_)
       ·exact sk_ xA rfl<|sk_ xA rfl<|sk_ xA rfl<|sk_ xA rfl<|sk_ xA rfl<|sk_ xA rfl<|sk_ xA rfl<|pT xA rfl<|rf 7 (or_t (e:=(bA.Tags.length:Int) != (oA.Tags.length:Int)) xA) rfl k
       ·exact gc_ xA rfl<|oF fb152k rfl<|gc_ xA rfl<|oL kt85 rfl<|gc_ xA rfl<|oN Tryz.underlying85 rfl<|gc_ xA rfl<|oF fb152k rfl<|gc_ xA rfl<|oL kt85 rfl<|gc_ xA rfl<|oN Tryz.underlying85 rfl<|gc_ xA rfl<|b_ rfl<|pF xA rfl<|rf 7 (or_f xA) rfl k
    ·refine xt<|te ?_
     cases ak hA cA
     exact te<|bh<|tn<|wr (tA () (osi kA).symm) rfl
 ·refine by_ (t:=14) rfl (fun c1=>?_) (fun c1=>?_)
  ·exact sk_ c1 rfl<|sk_ c1 rfl<|sk_ c1 rfl<|sk_ c1 rfl<|sk_ c1 rfl<|sk_ c1 rfl<|sk_ c1 rfl<|pT c1 rfl<|rf 7 (or_t (e:=(a0.Epochs.length:Int) != (a1.Epochs.length:Int)) c1) rfl k
  ·exact gc_ c1 rfl<|oF fb27k1 rfl<|gc_ c1 rfl<|oL kt25 rfl<|gc_ c1 rfl<|oN Tryz.underlying25 rfl<|gc_ c1 rfl<|oF fb27k1 rfl<|gc_ c1 rfl<|oL kt25 rfl<|gc_ c1 rfl<|oN Tryz.underlying25 rfl<|gc_ c1 rfl<|b_ rfl<|pF c1 rfl<|rf 7 (or_f c1) rfl k
noncomputable def dk (a0:aq) (a1:aq):Option Bool:=
 ((bif a0.Next==a1.Next then
  (de a0.Window a1.Window).bind fun y4=>
  some y4
 else
  some false
  :Option Bool)).bind fun x3=>
 some x3
theorem o123 {a0 a1:aq} {r0:Bool} (hF:dk a0 a1=some r0) (L:List Res):Ok Tryz.prog 19 [SV.val bc a0,SV.val bc a1] L (SV.raw (.bool r0)) L:=by
 unfold dk at hF
 refine okI 17 Tryz.func19 rfl rfl rfl fun F0=>?_
 refine bs hF fun x3 h2 hF=>sr<|bX (K:=bc) rfl rdV rfl<|bX (K:=bc) rfl rdV rfl<|a_ rfl<|ns<|oF fb29k rfl<|oI kt2 rfl<|oF fb29k rfl<|oI kt2 rfl<|b_ rfl<|m_ rfl<|iU 16 x3 ?_ (fun k=>?_)
 ·refine a_ rfl<|nt<|rc ?_
  cases osi hF
  exact rs Tryz.results19 (.tm rfl .nil) rfl rfl
 ·refine by_ (t:=10) rfl (fun c1=>?_) (fun c1=>?_)
  ·replace h2:=ctrue c1 h2
   exact bs h2 fun y4 h5 h2=>gc_ c1 rfl<|oF fb29k1 rfl<|gc_ c1 rfl<|oL kt27 rfl<|gc_ c1 rfl<|oF fb29k1 rfl<|gc_ c1 rfl<|oL kt27 rfl<|gc_ c1 rfl<|cx Tryz.call35 rfl (o122 h5 _)<|pT c1 rfl<|rf 5 (rbq h2) rfl k
  ·replace h2:=cfalse c1 h2
   exact sk_ c1 rfl<|sk_ c1 rfl<|sk_ c1 rfl<|sk_ c1 rfl<|sk_ c1 rfl<|pF c1 rfl<|rf 5 (rbq h2) rfl k
noncomputable def cY (a0:aG) (a1:aG):Option Bool:=
 ((bif (strB a0.Out)==(strB a1.Out) then
  (dk a0.State a1.State).bind fun y4=>
  some y4
 else
  some false
  :Option Bool)).bind fun x3=>
 some (((x3&&(a0.Report==a1.Report))&&(a0.Err==a1.Err))&&(a0.At==a1.At))
theorem o124 {a0 a1:aG} {r0:Bool} (hF:cY a0 a1=some r0) (L:List Res):Ok Tryz.prog 17 [SV.val aH a0,SV.val aH a1] L (SV.raw (.bool r0)) L:=by
 unfold cY at hF
 refine okI 40 Tryz.func17 rfl rfl rfl fun F0=>?_
 refine bs hF fun x3 h2 hF=>sr<|bX (K:=aH) rfl rdV rfl<|bX (K:=aH) rfl rdV rfl<|a_ rfl<|ns<|oF fb37k2 rfl<|oL kt22 rfl<|ov (OpV.b2s Tryz.underlying22 Tryz.underlying5 Tryz.underlying9 rfl rdV) rfl<|oF fb37k2 rfl<|oL kt22 rfl<|ov (OpV.b2s Tryz.underlying22 Tryz.underlying5 Tryz.underlying9 rfl rdV) rfl<|ov (OpV.eqS Tryz.underlying9 rfl rdV rfl rdV (.inl rfl)) rfl<|m_ rfl<|iU 18 x3 ?_ (fun k=>?_)
 ·refine m_ rfl<|iU 25 (x3&&(a0.Report==a1.Report)) ?_ (fun k=>?_)
  ·refine m_ rfl<|iU 32 ((x3&&(a0.Report==a1.Report))&&(a0.Err==a1.Err)) ?_ (fun k=>?_)
   ·refine m_ rfl<|iU 39 (((x3&&(a0.Report==a1.Report))&&(a0.Err==a1.Err))&&(a0.At==a1.At)) ?_ (fun k=>?_)
    ·refine a_ rfl<|nt<|rc ?_
     cases osi hF
     exact rs Tryz.results17 (.tm rfl .nil) rfl rfl
    ·refine by_ (t:=33) rfl (fun xA=>?_) (fun xA=>?_)
     ·exact gc_ xA rfl<|oF fb37k4 rfl<|gc_ xA rfl<|oI kt3 rfl<|gc_ xA rfl<|oF fb37k4 rfl<|gc_ xA rfl<|oI kt3 rfl<|gc_ xA rfl<|b_ rfl<|pT xA rfl<|rf 5 (jV xA) rfl k
     ·exact sk_ xA rfl<|sk_ xA rfl<|sk_ xA rfl<|sk_ xA rfl<|sk_ xA rfl<|pF xA rfl<|rf 5 (jW (e:=a0.At==a1.At) xA) rfl k
   ·refine by_ (t:=26) rfl (fun c9=>?_) (fun c9=>?_)
    ·exact gc_ c9 rfl<|oF fb37k rfl<|gc_ c9 rfl<|oI kt35 rfl<|gc_ c9 rfl<|oF fb37k rfl<|gc_ c9 rfl<|oI kt35 rfl<|gc_ c9 rfl<|b_ rfl<|pT c9 rfl<|rf 5 (jV c9) rfl k
    ·exact sk_ c9 rfl<|sk_ c9 rfl<|sk_ c9 rfl<|sk_ c9 rfl<|sk_ c9 rfl<|pF c9 rfl<|rf 5 (jW (e:=a0.Err==a1.Err) c9) rfl k
  ·refine by_ (t:=19) rfl (fun c6=>?_) (fun c6=>?_)
   ·exact gc_ c6 rfl<|oF fb37k1 rfl<|gc_ c6 rfl<|oL kt34 rfl<|gc_ c6 rfl<|oF fb37k1 rfl<|gc_ c6 rfl<|oL kt34 rfl<|gc_ c6 rfl<|ov (OpV.eqK eqk34 eqg34 rfl rfl rfl rdV rfl rdV) rfl<|pT c6 rfl<|rf 5 (jV c6) rfl k
   ·exact sk_ c6 rfl<|sk_ c6 rfl<|sk_ c6 rfl<|sk_ c6 rfl<|sk_ c6 rfl<|pF c6 rfl<|rf 5 (jW (e:=a0.Report==a1.Report) c6) rfl k
 ·refine by_ (t:=12) rfl (fun c1=>?_) (fun c1=>?_)
  ·replace h2:=ctrue c1 h2
   exact bs h2 fun y4 h5 h2=>gc_ c1 rfl<|oF fb37k3 rfl<|gc_ c1 rfl<|oL kt29 rfl<|gc_ c1 rfl<|oF fb37k3 rfl<|gc_ c1 rfl<|oL kt29 rfl<|gc_ c1 rfl<|cx Tryz.call19 rfl (o123 h5 _)<|pT c1 rfl<|rf 5 (rbq h2) rfl k
  ·replace h2:=cfalse c1 h2
   exact sk_ c1 rfl<|sk_ c1 rfl<|sk_ c1 rfl<|sk_ c1 rfl<|sk_ c1 rfl<|pF c1 rfl<|rf 5 (rbq h2) rfl k
noncomputable def df (a0:aN) (a1:aN):Option Bool:=
 bif (((a0.Header != a1.Header)||(a0.Count != a1.Count))||((a0.From.length:Int) != (a1.From.length:Int)))||((a0.Nonces.length:Int) != (a1.Nonces.length:Int)) then
  some false
 else
  (((Loop.run (S := Int) (R := (Unit ⊕ Bool)) (fun xA =>
    bif decide (xA<(a0.From.length:Int)) then
     (idx a0.From xA).bind fun zA=>
     (idx a1.From xA).bind fun hA=>
     bif zA != hA then
      some (.done (.inr false))
     else
      some (.next (IntKind.wrap .i64 (xA+1)))
    else
     some (.done (.inl ()))) 0).bind fun bA=>match bA with
   | .inl _=>
    some (.inr ())
   | .inr z=>
    some (.inl z)
   : Option (Bool ⊕ Unit))).bind fun vA => match vA with
   | .inl z=>
    some z
   | .inr _=>
    (((Loop.run (S := Int) (R := (Unit ⊕ Bool)) (fun yA =>
      bif decide (yA<(a0.Nonces.length:Int)) then
       (idx a0.Nonces yA).bind fun oA=>
       (idx a1.Nonces yA).bind fun kA=>
       bif oA != kA then
        some (.done (.inr false))
       else
        some (.next (IntKind.wrap .i64 (yA+1)))
      else
       some (.done (.inl ()))) 0).bind fun dA=>match dA with
     | .inl _=>
      some (.inr ())
     | .inr z=>
      some (.inl z)
     : Option (Bool ⊕ Unit))).bind fun eA => match eA with
     | .inl z=>
      some z
     | .inr _=>
      some true
theorem o125 {a0 a1:aN} {r0:Bool} (hF:df a0 a1=some r0) (L:List Res):Ok Tryz.prog 43 [SV.val aI a0,SV.val aI a1] L (SV.raw (.bool r0)) L:=by
 unfold df at hF
 refine okI 73 Tryz.func43 rfl rfl rfl fun F0=>?_
 refine sr<|bX (K:=aI) rfl rdV rfl<|bX (K:=aI) rfl rdV rfl<|a_ rfl<|nt<|sq<|sr<|oF fb87k1 rfl<|oL kt43 rfl<|oF fb87k1 rfl<|oL kt43 rfl<|ov (OpV.neK eqk43 eqg43 rfl rfl rfl rdV rfl rdV) rfl<|m_ rfl<|iU 18 ((a0.Header != a1.Header)||(a0.Count != a1.Count)) ?_ (fun k=>?_)
 ·refine m_ rfl<|qv 27 (((a0.Header != a1.Header)||(a0.Count != a1.Count))||((a0.From.length:Int) != (a1.From.length:Int))) ?_ (fun k=>?_)
  ·refine m_ rfl<|qv 36 ((((a0.Header != a1.Header)||(a0.Count != a1.Count))||((a0.From.length:Int) != (a1.From.length:Int)))||((a0.Nonces.length:Int) != (a1.Nonces.length:Int))) ?_ (fun k=>?_)
   ·refine nt<|it hF rfl (fun hF=>?_) (fun hF=>?_)
    ·refine sr<|a_ rfl<|nt<|rt ?_
     cases osi hF
     exact rs Tryz.results43 (.tm rfl .nil) rfl rfl
    ·refine bs hF fun mA eA hF=>ct<|sq<|Under.after (fun X=>∀(_:Unit),mA=(.inr ())→Under F0 73 [(2,.ptr aI a0),(3,.ptr aI a1)] (L) X) ?_ ?_
     ·intro _ zA
      replace zA:=zA.symm
      subst zA
      refine bs hF fun nA cA hF=>sq<|Under.after (fun X=>∀(_:Unit),nA=(.inr ())→Under F0 73 [] (L) X) ?_ ?_
      ·intro _ hA
       replace hA:=hA.symm
       subst hA
       refine sr<|a_ rfl<|nt<|rc ?_
       cases osi hF
       exact rs Tryz.results43 (.tm rfl .nil) rfl rfl
      ·intro K pA
       refine bs cA fun oB tA cA=>sr<|a_ rfl<|nt<|bk<|lp tA () (fun bA oA=>[(2,.ptr aI a0),(3,.ptr aI a1),(6,.raw (.int .i64 bA))]) (fun bA oA=>L) rfl rfl fun bA oA kB yA gA=>?_
       refine sq<|sr<|m_ rfl<|oF fb87k3 rfl<|oL kt85 rfl<|oN Tryz.underlying85 rfl<|b_ rfl<|nt<|it yA rfl (fun yA=>?_) (fun yA=>?_)
       ·refine bs yA fun dB uA yA=>bs yA fun eB xB yA=>ct<|sq<|bk<|sq<|dw rfl (by kernel_rfl) fun F hF0=>oq (OpV.fd fb87k3 rfl rfl) rfl<|oq (OpV.ld kt85 rfl) rfl<|mvq rfl rfl<|oq (OpV.ixS uA Tryz.underlying85 sz64 rfl rdV rfl) rfl<|oq (OpV.ld kt64 rfl) rfl<|oq (OpV.fd fb87k3 rfl rfl) rfl<|oq (OpV.ld kt85 rfl) rfl<|mvq rfl rfl<|oq (OpV.ixS xB Tryz.underlying85 sz64 rfl rdV rfl) rfl<|oq (OpV.ld kt64 rfl) rfl<|oq (OpV.neK eqk64 eqg64 rfl rfl rfl rdV rfl rdV) rfl<|nlq hF0<|tn<|it yA rfl (fun yA=>?_) (fun yA=>?_)
        ·refine sr<|a_ rfl<|nt<|rc<|Under.bR<|tr ?_
         cases ak yA gA
         refine tr<|Under.bR<|tr ?_
         cases osi cA
         cases osi hF
         exact rs Tryz.results43 (.tm rfl .nil) rfl rfl
        ·exact cs<|bN<|tn<|rg<|mb rfl<|a_ rfl<|nl<|nx () yA rfl rfl
       ·refine xt<|te ?_
        cases ak yA gA
        exact te<|bh<|tn<|wr (pA () (osi cA).symm) rfl
     ·intro K yB
      refine bs eA fun zB qA eA=>sr<|a_ rfl<|nt<|bk<|lp qA () (fun vA kA=>[(2,.ptr aI a0),(3,.ptr aI a1),(5,.raw (.int .i64 vA))]) (fun vA kA=>L) rfl rfl fun vA kA hB xA dA=>?_
      refine sq<|sr<|m_ rfl<|oF fb87k2 rfl<|oL kt68 rfl<|oN Tryz.underlying68 rfl<|b_ rfl<|nt<|it xA rfl (fun xA=>?_) (fun xA=>?_)
      ·refine bs xA fun bB rA xA=>bs xA fun vB wA xA=>ct<|sq<|bk<|sq<|dw rfl (by kernel_rfl) fun F hF0=>oq (OpV.fd fb87k2 rfl rfl) rfl<|oq (OpV.ld kt68 rfl) rfl<|mvq rfl rfl<|oq (OpV.ixS rA Tryz.underlying68 sz3 rfl rdV rfl) rfl<|oq (OpV.ldI kt3 rfl) rfl<|oq (OpV.fd fb87k2 rfl rfl) rfl<|oq (OpV.ld kt68 rfl) rfl<|mvq rfl rfl<|oq (OpV.ixS wA Tryz.underlying68 sz3 rfl rdV rfl) rfl<|oq (OpV.ldI kt3 rfl) rfl<|bnq rfl rfl rfl rfl<|nlq hF0<|tn<|it xA rfl (fun xA=>?_) (fun xA=>?_)
       ·refine sr<|a_ rfl<|nt<|rc<|Under.bR<|tr ?_
        cases ak xA dA
        refine tr<|Under.bR<|tr ?_
        cases osi eA
        cases osi hF
        exact rs Tryz.results43 (.tm rfl .nil) rfl rfl
       ·exact cs<|bN<|tn<|rg<|mb rfl<|a_ rfl<|nl<|nx () xA rfl rfl
      ·refine xt<|te ?_
       cases ak xA dA
       exact te<|bh<|tn<|wr (yB () (osi eA).symm) rfl
   ·refine by_ (t:=28) rfl (fun c7=>?_) (fun c7=>?_)
    ·exact sk_ c7 rfl<|sk_ c7 rfl<|sk_ c7 rfl<|sk_ c7 rfl<|sk_ c7 rfl<|sk_ c7 rfl<|sk_ c7 rfl<|pT c7 rfl<|rf 7 (or_t (e:=(a0.Nonces.length:Int) != (a1.Nonces.length:Int)) c7) rfl k
    ·exact gc_ c7 rfl<|oF fb87k3 rfl<|gc_ c7 rfl<|oL kt85 rfl<|gc_ c7 rfl<|oN Tryz.underlying85 rfl<|gc_ c7 rfl<|oF fb87k3 rfl<|gc_ c7 rfl<|oL kt85 rfl<|gc_ c7 rfl<|oN Tryz.underlying85 rfl<|gc_ c7 rfl<|b_ rfl<|pF c7 rfl<|rf 7 (or_f c7) rfl k
  ·refine by_ (t:=19) rfl (fun c4=>?_) (fun c4=>?_)
   ·exact sk_ c4 rfl<|sk_ c4 rfl<|sk_ c4 rfl<|sk_ c4 rfl<|sk_ c4 rfl<|sk_ c4 rfl<|sk_ c4 rfl<|pT c4 rfl<|rf 7 (or_t (e:=(a0.From.length:Int) != (a1.From.length:Int)) c4) rfl k
   ·exact gc_ c4 rfl<|oF fb87k2 rfl<|gc_ c4 rfl<|oL kt68 rfl<|gc_ c4 rfl<|oN Tryz.underlying68 rfl<|gc_ c4 rfl<|oF fb87k2 rfl<|gc_ c4 rfl<|oL kt68 rfl<|gc_ c4 rfl<|oN Tryz.underlying68 rfl<|gc_ c4 rfl<|b_ rfl<|pF c4 rfl<|rf 7 (or_f c4) rfl k
 ·refine by_ (t:=12) rfl (fun c1=>?_) (fun c1=>?_)
  ·exact sk_ c1 rfl<|sk_ c1 rfl<|sk_ c1 rfl<|sk_ c1 rfl<|sk_ c1 rfl<|pT c1 rfl<|rf 5 (or_t (e:=a0.Count != a1.Count) c1) rfl k
  ·exact gc_ c1 rfl<|oF fb87k rfl<|gc_ c1 rfl<|oI kt3 rfl<|gc_ c1 rfl<|oF fb87k rfl<|gc_ c1 rfl<|oI kt3 rfl<|gc_ c1 rfl<|b_ rfl<|pF c1 rfl<|rf 5 (or_f c1) rfl k
noncomputable def cF (a0:cd):Option Bool:=
 (dF).bind fun y1=>
 bif !y1 then
  some false
 else
  (fE a0.C a0.S a0.Raw a0.Tape).bind fun y4=>
  (gw a0.C a0.S a0.Raw a0.Tape).bind fun y9=>
  (cY y4.1 y9).bind fun uA=>
  bif !uA then
   some false
  else
   bif y4.1.Err != 0 then
    (df y4.2 (⟨(⟨(0:Int),(0:Int),(0:Int)⟩:ab),(0:Int),[],[]⟩:aN)).bind fun xB=>
    some xB
   else
    (cc a0.Raw).bind fun hA=>
    (cc y4.1.Out).bind fun vA=>
    (fH a0.C.Master hA.1.Header.Epoch).bind fun tA=>
    ((bif ((hA.2.2 != 0)||(vA.2.2 != 0))||(tA.2 != 0) then
     some true
    else
     (fP y4.2).bind fun yB=>
     some (yB != 0)
     :Option Bool)).bind fun zB=>
    bif ((zB||(y4.2.Header != vA.1.Header))||(y4.2.Count != (hA.1.Cells.length:Int)))||((y4.2.From.length:Int) != (vA.1.Cells.length:Int)) then
     some false
    else
     (((Loop.run (S := (Int × Int)) (R := (Int ⊕ Bool)) (fun (zA, xA) =>
       bif decide (xA<(y4.2.From.length:Int)) then
        (((idx y4.2.From xA).bind fun yA=>
        bif decide (yA<0) then
         some (.inr (IntKind.wrap .i64 (zA+1)))
        else
         (idx hA.1.Cells yA).bind fun oA=>
         (dL tA.1 a0.C.Left oA).bind fun bA=>
         ((bif bA.2 != 0 then
          some true
         else
          (idx vA.1.Cells xA).bind fun kA=>
          some ((strB bA.1.Cell) != (strB kA))
          :Option Bool)).bind fun dA=>
         ((bif dA then
          some true
         else
          (idx y4.2.Nonces yA).bind fun eA=>
          (idx hA.1.Cells yA).bind fun cA=>
          (sub cA 0 16).bind fun qA=>
          some ((strB eA) != (strB qA))
          :Option Bool)).bind fun rA=>
         bif rA then
          some (.inl false)
         else
          some (.inr zA)
         : Option (Bool ⊕ Int))).bind fun wA => match wA with
         | .inl z=>
          some (.done (.inr z))
         | .inr gA=>
          some (.next (gA,IntKind.wrap .i64 (xA+1)))
       else
        some (.done (.inl zA))) (0,0)).bind fun mA=>match mA with
      | .inl nA=>
       some (.inr nA)
      | .inr z=>
       some (.inl z)
      : Option (Bool ⊕ Int))).bind fun pA => match pA with
      | .inl z=>
       some z
      | .inr x268=>
       some (x268==y4.1.Report.Noise)
theorem o126 {a0:cd} {r0:Bool} (hF:cF a0=some r0) (L:List Res):Ok Tryz.prog 12 [SV.val dX a0] L (SV.raw (.bool r0)) L:=by
 unfold cF at hF
 refine okI 177 Tryz.func12 rfl rfl rfl fun F0=>?_
 refine bs hF fun y1 h2 hF=>sr<|bX (K:=dX) rfl rdV rfl<|a_ rfl<|nt<|sq<|sr<|cx Tryz.call40 rfl (o121 h2 _)<|ov (OpV.not rfl) rfl<|nt<|it hF rfl (fun hF=>?_) (fun hF=>?_)
 ·refine sr<|a_ rfl<|nt<|rt ?_
  cases osi hF
  exact rs Tryz.results12 (.tm rfl .nil) rfl rfl
 ·refine bs hF fun y4 h5 hF=>bs hF fun y9 oC hF=>bs hF fun xD kC hF=>ct<|sr<|oF fb84k rfl<|oL kt24 rfl<|oF fb84k1 rfl<|oL kt29 rfl<|oF fb84k2 rfl<|oL kt22 rfl<|oF fb84k3 rfl<|oL kt22 rfl<|cx Tryz.call42 rfl (o118 h5 _)<|m_ rfl<|oE rfl<|oE rfl<|al ZT37 rfl fun b6=>al ZT87 rfl fun b7=>f1<|sP (x':=y4.1) .box .id sz37k rfl rfl rdV rfl<|f1<|sP (x':=y4.2) .box .id sz87k rfl rfl rdV rfl<|nl<|fz (t:=4) rfl<|fz (t:=3) rfl<|tn<|sq<|sq<|ph rfl<|gV [0,1,2,3,4,5,6,7,8,9] [[3],[1],[33],[1],[35],[1],[37],[1],[39],[34,36,38,40]] 0 (by kernel_rfl) rfl<|vo (fun _=>OpV.ld kt37 rfl) rfl<|vo (fun _=>OpV.fd fb84k rfl rfl) rfl<|vo (fun _=>OpV.ld kt24 rfl) rfl<|vo (fun _=>OpV.fd fb84k1 rfl rfl) rfl<|vo (fun _=>OpV.ld kt29 rfl) rfl<|vo (fun _=>OpV.fd fb84k2 rfl rfl) rfl<|vo (fun _=>OpV.ld kt22 rfl) rfl<|vo (fun _=>OpV.fd fb84k3 rfl rfl) rfl<|vo (fun _=>OpV.ld kt22 rfl) rfl<|Vq.v (fun G T hG=>cx Tryz.call18 rfl (o116 oC _)<|Vq.end rfl)<|vn<|p1 10 rfl rfl<|cx Tryz.call17 rfl (o124 kC _)<|pn<|p1 11 rfl rfl<|ov (OpV.not rfl) rfl<|pn<|pd rfl<|tn<|it hF rfl (fun hF=>?_) (fun hF=>?_)
  ·refine sr<|a_ rfl<|nt<|rt ?_
   cases osi hF
   exact rs Tryz.results12 (.tm rfl .nil) rfl rfl
  ·refine ct<|sq<|sr<|oF fb37k rfl<|oI kt35 rfl<|b_ rfl<|nt<|it hF rfl (fun hF=>?_) (fun hF=>?_)
   ·refine bs hF fun yD dC hF=>sr<|oL kt87 rfl<|ov (OpV.bst BT87 (Bld.nil _)) rfl<|cx Tryz.call43 rfl (o125 dC _)<|a_ rfl<|nt<|rt ?_
    cases osi hF
    exact rs Tryz.results12 (.tm rfl .nil) rfl rfl
   ·refine bs hF fun wA eC hF=>bs hF fun cA cC hF=>bs hF fun hB qC hF=>ct<|sr<|oF fb84k2 rfl<|oL kt22 rfl<|cx Tryz.call20 rfl (o20 eC _)<|m_ rfl<|oE rfl<|oE rfl<|oE rfl<|al ZT46 rfl fun zD=>sP (x':=wA.1) .box .id sz46k rfl rfl rdV rfl<|a_ rfl<|a_ rfl<|nl<|fz (t:=5) rfl<|tn<|sr<|oF fb37k2 rfl<|oL kt22 rfl<|cx Tryz.call20 rfl (o20 cC _)<|m_ rfl<|oE rfl<|oE rfl<|oE rfl<|al ZT46 rfl fun hD=>sP (x':=cA.1) .box .id sz46k rfl rfl rdV rfl<|a_ rfl<|a_ rfl<|nl<|fz (t:=8) rfl<|tn<|sr<|oF fb84k rfl<|oF fb24k rfl<|oL kt22 rfl<|oF fb46k rfl<|oF fb43k2 rfl<|oI kt2 rfl<|cx Tryz.call48 rfl (o40 qC _)<|m_ rfl<|oE rfl<|oE rfl<|a_ rfl<|a_ rfl<|nt<|sq<|sr<|mb rfl<|m_ rfl<|dj 79 ((wA.2.2 != 0)||(cA.2.2 != 0)) ?_ (fun k=>?_)
    ·refine m_ rfl<|dj 83 (((wA.2.2 != 0)||(cA.2.2 != 0))||(hB.2 != 0)) ?_ (fun k=>?_)
     ·refine bs hF fun eB pA hF=>m_ rfl<|cO 88 eB ?_ (fun k=>?_)
      ·refine m_ rfl<|iU 95 (eB||(y4.2.Header != cA.1.Header)) ?_ (fun k=>?_)
       ·refine m_ rfl<|Ce 103 ((eB||(y4.2.Header != cA.1.Header))||(y4.2.Count != (wA.1.Cells.length:Int))) ?_ (fun k=>?_)
        ·refine m_ rfl<|qv 112 (((eB||(y4.2.Header != cA.1.Header))||(y4.2.Count != (wA.1.Cells.length:Int)))||((y4.2.From.length:Int) != (cA.1.Cells.length:Int))) ?_ (fun k=>?_)
         ·refine nt<|it hF rfl (fun hF=>?_) (fun hF=>?_)
          ·refine sr<|a_ rfl<|nt<|rt ?_
           cases osi hF
           exact rs Tryz.results12 (.tm rfl .nil) rfl rfl
          ·refine bs hF fun cB gA hF=>ct<|sr<|a_ rfl<|nt<|sq<|Under.after (fun X=>∀(uA:Int),cB=(.inr uA)→Under F0 177 [(3,.ptr aH y4.1),(13,.raw (.int .i64 uA))] (L) X) ?_ ?_
           ·intro uA xB
            replace xB:=xB.symm
            subst xB
            refine sr<|m_ rfl<|oF fb37k1 rfl<|oF fb34k rfl<|oI kt3 rfl<|b_ rfl<|a_ rfl<|nt<|rc ?_
            cases osi hF
            exact rs Tryz.results12 (.tm rfl .nil) rfl rfl
           ·intro K qB
            refine bs gA fun rC rB gA=>sr<|a_ rfl<|nt<|bk<|lp rB () (fun qA bB=>[(1,.ptr dX a0),(3,.ptr aH y4.1),(4,.ptr aI y4.2),(5,.ptr ba wA.1),(8,.ptr ba cA.1),(11,.val K7 hB.1),(13,.raw (.int .i64 qA.1)),(14,.raw (.int .i64 qA.2))]) (fun qA bB=>L) rfl rfl fun qA bB wC bA vB=>?_
            obtain⟨gC,wB⟩:=qA
            dsimp only at bA⊢
            refine sq<|sr<|m_ rfl<|oF fb87k2 rfl<|oL kt68 rfl<|oN Tryz.underlying68 rfl<|b_ rfl<|nt<|it bA rfl (fun bA=>?_) (fun bA=>?_)
            ·refine bs bA fun gB zA bA=>ct<|sq<|Under.after (fun X=>∀(yB:Int),gB=(.inr yB)→Under F0 177 [(1,.ptr dX a0),(3,.ptr aH y4.1),(4,.ptr aI y4.2),(5,.ptr ba wA.1),(8,.ptr ba cA.1),(11,.val K7 hB.1),(13,.raw (.int .i64 yB)),(14,.raw (.int .i64 wB))] (L) X) ?_ ?_
             ·intro yB zB
              replace zB:=zB.symm
              subst zB
              exact rg<|mb rfl<|a_ rfl<|nl<|nx () bA rfl rfl
             ·intro K oB
              refine bs zA fun mB nB zA=>bk<|sr<|oF fb87k2 rfl<|oL kt68 rfl<|m_ rfl<|oS nB Tryz.underlying68 sz3 rfl<|oI kt3 rfl<|a_ rfl<|nt<|sq<|sr<|mb rfl<|nt<|it zA rfl (fun zA=>?_) (fun zA=>?_)
              ·exact sr<|mb rfl<|a_ rfl<|nt<|xt<|te<|bh<|tn<|wr (oB _ (osi zA).symm) rfl
              ·refine bs zA fun kB pB zA=>bs zA fun oA tB zA=>ct<|sq<|ph rfl<|Under.grpT (L:=L) [0,1,2,3,4,5,6,7,8,9,10,11,12,13,14] [[11],[1],[131],[132],[5],[134],[15],[135,136],[137],[130,133,138],[139],[129],[129],[],[16,140]] [⟨sk0 (.val K7 hB.1),[],[],[]⟩,⟨sk0 (.ptr aO a0.C),[],[],[]⟩,⟨sk0 (.ptr K8 a0.C.Left),[],[],[]⟩,⟨sk0 (.raw (.int .i64 a0.C.Left)),[],[],[]⟩,⟨sk0 (.ptr K1 wA.1.Cells),[],[],[]⟩,⟨sk0 (.val K1 wA.1.Cells),[],[],[]⟩,⟨sk0 (.raw (.int .i64 mB)),[],[],[]⟩,⟨sk0 (.ptr K7 kB),[],[],[]⟩,⟨sk0 (.val K7 kB),[],[],[]⟩,⟨sk0 (.tup [.val aT oA.1,.raw (.int .i64 oA.2)]),[],[],[]⟩,⟨sk0 (.tup [.val aT oA.1,.raw (.int .i64 oA.2)]),[],[],[]⟩,⟨sk0 (.val aT oA.1),[],[],[]⟩,⟨sk0 (.raw (.int .i64 oA.2)),[],[],[]⟩,⟨sk1 13 (fun dB=> .raw (.pointer (some ⟨(vblk dB),0,none⟩))),[],[(0,tk1 13 (fun dB=> .box aT (vblk dB) 66 (⟨[],(List.replicate 16 (0:Int))⟩:an)))],[]⟩,⟨sk0 (.raw undef),[0],[(1,tk1 13 (fun dB=> .box aT (vblk dB) 66 oA.1))],[]⟩] [] (fun T:List Res=>T) lf0 rfl (by kernel_rfl) rfl rfl (fun F hF0 tA=>?_)
               refine Tq.v (fun G T hG=>?_) ?_
               ·exact m_ rfl<|Tq.end undef rfl rfl
               refine Tq.v (fun G T hG=>?_) ?_
               ·exact oF fb84k rfl<|Tq.end undef rfl rfl
               refine Tq.v (fun G T hG=>?_) ?_
               ·exact oF fb24k1 rfl<|Tq.end undef rfl rfl
               refine Tq.v (fun G T hG=>?_) ?_
               ·exact oI kt3 rfl<|Tq.end undef rfl rfl
               refine Tq.v (fun G T hG=>?_) ?_
               ·exact oF fb46k1 rfl<|Tq.end undef rfl rfl
               refine Tq.v (fun G T hG=>?_) ?_
               ·exact oL kt44 rfl<|Tq.end undef rfl rfl
               refine Tq.v (fun G T hG=>?_) ?_
               ·exact m_ rfl<|Tq.end undef rfl rfl
               refine Tq.v (fun G T hG=>?_) ?_
               ·exact oS pB Tryz.underlying44 sz22 rfl<|Tq.end undef rfl rfl
               refine Tq.v (fun G T hG=>?_) ?_
               ·exact oL kt22 rfl<|Tq.end undef rfl rfl
               refine Tq.v (fun G T hG=>?_) ?_
               ·exact cx Tryz.call49 rfl (o69 tB _)<|Tq.end undef rfl rfl
               refine Tq.v (fun G T hG=>?_) ?_
               ·exact m_ rfl<|Tq.end undef rfl rfl
               refine Tq.v (fun G T hG=>?_) ?_
               ·exact oE rfl<|Tq.end undef rfl rfl
               refine Tq.v (fun G T hG=>?_) ?_
               ·exact oE rfl<|Tq.end undef rfl rfl
               refine Tq.st (.raw (.pointer (some ⟨(vblk (tA 13)),0,none⟩))) [] rfl rfl (fun G T hG=>?_) ?_
               ·exact al ZT66 rfl fun uB=>Tq.end (.pointer (some ⟨uB,0,none⟩)) rfl rfl
               refine Tq.st0 [.box aT (vblk (tA 13)) 66 (⟨[],(List.replicate 16 (0:Int))⟩:an)] rfl (fun G T hG=>?_) ?_
               ·exact sP (x':=oA.1) .box .id sz66k rfl rfl rdV rfl<|Tq.end0 undef rfl
               refine bs zA fun xC kA zA=>Tq.nil<|Under.le hF0<|p1 15 rfl rfl<|a_ rfl<|pn<|pd rfl<|fz (t:=16) rfl<|tn<|sq<|dw rfl (by kernel_rfl) fun F hF0=>mvq rfl rfl<|bnq rfl rfl rfl rfl<|mvq rfl rfl<|yb 155 xC ?_ (fun k=>?_)
               ·refine bs zA fun yC hA zA=>mvq rfl rfl<|yc 171 yC ?_ (fun k=>?_)
                ·refine nlq hF0<|tn<|it zA rfl (fun zA=>?_) (fun zA=>?_)
                 ·refine sr<|a_ rfl<|nt<|rc<|Under.bR<|tr ?_
                  cases osi zA
                  cases ak bA vB
                  refine tr<|Under.bR<|tr ?_
                  cases osi gA
                  cases osi hF
                  exact rs Tryz.results12 (.tm rfl .nil) rfl rfl
                 ·exact cs<|bN<|tn<|wr (oB _ (osi zA).symm) rfl
                ·refine byq (t:=156) rfl (fun xA=>?_) (fun xA=>?_)
                 ·replace hA:=ctrue xA hA
                  exact skq xA rfl rfl rfl<|skq xA rfl rfl rfl<|skq xA rfl rfl rfl<|skq xA rfl rfl rfl<|skq xA rfl rfl rfl<|skq xA rfl rfl rfl<|skq xA rfl rfl rfl<|skq xA rfl rfl rfl<|skq xA rfl rfl rfl<|skq xA rfl rfl rfl<|skq xA rfl rfl rfl<|skq xA rfl rfl rfl<|skq xA rfl rfl rfl<|skq xA rfl rfl rfl<|oq (pkT xA rfl rfl) rfl<|rfq 14 (rbq hA) rfl k
                 ·replace hA:=cfalse xA hA
                  exact bs hA fun mC zC hA=>bs hA fun nC hC hA=>bs hA fun pC bC hA=>gq xA rfl rfl<|oq (OpV.fd fb87k3 rfl rfl) rfl<|gq xA rfl rfl<|oq (OpV.ld kt85 rfl) rfl<|gq xA rfl rfl<|mvq rfl rfl<|gq xA rfl rfl<|oq (OpV.ixS zC Tryz.underlying85 sz64 rfl rdV rfl) rfl<|gq xA rfl rfl<|oq (OpV.slA Tryz.underlying64 sz5 rfl) rfl<|gq xA rfl rfl<|oq (OpV.b2s Tryz.underlying22 Tryz.underlying5 Tryz.underlying9 rfl rdV) rfl<|gq xA rfl rfl<|oq (OpV.fd fb46k1 rfl rfl) rfl<|gq xA rfl rfl<|oq (OpV.ld kt44 rfl) rfl<|gq xA rfl rfl<|mvq rfl rfl<|gq xA rfl rfl<|oq (OpV.ixS hC Tryz.underlying44 sz22 rfl rdV rfl) rfl<|gq xA rfl rfl<|oq (OpV.ld kt22 rfl) rfl<|gq xA rfl rfl<|oq (OpV.slH bC Tryz.underlying22 sz5 rfl rdV rfl) rfl<|gq xA rfl rfl<|oq (OpV.b2s Tryz.underlying22 Tryz.underlying5 Tryz.underlying9 rfl rdV) rfl<|gq xA rfl rfl<|oq (OpV.eqS Tryz.underlying9 rfl rdV rfl rdV (.inr rfl)) rfl<|oq (pkF xA rfl rfl) rfl<|rfq 14 (rbq hA) rfl k
               ·refine byq (t:=144) rfl (fun yA=>?_) (fun yA=>?_)
                ·replace kA:=ctrue yA kA
                 exact skq yA rfl rfl rfl<|skq yA rfl rfl rfl<|skq yA rfl rfl rfl<|skq yA rfl rfl rfl<|skq yA rfl rfl rfl<|skq yA rfl rfl rfl<|skq yA rfl rfl rfl<|skq yA rfl rfl rfl<|skq yA rfl rfl rfl<|skq yA rfl rfl rfl<|oq (pkT yA rfl rfl) rfl<|rfq 10 (rbq kA) rfl k
                ·replace kA:=cfalse yA kA
                 exact bs kA fun tC vC kA=>gq yA rfl rfl<|oq (OpV.fd fb66k1 rfl rfl) rfl<|gq yA rfl rfl<|oq (OpV.ld kt22 rfl) rfl<|gq yA rfl rfl<|oq (OpV.b2s Tryz.underlying22 Tryz.underlying5 Tryz.underlying9 rfl rdV) rfl<|gq yA rfl rfl<|oq (OpV.fd fb46k1 rfl rfl) rfl<|gq yA rfl rfl<|oq (OpV.ld kt44 rfl) rfl<|gq yA rfl rfl<|mvq rfl rfl<|gq yA rfl rfl<|oq (OpV.ixS vC Tryz.underlying44 sz22 rfl rdV rfl) rfl<|gq yA rfl rfl<|oq (OpV.ld kt22 rfl) rfl<|gq yA rfl rfl<|oq (OpV.b2s Tryz.underlying22 Tryz.underlying5 Tryz.underlying9 rfl rdV) rfl<|gq yA rfl rfl<|oq (OpV.eqS Tryz.underlying9 rfl rdV rfl rdV (.inr rfl)) rfl<|oq (pkF yA rfl rfl) rfl<|rfq 10 (rbq kA) rfl k
            ·refine xt<|te ?_
             cases ak bA vB
             exact te<|bh<|tn<|wr (qB _ (osi gA).symm) rfl
         ·refine by_ (t:=104) rfl (fun vA=>?_) (fun vA=>?_)
          ·exact sk_ vA rfl<|sk_ vA rfl<|sk_ vA rfl<|sk_ vA rfl<|sk_ vA rfl<|sk_ vA rfl<|sk_ vA rfl<|pT vA rfl<|rf 7 (or_t (e:=(y4.2.From.length:Int) != (cA.1.Cells.length:Int)) vA) rfl k
          ·exact gc_ vA rfl<|oF fb87k2 rfl<|gc_ vA rfl<|oL kt68 rfl<|gc_ vA rfl<|oN Tryz.underlying68 rfl<|gc_ vA rfl<|oF fb46k1 rfl<|gc_ vA rfl<|oL kt44 rfl<|gc_ vA rfl<|oN Tryz.underlying44 rfl<|gc_ vA rfl<|b_ rfl<|pF vA rfl<|rf 7 (or_f vA) rfl k
        ·refine by_ (t:=96) rfl (fun dA=>?_) (fun dA=>?_)
         ·exact sk_ dA rfl<|sk_ dA rfl<|sk_ dA rfl<|sk_ dA rfl<|sk_ dA rfl<|sk_ dA rfl<|pT dA rfl<|rf 6 (or_t (e:=y4.2.Count != (wA.1.Cells.length:Int)) dA) rfl k
         ·exact gc_ dA rfl<|oF fb87k rfl<|gc_ dA rfl<|oI kt3 rfl<|gc_ dA rfl<|oF fb46k1 rfl<|gc_ dA rfl<|oL kt44 rfl<|gc_ dA rfl<|oN Tryz.underlying44 rfl<|gc_ dA rfl<|b_ rfl<|pF dA rfl<|rf 6 (or_f dA) rfl k
       ·refine by_ (t:=89) rfl (fun eA=>?_) (fun eA=>?_)
        ·exact sk_ eA rfl<|sk_ eA rfl<|sk_ eA rfl<|sk_ eA rfl<|sk_ eA rfl<|pT eA rfl<|rf 5 (or_t (e:=y4.2.Header != cA.1.Header) eA) rfl k
        ·exact gc_ eA rfl<|oF fb87k1 rfl<|gc_ eA rfl<|oL kt43 rfl<|gc_ eA rfl<|oF fb46k rfl<|gc_ eA rfl<|oL kt43 rfl<|gc_ eA rfl<|ov (OpV.neK eqk43 eqg43 rfl rfl rfl rdV rfl rdV) rfl<|pF eA rfl<|rf 5 (or_f eA) rfl k
      ·refine by_ (t:=84) rfl (fun rA=>?_) (fun rA=>?_)
       ·replace pA:=ctrue rA pA
        exact sk_ rA rfl<|sk_ rA rfl<|sk_ rA rfl<|pT rA rfl<|rf 3 (rbq pA) rfl k
       ·replace pA:=cfalse rA pA
        exact bs pA fun bD uC pA=>gc_ rA rfl<|oL kt87 rfl<|gc_ rA rfl<|cx Tryz.call45 rfl (o119 uC _)<|gc_ rA rfl<|b_ rfl<|pF rA rfl<|rf 3 (rbq pA) rfl k
     ·refine by_ (t:=80) rfl (fun mA=>?_) (fun mA=>?_)
      ·exact sk_ mA rfl<|sk_ mA rfl<|pT mA rfl<|rf 2 (or_t (e:=hB.2 != 0) mA) rfl k
      ·exact gc_ mA rfl<|m_ rfl<|gc_ mA rfl<|b_ rfl<|pF mA rfl<|rf 2 (or_f mA) rfl k
    ·refine by_ (t:=76) rfl (fun nA=>?_) (fun nA=>?_)
     ·exact sk_ nA rfl<|sk_ nA rfl<|pT nA rfl<|rf 2 (or_t (e:=cA.2.2 != 0) nA) rfl k
     ·exact gc_ nA rfl<|m_ rfl<|gc_ nA rfl<|b_ rfl<|pF nA rfl<|rf 2 (or_f nA) rfl k
end Go.Proofs.YtobbmodjdkcdcaaGreatDoor

/- PRINTED BY gen2.py (of this repo): functions of the program in Lean, and that the machine follows them. -/
import Derived.Test.YtgllljocmpbooaaDoorRs2
set_option linter.unusedVariables false
set_option linter.unusedSimpArgs false
set_option maxRecDepth 20000
namespace Go.Proofs.YtgllljocmpbooaaDoor
open Go Go.Sim Go.ChangeShapes Go.WideShapes Go.ChangeAt Go.RowKit
/-- churn/churnref01.worked -/
noncomputable def f_churnref01_worked (a0 : List Int) (a1 : List Int) (a2 : List Int) (a3 : Int) : Option (List Int) :=
  (((Loop.run (S := (Int × (List Int))) (R := (List Int)) (fun (x3031, x3032) =>
      bif decide (x3031 < 64) then
        ((((bif decide (x3031 < 16) then
          (((Loop.run (S := (Int × (List Int))) (R := (List Int)) (fun (x3844, x3845) =>
              bif decide (x3844 < 4) then
                (idx x3845 x3031).bind fun x3860 =>
                (idx a2 (IntKind.wrap .i64 ((IntKind.wrap .i64 (a3 + (IntKind.wrap .i64 (4 * x3031)))) + x3844))).bind fun x3862 =>
                (idx x3845 x3031).bind fun x3864 =>
                some (.next (IntKind.wrap .i64 (x3844 + 1), List.set x3845 (Int.toNat x3031) (orI .u32 (shlI .u32 x3860 8) (IntKind.wrap .u32 x3862))))
              else
                some (.done x3845)) (0, x3032)).bind fun x3853 =>
          some x3853
            : Option (List Int))).bind fun x3822 =>
          some (.inl x3822)
        else
          some (.inr ())
          : Option ((List Int) ⊕ Unit))).bind fun r3756 => match r3756 with
          | .inl x3755 =>
            some x3755
          | .inr _ =>
            (idx x3032 (IntKind.wrap .i64 (x3031 - 15))).bind fun x3760 =>
            (idx x3032 (IntKind.wrap .i64 (x3031 - 2))).bind fun x3762 =>
            (f_churnref01_turned x3760 7).bind fun y3764 =>
            (f_churnref01_turned x3760 18).bind fun y3766 =>
            (f_churnref01_turned x3762 17).bind fun y3768 =>
            (f_churnref01_turned x3762 19).bind fun y3770 =>
            (idx x3032 (IntKind.wrap .i64 (x3031 - 7))).bind fun x3773 =>
            (idx x3032 (IntKind.wrap .i64 (x3031 - 16))).bind fun x3775 =>
            (idx x3032 x3031).bind fun x3777 =>
            some (List.set x3032 (Int.toNat x3031) (IntKind.wrap .u32 ((IntKind.wrap .u32 ((IntKind.wrap .u32 ((xorI .u32 (xorI .u32 y3768 y3770) (shrI .u32 x3762 10)) + x3773)) + (xorI .u32 (xorI .u32 y3764 y3766) (shrI .u32 x3760 3)))) + x3775)))
          : Option (List Int))).bind fun x3662 =>
        some (.next (IntKind.wrap .i64 (x3031 + 1), x3662))
      else
        some (.done x3032)) (0, (List.replicate 64 (0 : Int)))).bind fun x3451 =>
  some x3451
    : Option (List Int))).bind fun x1689 =>
  (((Loop.run (S := (Int × (List Int))) (R := (List Int)) (fun (x2085, x2086) =>
      bif decide (x2085 < 64) then
        (idx x2086 0).bind fun x2141 =>
        (idx x2086 4).bind fun x2143 =>
        (idx x2086 7).bind fun x2146 =>
        (f_churnref01_turned x2143 6).bind fun y2148 =>
        (f_churnref01_turned x2143 11).bind fun y2150 =>
        (f_churnref01_turned x2143 25).bind fun y2152 =>
        (idx x2086 5).bind fun x2154 =>
        (idx x2086 6).bind fun x2156 =>
        (idx a1 x2085).bind fun x2158 =>
        (idx x1689 x2085).bind fun x2160 =>
        (f_churnref01_turned x2141 2).bind fun y2163 =>
        (f_churnref01_turned x2141 13).bind fun y2165 =>
        (f_churnref01_turned x2141 22).bind fun y2167 =>
        (idx x2086 1).bind fun x2169 =>
        (idx x2086 2).bind fun x2171 =>
        (idx x2086 1).bind fun x2173 =>
        (idx x2086 2).bind fun x2175 =>
        (idx x2086 1).bind fun x2177 =>
        (idx x2086 2).bind fun x2179 =>
        (idx x2086 3).bind fun x2181 =>
        (idx x2086 5).bind fun x2183 =>
        (idx x2086 6).bind fun x2185 =>
        some (.next (IntKind.wrap .i64 (x2085 + 1), [IntKind.wrap .u32 ((IntKind.wrap .u32 ((IntKind.wrap .u32 ((IntKind.wrap .u32 ((IntKind.wrap .u32 (x2146 + (xorI .u32 (xorI .u32 y2148 y2150) y2152))) + (xorI .u32 (andI .u32 x2143 x2154) (andI .u32 (cplI .u32 x2143) x2156)))) + x2158)) + x2160)) + (IntKind.wrap .u32 ((xorI .u32 (xorI .u32 y2163 y2165) y2167) + (xorI .u32 (xorI .u32 (andI .u32 x2141 x2169) (andI .u32 x2141 x2171)) (andI .u32 x2173 x2175))))), x2141, x2177, x2179, IntKind.wrap .u32 (x2181 + (IntKind.wrap .u32 ((IntKind.wrap .u32 ((IntKind.wrap .u32 ((IntKind.wrap .u32 (x2146 + (xorI .u32 (xorI .u32 y2148 y2150) y2152))) + (xorI .u32 (andI .u32 x2143 x2154) (andI .u32 (cplI .u32 x2143) x2156)))) + x2158)) + x2160))), x2143, x2183, x2185]))
      else
        some (.done x2086)) (0, a0)).bind fun x2134 =>
  some x2134
    : Option (List Int))).bind fun x1895 =>
  (((Loop.run (S := (Int × (List Int))) (R := (List Int)) (fun (x1961, x1962) =>
      bif decide (x1961 < 8) then
        (idx x1962 x1961).bind fun x1977 =>
        (idx x1895 x1961).bind fun x1979 =>
        (idx x1962 x1961).bind fun x1981 =>
        some (.next (IntKind.wrap .i64 (x1961 + 1), List.set x1962 (Int.toNat x1961) (IntKind.wrap .u32 (x1977 + x1979))))
      else
        some (.done x1962)) (0, a0)).bind fun x1970 =>
  some x1970
    : Option (List Int))).bind fun x1940 =>
  some x1940
theorem f_churnref01_worked_ok {a0 : List Int} {a1 : List Int} {a2 : List Int} {a3 : Int} {r0 : (List Int)} (hF : f_churnref01_worked a0 a1 a2 a3 = some r0) (L : List Res) : Ok Tryd.prog 85 [SV.val K2 a0, SV.val K0 a1, SV.val K6 a2, SV.raw (.int .i64 a3)] (L) (SV.val K2 r0) (L) := by
  unfold f_churnref01_worked at hF
  refine Ok.intro 184 [(0, .val K2 a0), (1, .val K0 a1), (2, .val K6 a2), (3, .raw (.int .i64 a3))] Tryd.func85 rfl rfl rfl rfl (fun F0 => ?_)
  obtain ⟨r1690, h1691, hF⟩ := bsome hF
  refine sr <| Under.bx (K := kArr 8 K7) rfl rdV rfl fun b1 => Under.bxF (K := kArr 64 K7) rfl rdV rfl <| Under.al ZT98 rfl fun b2 => ns <| Under.al ZT136 rfl fun b3 => nt <| sq <| Under.after (fun X => ∀ (x1689 : List Int), r1690 = x1689 → Under F0 184 [(4, .raw (.pointer (some ⟨b1, 0, none⟩))), (5, .ptr K0 a1), (8, .raw (.pointer (some ⟨b2, 0, none⟩))), (9, .ptr K0 x1689)] ((.box K2 b1 98 a0) :: (.box K2 b2 98 (List.replicate 8 (0 : Int))) :: L) X) ?_ ?_
  ·intro x1689 h3880
   replace h3880 := h3880.symm
   subst h3880
   obtain ⟨r1896, h1897, hF⟩ := bsome hF
   refine sr <| Under.ldP .box .id kt98_kArr_8_kInt_u32_ rfl rfl <| Under.al ZT98 rfl fun b1693 => Under.stP (x' := a0) .box .id sz98_kArr_8_kInt_u32_ rfl rfl rdV rfl <| nt <| sq <| Under.after (fun X => ∀ (x1895 : List Int), r1896 = x1895 → Under F0 184 [(4, .raw (.pointer (some ⟨b1, 0, none⟩))), (8, .raw (.pointer (some ⟨b2, 0, none⟩))), (16, .ptr K2 x1895)] ((.box K2 b1 98 a0) :: (.box K2 b2 98 (List.replicate 8 (0 : Int))) :: L) X) ?_ ?_
   ·intro x1895 h2192
    replace h2192 := h2192.symm
    subst h2192
    obtain ⟨r1941, h1942, hF⟩ := bsome hF
    refine sq <| Under.after (fun X => ∀ (x1940 : List Int), r1941 = x1940 → Under F0 184 [(4, .ptr K2 x1940), (8, .raw (.pointer (some ⟨b2, 0, none⟩)))] ((.box K2 b2 98 (List.replicate 8 (0 : Int))) :: L) X) ?_ ?_
    ·intro x1940 h1988
     replace h1988 := h1988.symm
     subst h1988
     refine sr <| ov (OpV.ld kt98 rfl) rfl <| Under.stP (x' := x1940) .box .id sz98_kArr_8_kInt_u32_ rfl rfl rdV rfl <| nl <| Under.frz (t := 8) rfl <| tn <| rc ?_
     have e1944 := osi hF
     subst e1944
     exact Under.rets Tryd.results85 (.ce rfl kt98 .nil) rfl rfl
    ·intro K k1943
     obtain ⟨r1973, h1974, h1942⟩ := bsome h1942
     refine sr <| ag rfl rfl <| nt <| bk <| Under.fo1 <| Under.fo1 <| Under.loop (S := (Int × (List Int))) (C := Unit) () (fun (x1985 : (Int × (List Int))) (q1986 : Unit) => [(4, .raw (.pointer (some ⟨b1, 0, none⟩))), (8, .raw (.pointer (some ⟨b2, 0, none⟩))), (16, .ptr K2 x1895), (22, .raw (.int .i64 x1985.1))]) (fun (x1985 : (Int × (List Int))) (q1986 : Unit) => (.box K2 b1 98 x1985.2) :: (.box K2 b2 98 (List.replicate 8 (0 : Int))) :: L) h1974 (s4 rfl rfl rfl rfl) rfl (fun x1985 q1986 o1975 h1971 d1972 => ?_)
     obtain ⟨x1961, x1962⟩ := x1985
     dsimp only at h1971 ⊢
     refine sq <| sr <| mv rfl rfl <| bn rfl rfl rfl rfl <| nt <| Under.ite h1971 rfl (fun h1971 => ?_) (fun h1971 => ?_)
     ·obtain ⟨x1977, h1978, h1971⟩ := bsome h1971
      obtain ⟨x1979, h1980, h1971⟩ := bsome h1971
      obtain ⟨x1981, h1982, h1971⟩ := bsome h1971
      refine ct <| sq <| bk <| Under.phases rfl <| Under.fo1 <| Under.fo1 <| Under.grpT (L := L) [0, 1, 2, 3, 4, 5, 6, 7] [[22], [22], [4, 175], [176], [22], [16, 178], [179], [177, 180]] [⟨sk0 (.raw (.int .i64 x1961)), [], [], []⟩, ⟨sk0 (.raw (.int .i64 x1961)), [], [], []⟩, ⟨sk0 (.raw (.pointer (some ⟨b1, 0 + Int.toNat x1961 * 1, none⟩))), [], [], []⟩, ⟨sk0 (.raw (.int .u32 x1977)), [], [], []⟩, ⟨sk0 (.raw (.int .i64 x1961)), [], [], []⟩, ⟨sk0 (.ptr K7 x1979), [], [], []⟩, ⟨sk0 (.raw (.int .u32 x1979)), [], [], []⟩, ⟨sk0 (.raw (.int .u32 (IntKind.wrap .u32 (x1977 + x1979)))), [], [], []⟩] [] (fun T : List Res => (.box K2 b1 98 x1962) :: (.box K2 b2 98 (List.replicate 8 (0 : Int))) :: T) lf2 rfl (by kernel_rfl) rfl rfl (fun F hF0 bs1976 => ?_)
      refine Tq.v (fun G T hG => ?_) ?_
      ·exact mv rfl rfl <| Under.fo1 <| Under.fo1 <| Tq.end undef rfl rfl
      refine Tq.v (fun G T hG => ?_) ?_
      ·exact mv rfl rfl <| Under.fo1 <| Under.fo1 <| Tq.end undef rfl rfl
      refine Tq.v (fun G T hG => ?_) ?_
      ·exact ov (OpV.ixP .box .id h1978 Tryd.underlying98 sz97_kInt_u32 rfl rfl) rfl <| Under.fo1 <| Under.fo1 <| Tq.end undef rfl rfl
      refine Tq.v (fun G T hG => ?_) ?_
      ·exact Under.ldP .box (.ix .id h1978) kt97_kInt_u32 rfl rfl <| Under.rawI (t := 177) rfl <| Under.fo1 <| Under.fo1 <| Tq.end undef rfl rfl
      refine Tq.v (fun G T hG => ?_) ?_
      ·exact mv rfl rfl <| Under.fo1 <| Under.fo1 <| Tq.end undef rfl rfl
      refine Tq.v (fun G T hG => ?_) ?_
      ·exact ov (OpV.ixA h1980 Tryd.underlying98 sz97 rfl rfl) rfl <| Under.fo1 <| Under.fo1 <| Tq.end undef rfl rfl
      refine Tq.v (fun G T hG => ?_) ?_
      ·exact ov (OpV.ldI kt97 rfl) rfl <| Under.fo1 <| Under.fo1 <| Tq.end undef rfl rfl
      refine Tq.v (fun G T hG => ?_) ?_
      ·exact bn rfl rfl rfl rfl <| Under.fo1 <| Under.fo1 <| Tq.end undef rfl rfl
      exact Tq.nil <| Under.le hF0 <| Under.p1 8 rfl rfl <| ov (OpV.ixP .box .id h1982 Tryd.underlying98 sz97_kInt_u32 rfl rfl) rfl <| Under.pn <| Under.p1 9 rfl rfl <| Under.stP (x' := List.set x1962 (Int.toNat x1961) (IntKind.wrap .u32 (x1977 + x1979))) .box (.ix .id h1982) sz97_kInt_u32 rfl rfl rdI rfl <| Under.pn <| Under.pdone rfl <| bN <| tn <| rg <| mv rfl rfl <| bn rfl rfl rfl rfl <| ag rfl rfl <| nl <| Under.fo1 <| Under.fo1 <| Under.next _ () h1971 (s4 rfl rfl rfl rfl) rfl
     ·refine Under.frz (t := 4) rfl <| xt <| te ?_
      have e1983 := done_eq h1971 d1972
      subst e1983
      exact te <| bh <| tn <| wk (k1943 _ (osi h1942).symm) (s2 rfl rfl)
   ·intro K k1898
    obtain ⟨r2137, h2138, h1897⟩ := bsome h1897
    refine sr <| ag rfl rfl <| nt <| bk <| Under.fo2 <| Under.fo2 <| Under.loop (S := (Int × (List Int))) (C := Unit) () (fun (x2189 : (Int × (List Int))) (q2190 : Unit) => [(4, .raw (.pointer (some ⟨b1, 0, none⟩))), (5, .ptr K0 a1), (8, .raw (.pointer (some ⟨b2, 0, none⟩))), (9, .ptr K0 x1689), (16, .raw (.pointer (some ⟨b1693, 0, none⟩))), (17, .raw (.int .i64 x2189.1))]) (fun (x2189 : (Int × (List Int))) (q2190 : Unit) => (.box K2 b1 98 a0) :: (.box K2 b2 98 (List.replicate 8 (0 : Int))) :: (.box K2 b1693 98 x2189.2) :: L) h2138 (s6 rfl rfl rfl rfl rfl rfl) rfl (fun x2189 q2190 o2139 h2135 d2136 => ?_)
    obtain ⟨x2085, x2086⟩ := x2189
    dsimp only at h2135 ⊢
    refine sq <| sr <| mv rfl rfl <| bn rfl rfl rfl rfl <| nt <| Under.ite h2135 rfl (fun h2135 => ?_) (fun h2135 => ?_)
    ·obtain ⟨x2141, h2142, h2135⟩ := bsome h2135
     obtain ⟨x2143, h2144, h2135⟩ := bsome h2135
     refine ct <| sq <| bk <| sq <| Under.phases rfl <| Under.fo2 <| Under.fo2 <| Under.fo2 <| Under.grpT (L := L) [0, 1, 2, 3, 4] [[16], [94], [16], [96], [95]] [⟨sk0 (.raw (.pointer (some ⟨b1693, 0 + Int.toNat 0 * 1, none⟩))), [], [], []⟩, ⟨sk0 (.raw (.int .u32 x2141)), [], [], []⟩, ⟨sk0 (.raw (.pointer (some ⟨b1693, 0 + Int.toNat 4 * 1, none⟩))), [], [], []⟩, ⟨sk0 (.raw (.int .u32 x2143)), [], [], []⟩, ⟨sk0 (.raw (.int .u32 x2141)), [], [], []⟩] [] (fun T : List Res => (.box K2 b1 98 a0) :: (.box K2 b2 98 (List.replicate 8 (0 : Int))) :: (.box K2 b1693 98 x2086) :: T) lf3 rfl (by kernel_rfl) rfl rfl (fun F hF0 bs2140 => ?_)
     refine Tq.v (fun G T hG => ?_) ?_
     ·exact Under.fo2 <| ov (OpV.ixP .box .id h2142 Tryd.underlying98 sz97_kInt_u32 rfl rfl) rfl <| Under.fo2 <| Under.fo2 <| Tq.end undef rfl rfl
     refine Tq.v (fun G T hG => ?_) ?_
     ·exact Under.fo2 <| Under.ldP .box (.ix .id h2142) kt97_kInt_u32 rfl rfl <| Under.rawI (t := 95) rfl <| Under.fo2 <| Under.fo2 <| Tq.end undef rfl rfl
     refine Tq.v (fun G T hG => ?_) ?_
     ·exact Under.fo2 <| ov (OpV.ixP .box .id h2144 Tryd.underlying98 sz97_kInt_u32 rfl rfl) rfl <| Under.fo2 <| Under.fo2 <| Tq.end undef rfl rfl
     refine Tq.v (fun G T hG => ?_) ?_
     ·exact Under.fo2 <| Under.ldP .box (.ix .id h2144) kt97_kInt_u32 rfl rfl <| Under.rawI (t := 97) rfl <| Under.fo2 <| Under.fo2 <| Tq.end undef rfl rfl
     refine Tq.v (fun G T hG => ?_) ?_
     ·exact ag rfl rfl <| Under.fo2 <| Under.fo2 <| Under.fo2 <| Tq.end undef rfl rfl
     obtain ⟨x2146, h2147, h2135⟩ := bsome h2135
     obtain ⟨y2148, h2149, h2135⟩ := bsome h2135
     obtain ⟨y2150, h2151, h2135⟩ := bsome h2135
     obtain ⟨y2152, h2153, h2135⟩ := bsome h2135
     obtain ⟨x2154, h2155, h2135⟩ := bsome h2135
     obtain ⟨x2156, h2157, h2135⟩ := bsome h2135
     obtain ⟨x2158, h2159, h2135⟩ := bsome h2135
     obtain ⟨x2160, h2161, h2135⟩ := bsome h2135
     refine Tq.nil <| Under.le hF0 <| Under.p1 5 rfl rfl <| ag rfl rfl <| Under.pn <| Under.pdone rfl <| tn <| sq <| Under.phases rfl <| Under.fo2 <| Under.fo2 <| Under.fo2 <| Under.grpT (L := L) [0, 1, 2, 3, 4, 5, 6, 7, 8, 9, 10, 11, 12, 13, 14, 15, 16, 17, 18, 19, 20, 21, 22, 23, 24, 25, 26, 27, 28] [[16], [98], [19], [100], [19], [102], [101, 103], [19], [105], [104, 106], [99, 107], [19], [16], [110], [109, 111], [19], [113], [16], [115], [114, 116], [112, 117], [108, 118], [17], [5, 120], [121], [119, 122], [17], [9, 124], [125]] [⟨sk0 (.raw (.pointer (some ⟨b1693, 0 + Int.toNat 7 * 1, none⟩))), [], [], []⟩, ⟨sk0 (.raw (.int .u32 x2146)), [], [], []⟩, ⟨sk0 (.raw (.int .u32 x2143)), [], [], []⟩, ⟨sk0 (.raw (.int .u32 y2148)), [], [], []⟩, ⟨sk0 (.raw (.int .u32 x2143)), [], [], []⟩, ⟨sk0 (.raw (.int .u32 y2150)), [], [], []⟩, ⟨sk0 (.raw (.int .u32 (xorI .u32 y2148 y2150))), [], [], []⟩, ⟨sk0 (.raw (.int .u32 x2143)), [], [], []⟩, ⟨sk0 (.raw (.int .u32 y2152)), [], [], []⟩, ⟨sk0 (.raw (.int .u32 (xorI .u32 (xorI .u32 y2148 y2150) y2152))), [], [], []⟩, ⟨sk0 (.raw (.int .u32 (IntKind.wrap .u32 (x2146 + (xorI .u32 (xorI .u32 y2148 y2150) y2152))))), [], [], []⟩, ⟨sk0 (.raw (.int .u32 x2143)), [], [], []⟩, ⟨sk0 (.raw (.pointer (some ⟨b1693, 0 + Int.toNat 5 * 1, none⟩))), [], [], []⟩, ⟨sk0 (.raw (.int .u32 x2154)), [], [], []⟩, ⟨sk0 (.raw (.int .u32 (andI .u32 x2143 x2154))), [], [], []⟩, ⟨sk0 (.raw (.int .u32 x2143)), [], [], []⟩, ⟨sk0 (.raw (.int .u32 (cplI .u32 x2143))), [], [], []⟩, ⟨sk0 (.raw (.pointer (some ⟨b1693, 0 + Int.toNat 6 * 1, none⟩))), [], [], []⟩, ⟨sk0 (.raw (.int .u32 x2156)), [], [], []⟩, ⟨sk0 (.raw (.int .u32 (andI .u32 (cplI .u32 x2143) x2156))), [], [], []⟩, ⟨sk0 (.raw (.int .u32 (xorI .u32 (andI .u32 x2143 x2154) (andI .u32 (cplI .u32 x2143) x2156)))), [], [], []⟩, ⟨sk0 (.raw (.int .u32 (IntKind.wrap .u32 ((IntKind.wrap .u32 (x2146 + (xorI .u32 (xorI .u32 y2148 y2150) y2152))) + (xorI .u32 (andI .u32 x2143 x2154) (andI .u32 (cplI .u32 x2143) x2156)))))), [], [], []⟩, ⟨sk0 (.raw (.int .i64 x2085)), [], [], []⟩, ⟨sk0 (.ptr K7 x2158), [], [], []⟩, ⟨sk0 (.raw (.int .u32 x2158)), [], [], []⟩, ⟨sk0 (.raw (.int .u32 (IntKind.wrap .u32 ((IntKind.wrap .u32 ((IntKind.wrap .u32 (x2146 + (xorI .u32 (xorI .u32 y2148 y2150) y2152))) + (xorI .u32 (andI .u32 x2143 x2154) (andI .u32 (cplI .u32 x2143) x2156)))) + x2158)))), [], [], []⟩, ⟨sk0 (.raw (.int .i64 x2085)), [], [], []⟩, ⟨sk0 (.ptr K7 x2160), [], [], []⟩, ⟨sk0 (.raw (.int .u32 x2160)), [], [], []⟩] [] (fun T : List Res => (.box K2 b1 98 a0) :: (.box K2 b2 98 (List.replicate 8 (0 : Int))) :: (.box K2 b1693 98 x2086) :: T) lf3 rfl (by kernel_rfl) rfl rfl (fun F hF0 bs2145 => ?_)
     refine Tq.v (fun G T hG => ?_) ?_
     ·exact Under.fo2 <| ov (OpV.ixP .box .id h2147 Tryd.underlying98 sz97_kInt_u32 rfl rfl) rfl <| Under.fo2 <| Under.fo2 <| Tq.end undef rfl rfl
     refine Tq.v (fun G T hG => ?_) ?_
     ·exact Under.fo2 <| Under.ldP .box (.ix .id h2147) kt97_kInt_u32 rfl rfl <| Under.rawI (t := 99) rfl <| Under.fo2 <| Under.fo2 <| Tq.end undef rfl rfl
     refine Tq.v (fun G T hG => ?_) ?_
     ·exact mv rfl rfl <| Under.fo2 <| Under.fo2 <| Under.fo2 <| Tq.end undef rfl rfl
     refine Tq.v (fun G T hG => ?_) ?_
     ·exact Under.call Tryd.call86 rfl rfl (f_churnref01_turned_ok h2149 _) rfl <| Under.fo2 <| Under.fo2 <| Under.fo2 <| Tq.end undef rfl rfl
     refine Tq.v (fun G T hG => ?_) ?_
     ·exact mv rfl rfl <| Under.fo2 <| Under.fo2 <| Under.fo2 <| Tq.end undef rfl rfl
     refine Tq.v (fun G T hG => ?_) ?_
     ·exact Under.call Tryd.call86 rfl rfl (f_churnref01_turned_ok h2151 _) rfl <| Under.fo2 <| Under.fo2 <| Under.fo2 <| Tq.end undef rfl rfl
     refine Tq.v (fun G T hG => ?_) ?_
     ·exact bn rfl rfl rfl rfl <| Under.fo2 <| Under.fo2 <| Under.fo2 <| Tq.end undef rfl rfl
     refine Tq.v (fun G T hG => ?_) ?_
     ·exact mv rfl rfl <| Under.fo2 <| Under.fo2 <| Under.fo2 <| Tq.end undef rfl rfl
     refine Tq.v (fun G T hG => ?_) ?_
     ·exact Under.call Tryd.call86 rfl rfl (f_churnref01_turned_ok h2153 _) rfl <| Under.fo2 <| Under.fo2 <| Under.fo2 <| Tq.end undef rfl rfl
     refine Tq.v (fun G T hG => ?_) ?_
     ·exact bn rfl rfl rfl rfl <| Under.fo2 <| Under.fo2 <| Under.fo2 <| Tq.end undef rfl rfl
     refine Tq.v (fun G T hG => ?_) ?_
     ·exact bn rfl rfl rfl rfl <| Under.fo2 <| Under.fo2 <| Under.fo2 <| Tq.end undef rfl rfl
     refine Tq.v (fun G T hG => ?_) ?_
     ·exact mv rfl rfl <| Under.fo2 <| Under.fo2 <| Under.fo2 <| Tq.end undef rfl rfl
     refine Tq.v (fun G T hG => ?_) ?_
     ·exact Under.fo2 <| ov (OpV.ixP .box .id h2155 Tryd.underlying98 sz97_kInt_u32 rfl rfl) rfl <| Under.fo2 <| Under.fo2 <| Tq.end undef rfl rfl
     refine Tq.v (fun G T hG => ?_) ?_
     ·exact Under.fo2 <| Under.ldP .box (.ix .id h2155) kt97_kInt_u32 rfl rfl <| Under.rawI (t := 111) rfl <| Under.fo2 <| Under.fo2 <| Tq.end undef rfl rfl
     refine Tq.v (fun G T hG => ?_) ?_
     ·exact bn rfl rfl rfl rfl <| Under.fo2 <| Under.fo2 <| Under.fo2 <| Tq.end undef rfl rfl
     refine Tq.v (fun G T hG => ?_) ?_
     ·exact mv rfl rfl <| Under.fo2 <| Under.fo2 <| Under.fo2 <| Tq.end undef rfl rfl
     refine Tq.v (fun G T hG => ?_) ?_
     ·exact ov (OpV.cpl rfl) rfl <| Under.fo2 <| Under.fo2 <| Under.fo2 <| Tq.end undef rfl rfl
     refine Tq.v (fun G T hG => ?_) ?_
     ·exact Under.fo2 <| ov (OpV.ixP .box .id h2157 Tryd.underlying98 sz97_kInt_u32 rfl rfl) rfl <| Under.fo2 <| Under.fo2 <| Tq.end undef rfl rfl
     refine Tq.v (fun G T hG => ?_) ?_
     ·exact Under.fo2 <| Under.ldP .box (.ix .id h2157) kt97_kInt_u32 rfl rfl <| Under.rawI (t := 116) rfl <| Under.fo2 <| Under.fo2 <| Tq.end undef rfl rfl
     refine Tq.v (fun G T hG => ?_) ?_
     ·exact bn rfl rfl rfl rfl <| Under.fo2 <| Under.fo2 <| Under.fo2 <| Tq.end undef rfl rfl
     refine Tq.v (fun G T hG => ?_) ?_
     ·exact bn rfl rfl rfl rfl <| Under.fo2 <| Under.fo2 <| Under.fo2 <| Tq.end undef rfl rfl
     refine Tq.v (fun G T hG => ?_) ?_
     ·exact bn rfl rfl rfl rfl <| Under.fo2 <| Under.fo2 <| Under.fo2 <| Tq.end undef rfl rfl
     refine Tq.v (fun G T hG => ?_) ?_
     ·exact mv rfl rfl <| Under.fo2 <| Under.fo2 <| Under.fo2 <| Tq.end undef rfl rfl
     refine Tq.v (fun G T hG => ?_) ?_
     ·exact ov (OpV.ixA h2159 Tryd.underlying136 sz97 rfl rfl) rfl <| Under.fo2 <| Under.fo2 <| Under.fo2 <| Tq.end undef rfl rfl
     refine Tq.v (fun G T hG => ?_) ?_
     ·exact ov (OpV.ldI kt97 rfl) rfl <| Under.fo2 <| Under.fo2 <| Under.fo2 <| Tq.end undef rfl rfl
     refine Tq.v (fun G T hG => ?_) ?_
     ·exact bn rfl rfl rfl rfl <| Under.fo2 <| Under.fo2 <| Under.fo2 <| Tq.end undef rfl rfl
     refine Tq.v (fun G T hG => ?_) ?_
     ·exact mv rfl rfl <| Under.fo2 <| Under.fo2 <| Under.fo2 <| Tq.end undef rfl rfl
     refine Tq.v (fun G T hG => ?_) ?_
     ·exact ov (OpV.ixA h2161 Tryd.underlying136 sz97 rfl rfl) rfl <| Under.fo2 <| Under.fo2 <| Under.fo2 <| Tq.end undef rfl rfl
     refine Tq.v (fun G T hG => ?_) ?_
     ·exact ov (OpV.ldI kt97 rfl) rfl <| Under.fo2 <| Under.fo2 <| Under.fo2 <| Tq.end undef rfl rfl
     obtain ⟨y2163, h2164, h2135⟩ := bsome h2135
     obtain ⟨y2165, h2166, h2135⟩ := bsome h2135
     obtain ⟨y2167, h2168, h2135⟩ := bsome h2135
     obtain ⟨x2169, h2170, h2135⟩ := bsome h2135
     obtain ⟨x2171, h2172, h2135⟩ := bsome h2135
     obtain ⟨x2173, h2174, h2135⟩ := bsome h2135
     obtain ⟨x2175, h2176, h2135⟩ := bsome h2135
     refine Tq.nil <| Under.le hF0 <| Under.p1 29 rfl rfl <| bn rfl rfl rfl rfl <| Under.pn <| Under.p1 30 rfl rfl <| ag rfl rfl <| Under.pn <| Under.pdone rfl <| tn <| sq <| Under.phases rfl <| Under.fo2 <| Under.fo2 <| Under.fo2 <| Under.grpT (L := L) [0, 1, 2, 3, 4, 5, 6, 7, 8, 9, 10, 11, 12, 13, 14, 15, 16, 17, 18, 19, 20, 21, 22] [[18], [128], [18], [130], [129, 131], [18], [133], [132, 134], [18], [16], [137], [136, 138], [18], [16], [141], [140, 142], [139, 143], [16], [145], [16], [147], [146, 148], [144, 149]] [⟨sk0 (.raw (.int .u32 x2141)), [], [], []⟩, ⟨sk0 (.raw (.int .u32 y2163)), [], [], []⟩, ⟨sk0 (.raw (.int .u32 x2141)), [], [], []⟩, ⟨sk0 (.raw (.int .u32 y2165)), [], [], []⟩, ⟨sk0 (.raw (.int .u32 (xorI .u32 y2163 y2165))), [], [], []⟩, ⟨sk0 (.raw (.int .u32 x2141)), [], [], []⟩, ⟨sk0 (.raw (.int .u32 y2167)), [], [], []⟩, ⟨sk0 (.raw (.int .u32 (xorI .u32 (xorI .u32 y2163 y2165) y2167))), [], [], []⟩, ⟨sk0 (.raw (.int .u32 x2141)), [], [], []⟩, ⟨sk0 (.raw (.pointer (some ⟨b1693, 0 + Int.toNat 1 * 1, none⟩))), [], [], []⟩, ⟨sk0 (.raw (.int .u32 x2169)), [], [], []⟩, ⟨sk0 (.raw (.int .u32 (andI .u32 x2141 x2169))), [], [], []⟩, ⟨sk0 (.raw (.int .u32 x2141)), [], [], []⟩, ⟨sk0 (.raw (.pointer (some ⟨b1693, 0 + Int.toNat 2 * 1, none⟩))), [], [], []⟩, ⟨sk0 (.raw (.int .u32 x2171)), [], [], []⟩, ⟨sk0 (.raw (.int .u32 (andI .u32 x2141 x2171))), [], [], []⟩, ⟨sk0 (.raw (.int .u32 (xorI .u32 (andI .u32 x2141 x2169) (andI .u32 x2141 x2171)))), [], [], []⟩, ⟨sk0 (.raw (.pointer (some ⟨b1693, 0 + Int.toNat 1 * 1, none⟩))), [], [], []⟩, ⟨sk0 (.raw (.int .u32 x2173)), [], [], []⟩, ⟨sk0 (.raw (.pointer (some ⟨b1693, 0 + Int.toNat 2 * 1, none⟩))), [], [], []⟩, ⟨sk0 (.raw (.int .u32 x2175)), [], [], []⟩, ⟨sk0 (.raw (.int .u32 (andI .u32 x2173 x2175))), [], [], []⟩, ⟨sk0 (.raw (.int .u32 (xorI .u32 (xorI .u32 (andI .u32 x2141 x2169) (andI .u32 x2141 x2171)) (andI .u32 x2173 x2175)))), [], [], []⟩] [] (fun T : List Res => (.box K2 b1 98 a0) :: (.box K2 b2 98 (List.replicate 8 (0 : Int))) :: (.box K2 b1693 98 x2086) :: T) lf3 rfl (by kernel_rfl) rfl rfl (fun F hF0 bs2162 => ?_)
     refine Tq.v (fun G T hG => ?_) ?_
     ·exact mv rfl rfl <| Under.fo2 <| Under.fo2 <| Under.fo2 <| Tq.end undef rfl rfl
     refine Tq.v (fun G T hG => ?_) ?_
     ·exact Under.call Tryd.call86 rfl rfl (f_churnref01_turned_ok h2164 _) rfl <| Under.fo2 <| Under.fo2 <| Under.fo2 <| Tq.end undef rfl rfl
     refine Tq.v (fun G T hG => ?_) ?_
     ·exact mv rfl rfl <| Under.fo2 <| Under.fo2 <| Under.fo2 <| Tq.end undef rfl rfl
     refine Tq.v (fun G T hG => ?_) ?_
     ·exact Under.call Tryd.call86 rfl rfl (f_churnref01_turned_ok h2166 _) rfl <| Under.fo2 <| Under.fo2 <| Under.fo2 <| Tq.end undef rfl rfl
     refine Tq.v (fun G T hG => ?_) ?_
     ·exact bn rfl rfl rfl rfl <| Under.fo2 <| Under.fo2 <| Under.fo2 <| Tq.end undef rfl rfl
     refine Tq.v (fun G T hG => ?_) ?_
     ·exact mv rfl rfl <| Under.fo2 <| Under.fo2 <| Under.fo2 <| Tq.end undef rfl rfl
     refine Tq.v (fun G T hG => ?_) ?_
     ·exact Under.call Tryd.call86 rfl rfl (f_churnref01_turned_ok h2168 _) rfl <| Under.fo2 <| Under.fo2 <| Under.fo2 <| Tq.end undef rfl rfl
     refine Tq.v (fun G T hG => ?_) ?_
     ·exact bn rfl rfl rfl rfl <| Under.fo2 <| Under.fo2 <| Under.fo2 <| Tq.end undef rfl rfl
     refine Tq.v (fun G T hG => ?_) ?_
     ·exact mv rfl rfl <| Under.fo2 <| Under.fo2 <| Under.fo2 <| Tq.end undef rfl rfl
     refine Tq.v (fun G T hG => ?_) ?_
     ·exact Under.fo2 <| ov (OpV.ixP .box .id h2170 Tryd.underlying98 sz97_kInt_u32 rfl rfl) rfl <| Under.fo2 <| Under.fo2 <| Tq.end undef rfl rfl
     refine Tq.v (fun G T hG => ?_) ?_
     ·exact Under.fo2 <| Under.ldP .box (.ix .id h2170) kt97_kInt_u32 rfl rfl <| Under.rawI (t := 138) rfl <| Under.fo2 <| Under.fo2 <| Tq.end undef rfl rfl
     refine Tq.v (fun G T hG => ?_) ?_
     ·exact bn rfl rfl rfl rfl <| Under.fo2 <| Under.fo2 <| Under.fo2 <| Tq.end undef rfl rfl
     refine Tq.v (fun G T hG => ?_) ?_
     ·exact mv rfl rfl <| Under.fo2 <| Under.fo2 <| Under.fo2 <| Tq.end undef rfl rfl
     refine Tq.v (fun G T hG => ?_) ?_
     ·exact Under.fo2 <| ov (OpV.ixP .box .id h2172 Tryd.underlying98 sz97_kInt_u32 rfl rfl) rfl <| Under.fo2 <| Under.fo2 <| Tq.end undef rfl rfl
     refine Tq.v (fun G T hG => ?_) ?_
     ·exact Under.fo2 <| Under.ldP .box (.ix .id h2172) kt97_kInt_u32 rfl rfl <| Under.rawI (t := 142) rfl <| Under.fo2 <| Under.fo2 <| Tq.end undef rfl rfl
     refine Tq.v (fun G T hG => ?_) ?_
     ·exact bn rfl rfl rfl rfl <| Under.fo2 <| Under.fo2 <| Under.fo2 <| Tq.end undef rfl rfl
     refine Tq.v (fun G T hG => ?_) ?_
     ·exact bn rfl rfl rfl rfl <| Under.fo2 <| Under.fo2 <| Under.fo2 <| Tq.end undef rfl rfl
     refine Tq.v (fun G T hG => ?_) ?_
     ·exact Under.fo2 <| ov (OpV.ixP .box .id h2174 Tryd.underlying98 sz97_kInt_u32 rfl rfl) rfl <| Under.fo2 <| Under.fo2 <| Tq.end undef rfl rfl
     refine Tq.v (fun G T hG => ?_) ?_
     ·exact Under.fo2 <| Under.ldP .box (.ix .id h2174) kt97_kInt_u32 rfl rfl <| Under.rawI (t := 146) rfl <| Under.fo2 <| Under.fo2 <| Tq.end undef rfl rfl
     refine Tq.v (fun G T hG => ?_) ?_
     ·exact Under.fo2 <| ov (OpV.ixP .box .id h2176 Tryd.underlying98 sz97_kInt_u32 rfl rfl) rfl <| Under.fo2 <| Under.fo2 <| Tq.end undef rfl rfl
     refine Tq.v (fun G T hG => ?_) ?_
     ·exact Under.fo2 <| Under.ldP .box (.ix .id h2176) kt97_kInt_u32 rfl rfl <| Under.rawI (t := 148) rfl <| Under.fo2 <| Under.fo2 <| Tq.end undef rfl rfl
     refine Tq.v (fun G T hG => ?_) ?_
     ·exact bn rfl rfl rfl rfl <| Under.fo2 <| Under.fo2 <| Under.fo2 <| Tq.end undef rfl rfl
     refine Tq.v (fun G T hG => ?_) ?_
     ·exact bn rfl rfl rfl rfl <| Under.fo2 <| Under.fo2 <| Under.fo2 <| Tq.end undef rfl rfl
     obtain ⟨x2177, h2178, h2135⟩ := bsome h2135
     obtain ⟨x2179, h2180, h2135⟩ := bsome h2135
     obtain ⟨x2181, h2182, h2135⟩ := bsome h2135
     obtain ⟨x2183, h2184, h2135⟩ := bsome h2135
     obtain ⟨x2185, h2186, h2135⟩ := bsome h2135
     exact Tq.nil <| Under.le hF0 <| Under.p1 23 rfl rfl <| bn rfl rfl rfl rfl <| Under.pn <| Under.p1 24 rfl rfl <| ag rfl rfl <| Under.pn <| Under.pdone rfl <| tn <| rg <| mv rfl rfl <| mv rfl rfl <| bn rfl rfl rfl rfl <| mv rfl rfl <| Under.fo2 <| ov (OpV.ixP .box .id h2178 Tryd.underlying98 sz97_kInt_u32 rfl rfl) rfl <| Under.ldP .box (.ix .id h2178) kt97_kInt_u32 rfl rfl <| Under.rawI (t := 157) rfl <| ov (OpV.ixP .box .id h2180 Tryd.underlying98 sz97_kInt_u32 rfl rfl) rfl <| Under.ldP .box (.ix .id h2180) kt97_kInt_u32 rfl rfl <| Under.rawI (t := 159) rfl <| ov (OpV.ixP .box .id h2182 Tryd.underlying98 sz97_kInt_u32 rfl rfl) rfl <| Under.ldP .box (.ix .id h2182) kt97_kInt_u32 rfl rfl <| Under.rawI (t := 161) rfl <| mv rfl rfl <| bn rfl rfl rfl rfl <| mv rfl rfl <| ov (OpV.ixP .box .id h2184 Tryd.underlying98 sz97_kInt_u32 rfl rfl) rfl <| Under.ldP .box (.ix .id h2184) kt97_kInt_u32 rfl rfl <| Under.rawI (t := 166) rfl <| ov (OpV.ixP .box .id h2186 Tryd.underlying98 sz97_kInt_u32 rfl rfl) rfl <| Under.ldP .box (.ix .id h2186) kt97_kInt_u32 rfl rfl <| Under.rawI (t := 168) rfl <| ov (OpV.bar (ys := [IntKind.wrap .u32 ((IntKind.wrap .u32 ((IntKind.wrap .u32 ((IntKind.wrap .u32 ((IntKind.wrap .u32 (x2146 + (xorI .u32 (xorI .u32 y2148 y2150) y2152))) + (xorI .u32 (andI .u32 x2143 x2154) (andI .u32 (cplI .u32 x2143) x2156)))) + x2158)) + x2160)) + (IntKind.wrap .u32 ((xorI .u32 (xorI .u32 y2163 y2165) y2167) + (xorI .u32 (xorI .u32 (andI .u32 x2141 x2169) (andI .u32 x2141 x2171)) (andI .u32 x2173 x2175))))), x2141, x2177, x2179, IntKind.wrap .u32 (x2181 + (IntKind.wrap .u32 ((IntKind.wrap .u32 ((IntKind.wrap .u32 ((IntKind.wrap .u32 (x2146 + (xorI .u32 (xorI .u32 y2148 y2150) y2152))) + (xorI .u32 (andI .u32 x2143 x2154) (andI .u32 (cplI .u32 x2143) x2156)))) + x2158)) + x2160))), x2143, x2183, x2185]) BTA98 (BldA.cons rfl rfl rdI (BldA.cons rfl rfl rdI (BldA.cons rfl rfl rdI (BldA.cons rfl rfl rdI (BldA.cons rfl rfl rdI (BldA.cons rfl rfl rdI (BldA.cons rfl rfl rdI (BldA.cons rfl rfl rdI (BldA.nil _)))))))))) rfl <| Under.stP (x' := [IntKind.wrap .u32 ((IntKind.wrap .u32 ((IntKind.wrap .u32 ((IntKind.wrap .u32 ((IntKind.wrap .u32 (x2146 + (xorI .u32 (xorI .u32 y2148 y2150) y2152))) + (xorI .u32 (andI .u32 x2143 x2154) (andI .u32 (cplI .u32 x2143) x2156)))) + x2158)) + x2160)) + (IntKind.wrap .u32 ((xorI .u32 (xorI .u32 y2163 y2165) y2167) + (xorI .u32 (xorI .u32 (andI .u32 x2141 x2169) (andI .u32 x2141 x2171)) (andI .u32 x2173 x2175))))), x2141, x2177, x2179, IntKind.wrap .u32 (x2181 + (IntKind.wrap .u32 ((IntKind.wrap .u32 ((IntKind.wrap .u32 ((IntKind.wrap .u32 (x2146 + (xorI .u32 (xorI .u32 y2148 y2150) y2152))) + (xorI .u32 (andI .u32 x2143 x2154) (andI .u32 (cplI .u32 x2143) x2156)))) + x2158)) + x2160))), x2143, x2183, x2185]) .box .id sz98_kArr_8_kInt_u32_ rfl rfl rdV rfl <| nl <| bN <| tn <| rg <| mv rfl rfl <| bn rfl rfl rfl rfl <| ag rfl rfl <| nl <| Under.fo2 <| Under.fo2 <| Under.next _ () h2135 (s6 rfl rfl rfl rfl rfl rfl) rfl
    ·refine Under.fo2 <| Under.frz (t := 16) rfl <| xt <| te ?_
     have e2187 := done_eq h2135 d2136
     subst e2187
     exact te <| bh <| tn <| Under.fo1 <| Under.fo1 <| wk (k1898 _ (osi h1897).symm) (s3 rfl rfl rfl)
  ·intro K k1692
   obtain ⟨r3454, h3455, h1691⟩ := bsome h1691
   refine sr <| ag rfl rfl <| nt <| bk <| Under.fo1 <| Under.fo2 <| Under.loop (S := (Int × (List Int))) (C := Unit) () (fun (x3877 : (Int × (List Int))) (q3878 : Unit) => [(2, .val K6 a2), (3, .raw (.int .i64 a3)), (4, .raw (.pointer (some ⟨b1, 0, none⟩))), (5, .ptr K0 a1), (8, .raw (.pointer (some ⟨b2, 0, none⟩))), (9, .raw (.pointer (some ⟨b3, 0, none⟩))), (10, .raw (.int .i64 x3877.1))]) (fun (x3877 : (Int × (List Int))) (q3878 : Unit) => (.box K2 b1 98 a0) :: (.box K2 b2 98 (List.replicate 8 (0 : Int))) :: (.box K0 b3 136 x3877.2) :: L) h3455 (s7 rfl rfl rfl rfl rfl rfl rfl) rfl (fun x3877 q3878 o3456 h3452 d3453 => ?_)
   obtain ⟨x3031, x3032⟩ := x3877
   dsimp only at h3452 ⊢
   refine sq <| sr <| mv rfl rfl <| bn rfl rfl rfl rfl <| nt <| Under.ite h3452 rfl (fun h3452 => ?_) (fun h3452 => ?_)
   ·obtain ⟨r3663, h3664, h3452⟩ := bsome h3452
    refine ct <| sq <| Under.after (fun X => ∀ (x3662 : List Int), r3663 = x3662 → Under F0 184 [(2, .val K6 a2), (3, .raw (.int .i64 a3)), (4, .raw (.pointer (some ⟨b1, 0, none⟩))), (5, .ptr K0 a1), (8, .raw (.pointer (some ⟨b2, 0, none⟩))), (9, .raw (.pointer (some ⟨b3, 0, none⟩))), (10, .raw (.int .i64 x3031))] ((.box K2 b1 98 a0) :: (.box K2 b2 98 (List.replicate 8 (0 : Int))) :: (.box K0 b3 136 x3662) :: L) X) ?_ ?_
    ·intro x3662 h3874
     replace h3874 := h3874.symm
     subst h3874
     exact rg <| mv rfl rfl <| bn rfl rfl rfl rfl <| ag rfl rfl <| nl <| Under.fo2 <| Under.fo2 <| Under.fo2 <| Under.next _ () h3452 (s7 rfl rfl rfl rfl rfl rfl rfl) rfl
    ·intro K k3665
     obtain ⟨r3756, h3757, h3664⟩ := bsome h3664
     refine bk <| sq <| Under.after (fun X => ∀ (_ : Unit), r3756 = (.inr ()) → Under F0 184 [(2, .val K6 a2), (3, .raw (.int .i64 a3)), (4, .raw (.pointer (some ⟨b1, 0, none⟩))), (5, .ptr K0 a1), (8, .raw (.pointer (some ⟨b2, 0, none⟩))), (9, .raw (.pointer (some ⟨b3, 0, none⟩))), (10, .raw (.int .i64 x3031))] ((.box K2 b1 98 a0) :: (.box K2 b2 98 (List.replicate 8 (0 : Int))) :: (.box K0 b3 136 x3032) :: L) X) ?_ ?_
     ·intro _ h3873
      replace h3873 := h3873.symm
      subst h3873
      obtain ⟨x3760, h3761, h3664⟩ := bsome h3664
      obtain ⟨x3762, h3763, h3664⟩ := bsome h3664
      refine sq <| Under.phases rfl <| Under.fo2 <| Under.fo2 <| Under.fo2 <| Under.grpT (L := L) [0, 1, 2, 3, 4, 5, 6, 7, 8] [[10], [50], [9, 51], [52], [10], [54], [9, 55], [56], [53]] [⟨sk0 (.raw (.int .i64 x3031)), [], [], []⟩, ⟨sk0 (.raw (.int .i64 (IntKind.wrap .i64 (x3031 - 15)))), [], [], []⟩, ⟨sk0 (.raw (.pointer (some ⟨b3, 0 + Int.toNat (IntKind.wrap .i64 (x3031 - 15)) * 1, none⟩))), [], [], []⟩, ⟨sk0 (.raw (.int .u32 x3760)), [], [], []⟩, ⟨sk0 (.raw (.int .i64 x3031)), [], [], []⟩, ⟨sk0 (.raw (.int .i64 (IntKind.wrap .i64 (x3031 - 2)))), [], [], []⟩, ⟨sk0 (.raw (.pointer (some ⟨b3, 0 + Int.toNat (IntKind.wrap .i64 (x3031 - 2)) * 1, none⟩))), [], [], []⟩, ⟨sk0 (.raw (.int .u32 x3762)), [], [], []⟩, ⟨sk0 (.raw (.int .u32 x3760)), [], [], []⟩] [] (fun T : List Res => (.box K2 b1 98 a0) :: (.box K2 b2 98 (List.replicate 8 (0 : Int))) :: (.box K0 b3 136 x3032) :: T) lf3 rfl (by kernel_rfl) rfl rfl (fun F hF0 bs3759 => ?_)
      refine Tq.v (fun G T hG => ?_) ?_
      ·exact mv rfl rfl <| Under.fo2 <| Under.fo2 <| Under.fo2 <| Tq.end undef rfl rfl
      refine Tq.v (fun G T hG => ?_) ?_
      ·exact bn rfl rfl rfl rfl <| Under.fo2 <| Under.fo2 <| Under.fo2 <| Tq.end undef rfl rfl
      refine Tq.v (fun G T hG => ?_) ?_
      ·exact Under.fo2 <| ov (OpV.ixP .box .id h3761 Tryd.underlying136 sz97_kInt_u32 rfl rfl) rfl <| Under.fo2 <| Under.fo2 <| Tq.end undef rfl rfl
      refine Tq.v (fun G T hG => ?_) ?_
      ·exact Under.fo2 <| Under.ldP .box (.ix .id h3761) kt97_kInt_u32 rfl rfl <| Under.rawI (t := 53) rfl <| Under.fo2 <| Under.fo2 <| Tq.end undef rfl rfl
      refine Tq.v (fun G T hG => ?_) ?_
      ·exact mv rfl rfl <| Under.fo2 <| Under.fo2 <| Under.fo2 <| Tq.end undef rfl rfl
      refine Tq.v (fun G T hG => ?_) ?_
      ·exact bn rfl rfl rfl rfl <| Under.fo2 <| Under.fo2 <| Under.fo2 <| Tq.end undef rfl rfl
      refine Tq.v (fun G T hG => ?_) ?_
      ·exact Under.fo2 <| ov (OpV.ixP .box .id h3763 Tryd.underlying136 sz97_kInt_u32 rfl rfl) rfl <| Under.fo2 <| Under.fo2 <| Tq.end undef rfl rfl
      refine Tq.v (fun G T hG => ?_) ?_
      ·exact Under.fo2 <| Under.ldP .box (.ix .id h3763) kt97_kInt_u32 rfl rfl <| Under.rawI (t := 57) rfl <| Under.fo2 <| Under.fo2 <| Tq.end undef rfl rfl
      refine Tq.v (fun G T hG => ?_) ?_
      ·exact ag rfl rfl <| Under.fo2 <| Under.fo2 <| Under.fo2 <| Tq.end undef rfl rfl
      obtain ⟨y3764, h3765, h3664⟩ := bsome h3664
      obtain ⟨y3766, h3767, h3664⟩ := bsome h3664
      obtain ⟨y3768, h3769, h3664⟩ := bsome h3664
      obtain ⟨y3770, h3771, h3664⟩ := bsome h3664
      obtain ⟨x3773, h3774, h3664⟩ := bsome h3664
      obtain ⟨x3775, h3776, h3664⟩ := bsome h3664
      obtain ⟨x3777, h3778, h3664⟩ := bsome h3664
      refine Tq.nil <| Under.le hF0 <| Under.p1 9 rfl rfl <| ag rfl rfl <| Under.pn <| Under.pdone rfl <| tn <| sr <| mv rfl rfl <| Under.call Tryd.call86 rfl rfl (f_churnref01_turned_ok h3765 _) rfl <| mv rfl rfl <| Under.call Tryd.call86 rfl rfl (f_churnref01_turned_ok h3767 _) rfl <| bn rfl rfl rfl rfl <| mv rfl rfl <| ov (OpV.sh rfl rfl (by decide) rfl) rfl <| bn rfl rfl rfl rfl <| ag rfl rfl <| ns <| mv rfl rfl <| Under.call Tryd.call86 rfl rfl (f_churnref01_turned_ok h3769 _) rfl <| mv rfl rfl <| Under.call Tryd.call86 rfl rfl (f_churnref01_turned_ok h3771 _) rfl <| bn rfl rfl rfl rfl <| mv rfl rfl <| ov (OpV.sh rfl rfl (by decide) rfl) rfl <| bn rfl rfl rfl rfl <| ag rfl rfl <| nt <| Under.phases rfl <| Under.fo2 <| Under.fo2 <| Under.fo2 <| Under.grpT (L := L) [0, 1, 2, 3, 4, 5, 6, 7, 8, 9, 10, 11, 12, 13] [[10], [15], [10], [76], [9, 77], [78], [75, 79], [14], [80, 81], [10], [83], [9, 84], [85], [82, 86]] [⟨sk0 (.raw (.int .i64 x3031)), [], [], []⟩, ⟨sk0 (.raw (.int .u32 (xorI .u32 (xorI .u32 y3768 y3770) (shrI .u32 x3762 10)))), [], [], []⟩, ⟨sk0 (.raw (.int .i64 x3031)), [], [], []⟩, ⟨sk0 (.raw (.int .i64 (IntKind.wrap .i64 (x3031 - 7)))), [], [], []⟩, ⟨sk0 (.raw (.pointer (some ⟨b3, 0 + Int.toNat (IntKind.wrap .i64 (x3031 - 7)) * 1, none⟩))), [], [], []⟩, ⟨sk0 (.raw (.int .u32 x3773)), [], [], []⟩, ⟨sk0 (.raw (.int .u32 (IntKind.wrap .u32 ((xorI .u32 (xorI .u32 y3768 y3770) (shrI .u32 x3762 10)) + x3773)))), [], [], []⟩, ⟨sk0 (.raw (.int .u32 (xorI .u32 (xorI .u32 y3764 y3766) (shrI .u32 x3760 3)))), [], [], []⟩, ⟨sk0 (.raw (.int .u32 (IntKind.wrap .u32 ((IntKind.wrap .u32 ((xorI .u32 (xorI .u32 y3768 y3770) (shrI .u32 x3762 10)) + x3773)) + (xorI .u32 (xorI .u32 y3764 y3766) (shrI .u32 x3760 3)))))), [], [], []⟩, ⟨sk0 (.raw (.int .i64 x3031)), [], [], []⟩, ⟨sk0 (.raw (.int .i64 (IntKind.wrap .i64 (x3031 - 16)))), [], [], []⟩, ⟨sk0 (.raw (.pointer (some ⟨b3, 0 + Int.toNat (IntKind.wrap .i64 (x3031 - 16)) * 1, none⟩))), [], [], []⟩, ⟨sk0 (.raw (.int .u32 x3775)), [], [], []⟩, ⟨sk0 (.raw (.int .u32 (IntKind.wrap .u32 ((IntKind.wrap .u32 ((IntKind.wrap .u32 ((xorI .u32 (xorI .u32 y3768 y3770) (shrI .u32 x3762 10)) + x3773)) + (xorI .u32 (xorI .u32 y3764 y3766) (shrI .u32 x3760 3)))) + x3775)))), [], [], []⟩] [] (fun T : List Res => (.box K2 b1 98 a0) :: (.box K2 b2 98 (List.replicate 8 (0 : Int))) :: (.box K0 b3 136 x3032) :: T) lf3 rfl (by kernel_rfl) rfl rfl (fun F hF0 bs3772 => ?_)
      refine Tq.v (fun G T hG => ?_) ?_
      ·exact mv rfl rfl <| Under.fo2 <| Under.fo2 <| Under.fo2 <| Tq.end undef rfl rfl
      refine Tq.v (fun G T hG => ?_) ?_
      ·exact mv rfl rfl <| Under.fo2 <| Under.fo2 <| Under.fo2 <| Tq.end undef rfl rfl
      refine Tq.v (fun G T hG => ?_) ?_
      ·exact mv rfl rfl <| Under.fo2 <| Under.fo2 <| Under.fo2 <| Tq.end undef rfl rfl
      refine Tq.v (fun G T hG => ?_) ?_
      ·exact bn rfl rfl rfl rfl <| Under.fo2 <| Under.fo2 <| Under.fo2 <| Tq.end undef rfl rfl
      refine Tq.v (fun G T hG => ?_) ?_
      ·exact Under.fo2 <| ov (OpV.ixP .box .id h3774 Tryd.underlying136 sz97_kInt_u32 rfl rfl) rfl <| Under.fo2 <| Under.fo2 <| Tq.end undef rfl rfl
      refine Tq.v (fun G T hG => ?_) ?_
      ·exact Under.fo2 <| Under.ldP .box (.ix .id h3774) kt97_kInt_u32 rfl rfl <| Under.rawI (t := 79) rfl <| Under.fo2 <| Under.fo2 <| Tq.end undef rfl rfl
      refine Tq.v (fun G T hG => ?_) ?_
      ·exact bn rfl rfl rfl rfl <| Under.fo2 <| Under.fo2 <| Under.fo2 <| Tq.end undef rfl rfl
      refine Tq.v (fun G T hG => ?_) ?_
      ·exact mv rfl rfl <| Under.fo2 <| Under.fo2 <| Under.fo2 <| Tq.end undef rfl rfl
      refine Tq.v (fun G T hG => ?_) ?_
      ·exact bn rfl rfl rfl rfl <| Under.fo2 <| Under.fo2 <| Under.fo2 <| Tq.end undef rfl rfl
      refine Tq.v (fun G T hG => ?_) ?_
      ·exact mv rfl rfl <| Under.fo2 <| Under.fo2 <| Under.fo2 <| Tq.end undef rfl rfl
      refine Tq.v (fun G T hG => ?_) ?_
      ·exact bn rfl rfl rfl rfl <| Under.fo2 <| Under.fo2 <| Under.fo2 <| Tq.end undef rfl rfl
      refine Tq.v (fun G T hG => ?_) ?_
      ·exact Under.fo2 <| ov (OpV.ixP .box .id h3776 Tryd.underlying136 sz97_kInt_u32 rfl rfl) rfl <| Under.fo2 <| Under.fo2 <| Tq.end undef rfl rfl
      refine Tq.v (fun G T hG => ?_) ?_
      ·exact Under.fo2 <| Under.ldP .box (.ix .id h3776) kt97_kInt_u32 rfl rfl <| Under.rawI (t := 86) rfl <| Under.fo2 <| Under.fo2 <| Tq.end undef rfl rfl
      refine Tq.v (fun G T hG => ?_) ?_
      ·exact bn rfl rfl rfl rfl <| Under.fo2 <| Under.fo2 <| Under.fo2 <| Tq.end undef rfl rfl
      exact Tq.nil <| Under.le hF0 <| Under.p1 14 rfl rfl <| Under.fo2 <| ov (OpV.ixP .box .id h3778 Tryd.underlying136 sz97_kInt_u32 rfl rfl) rfl <| Under.pn <| Under.p1 15 rfl rfl <| Under.stP (x' := List.set x3032 (Int.toNat x3031) (IntKind.wrap .u32 ((IntKind.wrap .u32 ((IntKind.wrap .u32 ((xorI .u32 (xorI .u32 y3768 y3770) (shrI .u32 x3762 10)) + x3773)) + (xorI .u32 (xorI .u32 y3764 y3766) (shrI .u32 x3760 3)))) + x3775))) .box (.ix .id h3778) sz97_kInt_u32 rfl rfl rdI rfl <| Under.pn <| Under.pdone rfl <| bN <| tn <| Under.fo2 <| Under.fo2 <| wk (k3665 _ (osi h3664).symm) (s7 rfl rfl rfl rfl rfl rfl rfl)
     ·intro K k3758
      refine sr <| mv rfl rfl <| bn rfl rfl rfl rfl <| nt <| Under.ite h3757 rfl (fun h3757 => ?_) (fun h3757 => ?_)
      ·obtain ⟨r3823, h3824, h3757⟩ := bsome h3757
       refine sq <| Under.after (fun X => ∀ (x3822 : List Int), r3823 = x3822 → Under F0 184 [(2, .val K6 a2), (3, .raw (.int .i64 a3)), (4, .raw (.pointer (some ⟨b1, 0, none⟩))), (5, .ptr K0 a1), (8, .raw (.pointer (some ⟨b2, 0, none⟩))), (9, .raw (.pointer (some ⟨b3, 0, none⟩))), (10, .raw (.int .i64 x3031))] ((.box K2 b1 98 a0) :: (.box K2 b2 98 (List.replicate 8 (0 : Int))) :: (.box K0 b3 136 x3822) :: L) X) ?_ ?_
       ·intro x3822 h3871
        replace h3871 := h3871.symm
        subst h3871
        refine xt ?_
        have e3826 := osi h3757
        subst e3826
        exact te <| bh <| tn <| Under.fo2 <| Under.fo2 <| Under.fo2 <| wk (k3665 _ (osi h3664).symm) (s7 rfl rfl rfl rfl rfl rfl rfl)
       ·intro K k3825
        obtain ⟨r3856, h3857, h3824⟩ := bsome h3824
        refine sr <| ag rfl rfl <| nt <| bk <| Under.fo2 <| Under.fo2 <| Under.fo2 <| Under.loop (S := (Int × (List Int))) (C := Unit) () (fun (x3868 : (Int × (List Int))) (q3869 : Unit) => [(2, .val K6 a2), (3, .raw (.int .i64 a3)), (4, .raw (.pointer (some ⟨b1, 0, none⟩))), (5, .ptr K0 a1), (8, .raw (.pointer (some ⟨b2, 0, none⟩))), (9, .raw (.pointer (some ⟨b3, 0, none⟩))), (10, .raw (.int .i64 x3031)), (11, .raw (.int .i64 x3868.1))]) (fun (x3868 : (Int × (List Int))) (q3869 : Unit) => (.box K2 b1 98 a0) :: (.box K2 b2 98 (List.replicate 8 (0 : Int))) :: (.box K0 b3 136 x3868.2) :: L) h3857 (s8 rfl rfl rfl rfl rfl rfl rfl rfl) rfl (fun x3868 q3869 o3858 h3854 d3855 => ?_)
        obtain ⟨x3844, x3845⟩ := x3868
        dsimp only at h3854 ⊢
        refine sq <| sr <| mv rfl rfl <| bn rfl rfl rfl rfl <| nt <| Under.ite h3854 rfl (fun h3854 => ?_) (fun h3854 => ?_)
        ·obtain ⟨x3860, h3861, h3854⟩ := bsome h3854
         obtain ⟨x3862, h3863, h3854⟩ := bsome h3854
         obtain ⟨x3864, h3865, h3854⟩ := bsome h3854
         refine ct <| sq <| bk <| Under.phases rfl <| Under.fo2 <| Under.fo2 <| Under.fo2 <| Under.grpT (L := L) [0, 1, 2, 3, 4, 5, 6, 7, 8, 9, 10, 11, 12, 13, 14, 15] [[10], [10], [9, 34], [35], [36], [2], [3], [10], [40], [39, 41], [11], [42, 43], [38, 44], [45], [46], [37, 47]] [⟨sk0 (.raw (.int .i64 x3031)), [], [], []⟩, ⟨sk0 (.raw (.int .i64 x3031)), [], [], []⟩, ⟨sk0 (.raw (.pointer (some ⟨b3, 0 + Int.toNat x3031 * 1, none⟩))), [], [], []⟩, ⟨sk0 (.raw (.int .u32 x3860)), [], [], []⟩, ⟨sk0 (.raw (.int .u32 (shlI .u32 x3860 8))), [], [], []⟩, ⟨sk0 (.val K6 a2), [], [], []⟩, ⟨sk0 (.raw (.int .i64 a3)), [], [], []⟩, ⟨sk0 (.raw (.int .i64 x3031)), [], [], []⟩, ⟨sk0 (.raw (.int .i64 (IntKind.wrap .i64 (4 * x3031)))), [], [], []⟩, ⟨sk0 (.raw (.int .i64 (IntKind.wrap .i64 (a3 + (IntKind.wrap .i64 (4 * x3031)))))), [], [], []⟩, ⟨sk0 (.raw (.int .i64 x3844)), [], [], []⟩, ⟨sk0 (.raw (.int .i64 (IntKind.wrap .i64 ((IntKind.wrap .i64 (a3 + (IntKind.wrap .i64 (4 * x3031)))) + x3844)))), [], [], []⟩, ⟨sk0 (.ptr K8 x3862), [], [], []⟩, ⟨sk0 (.raw (.int .u8 x3862)), [], [], []⟩, ⟨sk0 (.raw (.int .u32 (IntKind.wrap .u32 x3862))), [], [], []⟩, ⟨sk0 (.raw (.int .u32 (orI .u32 (shlI .u32 x3860 8) (IntKind.wrap .u32 x3862)))), [], [], []⟩] [] (fun T : List Res => (.box K2 b1 98 a0) :: (.box K2 b2 98 (List.replicate 8 (0 : Int))) :: (.box K0 b3 136 x3845) :: T) lf3 rfl (by kernel_rfl) rfl rfl (fun F hF0 bs3859 => ?_)
         refine Tq.v (fun G T hG => ?_) ?_
         ·exact mv rfl rfl <| Under.fo2 <| Under.fo2 <| Under.fo2 <| Tq.end undef rfl rfl
         refine Tq.v (fun G T hG => ?_) ?_
         ·exact mv rfl rfl <| Under.fo2 <| Under.fo2 <| Under.fo2 <| Tq.end undef rfl rfl
         refine Tq.v (fun G T hG => ?_) ?_
         ·exact Under.fo2 <| ov (OpV.ixP .box .id h3861 Tryd.underlying136 sz97_kInt_u32 rfl rfl) rfl <| Under.fo2 <| Under.fo2 <| Tq.end undef rfl rfl
         refine Tq.v (fun G T hG => ?_) ?_
         ·exact Under.fo2 <| Under.ldP .box (.ix .id h3861) kt97_kInt_u32 rfl rfl <| Under.rawI (t := 36) rfl <| Under.fo2 <| Under.fo2 <| Tq.end undef rfl rfl
         refine Tq.v (fun G T hG => ?_) ?_
         ·exact ov (OpV.sh rfl rfl (by decide) rfl) rfl <| Under.fo2 <| Under.fo2 <| Under.fo2 <| Tq.end undef rfl rfl
         refine Tq.v (fun G T hG => ?_) ?_
         ·exact mv rfl rfl <| Under.fo2 <| Under.fo2 <| Under.fo2 <| Tq.end undef rfl rfl
         refine Tq.v (fun G T hG => ?_) ?_
         ·exact mv rfl rfl <| Under.fo2 <| Under.fo2 <| Under.fo2 <| Tq.end undef rfl rfl
         refine Tq.v (fun G T hG => ?_) ?_
         ·exact mv rfl rfl <| Under.fo2 <| Under.fo2 <| Under.fo2 <| Tq.end undef rfl rfl
         refine Tq.v (fun G T hG => ?_) ?_
         ·exact bn rfl rfl rfl rfl <| Under.fo2 <| Under.fo2 <| Under.fo2 <| Tq.end undef rfl rfl
         refine Tq.v (fun G T hG => ?_) ?_
         ·exact bn rfl rfl rfl rfl <| Under.fo2 <| Under.fo2 <| Under.fo2 <| Tq.end undef rfl rfl
         refine Tq.v (fun G T hG => ?_) ?_
         ·exact mv rfl rfl <| Under.fo2 <| Under.fo2 <| Under.fo2 <| Tq.end undef rfl rfl
         refine Tq.v (fun G T hG => ?_) ?_
         ·exact bn rfl rfl rfl rfl <| Under.fo2 <| Under.fo2 <| Under.fo2 <| Tq.end undef rfl rfl
         refine Tq.v (fun G T hG => ?_) ?_
         ·exact ov (OpV.ixS h3863 Tryd.underlying22 sz5 rfl rdV rfl) rfl <| Under.fo2 <| Under.fo2 <| Under.fo2 <| Tq.end undef rfl rfl
         refine Tq.v (fun G T hG => ?_) ?_
         ·exact ov (OpV.ldI kt5 rfl) rfl <| Under.fo2 <| Under.fo2 <| Under.fo2 <| Tq.end undef rfl rfl
         refine Tq.v (fun G T hG => ?_) ?_
         ·exact ov (OpV.conv (by kernel_rfl) Tryd.underlying97 rfl) rfl <| Under.fo2 <| Under.fo2 <| Under.fo2 <| Tq.end undef rfl rfl
         refine Tq.v (fun G T hG => ?_) ?_
         ·exact bn rfl rfl rfl rfl <| Under.fo2 <| Under.fo2 <| Under.fo2 <| Tq.end undef rfl rfl
         exact Tq.nil <| Under.le hF0 <| Under.p1 16 rfl rfl <| Under.fo2 <| ov (OpV.ixP .box .id h3865 Tryd.underlying136 sz97_kInt_u32 rfl rfl) rfl <| Under.pn <| Under.p1 17 rfl rfl <| Under.stP (x' := List.set x3845 (Int.toNat x3031) (orI .u32 (shlI .u32 x3860 8) (IntKind.wrap .u32 x3862))) .box (.ix .id h3865) sz97_kInt_u32 rfl rfl rdI rfl <| Under.pn <| Under.pdone rfl <| bN <| tn <| rg <| mv rfl rfl <| bn rfl rfl rfl rfl <| ag rfl rfl <| nl <| Under.fo2 <| Under.fo2 <| Under.next _ () h3854 (s8 rfl rfl rfl rfl rfl rfl rfl rfl) rfl
        ·refine xt <| te ?_
         have e3866 := done_eq h3854 d3855
         subst e3866
         exact te <| bh <| tn <| Under.fo2 <| Under.fo2 <| Under.fo2 <| wk (k3825 _ (osi h3824).symm) (s7 rfl rfl rfl rfl rfl rfl rfl)
      ·exact ct <| Under.fo2 <| Under.fo2 <| Under.fo2 <| wk (k3758 () (osi h3757).symm) (s7 rfl rfl rfl rfl rfl rfl rfl)
   ·refine Under.fo2 <| Under.frz (t := 9) rfl <| xt <| te ?_
    have e3875 := done_eq h3452 d3453
    subst e3875
    exact te <| bh <| tn <| Under.fo1 <| Under.fo1 <| wk (k1692 _ (osi h1691).symm) (s4 rfl rfl rfl rfl)
/-- churn/churnref01.Sum -/
noncomputable def f_churnref01_Sum (a0 : List Int) : Option (List Int) :=
  (f_churnref01_thirds).bind fun y3 =>
  (f_churnref01_padded a0).bind fun y6 =>
  (((Loop.run (S := (Int × (List Int))) (R := (List Int)) (fun (x114, x115) =>
      bif decide (x114 < (y6.length : Int)) then
        (f_churnref01_worked x115 y3 y6 x114).bind fun y124 =>
        some (.next (IntKind.wrap .i64 (x114 + 64), y124))
      else
        some (.done x115)) (0, [1779033703, 3144134277, 1013904242, 2773480762, 1359893119, 2600822924, 528734635, 1541459225])).bind fun x118 =>
  some x118
    : Option (List Int))).bind fun x29 =>
  (((Loop.run (S := (Int × (List Int))) (R := (List Int)) (fun (x84, x85) =>
      bif decide (x84 < 32) then
        (idx x29 (IntKind.wrap .i64 (Int.tdiv x84 4))).bind fun x97 =>
        bif decide (0 ≤ (IntKind.wrap .i64 (24 - (IntKind.wrap .i64 (8 * (Int.tmod x84 4)))))) then
        (idx x85 x84).bind fun x100 =>
        some (.next (IntKind.wrap .i64 (x84 + 1), List.set x85 (Int.toNat x84) (IntKind.wrap .u8 (shrI .u32 x97 (IntKind.wrap .i64 (24 - (IntKind.wrap .i64 (8 * (Int.tmod x84 4)))))))))
        else none
      else
        some (.done x85)) (0, (List.replicate 32 (0 : Int)))).bind fun x91 =>
  some x91
    : Option (List Int))).bind fun x67 =>
  some x67
theorem f_churnref01_Sum_ok {a0 : List Int} {r0 : (List Int)} (hF : f_churnref01_Sum a0 = some r0) (L : List Res) : Ok Tryd.prog 78 [SV.val K6 a0] (L) (SV.val K3 r0) (L) := by
  unfold f_churnref01_Sum at hF
  refine Ok.intro 41 [(0, .val K6 a0)] Tryd.func78 rfl rfl rfl rfl (fun F0 => ?_)
  obtain ⟨y3, h4, hF⟩ := bsome hF
  obtain ⟨y6, h7, hF⟩ := bsome hF
  obtain ⟨r30, h31, hF⟩ := bsome hF
  refine sr <| Under.al ZT64 rfl fun b1 => ns <| ov (OpV.bar (ys := [1779033703, 3144134277, 1013904242, 2773480762, 1359893119, 2600822924, 528734635, 1541459225]) BTA98 (BldA.cons rfl rfl rdI (BldA.cons rfl rfl rdI (BldA.cons rfl rfl rdI (BldA.cons rfl rfl rdI (BldA.cons rfl rfl rdI (BldA.cons rfl rfl rdI (BldA.cons rfl rfl rdI (BldA.cons rfl rfl rdI (BldA.nil _)))))))))) rfl <| Under.al ZT98 rfl fun b2 => Under.stP (x' := [1779033703, 3144134277, 1013904242, 2773480762, 1359893119, 2600822924, 528734635, 1541459225]) .box .id sz98_kArr_8_kInt_u32_ rfl rfl rdV rfl <| ns <| Under.call Tryd.call83 rfl rfl (f_churnref01_thirds_ok h4 _) rfl <| Under.al ZT136 rfl fun b5 => Under.stP (x' := y3) .box .id sz136_kArr_64_kInt_u32_ rfl rfl rdV rfl <| nl <| Under.frz (t := 4) rfl <| tn <| sr <| mv rfl rfl <| Under.call Tryd.call84 rfl rfl (f_churnref01_padded_ok h7 _) rfl <| ag rfl rfl <| nt <| sq <| Under.after (fun X => ∀ (x29 : List Int), r30 = x29 → Under F0 41 [(2, .raw (.pointer (some ⟨b1, 0, none⟩))), (3, .ptr K2 x29)] ((.box K3 b1 64 (List.replicate 32 (0 : Int))) :: L) X) ?_ ?_
  ·intro x29 h131
   replace h131 := h131.symm
   subst h131
   obtain ⟨r68, h69, hF⟩ := bsome hF
   refine sr <| Under.al ZT64 rfl fun b33 => nt <| sq <| Under.after (fun X => ∀ (x67 : List Int), r68 = x67 → Under F0 41 [(2, .raw (.pointer (some ⟨b1, 0, none⟩))), (7, .ptr K3 x67)] ((.box K3 b1 64 (List.replicate 32 (0 : Int))) :: L) X) ?_ ?_
   ·intro x67 h107
    replace h107 := h107.symm
    subst h107
    refine sr <| ov (OpV.ld kt64 rfl) rfl <| Under.stP (x' := x67) .box .id sz64_kArr_32_kInt_u8_ rfl rfl rdV rfl <| nl <| Under.frz (t := 2) rfl <| tn <| rc ?_
    have e71 := osi hF
    subst e71
    exact Under.rets Tryd.results78 (.ce rfl kt64 .nil) rfl rfl
   ·intro K k70
    obtain ⟨r94, h95, h69⟩ := bsome h69
    refine sr <| ag rfl rfl <| nt <| bk <| Under.fo1 <| Under.loop (S := (Int × (List Int))) (C := Unit) () (fun (x104 : (Int × (List Int))) (q105 : Unit) => [(2, .raw (.pointer (some ⟨b1, 0, none⟩))), (3, .ptr K2 x29), (7, .raw (.pointer (some ⟨b33, 0, none⟩))), (8, .raw (.int .i64 x104.1))]) (fun (x104 : (Int × (List Int))) (q105 : Unit) => (.box K3 b1 64 (List.replicate 32 (0 : Int))) :: (.box K3 b33 64 x104.2) :: L) h95 (s4 rfl rfl rfl rfl) rfl (fun x104 q105 o96 h92 d93 => ?_)
    obtain ⟨x84, x85⟩ := x104
    dsimp only at h92 ⊢
    refine sq <| sr <| mv rfl rfl <| bn rfl rfl rfl rfl <| nt <| Under.ite h92 rfl (fun h92 => ?_) (fun h92 => ?_)
    ·obtain ⟨x97, h98, h92⟩ := bsome h92
     obtain ⟨h99, h92⟩ := gsome h92
     obtain ⟨x100, h101, h92⟩ := bsome h92
     exact ct <| sq <| bk <| rg <| mv rfl rfl <| mv rfl rfl <| ov (OpV.quo rfl rfl (by decide) rfl) rfl <| ov (OpV.ixA h98 Tryd.underlying98 sz97 rfl rfl) rfl <| ov (OpV.ldI kt97 rfl) rfl <| mv rfl rfl <| ov (OpV.quo rfl rfl (by decide) rfl) rfl <| bn rfl rfl rfl rfl <| bn rfl rfl rfl rfl <| ov (OpV.sh rfl rfl (of_decide_eq_true h99) rfl) rfl <| ov (OpV.conv (by kernel_rfl) Tryd.underlying5 rfl) rfl <| Under.fo1 <| ov (OpV.ixP .box .id h101 Tryd.underlying64 sz5_kInt_u8 rfl rfl) rfl <| Under.stP (x' := List.set x85 (Int.toNat x84) (IntKind.wrap .u8 (shrI .u32 x97 (IntKind.wrap .i64 (24 - (IntKind.wrap .i64 (8 * (Int.tmod x84 4)))))))) .box (.ix .id h101) sz5_kInt_u8 rfl rfl rdI rfl <| nl <| bN <| tn <| rg <| mv rfl rfl <| bn rfl rfl rfl rfl <| ag rfl rfl <| nl <| Under.fo1 <| Under.next _ () h92 (s4 rfl rfl rfl rfl) rfl
    ·refine Under.fo1 <| Under.frz (t := 7) rfl <| xt <| te ?_
     have e102 := done_eq h92 d93
     subst e102
     exact te <| bh <| tn <| wk (k70 _ (osi h69).symm) (s2 rfl rfl)
  ·intro K k32
   obtain ⟨r121, h122, h31⟩ := bsome h31
   refine sr <| ag rfl rfl <| nt <| bk <| Under.fo1 <| Under.loop (S := (Int × (List Int))) (C := Unit) () (fun (x128 : (Int × (List Int))) (q129 : Unit) => [(2, .raw (.pointer (some ⟨b1, 0, none⟩))), (3, .raw (.pointer (some ⟨b2, 0, none⟩))), (4, .ptr K0 y3), (5, .val K6 y6), (6, .raw (.int .i64 x128.1))]) (fun (x128 : (Int × (List Int))) (q129 : Unit) => (.box K3 b1 64 (List.replicate 32 (0 : Int))) :: (.box K2 b2 98 x128.2) :: L) h122 (s5 rfl rfl rfl rfl rfl) rfl (fun x128 q129 o123 h119 d120 => ?_)
   obtain ⟨x114, x115⟩ := x128
   dsimp only at h119 ⊢
   refine sq <| sr <| mv rfl rfl <| mv rfl rfl <| ov (OpV.len Tryd.underlying22 rfl rdV) rfl <| bn rfl rfl rfl rfl <| nt <| Under.ite h119 rfl (fun h119 => ?_) (fun h119 => ?_)
   ·obtain ⟨y124, h125, h119⟩ := bsome h119
    exact ct <| sq <| bk <| rg <| Under.fo1 <| Under.ldP .box .id kt98_kArr_8_kInt_u32_ rfl rfl <| ov (OpV.ld kt136 rfl) rfl <| mv rfl rfl <| mv rfl rfl <| Under.call Tryd.call85 rfl rfl (f_churnref01_worked_ok h125 _) rfl <| Under.stP (x' := y124) .box .id sz98_kArr_8_kInt_u32_ rfl rfl rdV rfl <| nl <| bN <| tn <| rg <| mv rfl rfl <| bn rfl rfl rfl rfl <| ag rfl rfl <| nl <| Under.fo1 <| Under.next _ () h119 (s5 rfl rfl rfl rfl rfl) rfl
   ·refine Under.fo1 <| Under.frz (t := 3) rfl <| xt <| te ?_
    have e126 := done_eq h119 d120
    subst e126
    exact te <| bh <| tn <| wk (k32 _ (osi h31).symm) (s2 rfl rfl)
/-- churn/churnref02.masked -/
noncomputable def f_churnref02_masked_ro (a0 : List Int) (a1 : Int) : Option (List Int) :=
  ((bif decide ((a0.length : Int) > 64) then
    (f_churnref01_Sum a0).bind fun y161 =>
    some y161
  else
    some a0
    : Option (List Int))).bind fun x4 =>
  (((Loop.run (S := ((List Int) × Int)) (R := (List Int)) (fun (x118, x119) =>
      bif decide (x119 < 64) then
        ((bif decide (x119 < (x4.length : Int)) then
          (idx x4 x119).bind fun x150 =>
          some x150
        else
          some 0
          : Option Int)).bind fun x143 =>
        (app x118 [xorI .u8 x143 a1]).bind fun z147 =>
        some (.next (z147, IntKind.wrap .i64 (x119 + 1)))
      else
        some (.done x118)) ([], 0)).bind fun x135 =>
  some x135
    : Option (List Int))).bind fun x81 =>
  some x81
theorem f_churnref02_masked_ro_ok {a0 : List Int} {a1 : Int} {r0 : (List Int)} (hF : f_churnref02_masked_ro a0 a1 = some r0) (L : List Res) : OkX Tryd.prog 79 [SV.val K6 a0, SV.raw (.int .u8 a1)] (L) (fun y : Value => SV.raw y) (fun y : Value => (.own K8 y 5 r0) :: L) := by
  unfold f_churnref02_masked_ro at hF
  refine OkX.intro 34 [(0, .val K6 a0), (1, .raw (.int .u8 a1))] Tryd.func79 rfl rfl rfl rfl (fun F0 => ?_)
  obtain ⟨r5, h6, hF⟩ := bsome hF
  refine sr <| ag rfl rfl <| nt <| sq <| Under.after (fun X => ∀ (x4 : List Int), r5 = x4 → Under F0 34 [(0, .val K6 x4), (1, .raw (.int .u8 a1))] (L) X) ?_ ?_
  ·intro x4 h166
   replace h166 := h166.symm
   subst h166
   obtain ⟨r82, h83, hF⟩ := bsome hF
   refine sr <| ag rfl rfl <| nt <| sq <| Under.after (fun X => ∀ (x81 : List Int) (v80 : Value), r82 = x81 → Under F0 34 [(6, .raw v80)] ((.own K8 v80 5 x81) :: L) X) ?_ ?_
   ·intro x81 v80 h160
    replace h160 := h160.symm
    subst h160
    refine sr <| mv rfl rfl <| ag rfl rfl <| nt <| rc ?_
    have e85 := osi hF
    subst e85
    exact Under.retsX v80 Tryd.results79 (.tm rfl .nil) rfl rfl
   ·intro K k84
    obtain ⟨r138, h139, h83⟩ := bsome h83
    refine sr <| ag rfl rfl <| nt <| bk <| Under.ownNil (K := kInt .u8) (e := 5) <| Under.loop (S := ((List Int) × Int)) (C := Value) (.slice none 0 0) (fun (x157 : ((List Int) × Int)) (q158 : Value) => [(0, .val K6 x4), (1, .raw (.int .u8 a1)), (6, .raw q158), (7, .raw (.int .i64 x157.2))]) (fun (x157 : ((List Int) × Int)) (q158 : Value) => (.own K8 q158 5 x157.1) :: L) h139 (s4 rfl rfl rfl rfl) rfl (fun x157 q158 o140 h136 d137 => ?_)
    obtain ⟨x118, x119⟩ := x157
    dsimp only at h136 ⊢
    refine sq <| sr <| mv rfl rfl <| bn rfl rfl rfl rfl <| nt <| Under.ite h136 rfl (fun h136 => ?_) (fun h136 => ?_)
    ·obtain ⟨r144, h145, h136⟩ := bsome h136
     refine ct <| sq <| bk <| sr <| ag rfl rfl <| nt <| sq <| Under.after (fun X => ∀ (x143 : Int), r144 = x143 → Under F0 34 [(0, .val K6 x4), (1, .raw (.int .u8 a1)), (6, .raw q158), (7, .raw (.int .i64 x119)), (8, .raw (.int .u8 x143))] ((.own K8 q158 5 x118) :: L) X) ?_ ?_
     ·intro x143 h154
      replace h154 := h154.symm
      subst h154
      obtain ⟨z147, h148, h136⟩ := bsome h136
      exact rg <| mv rfl rfl <| mv rfl rfl <| mv rfl rfl <| bn rfl rfl rfl rfl <| Under.bsF (ys := [xorI .u8 x143 a1]) Tryd.underlying22 ET5 (BldA.cons rfl rfl rdI (BldA.nil _)) rfl rfl <| Under.app h148 Tryd.underlying22 AT5 rfl rfl rdV rfl fun v149 => ag rfl rfl <| nl <| bN <| tn <| rg <| mv rfl rfl <| bn rfl rfl rfl rfl <| ag rfl rfl <| nl <| Under.next _ v149 h136 (s4 rfl rfl rfl rfl) rfl
     ·intro K k146
      refine sr <| mv rfl rfl <| mv rfl rfl <| ov (OpV.len Tryd.underlying22 rfl rdV) rfl <| bn rfl rfl rfl rfl <| nt <| Under.ite h145 rfl (fun h145 => ?_) (fun h145 => ?_)
      ·obtain ⟨x150, h151, h145⟩ := bsome h145
       exact rg <| mv rfl rfl <| mv rfl rfl <| ov (OpV.ixS h151 Tryd.underlying22 sz5 rfl rdV rfl) rfl <| ov (OpV.ldI kt5 rfl) rfl <| ag rfl rfl <| nt <| wk (k146 _ (osi h145).symm) (s5 rfl rfl rfl rfl rfl)
      ·exact ct <| wk (k146 _ (osi h145).symm) (s5 rfl rfl rfl rfl rfl)
    ·refine xt <| te ?_
     have e155 := done_eq h136 d137
     subst e155
     exact te <| bh <| tn <| wk (k84 _ _ (osi h83).symm) (s1 rfl)
  ·intro K k7
   refine sr <| mv rfl rfl <| ov (OpV.len Tryd.underlying22 rfl rdV) rfl <| bn rfl rfl rfl rfl <| nt <| Under.ite h6 rfl (fun h6 => ?_) (fun h6 => ?_)
   ·obtain ⟨y161, h162, h6⟩ := bsome h6
    exact sr <| mv rfl rfl <| Under.call Tryd.call78 rfl rfl (f_churnref01_Sum_ok h162 _) rfl <| Under.al ZT64 rfl fun b163 => Under.stP (x' := y161) .box .id sz64_kArr_32_kInt_u8_ rfl rfl rdV rfl <| nl <| Under.frz (t := 5) rfl <| tn <| rg <| ov (OpV.slA Tryd.underlying64 sz5 rfl) rfl <| ag rfl rfl <| nt <| wk (k7 _ (osi h6).symm) (s2 rfl rfl)
   ·exact ct <| wk (k7 _ (osi h6).symm) (s2 rfl rfl)
/-- churn/churnref02.Tag -/
noncomputable def f_churnref02_Tag (a0 : List Int) (a1 : List Int) : Option (List Int) :=
  (f_churnref02_masked_ro a0 54).bind fun y2 =>
  (app y2 a1).bind fun z5 =>
  (f_churnref01_Sum z5).bind fun y8 =>
  (f_churnref02_masked_ro a0 92).bind fun y12 =>
  (app y12 y8).bind fun z15 =>
  (f_churnref01_Sum z15).bind fun y18 =>
  some y18
theorem f_churnref02_Tag_ok {a0 : List Int} {a1 : List Int} {r0 : (List Int)} (hF : f_churnref02_Tag a0 a1 = some r0) (L : List Res) : Ok Tryd.prog 70 [SV.val K6 a0, SV.val K6 a1] (L) (SV.val K3 r0) (L) := by
  unfold f_churnref02_Tag at hF
  refine Ok.intro 16 [(0, .val K6 a0), (1, .val K6 a1)] Tryd.func70 rfl rfl rfl rfl (fun F0 => ?_)
  obtain ⟨y2, h3, hF⟩ := bsome hF
  refine sr <| Under.al ZT64 rfl fun b1 => ns <| mv rfl rfl <| Under.callX Tryd.call79 rfl rfl (f_churnref02_masked_ro_ok h3 _) rfl ?_
  rintro v4
  obtain ⟨z5, h6, hF⟩ := bsome hF
  obtain ⟨y8, h9, hF⟩ := bsome hF
  obtain ⟨y12, h13, hF⟩ := bsome hF
  obtain ⟨z15, h16, hF⟩ := bsome hF
  obtain ⟨y18, h19, hF⟩ := bsome hF
  refine mv rfl rfl <| Under.app h6 Tryd.underlying22 AT5 rfl rfl rdV rfl fun v7 => Under.frzO (t := 9) rfl <| Under.call Tryd.call78 rfl rfl (f_churnref01_Sum_ok h9 _) rfl <| Under.al ZT64 rfl fun b10 => Under.stP (x' := y8) .box .id sz64_kArr_32_kInt_u8_ rfl rfl rdV rfl <| nl <| Under.frz (t := 5) rfl <| tn <| sq <| Under.phases rfl <| Under.grpT (L := L) [0, 1, 2] [[0], [11], [5]] [⟨sk0 (.val K6 a0), [], [], []⟩, ⟨sk1 1 (fun u1 => .raw u1), [], [(0, tk1 1 (fun u1 => .own K8 u1 5 y12))], []⟩, ⟨sk0 (.val K6 y8), [], [], []⟩] [] (fun T : List Res => (.box K3 b1 64 (List.replicate 32 (0 : Int))) :: T) lf1 rfl (by kernel_rfl) rfl rfl (fun F hF0 bs11 => ?_)
  refine Tq.v (fun G T hG => ?_) ?_
  ·exact mv rfl rfl <| Tq.end undef rfl rfl
  refine Tq.st (.raw (bs11 1)) [] rfl rfl (fun G T hG => ?_) ?_
  ·refine Under.callX Tryd.call79 rfl rfl (f_churnref02_masked_ro_ok h13 _) rfl ?_
   rintro v14
   exact Under.fo1 <| Under.fo1 <| Tq.end v14 rfl rfl
  refine Tq.v (fun G T hG => ?_) ?_
  ·exact ov (OpV.slA Tryd.underlying64 sz5 rfl) rfl <| Tq.end undef rfl rfl
  refine Tq.nil <| Under.le hF0 <| Under.p1 3 rfl rfl <| Under.fo1 <| Under.app h16 Tryd.underlying22 AT5 rfl rfl rdV rfl fun v17 => Under.pn <| Under.p1 4 rfl rfl <| Under.frzO (t := 14) rfl <| Under.call Tryd.call78 rfl rfl (f_churnref01_Sum_ok h19 _) rfl <| Under.pn <| Under.p1 5 rfl rfl <| Under.stP (x' := y18) .box .id sz64_kArr_32_kInt_u8_ rfl rfl rdV rfl <| Under.pn <| Under.pdone rfl <| Under.frz (t := 4) rfl <| tn <| rc ?_
  have e20 := osi hF
  subst e20
  exact Under.rets Tryd.results70 (.ce rfl kt64 .nil) rfl rfl
/-- churn/churnref02.Extract -/
noncomputable def f_churnref02_Extract (a0 : List Int) (a1 : List Int) : Option (List Int) :=
  (f_churnref02_Tag a0 a1).bind fun y2 =>
  some y2
theorem f_churnref02_Extract_ok {a0 : List Int} {a1 : List Int} {r0 : (List Int)} (hF : f_churnref02_Extract a0 a1 = some r0) (L : List Res) : Ok Tryd.prog 48 [SV.val K6 a0, SV.val K6 a1] (L) (SV.val K3 r0) (L) := by
  unfold f_churnref02_Extract at hF
  refine Ok.intro 8 [(0, .val K6 a0), (1, .val K6 a1)] Tryd.func48 rfl rfl rfl rfl (fun F0 => ?_)
  obtain ⟨y2, h3, hF⟩ := bsome hF
  refine sr <| Under.al ZT64 rfl fun b1 => ns <| mv rfl rfl <| mv rfl rfl <| Under.call Tryd.call70 rfl rfl (f_churnref02_Tag_ok h3 _) rfl <| Under.stP (x' := y2) .box .id sz64_kArr_32_kInt_u8_ rfl rfl rdV rfl <| nl <| Under.frz (t := 4) rfl <| tn <| rc ?_
  have e4 := osi hF
  subst e4
  exact Under.rets Tryd.results48 (.ce rfl kt64 .nil) rfl rfl
/-- churn/churnref02.Expand -/
noncomputable def f_churnref02_Expand (a0 : List Int) (a1 : List Int) (a2 : Int) : Option ((List Int) × Int) :=
  bif decide (a2 < 0) then
    some ([], 2)
  else
    bif decide (a2 > 8160) then
      some ([], 1)
    else
      (((Loop.run (S := ((List Int) × (List Int) × Int)) (R := (List Int)) (fun (x129, x130, x131) =>
          bif decide ((x129.length : Int) < a2) then
            (app [] x130).bind fun z155 =>
            (app z155 a1).bind fun z158 =>
            (app z158 [IntKind.wrap .u8 x131]).bind fun z161 =>
            (f_churnref02_Tag a0 z161).bind fun y164 =>
            (app x129 y164).bind fun z167 =>
            some (.next (z167, y164, IntKind.wrap .i64 (x131 + 1)))
          else
            some (.done x129)) ([], [], 1)).bind fun x148 =>
      some x148
        : Option (List Int))).bind fun x84 =>
      (sub x84 0 a2).bind fun x88 =>
      bif decide (a2 ≤ a2 ∧ a2 ≤ (x84.length : Int)) then
      some (x88, 0)
      else none
theorem f_churnref02_Expand_ok {a0 : List Int} {a1 : List Int} {a2 : Int} {r0 : ((List Int) × Int)} (hF : f_churnref02_Expand a0 a1 a2 = some r0) (L : List Res) : Ok Tryd.prog 49 [SV.val K6 a0, SV.val K6 a1, SV.raw (.int .i64 a2)] (L) (SV.tup [SV.val K6 r0.1, SV.raw (.int .i64 r0.2)]) (L) := by
  unfold f_churnref02_Expand at hF
  refine Ok.intro 41 [(0, .val K6 a0), (1, .val K6 a1), (2, .raw (.int .i64 a2))] Tryd.func49 rfl rfl rfl rfl (fun F0 => ?_)
  refine sr <| ag rfl rfl <| ag rfl rfl <| nt <| sq <| sr <| mv rfl rfl <| bn rfl rfl rfl rfl <| nt <| Under.ite hF rfl (fun hF => ?_) (fun hF => ?_)
  ·refine sr <| ag rfl rfl <| ag rfl rfl <| nt <| rt <| Under.toV (K := kSl K8) (x := []) (t := 6) rfl rdN ?_
   have e1 := osi hF
   subst e1
   exact Under.rets Tryd.results49 (.tm rfl (.tm rfl .nil)) rfl rfl
  ·refine ct <| sq <| sr <| mv rfl rfl <| bn rfl rfl rfl rfl <| nt <| Under.ite hF rfl (fun hF => ?_) (fun hF => ?_)
   ·refine sr <| ag rfl rfl <| ag rfl rfl <| nt <| rt <| Under.toV (K := kSl K8) (x := []) (t := 6) rfl rdN ?_
    have e2 := osi hF
    subst e2
    exact Under.rets Tryd.results49 (.tm rfl (.tm rfl .nil)) rfl rfl
   ·obtain ⟨r85, h86, hF⟩ := bsome hF
    refine ct <| sr <| ag rfl rfl <| ag rfl rfl <| nt <| sq <| Under.after (fun X => ∀ (x84 : List Int), r85 = x84 → Under F0 41 [(2, .raw (.int .i64 a2)), (8, .val K6 x84)] (L) X) ?_ ?_
    ·intro x84 h175
     replace h175 := h175.symm
     subst h175
     obtain ⟨x88, h89, hF⟩ := bsome hF
     obtain ⟨h90, hF⟩ := gsome hF
     refine sr <| mv rfl rfl <| mv rfl rfl <| mv rfl rfl <| ov (OpV.sl3 h89 h90 Tryd.underlying22 sz5 rfl rdV rfl rfl rfl) rfl <| ag rfl rfl <| ag rfl rfl <| nt <| rc ?_
     have e91 := osi hF
     subst e91
     exact Under.rets Tryd.results49 (.tm rfl (.tm rfl .nil)) rfl rfl
    ·intro K k87
     obtain ⟨r151, h152, h86⟩ := bsome h86
     refine sr <| ag rfl rfl <| nt <| bk <| Under.ownNil (K := kInt .u8) (e := 5) <| Under.toV (K := kSl K8) (x := []) (t := 9) rfl rdN <| Under.loop (S := ((List Int) × (List Int) × Int)) (C := Value) (.slice none 0 0) (fun (x172 : ((List Int) × (List Int) × Int)) (q173 : Value) => [(0, .val K6 a0), (1, .val K6 a1), (2, .raw (.int .i64 a2)), (8, .raw q173), (9, .val K6 x172.2.1), (10, .raw (.int .i64 x172.2.2))]) (fun (x172 : ((List Int) × (List Int) × Int)) (q173 : Value) => (.own K8 q173 5 x172.1) :: L) h152 (s6 rfl rfl rfl rfl rfl rfl) rfl (fun x172 q173 o153 h149 d150 => ?_)
     obtain ⟨x129, x130, x131⟩ := x172
     dsimp only at h149 ⊢
     refine sq <| sr <| mv rfl rfl <| ov (OpV.lenO Tryd.underlying22 rfl) rfl <| mv rfl rfl <| bn rfl rfl rfl rfl <| nt <| Under.ite h149 rfl (fun h149 => ?_) (fun h149 => ?_)
     ·obtain ⟨z155, h156, h149⟩ := bsome h149
      obtain ⟨z158, h159, h149⟩ := bsome h149
      obtain ⟨z161, h162, h149⟩ := bsome h149
      obtain ⟨y164, h165, h149⟩ := bsome h149
      obtain ⟨z167, h168, h149⟩ := bsome h149
      exact ct <| sq <| bk <| sr <| mv rfl rfl <| Under.bsO (ys := []) Tryd.underlying22 ET5 (BldA.nil _) rfl rfl fun v154 => mv rfl rfl <| Under.app h156 Tryd.underlying22 AT5 rfl rfl rdV rfl fun v157 => mv rfl rfl <| Under.app h159 Tryd.underlying22 AT5 rfl rfl rdV rfl fun v160 => mv rfl rfl <| ov (OpV.conv (by kernel_rfl) Tryd.underlying5 rfl) rfl <| Under.bsF (ys := [IntKind.wrap .u8 x131]) Tryd.underlying22 ET5 (BldA.cons rfl rfl rdI (BldA.nil _)) rfl rfl <| Under.app h162 Tryd.underlying22 AT5 rfl rfl rdV rfl fun v163 => Under.frzO (t := 31) rfl <| Under.call Tryd.call70 rfl rfl (f_churnref02_Tag_ok h165 _) rfl <| Under.al ZT64 rfl fun b166 => Under.stP (x' := y164) .box .id sz64_kArr_32_kInt_u8_ rfl rfl rdV rfl <| nl <| Under.frz (t := 11) rfl <| tn <| sr <| ov (OpV.slA Tryd.underlying64 sz5 rfl) rfl <| ag rfl rfl <| nt <| rg <| mv rfl rfl <| mv rfl rfl <| Under.app h168 Tryd.underlying22 AT5 rfl rfl rdV rfl fun v169 => ag rfl rfl <| nl <| bN <| tn <| rg <| mv rfl rfl <| bn rfl rfl rfl rfl <| ag rfl rfl <| nl <| Under.next _ v169 h149 (s6 rfl rfl rfl rfl rfl rfl) rfl
     ·refine Under.frzO (t := 8) rfl <| xt <| te ?_
      have e170 := done_eq h149 d150
      subst e170
      exact te <| bh <| tn <| wk (k87 _ (osi h86).symm) (s2 rfl rfl)
/-- churn/churnref02.Derive -/
noncomputable def f_churnref02_Derive (a0 : List Int) (a1 : List Int) (a2 : List Int) (a3 : Int) : Option ((List Int) × Int) :=
  (f_churnref02_Extract a1 a0).bind fun y1 =>
  (f_churnref02_Expand y1 a2 a3).bind fun y4 =>
  some (y4.1, y4.2)
theorem f_churnref02_Derive_ok {a0 : List Int} {a1 : List Int} {a2 : List Int} {a3 : Int} {r0 : ((List Int) × Int)} (hF : f_churnref02_Derive a0 a1 a2 a3 = some r0) (L : List Res) : Ok Tryd.prog 30 [SV.val K6 a0, SV.val K6 a1, SV.val K6 a2, SV.raw (.int .i64 a3)] (L) (SV.tup [SV.val K6 r0.1, SV.raw (.int .i64 r0.2)]) (L) := by
  unfold f_churnref02_Derive at hF
  refine Ok.intro 20 [(0, .val K6 a0), (1, .val K6 a1), (2, .val K6 a2), (3, .raw (.int .i64 a3))] Tryd.func30 rfl rfl rfl rfl (fun F0 => ?_)
  obtain ⟨y1, h2, hF⟩ := bsome hF
  obtain ⟨y4, h5, hF⟩ := bsome hF
  refine sr <| ag rfl rfl <| ag rfl rfl <| ns <| mv rfl rfl <| mv rfl rfl <| Under.call Tryd.call48 rfl rfl (f_churnref02_Extract_ok h2 _) rfl <| Under.al ZT64 rfl fun b3 => Under.stP (x' := y1) .box .id sz64_kArr_32_kInt_u8_ rfl rfl rdV rfl <| nl <| Under.frz (t := 10) rfl <| tn <| sr <| ov (OpV.slA Tryd.underlying64 sz5 rfl) rfl <| mv rfl rfl <| mv rfl rfl <| Under.call Tryd.call49 rfl rfl (f_churnref02_Expand_ok h5 _) rfl <| ov (OpV.extr rfl rfl) rfl <| ov (OpV.extr rfl rfl) rfl <| ag rfl rfl <| ag rfl rfl <| nt <| rc ?_
  have e6 := osi hF
  subst e6
  exact Under.rets Tryd.results30 (.tm rfl (.tm rfl .nil)) rfl rfl
/-- churn/churnref08.Key -/
noncomputable def f_churnref08_Key (a0 : List Int) (a1 : Int) : Option ((List Int) × Int) :=
  bif (((a0.length : Int) != 32) || (decide (a1 < 0))) || (decide (a1 > 4611686018427387904)) then
    some ([], 2)
  else
    (((Loop.run (S := ((List Int) × Int)) (R := (List Int)) (fun (x60, x61) =>
        bif decide (x61 ≥ 0) then
          bif decide (0 ≤ (IntKind.wrap .u64 x61)) then
          (app x60 [IntKind.wrap .u8 (shrI .i64 a1 (IntKind.wrap .u64 x61))]).bind fun z73 =>
          some (.next (z73, IntKind.wrap .i64 (x61 - 8)))
          else none
        else
          some (.done x60)) ([], 56)).bind fun x66 =>
    some x66
      : Option (List Int))).bind fun x39 =>
    bif decide (0 < [99, 104, 117, 114, 110, 32, 104, 111, 112].length) then
    (f_churnref02_Derive a0 x39 [99, 104, 117, 114, 110, 32, 104, 111, 112] 32).bind fun y45 =>
    some (y45.1, y45.2)
    else none
theorem f_churnref08_Key_ok {a0 : List Int} {a1 : Int} {r0 : ((List Int) × Int)} (hF : f_churnref08_Key a0 a1 = some r0) (L : List Res) : Ok Tryd.prog 12 [SV.val K6 a0, SV.raw (.int .i64 a1)] (L) (SV.tup [SV.val K6 r0.1, SV.raw (.int .i64 r0.2)]) (L) := by
  unfold f_churnref08_Key at hF
  refine Ok.intro 38 [(0, .val K6 a0), (1, .raw (.int .i64 a1))] Tryd.func12 rfl rfl rfl rfl (fun F0 => ?_)
  refine sr <| ag rfl rfl <| ag rfl rfl <| nt <| sq <| sr <| mv rfl rfl <| ov (OpV.len Tryd.underlying22 rfl rdV) rfl <| bn rfl rfl rfl rfl <| mv rfl rfl <| runj_3 14 (((a0.length : Int) != 32) || (decide (a1 < 0))) ?_ (fun k => ?_)
  ·refine mv rfl rfl <| runj_3 18 ((((a0.length : Int) != 32) || (decide (a1 < 0))) || (decide (a1 > 4611686018427387904))) ?_ (fun k => ?_)
   ·refine nt <| Under.ite hF rfl (fun hF => ?_) (fun hF => ?_)
    ·refine sr <| ag rfl rfl <| ag rfl rfl <| nt <| rt <| Under.toV (K := kSl K8) (x := []) (t := 4) rfl rdN ?_
     have e7 := osi hF
     subst e7
     exact Under.rets Tryd.results12 (.tm rfl (.tm rfl .nil)) rfl rfl
    ·obtain ⟨r40, h41, hF⟩ := bsome hF
     refine ct <| sr <| ag rfl rfl <| nt <| sq <| Under.after (fun X => ∀ (x39 : List Int), r40 = x39 → Under F0 38 [(0, .val K6 a0), (6, .val K6 x39)] (L) X) ?_ ?_
     ·intro x39 h81
      replace h81 := h81.symm
      subst h81
      obtain ⟨h44, hF⟩ := gsome hF
      obtain ⟨y45, h46, hF⟩ := bsome hF
      refine sr <| mv rfl rfl <| mv rfl rfl <| Under.bsO (ys := [99, 104, 117, 114, 110, 32, 104, 111, 112]) Tryd.underlying22 ET5 (BldA.cons rfl rfl rdI (BldA.cons rfl rfl rdI (BldA.cons rfl rfl rdI (BldA.cons rfl rfl rdI (BldA.cons rfl rfl rdI (BldA.cons rfl rfl rdI (BldA.cons rfl rfl rdI (BldA.cons rfl rfl rdI (BldA.cons rfl rfl rdI (BldA.nil _)))))))))) rfl rfl fun v43 => Under.cvS Tryd.underlying22 Tryd.underlying5 (of_decide_eq_true h44) rfl rfl <| Under.call Tryd.call30 rfl rfl (f_churnref02_Derive_ok h46 _) rfl <| ov (OpV.extr rfl rfl) rfl <| ov (OpV.extr rfl rfl) rfl <| ag rfl rfl <| ag rfl rfl <| nt <| rc ?_
      have e47 := osi hF
      subst e47
      exact Under.rets Tryd.results12 (.tm rfl (.tm rfl .nil)) rfl rfl
     ·intro K k42
      obtain ⟨r69, h70, h41⟩ := bsome h41
      refine sr <| ag rfl rfl <| nt <| bk <| Under.ownNil (K := kInt .u8) (e := 5) <| Under.loop (S := ((List Int) × Int)) (C := Value) (.slice none 0 0) (fun (x78 : ((List Int) × Int)) (q79 : Value) => [(0, .val K6 a0), (1, .raw (.int .i64 a1)), (6, .raw q79), (7, .raw (.int .i64 x78.2))]) (fun (x78 : ((List Int) × Int)) (q79 : Value) => (.own K8 q79 5 x78.1) :: L) h70 (s4 rfl rfl rfl rfl) rfl (fun x78 q79 o71 h67 d68 => ?_)
      obtain ⟨x60, x61⟩ := x78
      dsimp only at h67 ⊢
      refine sq <| sr <| mv rfl rfl <| bn rfl rfl rfl rfl <| nt <| Under.ite h67 rfl (fun h67 => ?_) (fun h67 => ?_)
      ·obtain ⟨h72, h67⟩ := gsome h67
       obtain ⟨z73, h74, h67⟩ := bsome h67
       exact ct <| sq <| bk <| rg <| mv rfl rfl <| mv rfl rfl <| mv rfl rfl <| ov (OpV.conv (by kernel_rfl) Tryd.underlying82 rfl) rfl <| ov (OpV.sh rfl rfl (of_decide_eq_true h72) rfl) rfl <| ov (OpV.conv (by kernel_rfl) Tryd.underlying5 rfl) rfl <| Under.bsF (ys := [IntKind.wrap .u8 (shrI .i64 a1 (IntKind.wrap .u64 x61))]) Tryd.underlying22 ET5 (BldA.cons rfl rfl rdI (BldA.nil _)) rfl rfl <| Under.app h74 Tryd.underlying22 AT5 rfl rfl rdV rfl fun v75 => ag rfl rfl <| nl <| bN <| tn <| rg <| mv rfl rfl <| bn rfl rfl rfl rfl <| ag rfl rfl <| nl <| Under.next _ v75 h67 (s4 rfl rfl rfl rfl) rfl
      ·refine Under.frzO (t := 6) rfl <| xt <| te ?_
       have e76 := done_eq h67 d68
       subst e76
       exact te <| bh <| tn <| wk (k42 _ (osi h41).symm) (s2 rfl rfl)
   ·refine by_ (t := 15) rfl (fun c4 => ?_) (fun c4 => ?_)
    ·exact sk c4 rfl rfl rfl <| sk c4 rfl rfl rfl <| ov (pkT c4 rfl rfl) rfl <| rf 2 (or_t (e := decide (a1 > 4611686018427387904)) c4) rfl k
    ·exact gc c4 rfl rfl <| mv rfl rfl <| gc c4 rfl rfl <| bn rfl rfl rfl rfl <| ov (pkF c4 rfl rfl) rfl <| rf 2 (or_f c4) rfl k
  ·refine by_ (t := 11) rfl (fun c1 => ?_) (fun c1 => ?_)
   ·exact sk c1 rfl rfl rfl <| sk c1 rfl rfl rfl <| ov (pkT c1 rfl rfl) rfl <| rf 2 (or_t (e := decide (a1 < 0)) c1) rfl k
   ·exact gc c1 rfl rfl <| mv rfl rfl <| gc c1 rfl rfl <| bn rfl rfl rfl rfl <| ov (pkF c1 rfl rfl) rfl <| rf 2 (or_f c1) rfl k
/-- churn/churnref07.Size -/
noncomputable def f_churnref07_Size (a0 : Int) : Option Int :=
  bif (decide (a0 < 1)) || (decide (a0 > 8)) then
    some 0
  else
    some (IntKind.wrap .i64 (82 + (IntKind.wrap .i64 (34 * (IntKind.wrap .i64 (a0 - 1))))))
theorem f_churnref07_Size_ok {a0 : Int} {r0 : Int} (hF : f_churnref07_Size a0 = some r0) (L : List Res) : Ok Tryd.prog 50 [SV.raw (.int .i64 a0)] (L) (SV.raw (.int .i64 r0)) (L) := by
  unfold f_churnref07_Size at hF
  refine Ok.intro 13 [(0, .raw (.int .i64 a0))] Tryd.func50 rfl rfl rfl rfl (fun F0 => ?_)
  refine sr <| ag rfl rfl <| nt <| sq <| sr <| mv rfl rfl <| bn rfl rfl rfl rfl <| mv rfl rfl <| runj_3 8 ((decide (a0 < 1)) || (decide (a0 > 8))) ?_ (fun k => ?_)
  ·refine nt <| Under.ite hF rfl (fun hF => ?_) (fun hF => ?_)
   ·refine sr <| ag rfl rfl <| nt <| rt ?_
    have e4 := osi hF
    subst e4
    exact Under.rets Tryd.results50 (.tm rfl .nil) rfl rfl
   ·refine ct <| sr <| mv rfl rfl <| bn rfl rfl rfl rfl <| bn rfl rfl rfl rfl <| bn rfl rfl rfl rfl <| ag rfl rfl <| nt <| rc ?_
    have e5 := osi hF
    subst e5
    exact Under.rets Tryd.results50 (.tm rfl .nil) rfl rfl
  ·refine by_ (t := 5) rfl (fun c1 => ?_) (fun c1 => ?_)
   ·exact sk c1 rfl rfl rfl <| sk c1 rfl rfl rfl <| ov (pkT c1 rfl rfl) rfl <| rf 2 (or_t (e := decide (a0 > 8)) c1) rfl k
   ·exact gc c1 rfl rfl <| mv rfl rfl <| gc c1 rfl rfl <| bn rfl rfl rfl rfl <| ov (pkF c1 rfl rfl) rfl <| rf 2 (or_f c1) rfl k
/-- churn/churnref05.noughts -/
noncomputable def f_churnref05_noughts (a0 : List Int) (a1 : Int) : Option Bool :=
  (((Loop.run (S := Int) (R := (Unit ⊕ Bool)) (fun x29 =>
      bif decide (x29 < (a0.length : Int)) then
        (idx a0 x29).bind fun x37 =>
        bif x37 != 0 then
          some (.done (.inr false))
        else
          some (.next (IntKind.wrap .i64 (x29 + 1)))
      else
        some (.done (.inl ()))) a1).bind fun r34 => match r34 with
    | .inl _ =>
      some (.inr ())
    | .inr z =>
      some (.inl z)
    : Option (Bool ⊕ Unit))).bind fun r20 => match r20 with
    | .inl z =>
      some z
    | .inr _ =>
      some true
theorem f_churnref05_noughts_ok {a0 : List Int} {a1 : Int} {r0 : Bool} (hF : f_churnref05_noughts a0 a1 = some r0) (L : List Res) : Ok Tryd.prog 71 [SV.val K6 a0, SV.raw (.int .i64 a1)] (L) (SV.raw (.bool r0)) (L) := by
  unfold f_churnref05_noughts at hF
  refine Ok.intro 16 [(0, .val K6 a0), (1, .raw (.int .i64 a1))] Tryd.func71 rfl rfl rfl rfl (fun F0 => ?_)
  obtain ⟨r20, h21, hF⟩ := bsome hF
  refine sr <| ag rfl rfl <| nt <| sq <| Under.after (fun X => ∀ (_ : Unit), r20 = (.inr ()) → Under F0 16 [] (L) X) ?_ ?_
  ·intro _ h47
   replace h47 := h47.symm
   subst h47
   refine sr <| ag rfl rfl <| nt <| rc ?_
   have e23 := osi hF
   subst e23
   exact Under.rets Tryd.results71 (.tm rfl .nil) rfl rfl
  ·intro K k22
   obtain ⟨r34, h35, h21⟩ := bsome h21
   refine bk <| Under.loop (S := Int) (C := Unit) () (fun (x44 : Int) (q45 : Unit) => [(0, .val K6 a0), (1, .raw (.int .i64 x44))]) (fun (x44 : Int) (q45 : Unit) => L) h35 (s2 rfl rfl) rfl (fun x44 q45 o36 h32 d33 => ?_)
   refine sq <| sr <| mv rfl rfl <| mv rfl rfl <| ov (OpV.len Tryd.underlying22 rfl rdV) rfl <| bn rfl rfl rfl rfl <| nt <| Under.ite h32 rfl (fun h32 => ?_) (fun h32 => ?_)
   ·obtain ⟨x37, h38, h32⟩ := bsome h32
    refine ct <| sq <| bk <| sr <| mv rfl rfl <| mv rfl rfl <| ov (OpV.ixS h38 Tryd.underlying22 sz5 rfl rdV rfl) rfl <| ov (OpV.ldI kt5 rfl) rfl <| bn rfl rfl rfl rfl <| nt <| Under.ite h32 rfl (fun h32 => ?_) (fun h32 => ?_)
    ·refine sr <| ag rfl rfl <| nt <| rc <| Under.bR <| tr ?_
     have e39 := done_eq h32 d33
     subst e39
     refine tr <| Under.bR <| tr ?_
     have e40 := osi h21
     subst e40
     have e41 := osi hF
     subst e41
     exact Under.rets Tryd.results71 (.tm rfl .nil) rfl rfl
    ·exact cs <| bN <| tn <| rg <| mv rfl rfl <| bn rfl rfl rfl rfl <| ag rfl rfl <| nl <| Under.next _ () h32 (s2 rfl rfl) rfl
   ·refine xt <| te ?_
    have e42 := done_eq h32 d33
    subst e42
    exact te <| bh <| tn <| wk (k22 () (osi h21).symm) (sub_nil _)
/-- churn/churnref05.Cut -/
noncomputable def f_churnref05_Cut (a0 : List Int) (a1 : Int) : Option ((List Int) × Int) :=
  bif (a0.length : Int) != 320 then
    some ([], 50)
  else
    bif (decide (a1 < 0)) || (decide (a1 > 320)) then
      some ([], 2)
    else
      (f_churnref05_noughts a0 a1).bind fun y6 =>
      bif !y6 then
        some ([], 51)
      else
        (sub a0 0 a1).bind fun x10 =>
        (app [] x10).bind fun z12 =>
        some (z12, 0)
theorem f_churnref05_Cut_ok {a0 : List Int} {a1 : Int} {r0 : ((List Int) × Int)} (hF : f_churnref05_Cut a0 a1 = some r0) (L : List Res) : Ok Tryd.prog 51 [SV.val K6 a0, SV.raw (.int .i64 a1)] (L) (SV.tup [SV.val K6 r0.1, SV.raw (.int .i64 r0.2)]) (L) := by
  unfold f_churnref05_Cut at hF
  refine Ok.intro 27 [(0, .val K6 a0), (1, .raw (.int .i64 a1))] Tryd.func51 rfl rfl rfl rfl (fun F0 => ?_)
  refine sr <| ag rfl rfl <| ag rfl rfl <| nt <| sq <| bk <| sr <| mv rfl rfl <| ov (OpV.len Tryd.underlying22 rfl rdV) rfl <| bn rfl rfl rfl rfl <| ag rfl rfl <| nt <| Under.ite hF rfl (fun hF => ?_) (fun hF => ?_)
  ·refine sr <| ag rfl rfl <| ag rfl rfl <| nt <| rc <| Under.bR <| tr <| Under.toV (K := kSl K8) (x := []) (t := 4) rfl rdN ?_
   have e1 := osi hF
   subst e1
   exact Under.rets Tryd.results51 (.tm rfl (.tm rfl .nil)) rfl rfl
  ·refine sr <| mv rfl rfl <| bn rfl rfl rfl rfl <| mv rfl rfl <| runj_3 16 ((decide (a1 < 0)) || (decide (a1 > 320))) ?_ (fun k => ?_)
   ·refine ag rfl rfl <| nt <| Under.ite hF rfl (fun hF => ?_) (fun hF => ?_)
    ·refine sr <| ag rfl rfl <| ag rfl rfl <| nt <| rc <| Under.bR <| tr <| Under.toV (K := kSl K8) (x := []) (t := 4) rfl rdN ?_
     have e5 := osi hF
     subst e5
     exact Under.rets Tryd.results51 (.tm rfl (.tm rfl .nil)) rfl rfl
    ·obtain ⟨y6, h7, hF⟩ := bsome hF
     refine sr <| mv rfl rfl <| mv rfl rfl <| Under.call Tryd.call71 rfl rfl (f_churnref05_noughts_ok h7 _) rfl <| ov (OpV.not rfl) rfl <| ag rfl rfl <| nt <| Under.ite hF rfl (fun hF => ?_) (fun hF => ?_)
     ·refine sr <| ag rfl rfl <| ag rfl rfl <| nt <| rc <| Under.bR <| tr <| Under.toV (K := kSl K8) (x := []) (t := 4) rfl rdN ?_
      have e8 := osi hF
      subst e8
      exact Under.rets Tryd.results51 (.tm rfl (.tm rfl .nil)) rfl rfl
     ·obtain ⟨x10, h11, hF⟩ := bsome hF
      obtain ⟨z12, h13, hF⟩ := bsome hF
      refine cs <| bN <| tn <| sr <| Under.bsO (ys := []) Tryd.underlying22 ET5 (BldA.nil _) rfl rfl fun v9 => mv rfl rfl <| mv rfl rfl <| ov (OpV.slH h11 Tryd.underlying22 sz5 rfl rdV rfl) rfl <| Under.app h13 Tryd.underlying22 AT5 rfl rfl rdV rfl fun v14 => ag rfl rfl <| ag rfl rfl <| nl <| Under.frzO (t := 4) rfl <| tn <| rc ?_
      have e15 := osi hF
      subst e15
      exact Under.rets Tryd.results51 (.tm rfl (.tm rfl .nil)) rfl rfl
   ·refine by_ (t := 13) rfl (fun c2 => ?_) (fun c2 => ?_)
    ·exact sk c2 rfl rfl rfl <| sk c2 rfl rfl rfl <| ov (pkT c2 rfl rfl) rfl <| rf 2 (or_t (e := decide (a1 > 320)) c2) rfl k
    ·exact gc c2 rfl rfl <| mv rfl rfl <| gc c2 rfl rfl <| bn rfl rfl rfl rfl <| ov (pkF c2 rfl rfl) rfl <| rf 2 (or_f c2) rfl k
/-- churn/churnref07.Derive -/
noncomputable def f_churnref07_Derive (a0 : List Int) (a1 : List Int) : Option (Api_OnionKeys × Int) :=
  bif (a0.length : Int) != 32 then
    some ((⟨(List.replicate 16 (0 : Int)), (List.replicate 32 (0 : Int)), (List.replicate 32 (0 : Int))⟩ : Api_OnionKeys), 2)
  else
    bif decide (0 < [99, 104, 117, 114, 110].length) then
    (f_churnref02_Derive a0 a1 [99, 104, 117, 114, 110] 80).bind fun y6 =>
    (((Loop.run (S := (Int × Api_OnionKeys)) (R := Api_OnionKeys) (fun (x220, x221) =>
        bif decide (x220 < 80) then
          ((bif decide (x220 < 16) then
            (idx y6.1 x220).bind fun x276 =>
            (idx x221.Box x220).bind fun x278 =>
            some ({ x221 with Box := List.set x221.Box (Int.toNat x220) x276 } : Api_OnionKeys)
          else
            bif decide (x220 < 48) then
              (idx y6.1 x220).bind fun x281 =>
              (idx x221.Mac (IntKind.wrap .i64 (x220 - 16))).bind fun x283 =>
              some ({ x221 with Mac := List.set x221.Mac (Int.toNat (IntKind.wrap .i64 (x220 - 16))) x281 } : Api_OnionKeys)
            else
              (idx y6.1 x220).bind fun x286 =>
              (idx x221.Replay (IntKind.wrap .i64 (x220 - 48))).bind fun x288 =>
              some ({ x221 with Replay := List.set x221.Replay (Int.toNat (IntKind.wrap .i64 (x220 - 48))) x286 } : Api_OnionKeys)
            : Option Api_OnionKeys)).bind fun x272 =>
          some (.next (IntKind.wrap .i64 (x220 + 1), x272))
        else
          some (.done x221)) (0, (⟨(List.replicate 16 (0 : Int)), (List.replicate 32 (0 : Int)), (List.replicate 32 (0 : Int))⟩ : Api_OnionKeys))).bind fun x254 =>
    some x254
      : Option Api_OnionKeys)).bind fun x149 =>
    some (x149, 0)
    else none
theorem f_churnref07_Derive_ok {a0 : List Int} {a1 : List Int} {r0 : (Api_OnionKeys × Int)} (hF : f_churnref07_Derive a0 a1 = some r0) (L : List Res) : Ok Tryd.prog 52 [SV.val K6 a0, SV.val K4 a1] (L) (SV.tup [SV.val kApi_OnionKeys r0.1, SV.raw (.int .i64 r0.2)]) (L) := by
  unfold f_churnref07_Derive at hF
  refine Ok.intro 56 [(0, .val K6 a0), (1, .val K4 a1)] Tryd.func52 rfl rfl rfl rfl (fun F0 => ?_)
  refine sr <| Under.bxF (K := kArr 16 K8) rfl rdV rfl <| Under.al ZT66 rfl fun b1 => ag rfl rfl <| ns <| Under.al ZT66 rfl fun b2 => nt <| sq <| sr <| mv rfl rfl <| ov (OpV.len Tryd.underlying22 rfl rdV) rfl <| bn rfl rfl rfl rfl <| nt <| Under.ite hF rfl (fun hF => ?_) (fun hF => ?_)
  ·refine Under.frz (t := 6) rfl <| sr <| ov (OpV.ld kt66 rfl) rfl <| Under.stP (x' := (⟨(List.replicate 16 (0 : Int)), (List.replicate 32 (0 : Int)), (List.replicate 32 (0 : Int))⟩ : Api_OnionKeys)) .box .id sz66_kApi_OnionKeys rfl rfl rdV rfl <| ag rfl rfl <| nl <| Under.frz (t := 4) rfl <| tn <| rt ?_
   have e3 := osi hF
   subst e3
   exact Under.rets Tryd.results52 (.ce rfl kt66 (.tm rfl .nil)) rfl rfl
  ·obtain ⟨h5, hF⟩ := gsome hF
   obtain ⟨y6, h7, hF⟩ := bsome hF
   obtain ⟨r150, h151, hF⟩ := bsome hF
   refine ct <| sr <| mv rfl rfl <| ov (OpV.slA Tryd.underlying44 sz5 rfl) rfl <| Under.bsO (ys := [99, 104, 117, 114, 110]) Tryd.underlying22 ET5 (BldA.cons rfl rfl rdI (BldA.cons rfl rfl rdI (BldA.cons rfl rfl rdI (BldA.cons rfl rfl rdI (BldA.cons rfl rfl rdI (BldA.nil _)))))) rfl rfl fun v4 => Under.cvS Tryd.underlying22 Tryd.underlying5 (of_decide_eq_true h5) rfl rfl <| Under.call Tryd.call30 rfl rfl (f_churnref02_Derive_ok h7 _) rfl <| mv rfl rfl <| ov (OpV.extr rfl rfl) rfl <| ov (OpV.extr rfl rfl) rfl <| ag rfl rfl <| ag rfl rfl <| nt <| sq <| Under.after (fun X => ∀ (x149 : Api_OnionKeys), r150 = x149 → Under F0 56 [(4, .raw (.pointer (some ⟨b1, 0, none⟩))), (6, .ptr kApi_OnionKeys x149)] ((.box kApi_OnionKeys b1 66 (⟨(List.replicate 16 (0 : Int)), (List.replicate 32 (0 : Int)), (List.replicate 32 (0 : Int))⟩ : Api_OnionKeys)) :: L) X) ?_ ?_
   ·intro x149 h297
    replace h297 := h297.symm
    subst h297
    refine sr <| ov (OpV.ld kt66 rfl) rfl <| Under.stP (x' := x149) .box .id sz66_kApi_OnionKeys rfl rfl rdV rfl <| ag rfl rfl <| nl <| Under.frz (t := 4) rfl <| tn <| rc ?_
    have e153 := osi hF
    subst e153
    exact Under.rets Tryd.results52 (.ce rfl kt66 (.tm rfl .nil)) rfl rfl
   ·intro K k152
    obtain ⟨r257, h258, h151⟩ := bsome h151
    refine sr <| ag rfl rfl <| nt <| bk <| Under.fo1 <| Under.loop (S := (Int × Api_OnionKeys)) (C := Unit) () (fun (x294 : (Int × Api_OnionKeys)) (q295 : Unit) => [(4, .raw (.pointer (some ⟨b1, 0, none⟩))), (6, .raw (.pointer (some ⟨b2, 0, none⟩))), (7, .val K6 y6.1), (9, .raw (.int .i64 x294.1))]) (fun (x294 : (Int × Api_OnionKeys)) (q295 : Unit) => (.box kApi_OnionKeys b1 66 (⟨(List.replicate 16 (0 : Int)), (List.replicate 32 (0 : Int)), (List.replicate 32 (0 : Int))⟩ : Api_OnionKeys)) :: (.box kApi_OnionKeys b2 66 x294.2) :: L) h258 (s4 rfl rfl rfl rfl) rfl (fun x294 q295 o259 h255 d256 => ?_)
    obtain ⟨x220, x221⟩ := x294
    dsimp only at h255 ⊢
    refine sq <| sr <| mv rfl rfl <| bn rfl rfl rfl rfl <| nt <| Under.ite h255 rfl (fun h255 => ?_) (fun h255 => ?_)
    ·obtain ⟨r273, h274, h255⟩ := bsome h255
     refine ct <| sq <| Under.after (fun X => ∀ (x272 : Api_OnionKeys), r273 = x272 → Under F0 56 [(4, .raw (.pointer (some ⟨b1, 0, none⟩))), (6, .raw (.pointer (some ⟨b2, 0, none⟩))), (7, .val K6 y6.1), (9, .raw (.int .i64 x220))] ((.box kApi_OnionKeys b1 66 (⟨(List.replicate 16 (0 : Int)), (List.replicate 32 (0 : Int)), (List.replicate 32 (0 : Int))⟩ : Api_OnionKeys)) :: (.box kApi_OnionKeys b2 66 x272) :: L) X) ?_ ?_
     ·intro x272 h291
      replace h291 := h291.symm
      subst h291
      exact rg <| mv rfl rfl <| bn rfl rfl rfl rfl <| ag rfl rfl <| nl <| Under.fo1 <| Under.fo1 <| Under.next _ () h255 (s4 rfl rfl rfl rfl) rfl
     ·intro K k275
      refine bk <| bk <| sr <| mv rfl rfl <| bn rfl rfl rfl rfl <| ag rfl rfl <| nt <| Under.ite h274 rfl (fun h274 => ?_) (fun h274 => ?_)
      ·obtain ⟨x276, h277, h274⟩ := bsome h274
       obtain ⟨x278, h279, h274⟩ := bsome h274
       exact rg <| mv rfl rfl <| mv rfl rfl <| mv rfl rfl <| ov (OpV.ixS h277 Tryd.underlying22 sz5 rfl rdV rfl) rfl <| ov (OpV.ldI kt5 rfl) rfl <| ov (OpV.fdM fm66_0 rfl) rfl <| Under.fo1 <| ov (OpV.ixP .box (.fld .id uf_Api_OnionKeys_0) h279 Tryd.underlying44 sz5_kInt_u8 rfl rfl) rfl <| Under.stP (x' := ({ x221 with Box := List.set x221.Box (Int.toNat x220) x276 } : Api_OnionKeys)) .box (.ix (.fld .id uf_Api_OnionKeys_0) h279) sz5_kInt_u8 rfl rfl rdI rfl <| nl <| bN <| bN <| tn <| Under.fo1 <| wk (k275 _ (osi h274).symm) (s4 rfl rfl rfl rfl)
      ·refine sr <| mv rfl rfl <| bn rfl rfl rfl rfl <| ag rfl rfl <| nt <| Under.ite h274 rfl (fun h274 => ?_) (fun h274 => ?_)
       ·obtain ⟨x281, h282, h274⟩ := bsome h274
        obtain ⟨x283, h284, h274⟩ := bsome h274
        exact rg <| mv rfl rfl <| bn rfl rfl rfl rfl <| mv rfl rfl <| mv rfl rfl <| ov (OpV.ixS h282 Tryd.underlying22 sz5 rfl rdV rfl) rfl <| ov (OpV.ldI kt5 rfl) rfl <| ov (OpV.fdM fm66_1 rfl) rfl <| Under.fo1 <| ov (OpV.ixP .box (.fld .id uf_Api_OnionKeys_1) h284 Tryd.underlying64 sz5_kInt_u8 rfl rfl) rfl <| Under.stP (x' := ({ x221 with Mac := List.set x221.Mac (Int.toNat (IntKind.wrap .i64 (x220 - 16))) x281 } : Api_OnionKeys)) .box (.ix (.fld .id uf_Api_OnionKeys_1) h284) sz5_kInt_u8 rfl rfl rdI rfl <| nl <| bN <| bN <| tn <| Under.fo1 <| wk (k275 _ (osi h274).symm) (s4 rfl rfl rfl rfl)
       ·obtain ⟨x286, h287, h274⟩ := bsome h274
        obtain ⟨x288, h289, h274⟩ := bsome h274
        exact rg <| mv rfl rfl <| bn rfl rfl rfl rfl <| mv rfl rfl <| mv rfl rfl <| ov (OpV.ixS h287 Tryd.underlying22 sz5 rfl rdV rfl) rfl <| ov (OpV.ldI kt5 rfl) rfl <| ov (OpV.fdM fm66_2 rfl) rfl <| Under.fo1 <| ov (OpV.ixP .box (.fld .id uf_Api_OnionKeys_2) h289 Tryd.underlying64 sz5_kInt_u8 rfl rfl) rfl <| Under.stP (x' := ({ x221 with Replay := List.set x221.Replay (Int.toNat (IntKind.wrap .i64 (x220 - 48))) x286 } : Api_OnionKeys)) .box (.ix (.fld .id uf_Api_OnionKeys_2) h289) sz5_kInt_u8 rfl rfl rdI rfl <| nl <| bN <| bN <| tn <| Under.fo1 <| wk (k275 _ (osi h274).symm) (s4 rfl rfl rfl rfl)
    ·refine Under.fo1 <| Under.frz (t := 6) rfl <| xt <| te ?_
     have e292 := done_eq h255 d256
     subst e292
     exact te <| bh <| tn <| wk (k152 _ (osi h151).symm) (s2 rfl rfl)
/-- churn/churnref07.half -/
noncomputable def f_churnref07_half (a0 : List Int) (a1 : List Int) : Option (List Int) :=
  (f_churnref02_Tag a0 a1).bind fun y2 =>
  (((Loop.run (S := (Int × (List Int))) (R := (List Int)) (fun (x50, x51) =>
      bif decide (x50 < 16) then
        (idx y2 x50).bind fun x62 =>
        (idx x51 x50).bind fun x64 =>
        some (.next (IntKind.wrap .i64 (x50 + 1), List.set x51 (Int.toNat x50) x62))
      else
        some (.done x51)) (0, (List.replicate 16 (0 : Int)))).bind fun x56 =>
  some x56
    : Option (List Int))).bind fun x35 =>
  some x35
theorem f_churnref07_half_ok {a0 : List Int} {a1 : List Int} {r0 : (List Int)} (hF : f_churnref07_half a0 a1 = some r0) (L : List Res) : Ok Tryd.prog 55 [SV.val K3 a0, SV.val K6 a1] (L) (SV.val K4 r0) (L) := by
  unfold f_churnref07_half at hF
  refine Ok.intro 21 [(0, .val K3 a0), (1, .val K6 a1)] Tryd.func55 rfl rfl rfl rfl (fun F0 => ?_)
  obtain ⟨y2, h3, hF⟩ := bsome hF
  obtain ⟨r36, h37, hF⟩ := bsome hF
  refine sr <| Under.bxF (K := kArr 32 K8) rfl rdV rfl <| Under.al ZT44 rfl fun b1 => ns <| ov (OpV.slA Tryd.underlying64 sz5 rfl) rfl <| mv rfl rfl <| Under.call Tryd.call70 rfl rfl (f_churnref02_Tag_ok h3 _) rfl <| Under.al ZT64 rfl fun b4 => Under.stP (x' := y2) .box .id sz64_kArr_32_kInt_u8_ rfl rfl rdV rfl <| nl <| Under.frz (t := 5) rfl <| tn <| sr <| Under.al ZT44 rfl fun b5 => nt <| sq <| Under.after (fun X => ∀ (x35 : List Int), r36 = x35 → Under F0 21 [(4, .raw (.pointer (some ⟨b1, 0, none⟩))), (6, .ptr K4 x35)] ((.box K4 b1 44 (List.replicate 16 (0 : Int))) :: L) X) ?_ ?_
  ·intro x35 h71
   replace h71 := h71.symm
   subst h71
   refine sr <| ov (OpV.ld kt44 rfl) rfl <| Under.stP (x' := x35) .box .id sz44_kArr_16_kInt_u8_ rfl rfl rdV rfl <| nl <| Under.frz (t := 4) rfl <| tn <| rc ?_
   have e39 := osi hF
   subst e39
   exact Under.rets Tryd.results55 (.ce rfl kt44 .nil) rfl rfl
  ·intro K k38
   obtain ⟨r59, h60, h37⟩ := bsome h37
   refine sr <| ag rfl rfl <| nt <| bk <| Under.fo1 <| Under.loop (S := (Int × (List Int))) (C := Unit) () (fun (x68 : (Int × (List Int))) (q69 : Unit) => [(4, .raw (.pointer (some ⟨b1, 0, none⟩))), (5, .ptr K3 y2), (6, .raw (.pointer (some ⟨b5, 0, none⟩))), (7, .raw (.int .i64 x68.1))]) (fun (x68 : (Int × (List Int))) (q69 : Unit) => (.box K4 b1 44 (List.replicate 16 (0 : Int))) :: (.box K4 b5 44 x68.2) :: L) h60 (s4 rfl rfl rfl rfl) rfl (fun x68 q69 o61 h57 d58 => ?_)
   obtain ⟨x50, x51⟩ := x68
   dsimp only at h57 ⊢
   refine sq <| sr <| mv rfl rfl <| bn rfl rfl rfl rfl <| nt <| Under.ite h57 rfl (fun h57 => ?_) (fun h57 => ?_)
   ·obtain ⟨x62, h63, h57⟩ := bsome h57
    obtain ⟨x64, h65, h57⟩ := bsome h57
    exact ct <| sq <| bk <| rg <| mv rfl rfl <| mv rfl rfl <| ov (OpV.ixA h63 Tryd.underlying64 sz5 rfl rfl) rfl <| ov (OpV.ldI kt5 rfl) rfl <| Under.fo1 <| ov (OpV.ixP .box .id h65 Tryd.underlying44 sz5_kInt_u8 rfl rfl) rfl <| Under.stP (x' := List.set x51 (Int.toNat x50) x62) .box (.ix .id h65) sz5_kInt_u8 rfl rfl rdI rfl <| nl <| bN <| tn <| rg <| mv rfl rfl <| bn rfl rfl rfl rfl <| ag rfl rfl <| nl <| Under.fo1 <| Under.next _ () h57 (s4 rfl rfl rfl rfl) rfl
   ·refine Under.fo1 <| Under.frz (t := 6) rfl <| xt <| te ?_
    have e66 := done_eq h57 d58
    subst e66
    exact te <| bh <| tn <| wk (k38 _ (osi h37).symm) (s2 rfl rfl)
/-- churn/churnref07.tag -/
noncomputable def f_churnref07_tag (a0 : Api_OnionKeys) (a1 : Int) (a2 : List Int) (a3 : List Int) : Option (List Int) :=
  (app [IntKind.wrap .u8 a1] a2).bind fun z3 =>
  (app z3 a3).bind fun z6 =>
  (f_churnref07_half a0.Mac z6).bind fun y9 =>
  some y9
theorem f_churnref07_tag_ok {a0 : Api_OnionKeys} {a1 : Int} {a2 : List Int} {a3 : List Int} {r0 : (List Int)} (hF : f_churnref07_tag a0 a1 a2 a3 = some r0) (L : List Res) : Ok Tryd.prog 53 [SV.val kApi_OnionKeys a0, SV.raw (.int .i64 a1), SV.val K4 a2, SV.val K6 a3] (L) (SV.val K4 r0) (L) := by
  unfold f_churnref07_tag at hF
  refine Ok.intro 23 [(0, .val kApi_OnionKeys a0), (1, .raw (.int .i64 a1)), (2, .val K4 a2), (3, .val K6 a3)] Tryd.func53 rfl rfl rfl rfl (fun F0 => ?_)
  obtain ⟨z3, h4, hF⟩ := bsome hF
  obtain ⟨z6, h7, hF⟩ := bsome hF
  obtain ⟨y9, h10, hF⟩ := bsome hF
  refine sr <| Under.bxF (K := kApi_OnionKeys) rfl rdV rfl <| Under.bxF (K := kArr 16 K8) rfl rdV rfl <| Under.al ZT44 rfl fun b1 => ns <| mv rfl rfl <| ov (OpV.conv (by kernel_rfl) Tryd.underlying5 rfl) rfl <| Under.bsO (ys := [IntKind.wrap .u8 a1]) Tryd.underlying22 ET5 (BldA.cons rfl rfl rdI (BldA.nil _)) rfl rfl fun v2 => ag rfl rfl <| ns <| mv rfl rfl <| ov (OpV.slA Tryd.underlying44 sz5 rfl) rfl <| Under.app h4 Tryd.underlying22 AT5 rfl rfl rdV rfl fun v5 => ag rfl rfl <| ns <| mv rfl rfl <| mv rfl rfl <| Under.app h7 Tryd.underlying22 AT5 rfl rfl rdV rfl fun v8 => ag rfl rfl <| nl <| Under.frzO (t := 9) rfl <| tn <| sr <| ov (OpV.fd fb66_1 rfl rfl) rfl <| ov (OpV.ld kt64 rfl) rfl <| mv rfl rfl <| Under.call Tryd.call55 rfl rfl (f_churnref07_half_ok h10 _) rfl <| Under.stP (x' := y9) .box .id sz44_kArr_16_kInt_u8_ rfl rfl rdV rfl <| nl <| Under.frz (t := 8) rfl <| tn <| rc ?_
  have e11 := osi hF
  subst e11
  exact Under.rets Tryd.results53 (.ce rfl kt44 .nil) rfl rfl
/-- churn/churnref04.twice -/
noncomputable def f_churnref04_twice (a0 : Int) : Option Int :=
  bif decide (a0 ≥ 128) then
    some (xorI .u8 (shlI .u8 a0 1) 27)
  else
    some (shlI .u8 a0 1)
theorem f_churnref04_twice_ok {a0 : Int} {r0 : Int} (hF : f_churnref04_twice a0 = some r0) (L : List Res) : Ok Tryd.prog 80 [SV.raw (.int .u8 a0)] (L) (SV.raw (.int .u8 r0)) (L) := by
  unfold f_churnref04_twice at hF
  refine Ok.intro 10 [(0, .raw (.int .u8 a0))] Tryd.func80 rfl rfl rfl rfl (fun F0 => ?_)
  refine sr <| ag rfl rfl <| nt <| sq <| sr <| mv rfl rfl <| bn rfl rfl rfl rfl <| nt <| Under.ite hF rfl (fun hF => ?_) (fun hF => ?_)
  ·refine sr <| mv rfl rfl <| ov (OpV.sh rfl rfl (by decide) rfl) rfl <| bn rfl rfl rfl rfl <| ag rfl rfl <| nt <| rt ?_
   have e1 := osi hF
   subst e1
   exact Under.rets Tryd.results80 (.tm rfl .nil) rfl rfl
  ·refine ct <| sr <| mv rfl rfl <| ov (OpV.sh rfl rfl (by decide) rfl) rfl <| ag rfl rfl <| nt <| rc ?_
   have e2 := osi hF
   subst e2
   exact Under.rets Tryd.results80 (.tm rfl .nil) rfl rfl
/-- churn/churnref04.Keys -/
noncomputable def f_churnref04_Keys (a0 : List Int) : Option (List Int) :=
  (((Loop.run (S := (Int × (List Int))) (R := (List Int)) (fun (x532, x533) =>
      bif decide (x532 < 16) then
        (idx a0 x532).bind fun x544 =>
        (idx x533 x532).bind fun x546 =>
        some (.next (IntKind.wrap .i64 (x532 + 1), List.set x533 (Int.toNat x532) x544))
      else
        some (.done x533)) (0, (List.replicate 176 (0 : Int)))).bind fun x538 =>
  some x538
    : Option (List Int))).bind fun x32 =>
  (((Loop.run (S := (Int × Int × (List Int))) (R := (List Int)) (fun (x395, x396, x397) =>
      bif decide (x396 < 176) then
        (idx x397 (IntKind.wrap .i64 (x396 - 4))).bind fun x461 =>
        (idx x397 (IntKind.wrap .i64 (x396 - 3))).bind fun x463 =>
        (idx x397 (IntKind.wrap .i64 (x396 - 2))).bind fun x465 =>
        (idx x397 (IntKind.wrap .i64 (x396 - 1))).bind fun x467 =>
        ((bif (Int.tmod x396 16) == 0 then
          (idx str0_l x463).bind fun x503 =>
          (idx str0_l x465).bind fun x505 =>
          (idx str0_l x467).bind fun x507 =>
          (idx str0_l x461).bind fun x509 =>
          (f_churnref04_twice x395).bind fun y511 =>
          some (y511, xorI .u8 x503 x395, x505, x507, x509)
        else
          some (x395, x461, x463, x465, x467)
          : Option (Int × Int × Int × Int × Int))).bind fun r484 => match r484 with
          | (x479, x480, x481, x482, x483) =>
            (idx x397 (IntKind.wrap .i64 (x396 - 16))).bind fun x487 =>
            (idx x397 x396).bind fun x489 =>
            (idx (List.set x397 (Int.toNat x396) (xorI .u8 x487 x480)) (IntKind.wrap .i64 (x396 - 15))).bind fun x491 =>
            (idx (List.set x397 (Int.toNat x396) (xorI .u8 x487 x480)) (IntKind.wrap .i64 (x396 + 1))).bind fun x493 =>
            (idx (List.set (List.set x397 (Int.toNat x396) (xorI .u8 x487 x480)) (Int.toNat (IntKind.wrap .i64 (x396 + 1))) (xorI .u8 x491 x481)) (IntKind.wrap .i64 (x396 - 14))).bind fun x495 =>
            (idx (List.set (List.set x397 (Int.toNat x396) (xorI .u8 x487 x480)) (Int.toNat (IntKind.wrap .i64 (x396 + 1))) (xorI .u8 x491 x481)) (IntKind.wrap .i64 (x396 + 2))).bind fun x497 =>
            (idx (List.set (List.set (List.set x397 (Int.toNat x396) (xorI .u8 x487 x480)) (Int.toNat (IntKind.wrap .i64 (x396 + 1))) (xorI .u8 x491 x481)) (Int.toNat (IntKind.wrap .i64 (x396 + 2))) (xorI .u8 x495 x482)) (IntKind.wrap .i64 (x396 - 13))).bind fun x499 =>
            (idx (List.set (List.set (List.set x397 (Int.toNat x396) (xorI .u8 x487 x480)) (Int.toNat (IntKind.wrap .i64 (x396 + 1))) (xorI .u8 x491 x481)) (Int.toNat (IntKind.wrap .i64 (x396 + 2))) (xorI .u8 x495 x482)) (IntKind.wrap .i64 (x396 + 3))).bind fun x501 =>
            some (.next (x479, IntKind.wrap .i64 (x396 + 4), List.set (List.set (List.set (List.set x397 (Int.toNat x396) (xorI .u8 x487 x480)) (Int.toNat (IntKind.wrap .i64 (x396 + 1))) (xorI .u8 x491 x481)) (Int.toNat (IntKind.wrap .i64 (x396 + 2))) (xorI .u8 x495 x482)) (Int.toNat (IntKind.wrap .i64 (x396 + 3))) (xorI .u8 x499 x483)))
      else
        some (.done x397)) (1, 16, x32)).bind fun x454 =>
  some x454
    : Option (List Int))).bind fun x275 =>
  some x275
theorem f_churnref04_Keys_ok {a0 : List Int} {r0 : (List Int)} (hF : f_churnref04_Keys a0 = some r0) (L : List Res) : Ok Tryd.prog 72 [SV.val K4 a0] (L) (SV.val K1 r0) (L) := by
  unfold f_churnref04_Keys at hF
  refine Ok.intro 93 [(0, .val K4 a0)] Tryd.func72 rfl rfl rfl rfl (fun F0 => ?_)
  obtain ⟨r33, h34, hF⟩ := bsome hF
  refine sr <| Under.bxF (K := kArr 16 K8) rfl rdV rfl <| Under.al ZT131 rfl fun b1 => ns <| Under.al ZT131 rfl fun b2 => nt <| sq <| Under.after (fun X => ∀ (x32 : List Int), r33 = x32 → Under F0 93 [(2, .raw (.pointer (some ⟨b1, 0, none⟩))), (3, .raw (.pointer (some ⟨b2, 0, none⟩)))] ((.box K1 b1 131 (List.replicate 176 (0 : Int))) :: (.box K1 b2 131 x32) :: L) X) ?_ ?_
  ·intro x32 h553
   replace h553 := h553.symm
   subst h553
   obtain ⟨r276, h277, hF⟩ := bsome hF
   refine sr <| ag rfl rfl <| nt <| sq <| Under.after (fun X => ∀ (x275 : List Int), r276 = x275 → Under F0 93 [(2, .raw (.pointer (some ⟨b1, 0, none⟩))), (3, .ptr K1 x275)] ((.box K1 b1 131 (List.replicate 176 (0 : Int))) :: L) X) ?_ ?_
   ·intro x275 h521
    replace h521 := h521.symm
    subst h521
    refine sr <| ov (OpV.ld kt131 rfl) rfl <| Under.stP (x' := x275) .box .id sz131_kArr_176_kInt_u8_ rfl rfl rdV rfl <| nl <| Under.frz (t := 2) rfl <| tn <| rc ?_
    have e279 := osi hF
    subst e279
    exact Under.rets Tryd.results72 (.ce rfl kt131 .nil) rfl rfl
   ·intro K k278
    obtain ⟨r457, h458, h277⟩ := bsome h277
    refine sr <| ag rfl rfl <| nt <| bk <| Under.fo1 <| Under.fo1 <| Under.loop (S := (Int × Int × (List Int))) (C := Unit) () (fun (x518 : (Int × Int × (List Int))) (q519 : Unit) => [(2, .raw (.pointer (some ⟨b1, 0, none⟩))), (3, .raw (.pointer (some ⟨b2, 0, none⟩))), (5, .raw (.int .u8 x518.1)), (6, .raw (.int .i64 x518.2.1))]) (fun (x518 : (Int × Int × (List Int))) (q519 : Unit) => (.box K1 b1 131 (List.replicate 176 (0 : Int))) :: (.box K1 b2 131 x518.2.2) :: L) h458 (s4 rfl rfl rfl rfl) rfl (fun x518 q519 o459 h455 d456 => ?_)
    obtain ⟨x395, x396, x397⟩ := x518
    dsimp only at h455 ⊢
    refine sq <| sr <| mv rfl rfl <| bn rfl rfl rfl rfl <| nt <| Under.ite h455 rfl (fun h455 => ?_) (fun h455 => ?_)
    ·obtain ⟨x461, h462, h455⟩ := bsome h455
     obtain ⟨x463, h464, h455⟩ := bsome h455
     obtain ⟨x465, h466, h455⟩ := bsome h455
     obtain ⟨x467, h468, h455⟩ := bsome h455
     refine ct <| sq <| bk <| sq <| Under.phases rfl <| Under.fo1 <| Under.fo1 <| Under.grpT (L := L) [0, 1, 2, 3, 4, 5, 6, 7, 8, 9, 10, 11, 12, 13, 14, 15, 16, 17, 18] [[6], [25], [3, 26], [27], [6], [29], [3, 30], [31], [6], [33], [3, 34], [35], [6], [37], [3, 38], [39], [28], [32], [36]] [⟨sk0 (.raw (.int .i64 x396)), [], [], []⟩, ⟨sk0 (.raw (.int .i64 (IntKind.wrap .i64 (x396 - 4)))), [], [], []⟩, ⟨sk0 (.raw (.pointer (some ⟨b2, 0 + Int.toNat (IntKind.wrap .i64 (x396 - 4)) * 1, none⟩))), [], [], []⟩, ⟨sk0 (.raw (.int .u8 x461)), [], [], []⟩, ⟨sk0 (.raw (.int .i64 x396)), [], [], []⟩, ⟨sk0 (.raw (.int .i64 (IntKind.wrap .i64 (x396 - 3)))), [], [], []⟩, ⟨sk0 (.raw (.pointer (some ⟨b2, 0 + Int.toNat (IntKind.wrap .i64 (x396 - 3)) * 1, none⟩))), [], [], []⟩, ⟨sk0 (.raw (.int .u8 x463)), [], [], []⟩, ⟨sk0 (.raw (.int .i64 x396)), [], [], []⟩, ⟨sk0 (.raw (.int .i64 (IntKind.wrap .i64 (x396 - 2)))), [], [], []⟩, ⟨sk0 (.raw (.pointer (some ⟨b2, 0 + Int.toNat (IntKind.wrap .i64 (x396 - 2)) * 1, none⟩))), [], [], []⟩, ⟨sk0 (.raw (.int .u8 x465)), [], [], []⟩, ⟨sk0 (.raw (.int .i64 x396)), [], [], []⟩, ⟨sk0 (.raw (.int .i64 (IntKind.wrap .i64 (x396 - 1)))), [], [], []⟩, ⟨sk0 (.raw (.pointer (some ⟨b2, 0 + Int.toNat (IntKind.wrap .i64 (x396 - 1)) * 1, none⟩))), [], [], []⟩, ⟨sk0 (.raw (.int .u8 x467)), [], [], []⟩, ⟨sk0 (.raw (.int .u8 x461)), [], [], []⟩, ⟨sk0 (.raw (.int .u8 x463)), [], [], []⟩, ⟨sk0 (.raw (.int .u8 x465)), [], [], []⟩] [] (fun T : List Res => (.box K1 b1 131 (List.replicate 176 (0 : Int))) :: (.box K1 b2 131 x397) :: T) lf2 rfl (by kernel_rfl) rfl rfl (fun F hF0 bs460 => ?_)
     refine Tq.v (fun G T hG => ?_) ?_
     ·exact mv rfl rfl <| Under.fo1 <| Under.fo1 <| Tq.end undef rfl rfl
     refine Tq.v (fun G T hG => ?_) ?_
     ·exact bn rfl rfl rfl rfl <| Under.fo1 <| Under.fo1 <| Tq.end undef rfl rfl
     refine Tq.v (fun G T hG => ?_) ?_
     ·exact Under.fo1 <| ov (OpV.ixP .box .id h462 Tryd.underlying131 sz5_kInt_u8 rfl rfl) rfl <| Under.fo1 <| Tq.end undef rfl rfl
     refine Tq.v (fun G T hG => ?_) ?_
     ·exact Under.fo1 <| Under.ldP .box (.ix .id h462) kt5_kInt_u8 rfl rfl <| Under.rawI (t := 28) rfl <| Under.fo1 <| Tq.end undef rfl rfl
     refine Tq.v (fun G T hG => ?_) ?_
     ·exact mv rfl rfl <| Under.fo1 <| Under.fo1 <| Tq.end undef rfl rfl
     refine Tq.v (fun G T hG => ?_) ?_
     ·exact bn rfl rfl rfl rfl <| Under.fo1 <| Under.fo1 <| Tq.end undef rfl rfl
     refine Tq.v (fun G T hG => ?_) ?_
     ·exact Under.fo1 <| ov (OpV.ixP .box .id h464 Tryd.underlying131 sz5_kInt_u8 rfl rfl) rfl <| Under.fo1 <| Tq.end undef rfl rfl
     refine Tq.v (fun G T hG => ?_) ?_
     ·exact Under.fo1 <| Under.ldP .box (.ix .id h464) kt5_kInt_u8 rfl rfl <| Under.rawI (t := 32) rfl <| Under.fo1 <| Tq.end undef rfl rfl
     refine Tq.v (fun G T hG => ?_) ?_
     ·exact mv rfl rfl <| Under.fo1 <| Under.fo1 <| Tq.end undef rfl rfl
     refine Tq.v (fun G T hG => ?_) ?_
     ·exact bn rfl rfl rfl rfl <| Under.fo1 <| Under.fo1 <| Tq.end undef rfl rfl
     refine Tq.v (fun G T hG => ?_) ?_
     ·exact Under.fo1 <| ov (OpV.ixP .box .id h466 Tryd.underlying131 sz5_kInt_u8 rfl rfl) rfl <| Under.fo1 <| Tq.end undef rfl rfl
     refine Tq.v (fun G T hG => ?_) ?_
     ·exact Under.fo1 <| Under.ldP .box (.ix .id h466) kt5_kInt_u8 rfl rfl <| Under.rawI (t := 36) rfl <| Under.fo1 <| Tq.end undef rfl rfl
     refine Tq.v (fun G T hG => ?_) ?_
     ·exact mv rfl rfl <| Under.fo1 <| Under.fo1 <| Tq.end undef rfl rfl
     refine Tq.v (fun G T hG => ?_) ?_
     ·exact bn rfl rfl rfl rfl <| Under.fo1 <| Under.fo1 <| Tq.end undef rfl rfl
     refine Tq.v (fun G T hG => ?_) ?_
     ·exact Under.fo1 <| ov (OpV.ixP .box .id h468 Tryd.underlying131 sz5_kInt_u8 rfl rfl) rfl <| Under.fo1 <| Tq.end undef rfl rfl
     refine Tq.v (fun G T hG => ?_) ?_
     ·exact Under.fo1 <| Under.ldP .box (.ix .id h468) kt5_kInt_u8 rfl rfl <| Under.rawI (t := 40) rfl <| Under.fo1 <| Tq.end undef rfl rfl
     refine Tq.v (fun G T hG => ?_) ?_
     ·exact ag rfl rfl <| Under.fo1 <| Under.fo1 <| Tq.end undef rfl rfl
     refine Tq.v (fun G T hG => ?_) ?_
     ·exact ag rfl rfl <| Under.fo1 <| Under.fo1 <| Tq.end undef rfl rfl
     refine Tq.v (fun G T hG => ?_) ?_
     ·exact ag rfl rfl <| Under.fo1 <| Under.fo1 <| Tq.end undef rfl rfl
     obtain ⟨r484, h485, h455⟩ := bsome h455
     refine Tq.nil <| Under.le hF0 <| Under.p1 19 rfl rfl <| ag rfl rfl <| Under.pn <| Under.pdone rfl <| tn <| sq <| Under.after (fun X => ∀ (x479 : Int) (x480 : Int) (x481 : Int) (x482 : Int) (x483 : Int), r484 = (x479, x480, x481, x482, x483) → Under F0 93 [(2, .raw (.pointer (some ⟨b1, 0, none⟩))), (3, .raw (.pointer (some ⟨b2, 0, none⟩))), (5, .raw (.int .u8 x479)), (6, .raw (.int .i64 x396)), (7, .raw (.int .u8 x480)), (8, .raw (.int .u8 x481)), (9, .raw (.int .u8 x482)), (10, .raw (.int .u8 x483))] ((.box K1 b1 131 (List.replicate 176 (0 : Int))) :: (.box K1 b2 131 x397) :: L) X) ?_ ?_
     ·intro x479 x480 x481 x482 x483 h515
      replace h515 := h515.symm
      subst h515
      obtain ⟨x487, h488, h455⟩ := bsome h455
      obtain ⟨x489, h490, h455⟩ := bsome h455
      obtain ⟨x491, h492, h455⟩ := bsome h455
      obtain ⟨x493, h494, h455⟩ := bsome h455
      obtain ⟨x495, h496, h455⟩ := bsome h455
      obtain ⟨x497, h498, h455⟩ := bsome h455
      obtain ⟨x499, h500, h455⟩ := bsome h455
      obtain ⟨x501, h502, h455⟩ := bsome h455
      exact sr <| mv rfl rfl <| mv rfl rfl <| bn rfl rfl rfl rfl <| Under.fo1 <| ov (OpV.ixP .box .id h488 Tryd.underlying131 sz5_kInt_u8 rfl rfl) rfl <| Under.ldP .box (.ix .id h488) kt5_kInt_u8 rfl rfl <| Under.rawI (t := 61) rfl <| mv rfl rfl <| bn rfl rfl rfl rfl <| ov (OpV.ixP .box .id h490 Tryd.underlying131 sz5_kInt_u8 rfl rfl) rfl <| Under.stP (x' := List.set x397 (Int.toNat x396) (xorI .u8 x487 x480)) .box (.ix .id h490) sz5_kInt_u8 rfl rfl rdI rfl <| ns <| mv rfl rfl <| bn rfl rfl rfl rfl <| mv rfl rfl <| bn rfl rfl rfl rfl <| ov (OpV.ixP .box .id h492 Tryd.underlying131 sz5_kInt_u8 rfl rfl) rfl <| Under.ldP .box (.ix .id h492) kt5_kInt_u8 rfl rfl <| Under.rawI (t := 70) rfl <| mv rfl rfl <| bn rfl rfl rfl rfl <| ov (OpV.ixP .box .id h494 Tryd.underlying131 sz5_kInt_u8 rfl rfl) rfl <| Under.stP (x' := List.set (List.set x397 (Int.toNat x396) (xorI .u8 x487 x480)) (Int.toNat (IntKind.wrap .i64 (x396 + 1))) (xorI .u8 x491 x481)) .box (.ix .id h494) sz5_kInt_u8 rfl rfl rdI rfl <| ns <| mv rfl rfl <| bn rfl rfl rfl rfl <| mv rfl rfl <| bn rfl rfl rfl rfl <| ov (OpV.ixP .box .id h496 Tryd.underlying131 sz5_kInt_u8 rfl rfl) rfl <| Under.ldP .box (.ix .id h496) kt5_kInt_u8 rfl rfl <| Under.rawI (t := 79) rfl <| mv rfl rfl <| bn rfl rfl rfl rfl <| ov (OpV.ixP .box .id h498 Tryd.underlying131 sz5_kInt_u8 rfl rfl) rfl <| Under.stP (x' := List.set (List.set (List.set x397 (Int.toNat x396) (xorI .u8 x487 x480)) (Int.toNat (IntKind.wrap .i64 (x396 + 1))) (xorI .u8 x491 x481)) (Int.toNat (IntKind.wrap .i64 (x396 + 2))) (xorI .u8 x495 x482)) .box (.ix .id h498) sz5_kInt_u8 rfl rfl rdI rfl <| nt <| rg <| mv rfl rfl <| bn rfl rfl rfl rfl <| mv rfl rfl <| bn rfl rfl rfl rfl <| ov (OpV.ixP .box .id h500 Tryd.underlying131 sz5_kInt_u8 rfl rfl) rfl <| Under.ldP .box (.ix .id h500) kt5_kInt_u8 rfl rfl <| Under.rawI (t := 88) rfl <| mv rfl rfl <| bn rfl rfl rfl rfl <| ov (OpV.ixP .box .id h502 Tryd.underlying131 sz5_kInt_u8 rfl rfl) rfl <| Under.stP (x' := List.set (List.set (List.set (List.set x397 (Int.toNat x396) (xorI .u8 x487 x480)) (Int.toNat (IntKind.wrap .i64 (x396 + 1))) (xorI .u8 x491 x481)) (Int.toNat (IntKind.wrap .i64 (x396 + 2))) (xorI .u8 x495 x482)) (Int.toNat (IntKind.wrap .i64 (x396 + 3))) (xorI .u8 x499 x483)) .box (.ix .id h502) sz5_kInt_u8 rfl rfl rdI rfl <| nl <| bN <| tn <| rg <| mv rfl rfl <| bn rfl rfl rfl rfl <| ag rfl rfl <| nl <| Under.fo1 <| Under.next _ () h455 (s4 rfl rfl rfl rfl) rfl
     ·intro K k486
      refine sr <| mv rfl rfl <| ov (OpV.quo rfl rfl (by decide) rfl) rfl <| bn rfl rfl rfl rfl <| nt <| Under.ite h485 rfl (fun h485 => ?_) (fun h485 => ?_)
      ·obtain ⟨x503, h504, h485⟩ := bsome h485
       obtain ⟨x505, h506, h485⟩ := bsome h485
       obtain ⟨x507, h508, h485⟩ := bsome h485
       obtain ⟨x509, h510, h485⟩ := bsome h485
       obtain ⟨y511, h512, h485⟩ := bsome h485
       exact sr <| mv rfl rfl <| ag rfl rfl <| nt <| sq <| dw rfl (by kernel_rfl) fun F hF0 => mvq rfl rfl <| oq (OpV.ixStr h504 Tryd.underlying9 rfl str0_rd rfl) rfl <| mvq rfl rfl <| bnq rfl rfl rfl rfl <| mvq rfl rfl <| oq (OpV.ixStr h506 Tryd.underlying9 rfl str0_rd rfl) rfl <| mvq rfl rfl <| oq (OpV.ixStr h508 Tryd.underlying9 rfl str0_rd rfl) rfl <| agq rfl rfl <| agq rfl rfl <| agq rfl rfl <| nlq hF0 <| tn <| sr <| mv rfl rfl <| ov (OpV.ixStr h510 Tryd.underlying9 rfl str0_rd rfl) rfl <| ag rfl rfl <| nt <| rg <| mv rfl rfl <| Under.call Tryd.call80 rfl rfl (f_churnref04_twice_ok h512 _) rfl <| ag rfl rfl <| nt <| Under.fo1 <| Under.fo1 <| wk (k486 _ _ _ _ _ (osi h485).symm) (s8 rfl rfl rfl rfl rfl rfl rfl rfl)
      ·exact ct <| Under.fo1 <| Under.fo1 <| wk (k486 _ _ _ _ _ (osi h485).symm) (s8 rfl rfl rfl rfl rfl rfl rfl rfl)
    ·refine Under.fo1 <| Under.frz (t := 3) rfl <| xt <| te ?_
     have e516 := done_eq h455 d456
     subst e516
     exact te <| bh <| tn <| wk (k278 _ (osi h277).symm) (s2 rfl rfl)
  ·intro K k35
   obtain ⟨r541, h542, h34⟩ := bsome h34
   refine sr <| ag rfl rfl <| nt <| bk <| Under.fo1 <| Under.loop (S := (Int × (List Int))) (C := Unit) () (fun (x550 : (Int × (List Int))) (q551 : Unit) => [(1, .ptr K4 a0), (2, .raw (.pointer (some ⟨b1, 0, none⟩))), (3, .raw (.pointer (some ⟨b2, 0, none⟩))), (4, .raw (.int .i64 x550.1))]) (fun (x550 : (Int × (List Int))) (q551 : Unit) => (.box K1 b1 131 (List.replicate 176 (0 : Int))) :: (.box K1 b2 131 x550.2) :: L) h542 (s4 rfl rfl rfl rfl) rfl (fun x550 q551 o543 h539 d540 => ?_)
   obtain ⟨x532, x533⟩ := x550
   dsimp only at h539 ⊢
   refine sq <| sr <| mv rfl rfl <| bn rfl rfl rfl rfl <| nt <| Under.ite h539 rfl (fun h539 => ?_) (fun h539 => ?_)
   ·obtain ⟨x544, h545, h539⟩ := bsome h539
    obtain ⟨x546, h547, h539⟩ := bsome h539
    exact ct <| sq <| bk <| rg <| mv rfl rfl <| mv rfl rfl <| ov (OpV.ixA h545 Tryd.underlying44 sz5 rfl rfl) rfl <| ov (OpV.ldI kt5 rfl) rfl <| Under.fo1 <| ov (OpV.ixP .box .id h547 Tryd.underlying131 sz5_kInt_u8 rfl rfl) rfl <| Under.stP (x' := List.set x533 (Int.toNat x532) x544) .box (.ix .id h547) sz5_kInt_u8 rfl rfl rdI rfl <| nl <| bN <| tn <| rg <| mv rfl rfl <| bn rfl rfl rfl rfl <| ag rfl rfl <| nl <| Under.fo1 <| Under.next _ () h539 (s4 rfl rfl rfl rfl) rfl
   ·refine xt <| te ?_
    have e548 := done_eq h539 d540
    subst e548
    exact te <| bh <| tn <| Under.fo1 <| Under.fo1 <| wk (k35 _ (osi h34).symm) (s2 rfl rfl)
/-- churn/churnref04.added -/
noncomputable def f_churnref04_added (a0 : List Int) (a1 : List Int) (a2 : Int) : Option (List Int) :=
  (((Loop.run (S := (Int × (List Int))) (R := (List Int)) (fun (x65, x66) =>
      bif decide (x65 < 16) then
        (idx x66 x65).bind fun x81 =>
        (idx a1 (IntKind.wrap .i64 ((IntKind.wrap .i64 (16 * a2)) + x65))).bind fun x83 =>
        (idx x66 x65).bind fun x85 =>
        some (.next (IntKind.wrap .i64 (x65 + 1), List.set x66 (Int.toNat x65) (xorI .u8 x81 x83)))
      else
        some (.done x66)) (0, a0)).bind fun x74 =>
  some x74
    : Option (List Int))).bind fun x44 =>
  some x44
theorem f_churnref04_added_ok {a0 : List Int} {a1 : List Int} {a2 : Int} {r0 : (List Int)} (hF : f_churnref04_added a0 a1 a2 = some r0) (L : List Res) : Ok Tryd.prog 81 [SV.val K4 a0, SV.val K1 a1, SV.raw (.int .i64 a2)] (L) (SV.val K4 r0) (L) := by
  unfold f_churnref04_added at hF
  refine Ok.intro 24 [(0, .val K4 a0), (1, .val K1 a1), (2, .raw (.int .i64 a2))] Tryd.func81 rfl rfl rfl rfl (fun F0 => ?_)
  obtain ⟨r45, h46, hF⟩ := bsome hF
  refine sr <| Under.bx (K := kArr 16 K8) rfl rdV rfl fun b1 => Under.bxF (K := kArr 176 K8) rfl rdV rfl <| Under.al ZT44 rfl fun b2 => nt <| sq <| Under.after (fun X => ∀ (x44 : List Int), r45 = x44 → Under F0 24 [(3, .ptr K4 x44), (6, .raw (.pointer (some ⟨b2, 0, none⟩)))] ((.box K4 b2 44 (List.replicate 16 (0 : Int))) :: L) X) ?_ ?_
  ·intro x44 h92
   replace h92 := h92.symm
   subst h92
   refine sr <| ov (OpV.ld kt44 rfl) rfl <| Under.stP (x' := x44) .box .id sz44_kArr_16_kInt_u8_ rfl rfl rdV rfl <| nl <| Under.frz (t := 6) rfl <| tn <| rc ?_
   have e48 := osi hF
   subst e48
   exact Under.rets Tryd.results81 (.ce rfl kt44 .nil) rfl rfl
  ·intro K k47
   obtain ⟨r77, h78, h46⟩ := bsome h46
   refine sr <| ag rfl rfl <| nt <| bk <| Under.fo1 <| Under.loop (S := (Int × (List Int))) (C := Unit) () (fun (x89 : (Int × (List Int))) (q90 : Unit) => [(2, .raw (.int .i64 a2)), (3, .raw (.pointer (some ⟨b1, 0, none⟩))), (4, .ptr K1 a1), (6, .raw (.pointer (some ⟨b2, 0, none⟩))), (7, .raw (.int .i64 x89.1))]) (fun (x89 : (Int × (List Int))) (q90 : Unit) => (.box K4 b1 44 x89.2) :: (.box K4 b2 44 (List.replicate 16 (0 : Int))) :: L) h78 (s5 rfl rfl rfl rfl rfl) rfl (fun x89 q90 o79 h75 d76 => ?_)
   obtain ⟨x65, x66⟩ := x89
   dsimp only at h75 ⊢
   refine sq <| sr <| mv rfl rfl <| bn rfl rfl rfl rfl <| nt <| Under.ite h75 rfl (fun h75 => ?_) (fun h75 => ?_)
   ·obtain ⟨x81, h82, h75⟩ := bsome h75
    obtain ⟨x83, h84, h75⟩ := bsome h75
    obtain ⟨x85, h86, h75⟩ := bsome h75
    refine ct <| sq <| bk <| Under.phases rfl <| Under.fo1 <| Under.fo1 <| Under.grpT (L := L) [0, 1, 2, 3, 4, 5, 6, 7, 8] [[7], [3, 12], [13], [2], [15], [7], [16, 17], [4, 18], [19]] [⟨sk0 (.raw (.int .i64 x65)), [], [], []⟩, ⟨sk0 (.raw (.pointer (some ⟨b1, 0 + Int.toNat x65 * 1, none⟩))), [], [], []⟩, ⟨sk0 (.raw (.int .u8 x81)), [], [], []⟩, ⟨sk0 (.raw (.int .i64 a2)), [], [], []⟩, ⟨sk0 (.raw (.int .i64 (IntKind.wrap .i64 (16 * a2)))), [], [], []⟩, ⟨sk0 (.raw (.int .i64 x65)), [], [], []⟩, ⟨sk0 (.raw (.int .i64 (IntKind.wrap .i64 ((IntKind.wrap .i64 (16 * a2)) + x65)))), [], [], []⟩, ⟨sk0 (.ptr K8 x83), [], [], []⟩, ⟨sk0 (.raw (.int .u8 x83)), [], [], []⟩] [] (fun T : List Res => (.box K4 b1 44 x66) :: (.box K4 b2 44 (List.replicate 16 (0 : Int))) :: T) lf2 rfl (by kernel_rfl) rfl rfl (fun F hF0 bs80 => ?_)
    refine Tq.v (fun G T hG => ?_) ?_
    ·exact mv rfl rfl <| Under.fo1 <| Under.fo1 <| Tq.end undef rfl rfl
    refine Tq.v (fun G T hG => ?_) ?_
    ·exact ov (OpV.ixP .box .id h82 Tryd.underlying44 sz5_kInt_u8 rfl rfl) rfl <| Under.fo1 <| Under.fo1 <| Tq.end undef rfl rfl
    refine Tq.v (fun G T hG => ?_) ?_
    ·exact Under.ldP .box (.ix .id h82) kt5_kInt_u8 rfl rfl <| Under.rawI (t := 14) rfl <| Under.fo1 <| Under.fo1 <| Tq.end undef rfl rfl
    refine Tq.v (fun G T hG => ?_) ?_
    ·exact mv rfl rfl <| Under.fo1 <| Under.fo1 <| Tq.end undef rfl rfl
    refine Tq.v (fun G T hG => ?_) ?_
    ·exact bn rfl rfl rfl rfl <| Under.fo1 <| Under.fo1 <| Tq.end undef rfl rfl
    refine Tq.v (fun G T hG => ?_) ?_
    ·exact mv rfl rfl <| Under.fo1 <| Under.fo1 <| Tq.end undef rfl rfl
    refine Tq.v (fun G T hG => ?_) ?_
    ·exact bn rfl rfl rfl rfl <| Under.fo1 <| Under.fo1 <| Tq.end undef rfl rfl
    refine Tq.v (fun G T hG => ?_) ?_
    ·exact ov (OpV.ixA h84 Tryd.underlying131 sz5 rfl rfl) rfl <| Under.fo1 <| Under.fo1 <| Tq.end undef rfl rfl
    refine Tq.v (fun G T hG => ?_) ?_
    ·exact ov (OpV.ldI kt5 rfl) rfl <| Under.fo1 <| Under.fo1 <| Tq.end undef rfl rfl
    exact Tq.nil <| Under.le hF0 <| Under.p1 9 rfl rfl <| bn rfl rfl rfl rfl <| Under.pn <| Under.p1 10 rfl rfl <| ov (OpV.ixP .box .id h86 Tryd.underlying44 sz5_kInt_u8 rfl rfl) rfl <| Under.pn <| Under.p1 11 rfl rfl <| Under.stP (x' := List.set x66 (Int.toNat x65) (xorI .u8 x81 x83)) .box (.ix .id h86) sz5_kInt_u8 rfl rfl rdI rfl <| Under.pn <| Under.pdone rfl <| bN <| tn <| rg <| mv rfl rfl <| bn rfl rfl rfl rfl <| ag rfl rfl <| nl <| Under.fo1 <| Under.fo1 <| Under.next _ () h75 (s5 rfl rfl rfl rfl rfl) rfl
   ·refine Under.frz (t := 3) rfl <| xt <| te ?_
    have e87 := done_eq h75 d76
    subst e87
    exact te <| bh <| tn <| wk (k47 _ (osi h46).symm) (s2 rfl rfl)
/-- churn/churnref04.mixed -/
noncomputable def f_churnref04_mixed (a0 : List Int) : Option (List Int) :=
  (((Loop.run (S := (Int × (List Int))) (R := (List Int)) (fun (x845, x846) =>
      bif decide (x845 < 16) then
        (((idx a0 x845).bind fun x1059 =>
        (idx a0 (IntKind.wrap .i64 (x845 + 1))).bind fun x1061 =>
        (idx a0 (IntKind.wrap .i64 (x845 + 2))).bind fun x1063 =>
        (idx a0 (IntKind.wrap .i64 (x845 + 3))).bind fun x1065 =>
        (Loop.run (S := (Int × (List Int))) (R := (List Int)) (fun (x1091, x1092) =>
            bif decide (x1091 < 4) then
              (idx a0 (IntKind.wrap .i64 (x845 + x1091))).bind fun x1111 =>
              (idx a0 (IntKind.wrap .i64 (x845 + x1091))).bind fun x1113 =>
              (idx a0 (IntKind.wrap .i64 (x845 + (Int.tmod (IntKind.wrap .i64 (x1091 + 1)) 4)))).bind fun x1115 =>
              (f_churnref04_twice (xorI .u8 x1113 x1115)).bind fun y1117 =>
              (idx x1092 (IntKind.wrap .i64 (x845 + x1091))).bind fun x1119 =>
              some (.next (IntKind.wrap .i64 (x1091 + 1), List.set x1092 (Int.toNat (IntKind.wrap .i64 (x845 + x1091))) (xorI .u8 (xorI .u8 x1111 (xorI .u8 (xorI .u8 (xorI .u8 x1059 x1061) x1063) x1065)) y1117)))
            else
              some (.done x1092)) (0, x846)).bind fun x1104 =>
        some x1104
          : Option (List Int))).bind fun x1055 =>
        some (.next (IntKind.wrap .i64 (x845 + 4), x1055))
      else
        some (.done x846)) (0, (List.replicate 16 (0 : Int)))).bind fun x984 =>
  some x984
    : Option (List Int))).bind fun x564 =>
  some x564
theorem f_churnref04_mixed_ok {a0 : List Int} {r0 : (List Int)} (hF : f_churnref04_mixed a0 = some r0) (L : List Res) : Ok Tryd.prog 82 [SV.val K4 a0] (L) (SV.val K4 r0) (L) := by
  unfold f_churnref04_mixed at hF
  refine Ok.intro 60 [(0, .val K4 a0)] Tryd.func82 rfl rfl rfl rfl (fun F0 => ?_)
  obtain ⟨r565, h566, hF⟩ := bsome hF
  refine sr <| Under.bxF (K := kArr 16 K8) rfl rdV rfl <| Under.al ZT44 rfl fun b1 => ns <| Under.al ZT44 rfl fun b2 => nt <| sq <| Under.after (fun X => ∀ (x564 : List Int), r565 = x564 → Under F0 60 [(2, .raw (.pointer (some ⟨b1, 0, none⟩))), (3, .ptr K4 x564)] ((.box K4 b1 44 (List.replicate 16 (0 : Int))) :: L) X) ?_ ?_
  ·intro x564 h1132
   replace h1132 := h1132.symm
   subst h1132
   refine sr <| ov (OpV.ld kt44 rfl) rfl <| Under.stP (x' := x564) .box .id sz44_kArr_16_kInt_u8_ rfl rfl rdV rfl <| nl <| Under.frz (t := 2) rfl <| tn <| rc ?_
   have e568 := osi hF
   subst e568
   exact Under.rets Tryd.results82 (.ce rfl kt44 .nil) rfl rfl
  ·intro K k567
   obtain ⟨r987, h988, h566⟩ := bsome h566
   refine sr <| ag rfl rfl <| nt <| bk <| Under.fo1 <| Under.loop (S := (Int × (List Int))) (C := Unit) () (fun (x1129 : (Int × (List Int))) (q1130 : Unit) => [(1, .ptr K4 a0), (2, .raw (.pointer (some ⟨b1, 0, none⟩))), (3, .raw (.pointer (some ⟨b2, 0, none⟩))), (4, .raw (.int .i64 x1129.1))]) (fun (x1129 : (Int × (List Int))) (q1130 : Unit) => (.box K4 b1 44 (List.replicate 16 (0 : Int))) :: (.box K4 b2 44 x1129.2) :: L) h988 (s4 rfl rfl rfl rfl) rfl (fun x1129 q1130 o989 h985 d986 => ?_)
   obtain ⟨x845, x846⟩ := x1129
   dsimp only at h985 ⊢
   refine sq <| sr <| mv rfl rfl <| bn rfl rfl rfl rfl <| nt <| Under.ite h985 rfl (fun h985 => ?_) (fun h985 => ?_)
   ·obtain ⟨r1056, h1057, h985⟩ := bsome h985
    refine ct <| sq <| Under.after (fun X => ∀ (x1055 : List Int), r1056 = x1055 → Under F0 60 [(1, .ptr K4 a0), (2, .raw (.pointer (some ⟨b1, 0, none⟩))), (3, .raw (.pointer (some ⟨b2, 0, none⟩))), (4, .raw (.int .i64 x845))] ((.box K4 b1 44 (List.replicate 16 (0 : Int))) :: (.box K4 b2 44 x1055) :: L) X) ?_ ?_
    ·intro x1055 h1126
     replace h1126 := h1126.symm
     subst h1126
     exact rg <| mv rfl rfl <| bn rfl rfl rfl rfl <| ag rfl rfl <| nl <| Under.fo1 <| Under.fo1 <| Under.next _ () h985 (s4 rfl rfl rfl rfl) rfl
    ·intro K k1058
     obtain ⟨x1059, h1060, h1057⟩ := bsome h1057
     obtain ⟨x1061, h1062, h1057⟩ := bsome h1057
     obtain ⟨x1063, h1064, h1057⟩ := bsome h1057
     obtain ⟨x1065, h1066, h1057⟩ := bsome h1057
     obtain ⟨r1107, h1108, h1057⟩ := bsome h1057
     refine bk <| sq <| dw rfl (by kernel_rfl) fun F hF0 => mvq rfl rfl <| oq (OpV.ixA h1060 Tryd.underlying44 sz5 rfl rfl) rfl <| oq (OpV.ldI kt5 rfl) rfl <| mvq rfl rfl <| bnq rfl rfl rfl rfl <| oq (OpV.ixA h1062 Tryd.underlying44 sz5 rfl rfl) rfl <| oq (OpV.ldI kt5 rfl) rfl <| bnq rfl rfl rfl rfl <| mvq rfl rfl <| bnq rfl rfl rfl rfl <| oq (OpV.ixA h1064 Tryd.underlying44 sz5 rfl rfl) rfl <| oq (OpV.ldI kt5 rfl) rfl <| bnq rfl rfl rfl rfl <| mvq rfl rfl <| bnq rfl rfl rfl rfl <| oq (OpV.ixA h1066 Tryd.underlying44 sz5 rfl rfl) rfl <| oq (OpV.ldI kt5 rfl) rfl <| bnq rfl rfl rfl rfl <| agq rfl rfl <| nlq hF0 <| tn <| sr <| ag rfl rfl <| nt <| bk <| Under.fo1 <| Under.fo1 <| Under.loop (S := (Int × (List Int))) (C := Unit) () (fun (x1123 : (Int × (List Int))) (q1124 : Unit) => [(1, .ptr K4 a0), (2, .raw (.pointer (some ⟨b1, 0, none⟩))), (3, .raw (.pointer (some ⟨b2, 0, none⟩))), (4, .raw (.int .i64 x845)), (5, .raw (.int .u8 (xorI .u8 (xorI .u8 (xorI .u8 x1059 x1061) x1063) x1065))), (6, .raw (.int .i64 x1123.1))]) (fun (x1123 : (Int × (List Int))) (q1124 : Unit) => (.box K4 b1 44 (List.replicate 16 (0 : Int))) :: (.box K4 b2 44 x1123.2) :: L) h1108 (s6 rfl rfl rfl rfl rfl rfl) rfl (fun x1123 q1124 o1109 h1105 d1106 => ?_)
     obtain ⟨x1091, x1092⟩ := x1123
     dsimp only at h1105 ⊢
     refine sq <| sr <| mv rfl rfl <| bn rfl rfl rfl rfl <| nt <| Under.ite h1105 rfl (fun h1105 => ?_) (fun h1105 => ?_)
     ·obtain ⟨x1111, h1112, h1105⟩ := bsome h1105
      obtain ⟨x1113, h1114, h1105⟩ := bsome h1105
      obtain ⟨x1115, h1116, h1105⟩ := bsome h1105
      obtain ⟨y1117, h1118, h1105⟩ := bsome h1105
      obtain ⟨x1119, h1120, h1105⟩ := bsome h1105
      refine ct <| sq <| bk <| Under.phases rfl <| Under.fo1 <| Under.fo1 <| Under.grpT (L := L) [0, 1, 2, 3, 4, 5, 6, 7, 8, 9, 10, 11, 12, 13, 14, 15, 16, 17, 18, 19, 20, 21, 22, 23, 24] [[4], [6], [33, 34], [4], [6], [36, 37], [1, 38], [39], [5], [40, 41], [4], [6], [43, 44], [1, 45], [46], [4], [6], [49], [50], [48, 51], [1, 52], [53], [47, 54], [55], [42, 56]] [⟨sk0 (.raw (.int .i64 x845)), [], [], []⟩, ⟨sk0 (.raw (.int .i64 x1091)), [], [], []⟩, ⟨sk0 (.raw (.int .i64 (IntKind.wrap .i64 (x845 + x1091)))), [], [], []⟩, ⟨sk0 (.raw (.int .i64 x845)), [], [], []⟩, ⟨sk0 (.raw (.int .i64 x1091)), [], [], []⟩, ⟨sk0 (.raw (.int .i64 (IntKind.wrap .i64 (x845 + x1091)))), [], [], []⟩, ⟨sk0 (.ptr K8 x1111), [], [], []⟩, ⟨sk0 (.raw (.int .u8 x1111)), [], [], []⟩, ⟨sk0 (.raw (.int .u8 (xorI .u8 (xorI .u8 (xorI .u8 x1059 x1061) x1063) x1065))), [], [], []⟩, ⟨sk0 (.raw (.int .u8 (xorI .u8 x1111 (xorI .u8 (xorI .u8 (xorI .u8 x1059 x1061) x1063) x1065)))), [], [], []⟩, ⟨sk0 (.raw (.int .i64 x845)), [], [], []⟩, ⟨sk0 (.raw (.int .i64 x1091)), [], [], []⟩, ⟨sk0 (.raw (.int .i64 (IntKind.wrap .i64 (x845 + x1091)))), [], [], []⟩, ⟨sk0 (.ptr K8 x1113), [], [], []⟩, ⟨sk0 (.raw (.int .u8 x1113)), [], [], []⟩, ⟨sk0 (.raw (.int .i64 x845)), [], [], []⟩, ⟨sk0 (.raw (.int .i64 x1091)), [], [], []⟩, ⟨sk0 (.raw (.int .i64 (IntKind.wrap .i64 (x1091 + 1)))), [], [], []⟩, ⟨sk0 (.raw (.int .i64 (Int.tmod (IntKind.wrap .i64 (x1091 + 1)) 4))), [], [], []⟩, ⟨sk0 (.raw (.int .i64 (IntKind.wrap .i64 (x845 + (Int.tmod (IntKind.wrap .i64 (x1091 + 1)) 4))))), [], [], []⟩, ⟨sk0 (.ptr K8 x1115), [], [], []⟩, ⟨sk0 (.raw (.int .u8 x1115)), [], [], []⟩, ⟨sk0 (.raw (.int .u8 (xorI .u8 x1113 x1115))), [], [], []⟩, ⟨sk0 (.raw (.int .u8 y1117)), [], [], []⟩, ⟨sk0 (.raw (.int .u8 (xorI .u8 (xorI .u8 x1111 (xorI .u8 (xorI .u8 (xorI .u8 x1059 x1061) x1063) x1065)) y1117))), [], [], []⟩] [] (fun T : List Res => (.box K4 b1 44 (List.replicate 16 (0 : Int))) :: (.box K4 b2 44 x1092) :: T) lf2 rfl (by kernel_rfl) rfl rfl (fun F hF0 bs1110 => ?_)
      refine Tq.v (fun G T hG => ?_) ?_
      ·exact mv rfl rfl <| Under.fo1 <| Under.fo1 <| Tq.end undef rfl rfl
      refine Tq.v (fun G T hG => ?_) ?_
      ·exact mv rfl rfl <| Under.fo1 <| Under.fo1 <| Tq.end undef rfl rfl
      refine Tq.v (fun G T hG => ?_) ?_
      ·exact bn rfl rfl rfl rfl <| Under.fo1 <| Under.fo1 <| Tq.end undef rfl rfl
      refine Tq.v (fun G T hG => ?_) ?_
      ·exact mv rfl rfl <| Under.fo1 <| Under.fo1 <| Tq.end undef rfl rfl
      refine Tq.v (fun G T hG => ?_) ?_
      ·exact mv rfl rfl <| Under.fo1 <| Under.fo1 <| Tq.end undef rfl rfl
      refine Tq.v (fun G T hG => ?_) ?_
      ·exact bn rfl rfl rfl rfl <| Under.fo1 <| Under.fo1 <| Tq.end undef rfl rfl
      refine Tq.v (fun G T hG => ?_) ?_
      ·exact ov (OpV.ixA h1112 Tryd.underlying44 sz5 rfl rfl) rfl <| Under.fo1 <| Under.fo1 <| Tq.end undef rfl rfl
      refine Tq.v (fun G T hG => ?_) ?_
      ·exact ov (OpV.ldI kt5 rfl) rfl <| Under.fo1 <| Under.fo1 <| Tq.end undef rfl rfl
      refine Tq.v (fun G T hG => ?_) ?_
      ·exact mv rfl rfl <| Under.fo1 <| Under.fo1 <| Tq.end undef rfl rfl
      refine Tq.v (fun G T hG => ?_) ?_
      ·exact bn rfl rfl rfl rfl <| Under.fo1 <| Under.fo1 <| Tq.end undef rfl rfl
      refine Tq.v (fun G T hG => ?_) ?_
      ·exact mv rfl rfl <| Under.fo1 <| Under.fo1 <| Tq.end undef rfl rfl
      refine Tq.v (fun G T hG => ?_) ?_
      ·exact mv rfl rfl <| Under.fo1 <| Under.fo1 <| Tq.end undef rfl rfl
      refine Tq.v (fun G T hG => ?_) ?_
      ·exact bn rfl rfl rfl rfl <| Under.fo1 <| Under.fo1 <| Tq.end undef rfl rfl
      refine Tq.v (fun G T hG => ?_) ?_
      ·exact ov (OpV.ixA h1114 Tryd.underlying44 sz5 rfl rfl) rfl <| Under.fo1 <| Under.fo1 <| Tq.end undef rfl rfl
      refine Tq.v (fun G T hG => ?_) ?_
      ·exact ov (OpV.ldI kt5 rfl) rfl <| Under.fo1 <| Under.fo1 <| Tq.end undef rfl rfl
      refine Tq.v (fun G T hG => ?_) ?_
      ·exact mv rfl rfl <| Under.fo1 <| Under.fo1 <| Tq.end undef rfl rfl
      refine Tq.v (fun G T hG => ?_) ?_
      ·exact mv rfl rfl <| Under.fo1 <| Under.fo1 <| Tq.end undef rfl rfl
      refine Tq.v (fun G T hG => ?_) ?_
      ·exact bn rfl rfl rfl rfl <| Under.fo1 <| Under.fo1 <| Tq.end undef rfl rfl
      refine Tq.v (fun G T hG => ?_) ?_
      ·exact ov (OpV.quo rfl rfl (by decide) rfl) rfl <| Under.fo1 <| Under.fo1 <| Tq.end undef rfl rfl
      refine Tq.v (fun G T hG => ?_) ?_
      ·exact bn rfl rfl rfl rfl <| Under.fo1 <| Under.fo1 <| Tq.end undef rfl rfl
      refine Tq.v (fun G T hG => ?_) ?_
      ·exact ov (OpV.ixA h1116 Tryd.underlying44 sz5 rfl rfl) rfl <| Under.fo1 <| Under.fo1 <| Tq.end undef rfl rfl
      refine Tq.v (fun G T hG => ?_) ?_
      ·exact ov (OpV.ldI kt5 rfl) rfl <| Under.fo1 <| Under.fo1 <| Tq.end undef rfl rfl
      refine Tq.v (fun G T hG => ?_) ?_
      ·exact bn rfl rfl rfl rfl <| Under.fo1 <| Under.fo1 <| Tq.end undef rfl rfl
      refine Tq.v (fun G T hG => ?_) ?_
      ·exact Under.call Tryd.call80 rfl rfl (f_churnref04_twice_ok h1118 _) rfl <| Under.fo1 <| Under.fo1 <| Tq.end undef rfl rfl
      refine Tq.v (fun G T hG => ?_) ?_
      ·exact bn rfl rfl rfl rfl <| Under.fo1 <| Under.fo1 <| Tq.end undef rfl rfl
      exact Tq.nil <| Under.le hF0 <| Under.p1 25 rfl rfl <| Under.fo1 <| ov (OpV.ixP .box .id h1120 Tryd.underlying44 sz5_kInt_u8 rfl rfl) rfl <| Under.pn <| Under.p1 26 rfl rfl <| Under.stP (x' := List.set x1092 (Int.toNat (IntKind.wrap .i64 (x845 + x1091))) (xorI .u8 (xorI .u8 x1111 (xorI .u8 (xorI .u8 (xorI .u8 x1059 x1061) x1063) x1065)) y1117)) .box (.ix .id h1120) sz5_kInt_u8 rfl rfl rdI rfl <| Under.pn <| Under.pdone rfl <| bN <| tn <| rg <| mv rfl rfl <| bn rfl rfl rfl rfl <| ag rfl rfl <| nl <| Under.fo1 <| Under.next _ () h1105 (s6 rfl rfl rfl rfl rfl rfl) rfl
     ·refine xt <| te ?_
      have e1121 := done_eq h1105 d1106
      subst e1121
      exact te <| bh <| bN <| tn <| Under.fo1 <| Under.fo1 <| wk (k1058 _ (osi h1057).symm) (s4 rfl rfl rfl rfl)
   ·refine Under.fo1 <| Under.frz (t := 3) rfl <| xt <| te ?_
    have e1127 := done_eq h985 d986
    subst e1127
    exact te <| bh <| tn <| wk (k567 _ (osi h566).symm) (s2 rfl rfl)
/-- churn/churnref04.With -/
noncomputable def f_churnref04_With (a0 : List Int) (a1 : List Int) : Option (List Int) :=
  (f_churnref04_added a1 a0 0).bind fun y3 =>
  (((Loop.run (S := (Int × (List Int))) (R := (List Int)) (fun (x1201, x1202) =>
      bif decide (x1201 ≤ 10) then
        (((((Loop.run (S := (Int × (List Int))) (R := (List Int)) (fun (x1574, x1575) =>
            bif decide (x1574 < 16) then
              (idx x1202 (Int.tmod (IntKind.wrap .i64 (x1574 + (IntKind.wrap .i64 (4 * (Int.tmod x1574 4))))) 16)).bind fun x1588 =>
              (idx str0_l x1588).bind fun x1590 =>
              (idx x1575 x1574).bind fun x1592 =>
              some (.next (IntKind.wrap .i64 (x1574 + 1), List.set x1575 (Int.toNat x1574) x1590))
            else
              some (.done x1575)) (0, (List.replicate 16 (0 : Int)))).bind fun x1582 =>
        some x1582
          : Option (List Int))).bind fun x1542 =>
        ((bif decide (x1201 < 10) then
          (f_churnref04_mixed x1542).bind fun y1555 =>
          some y1555
        else
          some x1542
          : Option (List Int))).bind fun x1548 =>
        (f_churnref04_added x1548 a0 x1201).bind fun y1552 =>
        some y1552
          : Option (List Int))).bind fun x1500 =>
        some (.next (IntKind.wrap .i64 (x1201 + 1), x1500))
      else
        some (.done x1202)) (1, y3)).bind fun x1399 =>
  some x1399
    : Option (List Int))).bind fun x802 =>
  some x802
theorem f_churnref04_With_ok {a0 : List Int} {a1 : List Int} {r0 : (List Int)} (hF : f_churnref04_With a0 a1 = some r0) (L : List Res) : Ok Tryd.prog 73 [SV.val K1 a0, SV.val K4 a1] (L) (SV.val K4 r0) (L) := by
  unfold f_churnref04_With at hF
  refine Ok.intro 40 [(0, .val K1 a0), (1, .val K4 a1)] Tryd.func73 rfl rfl rfl rfl (fun F0 => ?_)
  obtain ⟨y3, h4, hF⟩ := bsome hF
  obtain ⟨r803, h804, hF⟩ := bsome hF
  refine sr <| Under.bxF (K := kArr 176 K8) rfl rdV rfl <| Under.bx (K := kArr 16 K8) rfl rdV rfl fun b1 => Under.al ZT44 rfl fun b2 => ns <| Under.fo1 <| Under.ldP .box .id kt44_kArr_16_kInt_u8_ rfl rfl <| ov (OpV.ld kt131 rfl) rfl <| Under.call Tryd.call81 rfl rfl (f_churnref04_added_ok h4 _) rfl <| Under.stP (x' := y3) .box .id sz44_kArr_16_kInt_u8_ rfl rfl rdV rfl <| nt <| sq <| Under.after (fun X => ∀ (x802 : List Int), r803 = x802 → Under F0 40 [(3, .ptr K4 x802), (4, .raw (.pointer (some ⟨b2, 0, none⟩)))] ((.box K4 b2 44 (List.replicate 16 (0 : Int))) :: L) X) ?_ ?_
  ·intro x802 h1606
   replace h1606 := h1606.symm
   subst h1606
   refine sr <| ov (OpV.ld kt44 rfl) rfl <| Under.stP (x' := x802) .box .id sz44_kArr_16_kInt_u8_ rfl rfl rdV rfl <| nl <| Under.frz (t := 4) rfl <| tn <| rc ?_
   have e806 := osi hF
   subst e806
   exact Under.rets Tryd.results73 (.ce rfl kt44 .nil) rfl rfl
  ·intro K k805
   obtain ⟨r1402, h1403, h804⟩ := bsome h804
   refine sr <| ag rfl rfl <| nt <| bk <| Under.fo1 <| Under.fo1 <| Under.loop (S := (Int × (List Int))) (C := Unit) () (fun (x1603 : (Int × (List Int))) (q1604 : Unit) => [(2, .ptr K1 a0), (3, .raw (.pointer (some ⟨b1, 0, none⟩))), (4, .raw (.pointer (some ⟨b2, 0, none⟩))), (5, .raw (.int .i64 x1603.1))]) (fun (x1603 : (Int × (List Int))) (q1604 : Unit) => (.box K4 b1 44 x1603.2) :: (.box K4 b2 44 (List.replicate 16 (0 : Int))) :: L) h1403 (s4 rfl rfl rfl rfl) rfl (fun x1603 q1604 o1404 h1400 d1401 => ?_)
   obtain ⟨x1201, x1202⟩ := x1603
   dsimp only at h1400 ⊢
   refine sq <| sr <| mv rfl rfl <| bn rfl rfl rfl rfl <| nt <| Under.ite h1400 rfl (fun h1400 => ?_) (fun h1400 => ?_)
   ·obtain ⟨r1501, h1502, h1400⟩ := bsome h1400
    refine ct <| sq <| Under.after (fun X => ∀ (x1500 : List Int), r1501 = x1500 → Under F0 40 [(2, .ptr K1 a0), (3, .raw (.pointer (some ⟨b1, 0, none⟩))), (4, .raw (.pointer (some ⟨b2, 0, none⟩))), (5, .raw (.int .i64 x1201))] ((.box K4 b1 44 x1500) :: (.box K4 b2 44 (List.replicate 16 (0 : Int))) :: L) X) ?_ ?_
    ·intro x1500 h1600
     replace h1600 := h1600.symm
     subst h1600
     exact rg <| mv rfl rfl <| bn rfl rfl rfl rfl <| ag rfl rfl <| nl <| Under.fo1 <| Under.fo1 <| Under.next _ () h1400 (s4 rfl rfl rfl rfl) rfl
    ·intro K k1503
     obtain ⟨r1543, h1544, h1502⟩ := bsome h1502
     refine bk <| sr <| Under.al ZT44 rfl fun b1504 => nt <| sq <| Under.after (fun X => ∀ (x1542 : List Int), r1543 = x1542 → Under F0 40 [(2, .ptr K1 a0), (3, .raw (.pointer (some ⟨b1, 0, none⟩))), (4, .raw (.pointer (some ⟨b2, 0, none⟩))), (5, .raw (.int .i64 x1201)), (6, .ptr K4 x1542)] ((.box K4 b1 44 x1202) :: (.box K4 b2 44 (List.replicate 16 (0 : Int))) :: L) X) ?_ ?_
     ·intro x1542 h1599
      replace h1599 := h1599.symm
      subst h1599
      obtain ⟨r1549, h1550, h1502⟩ := bsome h1502
      refine sr <| ov (OpV.ld kt44 rfl) rfl <| Under.stP (x' := x1542) .box .id sz44_kArr_16_kInt_u8_ rfl rfl rdV rfl <| nt <| sq <| Under.after (fun X => ∀ (x1548 : List Int), r1549 = x1548 → Under F0 40 [(2, .ptr K1 a0), (3, .raw (.pointer (some ⟨b1, 0, none⟩))), (4, .raw (.pointer (some ⟨b2, 0, none⟩))), (5, .raw (.int .i64 x1201))] ((.box K4 b1 44 x1548) :: (.box K4 b2 44 (List.replicate 16 (0 : Int))) :: L) X) ?_ ?_
      ·intro x1548 h1559
       replace h1559 := h1559.symm
       subst h1559
       obtain ⟨y1552, h1553, h1502⟩ := bsome h1502
       exact rg <| Under.ldP .box .id kt44_kArr_16_kInt_u8_ rfl rfl <| ov (OpV.ld kt131 rfl) rfl <| mv rfl rfl <| Under.call Tryd.call81 rfl rfl (f_churnref04_added_ok h1553 _) rfl <| Under.stP (x' := y1552) .box .id sz44_kArr_16_kInt_u8_ rfl rfl rdV rfl <| nl <| bN <| tn <| Under.fo1 <| Under.fo1 <| wk (k1503 _ (osi h1502).symm) (s4 rfl rfl rfl rfl)
      ·intro K k1551
       refine sr <| mv rfl rfl <| bn rfl rfl rfl rfl <| nt <| Under.ite h1550 rfl (fun h1550 => ?_) (fun h1550 => ?_)
       ·obtain ⟨y1555, h1556, h1550⟩ := bsome h1550
        exact rg <| Under.ldP .box .id kt44_kArr_16_kInt_u8_ rfl rfl <| Under.call Tryd.call82 rfl rfl (f_churnref04_mixed_ok h1556 _) rfl <| Under.stP (x' := y1555) .box .id sz44_kArr_16_kInt_u8_ rfl rfl rdV rfl <| nt <| Under.fo1 <| Under.fo1 <| wk (k1551 _ (osi h1550).symm) (s4 rfl rfl rfl rfl)
       ·exact ct <| Under.fo1 <| Under.fo1 <| wk (k1551 _ (osi h1550).symm) (s4 rfl rfl rfl rfl)
     ·intro K k1545
      obtain ⟨r1585, h1586, h1544⟩ := bsome h1544
      refine sr <| ag rfl rfl <| nt <| bk <| Under.fo2 <| Under.fo2 <| Under.loop (S := (Int × (List Int))) (C := Unit) () (fun (x1596 : (Int × (List Int))) (q1597 : Unit) => [(2, .ptr K1 a0), (3, .raw (.pointer (some ⟨b1, 0, none⟩))), (4, .raw (.pointer (some ⟨b2, 0, none⟩))), (5, .raw (.int .i64 x1201)), (6, .raw (.pointer (some ⟨b1504, 0, none⟩))), (7, .raw (.int .i64 x1596.1))]) (fun (x1596 : (Int × (List Int))) (q1597 : Unit) => (.box K4 b1 44 x1202) :: (.box K4 b2 44 (List.replicate 16 (0 : Int))) :: (.box K4 b1504 44 x1596.2) :: L) h1586 (s6 rfl rfl rfl rfl rfl rfl) rfl (fun x1596 q1597 o1587 h1583 d1584 => ?_)
      obtain ⟨x1574, x1575⟩ := x1596
      dsimp only at h1583 ⊢
      refine sq <| sr <| mv rfl rfl <| bn rfl rfl rfl rfl <| nt <| Under.ite h1583 rfl (fun h1583 => ?_) (fun h1583 => ?_)
      ·obtain ⟨x1588, h1589, h1583⟩ := bsome h1583
       obtain ⟨x1590, h1591, h1583⟩ := bsome h1583
       obtain ⟨x1592, h1593, h1583⟩ := bsome h1583
       exact ct <| sq <| bk <| rg <| mv rfl rfl <| mv rfl rfl <| mv rfl rfl <| ov (OpV.quo rfl rfl (by decide) rfl) rfl <| bn rfl rfl rfl rfl <| bn rfl rfl rfl rfl <| ov (OpV.quo rfl rfl (by decide) rfl) rfl <| ov (OpV.ixP .box .id h1589 Tryd.underlying44 sz5_kInt_u8 rfl rfl) rfl <| Under.ldP .box (.ix .id h1589) kt5_kInt_u8 rfl rfl <| Under.rawI (t := 27) rfl <| ov (OpV.ixStr h1591 Tryd.underlying9 rfl str0_rd rfl) rfl <| Under.fo2 <| ov (OpV.ixP .box .id h1593 Tryd.underlying44 sz5_kInt_u8 rfl rfl) rfl <| Under.stP (x' := List.set x1575 (Int.toNat x1574) x1590) .box (.ix .id h1593) sz5_kInt_u8 rfl rfl rdI rfl <| nl <| bN <| tn <| rg <| mv rfl rfl <| bn rfl rfl rfl rfl <| ag rfl rfl <| nl <| Under.fo2 <| Under.fo2 <| Under.next _ () h1583 (s6 rfl rfl rfl rfl rfl rfl) rfl
      ·refine Under.fo2 <| Under.frz (t := 6) rfl <| xt <| te ?_
       have e1594 := done_eq h1583 d1584
       subst e1594
       exact te <| bh <| tn <| Under.fo1 <| Under.fo1 <| wk (k1545 _ (osi h1544).symm) (s5 rfl rfl rfl rfl rfl)
   ·refine Under.frz (t := 3) rfl <| xt <| te ?_
    have e1601 := done_eq h1400 d1401
    subst e1601
    exact te <| bh <| tn <| wk (k805 _ (osi h804).symm) (s2 rfl rfl)
/-- churn/churnref04.next -/
noncomputable def f_churnref04_next (a0 : List Int) : Option (List Int) :=
  (((Loop.run (S := (Int × (List Int))) (R := ((List Int) ⊕ (List Int))) (fun (x60, x61) =>
      bif decide (x60 ≥ 0) then
        (idx x61 x60).bind fun x74 =>
        (idx x61 x60).bind fun x76 =>
        (idx (List.set x61 (Int.toNat x60) (IntKind.wrap .u8 (x74 + 1))) x60).bind fun x78 =>
        bif x78 != 0 then
          some (.done (.inr (List.set x61 (Int.toNat x60) (IntKind.wrap .u8 (x74 + 1)))))
        else
          some (.next (IntKind.wrap .i64 (x60 - 1), List.set x61 (Int.toNat x60) (IntKind.wrap .u8 (x74 + 1))))
      else
        some (.done (.inl x61))) (15, a0)).bind fun r71 => match r71 with
    | .inl x68 =>
      some (.inr x68)
    | .inr z =>
      some (.inl z)
    : Option ((List Int) ⊕ (List Int)))).bind fun r42 => match r42 with
    | .inl z =>
      some z
    | .inr x41 =>
      some x41
theorem f_churnref04_next_ok {a0 : List Int} {r0 : (List Int)} (hF : f_churnref04_next a0 = some r0) (L : List Res) : Ok Tryd.prog 74 [SV.val K4 a0] (L) (SV.val K4 r0) (L) := by
  unfold f_churnref04_next at hF
  refine Ok.intro 19 [(0, .val K4 a0)] Tryd.func74 rfl rfl rfl rfl (fun F0 => ?_)
  obtain ⟨r42, h43, hF⟩ := bsome hF
  refine sr <| Under.bx (K := kArr 16 K8) rfl rdV rfl fun b1 => Under.al ZT44 rfl fun b2 => nt <| sq <| Under.after (fun X => ∀ (x41 : List Int), r42 = (.inr x41) → Under F0 19 [(1, .ptr K4 x41), (2, .raw (.pointer (some ⟨b2, 0, none⟩)))] ((.box K4 b2 44 (List.replicate 16 (0 : Int))) :: L) X) ?_ ?_
  ·intro x41 h88
   replace h88 := h88.symm
   subst h88
   refine sr <| ov (OpV.ld kt44 rfl) rfl <| Under.stP (x' := x41) .box .id sz44_kArr_16_kInt_u8_ rfl rfl rdV rfl <| nl <| Under.frz (t := 2) rfl <| tn <| rc ?_
   have e45 := osi hF
   subst e45
   exact Under.rets Tryd.results74 (.ce rfl kt44 .nil) rfl rfl
  ·intro K k44
   obtain ⟨r71, h72, h43⟩ := bsome h43
   refine sr <| ag rfl rfl <| nt <| bk <| Under.fo1 <| Under.loop (S := (Int × (List Int))) (C := Unit) () (fun (x85 : (Int × (List Int))) (q86 : Unit) => [(1, .raw (.pointer (some ⟨b1, 0, none⟩))), (2, .raw (.pointer (some ⟨b2, 0, none⟩))), (3, .raw (.int .i64 x85.1))]) (fun (x85 : (Int × (List Int))) (q86 : Unit) => (.box K4 b1 44 x85.2) :: (.box K4 b2 44 (List.replicate 16 (0 : Int))) :: L) h72 (s3 rfl rfl rfl) rfl (fun x85 q86 o73 h69 d70 => ?_)
   obtain ⟨x60, x61⟩ := x85
   dsimp only at h69 ⊢
   refine sq <| sr <| mv rfl rfl <| bn rfl rfl rfl rfl <| nt <| Under.ite h69 rfl (fun h69 => ?_) (fun h69 => ?_)
   ·obtain ⟨x74, h75, h69⟩ := bsome h69
    obtain ⟨x76, h77, h69⟩ := bsome h69
    obtain ⟨x78, h79, h69⟩ := bsome h69
    refine ct <| sq <| bk <| sr <| mv rfl rfl <| ov (OpV.ixP .box .id h75 Tryd.underlying44 sz5_kInt_u8 rfl rfl) rfl <| Under.ldP .box (.ix .id h75) kt5_kInt_u8 rfl rfl <| Under.rawI (t := 10) rfl <| bn rfl rfl rfl rfl <| ov (OpV.ixP .box .id h77 Tryd.underlying44 sz5_kInt_u8 rfl rfl) rfl <| Under.stP (x' := List.set x61 (Int.toNat x60) (IntKind.wrap .u8 (x74 + 1))) .box (.ix .id h77) sz5_kInt_u8 rfl rfl rdI rfl <| ns <| mv rfl rfl <| ov (OpV.ixP .box .id h79 Tryd.underlying44 sz5_kInt_u8 rfl rfl) rfl <| Under.ldP .box (.ix .id h79) kt5_kInt_u8 rfl rfl <| Under.rawI (t := 15) rfl <| bn rfl rfl rfl rfl <| nt <| Under.ite h69 rfl (fun h69 => ?_) (fun h69 => ?_)
    ·refine Under.frz (t := 1) rfl <| sr <| ov (OpV.ld kt44 rfl) rfl <| Under.stP (x' := List.set x61 (Int.toNat x60) (IntKind.wrap .u8 (x74 + 1))) .box .id sz44_kArr_16_kInt_u8_ rfl rfl rdV rfl <| nl <| Under.frz (t := 2) rfl <| tn <| rc <| Under.bR <| tr ?_
     have e80 := done_eq h69 d70
     subst e80
     refine tr <| Under.bR <| tr ?_
     have e81 := osi h43
     subst e81
     have e82 := osi hF
     subst e82
     exact Under.rets Tryd.results74 (.ce rfl kt44 .nil) rfl rfl
    ·exact cs <| bN <| tn <| rg <| mv rfl rfl <| bn rfl rfl rfl rfl <| ag rfl rfl <| nl <| Under.fo1 <| Under.fo1 <| Under.next _ () h69 (s3 rfl rfl rfl) rfl
   ·refine Under.frz (t := 1) rfl <| xt <| te ?_
    have e83 := done_eq h69 d70
    subst e83
    exact te <| bh <| tn <| wk (k44 _ (osi h43).symm) (s2 rfl rfl)
/-- churn/churnref04.Mask -/
noncomputable def f_churnref04_Mask (a0 : List Int) (a1 : List Int) (a2 : List Int) : Option (List Int) :=
  (f_churnref04_Keys a0).bind fun y2 =>
  bif mkB 0 (a2.length : Int) then
  (((Loop.run (S := ((List Int) × Int × (List Int) × (List Int))) (R := (List Int)) (fun (x183, x184, x185, x186) =>
      bif decide (x184 < (a2.length : Int)) then
        ((bif (Int.tmod x184 16) == 0 then
          (f_churnref04_With y2 x185).bind fun y234 =>
          (f_churnref04_next x185).bind fun y236 =>
          some (y236, y234)
        else
          some (x185, x186)
          : Option ((List Int) × (List Int)))).bind fun r223 => match r223 with
          | (x221, x222) =>
            (idx a2 x184).bind fun x227 =>
            (idx x222 (Int.tmod x184 16)).bind fun x229 =>
            (app x183 [xorI .u8 x227 x229]).bind fun z231 =>
            some (.next (z231, IntKind.wrap .i64 (x184 + 1), x221, x222))
      else
        some (.done x183)) (List.replicate (Int.toNat 0) (0 : Int), 0, a1, (List.replicate 16 (0 : Int)))).bind fun x211 =>
  some x211
    : Option (List Int))).bind fun x124 =>
  some x124
  else none
theorem f_churnref04_Mask_ok {a0 : List Int} {a1 : List Int} {a2 : List Int} {r0 : (List Int)} (hF : f_churnref04_Mask a0 a1 a2 = some r0) (L : List Res) : Ok Tryd.prog 54 [SV.val K4 a0, SV.val K4 a1, SV.val K6 a2] (L) (SV.val K6 r0) (L) := by
  unfold f_churnref04_Mask at hF
  refine Ok.intro 43 [(0, .val K4 a0), (1, .val K4 a1), (2, .val K6 a2)] Tryd.func54 rfl rfl rfl rfl (fun F0 => ?_)
  obtain ⟨y2, h3, hF⟩ := bsome hF
  obtain ⟨h6, hF⟩ := gsome hF
  obtain ⟨r125, h126, hF⟩ := bsome hF
  refine sr <| Under.bxF (K := kArr 16 K8) rfl rdV rfl <| Under.bx (K := kArr 16 K8) rfl rdV rfl fun b1 => ag rfl rfl <| ns <| ov (OpV.ld kt44 rfl) rfl <| Under.call Tryd.call72 rfl rfl (f_churnref04_Keys_ok h3 _) rfl <| Under.al ZT131 rfl fun b4 => Under.stP (x' := y2) .box .id sz131_kArr_176_kInt_u8_ rfl rfl rdV rfl <| nl <| Under.frz (t := 7) rfl <| tn <| sr <| mv rfl rfl <| ov (OpV.len Tryd.underlying22 rfl rdV) rfl <| Under.mk h6 Tryd.underlying22 AT5 rfl rfl rfl fun v5 => ag rfl rfl <| ns <| Under.al ZT44 rfl fun b8 => nt <| sq <| Under.after (fun X => ∀ (x124 : List Int), r125 = x124 → Under F0 43 [(8, .val K6 x124)] (L) X) ?_ ?_
  ·intro x124 h246
   replace h246 := h246.symm
   subst h246
   refine sr <| mv rfl rfl <| ag rfl rfl <| nt <| rc ?_
   have e128 := osi hF
   subst e128
   exact Under.rets Tryd.results54 (.tm rfl .nil) rfl rfl
  ·intro K k127
   obtain ⟨r214, h215, h126⟩ := bsome h126
   refine sr <| ag rfl rfl <| nt <| bk <| Under.fo2 <| Under.fo2 <| Under.loop (S := ((List Int) × Int × (List Int) × (List Int))) (C := Value) v5 (fun (x243 : ((List Int) × Int × (List Int) × (List Int))) (q244 : Value) => [(2, .val K6 a2), (4, .raw (.pointer (some ⟨b1, 0, none⟩))), (7, .ptr K1 y2), (8, .raw q244), (9, .raw (.pointer (some ⟨b8, 0, none⟩))), (10, .raw (.int .i64 x243.2.1))]) (fun (x243 : ((List Int) × Int × (List Int) × (List Int))) (q244 : Value) => (.own K8 q244 5 x243.1) :: (.box K4 b1 44 x243.2.2.1) :: (.box K4 b8 44 x243.2.2.2) :: L) h215 (s6 rfl rfl rfl rfl rfl rfl) rfl (fun x243 q244 o216 h212 d213 => ?_)
   obtain ⟨x183, x184, x185, x186⟩ := x243
   dsimp only at h212 ⊢
   refine sq <| sr <| mv rfl rfl <| mv rfl rfl <| ov (OpV.len Tryd.underlying22 rfl rdV) rfl <| bn rfl rfl rfl rfl <| nt <| Under.ite h212 rfl (fun h212 => ?_) (fun h212 => ?_)
   ·obtain ⟨r223, h224, h212⟩ := bsome h212
    refine ct <| sq <| bk <| sq <| Under.after (fun X => ∀ (x221 : List Int) (x222 : List Int), r223 = (x221, x222) → Under F0 43 [(2, .val K6 a2), (4, .raw (.pointer (some ⟨b1, 0, none⟩))), (7, .ptr K1 y2), (8, .raw q244), (9, .raw (.pointer (some ⟨b8, 0, none⟩))), (10, .raw (.int .i64 x184))] ((.own K8 q244 5 x183) :: (.box K4 b1 44 x221) :: (.box K4 b8 44 x222) :: L) X) ?_ ?_
    ·intro x221 x222 h240
     replace h240 := h240.symm
     subst h240
     obtain ⟨x227, h228, h212⟩ := bsome h212
     obtain ⟨x229, h230, h212⟩ := bsome h212
     obtain ⟨z231, h232, h212⟩ := bsome h212
     refine Under.phases rfl <| Under.fo2 <| Under.fo2 <| Under.fo2 <| Under.grpT (L := L) [0, 1, 2, 3, 4, 5, 6, 7, 8, 9, 10] [[8], [2], [10], [31, 32], [33], [10], [35], [9, 36], [37], [34, 38], [39]] [⟨sk0 (.raw q244), [], [], []⟩, ⟨sk0 (.val K6 a2), [], [], []⟩, ⟨sk0 (.raw (.int .i64 x184)), [], [], []⟩, ⟨sk0 (.ptr K8 x227), [], [], []⟩, ⟨sk0 (.raw (.int .u8 x227)), [], [], []⟩, ⟨sk0 (.raw (.int .i64 x184)), [], [], []⟩, ⟨sk0 (.raw (.int .i64 (Int.tmod x184 16))), [], [], []⟩, ⟨sk0 (.raw (.pointer (some ⟨b8, 0 + Int.toNat (Int.tmod x184 16) * 1, none⟩))), [], [], []⟩, ⟨sk0 (.raw (.int .u8 x229)), [], [], []⟩, ⟨sk0 (.raw (.int .u8 (xorI .u8 x227 x229))), [], [], []⟩, ⟨sk0 (.val K6 [xorI .u8 x227 x229]), [], [], []⟩] [] (fun T : List Res => (.own K8 q244 5 x183) :: (.box K4 b1 44 x221) :: (.box K4 b8 44 x222) :: T) lf3 rfl (by kernel_rfl) rfl rfl (fun F hF0 bs226 => ?_)
     refine Tq.v (fun G T hG => ?_) ?_
     ·exact mv rfl rfl <| Under.fo2 <| Under.fo2 <| Under.fo2 <| Tq.end undef rfl rfl
     refine Tq.v (fun G T hG => ?_) ?_
     ·exact mv rfl rfl <| Under.fo2 <| Under.fo2 <| Under.fo2 <| Tq.end undef rfl rfl
     refine Tq.v (fun G T hG => ?_) ?_
     ·exact mv rfl rfl <| Under.fo2 <| Under.fo2 <| Under.fo2 <| Tq.end undef rfl rfl
     refine Tq.v (fun G T hG => ?_) ?_
     ·exact ov (OpV.ixS h228 Tryd.underlying22 sz5 rfl rdV rfl) rfl <| Under.fo2 <| Under.fo2 <| Under.fo2 <| Tq.end undef rfl rfl
     refine Tq.v (fun G T hG => ?_) ?_
     ·exact ov (OpV.ldI kt5 rfl) rfl <| Under.fo2 <| Under.fo2 <| Under.fo2 <| Tq.end undef rfl rfl
     refine Tq.v (fun G T hG => ?_) ?_
     ·exact mv rfl rfl <| Under.fo2 <| Under.fo2 <| Under.fo2 <| Tq.end undef rfl rfl
     refine Tq.v (fun G T hG => ?_) ?_
     ·exact ov (OpV.quo rfl rfl (by decide) rfl) rfl <| Under.fo2 <| Under.fo2 <| Under.fo2 <| Tq.end undef rfl rfl
     refine Tq.v (fun G T hG => ?_) ?_
     ·exact Under.fo2 <| ov (OpV.ixP .box .id h230 Tryd.underlying44 sz5_kInt_u8 rfl rfl) rfl <| Under.fo2 <| Under.fo2 <| Tq.end undef rfl rfl
     refine Tq.v (fun G T hG => ?_) ?_
     ·exact Under.fo2 <| Under.ldP .box (.ix .id h230) kt5_kInt_u8 rfl rfl <| Under.rawI (t := 38) rfl <| Under.fo2 <| Under.fo2 <| Tq.end undef rfl rfl
     refine Tq.v (fun G T hG => ?_) ?_
     ·exact bn rfl rfl rfl rfl <| Under.fo2 <| Under.fo2 <| Under.fo2 <| Tq.end undef rfl rfl
     refine Tq.v (fun G T hG => ?_) ?_
     ·exact Under.bsF (ys := [xorI .u8 x227 x229]) Tryd.underlying22 ET5 (BldA.cons rfl rfl rdI (BldA.nil _)) rfl rfl <| Under.fo2 <| Under.fo2 <| Under.fo2 <| Tq.end undef rfl rfl
     exact Tq.nil <| Under.le hF0 <| Under.p1 11 rfl rfl <| Under.app h232 Tryd.underlying22 AT5 rfl rfl rdV rfl fun v233 => Under.pn <| Under.p1 12 rfl rfl <| ag rfl rfl <| Under.pn <| Under.pdone rfl <| bN <| tn <| rg <| mv rfl rfl <| bn rfl rfl rfl rfl <| ag rfl rfl <| nl <| Under.fo2 <| Under.fo2 <| Under.fo2 <| Under.next _ v233 h212 (s6 rfl rfl rfl rfl rfl rfl) rfl
    ·intro K k225
     refine sr <| mv rfl rfl <| ov (OpV.quo rfl rfl (by decide) rfl) rfl <| bn rfl rfl rfl rfl <| nt <| Under.ite h224 rfl (fun h224 => ?_) (fun h224 => ?_)
     ·obtain ⟨y234, h235, h224⟩ := bsome h224
      obtain ⟨y236, h237, h224⟩ := bsome h224
      exact sr <| ov (OpV.ld kt131 rfl) rfl <| Under.fo1 <| Under.ldP .box .id kt44_kArr_16_kInt_u8_ rfl rfl <| Under.call Tryd.call73 rfl rfl (f_churnref04_With_ok h235 _) rfl <| Under.fo2 <| Under.stP (x' := y234) .box .id sz44_kArr_16_kInt_u8_ rfl rfl rdV rfl <| nt <| rg <| Under.fo1 <| Under.ldP .box .id kt44_kArr_16_kInt_u8_ rfl rfl <| Under.call Tryd.call74 rfl rfl (f_churnref04_next_ok h237 _) rfl <| Under.stP (x' := y236) .box .id sz44_kArr_16_kInt_u8_ rfl rfl rdV rfl <| nt <| Under.fo1 <| Under.fo1 <| Under.fo2 <| wk (k225 _ _ (osi h224).symm) (s6 rfl rfl rfl rfl rfl rfl)
     ·exact ct <| Under.fo2 <| Under.fo2 <| Under.fo2 <| wk (k225 _ _ (osi h224).symm) (s6 rfl rfl rfl rfl rfl rfl)
   ·refine Under.fo1 <| dr <| Under.fo1 <| dr <| Under.frzO (t := 8) rfl <| xt <| te ?_
    have e241 := done_eq h212 d213
    subst e241
    exact te <| bh <| tn <| wk (k127 _ (osi h126).symm) (s1 rfl)
/-- churn/churnref05.fill -/
noncomputable def f_churnref05_fill (a0 : List Int) : Option (List Int) :=
  (app [] a0).bind fun z2 =>
  (((Loop.run (S := (List Int)) (R := (List Int)) (fun x44 =>
      bif decide ((x44.length : Int) < 320) then
        (app x44 [0]).bind fun z54 =>
        some (.next z54)
      else
        some (.done x44)) z2).bind fun x48 =>
  some x48
    : Option (List Int))).bind fun x30 =>
  some x30
theorem f_churnref05_fill_ok {a0 : List Int} {r0 : (List Int)} (hF : f_churnref05_fill a0 = some r0) (L : List Res) : Ok Tryd.prog 75 [SV.val K6 a0] (L) (SV.val K6 r0) (L) := by
  unfold f_churnref05_fill at hF
  refine Ok.intro 14 [(0, .val K6 a0)] Tryd.func75 rfl rfl rfl rfl (fun F0 => ?_)
  obtain ⟨z2, h3, hF⟩ := bsome hF
  obtain ⟨r31, h32, hF⟩ := bsome hF
  refine sr <| ag rfl rfl <| ns <| Under.bsO (ys := []) Tryd.underlying22 ET5 (BldA.nil _) rfl rfl fun v1 => mv rfl rfl <| Under.app h3 Tryd.underlying22 AT5 rfl rfl rdV rfl fun v4 => ag rfl rfl <| nt <| sq <| Under.after (fun X => ∀ (x30 : List Int), r31 = x30 → Under F0 14 [(3, .val K6 x30)] (L) X) ?_ ?_
  ·intro x30 h62
   replace h62 := h62.symm
   subst h62
   refine sr <| mv rfl rfl <| ag rfl rfl <| nt <| rc ?_
   have e34 := osi hF
   subst e34
   exact Under.rets Tryd.results75 (.tm rfl .nil) rfl rfl
  ·intro K k33
   obtain ⟨r51, h52, h32⟩ := bsome h32
   refine bk <| Under.loop (S := (List Int)) (C := Value) v4 (fun (x59 : (List Int)) (q60 : Value) => [(3, .raw q60)]) (fun (x59 : (List Int)) (q60 : Value) => (.own K8 q60 5 x59) :: L) h52 (s1 rfl) rfl (fun x59 q60 o53 h49 d50 => ?_)
   refine sq <| sr <| mv rfl rfl <| ov (OpV.lenO Tryd.underlying22 rfl) rfl <| bn rfl rfl rfl rfl <| nt <| Under.ite h49 rfl (fun h49 => ?_) (fun h49 => ?_)
   ·obtain ⟨z54, h55, h49⟩ := bsome h49
    exact ct <| bk <| rg <| mv rfl rfl <| Under.bsF (ys := [0]) Tryd.underlying22 ET5 (BldA.cons rfl rfl rdI (BldA.nil _)) rfl rfl <| Under.app h55 Tryd.underlying22 AT5 rfl rfl rdV rfl fun v56 => ag rfl rfl <| nl <| bN <| Under.next _ v56 h49 (s1 rfl) rfl
   ·refine Under.frzO (t := 3) rfl <| xt <| te ?_
    have e57 := done_eq h49 d50
    subst e57
    exact te <| bh <| tn <| wk (k33 _ (osi h32).symm) (s1 rfl)
/-- churn/churnref05.Pad -/
noncomputable def f_churnref05_Pad (a0 : List Int) : Option ((List Int) × Int) :=
  bif decide ((a0.length : Int) > 320) then
    some ([], 1)
  else
    (f_churnref05_fill a0).bind fun y2 =>
    some (y2, 0)
theorem f_churnref05_Pad_ok {a0 : List Int} {r0 : ((List Int) × Int)} (hF : f_churnref05_Pad a0 = some r0) (L : List Res) : Ok Tryd.prog 56 [SV.val K6 a0] (L) (SV.tup [SV.val K6 r0.1, SV.raw (.int .i64 r0.2)]) (L) := by
  unfold f_churnref05_Pad at hF
  refine Ok.intro 9 [(0, .val K6 a0)] Tryd.func56 rfl rfl rfl rfl (fun F0 => ?_)
  refine sr <| ag rfl rfl <| ag rfl rfl <| nt <| sq <| sr <| mv rfl rfl <| ov (OpV.len Tryd.underlying22 rfl rdV) rfl <| bn rfl rfl rfl rfl <| nt <| Under.ite hF rfl (fun hF => ?_) (fun hF => ?_)
  ·refine sr <| ag rfl rfl <| ag rfl rfl <| nt <| rt <| Under.toV (K := kSl K8) (x := []) (t := 2) rfl rdN ?_
   have e1 := osi hF
   subst e1
   exact Under.rets Tryd.results56 (.tm rfl (.tm rfl .nil)) rfl rfl
  ·obtain ⟨y2, h3, hF⟩ := bsome hF
   refine ct <| sr <| mv rfl rfl <| Under.call Tryd.call75 rfl rfl (f_churnref05_fill_ok h3 _) rfl <| ag rfl rfl <| ag rfl rfl <| nt <| rc ?_
   have e4 := osi hF
   subst e4
   exact Under.rets Tryd.results56 (.tm rfl (.tm rfl .nil)) rfl rfl
/-- churn/churnref05.Plain -/
noncomputable def f_churnref05_Plain (a0 : List Int) : Option ((List Int) × Int) :=
  bif decide ((a0.length : Int) > 48) then
    some ([], 1)
  else
    (app [1, IntKind.wrap .u8 (a0.length : Int)] a0).bind fun z3 =>
    (f_churnref05_fill z3).bind fun y6 =>
    some (y6, 0)
theorem f_churnref05_Plain_ok {a0 : List Int} {r0 : ((List Int) × Int)} (hF : f_churnref05_Plain a0 = some r0) (L : List Res) : Ok Tryd.prog 57 [SV.val K6 a0] (L) (SV.tup [SV.val K6 r0.1, SV.raw (.int .i64 r0.2)]) (L) := by
  unfold f_churnref05_Plain at hF
  refine Ok.intro 14 [(0, .val K6 a0)] Tryd.func57 rfl rfl rfl rfl (fun F0 => ?_)
  refine sr <| ag rfl rfl <| ag rfl rfl <| nt <| sq <| sr <| mv rfl rfl <| ov (OpV.len Tryd.underlying22 rfl rdV) rfl <| bn rfl rfl rfl rfl <| nt <| Under.ite hF rfl (fun hF => ?_) (fun hF => ?_)
  ·refine sr <| ag rfl rfl <| ag rfl rfl <| nt <| rt <| Under.toV (K := kSl K8) (x := []) (t := 2) rfl rdN ?_
   have e1 := osi hF
   subst e1
   exact Under.rets Tryd.results57 (.tm rfl (.tm rfl .nil)) rfl rfl
  ·obtain ⟨z3, h4, hF⟩ := bsome hF
   obtain ⟨y6, h7, hF⟩ := bsome hF
   refine ct <| sr <| mv rfl rfl <| ov (OpV.len Tryd.underlying22 rfl rdV) rfl <| ov (OpV.conv (by kernel_rfl) Tryd.underlying5 rfl) rfl <| Under.bsO (ys := [1, IntKind.wrap .u8 (a0.length : Int)]) Tryd.underlying22 ET5 (BldA.cons rfl rfl rdI (BldA.cons rfl rfl rdI (BldA.nil _))) rfl rfl fun v2 => mv rfl rfl <| Under.app h4 Tryd.underlying22 AT5 rfl rfl rdV rfl fun v5 => Under.frzO (t := 12) rfl <| Under.call Tryd.call75 rfl rfl (f_churnref05_fill_ok h7 _) rfl <| ag rfl rfl <| ag rfl rfl <| nt <| rc ?_
   have e8 := osi hF
   subst e8
   exact Under.rets Tryd.results57 (.tm rfl (.tm rfl .nil)) rfl rfl
end Go.Proofs.YtgllljocmpbooaaDoor

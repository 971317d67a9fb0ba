/- PRINTED BY gen2.py (of this repo): functions of the program in Lean, and that the machine follows them. -/
import Derived.Test.YtgllljocmpbooaaWn2
set_option linter.unusedVariables false
set_option linter.unusedSimpArgs false
set_option maxRecDepth 20000
namespace Go.Proofs.Ytgllljocmpbooaa
open Go Go.Sim Go.ChangeShapes Go.WideShapes Go.ChangeAt Go.RowKit
/-- churn/churnlaw16.WindowHolds -/
noncomputable def f_churnlaw16_WindowHolds (a0 : Churnlaw16_Job) : Option Bool :=
  (f_churnlaw16_alive).bind fun y1 =>
  bif !y1 then
    some false
  else
    (f_churnref16_Check a0.W a0.Span a0.Room).bind fun y4 =>
    bif (y4 != 0) || (decide ((a0.Tags.length : Int) > 2000)) then
      some true
    else
      (f_window_Open a0.W a0.Epoch a0.Span).bind fun y10 =>
      ((bif y10.2 == 0 then
        (f_churnref16_Check y10.1 a0.Span a0.Room).bind fun y3056 =>
        bif (y3056 != 0) || (y10.1.Newest != (max a0.W.Newest a0.Epoch)) then
          some (.inl false)
        else
          (((Loop.run (S := (Int × Int)) (R := (Int ⊕ Bool)) (fun (x4108, x4109) =>
              bif decide (x4109 < (a0.W.Epochs.length : Int)) then
                (((idx a0.W.Epochs x4109).bind fun x4371 =>
                (Loop.run (S := (Int × Int)) (R := (Int ⊕ Bool)) (fun (x4408, x4409) =>
                    bif decide (x4409 < (x4371.Tags.length : Int)) then
                      (((idx x4371.Tags x4409).bind fun x4440 =>
                      (f_window_Has y10.1 x4440).bind fun y4442 =>
                      bif y4442 != (decide (x4371.Number > (IntKind.wrap .i64 (y10.1.Newest - a0.Span)))) then
                        some (.inl false)
                      else
                        bif decide (x4371.Number > (IntKind.wrap .i64 (y10.1.Newest - a0.Span))) then
                          some (.inr (IntKind.wrap .i64 (x4408 + 1)))
                        else
                          some (.inr x4408)
                        : Option (Bool ⊕ Int))).bind fun r4437 => match r4437 with
                        | .inl z =>
                          some (.done (.inr z))
                        | .inr x4436 =>
                          some (.next (x4436, IntKind.wrap .i64 (x4409 + 1)))
                    else
                      some (.done (.inl x4408))) (x4108, 0)).bind fun r4429 => match r4429 with
                  | .inl x4426 =>
                    some (.inr x4426)
                  | .inr z =>
                    some (.inl z)
                  : Option (Bool ⊕ Int))).bind fun r4368 => match r4368 with
                  | .inl z =>
                    some (.done (.inr z))
                  | .inr x4367 =>
                    some (.next (x4367, IntKind.wrap .i64 (x4109 + 1)))
              else
                some (.done (.inl x4108))) (0, 0)).bind fun r4283 => match r4283 with
            | .inl x4280 =>
              some (.inr x4280)
            | .inr z =>
              some (.inl z)
            : Option (Bool ⊕ Int))).bind fun r3758 => match r3758 with
            | .inl z =>
              some (.inl z)
            | .inr x3757 =>
              (f_window_Len y10.1).bind fun y3761 =>
              bif y3761 != x3757 then
                some (.inl false)
              else
                some (.inr y10.1)
      else
        some (.inr a0.W)
        : Option (Bool ⊕ Api_Window))).bind fun r1417 => match r1417 with
        | .inl z =>
          some z
        | .inr x1416 =>
          (f_window_Add x1416 a0.Epoch a0.Tags a0.Room).bind fun y1420 =>
          bif y1420.2 != 0 then
            some ((((y1420.1.Epochs.length : Int) == 0) && (y1420.1.Newest == 0)) && ((y1420.2 == 160) || (y10.2 != 0)))
          else
            ((bif y10.2 == 0 then
              (f_churnref16_Check y1420.1 a0.Span a0.Room).bind fun y1436 =>
              some (y1436 != 0)
            else
              some false
              : Option Bool)).bind fun x1435 =>
            bif x1435 || (y1420.1.Newest != x1416.Newest) then
              some false
            else
              (((Loop.run (S := (Int × Int)) (R := (Int ⊕ Bool)) (fun (x2663, x2664) =>
                  bif decide (x2664 < (y1420.1.Epochs.length : Int)) then
                    (((Loop.run (S := (Int × Int)) (R := (Int ⊕ Bool)) (fun (x2993, x2994) =>
                        (idx y1420.1.Epochs x2664).bind fun x3020 =>
                        bif decide (x2994 < (x3020.Tags.length : Int)) then
                          (idx y1420.1.Epochs x2664).bind fun x3022 =>
                          (idx x3022.Tags x2994).bind fun x3024 =>
                          (f_churnref16_Has x1416 x3024).bind fun y3027 =>
                          ((bif !y3027 then
                            (idx y1420.1.Epochs x2664).bind fun x3032 =>
                            ((bif x3032.Number != a0.Epoch then
                              some true
                            else
                              (f_churnlaw16_in a0.Tags x3024).bind fun y3037 =>
                              some (!y3037)
                              : Option Bool)).bind fun x3036 =>
                            some x3036
                          else
                            some false
                            : Option Bool)).bind fun x3031 =>
                          bif x3031 then
                            some (.done (.inr false))
                          else
                            some (.next (IntKind.wrap .i64 (x2993 + 1), IntKind.wrap .i64 (x2994 + 1)))
                        else
                          some (.done (.inl x2993))) (x2663, 0)).bind fun r3017 => match r3017 with
                      | .inl x3014 =>
                        some (.inr x3014)
                      | .inr z =>
                        some (.inl z)
                      : Option (Bool ⊕ Int))).bind fun r2950 => match r2950 with
                      | .inl z =>
                        some (.done (.inr z))
                      | .inr x2949 =>
                        some (.next (x2949, IntKind.wrap .i64 (x2664 + 1)))
                  else
                    some (.done (.inl x2663))) (0, 0)).bind fun r2856 => match r2856 with
                | .inl x2853 =>
                  some (.inr x2853)
                | .inr z =>
                  some (.inl z)
                : Option (Bool ⊕ Int))).bind fun r2209 => match r2209 with
                | .inl z =>
                  some z
                | .inr x2208 =>
                  (((Loop.run (S := Int) (R := (Unit ⊕ Bool)) (fun x2262 =>
                      bif decide (x2262 < (a0.Tags.length : Int)) then
                        (idx a0.Tags x2262).bind fun x2272 =>
                        (f_window_Has y1420.1 x2272).bind fun y2274 =>
                        bif !y2274 then
                          some (.done (.inr false))
                        else
                          some (.next (IntKind.wrap .i64 (x2262 + 1)))
                      else
                        some (.done (.inl ()))) 0).bind fun r2269 => match r2269 with
                    | .inl _ =>
                      some (.inr ())
                    | .inr z =>
                      some (.inl z)
                    : Option (Bool ⊕ Unit))).bind fun r2239 => match r2239 with
                    | .inl z =>
                      some z
                    | .inr _ =>
                      (f_window_Len y1420.1).bind fun y2242 =>
                      ((bif x2208 == y2242 then
                        (f_window_Len x1416).bind fun y2247 =>
                        some (decide (x2208 ≥ y2247))
                      else
                        some false
                        : Option Bool)).bind fun x2246 =>
                      some (x2246 && (decide (x2208 ≤ a0.Room)))
theorem f_churnlaw16_WindowHolds_ok {a0 : Churnlaw16_Job} {r0 : Bool} (hF : f_churnlaw16_WindowHolds a0 = some r0) (L : List Res) : Ok Try.prog 9 [SV.val kChurnlaw16_Job a0] (L) (SV.raw (.bool r0)) (L) := by
  unfold f_churnlaw16_WindowHolds at hF
  refine Ok.intro 240 [(0, .val kChurnlaw16_Job a0)] Try.func9 rfl rfl rfl rfl (fun F0 => ?_)
  obtain ⟨y1, h2, hF⟩ := bsome hF
  refine sr <| Under.bxF (K := kChurnlaw16_Job) rfl rdV rfl <| ag rfl rfl <| nt <| sq <| sr <| Under.call Try.call15 rfl rfl (f_churnlaw16_alive_ok h2 _) rfl <| ov (OpV.not rfl) rfl <| nt <| Under.ite hF rfl (fun hF => ?_) (fun hF => ?_)
  ·refine sr <| ag rfl rfl <| nt <| rt ?_
   have e3 := osi hF
   subst e3
   exact Under.rets Try.results9 (.tm rfl .nil) rfl rfl
  ·obtain ⟨y4, h5, hF⟩ := bsome hF
   refine ct <| sq <| sr <| ov (OpV.fd fb52_0 rfl rfl) rfl <| ov (OpV.ld kt27 rfl) rfl <| ov (OpV.fd fb52_1 rfl rfl) rfl <| ov (OpV.ldI kt3 rfl) rfl <| ov (OpV.fd fb52_2 rfl rfl) rfl <| ov (OpV.ldI kt3 rfl) rfl <| Under.call Try.call17 rfl rfl (f_churnref16_Check_ok h5 _) rfl <| bn rfl rfl rfl rfl <| mv rfl rfl <| runj_5 32 ((y4 != 0) || (decide ((a0.Tags.length : Int) > 2000))) ?_ (fun k => ?_)
   ·refine nt <| Under.ite hF rfl (fun hF => ?_) (fun hF => ?_)
    ·refine sr <| ag rfl rfl <| nt <| rt ?_
     have e9 := osi hF
     subst e9
     exact Under.rets Try.results9 (.tm rfl .nil) rfl rfl
    ·obtain ⟨y10, h11, hF⟩ := bsome hF
     obtain ⟨r1417, h1418, hF⟩ := bsome hF
     refine ct <| sr <| ov (OpV.fd fb52_0 rfl rfl) rfl <| ov (OpV.ld kt27 rfl) rfl <| ov (OpV.fd fb52_3 rfl rfl) rfl <| ov (OpV.ldI kt2 rfl) rfl <| ov (OpV.fd fb52_1 rfl rfl) rfl <| ov (OpV.ldI kt3 rfl) rfl <| Under.call Try.call23 rfl rfl (f_window_Open_ok h11 _) rfl <| mv rfl rfl <| ov (OpV.extr rfl rfl) rfl <| ov (OpV.extr rfl rfl) rfl <| Under.al ZT27 rfl fun b12 => Under.stP (x' := y10.1) .box .id sz27_kApi_Window rfl rfl rdV rfl <| ag rfl rfl <| nt <| sq <| Under.after (fun X => ∀ (x1416 : Api_Window), r1417 = (.inr x1416) → Under F0 240 [(1, .ptr kChurnlaw16_Job a0), (3, .ptr kApi_Window x1416), (4, .raw (.int .i64 y10.2))] (L) X) ?_ ?_
     ·intro x1416 h4467
      replace h4467 := h4467.symm
      subst h4467
      obtain ⟨y1420, h1421, hF⟩ := bsome hF
      refine sr <| ov (OpV.ld kt27 rfl) rfl <| ov (OpV.fd fb52_3 rfl rfl) rfl <| ov (OpV.ldI kt2 rfl) rfl <| ov (OpV.fd fb52_4 rfl rfl) rfl <| ov (OpV.ld kt36 rfl) rfl <| ov (OpV.fd fb52_2 rfl rfl) rfl <| ov (OpV.ldI kt3 rfl) rfl <| Under.call Try.call26 rfl rfl (f_window_Add_ok h1421 _) rfl <| mv rfl rfl <| ov (OpV.extr rfl rfl) rfl <| ov (OpV.extr rfl rfl) rfl <| Under.al ZT27 rfl fun b1422 => Under.stP (x' := y1420.1) .box .id sz27_kApi_Window rfl rfl rdV rfl <| ag rfl rfl <| nl <| Under.frz (t := 10) rfl <| tn <| sq <| sr <| mv rfl rfl <| bn rfl rfl rfl rfl <| nt <| Under.ite hF rfl (fun hF => ?_) (fun hF => ?_)
      ·refine sr <| ov (OpV.fd fb27_1 rfl rfl) rfl <| ov (OpV.ld kt25 rfl) rfl <| ov (OpV.len Try.underlying25 rfl rdV) rfl <| bn rfl rfl rfl rfl <| mv rfl rfl <| runj_4 131 (((y1420.1.Epochs.length : Int) == 0) && (y1420.1.Newest == 0)) ?_ (fun k => ?_)
       ·refine mv rfl rfl <| runj_7 139 ((((y1420.1.Epochs.length : Int) == 0) && (y1420.1.Newest == 0)) && ((y1420.2 == 160) || (y10.2 != 0))) ?_ (fun k => ?_)
        ·refine ag rfl rfl <| nt <| rt ?_
         have e1432 := osi hF
         subst e1432
         exact Under.rets Try.results9 (.tm rfl .nil) rfl rfl
        ·refine by_ (t := 132) rfl (fun c1426 => ?_) (fun c1426 => ?_)
         ·refine gc c1426 rfl rfl <| mv rfl rfl <| gc c1426 rfl rfl <| bn rfl rfl rfl rfl <| gc c1426 rfl rfl <| mv rfl rfl <| runj_3 138 ((y1420.2 == 160) || (y10.2 != 0)) ?_ (fun k => ?_)
          ·exact ov (pkT c1426 rfl rfl) rfl <| rf 4 (and_t c1426) rfl k
          ·refine by_ (t := 135) rfl (fun c1429 => ?_) (fun c1429 => ?_)
           ·exact sk c1429 rfl rfl rfl <| sk c1429 rfl rfl rfl <| gc c1426 rfl rfl <| ov (pkT c1429 rfl rfl) rfl <| rf 2 (or_t (e := y10.2 != 0) c1429) rfl k
           ·exact gc c1429 rfl rfl <| mv rfl rfl <| gc c1429 rfl rfl <| bn rfl rfl rfl rfl <| gc c1426 rfl rfl <| ov (pkF c1429 rfl rfl) rfl <| rf 2 (or_f c1429) rfl k
         ·exact sk c1426 rfl rfl rfl <| sk c1426 rfl rfl rfl <| sk c1426 rfl rfl rfl <| Under.sku rfl rfl rfl <| Under.sku rfl rfl rfl <| sk c1426 rfl rfl rfl <| ov (pkF c1426 rfl rfl) rfl <| rf 6 (and_f (e := (y1420.2 == 160) || (y10.2 != 0)) c1426) rfl k
       ·refine by_ (t := 127) rfl (fun c1423 => ?_) (fun c1423 => ?_)
        ·exact gc c1423 rfl rfl <| ov (OpV.fd fb27_0 rfl rfl) rfl <| gc c1423 rfl rfl <| ov (OpV.ldI kt2 rfl) rfl <| gc c1423 rfl rfl <| bn rfl rfl rfl rfl <| ov (pkT c1423 rfl rfl) rfl <| rf 3 (and_t c1423) rfl k
        ·exact sk c1423 rfl rfl rfl <| sk c1423 rfl rfl rfl <| sk c1423 rfl rfl rfl <| ov (pkF c1423 rfl rfl) rfl <| rf 3 (and_f (e := y1420.1.Newest == 0) c1423) rfl k
      ·obtain ⟨x1435, h1434, hF⟩ := bsome hF
       refine ct <| sq <| sr <| mv rfl rfl <| bn rfl rfl rfl rfl <| mv rfl rfl <| runj_8 150 x1435 ?_ (fun k => ?_)
       ·refine mv rfl rfl <| runj_6 157 (x1435 || (y1420.1.Newest != x1416.Newest)) ?_ (fun k => ?_)
        ·refine nt <| Under.ite hF rfl (fun hF => ?_) (fun hF => ?_)
         ·refine sr <| ag rfl rfl <| nt <| rt ?_
          have e1441 := osi hF
          subst e1441
          exact Under.rets Try.results9 (.tm rfl .nil) rfl rfl
         ·obtain ⟨r2209, h2210, hF⟩ := bsome hF
          refine ct <| sr <| ag rfl rfl <| nt <| sq <| Under.after (fun X => ∀ (x2208 : Int), r2209 = (.inr x2208) → Under F0 240 [(1, .ptr kChurnlaw16_Job a0), (3, .ptr kApi_Window x1416), (10, .ptr kApi_Window y1420.1), (12, .raw (.int .i64 x2208))] (L) X) ?_ ?_
          ·intro x2208 h3055
           replace h3055 := h3055.symm
           subst h3055
           obtain ⟨r2239, h2240, hF⟩ := bsome hF
           refine sq <| Under.after (fun X => ∀ (_ : Unit), r2239 = (.inr ()) → Under F0 240 [(1, .ptr kChurnlaw16_Job a0), (3, .ptr kApi_Window x1416), (10, .ptr kApi_Window y1420.1), (12, .raw (.int .i64 x2208))] (L) X) ?_ ?_
           ·intro _ h2284
            replace h2284 := h2284.symm
            subst h2284
            obtain ⟨y2242, h2243, hF⟩ := bsome hF
            obtain ⟨x2246, h2245, hF⟩ := bsome hF
            refine sr <| mv rfl rfl <| ov (OpV.ld kt27 rfl) rfl <| Under.call Try.call18 rfl rfl (f_window_Len_ok h2243 _) rfl <| bn rfl rfl rfl rfl <| mv rfl rfl <| runj_5 233 x2246 ?_ (fun k => ?_)
            ·refine mv rfl rfl <| runj_5 239 (x2246 && (decide (x2208 ≤ a0.Room))) ?_ (fun k => ?_)
             ·refine ag rfl rfl <| nt <| rc ?_
              have e2252 := osi hF
              subst e2252
              exact Under.rets Try.results9 (.tm rfl .nil) rfl rfl
             ·refine by_ (t := 234) rfl (fun c2249 => ?_) (fun c2249 => ?_)
              ·exact gc c2249 rfl rfl <| mv rfl rfl <| gc c2249 rfl rfl <| ov (OpV.fd fb52_2 rfl rfl) rfl <| gc c2249 rfl rfl <| ov (OpV.ldI kt3 rfl) rfl <| gc c2249 rfl rfl <| bn rfl rfl rfl rfl <| ov (pkT c2249 rfl rfl) rfl <| rf 4 (and_t c2249) rfl k
              ·exact sk c2249 rfl rfl rfl <| sk c2249 rfl rfl rfl <| sk c2249 rfl rfl rfl <| sk c2249 rfl rfl rfl <| ov (pkF c2249 rfl rfl) rfl <| rf 4 (and_f (e := decide (x2208 ≤ a0.Room)) c2249) rfl k
            ·refine by_ (t := 228) rfl (fun c2244 => ?_) (fun c2244 => ?_)
             ·replace h2245 := ctrue c2244 h2245
              obtain ⟨y2247, h2248, h2245⟩ := bsome h2245
              exact gc c2244 rfl rfl <| mv rfl rfl <| gc c2244 rfl rfl <| ov (OpV.ld kt27 rfl) rfl <| gc c2244 rfl rfl <| Under.call Try.call18 rfl rfl (f_window_Len_ok h2248 _) rfl <| gc c2244 rfl rfl <| bn rfl rfl rfl rfl <| ov (pkT c2244 rfl rfl) rfl <| rf 4 (rbq h2245) rfl k
             ·replace h2245 := cfalse c2244 h2245
              exact sk c2244 rfl rfl rfl <| sk c2244 rfl rfl rfl <| sk c2244 rfl rfl rfl <| sk c2244 rfl rfl rfl <| ov (pkF c2244 rfl rfl) rfl <| rf 4 (rbq h2245) rfl k
           ·intro K k2241
            obtain ⟨r2269, h2270, h2240⟩ := bsome h2240
            refine sr <| ag rfl rfl <| nt <| bk <| Under.loop (S := Int) (C := Unit) () (fun (x2281 : Int) (q2282 : Unit) => [(1, .ptr kChurnlaw16_Job a0), (3, .ptr kApi_Window x1416), (10, .ptr kApi_Window y1420.1), (12, .raw (.int .i64 x2208)), (16, .raw (.int .i64 x2281))]) (fun (x2281 : Int) (q2282 : Unit) => L) h2270 (s5 rfl rfl rfl rfl rfl) rfl (fun x2281 q2282 o2271 h2267 d2268 => ?_)
            refine sq <| sr <| mv rfl rfl <| ov (OpV.fd fb52_4 rfl rfl) rfl <| ov (OpV.ld kt36 rfl) rfl <| ov (OpV.len Try.underlying36 rfl rdV) rfl <| bn rfl rfl rfl rfl <| nt <| Under.ite h2267 rfl (fun h2267 => ?_) (fun h2267 => ?_)
            ·obtain ⟨x2272, h2273, h2267⟩ := bsome h2267
             obtain ⟨y2274, h2275, h2267⟩ := bsome h2267
             refine ct <| sq <| bk <| sq <| dw rfl (by kernel_rfl) fun F hF0 => oq (OpV.ld kt27 rfl) rfl <| oq (OpV.fd fb52_4 rfl rfl) rfl <| oq (OpV.ld kt36 rfl) rfl <| mvq rfl rfl <| oq (OpV.ixS h2273 Try.underlying36 sz43 rfl rdV rfl) rfl <| oq (OpV.ld kt43 rfl) rfl <| oq (OpV.call Try.call20 rfl rfl (fun L => (f_window_Has_ok h2275 L))) rfl <| oq (OpV.not rfl) rfl <| nlq hF0 <| tn <| Under.ite h2267 rfl (fun h2267 => ?_) (fun h2267 => ?_)
             ·refine sr <| ag rfl rfl <| nt <| rc <| Under.bR <| tr ?_
              have e2276 := done_eq h2267 d2268
              subst e2276
              refine tr <| Under.bR <| tr ?_
              have e2277 := osi h2240
              subst e2277
              have e2278 := osi hF
              subst e2278
              exact Under.rets Try.results9 (.tm rfl .nil) rfl rfl
             ·exact cs <| bN <| tn <| rg <| mv rfl rfl <| bn rfl rfl rfl rfl <| ag rfl rfl <| nl <| Under.next _ () h2267 (s5 rfl rfl rfl rfl rfl) rfl
            ·refine xt <| te ?_
             have e2279 := done_eq h2267 d2268
             subst e2279
             exact te <| bh <| tn <| wk (k2241 () (osi h2240).symm) (s4 rfl rfl rfl rfl)
          ·intro K k2211
           obtain ⟨r2856, h2857, h2210⟩ := bsome h2210
           refine sr <| ag rfl rfl <| nt <| bk <| Under.loop (S := (Int × Int)) (C := Unit) () (fun (x3052 : (Int × Int)) (q3053 : Unit) => [(1, .ptr kChurnlaw16_Job a0), (3, .ptr kApi_Window x1416), (10, .ptr kApi_Window y1420.1), (12, .raw (.int .i64 x3052.1)), (13, .raw (.int .i64 x3052.2))]) (fun (x3052 : (Int × Int)) (q3053 : Unit) => L) h2857 (s5 rfl rfl rfl rfl rfl) rfl (fun x3052 q3053 o2858 h2854 d2855 => ?_)
           obtain ⟨x2663, x2664⟩ := x3052
           dsimp only at h2854 ⊢
           refine sq <| sr <| mv rfl rfl <| ov (OpV.fd fb27_1 rfl rfl) rfl <| ov (OpV.ld kt25 rfl) rfl <| ov (OpV.len Try.underlying25 rfl rdV) rfl <| bn rfl rfl rfl rfl <| nt <| Under.ite h2854 rfl (fun h2854 => ?_) (fun h2854 => ?_)
           ·obtain ⟨r2950, h2951, h2854⟩ := bsome h2854
            refine ct <| sq <| Under.after (fun X => ∀ (x2949 : Int), r2950 = (.inr x2949) → Under F0 240 [(1, .ptr kChurnlaw16_Job a0), (3, .ptr kApi_Window x1416), (10, .ptr kApi_Window y1420.1), (12, .raw (.int .i64 x2949)), (13, .raw (.int .i64 x2664))] (L) X) ?_ ?_
            ·intro x2949 h3049
             replace h3049 := h3049.symm
             subst h3049
             exact rg <| mv rfl rfl <| bn rfl rfl rfl rfl <| ag rfl rfl <| nl <| Under.next _ () h2854 (s5 rfl rfl rfl rfl rfl) rfl
            ·intro K k2952
             obtain ⟨r3017, h3018, h2951⟩ := bsome h2951
             refine bk <| sr <| ag rfl rfl <| nt <| bk <| Under.loop (S := (Int × Int)) (C := Unit) () (fun (x3046 : (Int × Int)) (q3047 : Unit) => [(1, .ptr kChurnlaw16_Job a0), (3, .ptr kApi_Window x1416), (10, .ptr kApi_Window y1420.1), (12, .raw (.int .i64 x3046.1)), (13, .raw (.int .i64 x2664)), (14, .raw (.int .i64 x3046.2))]) (fun (x3046 : (Int × Int)) (q3047 : Unit) => L) h3018 (s6 rfl rfl rfl rfl rfl rfl) rfl (fun x3046 q3047 o3019 h3015 d3016 => ?_)
             obtain ⟨x2993, x2994⟩ := x3046
             dsimp only at h3015 ⊢
             obtain ⟨x3020, h3021, h3015⟩ := bsome h3015
             refine sq <| sr <| mv rfl rfl <| ov (OpV.fd fb27_1 rfl rfl) rfl <| ov (OpV.ld kt25 rfl) rfl <| mv rfl rfl <| ov (OpV.ixS h3021 Try.underlying25 sz61 rfl rdV rfl) rfl <| ov (OpV.fd fb61_1 rfl rfl) rfl <| ov (OpV.ld kt36 rfl) rfl <| ov (OpV.len Try.underlying36 rfl rdV) rfl <| bn rfl rfl rfl rfl <| nt <| Under.ite h3015 rfl (fun h3015 => ?_) (fun h3015 => ?_)
             ·obtain ⟨x3022, h3023, h3015⟩ := bsome h3015
              obtain ⟨x3024, h3025, h3015⟩ := bsome h3015
              obtain ⟨y3027, h3028, h3015⟩ := bsome h3015
              obtain ⟨x3031, h3030, h3015⟩ := bsome h3015
              refine ct <| sq <| bk <| sr <| ov (OpV.fd fb27_1 rfl rfl) rfl <| ov (OpV.ld kt25 rfl) rfl <| mv rfl rfl <| ov (OpV.ixS h3023 Try.underlying25 sz61 rfl rdV rfl) rfl <| ov (OpV.fd fb61_1 rfl rfl) rfl <| ov (OpV.ld kt36 rfl) rfl <| mv rfl rfl <| ov (OpV.ixS h3025 Try.underlying36 sz43 rfl rdV rfl) rfl <| ov (OpV.ld kt43 rfl) rfl <| Under.al ZT43 rfl fun b3026 => Under.stP (x' := x3024) .box .id sz43_kArr_16_kInt_u8_ rfl rfl rdV rfl <| nl <| Under.frz (t := 15) rfl <| tn <| sr <| mv rfl rfl <| bn rfl rfl rfl rfl <| ag rfl rfl <| nt <| sq <| dw rfl (by kernel_rfl) fun F hF0 => oq (OpV.ld kt27 rfl) rfl <| oq (OpV.ld kt43 rfl) rfl <| oq (OpV.call Try.call21 rfl rfl (fun L => (f_churnref16_Has_ok h3028 L))) rfl <| oq (OpV.not rfl) rfl <| mvq rfl rfl <| runj_17q 208 x3031 ?_ (fun k => ?_)
              ·refine nlq hF0 <| tn <| Under.ite h3015 rfl (fun h3015 => ?_) (fun h3015 => ?_)
               ·refine sr <| ag rfl rfl <| nt <| rc <| Under.bR <| tr ?_
                have e3039 := done_eq h3015 d3016
                subst e3039
                refine tr <| Under.bR <| Under.bR <| tr ?_
                have e3040 := osi h2951
                subst e3040
                have e3041 := done_eq h2854 d2855
                subst e3041
                refine tr <| Under.bR <| tr ?_
                have e3042 := osi h2210
                subst e3042
                have e3043 := osi hF
                subst e3043
                exact Under.rets Try.results9 (.tm rfl .nil) rfl rfl
               ·exact cs <| bN <| tn <| rg <| mv rfl rfl <| bn rfl rfl rfl rfl <| ag rfl rfl <| nl <| Under.next _ () h3015 (s6 rfl rfl rfl rfl rfl rfl) rfl
              ·refine byq (t := 191) rfl (fun c3029 => ?_) (fun c3029 => ?_)
               ·replace h3030 := ctrue c3029 h3030
                obtain ⟨x3032, h3033, h3030⟩ := bsome h3030
                obtain ⟨x3036, h3035, h3030⟩ := bsome h3030
                refine gq c3029 rfl rfl <| oq (OpV.fd fb27_1 rfl rfl) rfl <| gq c3029 rfl rfl <| oq (OpV.ld kt25 rfl) rfl <| gq c3029 rfl rfl <| mvq rfl rfl <| gq c3029 rfl rfl <| oq (OpV.ixS h3033 Try.underlying25 sz61 rfl rdV rfl) rfl <| gq c3029 rfl rfl <| oq (OpV.fd fb61_0 rfl rfl) rfl <| gq c3029 rfl rfl <| oq (OpV.ldI kt2 rfl) rfl <| gq c3029 rfl rfl <| oq (OpV.fd fb52_3 rfl rfl) rfl <| gq c3029 rfl rfl <| oq (OpV.ldI kt2 rfl) rfl <| gq c3029 rfl rfl <| bnq rfl rfl rfl rfl <| gq c3029 rfl rfl <| mvq rfl rfl <| runj_6q 207 x3036 ?_ (fun k => ?_)
                ·exact oq (pkT c3029 rfl rfl) rfl <| rfq 11 (rbq h3030) rfl k
                ·refine byq (t := 201) rfl (fun c3034 => ?_) (fun c3034 => ?_)
                 ·replace h3035 := ctrue c3034 h3035
                  exact skq c3034 rfl rfl rfl <| skq c3034 rfl rfl rfl <| skq c3034 rfl rfl rfl <| skq c3034 rfl rfl rfl <| skq c3034 rfl rfl rfl <| gq c3029 rfl rfl <| oq (pkT c3034 rfl rfl) rfl <| rfq 5 (rbq h3035) rfl k
                 ·replace h3035 := cfalse c3034 h3035
                  obtain ⟨y3037, h3038, h3035⟩ := bsome h3035
                  exact gq c3034 rfl rfl <| oq (OpV.fd fb52_4 rfl rfl) rfl <| gq c3034 rfl rfl <| oq (OpV.ld kt36 rfl) rfl <| gq c3034 rfl rfl <| oq (OpV.ld kt43 rfl) rfl <| gq c3034 rfl rfl <| oq (OpV.call Try.call27 rfl rfl (fun L => (f_churnlaw16_in_ok h3038 L))) rfl <| gq c3034 rfl rfl <| oq (OpV.not rfl) rfl <| gq c3029 rfl rfl <| oq (pkF c3034 rfl rfl) rfl <| rfq 5 (rbq h3035) rfl k
               ·replace h3030 := cfalse c3029 h3030
                exact skq c3029 rfl rfl rfl <| skq c3029 rfl rfl rfl <| skq c3029 rfl rfl rfl <| skq c3029 rfl rfl rfl <| skq c3029 rfl rfl rfl <| skq c3029 rfl rfl rfl <| skq c3029 rfl rfl rfl <| skq c3029 rfl rfl rfl <| skq c3029 rfl rfl rfl <| skq c3029 rfl rfl rfl <| UnderQ.sku rfl rfl rfl <| UnderQ.sku rfl rfl rfl <| UnderQ.sku rfl rfl rfl <| UnderQ.sku rfl rfl rfl <| UnderQ.sku rfl rfl rfl <| skq c3029 rfl rfl rfl <| oq (pkF c3029 rfl rfl) rfl <| rfq 16 (rbq h3030) rfl k
             ·refine xt <| te ?_
              have e3044 := done_eq h3015 d3016
              subst e3044
              exact te <| bh <| bN <| tn <| wk (k2952 _ (osi h2951).symm) (s5 rfl rfl rfl rfl rfl)
           ·refine xt <| te ?_
            have e3050 := done_eq h2854 d2855
            subst e3050
            exact te <| bh <| tn <| wk (k2211 _ (osi h2210).symm) (s4 rfl rfl rfl rfl)
        ·refine by_ (t := 151) rfl (fun c1438 => ?_) (fun c1438 => ?_)
         ·exact sk c1438 rfl rfl rfl <| sk c1438 rfl rfl rfl <| sk c1438 rfl rfl rfl <| sk c1438 rfl rfl rfl <| sk c1438 rfl rfl rfl <| ov (pkT c1438 rfl rfl) rfl <| rf 5 (or_t (e := y1420.1.Newest != x1416.Newest) c1438) rfl k
         ·exact gc c1438 rfl rfl <| ov (OpV.fd fb27_0 rfl rfl) rfl <| gc c1438 rfl rfl <| ov (OpV.ldI kt2 rfl) rfl <| gc c1438 rfl rfl <| ov (OpV.fd fb27_0 rfl rfl) rfl <| gc c1438 rfl rfl <| ov (OpV.ldI kt2 rfl) rfl <| gc c1438 rfl rfl <| bn rfl rfl rfl rfl <| ov (pkF c1438 rfl rfl) rfl <| rf 5 (or_f c1438) rfl k
       ·refine by_ (t := 142) rfl (fun c1433 => ?_) (fun c1433 => ?_)
        ·replace h1434 := ctrue c1433 h1434
         obtain ⟨y1436, h1437, h1434⟩ := bsome h1434
         exact gc c1433 rfl rfl <| ov (OpV.ld kt27 rfl) rfl <| gc c1433 rfl rfl <| ov (OpV.fd fb52_1 rfl rfl) rfl <| gc c1433 rfl rfl <| ov (OpV.ldI kt3 rfl) rfl <| gc c1433 rfl rfl <| ov (OpV.fd fb52_2 rfl rfl) rfl <| gc c1433 rfl rfl <| ov (OpV.ldI kt3 rfl) rfl <| gc c1433 rfl rfl <| Under.call Try.call17 rfl rfl (f_churnref16_Check_ok h1437 _) rfl <| gc c1433 rfl rfl <| bn rfl rfl rfl rfl <| ov (pkT c1433 rfl rfl) rfl <| rf 7 (rbq h1434) rfl k
        ·replace h1434 := cfalse c1433 h1434
         exact sk c1433 rfl rfl rfl <| sk c1433 rfl rfl rfl <| sk c1433 rfl rfl rfl <| sk c1433 rfl rfl rfl <| sk c1433 rfl rfl rfl <| sk c1433 rfl rfl rfl <| sk c1433 rfl rfl rfl <| ov (pkF c1433 rfl rfl) rfl <| rf 7 (rbq h1434) rfl k
     ·intro K k1419
      refine sr <| mv rfl rfl <| bn rfl rfl rfl rfl <| nt <| Under.ite h1418 rfl (fun h1418 => ?_) (fun h1418 => ?_)
      ·obtain ⟨y3056, h3057, h1418⟩ := bsome h1418
       refine Under.frz (t := 3) rfl <| sq <| sr <| ov (OpV.ld kt27 rfl) rfl <| ov (OpV.fd fb52_1 rfl rfl) rfl <| ov (OpV.ldI kt3 rfl) rfl <| ov (OpV.fd fb52_2 rfl rfl) rfl <| ov (OpV.ldI kt3 rfl) rfl <| Under.call Try.call17 rfl rfl (f_churnref16_Check_ok h3057 _) rfl <| bn rfl rfl rfl rfl <| mv rfl rfl <| runj_10 62 ((y3056 != 0) || (y10.1.Newest != (max a0.W.Newest a0.Epoch))) ?_ (fun k => ?_)
       ·refine nt <| Under.ite h1418 rfl (fun h1418 => ?_) (fun h1418 => ?_)
        ·refine sr <| ag rfl rfl <| nt <| rt <| tr ?_
         have e3061 := osi h1418
         subst e3061
         have e3062 := osi hF
         subst e3062
         exact Under.rets Try.results9 (.tm rfl .nil) rfl rfl
        ·obtain ⟨r3758, h3759, h1418⟩ := bsome h1418
         refine ct <| sr <| ag rfl rfl <| nt <| sq <| Under.after (fun X => ∀ (x3757 : Int), r3758 = (.inr x3757) → Under F0 240 [(1, .ptr kChurnlaw16_Job a0), (3, .ptr kApi_Window y10.1), (4, .raw (.int .i64 y10.2)), (5, .raw (.int .i64 x3757))] (L) X) ?_ ?_
         ·intro x3757 h4465
          replace h4465 := h4465.symm
          subst h4465
          obtain ⟨y3761, h3762, h1418⟩ := bsome h1418
          refine sr <| ov (OpV.ld kt27 rfl) rfl <| Under.call Try.call18 rfl rfl (f_window_Len_ok h3762 _) rfl <| mv rfl rfl <| bn rfl rfl rfl rfl <| nt <| Under.ite h1418 rfl (fun h1418 => ?_) (fun h1418 => ?_)
          ·refine sr <| ag rfl rfl <| nt <| rt ?_
           have e3763 := osi h1418
           subst e3763
           have e3764 := osi hF
           subst e3764
           exact Under.rets Try.results9 (.tm rfl .nil) rfl rfl
          ·exact ct <| wk (k1419 _ (osi h1418).symm) (s3 rfl rfl rfl)
         ·intro K k3760
          obtain ⟨r4283, h4284, h3759⟩ := bsome h3759
          refine sr <| ag rfl rfl <| nt <| bk <| Under.loop (S := (Int × Int)) (C := Unit) () (fun (x4462 : (Int × Int)) (q4463 : Unit) => [(1, .ptr kChurnlaw16_Job a0), (3, .ptr kApi_Window y10.1), (4, .raw (.int .i64 y10.2)), (5, .raw (.int .i64 x4462.1)), (6, .raw (.int .i64 x4462.2))]) (fun (x4462 : (Int × Int)) (q4463 : Unit) => L) h4284 (s5 rfl rfl rfl rfl rfl) rfl (fun x4462 q4463 o4285 h4281 d4282 => ?_)
          obtain ⟨x4108, x4109⟩ := x4462
          dsimp only at h4281 ⊢
          refine sq <| sr <| mv rfl rfl <| ov (OpV.fd fb52_0 rfl rfl) rfl <| ov (OpV.fd fb27_1 rfl rfl) rfl <| ov (OpV.ld kt25 rfl) rfl <| ov (OpV.len Try.underlying25 rfl rdV) rfl <| bn rfl rfl rfl rfl <| nt <| Under.ite h4281 rfl (fun h4281 => ?_) (fun h4281 => ?_)
          ·obtain ⟨r4368, h4369, h4281⟩ := bsome h4281
           refine ct <| sq <| Under.after (fun X => ∀ (x4367 : Int), r4368 = (.inr x4367) → Under F0 240 [(1, .ptr kChurnlaw16_Job a0), (3, .ptr kApi_Window y10.1), (4, .raw (.int .i64 y10.2)), (5, .raw (.int .i64 x4367)), (6, .raw (.int .i64 x4109))] (L) X) ?_ ?_
           ·intro x4367 h4459
            replace h4459 := h4459.symm
            subst h4459
            exact rg <| mv rfl rfl <| bn rfl rfl rfl rfl <| ag rfl rfl <| nl <| Under.next _ () h4281 (s5 rfl rfl rfl rfl rfl) rfl
           ·intro K k4370
            obtain ⟨x4371, h4372, h4369⟩ := bsome h4369
            obtain ⟨r4429, h4430, h4369⟩ := bsome h4369
            refine bk <| sr <| ov (OpV.fd fb52_0 rfl rfl) rfl <| ov (OpV.fd fb27_1 rfl rfl) rfl <| ov (OpV.ld kt25 rfl) rfl <| mv rfl rfl <| ov (OpV.ixS h4372 Try.underlying25 sz61 rfl rdV rfl) rfl <| ov (OpV.ld kt61 rfl) rfl <| Under.al ZT61 rfl fun b4373 => Under.stP (x' := x4371) .box .id sz61_kApi_Epoch rfl rfl rdV rfl <| nl <| Under.frz (t := 7) rfl <| tn <| sr <| ov (OpV.fd fb61_0 rfl rfl) rfl <| ov (OpV.ldI kt2 rfl) rfl <| ov (OpV.fd fb27_0 rfl rfl) rfl <| ov (OpV.ldI kt2 rfl) rfl <| ov (OpV.fd fb52_1 rfl rfl) rfl <| ov (OpV.ldI kt3 rfl) rfl <| bn rfl rfl rfl rfl <| bn rfl rfl rfl rfl <| ag rfl rfl <| ns <| ag rfl rfl <| nt <| bk <| Under.loop (S := (Int × Int)) (C := Unit) () (fun (x4456 : (Int × Int)) (q4457 : Unit) => [(1, .ptr kChurnlaw16_Job a0), (3, .ptr kApi_Window y10.1), (4, .raw (.int .i64 y10.2)), (5, .raw (.int .i64 x4456.1)), (6, .raw (.int .i64 x4109)), (7, .ptr kApi_Epoch x4371), (8, .raw (.bool (decide (x4371.Number > (IntKind.wrap .i64 (y10.1.Newest - a0.Span)))))), (9, .raw (.int .i64 x4456.2))]) (fun (x4456 : (Int × Int)) (q4457 : Unit) => L) h4430 (s8 rfl rfl rfl rfl rfl rfl rfl rfl) rfl (fun x4456 q4457 o4431 h4427 d4428 => ?_)
            obtain ⟨x4408, x4409⟩ := x4456
            dsimp only at h4427 ⊢
            refine sq <| sr <| mv rfl rfl <| ov (OpV.fd fb61_1 rfl rfl) rfl <| ov (OpV.ld kt36 rfl) rfl <| ov (OpV.len Try.underlying36 rfl rdV) rfl <| bn rfl rfl rfl rfl <| nt <| Under.ite h4427 rfl (fun h4427 => ?_) (fun h4427 => ?_)
            ·obtain ⟨r4437, h4438, h4427⟩ := bsome h4427
             refine ct <| sq <| Under.after (fun X => ∀ (x4436 : Int), r4437 = (.inr x4436) → Under F0 240 [(1, .ptr kChurnlaw16_Job a0), (3, .ptr kApi_Window y10.1), (4, .raw (.int .i64 y10.2)), (5, .raw (.int .i64 x4436)), (6, .raw (.int .i64 x4109)), (7, .ptr kApi_Epoch x4371), (8, .raw (.bool (decide (x4371.Number > (IntKind.wrap .i64 (y10.1.Newest - a0.Span)))))), (9, .raw (.int .i64 x4409))] (L) X) ?_ ?_
             ·intro x4436 h4453
              replace h4453 := h4453.symm
              subst h4453
              exact rg <| mv rfl rfl <| bn rfl rfl rfl rfl <| ag rfl rfl <| nl <| Under.next _ () h4427 (s8 rfl rfl rfl rfl rfl rfl rfl rfl) rfl
             ·intro K k4439
              obtain ⟨x4440, h4441, h4438⟩ := bsome h4438
              obtain ⟨y4442, h4443, h4438⟩ := bsome h4438
              refine bk <| sq <| sq <| dw rfl (by kernel_rfl) fun F hF0 => oq (OpV.ld kt27 rfl) rfl <| oq (OpV.fd fb61_1 rfl rfl) rfl <| oq (OpV.ld kt36 rfl) rfl <| mvq rfl rfl <| oq (OpV.ixS h4441 Try.underlying36 sz43 rfl rdV rfl) rfl <| oq (OpV.ld kt43 rfl) rfl <| oq (OpV.call Try.call20 rfl rfl (fun L => (f_window_Has_ok h4443 L))) rfl <| mvq rfl rfl <| oq (OpV.eqBn Try.underlying4 rfl rfl) rfl <| nlq hF0 <| tn <| Under.ite h4438 rfl (fun h4438 => ?_) (fun h4438 => ?_)
              ·refine sr <| ag rfl rfl <| nt <| rt <| Under.bR <| tr ?_
               have e4444 := osi h4438
               subst e4444
               have e4445 := done_eq h4427 d4428
               subst e4445
               refine tr <| Under.bR <| Under.bR <| tr ?_
               have e4446 := osi h4369
               subst e4446
               have e4447 := done_eq h4281 d4282
               subst e4447
               refine tr <| Under.bR <| tr ?_
               have e4448 := osi h3759
               subst e4448
               refine tr ?_
               have e4449 := osi h1418
               subst e4449
               have e4450 := osi hF
               subst e4450
               exact Under.rets Try.results9 (.tm rfl .nil) rfl rfl
              ·refine ct <| sr <| mv rfl rfl <| nt <| Under.ite h4438 rfl (fun h4438 => ?_) (fun h4438 => ?_)
               ·exact rg <| mv rfl rfl <| bn rfl rfl rfl rfl <| ag rfl rfl <| nl <| bN <| tn <| wk (k4439 _ (osi h4438).symm) (s8 rfl rfl rfl rfl rfl rfl rfl rfl)
               ·exact cs <| bN <| tn <| wk (k4439 _ (osi h4438).symm) (s8 rfl rfl rfl rfl rfl rfl rfl rfl)
            ·refine xt <| te ?_
             have e4454 := done_eq h4427 d4428
             subst e4454
             exact te <| bh <| bN <| tn <| wk (k4370 _ (osi h4369).symm) (s5 rfl rfl rfl rfl rfl)
          ·refine xt <| te ?_
           have e4460 := done_eq h4281 d4282
           subst e4460
           exact te <| bh <| tn <| wk (k3760 _ (osi h3759).symm) (s4 rfl rfl rfl rfl)
       ·refine by_ (t := 52) rfl (fun c3058 => ?_) (fun c3058 => ?_)
        ·exact sk c3058 rfl rfl rfl <| sk c3058 rfl rfl rfl <| sk c3058 rfl rfl rfl <| sk c3058 rfl rfl rfl <| sk c3058 rfl rfl rfl <| sk c3058 rfl rfl rfl <| sk c3058 rfl rfl rfl <| sk c3058 rfl rfl rfl <| sk c3058 rfl rfl rfl <| ov (pkT c3058 rfl rfl) rfl <| rf 9 (or_t (e := y10.1.Newest != (max a0.W.Newest a0.Epoch)) c3058) rfl k
        ·exact gc c3058 rfl rfl <| ov (OpV.fd fb27_0 rfl rfl) rfl <| gc c3058 rfl rfl <| ov (OpV.ldI kt2 rfl) rfl <| gc c3058 rfl rfl <| ov (OpV.fd fb52_0 rfl rfl) rfl <| gc c3058 rfl rfl <| ov (OpV.fd fb27_0 rfl rfl) rfl <| gc c3058 rfl rfl <| ov (OpV.ldI kt2 rfl) rfl <| gc c3058 rfl rfl <| ov (OpV.fd fb52_3 rfl rfl) rfl <| gc c3058 rfl rfl <| ov (OpV.ldI kt2 rfl) rfl <| gc c3058 rfl rfl <| ov (OpV.max2 rfl rfl) rfl <| gc c3058 rfl rfl <| bn rfl rfl rfl rfl <| ov (pkF c3058 rfl rfl) rfl <| rf 9 (or_f c3058) rfl k
      ·exact rg <| ov (OpV.fd fb52_0 rfl rfl) rfl <| ov (OpV.ld kt27 rfl) rfl <| Under.stP (x' := a0.W) .box .id sz27_kApi_Window rfl rfl rdV rfl <| nl <| Under.frz (t := 3) rfl <| tn <| wk (k1419 _ (osi h1418).symm) (s3 rfl rfl rfl)
   ·refine by_ (t := 27) rfl (fun c6 => ?_) (fun c6 => ?_)
    ·exact sk c6 rfl rfl rfl <| sk c6 rfl rfl rfl <| sk c6 rfl rfl rfl <| sk c6 rfl rfl rfl <| ov (pkT c6 rfl rfl) rfl <| rf 4 (or_t (e := decide ((a0.Tags.length : Int) > 2000)) c6) rfl k
    ·exact gc c6 rfl rfl <| ov (OpV.fd fb52_4 rfl rfl) rfl <| gc c6 rfl rfl <| ov (OpV.ld kt36 rfl) rfl <| gc c6 rfl rfl <| ov (OpV.len Try.underlying36 rfl rdV) rfl <| gc c6 rfl rfl <| bn rfl rfl rfl rfl <| ov (pkF c6 rfl rfl) rfl <| rf 4 (or_f c6) rfl k
/-- churn/churnlaw16.WindowPieces -/
noncomputable def f_churnlaw16_WindowPieces (a0 : Churnlaw16_Job) : Option Bool :=
  (f_churnlaw16_alive).bind fun y1 =>
  bif !y1 then
    some false
  else
    (app [] a0.Tags).bind fun z6 =>
    (app z6 a0.More).bind fun z9 =>
    (app [] a0.More).bind fun z14 =>
    (app z14 a0.Tags).bind fun z17 =>
    (f_window_Add a0.W a0.Epoch z9 a0.Room).bind fun y20 =>
    (f_window_Add a0.W a0.Epoch z17 a0.Room).bind fun y23 =>
    (f_window_Add a0.W a0.Epoch a0.Tags a0.Room).bind fun y26 =>
    (f_window_Add y26.1 a0.Epoch a0.More a0.Room).bind fun y29 =>
    ((bif y20.2 != y23.2 then
      some true
    else
      (f_churnlaw16_same y20.1 y23.1).bind fun y35 =>
      some (!y35)
      : Option Bool)).bind fun x34 =>
    bif x34 then
      some false
    else
      bif y26.2 != 0 then
        some (y20.2 == y26.2)
      else
        ((bif y29.2 == y20.2 then
          (f_churnlaw16_same y29.1 y20.1).bind fun y42 =>
          some y42
        else
          some false
          : Option Bool)).bind fun x41 =>
        some x41
theorem f_churnlaw16_WindowPieces_ok {a0 : Churnlaw16_Job} {r0 : Bool} (hF : f_churnlaw16_WindowPieces a0 = some r0) (L : List Res) : Ok Try.prog 10 [SV.val kChurnlaw16_Job a0] (L) (SV.raw (.bool r0)) (L) := by
  unfold f_churnlaw16_WindowPieces at hF
  refine Ok.intro 96 [(0, .val kChurnlaw16_Job a0)] Try.func10 rfl rfl rfl rfl (fun F0 => ?_)
  obtain ⟨y1, h2, hF⟩ := bsome hF
  refine sr <| Under.bxF (K := kChurnlaw16_Job) rfl rdV rfl <| ag rfl rfl <| nt <| sq <| sr <| Under.call Try.call15 rfl rfl (f_churnlaw16_alive_ok h2 _) rfl <| ov (OpV.not rfl) rfl <| nt <| Under.ite hF rfl (fun hF => ?_) (fun hF => ?_)
  ·refine sr <| ag rfl rfl <| nt <| rt ?_
   have e3 := osi hF
   subst e3
   exact Under.rets Try.results10 (.tm rfl .nil) rfl rfl
  ·obtain ⟨z6, h7, hF⟩ := bsome hF
   obtain ⟨z9, h10, hF⟩ := bsome hF
   refine ct <| sq <| Under.phases rfl <| Under.grpT (L := L) [0, 1, 2, 3, 4, 5, 6, 7] [[], [1], [16], [15, 17], [1], [19], [18, 20], [21]] [⟨sk1 0 (fun u0 => .raw u0), [], [(0, tk1 0 (fun u0 => .own K1 u0 43 []))]⟩, ⟨sk0 (.ptr K0 a0.Tags), [], []⟩, ⟨sk0 (.val K0 a0.Tags), [], []⟩, ⟨sk1 3 (fun u3 => .raw u3), [0], [(1, tk1 3 (fun u3 => .own K1 u3 43 z6))]⟩, ⟨sk0 (.ptr K0 a0.More), [], []⟩, ⟨sk0 (.val K0 a0.More), [], []⟩, ⟨sk1 6 (fun u6 => .raw u6), [1], [(2, tk1 6 (fun u6 => .own K1 u6 43 z9))]⟩, ⟨sk1 6 (fun u6 => .raw u6), [], []⟩] [] (fun T : List Res => T) lf0 rfl (by kernel_rfl) rfl rfl (fun F hF0 bs4 => ?_)
   refine Tq.st (.raw (bs4 0)) [] rfl rfl (fun G T hG => ?_) ?_
   ·exact Under.bsO (ys := []) Try.underlying36 ET43 (BldA.nil _) rfl rfl fun v5 => Tq.end v5 rfl rfl
   refine Tq.v (fun G T hG => ?_) ?_
   ·exact ov (OpV.fd fb52_4 rfl rfl) rfl <| Tq.end undef rfl rfl
   refine Tq.v (fun G T hG => ?_) ?_
   ·exact ov (OpV.ld kt36 rfl) rfl <| Tq.end undef rfl rfl
   refine Tq.st (.raw (bs4 3)) [.own K1 (bs4 0) 43 []] rfl rfl (fun G T hG => ?_) ?_
   ·exact Under.app h7 Try.underlying36 AT43 rfl rfl rdV rfl fun v8 => Tq.end v8 rfl rfl
   refine Tq.v (fun G T hG => ?_) ?_
   ·exact ov (OpV.fd fb52_5 rfl rfl) rfl <| Tq.end undef rfl rfl
   refine Tq.v (fun G T hG => ?_) ?_
   ·exact ov (OpV.ld kt36 rfl) rfl <| Tq.end undef rfl rfl
   refine Tq.st (.raw (bs4 6)) [.own K1 (bs4 3) 43 z6] rfl rfl (fun G T hG => ?_) ?_
   ·exact Under.app h10 Try.underlying36 AT43 rfl rfl rdV rfl fun v11 => Tq.end v11 rfl rfl
   refine Tq.st (.raw (bs4 6)) [] rfl rfl (fun G T hG => ?_) ?_
   ·exact ag rfl rfl <| Tq.end undef rfl rfl
   obtain ⟨z14, h15, hF⟩ := bsome hF
   obtain ⟨z17, h18, hF⟩ := bsome hF
   refine Tq.nil <| Under.le hF0 <| Under.pdone rfl <| Under.frzO (t := 3) rfl <| tn <| sq <| Under.phases rfl <| Under.grpT (L := L) [0, 1, 2, 3, 4, 5, 6, 7] [[], [1], [23], [22, 24], [1], [26], [25, 27], [28]] [⟨sk1 0 (fun u0 => .raw u0), [], [(0, tk1 0 (fun u0 => .own K1 u0 43 []))]⟩, ⟨sk0 (.ptr K0 a0.More), [], []⟩, ⟨sk0 (.val K0 a0.More), [], []⟩, ⟨sk1 3 (fun u3 => .raw u3), [0], [(1, tk1 3 (fun u3 => .own K1 u3 43 z14))]⟩, ⟨sk0 (.ptr K0 a0.Tags), [], []⟩, ⟨sk0 (.val K0 a0.Tags), [], []⟩, ⟨sk1 6 (fun u6 => .raw u6), [1], [(2, tk1 6 (fun u6 => .own K1 u6 43 z17))]⟩, ⟨sk1 6 (fun u6 => .raw u6), [], []⟩] [] (fun T : List Res => T) lf0 rfl (by kernel_rfl) rfl rfl (fun F hF0 bs12 => ?_)
   refine Tq.st (.raw (bs12 0)) [] rfl rfl (fun G T hG => ?_) ?_
   ·exact Under.bsO (ys := []) Try.underlying36 ET43 (BldA.nil _) rfl rfl fun v13 => Tq.end v13 rfl rfl
   refine Tq.v (fun G T hG => ?_) ?_
   ·exact ov (OpV.fd fb52_5 rfl rfl) rfl <| Tq.end undef rfl rfl
   refine Tq.v (fun G T hG => ?_) ?_
   ·exact ov (OpV.ld kt36 rfl) rfl <| Tq.end undef rfl rfl
   refine Tq.st (.raw (bs12 3)) [.own K1 (bs12 0) 43 []] rfl rfl (fun G T hG => ?_) ?_
   ·exact Under.app h15 Try.underlying36 AT43 rfl rfl rdV rfl fun v16 => Tq.end v16 rfl rfl
   refine Tq.v (fun G T hG => ?_) ?_
   ·exact ov (OpV.fd fb52_4 rfl rfl) rfl <| Tq.end undef rfl rfl
   refine Tq.v (fun G T hG => ?_) ?_
   ·exact ov (OpV.ld kt36 rfl) rfl <| Tq.end undef rfl rfl
   refine Tq.st (.raw (bs12 6)) [.own K1 (bs12 3) 43 z14] rfl rfl (fun G T hG => ?_) ?_
   ·exact Under.app h18 Try.underlying36 AT43 rfl rfl rdV rfl fun v19 => Tq.end v19 rfl rfl
   refine Tq.st (.raw (bs12 6)) [] rfl rfl (fun G T hG => ?_) ?_
   ·exact ag rfl rfl <| Tq.end undef rfl rfl
   obtain ⟨y20, h21, hF⟩ := bsome hF
   obtain ⟨y23, h24, hF⟩ := bsome hF
   obtain ⟨y26, h27, hF⟩ := bsome hF
   obtain ⟨y29, h30, hF⟩ := bsome hF
   obtain ⟨x34, h33, hF⟩ := bsome hF
   refine Tq.nil <| Under.le hF0 <| Under.pdone rfl <| Under.frzO (t := 4) rfl <| tn <| sr <| ov (OpV.fd fb52_0 rfl rfl) rfl <| ov (OpV.ld kt27 rfl) rfl <| ov (OpV.fd fb52_3 rfl rfl) rfl <| ov (OpV.ldI kt2 rfl) rfl <| mv rfl rfl <| ov (OpV.fd fb52_2 rfl rfl) rfl <| ov (OpV.ldI kt3 rfl) rfl <| Under.call Try.call26 rfl rfl (f_window_Add_ok h21 _) rfl <| mv rfl rfl <| ov (OpV.extr rfl rfl) rfl <| ov (OpV.extr rfl rfl) rfl <| Under.al ZT27 rfl fun b22 => Under.stP (x' := y20.1) .box .id sz27_kApi_Window rfl rfl rdV rfl <| ag rfl rfl <| nl <| Under.frz (t := 5) rfl <| tn <| sr <| ov (OpV.fd fb52_0 rfl rfl) rfl <| ov (OpV.ld kt27 rfl) rfl <| ov (OpV.fd fb52_3 rfl rfl) rfl <| ov (OpV.ldI kt2 rfl) rfl <| mv rfl rfl <| ov (OpV.fd fb52_2 rfl rfl) rfl <| ov (OpV.ldI kt3 rfl) rfl <| Under.call Try.call26 rfl rfl (f_window_Add_ok h24 _) rfl <| mv rfl rfl <| ov (OpV.extr rfl rfl) rfl <| ov (OpV.extr rfl rfl) rfl <| Under.al ZT27 rfl fun b25 => Under.stP (x' := y23.1) .box .id sz27_kApi_Window rfl rfl rdV rfl <| ag rfl rfl <| nl <| Under.frz (t := 7) rfl <| tn <| sr <| ov (OpV.fd fb52_0 rfl rfl) rfl <| ov (OpV.ld kt27 rfl) rfl <| ov (OpV.fd fb52_3 rfl rfl) rfl <| ov (OpV.ldI kt2 rfl) rfl <| ov (OpV.fd fb52_4 rfl rfl) rfl <| ov (OpV.ld kt36 rfl) rfl <| ov (OpV.fd fb52_2 rfl rfl) rfl <| ov (OpV.ldI kt3 rfl) rfl <| Under.call Try.call26 rfl rfl (f_window_Add_ok h27 _) rfl <| mv rfl rfl <| ov (OpV.extr rfl rfl) rfl <| ov (OpV.extr rfl rfl) rfl <| Under.al ZT27 rfl fun b28 => Under.stP (x' := y26.1) .box .id sz27_kApi_Window rfl rfl rdV rfl <| ag rfl rfl <| nl <| Under.frz (t := 9) rfl <| tn <| sr <| ov (OpV.ld kt27 rfl) rfl <| ov (OpV.fd fb52_3 rfl rfl) rfl <| ov (OpV.ldI kt2 rfl) rfl <| ov (OpV.fd fb52_5 rfl rfl) rfl <| ov (OpV.ld kt36 rfl) rfl <| ov (OpV.fd fb52_2 rfl rfl) rfl <| ov (OpV.ldI kt3 rfl) rfl <| Under.call Try.call26 rfl rfl (f_window_Add_ok h30 _) rfl <| mv rfl rfl <| ov (OpV.extr rfl rfl) rfl <| ov (OpV.extr rfl rfl) rfl <| Under.al ZT27 rfl fun b31 => Under.stP (x' := y29.1) .box .id sz27_kApi_Window rfl rfl rdV rfl <| ag rfl rfl <| nl <| Under.frz (t := 11) rfl <| tn <| sq <| sr <| mv rfl rfl <| mv rfl rfl <| bn rfl rfl rfl rfl <| mv rfl rfl <| runj_5 82 x34 ?_ (fun k => ?_)
   ·refine nt <| Under.ite hF rfl (fun hF => ?_) (fun hF => ?_)
    ·refine sr <| ag rfl rfl <| nt <| rt ?_
     have e37 := osi hF
     subst e37
     exact Under.rets Try.results10 (.tm rfl .nil) rfl rfl
    ·refine ct <| sq <| sr <| mv rfl rfl <| bn rfl rfl rfl rfl <| nt <| Under.ite hF rfl (fun hF => ?_) (fun hF => ?_)
     ·refine sr <| mv rfl rfl <| mv rfl rfl <| bn rfl rfl rfl rfl <| ag rfl rfl <| nt <| rt ?_
      have e38 := osi hF
      subst e38
      exact Under.rets Try.results10 (.tm rfl .nil) rfl rfl
     ·obtain ⟨x41, h40, hF⟩ := bsome hF
      refine ct <| sr <| mv rfl rfl <| mv rfl rfl <| bn rfl rfl rfl rfl <| mv rfl rfl <| runj_4 95 x41 ?_ (fun k => ?_)
      ·refine ag rfl rfl <| nt <| rc ?_
       have e44 := osi hF
       subst e44
       exact Under.rets Try.results10 (.tm rfl .nil) rfl rfl
      ·refine by_ (t := 91) rfl (fun c39 => ?_) (fun c39 => ?_)
       ·replace h40 := ctrue c39 h40
        obtain ⟨y42, h43, h40⟩ := bsome h40
        exact gc c39 rfl rfl <| ov (OpV.ld kt27 rfl) rfl <| gc c39 rfl rfl <| ov (OpV.ld kt27 rfl) rfl <| gc c39 rfl rfl <| Under.call Try.call24 rfl rfl (f_churnlaw16_same_ok h43 _) rfl <| ov (pkT c39 rfl rfl) rfl <| rf 3 (rbq h40) rfl k
       ·replace h40 := cfalse c39 h40
        exact sk c39 rfl rfl rfl <| sk c39 rfl rfl rfl <| sk c39 rfl rfl rfl <| ov (pkF c39 rfl rfl) rfl <| rf 3 (rbq h40) rfl k
   ·refine by_ (t := 77) rfl (fun c32 => ?_) (fun c32 => ?_)
    ·replace h33 := ctrue c32 h33
     exact sk c32 rfl rfl rfl <| sk c32 rfl rfl rfl <| sk c32 rfl rfl rfl <| sk c32 rfl rfl rfl <| ov (pkT c32 rfl rfl) rfl <| rf 4 (rbq h33) rfl k
    ·replace h33 := cfalse c32 h33
     obtain ⟨y35, h36, h33⟩ := bsome h33
     exact gc c32 rfl rfl <| ov (OpV.ld kt27 rfl) rfl <| gc c32 rfl rfl <| ov (OpV.ld kt27 rfl) rfl <| gc c32 rfl rfl <| Under.call Try.call24 rfl rfl (f_churnlaw16_same_ok h36 _) rfl <| gc c32 rfl rfl <| ov (OpV.not rfl) rfl <| ov (pkF c32 rfl rfl) rfl <| rf 4 (rbq h33) rfl k
end Go.Proofs.Ytgllljocmpbooaa

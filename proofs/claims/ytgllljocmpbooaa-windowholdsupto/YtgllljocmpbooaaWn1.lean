/- PRINTED BY gen2.py (of this repo): functions of the program in Lean, and that the machine follows them. -/
import Derived.Test.YtgllljocmpbooaaWn0
set_option linter.unusedVariables false
set_option linter.unusedSimpArgs false
set_option maxRecDepth 20000
namespace Go.Proofs.Ytgllljocmpbooaa
open Go Go.Sim Go.ChangeShapes Go.WideShapes Go.ChangeAt Go.RowKit
/-- churn/churnlaw16.tag -/
noncomputable def f_churnlaw16_tag (a0 : Int) : Option (List Int) :=
  (((Loop.run (S := (Int × (List Int))) (R := (List Int)) (fun (x35, x36) =>
      bif decide (x35 < 16) then
        (idx x36 x35).bind fun x45 =>
        some (.next (IntKind.wrap .i64 (x35 + 1), List.set x36 (Int.toNat x35) a0))
      else
        some (.done x36)) (0, (List.replicate 16 0))).bind fun x39 =>
  some x39
    : Option (List Int))).bind fun x24 =>
  some x24
theorem f_churnlaw16_tag_ok {a0 : Int} {r0 : (List Int)} (hF : f_churnlaw16_tag a0 = some r0) (L : List Res) : Ok Try.prog 29 [SV.raw (.int .u8 a0)] (L) (SV.val K1 r0) (L) := by
  unfold f_churnlaw16_tag at hF
  refine Ok.intro 13 [(0, .raw (.int .u8 a0))] Try.func29 rfl rfl rfl rfl (fun F0 => ?_)
  obtain ⟨r25, h26, hF⟩ := bsome hF
  refine sr <| Under.al ZT43 rfl fun b1 => ns <| Under.al ZT43 rfl fun b2 => nt <| sq <| Under.after (fun X => ∀ (x24 : List Int), r25 = x24 → Under F0 13 [(2, .raw (.pointer (some ⟨b1, 0, none⟩))), (3, .ptr K1 x24)] ((.box K1 b1 43 (List.replicate 16 0)) :: L) X) ?_ ?_
  ·intro x24 h52
   replace h52 := h52.symm
   subst h52
   refine sr <| ov (OpV.ld kt43 rfl) rfl <| Under.stP (x' := x24) .box .id sz43_kArr_16_kInt_u8_ rfl rfl rdV rfl <| nl <| Under.frz (t := 2) rfl <| tn <| rc ?_
   have e28 := osi hF
   subst e28
   exact Under.rets Try.results29 (.ce rfl kt43 .nil) rfl rfl
  ·intro K k27
   obtain ⟨r42, h43, h26⟩ := bsome h26
   refine sr <| ag rfl rfl <| nt <| bk <| Under.fo1 <| Under.loop (S := (Int × (List Int))) (C := Unit) () (fun (x49 : (Int × (List Int))) (q50 : Unit) => [(0, .raw (.int .u8 a0)), (2, .raw (.pointer (some ⟨b1, 0, none⟩))), (3, .raw (.pointer (some ⟨b2, 0, none⟩))), (4, .raw (.int .i64 x49.1))]) (fun (x49 : (Int × (List Int))) (q50 : Unit) => (.box K1 b1 43 (List.replicate 16 0)) :: (.box K1 b2 43 x49.2) :: L) h43 (s4 rfl rfl rfl rfl) rfl (fun x49 q50 o44 h40 d41 => ?_)
   obtain ⟨x35, x36⟩ := x49
   dsimp only at h40 ⊢
   refine sq <| sr <| mv rfl rfl <| bn rfl rfl rfl rfl <| nt <| Under.ite h40 rfl (fun h40 => ?_) (fun h40 => ?_)
   ·obtain ⟨x45, h46, h40⟩ := bsome h40
    exact ct <| sq <| bk <| rg <| mv rfl rfl <| mv rfl rfl <| Under.fo1 <| ov (OpV.ixP .box .id h46 Try.underlying43 sz5_kInt_u8 rfl rfl) rfl <| Under.stP (x' := List.set x36 (Int.toNat x35) a0) .box (.ix .id h46) sz5_kInt_u8 rfl rfl rdI rfl <| nl <| bN <| tn <| rg <| mv rfl rfl <| bn rfl rfl rfl rfl <| ag rfl rfl <| nl <| Under.fo1 <| Under.next _ () h40 (s4 rfl rfl rfl rfl) rfl
   ·refine Under.fo1 <| Under.frz (t := 3) rfl <| xt <| te ?_
    have e47 := done_eq h40 d41
    subst e47
    exact te <| bh <| tn <| wk (k27 _ (osi h26).symm) (s2 rfl rfl)
/-- churn/churnlaw16.some -/
noncomputable def f_churnlaw16_some  : Option Api_Window :=
  (f_churnlaw16_tag 97).bind fun y2 =>
  (f_churnlaw16_tag 99).bind fun y4 =>
  (f_churnlaw16_tag 98).bind fun y6 =>
  some (⟨5, [(⟨4, [y2, y4]⟩ : Api_Epoch), (⟨5, [y6]⟩ : Api_Epoch)]⟩ : Api_Window)
theorem f_churnlaw16_some_ok  {r0 : Api_Window} (hF : f_churnlaw16_some = some r0) (L : List Res) : Ok Try.prog 34 [] (L) (SV.val kApi_Window r0) (L) := by
  unfold f_churnlaw16_some at hF
  refine Ok.intro 10 [] Try.func34 rfl rfl rfl rfl (fun F0 => ?_)
  obtain ⟨y2, h3, hF⟩ := bsome hF
  obtain ⟨y4, h5, hF⟩ := bsome hF
  obtain ⟨y6, h7, hF⟩ := bsome hF
  refine sr <| Under.al ZT27 rfl fun b1 => ns <| Under.call Try.call29 rfl rfl (f_churnlaw16_tag_ok h3 _) rfl <| Under.call Try.call29 rfl rfl (f_churnlaw16_tag_ok h5 _) rfl <| Under.bsF (ys := [y2, y4]) Try.underlying36 ET43 (BldA.cons rfl rfl rdV (BldA.cons rfl rfl rdV (BldA.nil _))) rfl rfl <| ov (OpV.bst BT61 (Bld.cons (x' := (⟨4, []⟩ : Api_Epoch)) rfl rfl rdI (by intro q hq; simp only [List.mem_cons, List.not_mem_nil, or_false] at hq; rcases hq with rfl <;> rfl) (Bld.cons (x' := (⟨4, [y2, y4]⟩ : Api_Epoch)) rfl rfl rdV ⟨rfl, (fun q hq => by simp at hq)⟩ (Bld.nil _)))) rfl <| Under.call Try.call29 rfl rfl (f_churnlaw16_tag_ok h7 _) rfl <| Under.bsF (ys := [y6]) Try.underlying36 ET43 (BldA.cons rfl rfl rdV (BldA.nil _)) rfl rfl <| ov (OpV.bst BT61 (Bld.cons (x' := (⟨5, []⟩ : Api_Epoch)) rfl rfl rdI (by intro q hq; simp only [List.mem_cons, List.not_mem_nil, or_false] at hq; rcases hq with rfl <;> rfl) (Bld.cons (x' := (⟨5, [y6]⟩ : Api_Epoch)) rfl rfl rdV ⟨rfl, (fun q hq => by simp at hq)⟩ (Bld.nil _)))) rfl <| Under.bsF (ys := [(⟨4, [y2, y4]⟩ : Api_Epoch), (⟨5, [y6]⟩ : Api_Epoch)]) Try.underlying25 ET61 (BldA.cons rfl rfl rdV (BldA.cons rfl rfl rdV (BldA.nil _))) rfl rfl <| ov (OpV.bst BT27 (Bld.cons (x' := (⟨5, []⟩ : Api_Window)) rfl rfl rdI (by intro q hq; simp only [List.mem_cons, List.not_mem_nil, or_false] at hq; rcases hq with rfl <;> rfl) (Bld.cons (x' := (⟨5, [(⟨4, [y2, y4]⟩ : Api_Epoch), (⟨5, [y6]⟩ : Api_Epoch)]⟩ : Api_Window)) rfl rfl rdV ⟨rfl, (fun q hq => by simp at hq)⟩ (Bld.nil _)))) rfl <| Under.stP (x' := (⟨5, [(⟨4, [y2, y4]⟩ : Api_Epoch), (⟨5, [y6]⟩ : Api_Epoch)]⟩ : Api_Window)) .box .id sz27_kApi_Window rfl rfl rdV rfl <| nl <| Under.frz (t := 0) rfl <| tn <| rc ?_
  have e8 := osi hF
  subst e8
  exact Under.rets Try.results34 (.ce rfl kt27 .nil) rfl rfl
/-- churn/window.above -/
noncomputable def f_window_above (a0 : Int) (a1 : Int) (a2 : Int) : Option Bool :=
  bif (decide (a2 < 0)) && (decide ((IntKind.wrap .i64 (a1 + a2)) > a1)) then
    some true
  else
    bif (decide (a2 > 0)) && (decide ((IntKind.wrap .i64 (a1 + a2)) < a1)) then
      some false
    else
      some (decide (a0 > (IntKind.wrap .i64 (a1 + a2))))
theorem f_window_above_ok {a0 : Int} {a1 : Int} {a2 : Int} {r0 : Bool} (hF : f_window_above a0 a1 a2 = some r0) (L : List Res) : Ok Try.prog 45 [SV.raw (.int .i64 a0), SV.raw (.int .i64 a1), SV.raw (.int .i64 a2)] (L) (SV.raw (.bool r0)) (L) := by
  unfold f_window_above at hF
  refine Ok.intro 30 [(0, .raw (.int .i64 a0)), (1, .raw (.int .i64 a1)), (2, .raw (.int .i64 a2))] Try.func45 rfl rfl rfl rfl (fun F0 => ?_)
  refine sr <| ag rfl rfl <| ns <| mv rfl rfl <| mv rfl rfl <| bn rfl rfl rfl rfl <| ag rfl rfl <| nt <| sq <| bk <| sr <| mv rfl rfl <| bn rfl rfl rfl rfl <| mv rfl rfl <| runj_4 18 ((decide (a2 < 0)) && (decide ((IntKind.wrap .i64 (a1 + a2)) > a1))) ?_ (fun k => ?_)
  ·refine ag rfl rfl <| nt <| Under.ite hF rfl (fun hF => ?_) (fun hF => ?_)
   ·refine sr <| ag rfl rfl <| nt <| rc <| Under.bR <| tr ?_
    have e4 := osi hF
    subst e4
    exact Under.rets Try.results45 (.tm rfl .nil) rfl rfl
   ·refine sr <| mv rfl rfl <| bn rfl rfl rfl rfl <| mv rfl rfl <| runj_4 26 ((decide (a2 > 0)) && (decide ((IntKind.wrap .i64 (a1 + a2)) < a1))) ?_ (fun k => ?_)
    ·refine ag rfl rfl <| nt <| Under.ite hF rfl (fun hF => ?_) (fun hF => ?_)
     ·refine sr <| ag rfl rfl <| nt <| rc <| Under.bR <| tr ?_
      have e8 := osi hF
      subst e8
      exact Under.rets Try.results45 (.tm rfl .nil) rfl rfl
     ·refine cs <| bN <| tn <| sr <| mv rfl rfl <| mv rfl rfl <| bn rfl rfl rfl rfl <| ag rfl rfl <| nt <| rc ?_
      have e9 := osi hF
      subst e9
      exact Under.rets Try.results45 (.tm rfl .nil) rfl rfl
    ·refine by_ (t := 22) rfl (fun c5 => ?_) (fun c5 => ?_)
     ·exact gc c5 rfl rfl <| mv rfl rfl <| gc c5 rfl rfl <| mv rfl rfl <| gc c5 rfl rfl <| bn rfl rfl rfl rfl <| ov (pkT c5 rfl rfl) rfl <| rf 3 (and_t c5) rfl k
     ·exact sk c5 rfl rfl rfl <| sk c5 rfl rfl rfl <| sk c5 rfl rfl rfl <| ov (pkF c5 rfl rfl) rfl <| rf 3 (and_f (e := decide ((IntKind.wrap .i64 (a1 + a2)) < a1)) c5) rfl k
  ·refine by_ (t := 14) rfl (fun c1 => ?_) (fun c1 => ?_)
   ·exact gc c1 rfl rfl <| mv rfl rfl <| gc c1 rfl rfl <| mv rfl rfl <| gc c1 rfl rfl <| bn rfl rfl rfl rfl <| ov (pkT c1 rfl rfl) rfl <| rf 3 (and_t c1) rfl k
   ·exact sk c1 rfl rfl rfl <| sk c1 rfl rfl rfl <| sk c1 rfl rfl rfl <| ov (pkF c1 rfl rfl) rfl <| rf 3 (and_f (e := decide ((IntKind.wrap .i64 (a1 + a2)) > a1)) c1) rfl k
/-- slices.Clone[[][16]byte,[16]byte] -/
noncomputable def f_slices_Clone (a0 : List (List Int)) : Option (List (List Int)) :=
  (app [] a0).bind fun z5 =>
  some z5
theorem f_slices_Clone_ok {a0 : List (List Int)} {r0 : (List (List Int))} (hF : f_slices_Clone a0 = some r0) (L : List Res) : Ok Try.prog 46 [SV.val K0 a0] (L) (SV.val K0 r0) (L) := by
  unfold f_slices_Clone at hF
  refine Ok.intro 8 [(0, .val K0 a0)] Try.func46 rfl rfl rfl rfl (fun F0 => ?_)
  refine sr <| ag rfl rfl <| nt <| sq <| sr <| mv rfl rfl <| Under.eqNil Try.underlying36 rfl rfl fun b1 h2 => nt <| Under.conde rfl (fun h9 => ?_) (fun _ => ?_)
  ·replace hF : (some []) = some r0 := by rw [h2 h9] at hF; simpa [app, room] using hF
   refine sr <| ag rfl rfl <| nt <| rt <| Under.toV (K := kSl K1) (x := []) (t := 2) rfl rdN ?_
   have e3 := osi hF
   subst e3
   exact Under.rets Try.results46 (.tm rfl .nil) rfl rfl
  ·obtain ⟨z5, h6, hF⟩ := bsome hF
   refine ct <| sr <| Under.bsO (ys := []) Try.underlying36 ET43 (BldA.nil _) rfl rfl fun v4 => mv rfl rfl <| Under.app h6 Try.underlying36 AT43 rfl rfl rdV rfl fun v7 => ag rfl rfl <| nl <| Under.frzO (t := 2) rfl <| tn <| rc ?_
   have e8 := osi hF
   subst e8
   exact Under.rets Try.results46 (.tm rfl .nil) rfl rfl
/-- churn/window.Open -/
noncomputable def f_window_Open (a0 : Api_Window) (a1 : Int) (a2 : Int) : Option (Api_Window × Int) :=
  bif (((decide (a2 < 1)) || (decide (a2 > 8))) || (decide (a1 < 0))) || (decide (a1 > 4611686018427387904)) then
    some ((⟨0, []⟩ : Api_Window), 2)
  else
    (f_window_above a1 a0.Newest (IntKind.wrap .i64 (0 - a2))).bind fun y12 =>
    ((bif !y12 then
      some true
    else
      (f_window_above a1 a0.Newest 1024).bind fun y17 =>
      some y17
      : Option Bool)).bind fun x16 =>
    bif x16 then
      some ((⟨0, []⟩ : Api_Window), 161)
    else
      (((Loop.run (S := (Int × (List Api_Epoch))) (R := Api_Window) (fun (x236, x238) =>
          bif decide (x236 < (a0.Epochs.length : Int)) then
            (((idx a0.Epochs x236).bind fun x294 =>
            (f_window_above x294.Number (max a0.Newest a1) (IntKind.wrap .i64 (0 - a2))).bind fun y297 =>
            bif y297 then
              (f_slices_Clone x294.Tags).bind fun y300 =>
              (app x238 [(⟨x294.Number, y300⟩ : Api_Epoch)]).bind fun z302 =>
              some z302
            else
              some x238
              : Option (List Api_Epoch))).bind fun x290 =>
            some (.next (IntKind.wrap .i64 (x236 + 1), x290))
          else
            some (.done (⟨max a0.Newest a1, x238⟩ : Api_Window))) (0, [])).bind fun x271 =>
      some x271
        : Option Api_Window)).bind fun x164 =>
      some (x164, 0)
theorem f_window_Open_ok {a0 : Api_Window} {a1 : Int} {a2 : Int} {r0 : (Api_Window × Int)} (hF : f_window_Open a0 a1 a2 = some r0) (L : List Res) : Ok Try.prog 23 [SV.val kApi_Window a0, SV.raw (.int .i64 a1), SV.raw (.int .i64 a2)] (L) (SV.tup [SV.val kApi_Window r0.1, SV.raw (.int .i64 r0.2)]) (L) := by
  unfold f_window_Open at hF
  refine Ok.intro 72 [(0, .val kApi_Window a0), (1, .raw (.int .i64 a1)), (2, .raw (.int .i64 a2))] Try.func23 rfl rfl rfl rfl (fun F0 => ?_)
  refine sr <| Under.bxF (K := kApi_Window) rfl rdV rfl <| Under.al ZT27 rfl fun b1 => ag rfl rfl <| nt <| sq <| sr <| mv rfl rfl <| bn rfl rfl rfl rfl <| mv rfl rfl <| runj_3 16 ((decide (a2 < 1)) || (decide (a2 > 8))) ?_ (fun k => ?_)
  ·refine mv rfl rfl <| runj_3 20 (((decide (a2 < 1)) || (decide (a2 > 8))) || (decide (a1 < 0))) ?_ (fun k => ?_)
   ·refine mv rfl rfl <| runj_3 24 ((((decide (a2 < 1)) || (decide (a2 > 8))) || (decide (a1 < 0))) || (decide (a1 > 4611686018427387904))) ?_ (fun k => ?_)
    ·refine nt <| Under.ite hF rfl (fun hF => ?_) (fun hF => ?_)
     ·refine sr <| ov (OpV.bst BT27 (Bld.nil _)) rfl <| Under.stP (x' := (⟨0, []⟩ : Api_Window)) .box .id sz27_kApi_Window rfl rfl rdV rfl <| ag rfl rfl <| nl <| Under.frz (t := 6) rfl <| tn <| rt ?_
      have e11 := osi hF
      subst e11
      exact Under.rets Try.results23 (.ce rfl kt27 (.tm rfl .nil)) rfl rfl
     ·obtain ⟨y12, h13, hF⟩ := bsome hF
      obtain ⟨x16, h15, hF⟩ := bsome hF
      refine ct <| sq <| sr <| mv rfl rfl <| ov (OpV.fd fb27_0 rfl rfl) rfl <| ov (OpV.ldI kt2 rfl) rfl <| mv rfl rfl <| ov (OpV.neg rfl) rfl <| Under.call Try.call45 rfl rfl (f_window_above_ok h13 _) rfl <| ov (OpV.not rfl) rfl <| mv rfl rfl <| runj_5 38 x16 ?_ (fun k => ?_)
      ·refine nt <| Under.ite hF rfl (fun hF => ?_) (fun hF => ?_)
       ·refine sr <| ov (OpV.bst BT27 (Bld.nil _)) rfl <| Under.stP (x' := (⟨0, []⟩ : Api_Window)) .box .id sz27_kApi_Window rfl rfl rdV rfl <| ag rfl rfl <| nl <| Under.frz (t := 6) rfl <| tn <| rt ?_
        have e19 := osi hF
        subst e19
        exact Under.rets Try.results23 (.ce rfl kt27 (.tm rfl .nil)) rfl rfl
       ·obtain ⟨r165, h166, hF⟩ := bsome hF
        refine ct <| sr <| ov (OpV.fd fb27_0 rfl rfl) rfl <| ov (OpV.ldI kt2 rfl) rfl <| mv rfl rfl <| ov (OpV.max2 rfl rfl) rfl <| ov (OpV.bst BT27_Api_Window_r1 (Bld.cons (x' := (⟨max a0.Newest a1, .slice none 0 0⟩ : Api_Window_r1)) rfl rfl rdI (by intro q hq; simp only [List.mem_cons, List.not_mem_nil, or_false] at hq; rcases hq with rfl <;> rfl) (Bld.nil _))) rfl <| Under.al ZT27_Api_Window_r1 rfl fun b20 => Under.stP (x' := (⟨max a0.Newest a1, .slice none 0 0⟩ : Api_Window_r1)) .box .id sz27_kApi_Window_r1 rfl rfl rdV rfl <| nt <| sq <| Under.after (fun X => ∀ (x164 : Api_Window), r165 = x164 → Under F0 72 [(6, .raw (.pointer (some ⟨b1, 0, none⟩))), (8, .ptr kApi_Window x164)] ((.box kApi_Window b1 27 (⟨0, []⟩ : Api_Window)) :: L) X) ?_ ?_
        ·intro x164 h314
         replace h314 := h314.symm
         subst h314
         refine sr <| ov (OpV.ld kt27 rfl) rfl <| Under.stP (x' := x164) .box .id sz27_kApi_Window rfl rfl rdV rfl <| ag rfl rfl <| nl <| Under.frz (t := 6) rfl <| tn <| rc ?_
         have e168 := osi hF
         subst e168
         exact Under.rets Try.results23 (.ce rfl kt27 (.tm rfl .nil)) rfl rfl
        ·intro K k167
         obtain ⟨r274, h275, h166⟩ := bsome h166
         refine sr <| ov (OpV.fd fb27_1 rfl rfl) rfl <| ov (OpV.ld kt25 rfl) rfl <| ov (OpV.len Try.underlying25 rfl rdV) rfl <| mv rfl rfl <| nt <| bk <| Under.ownNil (K := kApi_Epoch) (e := 61) <| Under.fo1 <| Under.fo1 <| Under.fo2 <| Under.loop (S := (Int × (List Api_Epoch))) (C := Value) (.slice none 0 0) (fun (x311 : (Int × (List Api_Epoch))) (q312 : Value) => [(2, .raw (.int .i64 a2)), (6, .raw (.pointer (some ⟨b1, 0, none⟩))), (8, .raw (.pointer (some ⟨b20, 0, none⟩))), (46, .val (kSl kApi_Epoch) a0.Epochs), (47, .raw (.int .i64 (a0.Epochs.length : Int))), (48, .raw (.int .i64 x311.1))]) (fun (x311 : (Int × (List Api_Epoch))) (q312 : Value) => (.box kApi_Window b1 27 (⟨0, []⟩ : Api_Window)) :: (.own kApi_Epoch q312 61 x311.2) :: (.box kApi_Window_r1 b20 27 (⟨max a0.Newest a1, q312⟩ : Api_Window_r1)) :: L) h275 (s6 rfl rfl rfl rfl rfl rfl) rfl (fun x311 q312 o276 h272 d273 => ?_)
         obtain ⟨x236, x238⟩ := x311
         dsimp only at h272 ⊢
         refine sr <| bn rfl rfl rfl rfl <| nt <| sq <| Under.ite h272 rfl (fun h272 => ?_) (fun h272 => ?_)
         ·obtain ⟨r291, h292, h272⟩ := bsome h272
          refine ct <| sq <| Under.after (fun X => ∀ (x290 : List Api_Epoch) (v289 : Value), r291 = x290 → Under F0 72 [(2, .raw (.int .i64 a2)), (6, .raw (.pointer (some ⟨b1, 0, none⟩))), (8, .raw (.pointer (some ⟨b20, 0, none⟩))), (46, .val (kSl kApi_Epoch) a0.Epochs), (47, .raw (.int .i64 (a0.Epochs.length : Int))), (48, .raw (.int .i64 x236))] ((.box kApi_Window b1 27 (⟨0, []⟩ : Api_Window)) :: (.own kApi_Epoch v289 61 x290) :: (.box kApi_Window_r1 b20 27 (⟨max a0.Newest a1, v289⟩ : Api_Window_r1)) :: L) X) ?_ ?_
          ·intro x290 v289 h308
           replace h308 := h308.symm
           subst h308
           exact rg <| bn rfl rfl rfl rfl <| mv rfl rfl <| nl <| Under.fo2 <| Under.fo2 <| Under.fo2 <| Under.next _ v289 h272 (s6 rfl rfl rfl rfl rfl rfl) rfl
          ·intro K k293
           obtain ⟨x294, h295, h292⟩ := bsome h292
           obtain ⟨y297, h298, h292⟩ := bsome h292
           refine bk <| sr <| ov (OpV.ixS h295 Try.underlying25 sz61 rfl rdV rfl) rfl <| ov (OpV.ld kt61 rfl) rfl <| Under.al ZT61 rfl fun b296 => Under.stP (x' := x294) .box .id sz61_kApi_Epoch rfl rfl rdV rfl <| nl <| Under.frz (t := 10) rfl <| tn <| sr <| ov (OpV.fd fb61_0 rfl rfl) rfl <| ov (OpV.ldI kt2 rfl) rfl <| ov (OpV.fdM fm27_0 rfl) rfl <| Under.fo2 <| Under.ldP .box (.fld .id uf_Api_Window_r1_0) kt2_kInt_i64 rfl rfl <| Under.rawI (t := 55) rfl <| mv rfl rfl <| ov (OpV.neg rfl) rfl <| Under.call Try.call45 rfl rfl (f_window_above_ok h298 _) rfl <| nt <| Under.ite h292 rfl (fun h292 => ?_) (fun h292 => ?_)
           ·obtain ⟨y300, h301, h292⟩ := bsome h292
            obtain ⟨z302, h303, h292⟩ := bsome h292
            refine Under.phases rfl <| Under.fo2 <| Under.fo1 <| Under.fo2 <| Under.grpT (L := L) [0, 1, 2, 3, 4, 5, 6, 7, 8, 9, 10, 11] [[8], [59], [10], [61], [10], [63], [64], [62, 65], [66], [60, 67], [8], [68, 69]] [⟨sk0 (.raw (.pointer (some ⟨b20, 0 + 1, none⟩))), [], []⟩, ⟨sk0 (.raw q312), [0], [(2, tk0 (.box kApi_Window_r1 b20 27 (⟨max a0.Newest a1, q312⟩ : Api_Window_r1)))]⟩, ⟨sk0 (.ptr (kInt .i64) x294.Number), [], []⟩, ⟨sk0 (.raw (.int .i64 x294.Number)), [], []⟩, ⟨sk0 (.ptr K0 x294.Tags), [], []⟩, ⟨sk0 (.val K0 x294.Tags), [], []⟩, ⟨sk0 (.val K0 y300), [], []⟩, ⟨sk0 (.val kApi_Epoch (⟨x294.Number, y300⟩ : Api_Epoch)), [], []⟩, ⟨sk0 (.val (kSl kApi_Epoch) [(⟨x294.Number, y300⟩ : Api_Epoch)]), [], []⟩, ⟨sk1 9 (fun u9 => .raw u9), [1], [(3, tk1 9 (fun u9 => .own kApi_Epoch u9 61 z302))]⟩, ⟨sk0 (.raw (.pointer (some ⟨b20, 0 + 1, none⟩))), [], []⟩, ⟨sk0 (.raw undef), [2, 3], [(4, tk1 9 (fun u9 => .box kApi_Window_r1 b20 27 (⟨max a0.Newest a1, u9⟩ : Api_Window_r1))), (5, tk1 9 (fun u9 => .own kApi_Epoch u9 61 z302))]⟩] [(0, .box kApi_Window_r1 b20 27 (⟨max a0.Newest a1, q312⟩ : Api_Window_r1)), (1, .own kApi_Epoch q312 61 x238)] (fun T : List Res => (.box kApi_Window b1 27 (⟨0, []⟩ : Api_Window)) :: T) lf1 rfl (by kernel_rfl) rfl rfl (fun F hF0 bs299 => ?_)
            refine Tq.v (fun G T hG => ?_) ?_
            ·exact ov (OpV.fdM fm27_1 rfl) rfl <| Tq.end undef rfl rfl
            refine Tq.st (.raw q312) [.box kApi_Window_r1 b20 27 (⟨max a0.Newest a1, q312⟩ : Api_Window_r1)] rfl rfl (fun G T hG => ?_) ?_
            ·exact Under.ldP .box (.fld .id uf_Api_Window_r1_1) kt25_kRaw rfl rfl <| Under.rawR (t := 60) rfl <| Under.fo1 <| Under.fo1 <| Tq.end undef rfl rfl
            refine Tq.v (fun G T hG => ?_) ?_
            ·exact ov (OpV.fd fb61_0 rfl rfl) rfl <| Tq.end undef rfl rfl
            refine Tq.v (fun G T hG => ?_) ?_
            ·exact ov (OpV.ldI kt2 rfl) rfl <| Tq.end undef rfl rfl
            refine Tq.v (fun G T hG => ?_) ?_
            ·exact ov (OpV.fd fb61_1 rfl rfl) rfl <| Tq.end undef rfl rfl
            refine Tq.v (fun G T hG => ?_) ?_
            ·exact ov (OpV.ld kt36 rfl) rfl <| Tq.end undef rfl rfl
            refine Tq.v (fun G T hG => ?_) ?_
            ·exact Under.call Try.call46 rfl rfl (f_slices_Clone_ok h301 _) rfl <| Tq.end undef rfl rfl
            refine Tq.v (fun G T hG => ?_) ?_
            ·exact ov (OpV.bst BT61 (Bld.cons (x' := (⟨x294.Number, []⟩ : Api_Epoch)) rfl rfl rdI (by intro q hq; simp only [List.mem_cons, List.not_mem_nil, or_false] at hq; rcases hq with rfl <;> rfl) (Bld.cons (x' := (⟨x294.Number, y300⟩ : Api_Epoch)) rfl rfl rdV ⟨rfl, (fun q hq => by simp at hq)⟩ (Bld.nil _)))) rfl <| Tq.end undef rfl rfl
            refine Tq.v (fun G T hG => ?_) ?_
            ·exact Under.bsF (ys := [(⟨x294.Number, y300⟩ : Api_Epoch)]) Try.underlying25 ET61 (BldA.cons rfl rfl rdV (BldA.nil _)) rfl rfl <| Tq.end undef rfl rfl
            refine Tq.st (.raw (bs299 9)) [.own kApi_Epoch q312 61 x238] rfl rfl (fun G T hG => ?_) ?_
            ·exact Under.app h303 Try.underlying25 AT61 rfl rfl rdV rfl fun v304 => Under.fo1 <| Under.fo1 <| Tq.end v304 rfl rfl
            refine Tq.v (fun G T hG => ?_) ?_
            ·exact ov (OpV.fdM fm27_1 rfl) rfl <| Tq.end undef rfl rfl
            refine Tq.st0 [.box kApi_Window_r1 b20 27 (⟨max a0.Newest a1, q312⟩ : Api_Window_r1), .own kApi_Epoch (bs299 9) 61 z302] rfl (fun G T hG => ?_) ?_
            ·exact Under.fo1 <| Under.ownCell fun h305 => Under.fo1 <| Under.stP (x' := (⟨max a0.Newest a1, (bs299 9)⟩ : Api_Window_r1)) .box (.fld .id uf_Api_Window_r1_1) sz25_kRaw rfl rfl (rdRaw h305) rfl <| Under.fo2 <| Under.fo2 <| Under.fo2 <| Tq.end0 undef rfl
            exact Tq.nil <| Under.le hF0 <| Under.pdone rfl <| bN <| tn <| Under.fo1 <| Under.fo2 <| Under.fo2 <| wk (k293 _ _ (osi h292).symm) (s6 rfl rfl rfl rfl rfl rfl)
           ·exact cs <| bN <| tn <| Under.fo2 <| Under.fo2 <| wk (k293 _ _ (osi h292).symm) (s6 rfl rfl rfl rfl rfl rfl)
         ·refine Under.fo2 <| Under.fo2 <| Under.frzBO (fs := kApi_WindowF) (⟨max a0.Newest a1, x238⟩ : Api_Window) (fun F hv => ⟨fun _ h => h, cv_raw hv, trivial⟩) <| Under.frz (t := 8) rfl <| xt <| te ?_
          have e309 := done_eq h272 d273
          subst e309
          exact te <| bh <| tn <| wk (k167 _ (osi h166).symm) (s2 rfl rfl)
      ·refine by_ (t := 33) rfl (fun c14 => ?_) (fun c14 => ?_)
       ·replace h15 := ctrue c14 h15
        exact sk c14 rfl rfl rfl <| sk c14 rfl rfl rfl <| sk c14 rfl rfl rfl <| sk c14 rfl rfl rfl <| ov (pkT c14 rfl rfl) rfl <| rf 4 (rbq h15) rfl k
       ·replace h15 := cfalse c14 h15
        obtain ⟨y17, h18, h15⟩ := bsome h15
        exact gc c14 rfl rfl <| mv rfl rfl <| gc c14 rfl rfl <| ov (OpV.fd fb27_0 rfl rfl) rfl <| gc c14 rfl rfl <| ov (OpV.ldI kt2 rfl) rfl <| gc c14 rfl rfl <| Under.call Try.call45 rfl rfl (f_window_above_ok h18 _) rfl <| ov (pkF c14 rfl rfl) rfl <| rf 4 (rbq h15) rfl k
    ·refine by_ (t := 21) rfl (fun c8 => ?_) (fun c8 => ?_)
     ·exact sk c8 rfl rfl rfl <| sk c8 rfl rfl rfl <| ov (pkT c8 rfl rfl) rfl <| rf 2 (or_t (e := decide (a1 > 4611686018427387904)) c8) rfl k
     ·exact gc c8 rfl rfl <| mv rfl rfl <| gc c8 rfl rfl <| bn rfl rfl rfl rfl <| ov (pkF c8 rfl rfl) rfl <| rf 2 (or_f c8) rfl k
   ·refine by_ (t := 17) rfl (fun c5 => ?_) (fun c5 => ?_)
    ·exact sk c5 rfl rfl rfl <| sk c5 rfl rfl rfl <| ov (pkT c5 rfl rfl) rfl <| rf 2 (or_t (e := decide (a1 < 0)) c5) rfl k
    ·exact gc c5 rfl rfl <| mv rfl rfl <| gc c5 rfl rfl <| bn rfl rfl rfl rfl <| ov (pkF c5 rfl rfl) rfl <| rf 2 (or_f c5) rfl k
  ·refine by_ (t := 13) rfl (fun c2 => ?_) (fun c2 => ?_)
   ·exact sk c2 rfl rfl rfl <| sk c2 rfl rfl rfl <| ov (pkT c2 rfl rfl) rfl <| rf 2 (or_t (e := decide (a2 > 8)) c2) rfl k
   ·exact gc c2 rfl rfl <| mv rfl rfl <| gc c2 rfl rfl <| bn rfl rfl rfl rfl <| ov (pkF c2 rfl rfl) rfl <| rf 2 (or_f c2) rfl k
/-- churn/window.Len -/
noncomputable def f_window_Len (a0 : Api_Window) : Option Int :=
  (((Loop.run (S := (Int × Int)) (R := Int) (fun (x39, x40) =>
      bif decide (x40 < (a0.Epochs.length : Int)) then
        (idx a0.Epochs x40).bind fun x50 =>
        some (.next (IntKind.wrap .i64 (x39 + (x50.Tags.length : Int)), IntKind.wrap .i64 (x40 + 1)))
      else
        some (.done x39)) (0, 0)).bind fun x44 =>
  some x44
    : Option Int)).bind fun x26 =>
  some x26
theorem f_window_Len_ok {a0 : Api_Window} {r0 : Int} (hF : f_window_Len a0 = some r0) (L : List Res) : Ok Try.prog 18 [SV.val kApi_Window a0] (L) (SV.raw (.int .i64 r0)) (L) := by
  unfold f_window_Len at hF
  refine Ok.intro 20 [(0, .val kApi_Window a0)] Try.func18 rfl rfl rfl rfl (fun F0 => ?_)
  obtain ⟨r27, h28, hF⟩ := bsome hF
  refine sr <| Under.bxF (K := kApi_Window) rfl rdV rfl <| ag rfl rfl <| ns <| ag rfl rfl <| nt <| sq <| Under.after (fun X => ∀ (x26 : Int), r27 = x26 → Under F0 20 [(3, .raw (.int .i64 x26))] (L) X) ?_ ?_
  ·intro x26 h58
   replace h58 := h58.symm
   subst h58
   refine sr <| mv rfl rfl <| ag rfl rfl <| nt <| rc ?_
   have e30 := osi hF
   subst e30
   exact Under.rets Try.results18 (.tm rfl .nil) rfl rfl
  ·intro K k29
   obtain ⟨r47, h48, h28⟩ := bsome h28
   refine sr <| ov (OpV.fd fb27_1 rfl rfl) rfl <| ov (OpV.ld kt25 rfl) rfl <| ov (OpV.len Try.underlying25 rfl rdV) rfl <| mv rfl rfl <| nt <| bk <| Under.loop (S := (Int × Int)) (C := Unit) () (fun (x55 : (Int × Int)) (q56 : Unit) => [(3, .raw (.int .i64 x55.1)), (7, .val (kSl kApi_Epoch) a0.Epochs), (8, .raw (.int .i64 (a0.Epochs.length : Int))), (9, .raw (.int .i64 x55.2))]) (fun (x55 : (Int × Int)) (q56 : Unit) => L) h48 (s4 rfl rfl rfl rfl) rfl (fun x55 q56 o49 h45 d46 => ?_)
   obtain ⟨x39, x40⟩ := x55
   dsimp only at h45 ⊢
   refine sr <| bn rfl rfl rfl rfl <| nt <| sq <| Under.ite h45 rfl (fun h45 => ?_) (fun h45 => ?_)
   ·obtain ⟨x50, h51, h45⟩ := bsome h45
    exact ct <| sq <| bk <| sr <| ov (OpV.ixS h51 Try.underlying25 sz61 rfl rdV rfl) rfl <| ov (OpV.ld kt61 rfl) rfl <| Under.al ZT61 rfl fun b52 => Under.stP (x' := x50) .box .id sz61_kApi_Epoch rfl rfl rdV rfl <| nl <| Under.frz (t := 5) rfl <| tn <| rg <| mv rfl rfl <| ov (OpV.fd fb61_1 rfl rfl) rfl <| ov (OpV.ld kt36 rfl) rfl <| ov (OpV.len Try.underlying36 rfl rdV) rfl <| bn rfl rfl rfl rfl <| ag rfl rfl <| nl <| bN <| tn <| rg <| bn rfl rfl rfl rfl <| mv rfl rfl <| nl <| Under.next _ () h45 (s4 rfl rfl rfl rfl) rfl
   ·refine xt <| te ?_
    have e53 := done_eq h45 d46
    subst e53
    exact te <| bh <| tn <| wk (k29 _ (osi h28).symm) (s1 rfl)
/-- churn/window.known -/
noncomputable def f_window_known (a0 : Api_Window) : Option (List ((List Int) × Int)) :=
  (((Loop.run (S := (Int × (List ((List Int) × Int)))) (R := (List ((List Int) × Int))) (fun (x400, x401) =>
      bif decide (x400 < (a0.Epochs.length : Int)) then
        (((idx a0.Epochs x400).bind fun x503 =>
        (Loop.run (S := (Int × (List ((List Int) × Int)))) (R := (List ((List Int) × Int))) (fun (x514, x515) =>
            bif decide (x514 < (x503.Tags.length : Int)) then
              (idx x503.Tags x514).bind fun x525 =>
              some (.next (IntKind.wrap .i64 (x514 + 1), mset x525 x400 x515))
            else
              some (.done x515)) (0, x401)).bind fun x519 =>
        some x519
          : Option (List ((List Int) × Int)))).bind fun x499 =>
        some (.next (IntKind.wrap .i64 (x400 + 1), x499))
      else
        some (.done x401)) (0, [])).bind fun x465 =>
  some x465
    : Option (List ((List Int) × Int)))).bind fun x267 =>
  some x267
theorem f_window_known_ok {a0 : Api_Window} {r0 : (List ((List Int) × Int))} (hF : f_window_known a0 = some r0) (L : List Res) : Ok Try.prog 35 [SV.val kApi_Window a0] (L) (SV.val (kMap K1 (kInt .i64)) r0) (L) := by
  unfold f_window_known at hF
  refine Ok.intro 30 [(0, .val kApi_Window a0)] Try.func35 rfl rfl rfl rfl (fun F0 => ?_)
  obtain ⟨r268, h269, hF⟩ := bsome hF
  refine sr <| Under.bxF (K := kApi_Window) rfl rdV rfl <| ag rfl rfl <| ns <| Under.mkm K1 (kInt .i64) rfl fun b1 => ag rfl rfl <| nt <| sq <| Under.after (fun X => ∀ (x267 : List ((List Int) × Int)), r268 = x267 → Under F0 30 [(3, .val (kMap K1 (kInt .i64)) x267)] (L) X) ?_ ?_
  ·intro x267 h539
   replace h539 := h539.symm
   subst h539
   refine sr <| mv rfl rfl <| ag rfl rfl <| nt <| rc ?_
   have e271 := osi hF
   subst e271
   exact Under.rets Try.results35 (.tm rfl .nil) rfl rfl
  ·intro K k270
   obtain ⟨r468, h469, h269⟩ := bsome h269
   refine sr <| ov (OpV.fd fb27_1 rfl rfl) rfl <| ov (OpV.ld kt25 rfl) rfl <| ov (OpV.len Try.underlying25 rfl rdV) rfl <| mv rfl rfl <| nt <| bk <| Under.loop (S := (Int × (List ((List Int) × Int)))) (C := Unit) () (fun (x536 : (Int × (List ((List Int) × Int)))) (q537 : Unit) => [(3, .raw (.map (some b1))), (10, .val (kSl kApi_Epoch) a0.Epochs), (11, .raw (.int .i64 (a0.Epochs.length : Int))), (12, .raw (.int .i64 x536.1))]) (fun (x536 : (Int × (List ((List Int) × Int)))) (q537 : Unit) => (.mp K1 (kInt .i64) b1 x536.2) :: L) h469 (s4 rfl rfl rfl rfl) rfl (fun x536 q537 o470 h466 d467 => ?_)
   obtain ⟨x400, x401⟩ := x536
   dsimp only at h466 ⊢
   refine sr <| bn rfl rfl rfl rfl <| nt <| sq <| Under.ite h466 rfl (fun h466 => ?_) (fun h466 => ?_)
   ·obtain ⟨r500, h501, h466⟩ := bsome h466
    refine ct <| sq <| Under.after (fun X => ∀ (x499 : List ((List Int) × Int)), r500 = x499 → Under F0 30 [(3, .raw (.map (some b1))), (10, .val (kSl kApi_Epoch) a0.Epochs), (11, .raw (.int .i64 (a0.Epochs.length : Int))), (12, .raw (.int .i64 x400))] ((.mp K1 (kInt .i64) b1 x499) :: L) X) ?_ ?_
    ·intro x499 h533
     replace h533 := h533.symm
     subst h533
     exact rg <| bn rfl rfl rfl rfl <| mv rfl rfl <| nl <| Under.next _ () h466 (s4 rfl rfl rfl rfl) rfl
    ·intro K k502
     obtain ⟨x503, h504, h501⟩ := bsome h501
     obtain ⟨r522, h523, h501⟩ := bsome h501
     refine bk <| sr <| mv rfl rfl <| ov (OpV.ixS h504 Try.underlying25 sz61 rfl rdV rfl) rfl <| ov (OpV.ld kt61 rfl) rfl <| Under.al ZT61 rfl fun b505 => ag rfl rfl <| Under.stP (x' := x503) .box .id sz61_kApi_Epoch rfl rfl rdV rfl <| nl <| Under.frz (t := 5) rfl <| tn <| sr <| ov (OpV.fd fb61_1 rfl rfl) rfl <| ov (OpV.ld kt36 rfl) rfl <| ov (OpV.len Try.underlying36 rfl rdV) rfl <| mv rfl rfl <| nt <| bk <| Under.loop (S := (Int × (List ((List Int) × Int)))) (C := Unit) () (fun (x530 : (Int × (List ((List Int) × Int)))) (q531 : Unit) => [(3, .raw (.map (some b1))), (4, .raw (.int .i64 x400)), (10, .val (kSl kApi_Epoch) a0.Epochs), (11, .raw (.int .i64 (a0.Epochs.length : Int))), (12, .raw (.int .i64 x400)), (18, .val K0 x503.Tags), (19, .raw (.int .i64 (x503.Tags.length : Int))), (20, .raw (.int .i64 x530.1))]) (fun (x530 : (Int × (List ((List Int) × Int)))) (q531 : Unit) => (.mp K1 (kInt .i64) b1 x530.2) :: L) h523 (s8 rfl rfl rfl rfl rfl rfl rfl rfl) rfl (fun x530 q531 o524 h520 d521 => ?_)
     obtain ⟨x514, x515⟩ := x530
     dsimp only at h520 ⊢
     refine sr <| bn rfl rfl rfl rfl <| nt <| sq <| Under.ite h520 rfl (fun h520 => ?_) (fun h520 => ?_)
     ·obtain ⟨x525, h526, h520⟩ := bsome h520
      exact ct <| sq <| bk <| sr <| ov (OpV.ixS h526 Try.underlying36 sz43 rfl rdV rfl) rfl <| ov (OpV.ld kt43 rfl) rfl <| Under.al ZT43 rfl fun b527 => Under.stP (x' := x525) .box .id sz43_kArr_16_kInt_u8_ rfl rfl rdV rfl <| nl <| Under.frz (t := 7) rfl <| tn <| rg <| mv rfl rfl <| ov (OpV.ld kt43 rfl) rfl <| mv rfl rfl <| Under.mup key43 Try.underlying69 rfl rfl rdV rfl rdI <| nl <| bN <| tn <| rg <| bn rfl rfl rfl rfl <| mv rfl rfl <| nl <| Under.next _ () h520 (s8 rfl rfl rfl rfl rfl rfl rfl rfl) rfl
     ·refine xt <| te ?_
      have e528 := done_eq h520 d521
      subst e528
      exact te <| bh <| bN <| tn <| wk (k502 _ (osi h501).symm) (s4 rfl rfl rfl rfl)
   ·refine Under.frzM (t := 3) rfl <| xt <| te ?_
    have e534 := done_eq h466 d467
    subst e534
    exact te <| bh <| tn <| wk (k270 _ (osi h269).symm) (s1 rfl)
/-- churn/window.kept -/
noncomputable def f_window_kept (a0 : Int) (a1 : Int) (a2 : Int) : Option Bool :=
  some ((decide (a0 ≤ a1)) && (decide ((IntKind.wrap .i64 (a1 - a0)) < a2)))
theorem f_window_kept_ok {a0 : Int} {a1 : Int} {a2 : Int} {r0 : Bool} (hF : f_window_kept a0 a1 a2 = some r0) (L : List Res) : Ok Try.prog 36 [SV.raw (.int .i64 a0), SV.raw (.int .i64 a1), SV.raw (.int .i64 a2)] (L) (SV.raw (.bool r0)) (L) := by
  unfold f_window_kept at hF
  refine Ok.intro 17 [(0, .raw (.int .i64 a0)), (1, .raw (.int .i64 a1)), (2, .raw (.int .i64 a2))] Try.func36 rfl rfl rfl rfl (fun F0 => ?_)
  refine sr <| ag rfl rfl <| ns <| mv rfl rfl <| mv rfl rfl <| bn rfl rfl rfl rfl <| mv rfl rfl <| runj_6 16 ((decide (a0 ≤ a1)) && (decide ((IntKind.wrap .i64 (a1 - a0)) < a2))) ?_ (fun k => ?_)
  ·refine ag rfl rfl <| nt <| rc ?_
   have e4 := osi hF
   subst e4
   exact Under.rets Try.results36 (.tm rfl .nil) rfl rfl
  ·refine by_ (t := 10) rfl (fun c1 => ?_) (fun c1 => ?_)
   ·exact gc c1 rfl rfl <| mv rfl rfl <| gc c1 rfl rfl <| mv rfl rfl <| gc c1 rfl rfl <| bn rfl rfl rfl rfl <| gc c1 rfl rfl <| mv rfl rfl <| gc c1 rfl rfl <| bn rfl rfl rfl rfl <| ov (pkT c1 rfl rfl) rfl <| rf 5 (and_t c1) rfl k
   ·exact sk c1 rfl rfl rfl <| sk c1 rfl rfl rfl <| sk c1 rfl rfl rfl <| sk c1 rfl rfl rfl <| sk c1 rfl rfl rfl <| ov (pkF c1 rfl rfl) rfl <| rf 5 (and_f (e := decide ((IntKind.wrap .i64 (a1 - a0)) < a2)) c1) rfl k
/-- bytes.Compare -/
noncomputable def f_bytes_Compare (a0 : List Int) (a1 : List Int) : Option Int :=
  some (cmpB a0 a1)
theorem f_bytes_Compare_ok {a0 : List Int} {a1 : List Int} {r0 : Int} (hF : f_bytes_Compare a0 a1 = some r0) (L : List Res) : Ok Try.prog 50 [SV.val (kSl K2) a0, SV.val (kSl K2) a1] (L) (SV.raw (.int .i64 r0)) (L) := by
  unfold f_bytes_Compare at hF
  refine Ok.intro 8 [(0, .val (kSl K2) a0), (1, .val (kSl K2) a1)] Try.func50 rfl rfl rfl rfl (fun F0 => ?_)
  refine sr <| ag rfl rfl <| ns <| mv rfl rfl <| mv rfl rfl <| ov (OpV.cmp Try.func55 nn55 nb55 nx55 fd55 rfl rfl rdV rfl rdV) rfl <| ag rfl rfl <| nt <| rc ?_
  have e1 := osi hF
  subst e1
  exact Under.rets Try.results50 (.tm rfl .nil) rfl rfl
/-- churn/window.order -/
noncomputable def f_window_order (a0 : List Int) (a1 : List Int) : Option Int :=
  (f_bytes_Compare a0 a1).bind fun y1 =>
  some y1
theorem f_window_order_ok {a0 : List Int} {a1 : List Int} {r0 : Int} (hF : f_window_order a0 a1 = some r0) (L : List Res) : Ok Try.prog 38 [SV.val K1 a0, SV.val K1 a1] (L) (SV.raw (.int .i64 r0)) (L) := by
  unfold f_window_order at hF
  refine Ok.intro 8 [(0, .val K1 a0), (1, .val K1 a1)] Try.func38 rfl rfl rfl rfl (fun F0 => ?_)
  obtain ⟨y1, h2, hF⟩ := bsome hF
  refine sr <| Under.bxF (K := kArr 16 K2) rfl rdV rfl <| Under.bxF (K := kArr 16 K2) rfl rdV rfl <| ag rfl rfl <| nt <| sq <| dw rfl (by kernel_rfl) fun F hF0 => oq (OpV.slA Try.underlying43 sz5 rfl) rfl <| oq (OpV.slA Try.underlying43 sz5 rfl) rfl <| oq (OpV.call Try.call50 rfl rfl (fun L => (f_bytes_Compare_ok h2 L))) rfl <| agq rfl rfl <| nlq hF0 <| tn <| rc ?_
  have e3 := osi hF
  subst e3
  exact Under.rets Try.results38 (.tm rfl .nil) rfl rfl
/-- slices.IsSortedFunc[[][16]byte,[16]byte] -/
noncomputable def f_slices_IsSortedFunc_window_order (a0 : List (List Int)) : Option Bool :=
  (((Loop.run (S := Int) (R := (Unit ⊕ Bool)) (fun x53 =>
      bif decide (x53 > 0) then
        (idx a0 x53).bind fun x65 =>
        (idx a0 (IntKind.wrap .i64 (x53 - 1))).bind fun x67 =>
        (f_window_order x65 x67).bind fun y69 =>
        bif decide (y69 < 0) then
          some (.done (.inr false))
        else
          some (.next (IntKind.wrap .i64 (x53 - 1)))
      else
        some (.done (.inl ()))) (IntKind.wrap .i64 ((a0.length : Int) - 1))).bind fun r62 => match r62 with
    | .inl _ =>
      some (.inr ())
    | .inr z =>
      some (.inl z)
    : Option (Bool ⊕ Unit))).bind fun r36 => match r36 with
    | .inl z =>
      some z
    | .inr _ =>
      some true
theorem f_slices_IsSortedFunc_window_order_ok {a0 : List (List Int)} {r0 : Bool} (hF : f_slices_IsSortedFunc_window_order a0 = some r0) (L : List Res) : Ok Try.prog 37 [SV.val K0 a0, SV.raw (.func (.func 38) #[] #[])] (L) (SV.raw (.bool r0)) (L) := by
  unfold f_slices_IsSortedFunc_window_order at hF
  refine Ok.intro 25 [(0, .val K0 a0), (1, .raw (.func (.func 38) #[] #[]))] Try.func37 rfl rfl rfl rfl (fun F0 => ?_)
  obtain ⟨r36, h37, hF⟩ := bsome hF
  refine sr <| ag rfl rfl <| nt <| sq <| Under.after (fun X => ∀ (_ : Unit), r36 = (.inr ()) → Under F0 25 [] (L) X) ?_ ?_
  ·intro _ h79
   replace h79 := h79.symm
   subst h79
   refine sr <| ag rfl rfl <| nt <| rc ?_
   have e39 := osi hF
   subst e39
   exact Under.rets Try.results37 (.tm rfl .nil) rfl rfl
  ·intro K k38
   obtain ⟨r62, h63, h37⟩ := bsome h37
   refine sr <| mv rfl rfl <| ov (OpV.len Try.underlying36 rfl rdV) rfl <| bn rfl rfl rfl rfl <| ag rfl rfl <| nt <| bk <| Under.loop (S := Int) (C := Unit) () (fun (x76 : Int) (q77 : Unit) => [(0, .val K0 a0), (1, .raw (.func (.func 38) #[] #[])), (5, .raw (.int .i64 x76))]) (fun (x76 : Int) (q77 : Unit) => L) h63 (s3 rfl rfl rfl) rfl (fun x76 q77 o64 h60 d61 => ?_)
   refine sq <| sr <| mv rfl rfl <| bn rfl rfl rfl rfl <| nt <| Under.ite h60 rfl (fun h60 => ?_) (fun h60 => ?_)
   ·obtain ⟨x65, h66, h60⟩ := bsome h60
    obtain ⟨x67, h68, h60⟩ := bsome h60
    obtain ⟨y69, h70, h60⟩ := bsome h60
    refine ct <| sq <| bk <| sq <| dw rfl (by kernel_rfl) fun F hF0 => mvq rfl rfl <| mvq rfl rfl <| mvq rfl rfl <| oq (OpV.ixS h66 Try.underlying36 sz43 rfl rdV rfl) rfl <| oq (OpV.ld kt43 rfl) rfl <| mvq rfl rfl <| mvq rfl rfl <| bnq rfl rfl rfl rfl <| oq (OpV.ixS h68 Try.underlying36 sz43 rfl rdV rfl) rfl <| oq (OpV.ld kt43 rfl) rfl <| oq (OpV.call Try.call38 rfl rfl (fun L => (f_window_order_ok h70 L))) rfl <| bnq rfl rfl rfl rfl <| nlq hF0 <| tn <| Under.ite h60 rfl (fun h60 => ?_) (fun h60 => ?_)
    ·refine sr <| ag rfl rfl <| nt <| rc <| Under.bR <| tr ?_
     have e71 := done_eq h60 d61
     subst e71
     refine tr <| Under.bR <| tr ?_
     have e72 := osi h37
     subst e72
     have e73 := osi hF
     subst e73
     exact Under.rets Try.results37 (.tm rfl .nil) rfl rfl
    ·exact cs <| bN <| tn <| rg <| mv rfl rfl <| bn rfl rfl rfl rfl <| ag rfl rfl <| nl <| Under.next _ () h60 (s3 rfl rfl rfl) rfl
   ·refine xt <| te ?_
    have e74 := done_eq h60 d61
    subst e74
    exact te <| bh <| tn <| wk (k38 () (osi h37).symm) (sub_nil _)
/-- churn/window.Check -/
noncomputable def f_window_Check (a0 : Api_Window) (a1 : Int) (a2 : Int) : Option Int :=
  bif (((decide (a1 < 1)) || (decide (a1 > 8))) || (decide (a2 < 0))) || (decide (a2 > 4096)) then
    some 2
  else
    ((bif (decide (a0.Newest < 0)) || (decide (a0.Newest > 4611686018427387904)) then
      some true
    else
      (f_window_Len a0).bind fun y11 =>
      some (decide (y11 > a2))
      : Option Bool)).bind fun x13 =>
    ((bif x13 then
      some true
    else
      (f_window_known a0).bind fun y15 =>
      (f_window_Len a0).bind fun y17 =>
      some ((y15.length : Int) != y17)
      : Option Bool)).bind fun x19 =>
    bif x19 then
      some 2
    else
      (((Loop.run (S := Int) (R := (Unit ⊕ Int)) (fun x165 =>
          bif decide (x165 < (a0.Epochs.length : Int)) then
            (idx a0.Epochs x165).bind fun x192 =>
            ((bif decide (x192.Number < 0) then
              some true
            else
              (f_window_kept x192.Number a0.Newest a1).bind fun y198 =>
              some (!y198)
              : Option Bool)).bind fun x197 =>
            ((bif x197 then
              some true
            else
              ((bif decide (x165 > 0) then
                (idx a0.Epochs (IntKind.wrap .i64 (x165 - 1))).bind fun x206 =>
                some (decide (x192.Number ≤ x206.Number))
              else
                some false
                : Option Bool)).bind fun x205 =>
              some x205
              : Option Bool)).bind fun x202 =>
            bif x202 || ((x192.Tags.length : Int) == 0) then
              some (.done (.inr 2))
            else
              (f_slices_IsSortedFunc_window_order x192.Tags).bind fun y214 =>
              bif !y214 then
                some (.done (.inr 2))
              else
                some (.next (IntKind.wrap .i64 (x165 + 1)))
          else
            some (.done (.inl ()))) 0).bind fun r189 => match r189 with
        | .inl _ =>
          some (.inr ())
        | .inr z =>
          some (.inl z)
        : Option (Int ⊕ Unit))).bind fun r118 => match r118 with
        | .inl z =>
          some z
        | .inr _ =>
          some 0
theorem f_window_Check_ok {a0 : Api_Window} {a1 : Int} {a2 : Int} {r0 : Int} (hF : f_window_Check a0 a1 a2 = some r0) (L : List Res) : Ok Try.prog 16 [SV.val kApi_Window a0, SV.raw (.int .i64 a1), SV.raw (.int .i64 a2)] (L) (SV.raw (.int .i64 r0)) (L) := by
  unfold f_window_Check at hF
  refine Ok.intro 92 [(0, .val kApi_Window a0), (1, .raw (.int .i64 a1)), (2, .raw (.int .i64 a2))] Try.func16 rfl rfl rfl rfl (fun F0 => ?_)
  refine sr <| Under.bxF (K := kApi_Window) rfl rdV rfl <| ag rfl rfl <| nt <| sq <| sr <| mv rfl rfl <| bn rfl rfl rfl rfl <| mv rfl rfl <| runj_3 14 ((decide (a1 < 1)) || (decide (a1 > 8))) ?_ (fun k => ?_)
  ·refine mv rfl rfl <| runj_3 18 (((decide (a1 < 1)) || (decide (a1 > 8))) || (decide (a2 < 0))) ?_ (fun k => ?_)
   ·refine mv rfl rfl <| runj_3 22 ((((decide (a1 < 1)) || (decide (a1 > 8))) || (decide (a2 < 0))) || (decide (a2 > 4096))) ?_ (fun k => ?_)
    ·refine nt <| Under.ite hF rfl (fun hF => ?_) (fun hF => ?_)
     ·refine sr <| ag rfl rfl <| nt <| rt ?_
      have e10 := osi hF
      subst e10
      exact Under.rets Try.results16 (.tm rfl .nil) rfl rfl
     ·obtain ⟨x13, h14, hF⟩ := bsome hF
      obtain ⟨x19, h20, hF⟩ := bsome hF
      refine ct <| sq <| sq <| Under.drawz [[3], [23], [24], [25], [3, 26], [26, 27], [26, 28], [26, 29], [30], [3, 31], [31, 32], [2, 31], [31, 33, 34], [31, 35], [36], [3, 37], [37, 38], [37, 39], [3, 37], [37, 41], [37, 40, 42], [37, 43]] [(44, .raw (.bool x19))] rfl (by kernel_rfl) rfl ?_ (fun k F hF0 => ?_)
      ·refine tn <| Under.ite hF rfl (fun hF => ?_) (fun hF => ?_)
       ·refine sr <| ag rfl rfl <| nt <| rt ?_
        have e21 := osi hF
        subst e21
        exact Under.rets Try.results16 (.tm rfl .nil) rfl rfl
       ·obtain ⟨r118, h119, hF⟩ := bsome hF
        refine ct <| sq <| Under.after (fun X => ∀ (_ : Unit), r118 = (.inr ()) → Under F0 92 [] (L) X) ?_ ?_
        ·intro _ h224
         replace h224 := h224.symm
         subst h224
         refine sr <| ag rfl rfl <| nt <| rc ?_
         have e121 := osi hF
         subst e121
         exact Under.rets Try.results16 (.tm rfl .nil) rfl rfl
        ·intro K k120
         obtain ⟨r189, h190, h119⟩ := bsome h119
         refine sr <| ov (OpV.fd fb27_1 rfl rfl) rfl <| ov (OpV.ld kt25 rfl) rfl <| ov (OpV.len Try.underlying25 rfl rdV) rfl <| mv rfl rfl <| nt <| bk <| Under.loop (S := Int) (C := Unit) () (fun (x221 : Int) (q222 : Unit) => [(1, .raw (.int .i64 a1)), (3, .ptr kApi_Window a0), (46, .val (kSl kApi_Epoch) a0.Epochs), (47, .raw (.int .i64 (a0.Epochs.length : Int))), (48, .raw (.int .i64 x221))]) (fun (x221 : Int) (q222 : Unit) => L) h190 (s5 rfl rfl rfl rfl rfl) rfl (fun x221 q222 o191 h187 d188 => ?_)
         refine sr <| bn rfl rfl rfl rfl <| nt <| sq <| Under.ite h187 rfl (fun h187 => ?_) (fun h187 => ?_)
         ·obtain ⟨x192, h193, h187⟩ := bsome h187
          obtain ⟨x197, h196, h187⟩ := bsome h187
          refine ct <| sq <| bk <| sr <| mv rfl rfl <| ov (OpV.ixS h193 Try.underlying25 sz61 rfl rdV rfl) rfl <| ov (OpV.ld kt61 rfl) rfl <| Under.al ZT61 rfl fun b194 => ag rfl rfl <| Under.stP (x' := x192) .box .id sz61_kApi_Epoch rfl rfl rdV rfl <| nl <| Under.frz (t := 8) rfl <| tn <| sq <| sq <| dw rfl (by kernel_rfl) fun F hF0 => oq (OpV.fd fb61_0 rfl rfl) rfl <| oq (OpV.ldI kt2 rfl) rfl <| bnq rfl rfl rfl rfl <| mvq rfl rfl <| runj_8q 64 x197 ?_ (fun k => ?_)
          ·obtain ⟨x202, h201, h187⟩ := bsome h187
           refine mvq rfl rfl <| runj_15q 80 x202 ?_ (fun k => ?_)
           ·refine mvq rfl rfl <| runj_5q 86 (x202 || ((x192.Tags.length : Int) == 0)) ?_ (fun k => ?_)
            ·refine nlq hF0 <| tn <| Under.ite h187 rfl (fun h187 => ?_) (fun h187 => ?_)
             ·refine sr <| ag rfl rfl <| nt <| rt <| Under.bR <| tr ?_
              have e211 := done_eq h187 d188
              subst e211
              refine tr <| Under.bR <| tr ?_
              have e212 := osi h119
              subst e212
              have e213 := osi hF
              subst e213
              exact Under.rets Try.results16 (.tm rfl .nil) rfl rfl
             ·obtain ⟨y214, h215, h187⟩ := bsome h187
              refine ct <| sr <| ov (OpV.fd fb61_1 rfl rfl) rfl <| ov (OpV.ld kt36 rfl) rfl <| Under.call Try.call37 rfl rfl (f_slices_IsSortedFunc_window_order_ok h215 _) rfl <| ov (OpV.not rfl) rfl <| nt <| Under.ite h187 rfl (fun h187 => ?_) (fun h187 => ?_)
              ·refine sr <| ag rfl rfl <| nt <| rc <| Under.bR <| tr ?_
               have e216 := done_eq h187 d188
               subst e216
               refine tr <| Under.bR <| tr ?_
               have e217 := osi h119
               subst e217
               have e218 := osi hF
               subst e218
               exact Under.rets Try.results16 (.tm rfl .nil) rfl rfl
              ·exact cs <| bN <| tn <| rg <| bn rfl rfl rfl rfl <| mv rfl rfl <| nl <| Under.next _ () h187 (s5 rfl rfl rfl rfl rfl) rfl
            ·refine byq (t := 81) rfl (fun c208 => ?_) (fun c208 => ?_)
             ·exact skq c208 rfl rfl rfl <| skq c208 rfl rfl rfl <| skq c208 rfl rfl rfl <| skq c208 rfl rfl rfl <| oq (pkT c208 rfl rfl) rfl <| rfq 4 (or_t (e := (x192.Tags.length : Int) == 0) c208) rfl k
             ·exact gq c208 rfl rfl <| oq (OpV.fd fb61_1 rfl rfl) rfl <| gq c208 rfl rfl <| oq (OpV.ld kt36 rfl) rfl <| gq c208 rfl rfl <| oq (OpV.len Try.underlying36 rfl rdV) rfl <| gq c208 rfl rfl <| bnq rfl rfl rfl rfl <| oq (pkF c208 rfl rfl) rfl <| rfq 4 (or_f c208) rfl k
           ·refine byq (t := 65) rfl (fun c200 => ?_) (fun c200 => ?_)
            ·replace h201 := ctrue c200 h201
             exact skq c200 rfl rfl rfl <| skq c200 rfl rfl rfl <| skq c200 rfl rfl rfl <| UnderQ.sku rfl rfl rfl <| UnderQ.sku rfl rfl rfl <| UnderQ.sku rfl rfl rfl <| UnderQ.sku rfl rfl rfl <| UnderQ.sku rfl rfl rfl <| UnderQ.sku rfl rfl rfl <| UnderQ.sku rfl rfl rfl <| UnderQ.sku rfl rfl rfl <| UnderQ.sku rfl rfl rfl <| UnderQ.sku rfl rfl rfl <| skq c200 rfl rfl rfl <| oq (pkT c200 rfl rfl) rfl <| rfq 14 (rbq h201) rfl k
            ·replace h201 := cfalse c200 h201
             obtain ⟨x205, h204, h201⟩ := bsome h201
             refine gq c200 rfl rfl <| mvq rfl rfl <| gq c200 rfl rfl <| bnq rfl rfl rfl rfl <| gq c200 rfl rfl <| mvq rfl rfl <| runj_11q 79 x205 ?_ (fun k => ?_)
             ·exact oq (pkF c200 rfl rfl) rfl <| rfq 4 (rbq h201) rfl k
             ·refine byq (t := 68) rfl (fun c203 => ?_) (fun c203 => ?_)
              ·replace h204 := ctrue c203 h204
               obtain ⟨x206, h207, h204⟩ := bsome h204
               exact gq c203 rfl rfl <| oq (OpV.fd fb61_0 rfl rfl) rfl <| gq c203 rfl rfl <| oq (OpV.ldI kt2 rfl) rfl <| gq c203 rfl rfl <| oq (OpV.fd fb27_1 rfl rfl) rfl <| gq c203 rfl rfl <| oq (OpV.ld kt25 rfl) rfl <| gq c203 rfl rfl <| mvq rfl rfl <| gq c203 rfl rfl <| bnq rfl rfl rfl rfl <| gq c203 rfl rfl <| oq (OpV.ixS h207 Try.underlying25 sz61 rfl rdV rfl) rfl <| gq c203 rfl rfl <| oq (OpV.fd fb61_0 rfl rfl) rfl <| gq c203 rfl rfl <| oq (OpV.ldI kt2 rfl) rfl <| gq c203 rfl rfl <| bnq rfl rfl rfl rfl <| gq c200 rfl rfl <| oq (pkT c203 rfl rfl) rfl <| rfq 10 (rbq h204) rfl k
              ·replace h204 := cfalse c203 h204
               exact skq c203 rfl rfl rfl <| skq c203 rfl rfl rfl <| skq c203 rfl rfl rfl <| skq c203 rfl rfl rfl <| skq c203 rfl rfl rfl <| skq c203 rfl rfl rfl <| skq c203 rfl rfl rfl <| skq c203 rfl rfl rfl <| skq c203 rfl rfl rfl <| skq c203 rfl rfl rfl <| gq c200 rfl rfl <| oq (pkF c203 rfl rfl) rfl <| rfq 10 (rbq h204) rfl k
          ·refine byq (t := 56) rfl (fun c195 => ?_) (fun c195 => ?_)
           ·replace h196 := ctrue c195 h196
            exact skq c195 rfl rfl rfl <| skq c195 rfl rfl rfl <| skq c195 rfl rfl rfl <| skq c195 rfl rfl rfl <| skq c195 rfl rfl rfl <| skq c195 rfl rfl rfl <| skq c195 rfl rfl rfl <| oq (pkT c195 rfl rfl) rfl <| rfq 7 (rbq h196) rfl k
           ·replace h196 := cfalse c195 h196
            obtain ⟨y198, h199, h196⟩ := bsome h196
            exact gq c195 rfl rfl <| oq (OpV.fd fb61_0 rfl rfl) rfl <| gq c195 rfl rfl <| oq (OpV.ldI kt2 rfl) rfl <| gq c195 rfl rfl <| oq (OpV.fd fb27_0 rfl rfl) rfl <| gq c195 rfl rfl <| oq (OpV.ldI kt2 rfl) rfl <| gq c195 rfl rfl <| mvq rfl rfl <| gq c195 rfl rfl <| oq (OpV.call Try.call36 rfl rfl (fun L => (f_window_kept_ok h199 L))) rfl <| gq c195 rfl rfl <| oq (OpV.not rfl) rfl <| oq (pkF c195 rfl rfl) rfl <| rfq 7 (rbq h196) rfl k
         ·refine xt <| te ?_
          have e219 := done_eq h187 d188
          subst e219
          exact te <| bh <| tn <| wk (k120 () (osi h119).symm) (sub_nil _)
      ·refine Zq.st (.ptr (kInt .i64) a0.Newest) (fun G hG => ?_) ?_
       ·exact ov (OpV.fd fb27_0 rfl rfl) rfl <| Zq.done rfl
       refine Zq.st (.raw (.int .i64 a0.Newest)) (fun G hG => ?_) ?_
       ·exact ov (OpV.ldI kt2 rfl) rfl <| Zq.done rfl
       refine Zq.st (.raw (.bool (decide (a0.Newest < 0)))) (fun G hG => ?_) ?_
       ·exact bn rfl rfl rfl rfl <| Zq.done rfl
       refine Zq.st (.raw (.bool (decide (a0.Newest < 0)))) (fun G hG => ?_) ?_
       ·exact mv rfl rfl <| Zq.done rfl
       refine Zq.by (decide (a0.Newest < 0)) (fun c225 => ?_) (fun c225 => ?_)
       ·refine Zq.st (.raw undef) (fun G hG => ?_) ?_
        ·exact sk c225 rfl rfl rfl <| Zq.done rfl
        refine Zq.st (.raw undef) (fun G hG => ?_) ?_
        ·exact sk c225 rfl rfl rfl <| Zq.done rfl
        refine Zq.st (.raw undef) (fun G hG => ?_) ?_
        ·exact sk c225 rfl rfl rfl <| Zq.done rfl
        refine Zq.st (.raw (.bool ((decide (a0.Newest < 0)) || (decide (a0.Newest > 4611686018427387904))))) (fun G hG => ?_) ?_
        ·exact ov (pkT c225 rfl rfl) rfl <| Under.top (or_t (e := decide (a0.Newest > 4611686018427387904)) c225) <| Zq.done rfl
        have c226 := or_tb (e := decide (a0.Newest > 4611686018427387904)) c225
        refine Zq.st (.raw (.bool ((decide (a0.Newest < 0)) || (decide (a0.Newest > 4611686018427387904))))) (fun G hG => ?_) ?_
        ·exact mv rfl rfl <| Zq.done rfl
        replace h14 := ctrue c226 h14
        refine Zq.st (.raw undef) (fun G hG => ?_) ?_
        ·exact sk c226 rfl rfl rfl <| Zq.done rfl
        refine Zq.st (.raw undef) (fun G hG => ?_) ?_
        ·exact sk c226 rfl rfl rfl <| Zq.done rfl
        refine Zq.st (.raw undef) (fun G hG => ?_) ?_
        ·exact sk c226 rfl rfl rfl <| Zq.done rfl
        refine Zq.st (.raw undef) (fun G hG => ?_) ?_
        ·exact sk c226 rfl rfl rfl <| Zq.done rfl
        refine Zq.st (.raw (.bool x13)) (fun G hG => ?_) ?_
        ·exact ov (pkT c226 rfl rfl) rfl <| Under.top (rbq h14) <| Zq.done rfl
        have c227 := (osi h14).symm
        refine Zq.st (.raw (.bool x13)) (fun G hG => ?_) ?_
        ·exact mv rfl rfl <| Zq.done rfl
        replace h20 := ctrue c227 h20
        refine Zq.st (.raw undef) (fun G hG => ?_) ?_
        ·exact sk c227 rfl rfl rfl <| Zq.done rfl
        refine Zq.st (.raw undef) (fun G hG => ?_) ?_
        ·exact sk c227 rfl rfl rfl <| Zq.done rfl
        refine Zq.st (.raw undef) (fun G hG => ?_) ?_
        ·exact sk c227 rfl rfl rfl <| Zq.done rfl
        refine Zq.st (.raw undef) (fun G hG => ?_) ?_
        ·exact sk c227 rfl rfl rfl <| Zq.done rfl
        refine Zq.st (.raw undef) (fun G hG => ?_) ?_
        ·exact sk c227 rfl rfl rfl <| Zq.done rfl
        refine Zq.st (.raw undef) (fun G hG => ?_) ?_
        ·exact sk c227 rfl rfl rfl <| Zq.done rfl
        refine Zq.st (.raw (.bool x19)) (fun G hG => ?_) ?_
        ·exact ov (pkT c227 rfl rfl) rfl <| Under.top (rbq h20) <| Zq.done rfl
        have c228 := (osi h20).symm
        exact Zq.nil (Zq.fin 22 hF0 (SubZ.cons rfl rfl SubZ.nil) rfl k)
       ·refine Zq.st (.ptr (kInt .i64) a0.Newest) (fun G hG => ?_) ?_
        ·exact gc c225 rfl rfl <| ov (OpV.fd fb27_0 rfl rfl) rfl <| Zq.done rfl
        refine Zq.st (.raw (.int .i64 a0.Newest)) (fun G hG => ?_) ?_
        ·exact gc c225 rfl rfl <| ov (OpV.ldI kt2 rfl) rfl <| Zq.done rfl
        refine Zq.st (.raw (.bool (decide (a0.Newest > 4611686018427387904)))) (fun G hG => ?_) ?_
        ·exact gc c225 rfl rfl <| bn rfl rfl rfl rfl <| Zq.done rfl
        refine Zq.st (.raw (.bool ((decide (a0.Newest < 0)) || (decide (a0.Newest > 4611686018427387904))))) (fun G hG => ?_) ?_
        ·exact ov (pkF c225 rfl rfl) rfl <| Under.top (or_f c225) <| Zq.done rfl
        refine Zq.st (.raw (.bool ((decide (a0.Newest < 0)) || (decide (a0.Newest > 4611686018427387904))))) (fun G hG => ?_) ?_
        ·exact mv rfl rfl <| Zq.done rfl
        refine Zq.by ((decide (a0.Newest < 0)) || (decide (a0.Newest > 4611686018427387904))) (fun c229 => ?_) (fun c229 => ?_)
        ·replace h14 := ctrue c229 h14
         refine Zq.st (.raw undef) (fun G hG => ?_) ?_
         ·exact sk c229 rfl rfl rfl <| Zq.done rfl
         refine Zq.st (.raw undef) (fun G hG => ?_) ?_
         ·exact sk c229 rfl rfl rfl <| Zq.done rfl
         refine Zq.st (.raw undef) (fun G hG => ?_) ?_
         ·exact sk c229 rfl rfl rfl <| Zq.done rfl
         refine Zq.st (.raw undef) (fun G hG => ?_) ?_
         ·exact sk c229 rfl rfl rfl <| Zq.done rfl
         refine Zq.st (.raw (.bool x13)) (fun G hG => ?_) ?_
         ·exact ov (pkT c229 rfl rfl) rfl <| Under.top (rbq h14) <| Zq.done rfl
         have c230 := (osi h14).symm
         refine Zq.st (.raw (.bool x13)) (fun G hG => ?_) ?_
         ·exact mv rfl rfl <| Zq.done rfl
         replace h20 := ctrue c230 h20
         refine Zq.st (.raw undef) (fun G hG => ?_) ?_
         ·exact sk c230 rfl rfl rfl <| Zq.done rfl
         refine Zq.st (.raw undef) (fun G hG => ?_) ?_
         ·exact sk c230 rfl rfl rfl <| Zq.done rfl
         refine Zq.st (.raw undef) (fun G hG => ?_) ?_
         ·exact sk c230 rfl rfl rfl <| Zq.done rfl
         refine Zq.st (.raw undef) (fun G hG => ?_) ?_
         ·exact sk c230 rfl rfl rfl <| Zq.done rfl
         refine Zq.st (.raw undef) (fun G hG => ?_) ?_
         ·exact sk c230 rfl rfl rfl <| Zq.done rfl
         refine Zq.st (.raw undef) (fun G hG => ?_) ?_
         ·exact sk c230 rfl rfl rfl <| Zq.done rfl
         refine Zq.st (.raw (.bool x19)) (fun G hG => ?_) ?_
         ·exact ov (pkT c230 rfl rfl) rfl <| Under.top (rbq h20) <| Zq.done rfl
         have c231 := (osi h20).symm
         exact Zq.nil (Zq.fin 22 hF0 (SubZ.cons rfl rfl SubZ.nil) rfl k)
        ·replace h14 := cfalse c229 h14
         obtain ⟨y11, h12, h14⟩ := bsome h14
         refine Zq.st (.val kApi_Window a0) (fun G hG => ?_) ?_
         ·exact gc c229 rfl rfl <| ov (OpV.ld kt27 rfl) rfl <| Zq.done rfl
         refine Zq.st (.raw (.int .i64 y11)) (fun G hG => ?_) ?_
         ·exact gc c229 rfl rfl <| Under.call Try.call18 rfl rfl (f_window_Len_ok h12 _) rfl <| Zq.done rfl
         refine Zq.st (.raw (.int .i64 a2)) (fun G hG => ?_) ?_
         ·exact gc c229 rfl rfl <| mv rfl rfl <| Zq.done rfl
         refine Zq.st (.raw (.bool (decide (y11 > a2)))) (fun G hG => ?_) ?_
         ·exact gc c229 rfl rfl <| bn rfl rfl rfl rfl <| Zq.done rfl
         refine Zq.st (.raw (.bool x13)) (fun G hG => ?_) ?_
         ·exact ov (pkF c229 rfl rfl) rfl <| Under.top (rbq h14) <| Zq.done rfl
         refine Zq.st (.raw (.bool x13)) (fun G hG => ?_) ?_
         ·exact mv rfl rfl <| Zq.done rfl
         refine Zq.by x13 (fun c232 => ?_) (fun c232 => ?_)
         ·replace h20 := ctrue c232 h20
          refine Zq.st (.raw undef) (fun G hG => ?_) ?_
          ·exact sk c232 rfl rfl rfl <| Zq.done rfl
          refine Zq.st (.raw undef) (fun G hG => ?_) ?_
          ·exact sk c232 rfl rfl rfl <| Zq.done rfl
          refine Zq.st (.raw undef) (fun G hG => ?_) ?_
          ·exact sk c232 rfl rfl rfl <| Zq.done rfl
          refine Zq.st (.raw undef) (fun G hG => ?_) ?_
          ·exact sk c232 rfl rfl rfl <| Zq.done rfl
          refine Zq.st (.raw undef) (fun G hG => ?_) ?_
          ·exact sk c232 rfl rfl rfl <| Zq.done rfl
          refine Zq.st (.raw undef) (fun G hG => ?_) ?_
          ·exact sk c232 rfl rfl rfl <| Zq.done rfl
          refine Zq.st (.raw (.bool x19)) (fun G hG => ?_) ?_
          ·exact ov (pkT c232 rfl rfl) rfl <| Under.top (rbq h20) <| Zq.done rfl
          have c233 := (osi h20).symm
          exact Zq.nil (Zq.fin 22 hF0 (SubZ.cons rfl rfl SubZ.nil) rfl k)
         ·replace h20 := cfalse c232 h20
          obtain ⟨y15, h16, h20⟩ := bsome h20
          obtain ⟨y17, h18, h20⟩ := bsome h20
          refine Zq.st (.val kApi_Window a0) (fun G hG => ?_) ?_
          ·exact gc c232 rfl rfl <| ov (OpV.ld kt27 rfl) rfl <| Zq.done rfl
          refine Zq.st (.val (kMap K1 (kInt .i64)) y15) (fun G hG => ?_) ?_
          ·exact gc c232 rfl rfl <| Under.call Try.call35 rfl rfl (f_window_known_ok h16 _) rfl <| Zq.done rfl
          refine Zq.st (.raw (.int .i64 (y15.length : Int))) (fun G hG => ?_) ?_
          ·exact gc c232 rfl rfl <| ov (OpV.lenM Try.underlying69 rfl) rfl <| Zq.done rfl
          refine Zq.st (.val kApi_Window a0) (fun G hG => ?_) ?_
          ·exact gc c232 rfl rfl <| ov (OpV.ld kt27 rfl) rfl <| Zq.done rfl
          refine Zq.st (.raw (.int .i64 y17)) (fun G hG => ?_) ?_
          ·exact gc c232 rfl rfl <| Under.call Try.call18 rfl rfl (f_window_Len_ok h18 _) rfl <| Zq.done rfl
          refine Zq.st (.raw (.bool ((y15.length : Int) != y17))) (fun G hG => ?_) ?_
          ·exact gc c232 rfl rfl <| bn rfl rfl rfl rfl <| Zq.done rfl
          refine Zq.st (.raw (.bool x19)) (fun G hG => ?_) ?_
          ·exact ov (pkF c232 rfl rfl) rfl <| Under.top (rbq h20) <| Zq.done rfl
          exact Zq.nil (Zq.fin 22 hF0 (SubZ.cons rfl rfl SubZ.nil) rfl k)
    ·refine by_ (t := 19) rfl (fun c7 => ?_) (fun c7 => ?_)
     ·exact sk c7 rfl rfl rfl <| sk c7 rfl rfl rfl <| ov (pkT c7 rfl rfl) rfl <| rf 2 (or_t (e := decide (a2 > 4096)) c7) rfl k
     ·exact gc c7 rfl rfl <| mv rfl rfl <| gc c7 rfl rfl <| bn rfl rfl rfl rfl <| ov (pkF c7 rfl rfl) rfl <| rf 2 (or_f c7) rfl k
   ·refine by_ (t := 15) rfl (fun c4 => ?_) (fun c4 => ?_)
    ·exact sk c4 rfl rfl rfl <| sk c4 rfl rfl rfl <| ov (pkT c4 rfl rfl) rfl <| rf 2 (or_t (e := decide (a2 < 0)) c4) rfl k
    ·exact gc c4 rfl rfl <| mv rfl rfl <| gc c4 rfl rfl <| bn rfl rfl rfl rfl <| ov (pkF c4 rfl rfl) rfl <| rf 2 (or_f c4) rfl k
  ·refine by_ (t := 11) rfl (fun c1 => ?_) (fun c1 => ?_)
   ·exact sk c1 rfl rfl rfl <| sk c1 rfl rfl rfl <| ov (pkT c1 rfl rfl) rfl <| rf 2 (or_t (e := decide (a1 > 8)) c1) rfl k
   ·exact gc c1 rfl rfl <| mv rfl rfl <| gc c1 rfl rfl <| bn rfl rfl rfl rfl <| ov (pkF c1 rfl rfl) rfl <| rf 2 (or_f c1) rfl k
/-- slices.Clone[[][16]byte,[16]byte] -/
noncomputable def f_slices_Clone_ro (a0 : List (List Int)) : Option (List (List Int)) :=
  (app [] a0).bind fun z5 =>
  some z5
theorem f_slices_Clone_ro_ok {a0 : List (List Int)} {r0 : (List (List Int))} (hF : f_slices_Clone_ro a0 = some r0) (L : List Res) : OkX Try.prog 46 [SV.val K0 a0] (L) (fun y : Value => SV.raw y) (fun y : Value => (.own K1 y 43 r0) :: L) := by
  unfold f_slices_Clone_ro at hF
  refine OkX.intro 8 [(0, .val K0 a0)] Try.func46 rfl rfl rfl rfl (fun F0 => ?_)
  refine sr <| ag rfl rfl <| nt <| sq <| sr <| mv rfl rfl <| Under.eqNil Try.underlying36 rfl rfl fun b1 h2 => nt <| Under.conde rfl (fun h9 => ?_) (fun _ => ?_)
  ·replace hF : (some []) = some r0 := by rw [h2 h9] at hF; simpa [app, room] using hF
   refine sr <| ag rfl rfl <| nt <| rt <| Under.ownNil (K := kArr 16 K2) (e := 43) ?_
   have e3 := osi hF
   subst e3
   exact Under.retsX (.slice none 0 0) Try.results46 (.tm rfl .nil) rfl rfl
  ·obtain ⟨z5, h6, hF⟩ := bsome hF
   refine ct <| sr <| Under.bsO (ys := []) Try.underlying36 ET43 (BldA.nil _) rfl rfl fun v4 => mv rfl rfl <| Under.app h6 Try.underlying36 AT43 rfl rfl rdV rfl fun v7 => ag rfl rfl <| nt <| rc ?_
   have e8 := osi hF
   subst e8
   exact Under.retsX v7 Try.results46 (.tm rfl .nil) rfl rfl
/-- churn/window.Add -/
noncomputable def f_window_Add (a0 : Api_Window) (a1 : Int) (a2 : List (List Int)) (a3 : Int) : Option (Api_Window × Int) :=
  ((bif (decide (a3 < 0)) || (decide (a3 > 4096)) then
    some true
  else
    (f_window_Check a0 8 4096).bind fun y8 =>
    some (y8 != 0)
    : Option Bool)).bind fun x7 =>
  bif x7 then
    some ((⟨0, []⟩ : Api_Window), 2)
  else
    ((bif decide (a1 < 0) then
      some true
    else
      (f_window_kept a1 a0.Newest 8).bind fun y14 =>
      some (!y14)
      : Option Bool)).bind fun x13 =>
    bif x13 then
      some ((⟨0, []⟩ : Api_Window), 161)
    else
      (((Loop.run (S := (Int × (List ((List Int) × Int)))) (R := (List ((List Int) × Int))) (fun (x933, x934) =>
          bif decide (x933 < (a2.length : Int)) then
            (idx a2 x933).bind fun x944 =>
            some (.next (IntKind.wrap .i64 (x933 + 1), mset x944 x933 x934))
          else
            some (.done x934)) (0, [])).bind fun x938 =>
      some x938
        : Option (List ((List Int) × Int)))).bind fun x43 =>
      (f_window_known a0).bind fun y47 =>
      allOrd (S := (List ((List Int) × Int))) y47 (fun (p70 : (List Int) × Int) x67 =>
          some (mdel p70.1 x67)) (fun x67 =>
          (f_window_Len a0).bind fun y74 =>
          bif decide ((IntKind.wrap .i64 (y74 + (x67.length : Int))) > a3) then
            some ((⟨0, []⟩ : Api_Window), 160)
          else
            allOrd (S := (List (List Int))) x67 (fun (p106 : (List Int) × Int) x103 =>
                (app x103 [p106.1]).bind fun z917 =>
                some z917) (fun x103 =>
                (Loop.run (S := (Int × (List Api_Epoch) × Bool)) (R := ((List Api_Epoch) × Bool)) (fun (x242, x244, mode_) =>
                    bif mode_ then
                      bif decide (x242 < (a0.Epochs.length : Int)) then
                        (idx a0.Epochs x242).bind fun x497 =>
                        ((some ()
                          : Option Unit)).bind fun _ =>
                        (f_slices_Clone_ro x497.Tags).bind fun y507 =>
                        (app x244 [(⟨x497.Number, y507⟩ : Api_Epoch)]).bind fun z511 =>
                        some (.next (IntKind.wrap .i64 (x242 + 1), z511, true))
                      else
                        some (.done (x244, true))
                    else
                      bif decide (x242 < (a0.Epochs.length : Int)) then
                        (idx a0.Epochs x242).bind fun x316 =>
                        bif decide (x316.Number ≥ a1) then
                          bif decide (x316.Number > a1) then
                            (app x244 [(⟨a1, x103⟩ : Api_Epoch)]).bind fun z323 =>
                            (f_slices_Clone_ro x316.Tags).bind fun y328 =>
                            (app z323 [(⟨x316.Number, y328⟩ : Api_Epoch)]).bind fun z332 =>
                            some (.next (IntKind.wrap .i64 (x242 + 1), z332, true))
                          else
                            (app x103 x316.Tags).bind fun z336 =>
                            (f_slices_Clone_ro (({ x316 with Tags := z336 } : Api_Epoch).Tags)).bind fun y340 =>
                            (app x244 [(⟨({ x316 with Tags := z336 } : Api_Epoch).Number, y340⟩ : Api_Epoch)]).bind fun z344 =>
                            some (.next (IntKind.wrap .i64 (x242 + 1), z344, true))
                        else
                          (f_slices_Clone_ro x316.Tags).bind fun y349 =>
                          (app x244 [(⟨x316.Number, y349⟩ : Api_Epoch)]).bind fun z353 =>
                          some (.next (IntKind.wrap .i64 (x242 + 1), z353, false))
                      else
                        some (.done (x244, false))) (0, [], (x103.length : Int) == 0)).bind fun r313 => match r313 with
                  | (x310, mode_) =>
                    bif mode_ then
                      ((some ()
                        : Option Unit)).bind fun _ =>
                      (((Loop.run (S := ((List Api_Epoch) × Int)) (R := Api_Window) (fun (x739, x740) =>
                          bif decide (x740 < (x310.length : Int)) then
                            (idx x739 x740).bind fun x758 =>
                            (sortG x758.Tags).bind fun y767 =>
                            some (.next (List.set x739 (Int.toNat x740) ({ x758 with Tags := y767 } : Api_Epoch), IntKind.wrap .i64 (x740 + 1)))
                          else
                            some (.done (⟨a0.Newest, x739⟩ : Api_Window))) (x310, 0)).bind fun x752 =>
                      some x752
                        : Option Api_Window)).bind fun x710 =>
                      some (x710, 0)
                    else
                      (((app x310 [(⟨a1, x103⟩ : Api_Epoch)]).bind fun z910 =>
                      some z910
                        : Option (List Api_Epoch))).bind fun x783 =>
                      (((Loop.run (S := ((List Api_Epoch) × Int)) (R := Api_Window) (fun (x873, x874) =>
                          bif decide (x874 < (x783.length : Int)) then
                            (idx x873 x874).bind fun x892 =>
                            (sortG x892.Tags).bind fun y901 =>
                            some (.next (List.set x873 (Int.toNat x874) ({ x892 with Tags := y901 } : Api_Epoch), IntKind.wrap .i64 (x874 + 1)))
                          else
                            some (.done (⟨a0.Newest, x873⟩ : Api_Window))) (x783, 0)).bind fun x886 =>
                      some x886
                        : Option Api_Window)).bind fun x844 =>
                      some (x844, 0)) []) x43
theorem f_window_Add_ok {a0 : Api_Window} {a1 : Int} {a2 : List (List Int)} {a3 : Int} {r0 : (Api_Window × Int)} (hF : f_window_Add a0 a1 a2 a3 = some r0) (L : List Res) : Ok Try.prog 26 [SV.val kApi_Window a0, SV.raw (.int .i64 a1), SV.val K0 a2, SV.raw (.int .i64 a3)] (L) (SV.tup [SV.val kApi_Window r0.1, SV.raw (.int .i64 r0.2)]) (L) := by
  unfold f_window_Add at hF
  refine Ok.intro 155 [(0, .val kApi_Window a0), (1, .raw (.int .i64 a1)), (2, .val K0 a2), (3, .raw (.int .i64 a3))] Try.func26 rfl rfl rfl rfl (fun F0 => ?_)
  refine sr <| Under.bxF (K := kApi_Window) rfl rdV rfl <| Under.al ZT27 rfl fun b1 => ag rfl rfl <| nt <| sq <| sr <| mv rfl rfl <| bn rfl rfl rfl rfl <| mv rfl rfl <| runj_3 27 ((decide (a3 < 0)) || (decide (a3 > 4096))) ?_ (fun k => ?_)
  ·obtain ⟨x7, h6, hF⟩ := bsome hF
   refine mv rfl rfl <| runj_4 32 x7 ?_ (fun k => ?_)
   ·refine nt <| Under.ite hF rfl (fun hF => ?_) (fun hF => ?_)
    ·refine sr <| ov (OpV.bst BT27 (Bld.nil _)) rfl <| Under.stP (x' := (⟨0, []⟩ : Api_Window)) .box .id sz27_kApi_Window rfl rfl rdV rfl <| ag rfl rfl <| nl <| Under.frz (t := 8) rfl <| tn <| rt ?_
     have e10 := osi hF
     subst e10
     exact Under.rets Try.results26 (.ce rfl kt27 (.tm rfl .nil)) rfl rfl
    ·obtain ⟨x13, h12, hF⟩ := bsome hF
     refine ct <| sq <| sr <| mv rfl rfl <| bn rfl rfl rfl rfl <| mv rfl rfl <| runj_6 42 x13 ?_ (fun k => ?_)
     ·refine nt <| Under.ite hF rfl (fun hF => ?_) (fun hF => ?_)
      ·refine sr <| ov (OpV.bst BT27 (Bld.nil _)) rfl <| Under.stP (x' := (⟨0, []⟩ : Api_Window)) .box .id sz27_kApi_Window rfl rfl rdV rfl <| ag rfl rfl <| nl <| Under.frz (t := 8) rfl <| tn <| rt ?_
       have e16 := osi hF
       subst e16
       exact Under.rets Try.results26 (.ce rfl kt27 (.tm rfl .nil)) rfl rfl
      ·obtain ⟨r44, h45, hF⟩ := bsome hF
       refine ct <| sr <| Under.mkm K1 (kInt .i64) rfl fun b17 => ag rfl rfl <| nt <| sq <| Under.after (fun X => ∀ (x43 : List ((List Int) × Int)), r44 = x43 → Under F0 155 [(1, .raw (.int .i64 a1)), (3, .raw (.int .i64 a3)), (4, .ptr kApi_Window a0), (8, .raw (.pointer (some ⟨b1, 0, none⟩))), (10, .raw (.map (some b17)))] ((.box kApi_Window b1 27 (⟨0, []⟩ : Api_Window)) :: (.mp K1 (kInt .i64) b17 x43) :: L) X) ?_ ?_
       ·intro x43 h952
        replace h952 := h952.symm
        subst h952
        obtain ⟨y47, h48, hF⟩ := bsome hF
        refine sq <| sr <| ov (OpV.ld kt27 rfl) rfl <| Under.call Try.call35 rfl rfl (f_window_known_ok h48 _) rfl <| Under.rng Try.underlying69 rfl rfl fun b49 => nt <| bk <| Under.fo2 <| Under.fo2 <| Under.fo2 <| Under.loopM (S := (List ((List Int) × Int))) (C := Unit) () (fun (x923 : (List ((List Int) × Int))) (q924 : Unit) => [(1, .raw (.int .i64 a1)), (3, .raw (.int .i64 a3)), (4, .ptr kApi_Window a0), (8, .raw (.pointer (some ⟨b1, 0, none⟩))), (10, .raw (.map (some b17))), (58, .raw (.pointer (some ⟨b49, 0, none⟩)))]) (fun (x923 : (List ((List Int) × Int))) (q924 : Unit) => (.box kApi_Window b1 27 (⟨0, []⟩ : Api_Window)) :: (.mp K1 (kInt .i64) b17 x923) :: L) hF (s6 rfl rfl rfl rfl rfl rfl) rfl (fun x923 q924 l50 u51 h52 h53 => ?_)
        try dsimp only at h52
        try dsimp only at h53
        try dsimp only
        refine sr <| Under.nxt rfl rfl (fun h69 => ?_) (fun p70 l71 h72 => ?_)
        ·refine ov (OpV.extr rfl rfl) rfl <| nt <| sq <| Under.condF rfl <| Under.fo2 <| Under.frzM (t := 10) rfl <| xt <| te ?_
         have hF := h52 h69
         obtain ⟨y74, h75, hF⟩ := bsome hF
         refine dr <| te <| bh <| tn <| sq <| sr <| ov (OpV.ld kt27 rfl) rfl <| Under.call Try.call18 rfl rfl (f_window_Len_ok h75 _) rfl <| mv rfl rfl <| ov (OpV.lenM Try.underlying69 rfl) rfl <| bn rfl rfl rfl rfl <| mv rfl rfl <| bn rfl rfl rfl rfl <| nt <| Under.ite hF rfl (fun hF => ?_) (fun hF => ?_)
         ·refine sr <| ov (OpV.bst BT27 (Bld.nil _)) rfl <| Under.stP (x' := (⟨0, []⟩ : Api_Window)) .box .id sz27_kApi_Window rfl rfl rdV rfl <| ag rfl rfl <| nl <| Under.frz (t := 8) rfl <| tn <| rt ?_
          have e76 := osi hF
          subst e76
          exact Under.rets Try.results26 (.ce rfl kt27 (.tm rfl .nil)) rfl rfl
         ·refine ct <| sr <| ag rfl rfl <| nt <| sq <| sr <| mv rfl rfl <| Under.rng Try.underlying69 rfl rfl fun b77 => nt <| bk <| Under.ownNil (K := kArr 16 K2) (e := 43) <| Under.fo2 <| Under.fo1 <| Under.fo2 <| Under.loopM (S := (List (List Int))) (C := Value) (.slice none 0 0) (fun (x920 : (List (List Int))) (q921 : Value) => [(1, .raw (.int .i64 a1)), (4, .ptr kApi_Window a0), (8, .raw (.pointer (some ⟨b1, 0, none⟩))), (14, .raw q921), (74, .raw (.pointer (some ⟨b77, 0, none⟩)))]) (fun (x920 : (List (List Int))) (q921 : Value) => (.own K1 q921 43 x920) :: (.box kApi_Window b1 27 (⟨0, []⟩ : Api_Window)) :: L) hF (s5 rfl rfl rfl rfl rfl) rfl (fun x920 q921 l78 u79 h80 h81 => ?_)
          try dsimp only at h80
          try dsimp only at h81
          try dsimp only
          refine sr <| Under.nxt rfl rfl (fun h105 => ?_) (fun p106 l107 h108 => ?_)
          ·refine ov (OpV.extr rfl rfl) rfl <| nt <| sq <| Under.condF rfl <| xt <| te ?_
           have hF := h80 h105
           obtain ⟨r313, h314, hF⟩ := bsome hF
           refine dr <| te <| bh <| tn <| sr <| ov (OpV.fd fb27_0 rfl rfl) rfl <| ov (OpV.ldI kt2 rfl) rfl <| ov (OpV.bst BT27_Api_Window_r1 (Bld.cons (x' := (⟨a0.Newest, .slice none 0 0⟩ : Api_Window_r1)) rfl rfl rdI (by intro q hq; simp only [List.mem_cons, List.not_mem_nil, or_false] at hq; rcases hq with rfl <;> rfl) (Bld.nil _))) rfl <| Under.al ZT27_Api_Window_r1 rfl fun b110 => Under.stP (x' := (⟨a0.Newest, .slice none 0 0⟩ : Api_Window_r1)) .box .id sz27_kApi_Window_r1 rfl rfl rdV rfl <| ns <| mv rfl rfl <| Under.fo1 <| ov (OpV.lenO Try.underlying36 rfl) rfl <| bn rfl rfl rfl rfl <| ag rfl rfl <| nt <| sq <| sr <| ov (OpV.fd fb27_1 rfl rfl) rfl <| ov (OpV.ld kt25 rfl) rfl <| ov (OpV.len Try.underlying25 rfl rdV) rfl <| mv rfl rfl <| nt <| bk <| Under.manyNil (KR := kApi_Epoch_r1) (KT := kArr 16 K2) (mk := mk_Api_Epoch) (tg := tg_Api_Epoch) (TE := 61) (TT := 43) <| Under.fo2 <| Under.fo1 <| Under.fo3 <| Under.fo3 <| Under.modeD (b := (x920.length : Int) == 0) <| Under.loop (S := (Int × (List Api_Epoch) × Bool)) (C := Value) (.slice none 0 0) (fun (x648 : (Int × (List Api_Epoch) × Bool)) (q649 : Value) => [(1, .raw (.int .i64 a1)), (8, .raw (.pointer (some ⟨b1, 0, none⟩))), (14, .raw q921), (16, .raw (.pointer (some ⟨b110, 0, none⟩))), (17, .raw (.bool x648.2.2)), (90, .val (kSl kApi_Epoch) a0.Epochs), (91, .raw (.int .i64 (a0.Epochs.length : Int))), (92, .raw (.int .i64 x648.1))]) (fun (x648 : (Int × (List Api_Epoch) × Bool)) (q649 : Value) => bif x648.2.2 then ((.box kApi_Window b1 27 (⟨0, []⟩ : Api_Window)) :: (.any (manyH kApi_Epoch_r1 K1 mk_Api_Epoch tg_Api_Epoch 61 43 q649 x648.2.1)) :: (.box kApi_Window_r1 b110 27 (⟨a0.Newest, q649⟩ : Api_Window_r1)) :: L) else ((.own K1 q921 43 x920) :: (.box kApi_Window b1 27 (⟨0, []⟩ : Api_Window)) :: (.any (manyH kApi_Epoch_r1 K1 mk_Api_Epoch tg_Api_Epoch 61 43 q649 x648.2.1)) :: (.box kApi_Window_r1 b110 27 (⟨a0.Newest, q649⟩ : Api_Window_r1)) :: L)) h314 (s8 rfl rfl rfl rfl rfl rfl rfl rfl) rfl (fun x648 q649 o315 h311 d312 => ?_)
           obtain ⟨x242, x244, mode_⟩ := x648
           cases mode_
           ·try dsimp only [cond_true, cond_false] at h311
            try dsimp only [cond_true, cond_false]
            refine sr <| bn rfl rfl rfl rfl <| nt <| sq <| Under.ite h311 rfl (fun h311 => ?_) (fun h311 => ?_)
            ·obtain ⟨x316, h317, h311⟩ := bsome h311
             refine ct <| sq <| bk <| sr <| ov (OpV.ixS h317 Try.underlying25 sz61 rfl rdV rfl) rfl <| ov (OpV.ld kt61 rfl) rfl <| Under.al ZT61 rfl fun b318 => Under.stP (x' := x316) .box .id sz61_kApi_Epoch rfl rfl rdV rfl <| nt <| sq <| sr <| mv rfl rfl <| ov (OpV.not rfl) rfl <| mv rfl rfl <| gc (rfl : (true : Bool) = true) rfl rfl <| ov (OpV.fdM fm61_0 rfl) rfl <| gc (rfl : (true : Bool) = true) rfl rfl <| Under.ldP .box (.fld .id uf_Api_Epoch_0) kt2_kInt_i64 rfl rfl <| Under.rawI (t := 100) rfl <| gc (rfl : (true : Bool) = true) rfl rfl <| mv rfl rfl <| gc (rfl : (true : Bool) = true) rfl rfl <| bn rfl rfl rfl rfl <| ov (pkT (rfl : (true : Bool) = true) rfl rfl) rfl <| nt <| Under.ite h311 rfl (fun h311 => ?_) (fun h311 => ?_)
             ·refine sr <| ag rfl rfl <| ns <| ov (OpV.fdM fm61_0 rfl) rfl <| Under.ldP .box (.fld .id uf_Api_Epoch_0) kt2_kInt_i64 rfl rfl <| Under.rawI (t := 105) rfl <| mv rfl rfl <| bn rfl rfl rfl rfl <| nt <| Under.ite h311 rfl (fun h311 => ?_) (fun h311 => ?_)
              ·obtain ⟨z323, h324, h311⟩ := bsome h311
               obtain ⟨y328, h329, h311⟩ := bsome h311
               obtain ⟨z332, h333, h311⟩ := bsome h311
               refine Under.frz (t := 19) rfl <| rg <| ov (OpV.fdM fm27_1 rfl) rfl <| Under.fo3 <| Under.ldP .box (.fld .id uf_Api_Window_r1_1) kt25_kRaw rfl rfl <| Under.rawR (t := 109) rfl <| mv rfl rfl <| mv rfl rfl <| Under.fo1 <| Under.ownCell fun h322 => ov (OpV.bst BT61_Api_Epoch_r1 (Bld.cons (x' := (⟨a1, .slice none 0 0⟩ : Api_Epoch_r1)) rfl rfl rdI (by intro q hq; simp only [List.mem_cons, List.not_mem_nil, or_false] at hq; rcases hq with rfl <;> rfl) (Bld.cons (x' := (⟨a1, q921⟩ : Api_Epoch_r1)) rfl rfl (rdRaw h322) ⟨rfl, (fun q hq => by simp at hq)⟩ (Bld.nil _)))) rfl <| Under.bsF (ys := [(⟨a1, q921⟩ : Api_Epoch_r1)]) Try.underlying25 ET61_Api_Epoch_r1 (BldA.cons rfl rfl rdV (BldA.nil _)) rfl rfl <| Under.fo3 <| Under.manyPush (x := (⟨a1, x920⟩ : Api_Epoch)) frR_Api_Epoch frT_Api_Epoch h324 Try.underlying25 (by kernel_rfl) AT61_Api_Epoch_r1 rfl rfl (.sl rdV) rfl fun v325 => ov (OpV.fdM fm27_1 rfl) rfl <| Under.manyCell frR_Api_Epoch frT_Api_Epoch fun h326 => Under.fo1 <| Under.stP (x' := (⟨a0.Newest, v325⟩ : Api_Window_r1)) .box (.fld .id uf_Api_Window_r1_1) sz25_kRaw rfl rfl (rdRaw h326) rfl <| nt <| Under.phases rfl <| Under.fo1 <| Under.fo1 <| Under.fo2 <| Under.grpT (L := L) [0, 1, 2, 3, 4, 5, 6, 7, 8, 9, 10, 11] [[16], [121], [19], [123], [19], [125], [126], [124, 127], [128], [122, 129], [16], [130, 131]] [⟨sk0 (.raw (.pointer (some ⟨b110, 0 + 1, none⟩))), [], []⟩, ⟨sk0 (.raw v325), [0], [(2, tk0 (.box kApi_Window_r1 b110 27 (⟨a0.Newest, v325⟩ : Api_Window_r1)))]⟩, ⟨sk0 (.ptr (kInt .i64) x316.Number), [], []⟩, ⟨sk0 (.raw (.int .i64 x316.Number)), [], []⟩, ⟨sk0 (.ptr K0 x316.Tags), [], []⟩, ⟨sk0 (.val K0 x316.Tags), [], []⟩, ⟨sk1 6 (fun u6 => .raw u6), [], [(3, tk1 6 (fun u6 => .own K1 u6 43 y328))]⟩, ⟨sk1 6 (fun u6 => .val kApi_Epoch_r1 (⟨x316.Number, u6⟩ : Api_Epoch_r1)), [3], [(4, tk1 6 (fun u6 => .own K1 u6 43 y328))]⟩, ⟨sk1 6 (fun u6 => .val (kSl kApi_Epoch_r1) [(⟨x316.Number, u6⟩ : Api_Epoch_r1)]), [], []⟩, ⟨sk1 9 (fun u9 => .raw u9), [1, 4], [(5, tk1 9 (fun u9 => .any (manyH kApi_Epoch_r1 K1 mk_Api_Epoch tg_Api_Epoch 61 43 u9 z332)))]⟩, ⟨sk0 (.raw (.pointer (some ⟨b110, 0 + 1, none⟩))), [], []⟩, ⟨sk0 (.raw undef), [2, 5], [(6, tk1 9 (fun u9 => .box kApi_Window_r1 b110 27 (⟨a0.Newest, u9⟩ : Api_Window_r1))), (7, tk1 9 (fun u9 => .any (manyH kApi_Epoch_r1 K1 mk_Api_Epoch tg_Api_Epoch 61 43 u9 z332)))]⟩] [(0, .box kApi_Window_r1 b110 27 (⟨a0.Newest, v325⟩ : Api_Window_r1)), (1, .any (manyH kApi_Epoch_r1 K1 mk_Api_Epoch tg_Api_Epoch 61 43 v325 z323))] (fun T : List Res => (.box kApi_Window b1 27 (⟨0, []⟩ : Api_Window)) :: T) lf1 rfl (by kernel_rfl) rfl rfl (fun F hF0 bs327 => ?_)
               refine Tq.v (fun G T hG => ?_) ?_
               ·exact ov (OpV.fdM fm27_1 rfl) rfl <| Tq.end undef rfl rfl
               refine Tq.st (.raw v325) [.box kApi_Window_r1 b110 27 (⟨a0.Newest, v325⟩ : Api_Window_r1)] rfl rfl (fun G T hG => ?_) ?_
               ·exact Under.ldP .box (.fld .id uf_Api_Window_r1_1) kt25_kRaw rfl rfl <| Under.rawR (t := 122) rfl <| Under.fo1 <| Under.fo1 <| Tq.end undef rfl rfl
               refine Tq.v (fun G T hG => ?_) ?_
               ·exact ov (OpV.fd fb61_0 rfl rfl) rfl <| Tq.end undef rfl rfl
               refine Tq.v (fun G T hG => ?_) ?_
               ·exact ov (OpV.ldI kt2 rfl) rfl <| Tq.end undef rfl rfl
               refine Tq.v (fun G T hG => ?_) ?_
               ·exact ov (OpV.fd fb61_1 rfl rfl) rfl <| Tq.end undef rfl rfl
               refine Tq.v (fun G T hG => ?_) ?_
               ·exact ov (OpV.ld kt36 rfl) rfl <| Tq.end undef rfl rfl
               refine Tq.st (.raw (bs327 6)) [] rfl rfl (fun G T hG => ?_) ?_
               ·refine Under.callX Try.call46 rfl rfl (f_slices_Clone_ro_ok h329 _) rfl ?_
                rintro v330
                exact Under.fo1 <| Under.fo1 <| Tq.end v330 rfl rfl
               refine Tq.st (.val kApi_Epoch_r1 (⟨x316.Number, (bs327 6)⟩ : Api_Epoch_r1)) [.own K1 (bs327 6) 43 y328] rfl rfl (fun G T hG => ?_) ?_
               ·exact Under.ownCell fun h331 => ov (OpV.bst BT61_Api_Epoch_r1 (Bld.cons (x' := (⟨x316.Number, .slice none 0 0⟩ : Api_Epoch_r1)) rfl rfl rdI (by intro q hq; simp only [List.mem_cons, List.not_mem_nil, or_false] at hq; rcases hq with rfl <;> rfl) (Bld.cons (x' := (⟨x316.Number, (bs327 6)⟩ : Api_Epoch_r1)) rfl rfl (rdRaw h331) ⟨rfl, (fun q hq => by simp at hq)⟩ (Bld.nil _)))) rfl <| Under.fo1 <| Under.fo1 <| Tq.end undef rfl rfl
               refine Tq.st (.val (kSl kApi_Epoch_r1) [(⟨x316.Number, (bs327 6)⟩ : Api_Epoch_r1)]) [] rfl rfl (fun G T hG => ?_) ?_
               ·exact Under.bsF (ys := [(⟨x316.Number, (bs327 6)⟩ : Api_Epoch_r1)]) Try.underlying25 ET61_Api_Epoch_r1 (BldA.cons rfl rfl rdV (BldA.nil _)) rfl rfl <| Tq.end undef rfl rfl
               refine Tq.st (.raw (bs327 9)) [.any (manyH kApi_Epoch_r1 K1 mk_Api_Epoch tg_Api_Epoch 61 43 v325 z323), .own K1 (bs327 6) 43 y328] rfl rfl (fun G T hG => ?_) ?_
               ·exact Under.fo1 <| Under.fo1 <| Under.manyPush (x := (⟨x316.Number, y328⟩ : Api_Epoch)) frR_Api_Epoch frT_Api_Epoch h333 Try.underlying25 (by kernel_rfl) AT61_Api_Epoch_r1 rfl rfl (.sl rdV) rfl fun v334 => Under.fo1 <| Under.fo1 <| Tq.end v334 rfl rfl
               refine Tq.v (fun G T hG => ?_) ?_
               ·exact ov (OpV.fdM fm27_1 rfl) rfl <| Tq.end undef rfl rfl
               refine Tq.st0 [.box kApi_Window_r1 b110 27 (⟨a0.Newest, v325⟩ : Api_Window_r1), .any (manyH kApi_Epoch_r1 K1 mk_Api_Epoch tg_Api_Epoch 61 43 (bs327 9) z332)] rfl (fun G T hG => ?_) ?_
               ·exact Under.fo1 <| Under.manyCell frR_Api_Epoch frT_Api_Epoch fun h335 => Under.fo1 <| Under.stP (x' := (⟨a0.Newest, (bs327 9)⟩ : Api_Window_r1)) .box (.fld .id uf_Api_Window_r1_1) sz25_kRaw rfl rfl (rdRaw h335) rfl <| Under.fo2 <| Under.fo2 <| Under.fo2 <| Tq.end0 undef rfl
               exact Tq.nil <| Under.le hF0 <| Under.pdone rfl <| bN <| tn <| rg <| bn rfl rfl rfl rfl <| mv rfl rfl <| nl <| Under.fo1 <| Under.fo2 <| Under.fo2 <| Under.next _ (bs327 9) h311 (s8 rfl rfl rfl rfl rfl rfl rfl rfl) rfl
              ·obtain ⟨z336, h337, h311⟩ := bsome h311
               obtain ⟨y340, h341, h311⟩ := bsome h311
               obtain ⟨z344, h345, h311⟩ := bsome h311
               refine rg <| mv rfl rfl <| ov (OpV.fdM fm61_1 rfl) rfl <| Under.ldP .box (.fld .id uf_Api_Epoch_1) kt36_kSl_kArr_16_kInt_u8_ rfl rfl <| Under.fo1 <| Under.app h337 Try.underlying36 AT43 rfl rfl rdV rfl fun v338 => ov (OpV.fdM fm61_1 rfl) rfl <| Under.frzO (t := 119) rfl <| Under.stP (x' := ({ x316 with Tags := z336 } : Api_Epoch)) .box (.fld .id uf_Api_Epoch_1) sz36_kSl_kArr_16_kInt_u8_ rfl rfl rdV rfl <| nl <| Under.frz (t := 19) rfl <| tn <| Under.phases rfl <| Under.fo2 <| Under.fo2 <| Under.fo2 <| Under.grpT (L := L) [0, 1, 2, 3, 4, 5, 6, 7, 8, 9, 10, 11] [[16], [121], [19], [123], [19], [125], [126], [124, 127], [128], [122, 129], [16], [130, 131]] [⟨sk0 (.raw (.pointer (some ⟨b110, 0 + 1, none⟩))), [], []⟩, ⟨sk0 (.raw q649), [1], [(2, tk0 (.box kApi_Window_r1 b110 27 (⟨a0.Newest, q649⟩ : Api_Window_r1)))]⟩, ⟨sk0 (.ptr (kInt .i64) (({ x316 with Tags := z336 } : Api_Epoch).Number)), [], []⟩, ⟨sk0 (.raw (.int .i64 (({ x316 with Tags := z336 } : Api_Epoch).Number))), [], []⟩, ⟨sk0 (.ptr K0 (({ x316 with Tags := z336 } : Api_Epoch).Tags)), [], []⟩, ⟨sk0 (.val K0 (({ x316 with Tags := z336 } : Api_Epoch).Tags)), [], []⟩, ⟨sk1 6 (fun u6 => .raw u6), [], [(3, tk1 6 (fun u6 => .own K1 u6 43 y340))]⟩, ⟨sk1 6 (fun u6 => .val kApi_Epoch_r1 (⟨({ x316 with Tags := z336 } : Api_Epoch).Number, u6⟩ : Api_Epoch_r1)), [3], [(4, tk1 6 (fun u6 => .own K1 u6 43 y340))]⟩, ⟨sk1 6 (fun u6 => .val (kSl kApi_Epoch_r1) [(⟨({ x316 with Tags := z336 } : Api_Epoch).Number, u6⟩ : Api_Epoch_r1)]), [], []⟩, ⟨sk1 9 (fun u9 => .raw u9), [0, 4], [(5, tk1 9 (fun u9 => .any (manyH kApi_Epoch_r1 K1 mk_Api_Epoch tg_Api_Epoch 61 43 u9 z344)))]⟩, ⟨sk0 (.raw (.pointer (some ⟨b110, 0 + 1, none⟩))), [], []⟩, ⟨sk0 (.raw undef), [2, 5], [(6, tk1 9 (fun u9 => .box kApi_Window_r1 b110 27 (⟨a0.Newest, u9⟩ : Api_Window_r1))), (7, tk1 9 (fun u9 => .any (manyH kApi_Epoch_r1 K1 mk_Api_Epoch tg_Api_Epoch 61 43 u9 z344)))]⟩] [(0, .any (manyH kApi_Epoch_r1 K1 mk_Api_Epoch tg_Api_Epoch 61 43 q649 x244)), (1, .box kApi_Window_r1 b110 27 (⟨a0.Newest, q649⟩ : Api_Window_r1))] (fun T : List Res => (.box kApi_Window b1 27 (⟨0, []⟩ : Api_Window)) :: T) lf1 rfl (by kernel_rfl) rfl rfl (fun F hF0 bs339 => ?_)
               refine Tq.v (fun G T hG => ?_) ?_
               ·exact ov (OpV.fdM fm27_1 rfl) rfl <| Tq.end undef rfl rfl
               refine Tq.st (.raw q649) [.box kApi_Window_r1 b110 27 (⟨a0.Newest, q649⟩ : Api_Window_r1)] rfl rfl (fun G T hG => ?_) ?_
               ·exact Under.ldP .box (.fld .id uf_Api_Window_r1_1) kt25_kRaw rfl rfl <| Under.rawR (t := 122) rfl <| Under.fo1 <| Under.fo1 <| Tq.end undef rfl rfl
               refine Tq.v (fun G T hG => ?_) ?_
               ·exact ov (OpV.fd fb61_0 rfl rfl) rfl <| Tq.end undef rfl rfl
               refine Tq.v (fun G T hG => ?_) ?_
               ·exact ov (OpV.ldI kt2 rfl) rfl <| Tq.end undef rfl rfl
               refine Tq.v (fun G T hG => ?_) ?_
               ·exact ov (OpV.fd fb61_1 rfl rfl) rfl <| Tq.end undef rfl rfl
               refine Tq.v (fun G T hG => ?_) ?_
               ·exact ov (OpV.ld kt36 rfl) rfl <| Tq.end undef rfl rfl
               refine Tq.st (.raw (bs339 6)) [] rfl rfl (fun G T hG => ?_) ?_
               ·refine Under.callX Try.call46 rfl rfl (f_slices_Clone_ro_ok h341 _) rfl ?_
                rintro v342
                exact Under.fo1 <| Under.fo1 <| Tq.end v342 rfl rfl
               refine Tq.st (.val kApi_Epoch_r1 (⟨({ x316 with Tags := z336 } : Api_Epoch).Number, (bs339 6)⟩ : Api_Epoch_r1)) [.own K1 (bs339 6) 43 y340] rfl rfl (fun G T hG => ?_) ?_
               ·exact Under.ownCell fun h343 => ov (OpV.bst BT61_Api_Epoch_r1 (Bld.cons (x' := (⟨({ x316 with Tags := z336 } : Api_Epoch).Number, .slice none 0 0⟩ : Api_Epoch_r1)) rfl rfl rdI (by intro q hq; simp only [List.mem_cons, List.not_mem_nil, or_false] at hq; rcases hq with rfl <;> rfl) (Bld.cons (x' := (⟨({ x316 with Tags := z336 } : Api_Epoch).Number, (bs339 6)⟩ : Api_Epoch_r1)) rfl rfl (rdRaw h343) ⟨rfl, (fun q hq => by simp at hq)⟩ (Bld.nil _)))) rfl <| Under.fo1 <| Under.fo1 <| Tq.end undef rfl rfl
               refine Tq.st (.val (kSl kApi_Epoch_r1) [(⟨({ x316 with Tags := z336 } : Api_Epoch).Number, (bs339 6)⟩ : Api_Epoch_r1)]) [] rfl rfl (fun G T hG => ?_) ?_
               ·exact Under.bsF (ys := [(⟨({ x316 with Tags := z336 } : Api_Epoch).Number, (bs339 6)⟩ : Api_Epoch_r1)]) Try.underlying25 ET61_Api_Epoch_r1 (BldA.cons rfl rfl rdV (BldA.nil _)) rfl rfl <| Tq.end undef rfl rfl
               refine Tq.st (.raw (bs339 9)) [.any (manyH kApi_Epoch_r1 K1 mk_Api_Epoch tg_Api_Epoch 61 43 q649 x244), .own K1 (bs339 6) 43 y340] rfl rfl (fun G T hG => ?_) ?_
               ·exact Under.fo1 <| Under.fo1 <| Under.manyPush (x := (⟨({ x316 with Tags := z336 } : Api_Epoch).Number, y340⟩ : Api_Epoch)) frR_Api_Epoch frT_Api_Epoch h345 Try.underlying25 (by kernel_rfl) AT61_Api_Epoch_r1 rfl rfl (.sl rdV) rfl fun v346 => Under.fo1 <| Under.fo1 <| Tq.end v346 rfl rfl
               refine Tq.v (fun G T hG => ?_) ?_
               ·exact ov (OpV.fdM fm27_1 rfl) rfl <| Tq.end undef rfl rfl
               refine Tq.st0 [.box kApi_Window_r1 b110 27 (⟨a0.Newest, q649⟩ : Api_Window_r1), .any (manyH kApi_Epoch_r1 K1 mk_Api_Epoch tg_Api_Epoch 61 43 (bs339 9) z344)] rfl (fun G T hG => ?_) ?_
               ·exact Under.fo1 <| Under.manyCell frR_Api_Epoch frT_Api_Epoch fun h347 => Under.fo1 <| Under.stP (x' := (⟨a0.Newest, (bs339 9)⟩ : Api_Window_r1)) .box (.fld .id uf_Api_Window_r1_1) sz25_kRaw rfl rfl (rdRaw h347) rfl <| Under.fo2 <| Under.fo2 <| Under.fo2 <| Tq.end0 undef rfl
               exact Tq.nil <| Under.le hF0 <| Under.pdone rfl <| bN <| tn <| rg <| bn rfl rfl rfl rfl <| mv rfl rfl <| nl <| Under.fo1 <| Under.fo2 <| Under.fo2 <| Under.next _ (bs339 9) h311 (s8 rfl rfl rfl rfl rfl rfl rfl rfl) rfl
             ·obtain ⟨y349, h350, h311⟩ := bsome h311
              obtain ⟨z353, h354, h311⟩ := bsome h311
              refine Under.frz (t := 19) rfl <| ct <| Under.phases rfl <| Under.fo3 <| Under.fo3 <| Under.fo3 <| Under.fo3 <| Under.grpT (L := L) [0, 1, 2, 3, 4, 5, 6, 7, 8, 9, 10, 11] [[16], [121], [19], [123], [19], [125], [126], [124, 127], [128], [122, 129], [16], [130, 131]] [⟨sk0 (.raw (.pointer (some ⟨b110, 0 + 1, none⟩))), [], []⟩, ⟨sk0 (.raw q649), [1], [(2, tk0 (.box kApi_Window_r1 b110 27 (⟨a0.Newest, q649⟩ : Api_Window_r1)))]⟩, ⟨sk0 (.ptr (kInt .i64) x316.Number), [], []⟩, ⟨sk0 (.raw (.int .i64 x316.Number)), [], []⟩, ⟨sk0 (.ptr K0 x316.Tags), [], []⟩, ⟨sk0 (.val K0 x316.Tags), [], []⟩, ⟨sk1 6 (fun u6 => .raw u6), [], [(3, tk1 6 (fun u6 => .own K1 u6 43 y349))]⟩, ⟨sk1 6 (fun u6 => .val kApi_Epoch_r1 (⟨x316.Number, u6⟩ : Api_Epoch_r1)), [3], [(4, tk1 6 (fun u6 => .own K1 u6 43 y349))]⟩, ⟨sk1 6 (fun u6 => .val (kSl kApi_Epoch_r1) [(⟨x316.Number, u6⟩ : Api_Epoch_r1)]), [], []⟩, ⟨sk1 9 (fun u9 => .raw u9), [0, 4], [(5, tk1 9 (fun u9 => .any (manyH kApi_Epoch_r1 K1 mk_Api_Epoch tg_Api_Epoch 61 43 u9 z353)))]⟩, ⟨sk0 (.raw (.pointer (some ⟨b110, 0 + 1, none⟩))), [], []⟩, ⟨sk0 (.raw undef), [2, 5], [(6, tk1 9 (fun u9 => .box kApi_Window_r1 b110 27 (⟨a0.Newest, u9⟩ : Api_Window_r1))), (7, tk1 9 (fun u9 => .any (manyH kApi_Epoch_r1 K1 mk_Api_Epoch tg_Api_Epoch 61 43 u9 z353)))]⟩] [(0, .any (manyH kApi_Epoch_r1 K1 mk_Api_Epoch tg_Api_Epoch 61 43 q649 x244)), (1, .box kApi_Window_r1 b110 27 (⟨a0.Newest, q649⟩ : Api_Window_r1))] (fun T : List Res => (.own K1 q921 43 x920) :: (.box kApi_Window b1 27 (⟨0, []⟩ : Api_Window)) :: T) lf2 rfl (by kernel_rfl) rfl rfl (fun F hF0 bs348 => ?_)
              refine Tq.v (fun G T hG => ?_) ?_
              ·exact ov (OpV.fdM fm27_1 rfl) rfl <| Under.fo1 <| Under.fo1 <| Tq.end undef rfl rfl
              refine Tq.st (.raw q649) [.box kApi_Window_r1 b110 27 (⟨a0.Newest, q649⟩ : Api_Window_r1)] rfl rfl (fun G T hG => ?_) ?_
              ·exact Under.ldP .box (.fld .id uf_Api_Window_r1_1) kt25_kRaw rfl rfl <| Under.rawR (t := 122) rfl <| Under.fo2 <| Under.fo2 <| Under.fo2 <| Tq.end undef rfl rfl
              refine Tq.v (fun G T hG => ?_) ?_
              ·exact ov (OpV.fd fb61_0 rfl rfl) rfl <| Under.fo1 <| Under.fo1 <| Tq.end undef rfl rfl
              refine Tq.v (fun G T hG => ?_) ?_
              ·exact ov (OpV.ldI kt2 rfl) rfl <| Under.fo1 <| Under.fo1 <| Tq.end undef rfl rfl
              refine Tq.v (fun G T hG => ?_) ?_
              ·exact ov (OpV.fd fb61_1 rfl rfl) rfl <| Under.fo1 <| Under.fo1 <| Tq.end undef rfl rfl
              refine Tq.v (fun G T hG => ?_) ?_
              ·exact ov (OpV.ld kt36 rfl) rfl <| Under.fo1 <| Under.fo1 <| Tq.end undef rfl rfl
              refine Tq.st (.raw (bs348 6)) [] rfl rfl (fun G T hG => ?_) ?_
              ·refine Under.callX Try.call46 rfl rfl (f_slices_Clone_ro_ok h350 _) rfl ?_
               rintro v351
               exact Under.fo2 <| Under.fo2 <| Under.fo2 <| Tq.end v351 rfl rfl
              refine Tq.st (.val kApi_Epoch_r1 (⟨x316.Number, (bs348 6)⟩ : Api_Epoch_r1)) [.own K1 (bs348 6) 43 y349] rfl rfl (fun G T hG => ?_) ?_
              ·exact Under.ownCell fun h352 => ov (OpV.bst BT61_Api_Epoch_r1 (Bld.cons (x' := (⟨x316.Number, .slice none 0 0⟩ : Api_Epoch_r1)) rfl rfl rdI (by intro q hq; simp only [List.mem_cons, List.not_mem_nil, or_false] at hq; rcases hq with rfl <;> rfl) (Bld.cons (x' := (⟨x316.Number, (bs348 6)⟩ : Api_Epoch_r1)) rfl rfl (rdRaw h352) ⟨rfl, (fun q hq => by simp at hq)⟩ (Bld.nil _)))) rfl <| Under.fo2 <| Under.fo2 <| Under.fo2 <| Tq.end undef rfl rfl
              refine Tq.st (.val (kSl kApi_Epoch_r1) [(⟨x316.Number, (bs348 6)⟩ : Api_Epoch_r1)]) [] rfl rfl (fun G T hG => ?_) ?_
              ·exact Under.bsF (ys := [(⟨x316.Number, (bs348 6)⟩ : Api_Epoch_r1)]) Try.underlying25 ET61_Api_Epoch_r1 (BldA.cons rfl rfl rdV (BldA.nil _)) rfl rfl <| Under.fo1 <| Under.fo1 <| Tq.end undef rfl rfl
              refine Tq.st (.raw (bs348 9)) [.any (manyH kApi_Epoch_r1 K1 mk_Api_Epoch tg_Api_Epoch 61 43 q649 x244), .own K1 (bs348 6) 43 y349] rfl rfl (fun G T hG => ?_) ?_
              ·exact Under.fo1 <| Under.fo1 <| Under.manyPush (x := (⟨x316.Number, y349⟩ : Api_Epoch)) frR_Api_Epoch frT_Api_Epoch h354 Try.underlying25 (by kernel_rfl) AT61_Api_Epoch_r1 rfl rfl (.sl rdV) rfl fun v355 => Under.fo2 <| Under.fo2 <| Under.fo2 <| Tq.end v355 rfl rfl
              refine Tq.v (fun G T hG => ?_) ?_
              ·exact ov (OpV.fdM fm27_1 rfl) rfl <| Under.fo1 <| Under.fo1 <| Tq.end undef rfl rfl
              refine Tq.st0 [.box kApi_Window_r1 b110 27 (⟨a0.Newest, q649⟩ : Api_Window_r1), .any (manyH kApi_Epoch_r1 K1 mk_Api_Epoch tg_Api_Epoch 61 43 (bs348 9) z353)] rfl (fun G T hG => ?_) ?_
              ·exact Under.fo1 <| Under.manyCell frR_Api_Epoch frT_Api_Epoch fun h356 => Under.fo1 <| Under.stP (x' := (⟨a0.Newest, (bs348 9)⟩ : Api_Window_r1)) .box (.fld .id uf_Api_Window_r1_1) sz25_kRaw rfl rfl (rdRaw h356) rfl <| Under.fo3 <| Under.fo3 <| Under.fo3 <| Under.fo3 <| Tq.end0 undef rfl
              exact Tq.nil <| Under.le hF0 <| Under.pdone rfl <| bN <| tn <| rg <| bn rfl rfl rfl rfl <| mv rfl rfl <| nl <| Under.fo2 <| Under.fo3 <| Under.fo3 <| Under.fo3 <| Under.next _ (bs348 9) h311 (s8 rfl rfl rfl rfl rfl rfl rfl rfl) rfl
            ·refine xt <| te ?_
             have e357 := done_eq h311 d312
             subst e357
             try dsimp only [cond_true, cond_false] at hF
             obtain ⟨r365, h366, hF⟩ := bsome hF
             refine te <| bh <| tn <| sq <| Under.after (fun X => ∀ (x364 : List Api_Epoch) (v363 : Value), r365 = x364 → Under F0 155 [(8, .raw (.pointer (some ⟨b1, 0, none⟩))), (16, .raw (.pointer (some ⟨b110, 0, none⟩)))] ((.box kApi_Window b1 27 (⟨0, []⟩ : Api_Window)) :: (.any (manyH kApi_Epoch_r1 K1 mk_Api_Epoch tg_Api_Epoch 61 43 v363 x364)) :: (.box kApi_Window_r1 b110 27 (⟨a0.Newest, v363⟩ : Api_Window_r1)) :: L) X) ?_ ?_
             ·intro x364 v363 h496
              replace h496 := h496.symm
              subst h496
              obtain ⟨r426, h427, hF⟩ := bsome hF
              refine sq <| Under.after (fun X => ∀ (x425 : Api_Window), r426 = x425 → Under F0 155 [(8, .raw (.pointer (some ⟨b1, 0, none⟩))), (16, .ptr kApi_Window x425)] ((.box kApi_Window b1 27 (⟨0, []⟩ : Api_Window)) :: L) X) ?_ ?_
              ·intro x425 h489
               replace h489 := h489.symm
               subst h489
               refine sr <| ov (OpV.ld kt27 rfl) rfl <| Under.stP (x' := x425) .box .id sz27_kApi_Window rfl rfl rdV rfl <| ag rfl rfl <| nl <| Under.frz (t := 8) rfl <| tn <| rc ?_
               have e429 := osi hF
               subst e429
               exact Under.rets Try.results26 (.ce rfl kt27 (.tm rfl .nil)) rfl rfl
              ·intro K k428
               obtain ⟨r470, h471, h427⟩ := bsome h427
               refine sr <| ov (OpV.fdM fm27_1 rfl) rfl <| Under.fo2 <| Under.ldP .box (.fld .id uf_Api_Window_r1_1) kt25_kRaw rfl rfl <| Under.rawR (t := 144) rfl <| Under.fo2 <| Under.lenMany frR_Api_Epoch frT_Api_Epoch Try.underlying25 rfl rfl <| mv rfl rfl <| nt <| bk <| Under.fo1 <| Under.fo2 <| Under.fo2 <| Under.loop (S := ((List Api_Epoch) × Int)) (C := Unit) () (fun (x486 : ((List Api_Epoch) × Int)) (q487 : Unit) => [(8, .raw (.pointer (some ⟨b1, 0, none⟩))), (16, .raw (.pointer (some ⟨b110, 0, none⟩))), (144, .raw v363), (145, .raw (.int .i64 (x364.length : Int))), (146, .raw (.int .i64 x486.2))]) (fun (x486 : ((List Api_Epoch) × Int)) (q487 : Unit) => (.any (manyH kApi_Epoch_r1 K1 mk_Api_Epoch tg_Api_Epoch 61 43 v363 x486.1)) :: (.box kApi_Window b1 27 (⟨0, []⟩ : Api_Window)) :: (.box kApi_Window_r1 b110 27 (⟨a0.Newest, v363⟩ : Api_Window_r1)) :: L) h471 (s5 rfl rfl rfl rfl rfl) rfl (fun x486 q487 o472 h468 d469 => ?_)
               obtain ⟨x454, x455⟩ := x486
               dsimp only at h468 ⊢
               refine sr <| bn rfl rfl rfl rfl <| nt <| sq <| Under.ite h468 rfl (fun h468 => ?_) (fun h468 => ?_)
               ·obtain ⟨x473, h474, h468⟩ := bsome h468
                obtain ⟨y482, h483, h468⟩ := bsome h468
                exact ct <| sq <| bk <| sr <| Under.manyTake frR_Api_Epoch frT_Api_Epoch h474 fun v475 x476 l477 h478 h479 h480 => ov (OpV.ixO h479 Try.underlying25 sz61_kApi_Epoch_r1 rfl rfl) rfl <| Under.ldP (.own h479) (.ix .id h479) kt61_kApi_Epoch_r1 rfl rfl <| Under.al ZT61_Api_Epoch_r1 rfl fun b481 => Under.stP (x' := (⟨x473.Number, v475⟩ : Api_Epoch_r1)) .box .id sz61_kApi_Epoch_r1 rfl rfl rdV rfl <| nt <| rg <| ov (OpV.fdM fm61_1 rfl) rfl <| Under.ldP .box (.fld .id uf_Api_Epoch_r1_1) kt36_kRaw rfl rfl <| Under.rawR (t := 151) rfl <| Under.fo2 <| Under.call Try.call47 rfl rfl (sortTags_ok h483 _) rfl <| nl <| Under.fo1 <| dr <| Under.fo1 <| Under.back (fun F w h => h480 ({ x473 with Tags := y482 } : Api_Epoch) rfl F w _ h) <| bN <| tn <| rg <| bn rfl rfl rfl rfl <| mv rfl rfl <| nl <| Under.fo2 <| Under.fo2 <| Under.fo2 <| Under.next _ () h468 (s5 rfl rfl rfl rfl rfl) rfl
               ·refine Under.manyPlain (KB := kApi_Epoch) frR_Api_Epoch frT_Api_Epoch rfl cvm_Api_Epoch <| Under.fo2 <| Under.fo1 <| Under.frzBO (fs := kApi_WindowF) (⟨a0.Newest, x454⟩ : Api_Window) (fun F hv => ⟨fun _ h => h, cv_raw hv, trivial⟩) <| Under.frz (t := 16) rfl <| xt <| te ?_
                have e484 := done_eq h468 d469
                subst e484
                exact te <| bh <| tn <| wk (k428 _ (osi h427).symm) (s2 rfl rfl)
             ·intro K k367
              obtain ⟨z491, h492, h366⟩ := bsome h366
              exact sr <| mv rfl rfl <| ov (OpV.not rfl) rfl <| nt <| Under.condT rfl <| rg <| ov (OpV.fdM fm27_1 rfl) rfl <| Under.fo3 <| Under.ldP .box (.fld .id uf_Api_Window_r1_1) kt25_kRaw rfl rfl <| Under.rawR (t := 136) rfl <| mv rfl rfl <| mv rfl rfl <| Under.fo1 <| Under.ownCell fun h490 => ov (OpV.bst BT61_Api_Epoch_r1 (Bld.cons (x' := (⟨a1, .slice none 0 0⟩ : Api_Epoch_r1)) rfl rfl rdI (by intro q hq; simp only [List.mem_cons, List.not_mem_nil, or_false] at hq; rcases hq with rfl <;> rfl) (Bld.cons (x' := (⟨a1, q921⟩ : Api_Epoch_r1)) rfl rfl (rdRaw h490) ⟨rfl, (fun q hq => by simp at hq)⟩ (Bld.nil _)))) rfl <| Under.bsF (ys := [(⟨a1, q921⟩ : Api_Epoch_r1)]) Try.underlying25 ET61_Api_Epoch_r1 (BldA.cons rfl rfl rdV (BldA.nil _)) rfl rfl <| Under.fo3 <| Under.manyPush (x := (⟨a1, x920⟩ : Api_Epoch)) frR_Api_Epoch frT_Api_Epoch h492 Try.underlying25 (by kernel_rfl) AT61_Api_Epoch_r1 rfl rfl (.sl rdV) rfl fun v493 => ov (OpV.fdM fm27_1 rfl) rfl <| Under.manyCell frR_Api_Epoch frT_Api_Epoch fun h494 => Under.fo1 <| Under.stP (x' := (⟨a0.Newest, v493⟩ : Api_Window_r1)) .box (.fld .id uf_Api_Window_r1_1) sz25_kRaw rfl rfl (rdRaw h494) rfl <| nt <| Under.fo1 <| Under.fo2 <| wk (k367 _ _ (osi h366).symm) (s2 rfl rfl)
           ·try dsimp only [cond_true, cond_false] at h311
            try dsimp only [cond_true, cond_false]
            refine sr <| bn rfl rfl rfl rfl <| nt <| sq <| Under.ite h311 rfl (fun h311 => ?_) (fun h311 => ?_)
            ·obtain ⟨x497, h498, h311⟩ := bsome h311
             obtain ⟨r503, h504, h311⟩ := bsome h311
             refine ct <| sq <| bk <| sr <| ov (OpV.ixS h498 Try.underlying25 sz61 rfl rdV rfl) rfl <| ov (OpV.ld kt61 rfl) rfl <| Under.al ZT61 rfl fun b499 => Under.stP (x' := x497) .box .id sz61_kApi_Epoch rfl rfl rdV rfl <| nt <| sq <| Under.after (fun X => ∀ (_ : Unit), r503 = () → Under F0 155 [(1, .raw (.int .i64 a1)), (8, .raw (.pointer (some ⟨b1, 0, none⟩))), (14, .raw q921), (16, .raw (.pointer (some ⟨b110, 0, none⟩))), (17, .raw (.bool true)), (19, .ptr kApi_Epoch x497), (90, .val (kSl kApi_Epoch) a0.Epochs), (91, .raw (.int .i64 (a0.Epochs.length : Int))), (92, .raw (.int .i64 x242))] ((.box kApi_Window b1 27 (⟨0, []⟩ : Api_Window)) :: (.any (manyH kApi_Epoch_r1 K1 mk_Api_Epoch tg_Api_Epoch 61 43 q649 x244)) :: (.box kApi_Window_r1 b110 27 (⟨a0.Newest, q649⟩ : Api_Window_r1)) :: L) X) ?_ ?_
             ·intro _ h519
              replace h519 := h519.symm
              subst h519
              obtain ⟨y507, h508, h311⟩ := bsome h311
              obtain ⟨z511, h512, h311⟩ := bsome h311
              refine Under.phases rfl <| Under.fo2 <| Under.fo2 <| Under.fo2 <| Under.grpT (L := L) [0, 1, 2, 3, 4, 5, 6, 7, 8, 9, 10, 11] [[16], [121], [19], [123], [19], [125], [126], [124, 127], [128], [122, 129], [16], [130, 131]] [⟨sk0 (.raw (.pointer (some ⟨b110, 0 + 1, none⟩))), [], []⟩, ⟨sk0 (.raw q649), [1], [(2, tk0 (.box kApi_Window_r1 b110 27 (⟨a0.Newest, q649⟩ : Api_Window_r1)))]⟩, ⟨sk0 (.ptr (kInt .i64) x497.Number), [], []⟩, ⟨sk0 (.raw (.int .i64 x497.Number)), [], []⟩, ⟨sk0 (.ptr K0 x497.Tags), [], []⟩, ⟨sk0 (.val K0 x497.Tags), [], []⟩, ⟨sk1 6 (fun u6 => .raw u6), [], [(3, tk1 6 (fun u6 => .own K1 u6 43 y507))]⟩, ⟨sk1 6 (fun u6 => .val kApi_Epoch_r1 (⟨x497.Number, u6⟩ : Api_Epoch_r1)), [3], [(4, tk1 6 (fun u6 => .own K1 u6 43 y507))]⟩, ⟨sk1 6 (fun u6 => .val (kSl kApi_Epoch_r1) [(⟨x497.Number, u6⟩ : Api_Epoch_r1)]), [], []⟩, ⟨sk1 9 (fun u9 => .raw u9), [0, 4], [(5, tk1 9 (fun u9 => .any (manyH kApi_Epoch_r1 K1 mk_Api_Epoch tg_Api_Epoch 61 43 u9 z511)))]⟩, ⟨sk0 (.raw (.pointer (some ⟨b110, 0 + 1, none⟩))), [], []⟩, ⟨sk0 (.raw undef), [2, 5], [(6, tk1 9 (fun u9 => .box kApi_Window_r1 b110 27 (⟨a0.Newest, u9⟩ : Api_Window_r1))), (7, tk1 9 (fun u9 => .any (manyH kApi_Epoch_r1 K1 mk_Api_Epoch tg_Api_Epoch 61 43 u9 z511)))]⟩] [(0, .any (manyH kApi_Epoch_r1 K1 mk_Api_Epoch tg_Api_Epoch 61 43 q649 x244)), (1, .box kApi_Window_r1 b110 27 (⟨a0.Newest, q649⟩ : Api_Window_r1))] (fun T : List Res => (.box kApi_Window b1 27 (⟨0, []⟩ : Api_Window)) :: T) lf1 rfl (by kernel_rfl) rfl rfl (fun F hF0 bs506 => ?_)
              refine Tq.v (fun G T hG => ?_) ?_
              ·exact ov (OpV.fdM fm27_1 rfl) rfl <| Tq.end undef rfl rfl
              refine Tq.st (.raw q649) [.box kApi_Window_r1 b110 27 (⟨a0.Newest, q649⟩ : Api_Window_r1)] rfl rfl (fun G T hG => ?_) ?_
              ·exact Under.ldP .box (.fld .id uf_Api_Window_r1_1) kt25_kRaw rfl rfl <| Under.rawR (t := 122) rfl <| Under.fo1 <| Under.fo1 <| Tq.end undef rfl rfl
              refine Tq.v (fun G T hG => ?_) ?_
              ·exact ov (OpV.fd fb61_0 rfl rfl) rfl <| Tq.end undef rfl rfl
              refine Tq.v (fun G T hG => ?_) ?_
              ·exact ov (OpV.ldI kt2 rfl) rfl <| Tq.end undef rfl rfl
              refine Tq.v (fun G T hG => ?_) ?_
              ·exact ov (OpV.fd fb61_1 rfl rfl) rfl <| Tq.end undef rfl rfl
              refine Tq.v (fun G T hG => ?_) ?_
              ·exact ov (OpV.ld kt36 rfl) rfl <| Tq.end undef rfl rfl
              refine Tq.st (.raw (bs506 6)) [] rfl rfl (fun G T hG => ?_) ?_
              ·refine Under.callX Try.call46 rfl rfl (f_slices_Clone_ro_ok h508 _) rfl ?_
               rintro v509
               exact Under.fo1 <| Under.fo1 <| Tq.end v509 rfl rfl
              refine Tq.st (.val kApi_Epoch_r1 (⟨x497.Number, (bs506 6)⟩ : Api_Epoch_r1)) [.own K1 (bs506 6) 43 y507] rfl rfl (fun G T hG => ?_) ?_
              ·exact Under.ownCell fun h510 => ov (OpV.bst BT61_Api_Epoch_r1 (Bld.cons (x' := (⟨x497.Number, .slice none 0 0⟩ : Api_Epoch_r1)) rfl rfl rdI (by intro q hq; simp only [List.mem_cons, List.not_mem_nil, or_false] at hq; rcases hq with rfl <;> rfl) (Bld.cons (x' := (⟨x497.Number, (bs506 6)⟩ : Api_Epoch_r1)) rfl rfl (rdRaw h510) ⟨rfl, (fun q hq => by simp at hq)⟩ (Bld.nil _)))) rfl <| Under.fo1 <| Under.fo1 <| Tq.end undef rfl rfl
              refine Tq.st (.val (kSl kApi_Epoch_r1) [(⟨x497.Number, (bs506 6)⟩ : Api_Epoch_r1)]) [] rfl rfl (fun G T hG => ?_) ?_
              ·exact Under.bsF (ys := [(⟨x497.Number, (bs506 6)⟩ : Api_Epoch_r1)]) Try.underlying25 ET61_Api_Epoch_r1 (BldA.cons rfl rfl rdV (BldA.nil _)) rfl rfl <| Tq.end undef rfl rfl
              refine Tq.st (.raw (bs506 9)) [.any (manyH kApi_Epoch_r1 K1 mk_Api_Epoch tg_Api_Epoch 61 43 q649 x244), .own K1 (bs506 6) 43 y507] rfl rfl (fun G T hG => ?_) ?_
              ·exact Under.fo1 <| Under.fo1 <| Under.manyPush (x := (⟨x497.Number, y507⟩ : Api_Epoch)) frR_Api_Epoch frT_Api_Epoch h512 Try.underlying25 (by kernel_rfl) AT61_Api_Epoch_r1 rfl rfl (.sl rdV) rfl fun v513 => Under.fo1 <| Under.fo1 <| Tq.end v513 rfl rfl
              refine Tq.v (fun G T hG => ?_) ?_
              ·exact ov (OpV.fdM fm27_1 rfl) rfl <| Tq.end undef rfl rfl
              refine Tq.st0 [.box kApi_Window_r1 b110 27 (⟨a0.Newest, q649⟩ : Api_Window_r1), .any (manyH kApi_Epoch_r1 K1 mk_Api_Epoch tg_Api_Epoch 61 43 (bs506 9) z511)] rfl (fun G T hG => ?_) ?_
              ·exact Under.fo1 <| Under.manyCell frR_Api_Epoch frT_Api_Epoch fun h514 => Under.fo1 <| Under.stP (x' := (⟨a0.Newest, (bs506 9)⟩ : Api_Window_r1)) .box (.fld .id uf_Api_Window_r1_1) sz25_kRaw rfl rfl (rdRaw h514) rfl <| Under.fo2 <| Under.fo2 <| Under.fo2 <| Tq.end0 undef rfl
              exact Tq.nil <| Under.le hF0 <| Under.pdone rfl <| bN <| tn <| rg <| bn rfl rfl rfl rfl <| mv rfl rfl <| nl <| Under.fo1 <| Under.fo2 <| Under.fo2 <| Under.next _ (bs506 9) h311 (s8 rfl rfl rfl rfl rfl rfl rfl rfl) rfl
             ·intro K k505
              exact sr <| mv rfl rfl <| ov (OpV.not rfl) rfl <| mv rfl rfl <| sk (rfl : (false : Bool) = false) rfl rfl rfl <| sk (rfl : (false : Bool) = false) rfl rfl rfl <| sk (rfl : (false : Bool) = false) rfl rfl rfl <| sk (rfl : (false : Bool) = false) rfl rfl rfl <| ov (pkF (rfl : (false : Bool) = false) rfl rfl) rfl <| nt <| Under.condF rfl <| Under.frz (t := 19) rfl <| ct <| Under.fo2 <| Under.fo2 <| Under.fo2 <| wk (k505 () (osi h504).symm) (s9 rfl rfl rfl rfl rfl rfl rfl rfl rfl)
            ·refine xt <| te ?_
             have e520 := done_eq h311 d312
             subst e520
             try dsimp only [cond_true, cond_false] at hF
             obtain ⟨r521, h522, hF⟩ := bsome hF
             refine te <| bh <| tn <| sq <| Under.after (fun X => ∀ (_ : Unit), r521 = () → Under F0 155 [(8, .raw (.pointer (some ⟨b1, 0, none⟩))), (16, .raw (.pointer (some ⟨b110, 0, none⟩)))] ((.box kApi_Window b1 27 (⟨0, []⟩ : Api_Window)) :: (.any (manyH kApi_Epoch_r1 K1 mk_Api_Epoch tg_Api_Epoch 61 43 q649 x244)) :: (.box kApi_Window_r1 b110 27 (⟨a0.Newest, q649⟩ : Api_Window_r1)) :: L) X) ?_ ?_
             ·intro _ h647
              replace h647 := h647.symm
              subst h647
              obtain ⟨r582, h583, hF⟩ := bsome hF
              refine sq <| Under.after (fun X => ∀ (x581 : Api_Window), r582 = x581 → Under F0 155 [(8, .raw (.pointer (some ⟨b1, 0, none⟩))), (16, .ptr kApi_Window x581)] ((.box kApi_Window b1 27 (⟨0, []⟩ : Api_Window)) :: L) X) ?_ ?_
              ·intro x581 h645
               replace h645 := h645.symm
               subst h645
               refine sr <| ov (OpV.ld kt27 rfl) rfl <| Under.stP (x' := x581) .box .id sz27_kApi_Window rfl rfl rdV rfl <| ag rfl rfl <| nl <| Under.frz (t := 8) rfl <| tn <| rc ?_
               have e585 := osi hF
               subst e585
               exact Under.rets Try.results26 (.ce rfl kt27 (.tm rfl .nil)) rfl rfl
              ·intro K k584
               obtain ⟨r626, h627, h583⟩ := bsome h583
               refine sr <| ov (OpV.fdM fm27_1 rfl) rfl <| Under.fo2 <| Under.ldP .box (.fld .id uf_Api_Window_r1_1) kt25_kRaw rfl rfl <| Under.rawR (t := 144) rfl <| Under.fo2 <| Under.lenMany frR_Api_Epoch frT_Api_Epoch Try.underlying25 rfl rfl <| mv rfl rfl <| nt <| bk <| Under.fo1 <| Under.fo2 <| Under.fo2 <| Under.loop (S := ((List Api_Epoch) × Int)) (C := Unit) () (fun (x642 : ((List Api_Epoch) × Int)) (q643 : Unit) => [(8, .raw (.pointer (some ⟨b1, 0, none⟩))), (16, .raw (.pointer (some ⟨b110, 0, none⟩))), (144, .raw q649), (145, .raw (.int .i64 (x244.length : Int))), (146, .raw (.int .i64 x642.2))]) (fun (x642 : ((List Api_Epoch) × Int)) (q643 : Unit) => (.any (manyH kApi_Epoch_r1 K1 mk_Api_Epoch tg_Api_Epoch 61 43 q649 x642.1)) :: (.box kApi_Window b1 27 (⟨0, []⟩ : Api_Window)) :: (.box kApi_Window_r1 b110 27 (⟨a0.Newest, q649⟩ : Api_Window_r1)) :: L) h627 (s5 rfl rfl rfl rfl rfl) rfl (fun x642 q643 o628 h624 d625 => ?_)
               obtain ⟨x610, x611⟩ := x642
               dsimp only at h624 ⊢
               refine sr <| bn rfl rfl rfl rfl <| nt <| sq <| Under.ite h624 rfl (fun h624 => ?_) (fun h624 => ?_)
               ·obtain ⟨x629, h630, h624⟩ := bsome h624
                obtain ⟨y638, h639, h624⟩ := bsome h624
                exact ct <| sq <| bk <| sr <| Under.manyTake frR_Api_Epoch frT_Api_Epoch h630 fun v631 x632 l633 h634 h635 h636 => ov (OpV.ixO h635 Try.underlying25 sz61_kApi_Epoch_r1 rfl rfl) rfl <| Under.ldP (.own h635) (.ix .id h635) kt61_kApi_Epoch_r1 rfl rfl <| Under.al ZT61_Api_Epoch_r1 rfl fun b637 => Under.stP (x' := (⟨x629.Number, v631⟩ : Api_Epoch_r1)) .box .id sz61_kApi_Epoch_r1 rfl rfl rdV rfl <| nt <| rg <| ov (OpV.fdM fm61_1 rfl) rfl <| Under.ldP .box (.fld .id uf_Api_Epoch_r1_1) kt36_kRaw rfl rfl <| Under.rawR (t := 151) rfl <| Under.fo2 <| Under.call Try.call47 rfl rfl (sortTags_ok h639 _) rfl <| nl <| Under.fo1 <| dr <| Under.fo1 <| Under.back (fun F w h => h636 ({ x629 with Tags := y638 } : Api_Epoch) rfl F w _ h) <| bN <| tn <| rg <| bn rfl rfl rfl rfl <| mv rfl rfl <| nl <| Under.fo2 <| Under.fo2 <| Under.fo2 <| Under.next _ () h624 (s5 rfl rfl rfl rfl rfl) rfl
               ·refine Under.manyPlain (KB := kApi_Epoch) frR_Api_Epoch frT_Api_Epoch rfl cvm_Api_Epoch <| Under.fo2 <| Under.fo1 <| Under.frzBO (fs := kApi_WindowF) (⟨a0.Newest, x610⟩ : Api_Window) (fun F hv => ⟨fun _ h => h, cv_raw hv, trivial⟩) <| Under.frz (t := 16) rfl <| xt <| te ?_
                have e640 := done_eq h624 d625
                subst e640
                exact te <| bh <| tn <| wk (k584 _ (osi h583).symm) (s2 rfl rfl)
             ·intro K k523
              exact sr <| mv rfl rfl <| ov (OpV.not rfl) rfl <| nt <| Under.condF rfl <| ct <| Under.fo2 <| Under.fo2 <| Under.fo2 <| wk (k523 () (osi h522).symm) (s2 rfl rfl)
          ·obtain ⟨x109, h104⟩ := h81 p106 l107 h108
           have h108k := h104
           obtain ⟨z917, h918, h104⟩ := bsome h104
           refine ov (OpV.extr rfl rfl) rfl <| nt <| sq <| Under.condT rfl <| ct <| bk <| sr <| Under.ent rfl rfl <| ov (OpV.extr rfl rfl) rfl <| Under.al ZT43 rfl fun b916 => Under.stP (x' := p106.1) .box .id sz43_kArr_16_kInt_u8_ rfl rfl rdV rfl <| nl <| Under.frz (t := 15) rfl <| tn <| rg <| mv rfl rfl <| ov (OpV.ld kt43 rfl) rfl <| Under.bsF (ys := [p106.1]) Try.underlying36 ET43 (BldA.cons rfl rfl rdV (BldA.nil _)) rfl rfl <| Under.fo1 <| Under.app h918 Try.underlying36 AT43 rfl rfl rdV rfl fun v919 => ag rfl rfl <| nl <| bN <| Under.fo2 <| Under.fo1 <| Under.fo2 <| tn <| Under.nextM (cur' := some p106) z917 v919 h108 ?_ h104 ?_ ?_
           ·exact h108k
           ·exact (s5 rfl rfl rfl rfl rfl)
           ·rfl
        ·obtain ⟨x73, h68⟩ := h53 p70 l71 h72
         have h72k := h68
         refine ov (OpV.extr rfl rfl) rfl <| nt <| sq <| Under.condT rfl <| ct <| bk <| sr <| Under.ent rfl rfl <| ov (OpV.extr rfl rfl) rfl <| Under.al ZT43 rfl fun b922 => Under.stP (x' := p70.1) .box .id sz43_kArr_16_kInt_u8_ rfl rfl rdV rfl <| nl <| Under.frz (t := 13) rfl <| tn <| rg <| mv rfl rfl <| ov (OpV.ld kt43 rfl) rfl <| Under.fo2 <| Under.mdel key43 Try.underlying69 rfl rfl rdV <| nl <| bN <| Under.fo2 <| Under.fo2 <| tn <| Under.nextM (cur' := some p70) (mdel p70.1 x923) () h72 ?_ h68 ?_ ?_
         ·exact h72k
         ·exact (s6 rfl rfl rfl rfl rfl rfl)
         ·rfl
       ·intro K k46
        obtain ⟨r941, h942, h45⟩ := bsome h45
        refine sr <| mv rfl rfl <| ov (OpV.len Try.underlying36 rfl rdV) rfl <| mv rfl rfl <| nt <| bk <| Under.fo1 <| Under.loop (S := (Int × (List ((List Int) × Int)))) (C := Unit) () (fun (x949 : (Int × (List ((List Int) × Int)))) (q950 : Unit) => [(1, .raw (.int .i64 a1)), (3, .raw (.int .i64 a3)), (4, .ptr kApi_Window a0), (8, .raw (.pointer (some ⟨b1, 0, none⟩))), (10, .raw (.map (some b17))), (45, .val K0 a2), (46, .raw (.int .i64 (a2.length : Int))), (47, .raw (.int .i64 x949.1))]) (fun (x949 : (Int × (List ((List Int) × Int)))) (q950 : Unit) => (.box kApi_Window b1 27 (⟨0, []⟩ : Api_Window)) :: (.mp K1 (kInt .i64) b17 x949.2) :: L) h942 (s8 rfl rfl rfl rfl rfl rfl rfl rfl) rfl (fun x949 q950 o943 h939 d940 => ?_)
        obtain ⟨x933, x934⟩ := x949
        dsimp only at h939 ⊢
        refine sr <| bn rfl rfl rfl rfl <| nt <| sq <| Under.ite h939 rfl (fun h939 => ?_) (fun h939 => ?_)
        ·obtain ⟨x944, h945, h939⟩ := bsome h939
         exact ct <| sq <| bk <| sr <| mv rfl rfl <| ov (OpV.ixS h945 Try.underlying36 sz43 rfl rdV rfl) rfl <| ov (OpV.ld kt43 rfl) rfl <| Under.al ZT43 rfl fun b946 => ag rfl rfl <| Under.stP (x' := x944) .box .id sz43_kArr_16_kInt_u8_ rfl rfl rdV rfl <| nl <| Under.frz (t := 12) rfl <| tn <| rg <| mv rfl rfl <| ov (OpV.ld kt43 rfl) rfl <| mv rfl rfl <| Under.fo1 <| Under.mup key43 Try.underlying69 rfl rfl rdV rfl rdI <| nl <| bN <| tn <| rg <| bn rfl rfl rfl rfl <| mv rfl rfl <| nl <| Under.fo1 <| Under.next _ () h939 (s8 rfl rfl rfl rfl rfl rfl rfl rfl) rfl
        ·refine xt <| te ?_
         have e947 := done_eq h939 d940
         subst e947
         exact te <| bh <| tn <| Under.fo1 <| Under.fo1 <| wk (k46 _ (osi h45).symm) (s5 rfl rfl rfl rfl rfl)
     ·refine by_ (t := 36) rfl (fun c11 => ?_) (fun c11 => ?_)
      ·replace h12 := ctrue c11 h12
       exact sk c11 rfl rfl rfl <| sk c11 rfl rfl rfl <| sk c11 rfl rfl rfl <| sk c11 rfl rfl rfl <| sk c11 rfl rfl rfl <| ov (pkT c11 rfl rfl) rfl <| rf 5 (rbq h12) rfl k
      ·replace h12 := cfalse c11 h12
       obtain ⟨y14, h15, h12⟩ := bsome h12
       exact gc c11 rfl rfl <| mv rfl rfl <| gc c11 rfl rfl <| ov (OpV.fd fb27_0 rfl rfl) rfl <| gc c11 rfl rfl <| ov (OpV.ldI kt2 rfl) rfl <| gc c11 rfl rfl <| Under.call Try.call36 rfl rfl (f_window_kept_ok h15 _) rfl <| gc c11 rfl rfl <| ov (OpV.not rfl) rfl <| ov (pkF c11 rfl rfl) rfl <| rf 5 (rbq h12) rfl k
   ·refine by_ (t := 28) rfl (fun c5 => ?_) (fun c5 => ?_)
    ·replace h6 := ctrue c5 h6
     exact sk c5 rfl rfl rfl <| sk c5 rfl rfl rfl <| sk c5 rfl rfl rfl <| ov (pkT c5 rfl rfl) rfl <| rf 3 (rbq h6) rfl k
    ·replace h6 := cfalse c5 h6
     obtain ⟨y8, h9, h6⟩ := bsome h6
     exact gc c5 rfl rfl <| ov (OpV.ld kt27 rfl) rfl <| gc c5 rfl rfl <| Under.call Try.call16 rfl rfl (f_window_Check_ok h9 _) rfl <| gc c5 rfl rfl <| bn rfl rfl rfl rfl <| ov (pkF c5 rfl rfl) rfl <| rf 3 (rbq h6) rfl k
  ·refine by_ (t := 24) rfl (fun c2 => ?_) (fun c2 => ?_)
   ·exact sk c2 rfl rfl rfl <| sk c2 rfl rfl rfl <| ov (pkT c2 rfl rfl) rfl <| rf 2 (or_t (e := decide (a3 > 4096)) c2) rfl k
   ·exact gc c2 rfl rfl <| mv rfl rfl <| gc c2 rfl rfl <| bn rfl rfl rfl rfl <| ov (pkF c2 rfl rfl) rfl <| rf 2 (or_f c2) rfl k
/-- slices.Index[[][16]byte,[16]byte] -/
noncomputable def f_slices_Index (a0 : List (List Int)) (a1 : List Int) : Option Int :=
  (((Loop.run (S := Int) (R := (Unit ⊕ Int)) (fun x29 =>
      bif decide (x29 < (a0.length : Int)) then
        (idx a0 x29).bind fun x37 =>
        bif a1 == x37 then
          some (.done (.inr x29))
        else
          some (.next (IntKind.wrap .i64 (x29 + 1)))
      else
        some (.done (.inl ()))) 0).bind fun r34 => match r34 with
    | .inl _ =>
      some (.inr ())
    | .inr z =>
      some (.inl z)
    : Option (Int ⊕ Unit))).bind fun r20 => match r20 with
    | .inl z =>
      some z
    | .inr _ =>
      some (-1)
theorem f_slices_Index_ok {a0 : List (List Int)} {a1 : List Int} {r0 : Int} (hF : f_slices_Index a0 a1 = some r0) (L : List Res) : Ok Try.prog 52 [SV.val K0 a0, SV.val K1 a1] (L) (SV.raw (.int .i64 r0)) (L) := by
  unfold f_slices_Index at hF
  refine Ok.intro 19 [(0, .val K0 a0), (1, .val K1 a1)] Try.func52 rfl rfl rfl rfl (fun F0 => ?_)
  obtain ⟨r20, h21, hF⟩ := bsome hF
  refine sr <| Under.bxF (K := kArr 16 K2) rfl rdV rfl <| ag rfl rfl <| nt <| sq <| Under.after (fun X => ∀ (_ : Unit), r20 = (.inr ()) → Under F0 19 [] (L) X) ?_ ?_
  ·intro _ h47
   replace h47 := h47.symm
   subst h47
   refine sr <| ag rfl rfl <| nt <| rc ?_
   have e23 := osi hF
   subst e23
   exact Under.rets Try.results52 (.tm rfl .nil) rfl rfl
  ·intro K k22
   obtain ⟨r34, h35, h21⟩ := bsome h21
   refine sr <| mv rfl rfl <| ov (OpV.len Try.underlying36 rfl rdV) rfl <| mv rfl rfl <| nt <| bk <| Under.loop (S := Int) (C := Unit) () (fun (x44 : Int) (q45 : Unit) => [(0, .val K0 a0), (3, .ptr K1 a1), (7, .raw (.int .i64 (a0.length : Int))), (8, .raw (.int .i64 x44))]) (fun (x44 : Int) (q45 : Unit) => L) h35 (s4 rfl rfl rfl rfl) rfl (fun x44 q45 o36 h32 d33 => ?_)
   refine sr <| bn rfl rfl rfl rfl <| nt <| sq <| Under.ite h32 rfl (fun h32 => ?_) (fun h32 => ?_)
   ·obtain ⟨x37, h38, h32⟩ := bsome h32
    refine ct <| sq <| bk <| sr <| mv rfl rfl <| ag rfl rfl <| nt <| sq <| dw rfl (by kernel_rfl) fun F hF0 => oq (OpV.ld kt43 rfl) rfl <| mvq rfl rfl <| mvq rfl rfl <| oq (OpV.ixS h38 Try.underlying36 sz43 rfl rdV rfl) rfl <| oq (OpV.ld kt43 rfl) rfl <| oq (OpV.eqK eqk43 eqg43 rfl rfl rfl rdV rfl rdV) rfl <| nlq hF0 <| tn <| Under.ite h32 rfl (fun h32 => ?_) (fun h32 => ?_)
    ·refine sr <| mv rfl rfl <| ag rfl rfl <| nt <| rc <| Under.bR <| tr ?_
     have e39 := done_eq h32 d33
     subst e39
     refine tr <| Under.bR <| tr ?_
     have e40 := osi h21
     subst e40
     have e41 := osi hF
     subst e41
     exact Under.rets Try.results52 (.tm rfl .nil) rfl rfl
    ·exact cs <| bN <| tn <| rg <| bn rfl rfl rfl rfl <| mv rfl rfl <| nl <| Under.next _ () h32 (s4 rfl rfl rfl rfl) rfl
   ·refine xt <| te ?_
    have e42 := done_eq h32 d33
    subst e42
    exact te <| bh <| tn <| wk (k22 () (osi h21).symm) (sub_nil _)
/-- slices.Contains[[][16]byte,[16]byte] -/
noncomputable def f_slices_Contains (a0 : List (List Int)) (a1 : List Int) : Option Bool :=
  (f_slices_Index a0 a1).bind fun y1 =>
  some (decide (y1 ≥ 0))
theorem f_slices_Contains_ok {a0 : List (List Int)} {a1 : List Int} {r0 : Bool} (hF : f_slices_Contains a0 a1 = some r0) (L : List Res) : Ok Try.prog 44 [SV.val K0 a0, SV.val K1 a1] (L) (SV.raw (.bool r0)) (L) := by
  unfold f_slices_Contains at hF
  refine Ok.intro 9 [(0, .val K0 a0), (1, .val K1 a1)] Try.func44 rfl rfl rfl rfl (fun F0 => ?_)
  obtain ⟨y1, h2, hF⟩ := bsome hF
  refine sr <| Under.bxF (K := kArr 16 K2) rfl rdV rfl <| ag rfl rfl <| ns <| mv rfl rfl <| ov (OpV.ld kt43 rfl) rfl <| Under.call Try.call52 rfl rfl (f_slices_Index_ok h2 _) rfl <| bn rfl rfl rfl rfl <| ag rfl rfl <| nt <| rc ?_
  have e3 := osi hF
  subst e3
  exact Under.rets Try.results44 (.tm rfl .nil) rfl rfl
/-- churn/window.Has$1 -/
noncomputable def f_window_Has_1 (a0 : Api_Epoch) (a1 : List Int) : Option Bool :=
  (f_slices_Contains a0.Tags a1).bind fun y1 =>
  some y1
theorem f_window_Has_1_ok {a0 : Api_Epoch} {a1 : List Int} {r0 : Bool} (hF : f_window_Has_1 a0 a1 = some r0) (L : List Res) : Ok Try.prog 43 [SV.val kApi_Epoch a0, SV.ptr K1 a1] (L) (SV.raw (.bool r0)) (L) := by
  unfold f_window_Has_1 at hF
  refine Ok.intro 8 [(0, .val kApi_Epoch a0), (1, .ptr K1 a1)] Try.func43 rfl rfl rfl rfl (fun F0 => ?_)
  obtain ⟨y1, h2, hF⟩ := bsome hF
  refine sr <| Under.bxF (K := kApi_Epoch) rfl rdV rfl <| ag rfl rfl <| ns <| ov (OpV.fd fb61_1 rfl rfl) rfl <| ov (OpV.ld kt36 rfl) rfl <| ov (OpV.ld kt43 rfl) rfl <| Under.call Try.call44 rfl rfl (f_slices_Contains_ok h2 _) rfl <| ag rfl rfl <| nt <| rc ?_
  have e3 := osi hF
  subst e3
  exact Under.rets Try.results43 (.tm rfl .nil) rfl rfl
/-- slices.IndexFunc[[]churn/api.Epoch,churn/api.Epoch] -/
noncomputable def f_slices_IndexFunc_window_Has_1 (a0 : List Api_Epoch) (a1 : List Int) : Option Int :=
  (((Loop.run (S := Int) (R := (Unit ⊕ Int)) (fun x41 =>
      bif decide (x41 < (a0.length : Int)) then
        (idx a0 x41).bind fun x51 =>
        (f_window_Has_1 x51 a1).bind fun y53 =>
        bif y53 then
          some (.done (.inr x41))
        else
          some (.next (IntKind.wrap .i64 (x41 + 1)))
      else
        some (.done (.inl ()))) 0).bind fun r48 => match r48 with
    | .inl _ =>
      some (.inr ())
    | .inr z =>
      some (.inl z)
    : Option (Int ⊕ Unit))).bind fun r28 => match r28 with
    | .inl z =>
      some z
    | .inr _ =>
      some (-1)
theorem f_slices_IndexFunc_window_Has_1_ok {a0 : List Api_Epoch} {a1 : List Int} {r0 : Int} (hF : f_slices_IndexFunc_window_Has_1 a0 a1 = some r0) (L : List Res) : Ok Try.prog 51 [SV.val (kSl kApi_Epoch) a0, SV.fn 43 [.ptr K1 a1]] (L) (SV.raw (.int .i64 r0)) (L) := by
  unfold f_slices_IndexFunc_window_Has_1 at hF
  refine Ok.intro 19 [(0, .val (kSl kApi_Epoch) a0), (1, .fn 43 [.ptr K1 a1])] Try.func51 rfl rfl rfl rfl (fun F0 => ?_)
  obtain ⟨r28, h29, hF⟩ := bsome hF
  refine sr <| ag rfl rfl <| nt <| sq <| Under.after (fun X => ∀ (_ : Unit), r28 = (.inr ()) → Under F0 19 [] (L) X) ?_ ?_
  ·intro _ h63
   replace h63 := h63.symm
   subst h63
   refine sr <| ag rfl rfl <| nt <| rc ?_
   have e31 := osi hF
   subst e31
   exact Under.rets Try.results51 (.tm rfl .nil) rfl rfl
  ·intro K k30
   obtain ⟨r48, h49, h29⟩ := bsome h29
   refine sr <| mv rfl rfl <| ov (OpV.len Try.underlying25 rfl rdV) rfl <| mv rfl rfl <| nt <| bk <| Under.loop (S := Int) (C := Unit) () (fun (x60 : Int) (q61 : Unit) => [(0, .val (kSl kApi_Epoch) a0), (1, .fn 43 [.ptr K1 a1]), (7, .raw (.int .i64 (a0.length : Int))), (8, .raw (.int .i64 x60))]) (fun (x60 : Int) (q61 : Unit) => L) h49 (s4 rfl rfl rfl rfl) rfl (fun x60 q61 o50 h46 d47 => ?_)
   refine sr <| bn rfl rfl rfl rfl <| nt <| sq <| Under.ite h46 rfl (fun h46 => ?_) (fun h46 => ?_)
   ·obtain ⟨x51, h52, h46⟩ := bsome h46
    obtain ⟨y53, h54, h46⟩ := bsome h46
    refine ct <| sq <| bk <| sr <| mv rfl rfl <| ag rfl rfl <| ns <| mv rfl rfl <| mv rfl rfl <| mv rfl rfl <| ov (OpV.ixS h52 Try.underlying25 sz61 rfl rdV rfl) rfl <| ov (OpV.ld kt61 rfl) rfl <| Under.callC Try.call43 rfl rfl (f_window_Has_1_ok h54 _) rfl <| nt <| Under.ite h46 rfl (fun h46 => ?_) (fun h46 => ?_)
    ·refine sr <| mv rfl rfl <| ag rfl rfl <| nt <| rc <| Under.bR <| tr ?_
     have e55 := done_eq h46 d47
     subst e55
     refine tr <| Under.bR <| tr ?_
     have e56 := osi h29
     subst e56
     have e57 := osi hF
     subst e57
     exact Under.rets Try.results51 (.tm rfl .nil) rfl rfl
    ·exact cs <| bN <| tn <| rg <| bn rfl rfl rfl rfl <| mv rfl rfl <| nl <| Under.next _ () h46 (s4 rfl rfl rfl rfl) rfl
   ·refine xt <| te ?_
    have e58 := done_eq h46 d47
    subst e58
    exact te <| bh <| tn <| wk (k30 () (osi h29).symm) (sub_nil _)
/-- slices.ContainsFunc[[]churn/api.Epoch,churn/api.Epoch] -/
noncomputable def f_slices_ContainsFunc_window_Has_1 (a0 : List Api_Epoch) (a1 : List Int) : Option Bool :=
  (f_slices_IndexFunc_window_Has_1 a0 a1).bind fun y1 =>
  some (decide (y1 ≥ 0))
theorem f_slices_ContainsFunc_window_Has_1_ok {a0 : List Api_Epoch} {a1 : List Int} {r0 : Bool} (hF : f_slices_ContainsFunc_window_Has_1 a0 a1 = some r0) (L : List Res) : Ok Try.prog 42 [SV.val (kSl kApi_Epoch) a0, SV.fn 43 [.ptr K1 a1]] (L) (SV.raw (.bool r0)) (L) := by
  unfold f_slices_ContainsFunc_window_Has_1 at hF
  refine Ok.intro 9 [(0, .val (kSl kApi_Epoch) a0), (1, .fn 43 [.ptr K1 a1])] Try.func42 rfl rfl rfl rfl (fun F0 => ?_)
  obtain ⟨y1, h2, hF⟩ := bsome hF
  refine sr <| ag rfl rfl <| ns <| mv rfl rfl <| mv rfl rfl <| Under.call Try.call51 rfl rfl (f_slices_IndexFunc_window_Has_1_ok h2 _) rfl <| bn rfl rfl rfl rfl <| ag rfl rfl <| nt <| rc ?_
  have e3 := osi hF
  subst e3
  exact Under.rets Try.results42 (.tm rfl .nil) rfl rfl
/-- churn/window.Has -/
noncomputable def f_window_Has (a0 : Api_Window) (a1 : List Int) : Option Bool :=
  (f_slices_ContainsFunc_window_Has_1 a0.Epochs a1).bind fun y1 =>
  some y1
theorem f_window_Has_ok {a0 : Api_Window} {a1 : List Int} {r0 : Bool} (hF : f_window_Has a0 a1 = some r0) (L : List Res) : Ok Try.prog 20 [SV.val kApi_Window a0, SV.val K1 a1] (L) (SV.raw (.bool r0)) (L) := by
  unfold f_window_Has at hF
  refine Ok.intro 9 [(0, .val kApi_Window a0), (1, .val K1 a1)] Try.func20 rfl rfl rfl rfl (fun F0 => ?_)
  obtain ⟨y1, h2, hF⟩ := bsome hF
  refine sr <| Under.bxF (K := kApi_Window) rfl rdV rfl <| Under.bxF (K := kArr 16 K2) rfl rdV rfl <| ag rfl rfl <| ns <| ov (OpV.fd fb27_1 rfl rfl) rfl <| ov (OpV.ld kt25 rfl) rfl <| ov (OpV.mkf rfl) rfl <| Under.call Try.call42 rfl rfl (f_slices_ContainsFunc_window_Has_1_ok h2 _) rfl <| ag rfl rfl <| nt <| rc ?_
  have e3 := osi hF
  subst e3
  exact Under.rets Try.results20 (.tm rfl .nil) rfl rfl
/-- churn/churnlaw16.alive -/
noncomputable def f_churnlaw16_alive  : Option Bool :=
  (f_churnlaw16_some).bind fun y1 =>
  (f_window_Open y1 6 2).bind fun y3 =>
  (f_churnlaw16_some).bind fun y6 =>
  (f_churnlaw16_tag 100).bind fun y8 =>
  (f_window_Add y6 3 [y8] 4).bind fun y10 =>
  (f_churnlaw16_some).bind fun y13 =>
  (f_churnlaw16_tag 100).bind fun y15 =>
  (f_churnlaw16_tag 101).bind fun y17 =>
  (f_window_Add y13 5 [y15, y17] 4).bind fun y19 =>
  ((bif (((((y3.2 != 0) || (y10.2 != 0)) || (y19.2 != 160)) || (y3.1.Newest != 6)) || ((y3.1.Epochs.length : Int) != 1)) || ((y10.1.Epochs.length : Int) != 3) then
    some true
  else
    (idx y10.1.Epochs 0).bind fun x40 =>
    some (x40.Number != 3)
    : Option Bool)).bind fun x39 =>
  bif x39 then
    some false
  else
    (f_churnlaw16_some).bind fun y43 =>
    (f_churnlaw16_tag 99).bind fun y45 =>
    (f_window_Has y43 y45).bind fun y47 =>
    ((bif y47 then
      (f_churnlaw16_some).bind fun y52 =>
      (f_churnlaw16_tag 100).bind fun y54 =>
      (f_window_Has y52 y54).bind fun y56 =>
      some (!y56)
    else
      some false
      : Option Bool)).bind fun x51 =>
    ((bif x51 then
      (f_churnlaw16_some).bind fun y61 =>
      (f_window_Len y61).bind fun y63 =>
      some (y63 == 3)
    else
      some false
      : Option Bool)).bind fun x60 =>
    ((bif x60 then
      (f_churnlaw16_some).bind fun y68 =>
      (f_window_Check y68 2 2).bind fun y70 =>
      some (y70 == 2)
    else
      some false
      : Option Bool)).bind fun x67 =>
    ((bif x67 then
      (f_churnlaw16_some).bind fun y75 =>
      (f_window_Check y75 2 3).bind fun y77 =>
      some (y77 == 0)
    else
      some false
      : Option Bool)).bind fun x74 =>
    some x74
theorem f_churnlaw16_alive_ok  {r0 : Bool} (hF : f_churnlaw16_alive = some r0) (L : List Res) : Ok Try.prog 15 [] (L) (SV.raw (.bool r0)) (L) := by
  unfold f_churnlaw16_alive at hF
  refine Ok.intro 86 [] Try.func15 rfl rfl rfl rfl (fun F0 => ?_)
  obtain ⟨y1, h2, hF⟩ := bsome hF
  obtain ⟨y3, h4, hF⟩ := bsome hF
  obtain ⟨y6, h7, hF⟩ := bsome hF
  obtain ⟨y8, h9, hF⟩ := bsome hF
  obtain ⟨y10, h11, hF⟩ := bsome hF
  obtain ⟨y13, h14, hF⟩ := bsome hF
  obtain ⟨y15, h16, hF⟩ := bsome hF
  obtain ⟨y17, h18, hF⟩ := bsome hF
  obtain ⟨y19, h20, hF⟩ := bsome hF
  refine sr <| ag rfl rfl <| ns <| Under.call Try.call34 rfl rfl (f_churnlaw16_some_ok h2 _) rfl <| Under.call Try.call23 rfl rfl (f_window_Open_ok h4 _) rfl <| mv rfl rfl <| ov (OpV.extr rfl rfl) rfl <| ov (OpV.extr rfl rfl) rfl <| Under.al ZT27 rfl fun b5 => Under.stP (x' := y3.1) .box .id sz27_kApi_Window rfl rfl rdV rfl <| ag rfl rfl <| nl <| Under.frz (t := 1) rfl <| tn <| sr <| Under.call Try.call34 rfl rfl (f_churnlaw16_some_ok h7 _) rfl <| Under.call Try.call29 rfl rfl (f_churnlaw16_tag_ok h9 _) rfl <| Under.bsF (ys := [y8]) Try.underlying36 ET43 (BldA.cons rfl rfl rdV (BldA.nil _)) rfl rfl <| Under.call Try.call26 rfl rfl (f_window_Add_ok h11 _) rfl <| mv rfl rfl <| ov (OpV.extr rfl rfl) rfl <| ov (OpV.extr rfl rfl) rfl <| Under.al ZT27 rfl fun b12 => Under.stP (x' := y10.1) .box .id sz27_kApi_Window rfl rfl rdV rfl <| ag rfl rfl <| nl <| Under.frz (t := 3) rfl <| tn <| sr <| Under.call Try.call34 rfl rfl (f_churnlaw16_some_ok h14 _) rfl <| Under.call Try.call29 rfl rfl (f_churnlaw16_tag_ok h16 _) rfl <| Under.call Try.call29 rfl rfl (f_churnlaw16_tag_ok h18 _) rfl <| Under.bsF (ys := [y15, y17]) Try.underlying36 ET43 (BldA.cons rfl rfl rdV (BldA.cons rfl rfl rdV (BldA.nil _))) rfl rfl <| Under.call Try.call26 rfl rfl (f_window_Add_ok h20 _) rfl <| mv rfl rfl <| ov (OpV.extr rfl rfl) rfl <| ov (OpV.extr rfl rfl) rfl <| Under.al ZT27 rfl fun b21 => Under.stP (x' := y19.1) .box .id sz27_kApi_Window rfl rfl rdV rfl <| ag rfl rfl <| nl <| dr <| tn <| sq <| sr <| mv rfl rfl <| bn rfl rfl rfl rfl <| mv rfl rfl <| runj_3 32 ((y3.2 != 0) || (y10.2 != 0)) ?_ (fun k => ?_)
  ·refine mv rfl rfl <| runj_3 36 (((y3.2 != 0) || (y10.2 != 0)) || (y19.2 != 160)) ?_ (fun k => ?_)
   ·refine mv rfl rfl <| runj_4 41 ((((y3.2 != 0) || (y10.2 != 0)) || (y19.2 != 160)) || (y3.1.Newest != 6)) ?_ (fun k => ?_)
    ·refine mv rfl rfl <| runj_5 47 (((((y3.2 != 0) || (y10.2 != 0)) || (y19.2 != 160)) || (y3.1.Newest != 6)) || ((y3.1.Epochs.length : Int) != 1)) ?_ (fun k => ?_)
     ·refine mv rfl rfl <| runj_5 53 ((((((y3.2 != 0) || (y10.2 != 0)) || (y19.2 != 160)) || (y3.1.Newest != 6)) || ((y3.1.Epochs.length : Int) != 1)) || ((y10.1.Epochs.length : Int) != 3)) ?_ (fun k => ?_)
      ·obtain ⟨x39, h38, hF⟩ := bsome hF
       refine mv rfl rfl <| runj_7 61 x39 ?_ (fun k => ?_)
       ·refine nt <| Under.ite hF rfl (fun hF => ?_) (fun hF => ?_)
        ·refine sr <| ag rfl rfl <| nt <| rt ?_
         have e42 := osi hF
         subst e42
         exact Under.rets Try.results15 (.tm rfl .nil) rfl rfl
        ·obtain ⟨y43, h44, hF⟩ := bsome hF
         obtain ⟨y45, h46, hF⟩ := bsome hF
         obtain ⟨y47, h48, hF⟩ := bsome hF
         obtain ⟨x51, h50, hF⟩ := bsome hF
         refine ct <| sr <| Under.call Try.call34 rfl rfl (f_churnlaw16_some_ok h44 _) rfl <| Under.call Try.call29 rfl rfl (f_churnlaw16_tag_ok h46 _) rfl <| Under.call Try.call20 rfl rfl (f_window_Has_ok h48 _) rfl <| mv rfl rfl <| runj_5 70 x51 ?_ (fun k => ?_)
         ·obtain ⟨x60, h59, hF⟩ := bsome hF
          refine mv rfl rfl <| runj_4 75 x60 ?_ (fun k => ?_)
          ·obtain ⟨x67, h66, hF⟩ := bsome hF
           refine mv rfl rfl <| runj_4 80 x67 ?_ (fun k => ?_)
           ·obtain ⟨x74, h73, hF⟩ := bsome hF
            refine mv rfl rfl <| runj_4 85 x74 ?_ (fun k => ?_)
            ·refine ag rfl rfl <| nt <| rc ?_
             have e79 := osi hF
             subst e79
             exact Under.rets Try.results15 (.tm rfl .nil) rfl rfl
            ·refine by_ (t := 81) rfl (fun c72 => ?_) (fun c72 => ?_)
             ·replace h73 := ctrue c72 h73
              obtain ⟨y75, h76, h73⟩ := bsome h73
              obtain ⟨y77, h78, h73⟩ := bsome h73
              exact gc c72 rfl rfl <| Under.call Try.call34 rfl rfl (f_churnlaw16_some_ok h76 _) rfl <| gc c72 rfl rfl <| Under.call Try.call16 rfl rfl (f_window_Check_ok h78 _) rfl <| gc c72 rfl rfl <| bn rfl rfl rfl rfl <| ov (pkT c72 rfl rfl) rfl <| rf 3 (rbq h73) rfl k
             ·replace h73 := cfalse c72 h73
              exact sk c72 rfl rfl rfl <| sk c72 rfl rfl rfl <| sk c72 rfl rfl rfl <| ov (pkF c72 rfl rfl) rfl <| rf 3 (rbq h73) rfl k
           ·refine by_ (t := 76) rfl (fun c65 => ?_) (fun c65 => ?_)
            ·replace h66 := ctrue c65 h66
             obtain ⟨y68, h69, h66⟩ := bsome h66
             obtain ⟨y70, h71, h66⟩ := bsome h66
             exact gc c65 rfl rfl <| Under.call Try.call34 rfl rfl (f_churnlaw16_some_ok h69 _) rfl <| gc c65 rfl rfl <| Under.call Try.call16 rfl rfl (f_window_Check_ok h71 _) rfl <| gc c65 rfl rfl <| bn rfl rfl rfl rfl <| ov (pkT c65 rfl rfl) rfl <| rf 3 (rbq h66) rfl k
            ·replace h66 := cfalse c65 h66
             exact sk c65 rfl rfl rfl <| sk c65 rfl rfl rfl <| sk c65 rfl rfl rfl <| ov (pkF c65 rfl rfl) rfl <| rf 3 (rbq h66) rfl k
          ·refine by_ (t := 71) rfl (fun c58 => ?_) (fun c58 => ?_)
           ·replace h59 := ctrue c58 h59
            obtain ⟨y61, h62, h59⟩ := bsome h59
            obtain ⟨y63, h64, h59⟩ := bsome h59
            exact gc c58 rfl rfl <| Under.call Try.call34 rfl rfl (f_churnlaw16_some_ok h62 _) rfl <| gc c58 rfl rfl <| Under.call Try.call18 rfl rfl (f_window_Len_ok h64 _) rfl <| gc c58 rfl rfl <| bn rfl rfl rfl rfl <| ov (pkT c58 rfl rfl) rfl <| rf 3 (rbq h59) rfl k
           ·replace h59 := cfalse c58 h59
            exact sk c58 rfl rfl rfl <| sk c58 rfl rfl rfl <| sk c58 rfl rfl rfl <| ov (pkF c58 rfl rfl) rfl <| rf 3 (rbq h59) rfl k
         ·refine by_ (t := 65) rfl (fun c49 => ?_) (fun c49 => ?_)
          ·replace h50 := ctrue c49 h50
           obtain ⟨y52, h53, h50⟩ := bsome h50
           obtain ⟨y54, h55, h50⟩ := bsome h50
           obtain ⟨y56, h57, h50⟩ := bsome h50
           exact gc c49 rfl rfl <| Under.call Try.call34 rfl rfl (f_churnlaw16_some_ok h53 _) rfl <| gc c49 rfl rfl <| Under.call Try.call29 rfl rfl (f_churnlaw16_tag_ok h55 _) rfl <| gc c49 rfl rfl <| Under.call Try.call20 rfl rfl (f_window_Has_ok h57 _) rfl <| gc c49 rfl rfl <| ov (OpV.not rfl) rfl <| ov (pkT c49 rfl rfl) rfl <| rf 4 (rbq h50) rfl k
          ·replace h50 := cfalse c49 h50
           exact sk c49 rfl rfl rfl <| sk c49 rfl rfl rfl <| sk c49 rfl rfl rfl <| sk c49 rfl rfl rfl <| ov (pkF c49 rfl rfl) rfl <| rf 4 (rbq h50) rfl k
       ·refine by_ (t := 54) rfl (fun c37 => ?_) (fun c37 => ?_)
        ·replace h38 := ctrue c37 h38
         exact sk c37 rfl rfl rfl <| sk c37 rfl rfl rfl <| sk c37 rfl rfl rfl <| sk c37 rfl rfl rfl <| sk c37 rfl rfl rfl <| sk c37 rfl rfl rfl <| ov (pkT c37 rfl rfl) rfl <| rf 6 (rbq h38) rfl k
        ·replace h38 := cfalse c37 h38
         obtain ⟨x40, h41, h38⟩ := bsome h38
         exact gc c37 rfl rfl <| ov (OpV.fd fb27_1 rfl rfl) rfl <| gc c37 rfl rfl <| ov (OpV.ld kt25 rfl) rfl <| gc c37 rfl rfl <| ov (OpV.ixS h41 Try.underlying25 sz61 rfl rdV rfl) rfl <| gc c37 rfl rfl <| ov (OpV.fd fb61_0 rfl rfl) rfl <| gc c37 rfl rfl <| ov (OpV.ldI kt2 rfl) rfl <| gc c37 rfl rfl <| bn rfl rfl rfl rfl <| ov (pkF c37 rfl rfl) rfl <| rf 6 (rbq h38) rfl k
      ·refine by_ (t := 48) rfl (fun c34 => ?_) (fun c34 => ?_)
       ·exact sk c34 rfl rfl rfl <| sk c34 rfl rfl rfl <| sk c34 rfl rfl rfl <| sk c34 rfl rfl rfl <| ov (pkT c34 rfl rfl) rfl <| rf 4 (or_t (e := (y10.1.Epochs.length : Int) != 3) c34) rfl k
       ·exact gc c34 rfl rfl <| ov (OpV.fd fb27_1 rfl rfl) rfl <| gc c34 rfl rfl <| ov (OpV.ld kt25 rfl) rfl <| gc c34 rfl rfl <| ov (OpV.len Try.underlying25 rfl rdV) rfl <| gc c34 rfl rfl <| bn rfl rfl rfl rfl <| ov (pkF c34 rfl rfl) rfl <| rf 4 (or_f c34) rfl k
     ·refine by_ (t := 42) rfl (fun c31 => ?_) (fun c31 => ?_)
      ·exact sk c31 rfl rfl rfl <| sk c31 rfl rfl rfl <| sk c31 rfl rfl rfl <| sk c31 rfl rfl rfl <| ov (pkT c31 rfl rfl) rfl <| rf 4 (or_t (e := (y3.1.Epochs.length : Int) != 1) c31) rfl k
      ·exact gc c31 rfl rfl <| ov (OpV.fd fb27_1 rfl rfl) rfl <| gc c31 rfl rfl <| ov (OpV.ld kt25 rfl) rfl <| gc c31 rfl rfl <| ov (OpV.len Try.underlying25 rfl rdV) rfl <| gc c31 rfl rfl <| bn rfl rfl rfl rfl <| ov (pkF c31 rfl rfl) rfl <| rf 4 (or_f c31) rfl k
    ·refine by_ (t := 37) rfl (fun c28 => ?_) (fun c28 => ?_)
     ·exact sk c28 rfl rfl rfl <| sk c28 rfl rfl rfl <| sk c28 rfl rfl rfl <| ov (pkT c28 rfl rfl) rfl <| rf 3 (or_t (e := y3.1.Newest != 6) c28) rfl k
     ·exact gc c28 rfl rfl <| ov (OpV.fd fb27_0 rfl rfl) rfl <| gc c28 rfl rfl <| ov (OpV.ldI kt2 rfl) rfl <| gc c28 rfl rfl <| bn rfl rfl rfl rfl <| ov (pkF c28 rfl rfl) rfl <| rf 3 (or_f c28) rfl k
   ·refine by_ (t := 33) rfl (fun c25 => ?_) (fun c25 => ?_)
    ·exact sk c25 rfl rfl rfl <| sk c25 rfl rfl rfl <| ov (pkT c25 rfl rfl) rfl <| rf 2 (or_t (e := y19.2 != 160) c25) rfl k
    ·exact gc c25 rfl rfl <| mv rfl rfl <| gc c25 rfl rfl <| bn rfl rfl rfl rfl <| ov (pkF c25 rfl rfl) rfl <| rf 2 (or_f c25) rfl k
  ·refine by_ (t := 29) rfl (fun c22 => ?_) (fun c22 => ?_)
   ·exact sk c22 rfl rfl rfl <| sk c22 rfl rfl rfl <| ov (pkT c22 rfl rfl) rfl <| rf 2 (or_t (e := y10.2 != 0) c22) rfl k
   ·exact gc c22 rfl rfl <| mv rfl rfl <| gc c22 rfl rfl <| bn rfl rfl rfl rfl <| ov (pkF c22 rfl rfl) rfl <| rf 2 (or_f c22) rfl k
/-- churn/churnlaw16.WindowNames -/
noncomputable def f_churnlaw16_WindowNames  : Option Bool :=
  (f_churnlaw16_alive).bind fun y4 =>
  some y4
theorem f_churnlaw16_WindowNames_ok  {r0 : Bool} (hF : f_churnlaw16_WindowNames = some r0) (L : List Res) : Ok Try.prog 4 [] (L) (SV.raw (.bool r0)) (L) := by
  unfold f_churnlaw16_WindowNames at hF
  refine Ok.intro 4 [] Try.func4 rfl rfl rfl rfl (fun F0 => ?_)
  obtain ⟨y4, h5, hF⟩ := bsome hF
  refine sr <| ag rfl rfl <| ns <| mv rfl rfl <| gc (rfl : (true : Bool) = true) rfl rfl <| Under.call Try.call15 rfl rfl (f_churnlaw16_alive_ok h5 _) rfl <| ov (pkT (rfl : (true : Bool) = true) rfl rfl) rfl <| ag rfl rfl <| nt <| rc ?_
  have e6 := osi hF
  subst e6
  exact Under.rets Try.results4 (.tm rfl .nil) rfl rfl
/-- churn/churnref16.Len -/
noncomputable def f_churnref16_Len (a0 : Api_Window) : Option Int :=
  (((Loop.run (S := (Int × Int)) (R := Int) (fun (x33, x34) =>
      bif decide (x34 < (a0.Epochs.length : Int)) then
        (idx a0.Epochs x34).bind fun x43 =>
        some (.next (IntKind.wrap .i64 (x33 + (x43.Tags.length : Int)), IntKind.wrap .i64 (x34 + 1)))
      else
        some (.done x33)) (0, 0)).bind fun x37 =>
  some x37
    : Option Int)).bind fun x22 =>
  some x22
theorem f_churnref16_Len_ok {a0 : Api_Window} {r0 : Int} (hF : f_churnref16_Len a0 = some r0) (L : List Res) : Ok Try.prog 19 [SV.val kApi_Window a0] (L) (SV.raw (.int .i64 r0)) (L) := by
  unfold f_churnref16_Len at hF
  refine Ok.intro 22 [(0, .val kApi_Window a0)] Try.func19 rfl rfl rfl rfl (fun F0 => ?_)
  obtain ⟨r23, h24, hF⟩ := bsome hF
  refine sr <| Under.bxF (K := kApi_Window) rfl rdV rfl <| ag rfl rfl <| ns <| ag rfl rfl <| nt <| sq <| Under.after (fun X => ∀ (x22 : Int), r23 = x22 → Under F0 22 [(3, .raw (.int .i64 x22))] (L) X) ?_ ?_
  ·intro x22 h50
   replace h50 := h50.symm
   subst h50
   refine sr <| mv rfl rfl <| ag rfl rfl <| nt <| rc ?_
   have e26 := osi hF
   subst e26
   exact Under.rets Try.results19 (.tm rfl .nil) rfl rfl
  ·intro K k25
   obtain ⟨r40, h41, h24⟩ := bsome h24
   refine sr <| ag rfl rfl <| nt <| bk <| Under.loop (S := (Int × Int)) (C := Unit) () (fun (x47 : (Int × Int)) (q48 : Unit) => [(1, .ptr kApi_Window a0), (3, .raw (.int .i64 x47.1)), (4, .raw (.int .i64 x47.2))]) (fun (x47 : (Int × Int)) (q48 : Unit) => L) h41 (s3 rfl rfl rfl) rfl (fun x47 q48 o42 h38 d39 => ?_)
   obtain ⟨x33, x34⟩ := x47
   dsimp only at h38 ⊢
   refine sq <| sr <| mv rfl rfl <| ov (OpV.fd fb27_1 rfl rfl) rfl <| ov (OpV.ld kt25 rfl) rfl <| ov (OpV.len Try.underlying25 rfl rdV) rfl <| bn rfl rfl rfl rfl <| nt <| Under.ite h38 rfl (fun h38 => ?_) (fun h38 => ?_)
   ·obtain ⟨x43, h44, h38⟩ := bsome h38
    exact ct <| sq <| bk <| rg <| mv rfl rfl <| ov (OpV.fd fb27_1 rfl rfl) rfl <| ov (OpV.ld kt25 rfl) rfl <| mv rfl rfl <| ov (OpV.ixS h44 Try.underlying25 sz61 rfl rdV rfl) rfl <| ov (OpV.fd fb61_1 rfl rfl) rfl <| ov (OpV.ld kt36 rfl) rfl <| ov (OpV.len Try.underlying36 rfl rdV) rfl <| bn rfl rfl rfl rfl <| ag rfl rfl <| nl <| bN <| tn <| rg <| mv rfl rfl <| bn rfl rfl rfl rfl <| ag rfl rfl <| nl <| Under.next _ () h38 (s3 rfl rfl rfl) rfl
   ·refine xt <| te ?_
    have e45 := done_eq h38 d39
    subst e45
    exact te <| bh <| tn <| wk (k25 _ (osi h24).symm) (s1 rfl)
/-- churn/churnref16.less -/
noncomputable def f_churnref16_less (a0 : List Int) (a1 : List Int) : Option Bool :=
  (((Loop.run (S := Int) (R := (Unit ⊕ Bool)) (fun x65 =>
      bif decide (x65 < 16) then
        (idx a0 x65).bind fun x79 =>
        (idx a1 x65).bind fun x81 =>
        bif x79 != x81 then
          (idx a0 x65).bind fun x83 =>
          (idx a1 x65).bind fun x85 =>
          some (.done (.inr (decide (x83 < x85))))
        else
          some (.next (IntKind.wrap .i64 (x65 + 1)))
      else
        some (.done (.inl ()))) 0).bind fun r76 => match r76 with
    | .inl _ =>
      some (.inr ())
    | .inr z =>
      some (.inl z)
    : Option (Bool ⊕ Unit))).bind fun r44 => match r44 with
    | .inl z =>
      some z
    | .inr _ =>
      some false
theorem f_churnref16_less_ok {a0 : List Int} {a1 : List Int} {r0 : Bool} (hF : f_churnref16_less a0 a1 = some r0) (L : List Res) : Ok Try.prog 39 [SV.val K1 a0, SV.val K1 a1] (L) (SV.raw (.bool r0)) (L) := by
  unfold f_churnref16_less at hF
  refine Ok.intro 24 [(0, .val K1 a0), (1, .val K1 a1)] Try.func39 rfl rfl rfl rfl (fun F0 => ?_)
  obtain ⟨r44, h45, hF⟩ := bsome hF
  refine sr <| Under.bxF (K := kArr 16 K2) rfl rdV rfl <| Under.bxF (K := kArr 16 K2) rfl rdV rfl <| ag rfl rfl <| nt <| sq <| Under.after (fun X => ∀ (_ : Unit), r44 = (.inr ()) → Under F0 24 [] (L) X) ?_ ?_
  ·intro _ h95
   replace h95 := h95.symm
   subst h95
   refine sr <| ag rfl rfl <| nt <| rc ?_
   have e47 := osi hF
   subst e47
   exact Under.rets Try.results39 (.tm rfl .nil) rfl rfl
  ·intro K k46
   obtain ⟨r76, h77, h45⟩ := bsome h45
   refine sr <| ag rfl rfl <| nt <| bk <| Under.loop (S := Int) (C := Unit) () (fun (x92 : Int) (q93 : Unit) => [(2, .ptr K1 a0), (3, .ptr K1 a1), (5, .raw (.int .i64 x92))]) (fun (x92 : Int) (q93 : Unit) => L) h77 (s3 rfl rfl rfl) rfl (fun x92 q93 o78 h74 d75 => ?_)
   refine sq <| sr <| mv rfl rfl <| bn rfl rfl rfl rfl <| nt <| Under.ite h74 rfl (fun h74 => ?_) (fun h74 => ?_)
   ·obtain ⟨x79, h80, h74⟩ := bsome h74
    obtain ⟨x81, h82, h74⟩ := bsome h74
    refine ct <| sq <| bk <| sq <| dw rfl (by kernel_rfl) fun F hF0 => mvq rfl rfl <| oq (OpV.ixA h80 Try.underlying43 sz5 rfl rfl) rfl <| oq (OpV.ldI kt5 rfl) rfl <| mvq rfl rfl <| oq (OpV.ixA h82 Try.underlying43 sz5 rfl rfl) rfl <| oq (OpV.ldI kt5 rfl) rfl <| bnq rfl rfl rfl rfl <| nlq hF0 <| tn <| Under.ite h74 rfl (fun h74 => ?_) (fun h74 => ?_)
    ·obtain ⟨x83, h84, h74⟩ := bsome h74
     obtain ⟨x85, h86, h74⟩ := bsome h74
     refine sq <| dw rfl (by kernel_rfl) fun F hF0 => mvq rfl rfl <| oq (OpV.ixA h84 Try.underlying43 sz5 rfl rfl) rfl <| oq (OpV.ldI kt5 rfl) rfl <| mvq rfl rfl <| oq (OpV.ixA h86 Try.underlying43 sz5 rfl rfl) rfl <| oq (OpV.ldI kt5 rfl) rfl <| bnq rfl rfl rfl rfl <| agq rfl rfl <| nlq hF0 <| tn <| rc <| Under.bR <| tr ?_
     have e87 := done_eq h74 d75
     subst e87
     refine tr <| Under.bR <| tr ?_
     have e88 := osi h45
     subst e88
     have e89 := osi hF
     subst e89
     exact Under.rets Try.results39 (.tm rfl .nil) rfl rfl
    ·exact cs <| bN <| tn <| rg <| mv rfl rfl <| bn rfl rfl rfl rfl <| ag rfl rfl <| nl <| Under.next _ () h74 (s3 rfl rfl rfl) rfl
   ·refine xt <| te ?_
    have e90 := done_eq h74 d75
    subst e90
    exact te <| bh <| tn <| wk (k46 () (osi h45).symm) (sub_nil _)
/-- churn/churnref16.all -/
noncomputable def f_churnref16_all (a0 : Api_Window) : Option (List (List Int)) :=
  (((Loop.run (S := ((List (List Int)) × Int)) (R := (List (List Int))) (fun (x55, x56) =>
      bif decide (x56 < (a0.Epochs.length : Int)) then
        (idx a0.Epochs x56).bind fun x68 =>
        (app x55 x68.Tags).bind fun z70 =>
        some (.next (z70, IntKind.wrap .i64 (x56 + 1)))
      else
        some (.done x55)) ([], 0)).bind fun x62 =>
  some x62
    : Option (List (List Int)))).bind fun x36 =>
  some x36
theorem f_churnref16_all_ok {a0 : Api_Window} {r0 : (List (List Int))} (hF : f_churnref16_all a0 = some r0) (L : List Res) : Ok Try.prog 41 [SV.val kApi_Window a0] (L) (SV.val K0 r0) (L) := by
  unfold f_churnref16_all at hF
  refine Ok.intro 21 [(0, .val kApi_Window a0)] Try.func41 rfl rfl rfl rfl (fun F0 => ?_)
  obtain ⟨r37, h38, hF⟩ := bsome hF
  refine sr <| Under.bxF (K := kApi_Window) rfl rdV rfl <| ag rfl rfl <| ns <| ag rfl rfl <| nt <| sq <| Under.after (fun X => ∀ (x36 : List (List Int)), r37 = x36 → Under F0 21 [(3, .val K0 x36)] (L) X) ?_ ?_
  ·intro x36 h78
   replace h78 := h78.symm
   subst h78
   refine sr <| mv rfl rfl <| ag rfl rfl <| nt <| rc ?_
   have e40 := osi hF
   subst e40
   exact Under.rets Try.results41 (.tm rfl .nil) rfl rfl
  ·intro K k39
   obtain ⟨r65, h66, h38⟩ := bsome h38
   refine sr <| ag rfl rfl <| nt <| bk <| Under.ownNil (K := kArr 16 K2) (e := 43) <| Under.loop (S := ((List (List Int)) × Int)) (C := Value) (.slice none 0 0) (fun (x75 : ((List (List Int)) × Int)) (q76 : Value) => [(1, .ptr kApi_Window a0), (3, .raw q76), (4, .raw (.int .i64 x75.2))]) (fun (x75 : ((List (List Int)) × Int)) (q76 : Value) => (.own K1 q76 43 x75.1) :: L) h66 (s3 rfl rfl rfl) rfl (fun x75 q76 o67 h63 d64 => ?_)
   obtain ⟨x55, x56⟩ := x75
   dsimp only at h63 ⊢
   refine sq <| sr <| mv rfl rfl <| ov (OpV.fd fb27_1 rfl rfl) rfl <| ov (OpV.ld kt25 rfl) rfl <| ov (OpV.len Try.underlying25 rfl rdV) rfl <| bn rfl rfl rfl rfl <| nt <| Under.ite h63 rfl (fun h63 => ?_) (fun h63 => ?_)
   ·obtain ⟨x68, h69, h63⟩ := bsome h63
    obtain ⟨z70, h71, h63⟩ := bsome h63
    exact ct <| sq <| bk <| rg <| mv rfl rfl <| ov (OpV.fd fb27_1 rfl rfl) rfl <| ov (OpV.ld kt25 rfl) rfl <| mv rfl rfl <| ov (OpV.ixS h69 Try.underlying25 sz61 rfl rdV rfl) rfl <| ov (OpV.fd fb61_1 rfl rfl) rfl <| ov (OpV.ld kt36 rfl) rfl <| Under.app h71 Try.underlying36 AT43 rfl rfl rdV rfl fun v72 => ag rfl rfl <| nl <| bN <| tn <| rg <| mv rfl rfl <| bn rfl rfl rfl rfl <| ag rfl rfl <| nl <| Under.next _ v72 h63 (s3 rfl rfl rfl) rfl
   ·refine Under.frzO (t := 3) rfl <| xt <| te ?_
    have e73 := done_eq h63 d64
    subst e73
    exact te <| bh <| tn <| wk (k39 _ (osi h38).symm) (s1 rfl)
end Go.Proofs.Ytgllljocmpbooaa

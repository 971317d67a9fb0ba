/- PRINTED BY gen2.py (of this repo): functions of the program in Lean, and that the machine follows them. -/
import Derived.Test.YtgllljocmpbooaaWn0
set_option linter.unusedVariables false
set_option linter.unusedSimpArgs false
set_option maxRecDepth 20000
namespace Go.Proofs.Ytgllljocmpbooaa
open Go Go.Sim Go.ChangeShapes Go.WideShapes Go.ChangeAt Go.RowKit
/-- churn/churnlaw16.tag -/
noncomputable def f_churnlaw16_tag (a0 : Int) : Option (List Int) :=
  (((Loop.run (S := (Int × (List Int))) (R := (List Int)) (fun (x35, x36) =>
      bif decide (x35 < 16) then
        (idx x36 x35).bind fun x45 =>
        some (.next (IntKind.wrap .i64 (x35 + 1), List.set x36 (Int.toNat x35) a0))
      else
        some (.done x36)) (0, (List.replicate 16 0))).bind fun x39 =>
  some x39
    : Option (List Int))).bind fun x24 =>
  some x24
theorem f_churnlaw16_tag_ok {a0 : Int} {r0 : (List Int)} (hF : f_churnlaw16_tag a0 = some r0) (L : List Res) : Ok Try.prog 29 [SV.raw (.int .u8 a0)] (L) (SV.val (kArr 16 (kInt .u8)) r0) (L) := by
  unfold f_churnlaw16_tag at hF
  refine Ok.intro 13 [(0, .raw (.int .u8 a0))] Try.func29 rfl rfl rfl rfl (fun F0 => ?_)
  refine Under.seq ?_
  refine Under.region ?_
  refine Under.al ZT43 rfl fun b1 => ?_
  refine Under.nil ?_
  refine Under.tN ?_
  refine Under.seq ?_
  refine Under.region ?_
  refine Under.al ZT43 rfl fun b2 => ?_
  refine Under.nil ?_
  refine Under.tN ?_
  obtain ⟨r25, h26, hF⟩ := bsome hF
  refine Under.seq ?_
  refine Under.after (fun X => ∀ (x24 : List Int), r25 = x24 → Under F0 13 [(2, .raw (.pointer (some ⟨b1, 0, none⟩))), (3, .ptr (kArr 16 (kInt .u8)) x24)] ((.box (kArr 16 (kInt .u8)) b1 43 (List.replicate 16 0)) :: L) X) ?_ ?_
  · intro x24 h52
    replace h52 := h52.symm
    subst h52
    refine Under.seq ?_
    refine Under.region ?_
    refine Under.ov (OpV.ld kt43 rfl) rfl ?_
    refine Under.stP (x' := x24) .box .id sz43_kArr_16_kInt_u8_ rfl rfl rdV rfl ?_
    refine Under.nil ?_
    refine Under.frz (t := 2) rfl ?_
    refine Under.tN ?_
    refine Under.retc ?_
    have e28 := Option.some.inj hF
    subst e28
    exact Under.rets Try.results29 (.ce rfl kt43 .nil) rfl rfl
  · intro K k27
    refine Under.seq ?_
    refine Under.region ?_
    refine Under.ov (OpV.asg rfl) rfl ?_
    refine Under.nil ?_
    refine Under.tN ?_
    refine Under.block ?_
    obtain ⟨r42, h43, h26⟩ := bsome h26
    refine Under.fo1 ?_
    refine Under.loop (S := (Int × (List Int))) (C := Unit) () (fun (x49 : (Int × (List Int))) (q50 : Unit) => [(0, .raw (.int .u8 a0)), (2, .raw (.pointer (some ⟨b1, 0, none⟩))), (3, .raw (.pointer (some ⟨b2, 0, none⟩))), (4, .raw (.int .i64 x49.1))]) (fun (x49 : (Int × (List Int))) (q50 : Unit) => (.box (kArr 16 (kInt .u8)) b1 43 (List.replicate 16 0)) :: (.box (kArr 16 (kInt .u8)) b2 43 x49.2) :: L) h43 (sub_cons rfl (sub_cons rfl (sub_cons rfl (sub_cons rfl (sub_nil _))))) rfl (fun x49 q50 o44 h40 d41 => ?_)
    obtain ⟨x35, x36⟩ := x49
    dsimp only at h40 ⊢
    refine Under.seq ?_
    refine Under.seq ?_
    refine Under.region ?_
    refine Under.ov (OpV.move rfl) rfl ?_
    refine Under.ov (OpV.bin rfl rfl rfl) rfl ?_
    refine Under.nil ?_
    refine Under.tN ?_
    refine Under.ite h40 rfl (fun h40 => ?_) (fun h40 => ?_)
    · refine Under.code_skip ?_
      refine Under.tN ?_
      refine Under.seq ?_
      refine Under.block ?_
      refine Under.region ?_
      refine Under.ov (OpV.move rfl) rfl ?_
      refine Under.ov (OpV.move rfl) rfl ?_
      obtain ⟨x45, h46, h40⟩ := bsome h40
      refine Under.fo1 ?_
      refine Under.ov (OpV.ixP .box .id h46 Try.underlying43 sz5_kInt_u8 rfl rfl) rfl ?_
      refine Under.stP (x' := List.set x36 (Int.toNat x35) a0) .box (.ix .id h46) sz5_kInt_u8 rfl rfl rdI rfl ?_
      refine Under.nil ?_
      refine Under.bN ?_
      refine Under.tN ?_
      refine Under.region ?_
      refine Under.ov (OpV.move rfl) rfl ?_
      refine Under.ov (OpV.bin rfl rfl rfl) rfl ?_
      refine Under.ov (OpV.asg rfl) rfl ?_
      refine Under.nil ?_
      refine Under.fo1 ?_
      exact Under.next _ () h40 (sub_cons rfl (sub_cons rfl (sub_cons rfl (sub_cons rfl (sub_nil _))))) rfl
    · refine Under.fo1 ?_
      refine Under.frz (t := 3) rfl ?_
      refine Under.exit ?_
      refine Under.tE ?_
      have e47 := done_eq h40 d41
      subst e47
      refine Under.tE ?_
      refine Under.bH ?_
      refine Under.tN ?_
      exact Under.weak (k27 _ (Option.some.inj h26).symm) (sub_cons rfl (sub_cons rfl (sub_nil _)))
/-- churn/churnlaw16.some -/
noncomputable def f_churnlaw16_some  : Option Api_Window :=
  (f_churnlaw16_tag 97).bind fun y2 =>
  (f_churnlaw16_tag 99).bind fun y4 =>
  (f_churnlaw16_tag 98).bind fun y6 =>
  some (⟨5, [(⟨4, [y2, y4]⟩ : Api_Epoch), (⟨5, [y6]⟩ : Api_Epoch)]⟩ : Api_Window)
theorem f_churnlaw16_some_ok  {r0 : Api_Window} (hF : f_churnlaw16_some = some r0) (L : List Res) : Ok Try.prog 34 [] (L) (SV.val kApi_Window r0) (L) := by
  unfold f_churnlaw16_some at hF
  refine Ok.intro 10 [] Try.func34 rfl rfl rfl rfl (fun F0 => ?_)
  refine Under.seq ?_
  refine Under.region ?_
  refine Under.al ZT27 rfl fun b1 => ?_
  refine Under.nil ?_
  refine Under.tN ?_
  refine Under.seq ?_
  refine Under.region ?_
  obtain ⟨y2, h3, hF⟩ := bsome hF
  refine Under.call Try.call29 rfl rfl (f_churnlaw16_tag_ok h3 _) rfl ?_
  obtain ⟨y4, h5, hF⟩ := bsome hF
  refine Under.call Try.call29 rfl rfl (f_churnlaw16_tag_ok h5 _) rfl ?_
  refine Under.bsF (ys := [y2, y4]) Try.underlying36 ET43 (BldA.cons rfl rfl rdV (BldA.cons rfl rfl rdV (BldA.nil _))) rfl rfl ?_
  refine Under.ov (OpV.bst BT61 (Bld.cons (x' := (⟨4, []⟩ : Api_Epoch)) rfl rfl rdI (by intro q hq; simp only [List.mem_cons, List.not_mem_nil, or_false] at hq; rcases hq with rfl <;> rfl) (Bld.cons (x' := (⟨4, [y2, y4]⟩ : Api_Epoch)) rfl rfl rdV ⟨rfl, (fun q hq => by simp at hq)⟩ (Bld.nil _)))) rfl ?_
  obtain ⟨y6, h7, hF⟩ := bsome hF
  refine Under.call Try.call29 rfl rfl (f_churnlaw16_tag_ok h7 _) rfl ?_
  refine Under.bsF (ys := [y6]) Try.underlying36 ET43 (BldA.cons rfl rfl rdV (BldA.nil _)) rfl rfl ?_
  refine Under.ov (OpV.bst BT61 (Bld.cons (x' := (⟨5, []⟩ : Api_Epoch)) rfl rfl rdI (by intro q hq; simp only [List.mem_cons, List.not_mem_nil, or_false] at hq; rcases hq with rfl <;> rfl) (Bld.cons (x' := (⟨5, [y6]⟩ : Api_Epoch)) rfl rfl rdV ⟨rfl, (fun q hq => by simp at hq)⟩ (Bld.nil _)))) rfl ?_
  refine Under.bsF (ys := [(⟨4, [y2, y4]⟩ : Api_Epoch), (⟨5, [y6]⟩ : Api_Epoch)]) Try.underlying25 ET61 (BldA.cons rfl rfl rdV (BldA.cons rfl rfl rdV (BldA.nil _))) rfl rfl ?_
  refine Under.ov (OpV.bst BT27 (Bld.cons (x' := (⟨5, []⟩ : Api_Window)) rfl rfl rdI (by intro q hq; simp only [List.mem_cons, List.not_mem_nil, or_false] at hq; rcases hq with rfl <;> rfl) (Bld.cons (x' := (⟨5, [(⟨4, [y2, y4]⟩ : Api_Epoch), (⟨5, [y6]⟩ : Api_Epoch)]⟩ : Api_Window)) rfl rfl rdV ⟨rfl, (fun q hq => by simp at hq)⟩ (Bld.nil _)))) rfl ?_
  refine Under.stP (x' := (⟨5, [(⟨4, [y2, y4]⟩ : Api_Epoch), (⟨5, [y6]⟩ : Api_Epoch)]⟩ : Api_Window)) .box .id sz27_kApi_Window rfl rfl rdV rfl ?_
  refine Under.nil ?_
  refine Under.frz (t := 0) rfl ?_
  refine Under.tN ?_
  refine Under.retc ?_
  have e8 := Option.some.inj hF
  subst e8
  exact Under.rets Try.results34 (.ce rfl kt27 .nil) rfl rfl
/-- churn/window.above -/
noncomputable def f_window_above (a0 : Int) (a1 : Int) (a2 : Int) : Option Bool :=
  bif (decide (a2 < 0)) && (decide ((IntKind.wrap .i64 (a1 + a2)) > a1)) then
    some true
  else
    bif (decide (a2 > 0)) && (decide ((IntKind.wrap .i64 (a1 + a2)) < a1)) then
      some false
    else
      some (decide (a0 > (IntKind.wrap .i64 (a1 + a2))))
theorem f_window_above_ok {a0 : Int} {a1 : Int} {a2 : Int} {r0 : Bool} (hF : f_window_above a0 a1 a2 = some r0) (L : List Res) : Ok Try.prog 45 [SV.raw (.int .i64 a0), SV.raw (.int .i64 a1), SV.raw (.int .i64 a2)] (L) (SV.raw (.bool r0)) (L) := by
  unfold f_window_above at hF
  refine Ok.intro 30 [(0, .raw (.int .i64 a0)), (1, .raw (.int .i64 a1)), (2, .raw (.int .i64 a2))] Try.func45 rfl rfl rfl rfl (fun F0 => ?_)
  refine Under.seq ?_
  refine Under.region ?_
  refine Under.ov (OpV.asg rfl) rfl ?_
  refine Under.nil ?_
  refine Under.tN ?_
  refine Under.seq ?_
  refine Under.region ?_
  refine Under.ov (OpV.move rfl) rfl ?_
  refine Under.ov (OpV.move rfl) rfl ?_
  refine Under.ov (OpV.bin rfl rfl rfl) rfl ?_
  refine Under.ov (OpV.asg rfl) rfl ?_
  refine Under.nil ?_
  refine Under.tN ?_
  refine Under.seq ?_
  refine Under.block ?_
  refine Under.seq ?_
  refine Under.region ?_
  refine Under.ov (OpV.move rfl) rfl ?_
  refine Under.ov (OpV.bin rfl rfl rfl) rfl ?_
  refine Under.ov (OpV.move rfl) rfl ?_
  refine runj_4 18 ((decide (a2 < 0)) && (decide ((IntKind.wrap .i64 (a1 + a2)) > a1))) ?_ (fun k => ?_)
  · refine Under.ov (OpV.asg rfl) rfl ?_
    refine Under.nil ?_
    refine Under.tN ?_
    refine Under.ite hF rfl (fun hF => ?_) (fun hF => ?_)
    · refine Under.seq ?_
      refine Under.region ?_
      refine Under.ov (OpV.asg rfl) rfl ?_
      refine Under.nil ?_
      refine Under.tN ?_
      refine Under.retc ?_
      refine Under.bR ?_
      refine Under.tR ?_
      have e4 := Option.some.inj hF
      subst e4
      exact Under.rets Try.results45 (.tm rfl .nil) rfl rfl
    · refine Under.seq ?_
      refine Under.region ?_
      refine Under.ov (OpV.move rfl) rfl ?_
      refine Under.ov (OpV.bin rfl rfl rfl) rfl ?_
      refine Under.ov (OpV.move rfl) rfl ?_
      refine runj_4 26 ((decide (a2 > 0)) && (decide ((IntKind.wrap .i64 (a1 + a2)) < a1))) ?_ (fun k => ?_)
      · refine Under.ov (OpV.asg rfl) rfl ?_
        refine Under.nil ?_
        refine Under.tN ?_
        refine Under.ite hF rfl (fun hF => ?_) (fun hF => ?_)
        · refine Under.seq ?_
          refine Under.region ?_
          refine Under.ov (OpV.asg rfl) rfl ?_
          refine Under.nil ?_
          refine Under.tN ?_
          refine Under.retc ?_
          refine Under.bR ?_
          refine Under.tR ?_
          have e8 := Option.some.inj hF
          subst e8
          exact Under.rets Try.results45 (.tm rfl .nil) rfl rfl
        · refine Under.code_skip ?_
          refine Under.bN ?_
          refine Under.tN ?_
          refine Under.seq ?_
          refine Under.region ?_
          refine Under.ov (OpV.move rfl) rfl ?_
          refine Under.ov (OpV.move rfl) rfl ?_
          refine Under.ov (OpV.bin rfl rfl rfl) rfl ?_
          refine Under.ov (OpV.asg rfl) rfl ?_
          refine Under.nil ?_
          refine Under.tN ?_
          refine Under.retc ?_
          have e9 := Option.some.inj hF
          subst e9
          exact Under.rets Try.results45 (.tm rfl .nil) rfl rfl
      · refine Under.byc (t := 22) rfl (fun c5 => ?_) (fun c5 => ?_)
        · refine Under.goc c5 rfl rfl ?_
          refine Under.ov (OpV.move rfl) rfl ?_
          refine Under.goc c5 rfl rfl ?_
          refine Under.ov (OpV.move rfl) rfl ?_
          refine Under.goc c5 rfl rfl ?_
          refine Under.ov (OpV.bin rfl rfl rfl) rfl ?_
          refine Under.ov (OpV.pick rfl (fun e => rfl) (fun e => absurd (e.symm.trans c5) (by decide))) rfl ?_
          exact Under.rfin 3 (and_t c5) rfl k
        · refine Under.skc c5 rfl rfl rfl ?_
          refine Under.skc c5 rfl rfl rfl ?_
          refine Under.skc c5 rfl rfl rfl ?_
          refine Under.ov (OpV.pick rfl (fun e => absurd (e.symm.trans c5) (by decide)) (fun e => rfl)) rfl ?_
          exact Under.rfin 3 (and_f (e := decide ((IntKind.wrap .i64 (a1 + a2)) < a1)) c5) rfl k
  · refine Under.byc (t := 14) rfl (fun c1 => ?_) (fun c1 => ?_)
    · refine Under.goc c1 rfl rfl ?_
      refine Under.ov (OpV.move rfl) rfl ?_
      refine Under.goc c1 rfl rfl ?_
      refine Under.ov (OpV.move rfl) rfl ?_
      refine Under.goc c1 rfl rfl ?_
      refine Under.ov (OpV.bin rfl rfl rfl) rfl ?_
      refine Under.ov (OpV.pick rfl (fun e => rfl) (fun e => absurd (e.symm.trans c1) (by decide))) rfl ?_
      exact Under.rfin 3 (and_t c1) rfl k
    · refine Under.skc c1 rfl rfl rfl ?_
      refine Under.skc c1 rfl rfl rfl ?_
      refine Under.skc c1 rfl rfl rfl ?_
      refine Under.ov (OpV.pick rfl (fun e => absurd (e.symm.trans c1) (by decide)) (fun e => rfl)) rfl ?_
      exact Under.rfin 3 (and_f (e := decide ((IntKind.wrap .i64 (a1 + a2)) > a1)) c1) rfl k
/-- slices.Clone[[][16]byte,[16]byte] -/
noncomputable def f_slices_Clone (a0 : List (List Int)) : Option (List (List Int)) :=
  (app [] a0).bind fun z5 =>
  some z5
theorem f_slices_Clone_ok {a0 : List (List Int)} {r0 : (List (List Int))} (hF : f_slices_Clone a0 = some r0) (L : List Res) : Ok Try.prog 46 [SV.val (kSl (kArr 16 (kInt .u8))) a0] (L) (SV.val (kSl (kArr 16 (kInt .u8))) r0) (L) := by
  unfold f_slices_Clone at hF
  refine Ok.intro 8 [(0, .val (kSl (kArr 16 (kInt .u8))) a0)] Try.func46 rfl rfl rfl rfl (fun F0 => ?_)
  refine Under.seq ?_
  refine Under.region ?_
  refine Under.ov (OpV.asg rfl) rfl ?_
  refine Under.nil ?_
  refine Under.tN ?_
  refine Under.seq ?_
  refine Under.seq ?_
  refine Under.region ?_
  refine Under.ov (OpV.move rfl) rfl ?_
  refine Under.eqNil Try.underlying36 rfl rfl fun b1 h2 => ?_
  refine Under.nil ?_
  refine Under.tN ?_
  refine Under.conde rfl (fun h9 => ?_) (fun _ => ?_)
  · replace hF : (some []) = some r0 := by rw [h2 h9] at hF; simpa [app, room] using hF
    refine Under.seq ?_
    refine Under.region ?_
    refine Under.ov (OpV.asg rfl) rfl ?_
    refine Under.nil ?_
    refine Under.tN ?_
    refine Under.retc ?_
    refine Under.tR ?_
    refine Under.toV (K := kSl (kArr 16 (kInt .u8))) (x := []) (t := 2) rfl rdN ?_
    have e3 := Option.some.inj hF
    subst e3
    exact Under.rets Try.results46 (.tm rfl .nil) rfl rfl
  · refine Under.code_skip ?_
    refine Under.tN ?_
    refine Under.seq ?_
    refine Under.region ?_
    refine Under.bsO (ys := []) Try.underlying36 ET43 (BldA.nil _) rfl rfl fun v4 => ?_
    refine Under.ov (OpV.move rfl) rfl ?_
    obtain ⟨z5, h6, hF⟩ := bsome hF
    refine Under.app h6 Try.underlying36 AT43 rfl rfl rdV rfl fun v7 => ?_
    refine Under.ov (OpV.asg rfl) rfl ?_
    refine Under.nil ?_
    refine Under.frzO (t := 2) rfl ?_
    refine Under.tN ?_
    refine Under.retc ?_
    have e8 := Option.some.inj hF
    subst e8
    exact Under.rets Try.results46 (.tm rfl .nil) rfl rfl
/-- churn/window.Open -/
noncomputable def f_window_Open (a0 : Api_Window) (a1 : Int) (a2 : Int) : Option (Api_Window × Int) :=
  bif (((decide (a2 < 1)) || (decide (a2 > 8))) || (decide (a1 < 0))) || (decide (a1 > 4611686018427387904)) then
    some ((⟨0, []⟩ : Api_Window), 2)
  else
    (f_window_above a1 a0.Newest (IntKind.wrap .i64 (0 - a2))).bind fun y12 =>
    ((bif !y12 then
      some true
    else
      (f_window_above a1 a0.Newest 1024).bind fun y17 =>
      some y17
      : Option Bool)).bind fun x16 =>
    bif x16 then
      some ((⟨0, []⟩ : Api_Window), 161)
    else
      (((Loop.run (S := (Int × (List Api_Epoch))) (R := Api_Window) (fun (x224, x226) =>
          bif decide (x224 < (a0.Epochs.length : Int)) then
            (((idx a0.Epochs x224).bind fun x279 =>
            (f_window_above x279.Number (max a0.Newest a1) (IntKind.wrap .i64 (0 - a2))).bind fun y282 =>
            bif y282 then
              (f_slices_Clone x279.Tags).bind fun y284 =>
              (app x226 [(⟨x279.Number, y284⟩ : Api_Epoch)]).bind fun z286 =>
              some z286
            else
              some x226
              : Option (List Api_Epoch))).bind fun x275 =>
            some (.next (IntKind.wrap .i64 (x224 + 1), x275))
          else
            some (.done (⟨max a0.Newest a1, x226⟩ : Api_Window))) (0, [])).bind fun x257 =>
      some x257
        : Option Api_Window)).bind fun x156 =>
      some (x156, 0)
theorem f_window_Open_ok {a0 : Api_Window} {a1 : Int} {a2 : Int} {r0 : (Api_Window × Int)} (hF : f_window_Open a0 a1 a2 = some r0) (L : List Res) : Ok Try.prog 23 [SV.val kApi_Window a0, SV.raw (.int .i64 a1), SV.raw (.int .i64 a2)] (L) (SV.tup [SV.val kApi_Window r0.1, SV.raw (.int .i64 r0.2)]) (L) := by
  unfold f_window_Open at hF
  refine Ok.intro 72 [(0, .val kApi_Window a0), (1, .raw (.int .i64 a1)), (2, .raw (.int .i64 a2))] Try.func23 rfl rfl rfl rfl (fun F0 => ?_)
  refine Under.seq ?_
  refine Under.region ?_
  refine Under.bxF (K := kApi_Window) rfl rdV rfl ?_
  refine Under.al ZT27 rfl fun b1 => ?_
  refine Under.ov (OpV.asg rfl) rfl ?_
  refine Under.nil ?_
  refine Under.tN ?_
  refine Under.seq ?_
  refine Under.seq ?_
  refine Under.region ?_
  refine Under.ov (OpV.move rfl) rfl ?_
  refine Under.ov (OpV.bin rfl rfl rfl) rfl ?_
  refine Under.ov (OpV.move rfl) rfl ?_
  refine runj_3 16 ((decide (a2 < 1)) || (decide (a2 > 8))) ?_ (fun k => ?_)
  · refine Under.ov (OpV.move rfl) rfl ?_
    refine runj_3 20 (((decide (a2 < 1)) || (decide (a2 > 8))) || (decide (a1 < 0))) ?_ (fun k => ?_)
    · refine Under.ov (OpV.move rfl) rfl ?_
      refine runj_3 24 ((((decide (a2 < 1)) || (decide (a2 > 8))) || (decide (a1 < 0))) || (decide (a1 > 4611686018427387904))) ?_ (fun k => ?_)
      · refine Under.nil ?_
        refine Under.tN ?_
        refine Under.ite hF rfl (fun hF => ?_) (fun hF => ?_)
        · refine Under.seq ?_
          refine Under.region ?_
          refine Under.ov (OpV.bst BT27 (Bld.nil _)) rfl ?_
          refine Under.stP (x' := (⟨0, []⟩ : Api_Window)) .box .id sz27_kApi_Window rfl rfl rdV rfl ?_
          refine Under.ov (OpV.asg rfl) rfl ?_
          refine Under.nil ?_
          refine Under.frz (t := 6) rfl ?_
          refine Under.tN ?_
          refine Under.retc ?_
          refine Under.tR ?_
          have e11 := Option.some.inj hF
          subst e11
          exact Under.rets Try.results23 (.ce rfl kt27 (.tm rfl .nil)) rfl rfl
        · refine Under.code_skip ?_
          refine Under.tN ?_
          refine Under.seq ?_
          refine Under.seq ?_
          refine Under.region ?_
          refine Under.ov (OpV.move rfl) rfl ?_
          refine Under.ov (OpV.fd fb27_0 rfl rfl) rfl ?_
          refine Under.ov (OpV.ldI kt2 rfl) rfl ?_
          refine Under.ov (OpV.move rfl) rfl ?_
          refine Under.ov (OpV.neg rfl) rfl ?_
          obtain ⟨y12, h13, hF⟩ := bsome hF
          refine Under.call Try.call45 rfl rfl (f_window_above_ok h13 _) rfl ?_
          refine Under.ov (OpV.not rfl) rfl ?_
          refine Under.ov (OpV.move rfl) rfl ?_
          obtain ⟨x16, h15, hF⟩ := bsome hF
          refine runj_5 38 x16 ?_ (fun k => ?_)
          · refine Under.nil ?_
            refine Under.tN ?_
            refine Under.ite hF rfl (fun hF => ?_) (fun hF => ?_)
            · refine Under.seq ?_
              refine Under.region ?_
              refine Under.ov (OpV.bst BT27 (Bld.nil _)) rfl ?_
              refine Under.stP (x' := (⟨0, []⟩ : Api_Window)) .box .id sz27_kApi_Window rfl rfl rdV rfl ?_
              refine Under.ov (OpV.asg rfl) rfl ?_
              refine Under.nil ?_
              refine Under.frz (t := 6) rfl ?_
              refine Under.tN ?_
              refine Under.retc ?_
              refine Under.tR ?_
              have e19 := Option.some.inj hF
              subst e19
              exact Under.rets Try.results23 (.ce rfl kt27 (.tm rfl .nil)) rfl rfl
            · refine Under.code_skip ?_
              refine Under.tN ?_
              refine Under.seq ?_
              refine Under.region ?_
              refine Under.ov (OpV.fd fb27_0 rfl rfl) rfl ?_
              refine Under.ov (OpV.ldI kt2 rfl) rfl ?_
              refine Under.ov (OpV.move rfl) rfl ?_
              refine Under.ov (OpV.max2 rfl rfl) rfl ?_
              refine Under.ov (OpV.bst BT27_Api_Window_r1 (Bld.cons (x' := (⟨max a0.Newest a1, .slice none 0 0⟩ : Api_Window_r1)) rfl rfl rdI (by intro q hq; simp only [List.mem_cons, List.not_mem_nil, or_false] at hq; rcases hq with rfl <;> rfl) (Bld.nil _))) rfl ?_
              refine Under.al ZT27_Api_Window_r1 rfl fun b20 => ?_
              refine Under.stP (x' := (⟨max a0.Newest a1, .slice none 0 0⟩ : Api_Window_r1)) .box .id sz27_kApi_Window_r1 rfl rfl rdV rfl ?_
              refine Under.nil ?_
              refine Under.tN ?_
              obtain ⟨r157, h158, hF⟩ := bsome hF
              refine Under.seq ?_
              refine Under.after (fun X => ∀ (x156 : Api_Window), r157 = x156 → Under F0 72 [(6, .raw (.pointer (some ⟨b1, 0, none⟩))), (8, .ptr kApi_Window x156)] ((.box kApi_Window b1 27 (⟨0, []⟩ : Api_Window)) :: L) X) ?_ ?_
              · intro x156 h298
                replace h298 := h298.symm
                subst h298
                refine Under.seq ?_
                refine Under.region ?_
                refine Under.ov (OpV.ld kt27 rfl) rfl ?_
                refine Under.stP (x' := x156) .box .id sz27_kApi_Window rfl rfl rdV rfl ?_
                refine Under.ov (OpV.asg rfl) rfl ?_
                refine Under.nil ?_
                refine Under.frz (t := 6) rfl ?_
                refine Under.tN ?_
                refine Under.retc ?_
                have e160 := Option.some.inj hF
                subst e160
                exact Under.rets Try.results23 (.ce rfl kt27 (.tm rfl .nil)) rfl rfl
              · intro K k159
                refine Under.seq ?_
                refine Under.region ?_
                refine Under.ov (OpV.fd fb27_1 rfl rfl) rfl ?_
                refine Under.ov (OpV.ld kt25 rfl) rfl ?_
                refine Under.ov (OpV.len Try.underlying25 rfl rdV) rfl ?_
                refine Under.ov (OpV.move rfl) rfl ?_
                refine Under.nil ?_
                refine Under.tN ?_
                refine Under.block ?_
                obtain ⟨r260, h261, h158⟩ := bsome h158
                refine Under.ownNil (K := kApi_Epoch) (e := 61) ?_
                refine Under.fo1 ?_
                refine Under.fo1 ?_
                refine Under.fo2 ?_
                refine Under.loop (S := (Int × (List Api_Epoch))) (C := Value) (.slice none 0 0) (fun (x295 : (Int × (List Api_Epoch))) (q296 : Value) => [(2, .raw (.int .i64 a2)), (6, .raw (.pointer (some ⟨b1, 0, none⟩))), (8, .raw (.pointer (some ⟨b20, 0, none⟩))), (46, .val (kSl kApi_Epoch) a0.Epochs), (47, .raw (.int .i64 (a0.Epochs.length : Int))), (48, .raw (.int .i64 x295.1))]) (fun (x295 : (Int × (List Api_Epoch))) (q296 : Value) => (.box kApi_Window b1 27 (⟨0, []⟩ : Api_Window)) :: (.own kApi_Epoch q296 61 x295.2) :: (.box kApi_Window_r1 b20 27 (⟨max a0.Newest a1, q296⟩ : Api_Window_r1)) :: L) h261 (sub_cons rfl (sub_cons rfl (sub_cons rfl (sub_cons rfl (sub_cons rfl (sub_cons rfl (sub_nil _))))))) rfl (fun x295 q296 o262 h258 d259 => ?_)
                obtain ⟨x224, x226⟩ := x295
                dsimp only at h258 ⊢
                refine Under.seq ?_
                refine Under.region ?_
                refine Under.ov (OpV.bin rfl rfl rfl) rfl ?_
                refine Under.nil ?_
                refine Under.tN ?_
                refine Under.seq ?_
                refine Under.ite h258 rfl (fun h258 => ?_) (fun h258 => ?_)
                · refine Under.code_skip ?_
                  refine Under.tN ?_
                  obtain ⟨r276, h277, h258⟩ := bsome h258
                  refine Under.seq ?_
                  refine Under.after (fun X => ∀ (x275 : List Api_Epoch) (v274 : Value), r276 = x275 → Under F0 72 [(2, .raw (.int .i64 a2)), (6, .raw (.pointer (some ⟨b1, 0, none⟩))), (8, .raw (.pointer (some ⟨b20, 0, none⟩))), (46, .val (kSl kApi_Epoch) a0.Epochs), (47, .raw (.int .i64 (a0.Epochs.length : Int))), (48, .raw (.int .i64 x224))] ((.box kApi_Window b1 27 (⟨0, []⟩ : Api_Window)) :: (.own kApi_Epoch v274 61 x275) :: (.box kApi_Window_r1 b20 27 (⟨max a0.Newest a1, v274⟩ : Api_Window_r1)) :: L) X) ?_ ?_
                  · intro x275 v274 h292
                    replace h292 := h292.symm
                    subst h292
                    refine Under.region ?_
                    refine Under.ov (OpV.bin rfl rfl rfl) rfl ?_
                    refine Under.ov (OpV.move rfl) rfl ?_
                    refine Under.nil ?_
                    refine Under.fo2 ?_
                    refine Under.fo2 ?_
                    refine Under.fo2 ?_
                    exact Under.next _ v274 h258 (sub_cons rfl (sub_cons rfl (sub_cons rfl (sub_cons rfl (sub_cons rfl (sub_cons rfl (sub_nil _))))))) rfl
                  · intro K k278
                    refine Under.block ?_
                    refine Under.seq ?_
                    refine Under.region ?_
                    obtain ⟨x279, h280, h277⟩ := bsome h277
                    refine Under.ov (OpV.ixS h280 Try.underlying25 sz61 rfl rdV rfl) rfl ?_
                    refine Under.ov (OpV.ld kt61 rfl) rfl ?_
                    refine Under.al ZT61 rfl fun b281 => ?_
                    refine Under.stP (x' := x279) .box .id sz61_kApi_Epoch rfl rfl rdV rfl ?_
                    refine Under.nil ?_
                    refine Under.frz (t := 10) rfl ?_
                    refine Under.tN ?_
                    refine Under.seq ?_
                    refine Under.region ?_
                    refine Under.ov (OpV.fd fb61_0 rfl rfl) rfl ?_
                    refine Under.ov (OpV.ldI kt2 rfl) rfl ?_
                    refine Under.ov (OpV.fdM fm27_0 rfl) rfl ?_
                    refine Under.fo2 ?_
                    refine Under.ldP .box (.fld .id uf_Api_Window_r1_0) kt2_kInt_i64 rfl rfl ?_
                    refine Under.rawI (t := 55) rfl ?_
                    refine Under.ov (OpV.move rfl) rfl ?_
                    refine Under.ov (OpV.neg rfl) rfl ?_
                    obtain ⟨y282, h283, h277⟩ := bsome h277
                    refine Under.call Try.call45 rfl rfl (f_window_above_ok h283 _) rfl ?_
                    refine Under.nil ?_
                    refine Under.tN ?_
                    refine Under.ite h277 rfl (fun h277 => ?_) (fun h277 => ?_)
                    · refine Under.phases rfl ?_
                      obtain ⟨y284, h285, h277⟩ := bsome h277
                      refine Under.grpA (L := L) [0, 1, 2, 3, 4, 5, 6, 7, 8] [[8], [59], [10], [61], [10], [63], [64], [62, 65], [66]] [.v (.raw (.pointer (some ⟨b20, 0 + 1, none⟩))), .v (.raw q296), .v (.ptr (kInt .i64) x279.Number), .v (.raw (.int .i64 x279.Number)), .v (.ptr (kSl (kArr 16 (kInt .u8))) x279.Tags), .v (.val (kSl (kArr 16 (kInt .u8))) x279.Tags), .v (.val (kSl (kArr 16 (kInt .u8))) y284), .v (.val kApi_Epoch (⟨x279.Number, y284⟩ : Api_Epoch)), .v (.val (kSl kApi_Epoch) [(⟨x279.Number, y284⟩ : Api_Epoch)])] [] [] (fun T : List Res => (.box kApi_Window_r1 b20 27 (⟨max a0.Newest a1, q296⟩ : Api_Window_r1)) :: (.box kApi_Window b1 27 (⟨0, []⟩ : Api_Window)) :: (.own kApi_Epoch q296 61 x226) :: T) lf3 rfl (by kernel_rfl) (ItsOk.of rfl rfl) (by kernel_rfl) rfl rfl (fun F hF0 bs => ?_)
                      refine Aq.v (fun G T hG => ?_) ?_
                      · refine Under.ov (OpV.fdM fm27_1 rfl) rfl ?_
                        refine Under.fo2 ?_
                        refine Under.fo2 ?_
                        refine Under.fo2 ?_
                        exact Zq.done rfl
                      refine Aq.v (fun G T hG => ?_) ?_
                      · refine Under.ldP .box (.fld .id uf_Api_Window_r1_1) kt25_kRaw rfl rfl ?_
                        refine Under.rawR (t := 60) rfl ?_
                        refine Under.fo2 ?_
                        refine Under.fo2 ?_
                        refine Under.fo2 ?_
                        exact Zq.done rfl
                      refine Aq.v (fun G T hG => ?_) ?_
                      · refine Under.ov (OpV.fd fb61_0 rfl rfl) rfl ?_
                        refine Under.fo2 ?_
                        refine Under.fo2 ?_
                        refine Under.fo2 ?_
                        exact Zq.done rfl
                      refine Aq.v (fun G T hG => ?_) ?_
                      · refine Under.ov (OpV.ldI kt2 rfl) rfl ?_
                        refine Under.fo2 ?_
                        refine Under.fo2 ?_
                        refine Under.fo2 ?_
                        exact Zq.done rfl
                      refine Aq.v (fun G T hG => ?_) ?_
                      · refine Under.ov (OpV.fd fb61_1 rfl rfl) rfl ?_
                        refine Under.fo2 ?_
                        refine Under.fo2 ?_
                        refine Under.fo2 ?_
                        exact Zq.done rfl
                      refine Aq.v (fun G T hG => ?_) ?_
                      · refine Under.ov (OpV.ld kt36 rfl) rfl ?_
                        refine Under.fo2 ?_
                        refine Under.fo2 ?_
                        refine Under.fo2 ?_
                        exact Zq.done rfl
                      refine Aq.v (fun G T hG => ?_) ?_
                      · refine Under.call Try.call46 rfl rfl (f_slices_Clone_ok h285 _) rfl ?_
                        refine Under.fo2 ?_
                        refine Under.fo2 ?_
                        refine Under.fo2 ?_
                        exact Zq.done rfl
                      refine Aq.v (fun G T hG => ?_) ?_
                      · refine Under.ov (OpV.bst BT61 (Bld.cons (x' := (⟨x279.Number, []⟩ : Api_Epoch)) rfl rfl rdI (by intro q hq; simp only [List.mem_cons, List.not_mem_nil, or_false] at hq; rcases hq with rfl <;> rfl) (Bld.cons (x' := (⟨x279.Number, y284⟩ : Api_Epoch)) rfl rfl rdV ⟨rfl, (fun q hq => by simp at hq)⟩ (Bld.nil _)))) rfl ?_
                        refine Under.fo2 ?_
                        refine Under.fo2 ?_
                        refine Under.fo2 ?_
                        exact Zq.done rfl
                      refine Aq.v (fun G T hG => ?_) ?_
                      · refine Under.bsF (ys := [(⟨x279.Number, y284⟩ : Api_Epoch)]) Try.underlying25 ET61 (BldA.cons rfl rfl rdV (BldA.nil _)) rfl rfl ?_
                        refine Under.fo2 ?_
                        refine Under.fo2 ?_
                        refine Under.fo2 ?_
                        exact Zq.done rfl
                      refine Aq.nil ?_
                      refine Under.le hF0 ?_
                      obtain ⟨z286, h287, h277⟩ := bsome h277
                      refine Under.p1 9 rfl rfl ?_
                      refine Under.fo2 ?_
                      refine Under.app h287 Try.underlying25 AT61 rfl rfl rdV rfl fun v288 => ?_
                      refine Under.pn ?_
                      refine Under.p1 10 rfl rfl ?_
                      refine Under.ov (OpV.fdM fm27_1 rfl) rfl ?_
                      refine Under.pn ?_
                      refine Under.p1 11 rfl rfl ?_
                      refine Under.ownCell fun h289 => ?_
                      refine Under.fo1 ?_
                      refine Under.stP (x' := (⟨max a0.Newest a1, v288⟩ : Api_Window_r1)) .box (.fld .id uf_Api_Window_r1_1) sz25_kRaw rfl rfl (rdRaw h289) rfl ?_
                      refine Under.pn ?_
                      refine Under.pdone rfl ?_
                      refine Under.bN ?_
                      refine Under.tN ?_
                      refine Under.fo1 ?_
                      refine Under.fo2 ?_
                      exact Under.weak (k278 _ _ (Option.some.inj h277).symm) (sub_cons rfl (sub_cons rfl (sub_cons rfl (sub_cons rfl (sub_cons rfl (sub_cons rfl (sub_nil _)))))))
                    · refine Under.code_skip ?_
                      refine Under.bN ?_
                      refine Under.tN ?_
                      refine Under.fo2 ?_
                      refine Under.fo2 ?_
                      exact Under.weak (k278 _ _ (Option.some.inj h277).symm) (sub_cons rfl (sub_cons rfl (sub_cons rfl (sub_cons rfl (sub_cons rfl (sub_cons rfl (sub_nil _)))))))
                · refine Under.fo2 ?_
                  refine Under.fo2 ?_
                  refine Under.frzBO (fs := kApi_WindowF) (⟨max a0.Newest a1, x226⟩ : Api_Window) (fun F hv => ⟨fun _ h => h, cv_raw hv, trivial⟩) ?_
                  refine Under.frz (t := 8) rfl ?_
                  refine Under.exit ?_
                  refine Under.tE ?_
                  have e293 := done_eq h258 d259
                  subst e293
                  refine Under.tE ?_
                  refine Under.bH ?_
                  refine Under.tN ?_
                  exact Under.weak (k159 _ (Option.some.inj h158).symm) (sub_cons rfl (sub_cons rfl (sub_nil _)))
          · refine Under.byc (t := 33) rfl (fun c14 => ?_) (fun c14 => ?_)
            · replace h15 := ctrue c14 h15
              refine Under.skc c14 rfl rfl rfl ?_
              refine Under.skc c14 rfl rfl rfl ?_
              refine Under.skc c14 rfl rfl rfl ?_
              refine Under.skc c14 rfl rfl rfl ?_
              refine Under.ov (OpV.pick rfl (fun e => rfl) (fun e => absurd (e.symm.trans c14) (by decide))) rfl ?_
              exact Under.rfin 4 (congrArg (fun b => SV.raw (.bool b)) (Option.some.inj h15)) rfl k
            · replace h15 := cfalse c14 h15
              refine Under.goc c14 rfl rfl ?_
              refine Under.ov (OpV.move rfl) rfl ?_
              refine Under.goc c14 rfl rfl ?_
              refine Under.ov (OpV.fd fb27_0 rfl rfl) rfl ?_
              refine Under.goc c14 rfl rfl ?_
              refine Under.ov (OpV.ldI kt2 rfl) rfl ?_
              obtain ⟨y17, h18, h15⟩ := bsome h15
              refine Under.goc c14 rfl rfl ?_
              refine Under.call Try.call45 rfl rfl (f_window_above_ok h18 _) rfl ?_
              refine Under.ov (OpV.pick rfl (fun e => absurd (e.symm.trans c14) (by decide)) (fun e => rfl)) rfl ?_
              exact Under.rfin 4 (congrArg (fun b => SV.raw (.bool b)) (Option.some.inj h15)) rfl k
      · refine Under.byc (t := 21) rfl (fun c8 => ?_) (fun c8 => ?_)
        · refine Under.skc c8 rfl rfl rfl ?_
          refine Under.skc c8 rfl rfl rfl ?_
          refine Under.ov (OpV.pick rfl (fun e => rfl) (fun e => absurd (e.symm.trans c8) (by decide))) rfl ?_
          exact Under.rfin 2 (or_t (e := decide (a1 > 4611686018427387904)) c8) rfl k
        · refine Under.goc c8 rfl rfl ?_
          refine Under.ov (OpV.move rfl) rfl ?_
          refine Under.goc c8 rfl rfl ?_
          refine Under.ov (OpV.bin rfl rfl rfl) rfl ?_
          refine Under.ov (OpV.pick rfl (fun e => absurd (e.symm.trans c8) (by decide)) (fun e => rfl)) rfl ?_
          exact Under.rfin 2 (or_f c8) rfl k
    · refine Under.byc (t := 17) rfl (fun c5 => ?_) (fun c5 => ?_)
      · refine Under.skc c5 rfl rfl rfl ?_
        refine Under.skc c5 rfl rfl rfl ?_
        refine Under.ov (OpV.pick rfl (fun e => rfl) (fun e => absurd (e.symm.trans c5) (by decide))) rfl ?_
        exact Under.rfin 2 (or_t (e := decide (a1 < 0)) c5) rfl k
      · refine Under.goc c5 rfl rfl ?_
        refine Under.ov (OpV.move rfl) rfl ?_
        refine Under.goc c5 rfl rfl ?_
        refine Under.ov (OpV.bin rfl rfl rfl) rfl ?_
        refine Under.ov (OpV.pick rfl (fun e => absurd (e.symm.trans c5) (by decide)) (fun e => rfl)) rfl ?_
        exact Under.rfin 2 (or_f c5) rfl k
  · refine Under.byc (t := 13) rfl (fun c2 => ?_) (fun c2 => ?_)
    · refine Under.skc c2 rfl rfl rfl ?_
      refine Under.skc c2 rfl rfl rfl ?_
      refine Under.ov (OpV.pick rfl (fun e => rfl) (fun e => absurd (e.symm.trans c2) (by decide))) rfl ?_
      exact Under.rfin 2 (or_t (e := decide (a2 > 8)) c2) rfl k
    · refine Under.goc c2 rfl rfl ?_
      refine Under.ov (OpV.move rfl) rfl ?_
      refine Under.goc c2 rfl rfl ?_
      refine Under.ov (OpV.bin rfl rfl rfl) rfl ?_
      refine Under.ov (OpV.pick rfl (fun e => absurd (e.symm.trans c2) (by decide)) (fun e => rfl)) rfl ?_
      exact Under.rfin 2 (or_f c2) rfl k
/-- churn/window.Len -/
noncomputable def f_window_Len (a0 : Api_Window) : Option Int :=
  (((Loop.run (S := (Int × Int)) (R := Int) (fun (x39, x40) =>
      bif decide (x40 < (a0.Epochs.length : Int)) then
        (idx a0.Epochs x40).bind fun x50 =>
        some (.next (IntKind.wrap .i64 (x39 + (x50.Tags.length : Int)), IntKind.wrap .i64 (x40 + 1)))
      else
        some (.done x39)) (0, 0)).bind fun x44 =>
  some x44
    : Option Int)).bind fun x26 =>
  some x26
theorem f_window_Len_ok {a0 : Api_Window} {r0 : Int} (hF : f_window_Len a0 = some r0) (L : List Res) : Ok Try.prog 18 [SV.val kApi_Window a0] (L) (SV.raw (.int .i64 r0)) (L) := by
  unfold f_window_Len at hF
  refine Ok.intro 20 [(0, .val kApi_Window a0)] Try.func18 rfl rfl rfl rfl (fun F0 => ?_)
  refine Under.seq ?_
  refine Under.region ?_
  refine Under.bxF (K := kApi_Window) rfl rdV rfl ?_
  refine Under.ov (OpV.asg rfl) rfl ?_
  refine Under.nil ?_
  refine Under.tN ?_
  refine Under.seq ?_
  refine Under.region ?_
  refine Under.ov (OpV.asg rfl) rfl ?_
  refine Under.nil ?_
  refine Under.tN ?_
  obtain ⟨r27, h28, hF⟩ := bsome hF
  refine Under.seq ?_
  refine Under.after (fun X => ∀ (x26 : Int), r27 = x26 → Under F0 20 [(3, .raw (.int .i64 x26))] (L) X) ?_ ?_
  · intro x26 h58
    replace h58 := h58.symm
    subst h58
    refine Under.seq ?_
    refine Under.region ?_
    refine Under.ov (OpV.move rfl) rfl ?_
    refine Under.ov (OpV.asg rfl) rfl ?_
    refine Under.nil ?_
    refine Under.tN ?_
    refine Under.retc ?_
    have e30 := Option.some.inj hF
    subst e30
    exact Under.rets Try.results18 (.tm rfl .nil) rfl rfl
  · intro K k29
    refine Under.seq ?_
    refine Under.region ?_
    refine Under.ov (OpV.fd fb27_1 rfl rfl) rfl ?_
    refine Under.ov (OpV.ld kt25 rfl) rfl ?_
    refine Under.ov (OpV.len Try.underlying25 rfl rdV) rfl ?_
    refine Under.ov (OpV.move rfl) rfl ?_
    refine Under.nil ?_
    refine Under.tN ?_
    refine Under.block ?_
    obtain ⟨r47, h48, h28⟩ := bsome h28
    refine Under.loop (S := (Int × Int)) (C := Unit) () (fun (x55 : (Int × Int)) (q56 : Unit) => [(3, .raw (.int .i64 x55.1)), (7, .val (kSl kApi_Epoch) a0.Epochs), (8, .raw (.int .i64 (a0.Epochs.length : Int))), (9, .raw (.int .i64 x55.2))]) (fun (x55 : (Int × Int)) (q56 : Unit) => L) h48 (sub_cons rfl (sub_cons rfl (sub_cons rfl (sub_cons rfl (sub_nil _))))) rfl (fun x55 q56 o49 h45 d46 => ?_)
    obtain ⟨x39, x40⟩ := x55
    dsimp only at h45 ⊢
    refine Under.seq ?_
    refine Under.region ?_
    refine Under.ov (OpV.bin rfl rfl rfl) rfl ?_
    refine Under.nil ?_
    refine Under.tN ?_
    refine Under.seq ?_
    refine Under.ite h45 rfl (fun h45 => ?_) (fun h45 => ?_)
    · refine Under.code_skip ?_
      refine Under.tN ?_
      refine Under.seq ?_
      refine Under.block ?_
      refine Under.seq ?_
      refine Under.region ?_
      obtain ⟨x50, h51, h45⟩ := bsome h45
      refine Under.ov (OpV.ixS h51 Try.underlying25 sz61 rfl rdV rfl) rfl ?_
      refine Under.ov (OpV.ld kt61 rfl) rfl ?_
      refine Under.al ZT61 rfl fun b52 => ?_
      refine Under.stP (x' := x50) .box .id sz61_kApi_Epoch rfl rfl rdV rfl ?_
      refine Under.nil ?_
      refine Under.frz (t := 5) rfl ?_
      refine Under.tN ?_
      refine Under.region ?_
      refine Under.ov (OpV.move rfl) rfl ?_
      refine Under.ov (OpV.fd fb61_1 rfl rfl) rfl ?_
      refine Under.ov (OpV.ld kt36 rfl) rfl ?_
      refine Under.ov (OpV.len Try.underlying36 rfl rdV) rfl ?_
      refine Under.ov (OpV.bin rfl rfl rfl) rfl ?_
      refine Under.ov (OpV.asg rfl) rfl ?_
      refine Under.nil ?_
      refine Under.bN ?_
      refine Under.tN ?_
      refine Under.region ?_
      refine Under.ov (OpV.bin rfl rfl rfl) rfl ?_
      refine Under.ov (OpV.move rfl) rfl ?_
      refine Under.nil ?_
      exact Under.next _ () h45 (sub_cons rfl (sub_cons rfl (sub_cons rfl (sub_cons rfl (sub_nil _))))) rfl
    · refine Under.exit ?_
      refine Under.tE ?_
      have e53 := done_eq h45 d46
      subst e53
      refine Under.tE ?_
      refine Under.bH ?_
      refine Under.tN ?_
      exact Under.weak (k29 _ (Option.some.inj h28).symm) (sub_cons rfl (sub_nil _))
/-- churn/window.known -/
noncomputable def f_window_known (a0 : Api_Window) : Option (List ((List Int) × Int)) :=
  (((Loop.run (S := (Int × (List ((List Int) × Int)))) (R := (List ((List Int) × Int))) (fun (x400, x401) =>
      bif decide (x400 < (a0.Epochs.length : Int)) then
        (((idx a0.Epochs x400).bind fun x503 =>
        (Loop.run (S := (Int × (List ((List Int) × Int)))) (R := (List ((List Int) × Int))) (fun (x514, x515) =>
            bif decide (x514 < (x503.Tags.length : Int)) then
              (idx x503.Tags x514).bind fun x525 =>
              some (.next (IntKind.wrap .i64 (x514 + 1), mset x525 x400 x515))
            else
              some (.done x515)) (0, x401)).bind fun x519 =>
        some x519
          : Option (List ((List Int) × Int)))).bind fun x499 =>
        some (.next (IntKind.wrap .i64 (x400 + 1), x499))
      else
        some (.done x401)) (0, [])).bind fun x465 =>
  some x465
    : Option (List ((List Int) × Int)))).bind fun x267 =>
  some x267
theorem f_window_known_ok {a0 : Api_Window} {r0 : (List ((List Int) × Int))} (hF : f_window_known a0 = some r0) (L : List Res) : Ok Try.prog 35 [SV.val kApi_Window a0] (L) (SV.val (kMap (kArr 16 (kInt .u8)) (kInt .i64)) r0) (L) := by
  unfold f_window_known at hF
  refine Ok.intro 30 [(0, .val kApi_Window a0)] Try.func35 rfl rfl rfl rfl (fun F0 => ?_)
  refine Under.seq ?_
  refine Under.region ?_
  refine Under.bxF (K := kApi_Window) rfl rdV rfl ?_
  refine Under.ov (OpV.asg rfl) rfl ?_
  refine Under.nil ?_
  refine Under.tN ?_
  refine Under.seq ?_
  refine Under.region ?_
  refine Under.mkm (kArr 16 (kInt .u8)) (kInt .i64) rfl fun b1 => ?_
  refine Under.ov (OpV.asg rfl) rfl ?_
  refine Under.nil ?_
  refine Under.tN ?_
  obtain ⟨r268, h269, hF⟩ := bsome hF
  refine Under.seq ?_
  refine Under.after (fun X => ∀ (x267 : List ((List Int) × Int)), r268 = x267 → Under F0 30 [(3, .val (kMap (kArr 16 (kInt .u8)) (kInt .i64)) x267)] (L) X) ?_ ?_
  · intro x267 h539
    replace h539 := h539.symm
    subst h539
    refine Under.seq ?_
    refine Under.region ?_
    refine Under.ov (OpV.move rfl) rfl ?_
    refine Under.ov (OpV.asg rfl) rfl ?_
    refine Under.nil ?_
    refine Under.tN ?_
    refine Under.retc ?_
    have e271 := Option.some.inj hF
    subst e271
    exact Under.rets Try.results35 (.tm rfl .nil) rfl rfl
  · intro K k270
    refine Under.seq ?_
    refine Under.region ?_
    refine Under.ov (OpV.fd fb27_1 rfl rfl) rfl ?_
    refine Under.ov (OpV.ld kt25 rfl) rfl ?_
    refine Under.ov (OpV.len Try.underlying25 rfl rdV) rfl ?_
    refine Under.ov (OpV.move rfl) rfl ?_
    refine Under.nil ?_
    refine Under.tN ?_
    refine Under.block ?_
    obtain ⟨r468, h469, h269⟩ := bsome h269
    refine Under.loop (S := (Int × (List ((List Int) × Int)))) (C := Unit) () (fun (x536 : (Int × (List ((List Int) × Int)))) (q537 : Unit) => [(3, .raw (.map (some b1))), (10, .val (kSl kApi_Epoch) a0.Epochs), (11, .raw (.int .i64 (a0.Epochs.length : Int))), (12, .raw (.int .i64 x536.1))]) (fun (x536 : (Int × (List ((List Int) × Int)))) (q537 : Unit) => (.mp (kArr 16 (kInt .u8)) (kInt .i64) b1 x536.2) :: L) h469 (sub_cons rfl (sub_cons rfl (sub_cons rfl (sub_cons rfl (sub_nil _))))) rfl (fun x536 q537 o470 h466 d467 => ?_)
    obtain ⟨x400, x401⟩ := x536
    dsimp only at h466 ⊢
    refine Under.seq ?_
    refine Under.region ?_
    refine Under.ov (OpV.bin rfl rfl rfl) rfl ?_
    refine Under.nil ?_
    refine Under.tN ?_
    refine Under.seq ?_
    refine Under.ite h466 rfl (fun h466 => ?_) (fun h466 => ?_)
    · refine Under.code_skip ?_
      refine Under.tN ?_
      obtain ⟨r500, h501, h466⟩ := bsome h466
      refine Under.seq ?_
      refine Under.after (fun X => ∀ (x499 : List ((List Int) × Int)), r500 = x499 → Under F0 30 [(3, .raw (.map (some b1))), (10, .val (kSl kApi_Epoch) a0.Epochs), (11, .raw (.int .i64 (a0.Epochs.length : Int))), (12, .raw (.int .i64 x400))] ((.mp (kArr 16 (kInt .u8)) (kInt .i64) b1 x499) :: L) X) ?_ ?_
      · intro x499 h533
        replace h533 := h533.symm
        subst h533
        refine Under.region ?_
        refine Under.ov (OpV.bin rfl rfl rfl) rfl ?_
        refine Under.ov (OpV.move rfl) rfl ?_
        refine Under.nil ?_
        exact Under.next _ () h466 (sub_cons rfl (sub_cons rfl (sub_cons rfl (sub_cons rfl (sub_nil _))))) rfl
      · intro K k502
        refine Under.block ?_
        refine Under.seq ?_
        refine Under.region ?_
        refine Under.ov (OpV.move rfl) rfl ?_
        obtain ⟨x503, h504, h501⟩ := bsome h501
        refine Under.ov (OpV.ixS h504 Try.underlying25 sz61 rfl rdV rfl) rfl ?_
        refine Under.ov (OpV.ld kt61 rfl) rfl ?_
        refine Under.al ZT61 rfl fun b505 => ?_
        refine Under.ov (OpV.asg rfl) rfl ?_
        refine Under.stP (x' := x503) .box .id sz61_kApi_Epoch rfl rfl rdV rfl ?_
        refine Under.nil ?_
        refine Under.frz (t := 5) rfl ?_
        refine Under.tN ?_
        refine Under.seq ?_
        refine Under.region ?_
        refine Under.ov (OpV.fd fb61_1 rfl rfl) rfl ?_
        refine Under.ov (OpV.ld kt36 rfl) rfl ?_
        refine Under.ov (OpV.len Try.underlying36 rfl rdV) rfl ?_
        refine Under.ov (OpV.move rfl) rfl ?_
        refine Under.nil ?_
        refine Under.tN ?_
        refine Under.block ?_
        obtain ⟨r522, h523, h501⟩ := bsome h501
        refine Under.loop (S := (Int × (List ((List Int) × Int)))) (C := Unit) () (fun (x530 : (Int × (List ((List Int) × Int)))) (q531 : Unit) => [(3, .raw (.map (some b1))), (4, .raw (.int .i64 x400)), (10, .val (kSl kApi_Epoch) a0.Epochs), (11, .raw (.int .i64 (a0.Epochs.length : Int))), (12, .raw (.int .i64 x400)), (18, .val (kSl (kArr 16 (kInt .u8))) x503.Tags), (19, .raw (.int .i64 (x503.Tags.length : Int))), (20, .raw (.int .i64 x530.1))]) (fun (x530 : (Int × (List ((List Int) × Int)))) (q531 : Unit) => (.mp (kArr 16 (kInt .u8)) (kInt .i64) b1 x530.2) :: L) h523 (sub_cons rfl (sub_cons rfl (sub_cons rfl (sub_cons rfl (sub_cons rfl (sub_cons rfl (sub_cons rfl (sub_cons rfl (sub_nil _))))))))) rfl (fun x530 q531 o524 h520 d521 => ?_)
        obtain ⟨x514, x515⟩ := x530
        dsimp only at h520 ⊢
        refine Under.seq ?_
        refine Under.region ?_
        refine Under.ov (OpV.bin rfl rfl rfl) rfl ?_
        refine Under.nil ?_
        refine Under.tN ?_
        refine Under.seq ?_
        refine Under.ite h520 rfl (fun h520 => ?_) (fun h520 => ?_)
        · refine Under.code_skip ?_
          refine Under.tN ?_
          refine Under.seq ?_
          refine Under.block ?_
          refine Under.seq ?_
          refine Under.region ?_
          obtain ⟨x525, h526, h520⟩ := bsome h520
          refine Under.ov (OpV.ixS h526 Try.underlying36 sz43 rfl rdV rfl) rfl ?_
          refine Under.ov (OpV.ld kt43 rfl) rfl ?_
          refine Under.al ZT43 rfl fun b527 => ?_
          refine Under.stP (x' := x525) .box .id sz43_kArr_16_kInt_u8_ rfl rfl rdV rfl ?_
          refine Under.nil ?_
          refine Under.frz (t := 7) rfl ?_
          refine Under.tN ?_
          refine Under.region ?_
          refine Under.ov (OpV.move rfl) rfl ?_
          refine Under.ov (OpV.ld kt43 rfl) rfl ?_
          refine Under.ov (OpV.move rfl) rfl ?_
          refine Under.mup key43 Try.underlying69 rfl rfl rdV rfl rdI ?_
          refine Under.nil ?_
          refine Under.bN ?_
          refine Under.tN ?_
          refine Under.region ?_
          refine Under.ov (OpV.bin rfl rfl rfl) rfl ?_
          refine Under.ov (OpV.move rfl) rfl ?_
          refine Under.nil ?_
          exact Under.next _ () h520 (sub_cons rfl (sub_cons rfl (sub_cons rfl (sub_cons rfl (sub_cons rfl (sub_cons rfl (sub_cons rfl (sub_cons rfl (sub_nil _))))))))) rfl
        · refine Under.exit ?_
          refine Under.tE ?_
          have e528 := done_eq h520 d521
          subst e528
          refine Under.tE ?_
          refine Under.bH ?_
          refine Under.bN ?_
          refine Under.tN ?_
          exact Under.weak (k502 _ (Option.some.inj h501).symm) (sub_cons rfl (sub_cons rfl (sub_cons rfl (sub_cons rfl (sub_nil _)))))
    · refine Under.frzM (t := 3) rfl ?_
      refine Under.exit ?_
      refine Under.tE ?_
      have e534 := done_eq h466 d467
      subst e534
      refine Under.tE ?_
      refine Under.bH ?_
      refine Under.tN ?_
      exact Under.weak (k270 _ (Option.some.inj h269).symm) (sub_cons rfl (sub_nil _))
/-- churn/window.kept -/
noncomputable def f_window_kept (a0 : Int) (a1 : Int) (a2 : Int) : Option Bool :=
  some ((decide (a0 ≤ a1)) && (decide ((IntKind.wrap .i64 (a1 - a0)) < a2)))
theorem f_window_kept_ok {a0 : Int} {a1 : Int} {a2 : Int} {r0 : Bool} (hF : f_window_kept a0 a1 a2 = some r0) (L : List Res) : Ok Try.prog 36 [SV.raw (.int .i64 a0), SV.raw (.int .i64 a1), SV.raw (.int .i64 a2)] (L) (SV.raw (.bool r0)) (L) := by
  unfold f_window_kept at hF
  refine Ok.intro 17 [(0, .raw (.int .i64 a0)), (1, .raw (.int .i64 a1)), (2, .raw (.int .i64 a2))] Try.func36 rfl rfl rfl rfl (fun F0 => ?_)
  refine Under.seq ?_
  refine Under.region ?_
  refine Under.ov (OpV.asg rfl) rfl ?_
  refine Under.nil ?_
  refine Under.tN ?_
  refine Under.seq ?_
  refine Under.region ?_
  refine Under.ov (OpV.move rfl) rfl ?_
  refine Under.ov (OpV.move rfl) rfl ?_
  refine Under.ov (OpV.bin rfl rfl rfl) rfl ?_
  refine Under.ov (OpV.move rfl) rfl ?_
  refine runj_6 16 ((decide (a0 ≤ a1)) && (decide ((IntKind.wrap .i64 (a1 - a0)) < a2))) ?_ (fun k => ?_)
  · refine Under.ov (OpV.asg rfl) rfl ?_
    refine Under.nil ?_
    refine Under.tN ?_
    refine Under.retc ?_
    have e4 := Option.some.inj hF
    subst e4
    exact Under.rets Try.results36 (.tm rfl .nil) rfl rfl
  · refine Under.byc (t := 10) rfl (fun c1 => ?_) (fun c1 => ?_)
    · refine Under.goc c1 rfl rfl ?_
      refine Under.ov (OpV.move rfl) rfl ?_
      refine Under.goc c1 rfl rfl ?_
      refine Under.ov (OpV.move rfl) rfl ?_
      refine Under.goc c1 rfl rfl ?_
      refine Under.ov (OpV.bin rfl rfl rfl) rfl ?_
      refine Under.goc c1 rfl rfl ?_
      refine Under.ov (OpV.move rfl) rfl ?_
      refine Under.goc c1 rfl rfl ?_
      refine Under.ov (OpV.bin rfl rfl rfl) rfl ?_
      refine Under.ov (OpV.pick rfl (fun e => rfl) (fun e => absurd (e.symm.trans c1) (by decide))) rfl ?_
      exact Under.rfin 5 (and_t c1) rfl k
    · refine Under.skc c1 rfl rfl rfl ?_
      refine Under.skc c1 rfl rfl rfl ?_
      refine Under.skc c1 rfl rfl rfl ?_
      refine Under.skc c1 rfl rfl rfl ?_
      refine Under.skc c1 rfl rfl rfl ?_
      refine Under.ov (OpV.pick rfl (fun e => absurd (e.symm.trans c1) (by decide)) (fun e => rfl)) rfl ?_
      exact Under.rfin 5 (and_f (e := decide ((IntKind.wrap .i64 (a1 - a0)) < a2)) c1) rfl k
/-- bytes.Compare -/
noncomputable def f_bytes_Compare (a0 : List Int) (a1 : List Int) : Option Int :=
  some (cmpB a0 a1)
theorem f_bytes_Compare_ok {a0 : List Int} {a1 : List Int} {r0 : Int} (hF : f_bytes_Compare a0 a1 = some r0) (L : List Res) : Ok Try.prog 50 [SV.val (kSl (kInt .u8)) a0, SV.val (kSl (kInt .u8)) a1] (L) (SV.raw (.int .i64 r0)) (L) := by
  unfold f_bytes_Compare at hF
  refine Ok.intro 8 [(0, .val (kSl (kInt .u8)) a0), (1, .val (kSl (kInt .u8)) a1)] Try.func50 rfl rfl rfl rfl (fun F0 => ?_)
  refine Under.seq ?_
  refine Under.region ?_
  refine Under.ov (OpV.asg rfl) rfl ?_
  refine Under.nil ?_
  refine Under.tN ?_
  refine Under.seq ?_
  refine Under.region ?_
  refine Under.ov (OpV.move rfl) rfl ?_
  refine Under.ov (OpV.move rfl) rfl ?_
  refine Under.ov (OpV.cmp Try.func55 nn55 nb55 nx55 fd55 rfl rfl rdV rfl rdV) rfl ?_
  refine Under.ov (OpV.asg rfl) rfl ?_
  refine Under.nil ?_
  refine Under.tN ?_
  refine Under.retc ?_
  have e1 := Option.some.inj hF
  subst e1
  exact Under.rets Try.results50 (.tm rfl .nil) rfl rfl
/-- churn/window.order -/
noncomputable def f_window_order (a0 : List Int) (a1 : List Int) : Option Int :=
  (f_bytes_Compare a0 a1).bind fun y1 =>
  some y1
theorem f_window_order_ok {a0 : List Int} {a1 : List Int} {r0 : Int} (hF : f_window_order a0 a1 = some r0) (L : List Res) : Ok Try.prog 38 [SV.val (kArr 16 (kInt .u8)) a0, SV.val (kArr 16 (kInt .u8)) a1] (L) (SV.raw (.int .i64 r0)) (L) := by
  unfold f_window_order at hF
  refine Ok.intro 8 [(0, .val (kArr 16 (kInt .u8)) a0), (1, .val (kArr 16 (kInt .u8)) a1)] Try.func38 rfl rfl rfl rfl (fun F0 => ?_)
  refine Under.seq ?_
  refine Under.region ?_
  refine Under.bxF (K := kArr 16 (kInt .u8)) rfl rdV rfl ?_
  refine Under.bxF (K := kArr 16 (kInt .u8)) rfl rdV rfl ?_
  refine Under.ov (OpV.asg rfl) rfl ?_
  refine Under.nil ?_
  refine Under.tN ?_
  refine Under.seq ?_
  refine Under.draw rfl (by kernel_rfl) fun F hF0 => ?_
  refine UnderQ.ov (OpV.slA Try.underlying43 sz5 rfl) rfl ?_
  refine UnderQ.ov (OpV.slA Try.underlying43 sz5 rfl) rfl ?_
  obtain ⟨y1, h2, hF⟩ := bsome hF
  refine UnderQ.ov (OpV.call Try.call50 rfl rfl (fun L => (f_bytes_Compare_ok h2 L))) rfl ?_
  refine UnderQ.ov (OpV.asg rfl) rfl ?_
  refine UnderQ.nil hF0 ?_
  refine Under.tN ?_
  refine Under.retc ?_
  have e3 := Option.some.inj hF
  subst e3
  exact Under.rets Try.results38 (.tm rfl .nil) rfl rfl
/-- slices.IsSortedFunc[[][16]byte,[16]byte] -/
noncomputable def f_slices_IsSortedFunc_window_order (a0 : List (List Int)) : Option Bool :=
  (((Loop.run (S := Int) (R := (Unit ⊕ Bool)) (fun x53 =>
      bif decide (x53 > 0) then
        (idx a0 x53).bind fun x65 =>
        (idx a0 (IntKind.wrap .i64 (x53 - 1))).bind fun x67 =>
        (f_window_order x65 x67).bind fun y69 =>
        bif decide (y69 < 0) then
          some (.done (.inr false))
        else
          some (.next (IntKind.wrap .i64 (x53 - 1)))
      else
        some (.done (.inl ()))) (IntKind.wrap .i64 ((a0.length : Int) - 1))).bind fun r62 => match r62 with
    | .inl _ =>
      some (.inr ())
    | .inr z =>
      some (.inl z)
    : Option (Bool ⊕ Unit))).bind fun r36 => match r36 with
    | .inl z =>
      some z
    | .inr _ =>
      some true
theorem f_slices_IsSortedFunc_window_order_ok {a0 : List (List Int)} {r0 : Bool} (hF : f_slices_IsSortedFunc_window_order a0 = some r0) (L : List Res) : Ok Try.prog 37 [SV.val (kSl (kArr 16 (kInt .u8))) a0, SV.raw (.func (.func 38) #[] #[])] (L) (SV.raw (.bool r0)) (L) := by
  unfold f_slices_IsSortedFunc_window_order at hF
  refine Ok.intro 25 [(0, .val (kSl (kArr 16 (kInt .u8))) a0), (1, .raw (.func (.func 38) #[] #[]))] Try.func37 rfl rfl rfl rfl (fun F0 => ?_)
  refine Under.seq ?_
  refine Under.region ?_
  refine Under.ov (OpV.asg rfl) rfl ?_
  refine Under.nil ?_
  refine Under.tN ?_
  obtain ⟨r36, h37, hF⟩ := bsome hF
  refine Under.seq ?_
  refine Under.after (fun X => ∀ (_ : Unit), r36 = (.inr ()) → Under F0 25 [] (L) X) ?_ ?_
  · intro _ h79
    replace h79 := h79.symm
    subst h79
    refine Under.seq ?_
    refine Under.region ?_
    refine Under.ov (OpV.asg rfl) rfl ?_
    refine Under.nil ?_
    refine Under.tN ?_
    refine Under.retc ?_
    have e39 := Option.some.inj hF
    subst e39
    exact Under.rets Try.results37 (.tm rfl .nil) rfl rfl
  · intro K k38
    refine Under.seq ?_
    refine Under.region ?_
    refine Under.ov (OpV.move rfl) rfl ?_
    refine Under.ov (OpV.len Try.underlying36 rfl rdV) rfl ?_
    refine Under.ov (OpV.bin rfl rfl rfl) rfl ?_
    refine Under.ov (OpV.asg rfl) rfl ?_
    refine Under.nil ?_
    refine Under.tN ?_
    refine Under.block ?_
    obtain ⟨r62, h63, h37⟩ := bsome h37
    refine Under.loop (S := Int) (C := Unit) () (fun (x76 : Int) (q77 : Unit) => [(0, .val (kSl (kArr 16 (kInt .u8))) a0), (1, .raw (.func (.func 38) #[] #[])), (5, .raw (.int .i64 x76))]) (fun (x76 : Int) (q77 : Unit) => L) h63 (sub_cons rfl (sub_cons rfl (sub_cons rfl (sub_nil _)))) rfl (fun x76 q77 o64 h60 d61 => ?_)
    refine Under.seq ?_
    refine Under.seq ?_
    refine Under.region ?_
    refine Under.ov (OpV.move rfl) rfl ?_
    refine Under.ov (OpV.bin rfl rfl rfl) rfl ?_
    refine Under.nil ?_
    refine Under.tN ?_
    refine Under.ite h60 rfl (fun h60 => ?_) (fun h60 => ?_)
    · refine Under.code_skip ?_
      refine Under.tN ?_
      refine Under.seq ?_
      refine Under.block ?_
      refine Under.seq ?_
      refine Under.draw rfl (by kernel_rfl) fun F hF0 => ?_
      refine UnderQ.ov (OpV.move rfl) rfl ?_
      refine UnderQ.ov (OpV.move rfl) rfl ?_
      refine UnderQ.ov (OpV.move rfl) rfl ?_
      obtain ⟨x65, h66, h60⟩ := bsome h60
      refine UnderQ.ov (OpV.ixS h66 Try.underlying36 sz43 rfl rdV rfl) rfl ?_
      refine UnderQ.ov (OpV.ld kt43 rfl) rfl ?_
      refine UnderQ.ov (OpV.move rfl) rfl ?_
      refine UnderQ.ov (OpV.move rfl) rfl ?_
      refine UnderQ.ov (OpV.bin rfl rfl rfl) rfl ?_
      obtain ⟨x67, h68, h60⟩ := bsome h60
      refine UnderQ.ov (OpV.ixS h68 Try.underlying36 sz43 rfl rdV rfl) rfl ?_
      refine UnderQ.ov (OpV.ld kt43 rfl) rfl ?_
      obtain ⟨y69, h70, h60⟩ := bsome h60
      refine UnderQ.ov (OpV.call Try.call38 rfl rfl (fun L => (f_window_order_ok h70 L))) rfl ?_
      refine UnderQ.ov (OpV.bin rfl rfl rfl) rfl ?_
      refine UnderQ.nil hF0 ?_
      refine Under.tN ?_
      refine Under.ite h60 rfl (fun h60 => ?_) (fun h60 => ?_)
      · refine Under.seq ?_
        refine Under.region ?_
        refine Under.ov (OpV.asg rfl) rfl ?_
        refine Under.nil ?_
        refine Under.tN ?_
        refine Under.retc ?_
        refine Under.bR ?_
        refine Under.tR ?_
        have e71 := done_eq h60 d61
        subst e71
        refine Under.tR ?_
        refine Under.bR ?_
        refine Under.tR ?_
        have e72 := Option.some.inj h37
        subst e72
        have e73 := Option.some.inj hF
        subst e73
        exact Under.rets Try.results37 (.tm rfl .nil) rfl rfl
      · refine Under.code_skip ?_
        refine Under.bN ?_
        refine Under.tN ?_
        refine Under.region ?_
        refine Under.ov (OpV.move rfl) rfl ?_
        refine Under.ov (OpV.bin rfl rfl rfl) rfl ?_
        refine Under.ov (OpV.asg rfl) rfl ?_
        refine Under.nil ?_
        exact Under.next _ () h60 (sub_cons rfl (sub_cons rfl (sub_cons rfl (sub_nil _)))) rfl
    · refine Under.exit ?_
      refine Under.tE ?_
      have e74 := done_eq h60 d61
      subst e74
      refine Under.tE ?_
      refine Under.bH ?_
      refine Under.tN ?_
      exact Under.weak (k38 () (Option.some.inj h37).symm) (sub_nil _)
/-- churn/window.Check -/
noncomputable def f_window_Check (a0 : Api_Window) (a1 : Int) (a2 : Int) : Option Int :=
  bif (((decide (a1 < 1)) || (decide (a1 > 8))) || (decide (a2 < 0))) || (decide (a2 > 4096)) then
    some 2
  else
    ((bif (decide (a0.Newest < 0)) || (decide (a0.Newest > 4611686018427387904)) then
      some true
    else
      (f_window_Len a0).bind fun y11 =>
      some (decide (y11 > a2))
      : Option Bool)).bind fun x13 =>
    ((bif x13 then
      some true
    else
      (f_window_known a0).bind fun y15 =>
      (f_window_Len a0).bind fun y17 =>
      some ((y15.length : Int) != y17)
      : Option Bool)).bind fun x19 =>
    bif x19 then
      some 2
    else
      (((Loop.run (S := Int) (R := (Unit ⊕ Int)) (fun x165 =>
          bif decide (x165 < (a0.Epochs.length : Int)) then
            (idx a0.Epochs x165).bind fun x192 =>
            ((bif decide (x192.Number < 0) then
              some true
            else
              (f_window_kept x192.Number a0.Newest a1).bind fun y198 =>
              some (!y198)
              : Option Bool)).bind fun x197 =>
            ((bif x197 then
              some true
            else
              ((bif decide (x165 > 0) then
                (idx a0.Epochs (IntKind.wrap .i64 (x165 - 1))).bind fun x206 =>
                some (decide (x192.Number ≤ x206.Number))
              else
                some false
                : Option Bool)).bind fun x205 =>
              some x205
              : Option Bool)).bind fun x202 =>
            bif x202 || ((x192.Tags.length : Int) == 0) then
              some (.done (.inr 2))
            else
              (f_slices_IsSortedFunc_window_order x192.Tags).bind fun y214 =>
              bif !y214 then
                some (.done (.inr 2))
              else
                some (.next (IntKind.wrap .i64 (x165 + 1)))
          else
            some (.done (.inl ()))) 0).bind fun r189 => match r189 with
        | .inl _ =>
          some (.inr ())
        | .inr z =>
          some (.inl z)
        : Option (Int ⊕ Unit))).bind fun r118 => match r118 with
        | .inl z =>
          some z
        | .inr _ =>
          some 0
theorem f_window_Check_ok {a0 : Api_Window} {a1 : Int} {a2 : Int} {r0 : Int} (hF : f_window_Check a0 a1 a2 = some r0) (L : List Res) : Ok Try.prog 16 [SV.val kApi_Window a0, SV.raw (.int .i64 a1), SV.raw (.int .i64 a2)] (L) (SV.raw (.int .i64 r0)) (L) := by
  unfold f_window_Check at hF
  refine Ok.intro 92 [(0, .val kApi_Window a0), (1, .raw (.int .i64 a1)), (2, .raw (.int .i64 a2))] Try.func16 rfl rfl rfl rfl (fun F0 => ?_)
  refine Under.seq ?_
  refine Under.region ?_
  refine Under.bxF (K := kApi_Window) rfl rdV rfl ?_
  refine Under.ov (OpV.asg rfl) rfl ?_
  refine Under.nil ?_
  refine Under.tN ?_
  refine Under.seq ?_
  refine Under.seq ?_
  refine Under.region ?_
  refine Under.ov (OpV.move rfl) rfl ?_
  refine Under.ov (OpV.bin rfl rfl rfl) rfl ?_
  refine Under.ov (OpV.move rfl) rfl ?_
  refine runj_3 14 ((decide (a1 < 1)) || (decide (a1 > 8))) ?_ (fun k => ?_)
  · refine Under.ov (OpV.move rfl) rfl ?_
    refine runj_3 18 (((decide (a1 < 1)) || (decide (a1 > 8))) || (decide (a2 < 0))) ?_ (fun k => ?_)
    · refine Under.ov (OpV.move rfl) rfl ?_
      refine runj_3 22 ((((decide (a1 < 1)) || (decide (a1 > 8))) || (decide (a2 < 0))) || (decide (a2 > 4096))) ?_ (fun k => ?_)
      · refine Under.nil ?_
        refine Under.tN ?_
        refine Under.ite hF rfl (fun hF => ?_) (fun hF => ?_)
        · refine Under.seq ?_
          refine Under.region ?_
          refine Under.ov (OpV.asg rfl) rfl ?_
          refine Under.nil ?_
          refine Under.tN ?_
          refine Under.retc ?_
          refine Under.tR ?_
          have e10 := Option.some.inj hF
          subst e10
          exact Under.rets Try.results16 (.tm rfl .nil) rfl rfl
        · refine Under.code_skip ?_
          refine Under.tN ?_
          refine Under.seq ?_
          refine Under.seq ?_
          obtain ⟨x13, h14, hF⟩ := bsome hF
          obtain ⟨x19, h20, hF⟩ := bsome hF
          refine Under.drawz [[3], [23], [24], [25], [3, 26], [26, 27], [26, 28], [26, 29], [30], [3, 31], [31, 32], [2, 31], [31, 33, 34], [31, 35], [36], [3, 37], [37, 38], [37, 39], [3, 37], [37, 41], [37, 40, 42], [37, 43]] [(44, .raw (.bool x19))] rfl (by kernel_rfl) rfl ?_ (fun k F hF0 => ?_)
          · refine Under.tN ?_
            refine Under.ite hF rfl (fun hF => ?_) (fun hF => ?_)
            · refine Under.seq ?_
              refine Under.region ?_
              refine Under.ov (OpV.asg rfl) rfl ?_
              refine Under.nil ?_
              refine Under.tN ?_
              refine Under.retc ?_
              refine Under.tR ?_
              have e21 := Option.some.inj hF
              subst e21
              exact Under.rets Try.results16 (.tm rfl .nil) rfl rfl
            · refine Under.code_skip ?_
              refine Under.tN ?_
              obtain ⟨r118, h119, hF⟩ := bsome hF
              refine Under.seq ?_
              refine Under.after (fun X => ∀ (_ : Unit), r118 = (.inr ()) → Under F0 92 [] (L) X) ?_ ?_
              · intro _ h224
                replace h224 := h224.symm
                subst h224
                refine Under.seq ?_
                refine Under.region ?_
                refine Under.ov (OpV.asg rfl) rfl ?_
                refine Under.nil ?_
                refine Under.tN ?_
                refine Under.retc ?_
                have e121 := Option.some.inj hF
                subst e121
                exact Under.rets Try.results16 (.tm rfl .nil) rfl rfl
              · intro K k120
                refine Under.seq ?_
                refine Under.region ?_
                refine Under.ov (OpV.fd fb27_1 rfl rfl) rfl ?_
                refine Under.ov (OpV.ld kt25 rfl) rfl ?_
                refine Under.ov (OpV.len Try.underlying25 rfl rdV) rfl ?_
                refine Under.ov (OpV.move rfl) rfl ?_
                refine Under.nil ?_
                refine Under.tN ?_
                refine Under.block ?_
                obtain ⟨r189, h190, h119⟩ := bsome h119
                refine Under.loop (S := Int) (C := Unit) () (fun (x221 : Int) (q222 : Unit) => [(1, .raw (.int .i64 a1)), (3, .ptr kApi_Window a0), (46, .val (kSl kApi_Epoch) a0.Epochs), (47, .raw (.int .i64 (a0.Epochs.length : Int))), (48, .raw (.int .i64 x221))]) (fun (x221 : Int) (q222 : Unit) => L) h190 (sub_cons rfl (sub_cons rfl (sub_cons rfl (sub_cons rfl (sub_cons rfl (sub_nil _)))))) rfl (fun x221 q222 o191 h187 d188 => ?_)
                refine Under.seq ?_
                refine Under.region ?_
                refine Under.ov (OpV.bin rfl rfl rfl) rfl ?_
                refine Under.nil ?_
                refine Under.tN ?_
                refine Under.seq ?_
                refine Under.ite h187 rfl (fun h187 => ?_) (fun h187 => ?_)
                · refine Under.code_skip ?_
                  refine Under.tN ?_
                  refine Under.seq ?_
                  refine Under.block ?_
                  refine Under.seq ?_
                  refine Under.region ?_
                  refine Under.ov (OpV.move rfl) rfl ?_
                  obtain ⟨x192, h193, h187⟩ := bsome h187
                  refine Under.ov (OpV.ixS h193 Try.underlying25 sz61 rfl rdV rfl) rfl ?_
                  refine Under.ov (OpV.ld kt61 rfl) rfl ?_
                  refine Under.al ZT61 rfl fun b194 => ?_
                  refine Under.ov (OpV.asg rfl) rfl ?_
                  refine Under.stP (x' := x192) .box .id sz61_kApi_Epoch rfl rfl rdV rfl ?_
                  refine Under.nil ?_
                  refine Under.frz (t := 8) rfl ?_
                  refine Under.tN ?_
                  refine Under.seq ?_
                  refine Under.seq ?_
                  refine Under.draw rfl (by kernel_rfl) fun F hF0 => ?_
                  refine UnderQ.ov (OpV.fd fb61_0 rfl rfl) rfl ?_
                  refine UnderQ.ov (OpV.ldI kt2 rfl) rfl ?_
                  refine UnderQ.ov (OpV.bin rfl rfl rfl) rfl ?_
                  refine UnderQ.ov (OpV.move rfl) rfl ?_
                  obtain ⟨x197, h196, h187⟩ := bsome h187
                  refine runj_8q 64 x197 ?_ (fun k => ?_)
                  · refine UnderQ.ov (OpV.move rfl) rfl ?_
                    obtain ⟨x202, h201, h187⟩ := bsome h187
                    refine runj_15q 80 x202 ?_ (fun k => ?_)
                    · refine UnderQ.ov (OpV.move rfl) rfl ?_
                      refine runj_5q 86 (x202 || ((x192.Tags.length : Int) == 0)) ?_ (fun k => ?_)
                      · refine UnderQ.nil hF0 ?_
                        refine Under.tN ?_
                        refine Under.ite h187 rfl (fun h187 => ?_) (fun h187 => ?_)
                        · refine Under.seq ?_
                          refine Under.region ?_
                          refine Under.ov (OpV.asg rfl) rfl ?_
                          refine Under.nil ?_
                          refine Under.tN ?_
                          refine Under.retc ?_
                          refine Under.tR ?_
                          refine Under.bR ?_
                          refine Under.tR ?_
                          have e211 := done_eq h187 d188
                          subst e211
                          refine Under.tR ?_
                          refine Under.bR ?_
                          refine Under.tR ?_
                          have e212 := Option.some.inj h119
                          subst e212
                          have e213 := Option.some.inj hF
                          subst e213
                          exact Under.rets Try.results16 (.tm rfl .nil) rfl rfl
                        · refine Under.code_skip ?_
                          refine Under.tN ?_
                          refine Under.seq ?_
                          refine Under.region ?_
                          refine Under.ov (OpV.fd fb61_1 rfl rfl) rfl ?_
                          refine Under.ov (OpV.ld kt36 rfl) rfl ?_
                          obtain ⟨y214, h215, h187⟩ := bsome h187
                          refine Under.call Try.call37 rfl rfl (f_slices_IsSortedFunc_window_order_ok h215 _) rfl ?_
                          refine Under.ov (OpV.not rfl) rfl ?_
                          refine Under.nil ?_
                          refine Under.tN ?_
                          refine Under.ite h187 rfl (fun h187 => ?_) (fun h187 => ?_)
                          · refine Under.seq ?_
                            refine Under.region ?_
                            refine Under.ov (OpV.asg rfl) rfl ?_
                            refine Under.nil ?_
                            refine Under.tN ?_
                            refine Under.retc ?_
                            refine Under.bR ?_
                            refine Under.tR ?_
                            have e216 := done_eq h187 d188
                            subst e216
                            refine Under.tR ?_
                            refine Under.bR ?_
                            refine Under.tR ?_
                            have e217 := Option.some.inj h119
                            subst e217
                            have e218 := Option.some.inj hF
                            subst e218
                            exact Under.rets Try.results16 (.tm rfl .nil) rfl rfl
                          · refine Under.code_skip ?_
                            refine Under.bN ?_
                            refine Under.tN ?_
                            refine Under.region ?_
                            refine Under.ov (OpV.bin rfl rfl rfl) rfl ?_
                            refine Under.ov (OpV.move rfl) rfl ?_
                            refine Under.nil ?_
                            exact Under.next _ () h187 (sub_cons rfl (sub_cons rfl (sub_cons rfl (sub_cons rfl (sub_cons rfl (sub_nil _)))))) rfl
                      · refine UnderQ.byc (t := 81) rfl (fun c208 => ?_) (fun c208 => ?_)
                        · refine UnderQ.skc c208 rfl rfl rfl ?_
                          refine UnderQ.skc c208 rfl rfl rfl ?_
                          refine UnderQ.skc c208 rfl rfl rfl ?_
                          refine UnderQ.skc c208 rfl rfl rfl ?_
                          refine UnderQ.ov (OpV.pick rfl (fun e => rfl) (fun e => absurd (e.symm.trans c208) (by decide))) rfl ?_
                          exact UnderQ.rfin 4 (or_t (e := (x192.Tags.length : Int) == 0) c208) rfl k
                        · refine UnderQ.goc c208 rfl rfl ?_
                          refine UnderQ.ov (OpV.fd fb61_1 rfl rfl) rfl ?_
                          refine UnderQ.goc c208 rfl rfl ?_
                          refine UnderQ.ov (OpV.ld kt36 rfl) rfl ?_
                          refine UnderQ.goc c208 rfl rfl ?_
                          refine UnderQ.ov (OpV.len Try.underlying36 rfl rdV) rfl ?_
                          refine UnderQ.goc c208 rfl rfl ?_
                          refine UnderQ.ov (OpV.bin rfl rfl rfl) rfl ?_
                          refine UnderQ.ov (OpV.pick rfl (fun e => absurd (e.symm.trans c208) (by decide)) (fun e => rfl)) rfl ?_
                          exact UnderQ.rfin 4 (or_f c208) rfl k
                    · refine UnderQ.byc (t := 65) rfl (fun c200 => ?_) (fun c200 => ?_)
                      · replace h201 := ctrue c200 h201
                        refine UnderQ.skc c200 rfl rfl rfl ?_
                        refine UnderQ.skc c200 rfl rfl rfl ?_
                        refine UnderQ.skc c200 rfl rfl rfl ?_
                        refine UnderQ.sku rfl rfl rfl ?_
                        refine UnderQ.sku rfl rfl rfl ?_
                        refine UnderQ.sku rfl rfl rfl ?_
                        refine UnderQ.sku rfl rfl rfl ?_
                        refine UnderQ.sku rfl rfl rfl ?_
                        refine UnderQ.sku rfl rfl rfl ?_
                        refine UnderQ.sku rfl rfl rfl ?_
                        refine UnderQ.sku rfl rfl rfl ?_
                        refine UnderQ.sku rfl rfl rfl ?_
                        refine UnderQ.sku rfl rfl rfl ?_
                        refine UnderQ.skc c200 rfl rfl rfl ?_
                        refine UnderQ.ov (OpV.pick rfl (fun e => rfl) (fun e => absurd (e.symm.trans c200) (by decide))) rfl ?_
                        exact UnderQ.rfin 14 (congrArg (fun b => SV.raw (.bool b)) (Option.some.inj h201)) rfl k
                      · replace h201 := cfalse c200 h201
                        refine UnderQ.goc c200 rfl rfl ?_
                        refine UnderQ.ov (OpV.move rfl) rfl ?_
                        refine UnderQ.goc c200 rfl rfl ?_
                        refine UnderQ.ov (OpV.bin rfl rfl rfl) rfl ?_
                        refine UnderQ.goc c200 rfl rfl ?_
                        refine UnderQ.ov (OpV.move rfl) rfl ?_
                        obtain ⟨x205, h204, h201⟩ := bsome h201
                        refine runj_11q 79 x205 ?_ (fun k => ?_)
                        · refine UnderQ.ov (OpV.pick rfl (fun e => absurd (e.symm.trans c200) (by decide)) (fun e => rfl)) rfl ?_
                          exact UnderQ.rfin 4 (congrArg (fun b => SV.raw (.bool b)) (Option.some.inj h201)) rfl k
                        · refine UnderQ.byc (t := 68) rfl (fun c203 => ?_) (fun c203 => ?_)
                          · replace h204 := ctrue c203 h204
                            refine UnderQ.goc c203 rfl rfl ?_
                            refine UnderQ.ov (OpV.fd fb61_0 rfl rfl) rfl ?_
                            refine UnderQ.goc c203 rfl rfl ?_
                            refine UnderQ.ov (OpV.ldI kt2 rfl) rfl ?_
                            refine UnderQ.goc c203 rfl rfl ?_
                            refine UnderQ.ov (OpV.fd fb27_1 rfl rfl) rfl ?_
                            refine UnderQ.goc c203 rfl rfl ?_
                            refine UnderQ.ov (OpV.ld kt25 rfl) rfl ?_
                            refine UnderQ.goc c203 rfl rfl ?_
                            refine UnderQ.ov (OpV.move rfl) rfl ?_
                            refine UnderQ.goc c203 rfl rfl ?_
                            refine UnderQ.ov (OpV.bin rfl rfl rfl) rfl ?_
                            obtain ⟨x206, h207, h204⟩ := bsome h204
                            refine UnderQ.goc c203 rfl rfl ?_
                            refine UnderQ.ov (OpV.ixS h207 Try.underlying25 sz61 rfl rdV rfl) rfl ?_
                            refine UnderQ.goc c203 rfl rfl ?_
                            refine UnderQ.ov (OpV.fd fb61_0 rfl rfl) rfl ?_
                            refine UnderQ.goc c203 rfl rfl ?_
                            refine UnderQ.ov (OpV.ldI kt2 rfl) rfl ?_
                            refine UnderQ.goc c203 rfl rfl ?_
                            refine UnderQ.ov (OpV.bin rfl rfl rfl) rfl ?_
                            refine UnderQ.goc c200 rfl rfl ?_
                            refine UnderQ.ov (OpV.pick rfl (fun e => rfl) (fun e => absurd (e.symm.trans c203) (by decide))) rfl ?_
                            exact UnderQ.rfin 10 (congrArg (fun b => SV.raw (.bool b)) (Option.some.inj h204)) rfl k
                          · replace h204 := cfalse c203 h204
                            refine UnderQ.skc c203 rfl rfl rfl ?_
                            refine UnderQ.skc c203 rfl rfl rfl ?_
                            refine UnderQ.skc c203 rfl rfl rfl ?_
                            refine UnderQ.skc c203 rfl rfl rfl ?_
                            refine UnderQ.skc c203 rfl rfl rfl ?_
                            refine UnderQ.skc c203 rfl rfl rfl ?_
                            refine UnderQ.skc c203 rfl rfl rfl ?_
                            refine UnderQ.skc c203 rfl rfl rfl ?_
                            refine UnderQ.skc c203 rfl rfl rfl ?_
                            refine UnderQ.skc c203 rfl rfl rfl ?_
                            refine UnderQ.goc c200 rfl rfl ?_
                            refine UnderQ.ov (OpV.pick rfl (fun e => absurd (e.symm.trans c203) (by decide)) (fun e => rfl)) rfl ?_
                            exact UnderQ.rfin 10 (congrArg (fun b => SV.raw (.bool b)) (Option.some.inj h204)) rfl k
                  · refine UnderQ.byc (t := 56) rfl (fun c195 => ?_) (fun c195 => ?_)
                    · replace h196 := ctrue c195 h196
                      refine UnderQ.skc c195 rfl rfl rfl ?_
                      refine UnderQ.skc c195 rfl rfl rfl ?_
                      refine UnderQ.skc c195 rfl rfl rfl ?_
                      refine UnderQ.skc c195 rfl rfl rfl ?_
                      refine UnderQ.skc c195 rfl rfl rfl ?_
                      refine UnderQ.skc c195 rfl rfl rfl ?_
                      refine UnderQ.skc c195 rfl rfl rfl ?_
                      refine UnderQ.ov (OpV.pick rfl (fun e => rfl) (fun e => absurd (e.symm.trans c195) (by decide))) rfl ?_
                      exact UnderQ.rfin 7 (congrArg (fun b => SV.raw (.bool b)) (Option.some.inj h196)) rfl k
                    · replace h196 := cfalse c195 h196
                      refine UnderQ.goc c195 rfl rfl ?_
                      refine UnderQ.ov (OpV.fd fb61_0 rfl rfl) rfl ?_
                      refine UnderQ.goc c195 rfl rfl ?_
                      refine UnderQ.ov (OpV.ldI kt2 rfl) rfl ?_
                      refine UnderQ.goc c195 rfl rfl ?_
                      refine UnderQ.ov (OpV.fd fb27_0 rfl rfl) rfl ?_
                      refine UnderQ.goc c195 rfl rfl ?_
                      refine UnderQ.ov (OpV.ldI kt2 rfl) rfl ?_
                      refine UnderQ.goc c195 rfl rfl ?_
                      refine UnderQ.ov (OpV.move rfl) rfl ?_
                      obtain ⟨y198, h199, h196⟩ := bsome h196
                      refine UnderQ.goc c195 rfl rfl ?_
                      refine UnderQ.ov (OpV.call Try.call36 rfl rfl (fun L => (f_window_kept_ok h199 L))) rfl ?_
                      refine UnderQ.goc c195 rfl rfl ?_
                      refine UnderQ.ov (OpV.not rfl) rfl ?_
                      refine UnderQ.ov (OpV.pick rfl (fun e => absurd (e.symm.trans c195) (by decide)) (fun e => rfl)) rfl ?_
                      exact UnderQ.rfin 7 (congrArg (fun b => SV.raw (.bool b)) (Option.some.inj h196)) rfl k
                · refine Under.exit ?_
                  refine Under.tE ?_
                  have e219 := done_eq h187 d188
                  subst e219
                  refine Under.tE ?_
                  refine Under.bH ?_
                  refine Under.tN ?_
                  exact Under.weak (k120 () (Option.some.inj h119).symm) (sub_nil _)
          · refine Zq.st (.ptr (kInt .i64) a0.Newest) (fun G hG => ?_) ?_
            · refine Under.ov (OpV.fd fb27_0 rfl rfl) rfl ?_
              exact Zq.done rfl
            refine Zq.st (.raw (.int .i64 a0.Newest)) (fun G hG => ?_) ?_
            · refine Under.ov (OpV.ldI kt2 rfl) rfl ?_
              exact Zq.done rfl
            refine Zq.st (.raw (.bool (decide (a0.Newest < 0)))) (fun G hG => ?_) ?_
            · refine Under.ov (OpV.bin rfl rfl rfl) rfl ?_
              exact Zq.done rfl
            refine Zq.st (.raw (.bool (decide (a0.Newest < 0)))) (fun G hG => ?_) ?_
            · refine Under.ov (OpV.move rfl) rfl ?_
              exact Zq.done rfl
            refine Zq.by (decide (a0.Newest < 0)) (fun c225 => ?_) (fun c225 => ?_)
            · refine Zq.st (.raw undef) (fun G hG => ?_) ?_
              · refine Under.skc c225 rfl rfl rfl ?_
                exact Zq.done rfl
              refine Zq.st (.raw undef) (fun G hG => ?_) ?_
              · refine Under.skc c225 rfl rfl rfl ?_
                exact Zq.done rfl
              refine Zq.st (.raw undef) (fun G hG => ?_) ?_
              · refine Under.skc c225 rfl rfl rfl ?_
                exact Zq.done rfl
              refine Zq.st (.raw (.bool ((decide (a0.Newest < 0)) || (decide (a0.Newest > 4611686018427387904))))) (fun G hG => ?_) ?_
              · refine Under.ov (OpV.pick rfl (fun _ => rfl) (fun e => absurd (e.symm.trans c225) (by decide))) rfl ?_
                refine Under.top (or_t (e := decide (a0.Newest > 4611686018427387904)) c225) ?_
                exact Zq.done rfl
              have c226 := or_tb (e := decide (a0.Newest > 4611686018427387904)) c225
              refine Zq.st (.raw (.bool ((decide (a0.Newest < 0)) || (decide (a0.Newest > 4611686018427387904))))) (fun G hG => ?_) ?_
              · refine Under.ov (OpV.move rfl) rfl ?_
                exact Zq.done rfl
              replace h14 := ctrue c226 h14
              refine Zq.st (.raw undef) (fun G hG => ?_) ?_
              · refine Under.skc c226 rfl rfl rfl ?_
                exact Zq.done rfl
              refine Zq.st (.raw undef) (fun G hG => ?_) ?_
              · refine Under.skc c226 rfl rfl rfl ?_
                exact Zq.done rfl
              refine Zq.st (.raw undef) (fun G hG => ?_) ?_
              · refine Under.skc c226 rfl rfl rfl ?_
                exact Zq.done rfl
              refine Zq.st (.raw undef) (fun G hG => ?_) ?_
              · refine Under.skc c226 rfl rfl rfl ?_
                exact Zq.done rfl
              refine Zq.st (.raw (.bool x13)) (fun G hG => ?_) ?_
              · refine Under.ov (OpV.pick rfl (fun _ => rfl) (fun e => absurd (e.symm.trans c226) (by decide))) rfl ?_
                refine Under.top (congrArg (fun b => SV.raw (.bool b)) (Option.some.inj h14)) ?_
                exact Zq.done rfl
              have c227 := (Option.some.inj h14).symm
              refine Zq.st (.raw (.bool x13)) (fun G hG => ?_) ?_
              · refine Under.ov (OpV.move rfl) rfl ?_
                exact Zq.done rfl
              replace h20 := ctrue c227 h20
              refine Zq.st (.raw undef) (fun G hG => ?_) ?_
              · refine Under.skc c227 rfl rfl rfl ?_
                exact Zq.done rfl
              refine Zq.st (.raw undef) (fun G hG => ?_) ?_
              · refine Under.skc c227 rfl rfl rfl ?_
                exact Zq.done rfl
              refine Zq.st (.raw undef) (fun G hG => ?_) ?_
              · refine Under.skc c227 rfl rfl rfl ?_
                exact Zq.done rfl
              refine Zq.st (.raw undef) (fun G hG => ?_) ?_
              · refine Under.skc c227 rfl rfl rfl ?_
                exact Zq.done rfl
              refine Zq.st (.raw undef) (fun G hG => ?_) ?_
              · refine Under.skc c227 rfl rfl rfl ?_
                exact Zq.done rfl
              refine Zq.st (.raw undef) (fun G hG => ?_) ?_
              · refine Under.skc c227 rfl rfl rfl ?_
                exact Zq.done rfl
              refine Zq.st (.raw (.bool x19)) (fun G hG => ?_) ?_
              · refine Under.ov (OpV.pick rfl (fun _ => rfl) (fun e => absurd (e.symm.trans c227) (by decide))) rfl ?_
                refine Under.top (congrArg (fun b => SV.raw (.bool b)) (Option.some.inj h20)) ?_
                exact Zq.done rfl
              have c228 := (Option.some.inj h20).symm
              exact Zq.nil (Zq.fin 22 hF0 (SubZ.cons rfl rfl SubZ.nil) rfl k)
            · refine Zq.st (.ptr (kInt .i64) a0.Newest) (fun G hG => ?_) ?_
              · refine Under.goc c225 rfl rfl ?_
                refine Under.ov (OpV.fd fb27_0 rfl rfl) rfl ?_
                exact Zq.done rfl
              refine Zq.st (.raw (.int .i64 a0.Newest)) (fun G hG => ?_) ?_
              · refine Under.goc c225 rfl rfl ?_
                refine Under.ov (OpV.ldI kt2 rfl) rfl ?_
                exact Zq.done rfl
              refine Zq.st (.raw (.bool (decide (a0.Newest > 4611686018427387904)))) (fun G hG => ?_) ?_
              · refine Under.goc c225 rfl rfl ?_
                refine Under.ov (OpV.bin rfl rfl rfl) rfl ?_
                exact Zq.done rfl
              refine Zq.st (.raw (.bool ((decide (a0.Newest < 0)) || (decide (a0.Newest > 4611686018427387904))))) (fun G hG => ?_) ?_
              · refine Under.ov (OpV.pick rfl (fun e => absurd (e.symm.trans c225) (by decide)) (fun _ => rfl)) rfl ?_
                refine Under.top (or_f c225) ?_
                exact Zq.done rfl
              refine Zq.st (.raw (.bool ((decide (a0.Newest < 0)) || (decide (a0.Newest > 4611686018427387904))))) (fun G hG => ?_) ?_
              · refine Under.ov (OpV.move rfl) rfl ?_
                exact Zq.done rfl
              refine Zq.by ((decide (a0.Newest < 0)) || (decide (a0.Newest > 4611686018427387904))) (fun c229 => ?_) (fun c229 => ?_)
              · replace h14 := ctrue c229 h14
                refine Zq.st (.raw undef) (fun G hG => ?_) ?_
                · refine Under.skc c229 rfl rfl rfl ?_
                  exact Zq.done rfl
                refine Zq.st (.raw undef) (fun G hG => ?_) ?_
                · refine Under.skc c229 rfl rfl rfl ?_
                  exact Zq.done rfl
                refine Zq.st (.raw undef) (fun G hG => ?_) ?_
                · refine Under.skc c229 rfl rfl rfl ?_
                  exact Zq.done rfl
                refine Zq.st (.raw undef) (fun G hG => ?_) ?_
                · refine Under.skc c229 rfl rfl rfl ?_
                  exact Zq.done rfl
                refine Zq.st (.raw (.bool x13)) (fun G hG => ?_) ?_
                · refine Under.ov (OpV.pick rfl (fun _ => rfl) (fun e => absurd (e.symm.trans c229) (by decide))) rfl ?_
                  refine Under.top (congrArg (fun b => SV.raw (.bool b)) (Option.some.inj h14)) ?_
                  exact Zq.done rfl
                have c230 := (Option.some.inj h14).symm
                refine Zq.st (.raw (.bool x13)) (fun G hG => ?_) ?_
                · refine Under.ov (OpV.move rfl) rfl ?_
                  exact Zq.done rfl
                replace h20 := ctrue c230 h20
                refine Zq.st (.raw undef) (fun G hG => ?_) ?_
                · refine Under.skc c230 rfl rfl rfl ?_
                  exact Zq.done rfl
                refine Zq.st (.raw undef) (fun G hG => ?_) ?_
                · refine Under.skc c230 rfl rfl rfl ?_
                  exact Zq.done rfl
                refine Zq.st (.raw undef) (fun G hG => ?_) ?_
                · refine Under.skc c230 rfl rfl rfl ?_
                  exact Zq.done rfl
                refine Zq.st (.raw undef) (fun G hG => ?_) ?_
                · refine Under.skc c230 rfl rfl rfl ?_
                  exact Zq.done rfl
                refine Zq.st (.raw undef) (fun G hG => ?_) ?_
                · refine Under.skc c230 rfl rfl rfl ?_
                  exact Zq.done rfl
                refine Zq.st (.raw undef) (fun G hG => ?_) ?_
                · refine Under.skc c230 rfl rfl rfl ?_
                  exact Zq.done rfl
                refine Zq.st (.raw (.bool x19)) (fun G hG => ?_) ?_
                · refine Under.ov (OpV.pick rfl (fun _ => rfl) (fun e => absurd (e.symm.trans c230) (by decide))) rfl ?_
                  refine Under.top (congrArg (fun b => SV.raw (.bool b)) (Option.some.inj h20)) ?_
                  exact Zq.done rfl
                have c231 := (Option.some.inj h20).symm
                exact Zq.nil (Zq.fin 22 hF0 (SubZ.cons rfl rfl SubZ.nil) rfl k)
              · replace h14 := cfalse c229 h14
                obtain ⟨y11, h12, h14⟩ := bsome h14
                refine Zq.st (.val kApi_Window a0) (fun G hG => ?_) ?_
                · refine Under.goc c229 rfl rfl ?_
                  refine Under.ov (OpV.ld kt27 rfl) rfl ?_
                  exact Zq.done rfl
                refine Zq.st (.raw (.int .i64 y11)) (fun G hG => ?_) ?_
                · refine Under.goc c229 rfl rfl ?_
                  refine Under.call Try.call18 rfl rfl (f_window_Len_ok h12 _) rfl ?_
                  exact Zq.done rfl
                refine Zq.st (.raw (.int .i64 a2)) (fun G hG => ?_) ?_
                · refine Under.goc c229 rfl rfl ?_
                  refine Under.ov (OpV.move rfl) rfl ?_
                  exact Zq.done rfl
                refine Zq.st (.raw (.bool (decide (y11 > a2)))) (fun G hG => ?_) ?_
                · refine Under.goc c229 rfl rfl ?_
                  refine Under.ov (OpV.bin rfl rfl rfl) rfl ?_
                  exact Zq.done rfl
                refine Zq.st (.raw (.bool x13)) (fun G hG => ?_) ?_
                · refine Under.ov (OpV.pick rfl (fun e => absurd (e.symm.trans c229) (by decide)) (fun _ => rfl)) rfl ?_
                  refine Under.top (congrArg (fun b => SV.raw (.bool b)) (Option.some.inj h14)) ?_
                  exact Zq.done rfl
                refine Zq.st (.raw (.bool x13)) (fun G hG => ?_) ?_
                · refine Under.ov (OpV.move rfl) rfl ?_
                  exact Zq.done rfl
                refine Zq.by x13 (fun c232 => ?_) (fun c232 => ?_)
                · replace h20 := ctrue c232 h20
                  refine Zq.st (.raw undef) (fun G hG => ?_) ?_
                  · refine Under.skc c232 rfl rfl rfl ?_
                    exact Zq.done rfl
                  refine Zq.st (.raw undef) (fun G hG => ?_) ?_
                  · refine Under.skc c232 rfl rfl rfl ?_
                    exact Zq.done rfl
                  refine Zq.st (.raw undef) (fun G hG => ?_) ?_
                  · refine Under.skc c232 rfl rfl rfl ?_
                    exact Zq.done rfl
                  refine Zq.st (.raw undef) (fun G hG => ?_) ?_
                  · refine Under.skc c232 rfl rfl rfl ?_
                    exact Zq.done rfl
                  refine Zq.st (.raw undef) (fun G hG => ?_) ?_
                  · refine Under.skc c232 rfl rfl rfl ?_
                    exact Zq.done rfl
                  refine Zq.st (.raw undef) (fun G hG => ?_) ?_
                  · refine Under.skc c232 rfl rfl rfl ?_
                    exact Zq.done rfl
                  refine Zq.st (.raw (.bool x19)) (fun G hG => ?_) ?_
                  · refine Under.ov (OpV.pick rfl (fun _ => rfl) (fun e => absurd (e.symm.trans c232) (by decide))) rfl ?_
                    refine Under.top (congrArg (fun b => SV.raw (.bool b)) (Option.some.inj h20)) ?_
                    exact Zq.done rfl
                  have c233 := (Option.some.inj h20).symm
                  exact Zq.nil (Zq.fin 22 hF0 (SubZ.cons rfl rfl SubZ.nil) rfl k)
                · replace h20 := cfalse c232 h20
                  obtain ⟨y15, h16, h20⟩ := bsome h20
                  obtain ⟨y17, h18, h20⟩ := bsome h20
                  refine Zq.st (.val kApi_Window a0) (fun G hG => ?_) ?_
                  · refine Under.goc c232 rfl rfl ?_
                    refine Under.ov (OpV.ld kt27 rfl) rfl ?_
                    exact Zq.done rfl
                  refine Zq.st (.val (kMap (kArr 16 (kInt .u8)) (kInt .i64)) y15) (fun G hG => ?_) ?_
                  · refine Under.goc c232 rfl rfl ?_
                    refine Under.call Try.call35 rfl rfl (f_window_known_ok h16 _) rfl ?_
                    exact Zq.done rfl
                  refine Zq.st (.raw (.int .i64 (y15.length : Int))) (fun G hG => ?_) ?_
                  · refine Under.goc c232 rfl rfl ?_
                    refine Under.ov (OpV.lenM Try.underlying69 rfl) rfl ?_
                    exact Zq.done rfl
                  refine Zq.st (.val kApi_Window a0) (fun G hG => ?_) ?_
                  · refine Under.goc c232 rfl rfl ?_
                    refine Under.ov (OpV.ld kt27 rfl) rfl ?_
                    exact Zq.done rfl
                  refine Zq.st (.raw (.int .i64 y17)) (fun G hG => ?_) ?_
                  · refine Under.goc c232 rfl rfl ?_
                    refine Under.call Try.call18 rfl rfl (f_window_Len_ok h18 _) rfl ?_
                    exact Zq.done rfl
                  refine Zq.st (.raw (.bool ((y15.length : Int) != y17))) (fun G hG => ?_) ?_
                  · refine Under.goc c232 rfl rfl ?_
                    refine Under.ov (OpV.bin rfl rfl rfl) rfl ?_
                    exact Zq.done rfl
                  refine Zq.st (.raw (.bool x19)) (fun G hG => ?_) ?_
                  · refine Under.ov (OpV.pick rfl (fun e => absurd (e.symm.trans c232) (by decide)) (fun _ => rfl)) rfl ?_
                    refine Under.top (congrArg (fun b => SV.raw (.bool b)) (Option.some.inj h20)) ?_
                    exact Zq.done rfl
                  exact Zq.nil (Zq.fin 22 hF0 (SubZ.cons rfl rfl SubZ.nil) rfl k)
      · refine Under.byc (t := 19) rfl (fun c7 => ?_) (fun c7 => ?_)
        · refine Under.skc c7 rfl rfl rfl ?_
          refine Under.skc c7 rfl rfl rfl ?_
          refine Under.ov (OpV.pick rfl (fun e => rfl) (fun e => absurd (e.symm.trans c7) (by decide))) rfl ?_
          exact Under.rfin 2 (or_t (e := decide (a2 > 4096)) c7) rfl k
        · refine Under.goc c7 rfl rfl ?_
          refine Under.ov (OpV.move rfl) rfl ?_
          refine Under.goc c7 rfl rfl ?_
          refine Under.ov (OpV.bin rfl rfl rfl) rfl ?_
          refine Under.ov (OpV.pick rfl (fun e => absurd (e.symm.trans c7) (by decide)) (fun e => rfl)) rfl ?_
          exact Under.rfin 2 (or_f c7) rfl k
    · refine Under.byc (t := 15) rfl (fun c4 => ?_) (fun c4 => ?_)
      · refine Under.skc c4 rfl rfl rfl ?_
        refine Under.skc c4 rfl rfl rfl ?_
        refine Under.ov (OpV.pick rfl (fun e => rfl) (fun e => absurd (e.symm.trans c4) (by decide))) rfl ?_
        exact Under.rfin 2 (or_t (e := decide (a2 < 0)) c4) rfl k
      · refine Under.goc c4 rfl rfl ?_
        refine Under.ov (OpV.move rfl) rfl ?_
        refine Under.goc c4 rfl rfl ?_
        refine Under.ov (OpV.bin rfl rfl rfl) rfl ?_
        refine Under.ov (OpV.pick rfl (fun e => absurd (e.symm.trans c4) (by decide)) (fun e => rfl)) rfl ?_
        exact Under.rfin 2 (or_f c4) rfl k
  · refine Under.byc (t := 11) rfl (fun c1 => ?_) (fun c1 => ?_)
    · refine Under.skc c1 rfl rfl rfl ?_
      refine Under.skc c1 rfl rfl rfl ?_
      refine Under.ov (OpV.pick rfl (fun e => rfl) (fun e => absurd (e.symm.trans c1) (by decide))) rfl ?_
      exact Under.rfin 2 (or_t (e := decide (a1 > 8)) c1) rfl k
    · refine Under.goc c1 rfl rfl ?_
      refine Under.ov (OpV.move rfl) rfl ?_
      refine Under.goc c1 rfl rfl ?_
      refine Under.ov (OpV.bin rfl rfl rfl) rfl ?_
      refine Under.ov (OpV.pick rfl (fun e => absurd (e.symm.trans c1) (by decide)) (fun e => rfl)) rfl ?_
      exact Under.rfin 2 (or_f c1) rfl k
/-- slices.Clone[[][16]byte,[16]byte] -/
noncomputable def f_slices_Clone_ro (a0 : List (List Int)) : Option (List (List Int)) :=
  (app [] a0).bind fun z5 =>
  some z5
theorem f_slices_Clone_ro_ok {a0 : List (List Int)} {r0 : (List (List Int))} (hF : f_slices_Clone_ro a0 = some r0) (L : List Res) : OkX Try.prog 46 [SV.val (kSl (kArr 16 (kInt .u8))) a0] (L) (fun y : Value => SV.raw y) (fun y : Value => (.own (kArr 16 (kInt .u8)) y 43 r0) :: L) := by
  unfold f_slices_Clone_ro at hF
  refine OkX.intro 8 [(0, .val (kSl (kArr 16 (kInt .u8))) a0)] Try.func46 rfl rfl rfl rfl (fun F0 => ?_)
  refine Under.seq ?_
  refine Under.region ?_
  refine Under.ov (OpV.asg rfl) rfl ?_
  refine Under.nil ?_
  refine Under.tN ?_
  refine Under.seq ?_
  refine Under.seq ?_
  refine Under.region ?_
  refine Under.ov (OpV.move rfl) rfl ?_
  refine Under.eqNil Try.underlying36 rfl rfl fun b1 h2 => ?_
  refine Under.nil ?_
  refine Under.tN ?_
  refine Under.conde rfl (fun h9 => ?_) (fun _ => ?_)
  · replace hF : (some []) = some r0 := by rw [h2 h9] at hF; simpa [app, room] using hF
    refine Under.seq ?_
    refine Under.region ?_
    refine Under.ov (OpV.asg rfl) rfl ?_
    refine Under.nil ?_
    refine Under.tN ?_
    refine Under.retc ?_
    refine Under.tR ?_
    refine Under.ownNil (K := kArr 16 (kInt .u8)) (e := 43) ?_
    have e3 := Option.some.inj hF
    subst e3
    exact Under.retsX (.slice none 0 0) Try.results46 (.tm rfl .nil) rfl rfl
  · refine Under.code_skip ?_
    refine Under.tN ?_
    refine Under.seq ?_
    refine Under.region ?_
    refine Under.bsO (ys := []) Try.underlying36 ET43 (BldA.nil _) rfl rfl fun v4 => ?_
    refine Under.ov (OpV.move rfl) rfl ?_
    obtain ⟨z5, h6, hF⟩ := bsome hF
    refine Under.app h6 Try.underlying36 AT43 rfl rfl rdV rfl fun v7 => ?_
    refine Under.ov (OpV.asg rfl) rfl ?_
    refine Under.nil ?_
    refine Under.tN ?_
    refine Under.retc ?_
    have e8 := Option.some.inj hF
    subst e8
    exact Under.retsX v7 Try.results46 (.tm rfl .nil) rfl rfl
/-- churn/window.Add -/
noncomputable def f_window_Add (a0 : Api_Window) (a1 : Int) (a2 : List (List Int)) (a3 : Int) : Option (Api_Window × Int) :=
  ((bif (decide (a3 < 0)) || (decide (a3 > 4096)) then
    some true
  else
    (f_window_Check a0 8 4096).bind fun y8 =>
    some (y8 != 0)
    : Option Bool)).bind fun x7 =>
  bif x7 then
    some ((⟨0, []⟩ : Api_Window), 2)
  else
    ((bif decide (a1 < 0) then
      some true
    else
      (f_window_kept a1 a0.Newest 8).bind fun y14 =>
      some (!y14)
      : Option Bool)).bind fun x13 =>
    bif x13 then
      some ((⟨0, []⟩ : Api_Window), 161)
    else
      (((Loop.run (S := (Int × (List ((List Int) × Int)))) (R := (List ((List Int) × Int))) (fun (x901, x902) =>
          bif decide (x901 < (a2.length : Int)) then
            (idx a2 x901).bind fun x912 =>
            some (.next (IntKind.wrap .i64 (x901 + 1), mset x912 x901 x902))
          else
            some (.done x902)) (0, [])).bind fun x906 =>
      some x906
        : Option (List ((List Int) × Int)))).bind fun x43 =>
      (f_window_known a0).bind fun y47 =>
      allOrd (S := (List ((List Int) × Int))) y47 (fun (p70 : (List Int) × Int) x67 =>
          some (mdel p70.1 x67)) (fun x67 =>
          (f_window_Len a0).bind fun y74 =>
          bif decide ((IntKind.wrap .i64 (y74 + (x67.length : Int))) > a3) then
            some ((⟨0, []⟩ : Api_Window), 160)
          else
            allOrd (S := (List (List Int))) x67 (fun (p106 : (List Int) × Int) x103 =>
                (app x103 [p106.1]).bind fun z885 =>
                some z885) (fun x103 =>
                (Loop.run (S := (Int × (List Api_Epoch) × Bool)) (R := ((List Api_Epoch) × Bool)) (fun (x226, x228, mode_) =>
                    bif mode_ then
                      bif decide (x226 < (a0.Epochs.length : Int)) then
                        (idx a0.Epochs x226).bind fun x467 =>
                        ((some ()
                          : Option Unit)).bind fun _ =>
                        (f_slices_Clone_ro x467.Tags).bind fun y476 =>
                        (app x228 [(⟨x467.Number, y476⟩ : Api_Epoch)]).bind fun z479 =>
                        some (.next (IntKind.wrap .i64 (x226 + 1), z479, true))
                      else
                        some (.done (x228, true))
                    else
                      bif decide (x226 < (a0.Epochs.length : Int)) then
                        (idx a0.Epochs x226).bind fun x292 =>
                        bif decide (x292.Number ≥ a1) then
                          bif decide (x292.Number > a1) then
                            (app x228 [(⟨a1, x103⟩ : Api_Epoch)]).bind fun z299 =>
                            (f_slices_Clone_ro x292.Tags).bind fun y303 =>
                            (app z299 [(⟨x292.Number, y303⟩ : Api_Epoch)]).bind fun z306 =>
                            some (.next (IntKind.wrap .i64 (x226 + 1), z306, true))
                          else
                            (app x103 x292.Tags).bind fun z310 =>
                            (f_slices_Clone_ro (({ x292 with Tags := z310 } : Api_Epoch).Tags)).bind fun y313 =>
                            (app x228 [(⟨({ x292 with Tags := z310 } : Api_Epoch).Number, y313⟩ : Api_Epoch)]).bind fun z316 =>
                            some (.next (IntKind.wrap .i64 (x226 + 1), z316, true))
                        else
                          (f_slices_Clone_ro x292.Tags).bind fun y320 =>
                          (app x228 [(⟨x292.Number, y320⟩ : Api_Epoch)]).bind fun z323 =>
                          some (.next (IntKind.wrap .i64 (x226 + 1), z323, false))
                      else
                        some (.done (x228, false))) (0, [], (x103.length : Int) == 0)).bind fun r289 => match r289 with
                  | (x286, mode_) =>
                    bif mode_ then
                      ((some ()
                        : Option Unit)).bind fun _ =>
                      (((Loop.run (S := ((List Api_Epoch) × Int)) (R := Api_Window) (fun (x707, x708) =>
                          bif decide (x708 < (x286.length : Int)) then
                            (idx x707 x708).bind fun x726 =>
                            (sortG x726.Tags).bind fun y735 =>
                            some (.next (List.set x707 (Int.toNat x708) ({ x726 with Tags := y735 } : Api_Epoch), IntKind.wrap .i64 (x708 + 1)))
                          else
                            some (.done (⟨a0.Newest, x707⟩ : Api_Window))) (x286, 0)).bind fun x720 =>
                      some x720
                        : Option Api_Window)).bind fun x678 =>
                      some (x678, 0)
                    else
                      (((app x286 [(⟨a1, x103⟩ : Api_Epoch)]).bind fun z878 =>
                      some z878
                        : Option (List Api_Epoch))).bind fun x751 =>
                      (((Loop.run (S := ((List Api_Epoch) × Int)) (R := Api_Window) (fun (x841, x842) =>
                          bif decide (x842 < (x751.length : Int)) then
                            (idx x841 x842).bind fun x860 =>
                            (sortG x860.Tags).bind fun y869 =>
                            some (.next (List.set x841 (Int.toNat x842) ({ x860 with Tags := y869 } : Api_Epoch), IntKind.wrap .i64 (x842 + 1)))
                          else
                            some (.done (⟨a0.Newest, x841⟩ : Api_Window))) (x751, 0)).bind fun x854 =>
                      some x854
                        : Option Api_Window)).bind fun x812 =>
                      some (x812, 0)) []) x43
theorem f_window_Add_ok {a0 : Api_Window} {a1 : Int} {a2 : List (List Int)} {a3 : Int} {r0 : (Api_Window × Int)} (hF : f_window_Add a0 a1 a2 a3 = some r0) (L : List Res) : Ok Try.prog 26 [SV.val kApi_Window a0, SV.raw (.int .i64 a1), SV.val (kSl (kArr 16 (kInt .u8))) a2, SV.raw (.int .i64 a3)] (L) (SV.tup [SV.val kApi_Window r0.1, SV.raw (.int .i64 r0.2)]) (L) := by
  unfold f_window_Add at hF
  refine Ok.intro 155 [(0, .val kApi_Window a0), (1, .raw (.int .i64 a1)), (2, .val (kSl (kArr 16 (kInt .u8))) a2), (3, .raw (.int .i64 a3))] Try.func26 rfl rfl rfl rfl (fun F0 => ?_)
  refine Under.seq ?_
  refine Under.region ?_
  refine Under.bxF (K := kApi_Window) rfl rdV rfl ?_
  refine Under.al ZT27 rfl fun b1 => ?_
  refine Under.ov (OpV.asg rfl) rfl ?_
  refine Under.nil ?_
  refine Under.tN ?_
  refine Under.seq ?_
  refine Under.seq ?_
  refine Under.region ?_
  refine Under.ov (OpV.move rfl) rfl ?_
  refine Under.ov (OpV.bin rfl rfl rfl) rfl ?_
  refine Under.ov (OpV.move rfl) rfl ?_
  refine runj_3 27 ((decide (a3 < 0)) || (decide (a3 > 4096))) ?_ (fun k => ?_)
  · refine Under.ov (OpV.move rfl) rfl ?_
    obtain ⟨x7, h6, hF⟩ := bsome hF
    refine runj_4 32 x7 ?_ (fun k => ?_)
    · refine Under.nil ?_
      refine Under.tN ?_
      refine Under.ite hF rfl (fun hF => ?_) (fun hF => ?_)
      · refine Under.seq ?_
        refine Under.region ?_
        refine Under.ov (OpV.bst BT27 (Bld.nil _)) rfl ?_
        refine Under.stP (x' := (⟨0, []⟩ : Api_Window)) .box .id sz27_kApi_Window rfl rfl rdV rfl ?_
        refine Under.ov (OpV.asg rfl) rfl ?_
        refine Under.nil ?_
        refine Under.frz (t := 8) rfl ?_
        refine Under.tN ?_
        refine Under.retc ?_
        refine Under.tR ?_
        have e10 := Option.some.inj hF
        subst e10
        exact Under.rets Try.results26 (.ce rfl kt27 (.tm rfl .nil)) rfl rfl
      · refine Under.code_skip ?_
        refine Under.tN ?_
        refine Under.seq ?_
        refine Under.seq ?_
        refine Under.region ?_
        refine Under.ov (OpV.move rfl) rfl ?_
        refine Under.ov (OpV.bin rfl rfl rfl) rfl ?_
        refine Under.ov (OpV.move rfl) rfl ?_
        obtain ⟨x13, h12, hF⟩ := bsome hF
        refine runj_6 42 x13 ?_ (fun k => ?_)
        · refine Under.nil ?_
          refine Under.tN ?_
          refine Under.ite hF rfl (fun hF => ?_) (fun hF => ?_)
          · refine Under.seq ?_
            refine Under.region ?_
            refine Under.ov (OpV.bst BT27 (Bld.nil _)) rfl ?_
            refine Under.stP (x' := (⟨0, []⟩ : Api_Window)) .box .id sz27_kApi_Window rfl rfl rdV rfl ?_
            refine Under.ov (OpV.asg rfl) rfl ?_
            refine Under.nil ?_
            refine Under.frz (t := 8) rfl ?_
            refine Under.tN ?_
            refine Under.retc ?_
            refine Under.tR ?_
            have e16 := Option.some.inj hF
            subst e16
            exact Under.rets Try.results26 (.ce rfl kt27 (.tm rfl .nil)) rfl rfl
          · refine Under.code_skip ?_
            refine Under.tN ?_
            refine Under.seq ?_
            refine Under.region ?_
            refine Under.mkm (kArr 16 (kInt .u8)) (kInt .i64) rfl fun b17 => ?_
            refine Under.ov (OpV.asg rfl) rfl ?_
            refine Under.nil ?_
            refine Under.tN ?_
            obtain ⟨r44, h45, hF⟩ := bsome hF
            refine Under.seq ?_
            refine Under.after (fun X => ∀ (x43 : List ((List Int) × Int)), r44 = x43 → Under F0 155 [(1, .raw (.int .i64 a1)), (3, .raw (.int .i64 a3)), (4, .ptr kApi_Window a0), (8, .raw (.pointer (some ⟨b1, 0, none⟩))), (10, .raw (.map (some b17)))] ((.box kApi_Window b1 27 (⟨0, []⟩ : Api_Window)) :: (.mp (kArr 16 (kInt .u8)) (kInt .i64) b17 x43) :: L) X) ?_ ?_
            · intro x43 h920
              replace h920 := h920.symm
              subst h920
              refine Under.seq ?_
              refine Under.seq ?_
              refine Under.region ?_
              refine Under.ov (OpV.ld kt27 rfl) rfl ?_
              obtain ⟨y47, h48, hF⟩ := bsome hF
              refine Under.call Try.call35 rfl rfl (f_window_known_ok h48 _) rfl ?_
              refine Under.rng Try.underlying69 rfl rfl fun b49 => ?_
              refine Under.nil ?_
              refine Under.tN ?_
              refine Under.block ?_
              refine Under.fo2 ?_
              refine Under.fo2 ?_
              refine Under.fo2 ?_
              refine Under.loopM (S := (List ((List Int) × Int))) (C := Unit) () (fun (x891 : (List ((List Int) × Int))) (q892 : Unit) => [(1, .raw (.int .i64 a1)), (3, .raw (.int .i64 a3)), (4, .ptr kApi_Window a0), (8, .raw (.pointer (some ⟨b1, 0, none⟩))), (10, .raw (.map (some b17))), (58, .raw (.pointer (some ⟨b49, 0, none⟩)))]) (fun (x891 : (List ((List Int) × Int))) (q892 : Unit) => (.box kApi_Window b1 27 (⟨0, []⟩ : Api_Window)) :: (.mp (kArr 16 (kInt .u8)) (kInt .i64) b17 x891) :: L) hF (sub_cons rfl (sub_cons rfl (sub_cons rfl (sub_cons rfl (sub_cons rfl (sub_cons rfl (sub_nil _))))))) rfl (fun x891 q892 l50 u51 h52 h53 => ?_)
              try dsimp only at h52
              try dsimp only at h53
              try dsimp only
              refine Under.seq ?_
              refine Under.region ?_
              refine Under.nxt rfl rfl (fun h69 => ?_) (fun p70 l71 h72 => ?_)
              · refine Under.ov (OpV.extr rfl rfl) rfl ?_
                refine Under.nil ?_
                refine Under.tN ?_
                refine Under.seq ?_
                refine Under.condF rfl ?_
                refine Under.fo2 ?_
                refine Under.frzM (t := 10) rfl ?_
                refine Under.exit ?_
                refine Under.tE ?_
                have hF := h52 h69
                refine Under.dropr ?_
                refine Under.tE ?_
                refine Under.bH ?_
                refine Under.tN ?_
                refine Under.seq ?_
                refine Under.seq ?_
                refine Under.region ?_
                refine Under.ov (OpV.ld kt27 rfl) rfl ?_
                obtain ⟨y74, h75, hF⟩ := bsome hF
                refine Under.call Try.call18 rfl rfl (f_window_Len_ok h75 _) rfl ?_
                refine Under.ov (OpV.move rfl) rfl ?_
                refine Under.ov (OpV.lenM Try.underlying69 rfl) rfl ?_
                refine Under.ov (OpV.bin rfl rfl rfl) rfl ?_
                refine Under.ov (OpV.move rfl) rfl ?_
                refine Under.ov (OpV.bin rfl rfl rfl) rfl ?_
                refine Under.nil ?_
                refine Under.tN ?_
                refine Under.ite hF rfl (fun hF => ?_) (fun hF => ?_)
                · refine Under.seq ?_
                  refine Under.region ?_
                  refine Under.ov (OpV.bst BT27 (Bld.nil _)) rfl ?_
                  refine Under.stP (x' := (⟨0, []⟩ : Api_Window)) .box .id sz27_kApi_Window rfl rfl rdV rfl ?_
                  refine Under.ov (OpV.asg rfl) rfl ?_
                  refine Under.nil ?_
                  refine Under.frz (t := 8) rfl ?_
                  refine Under.tN ?_
                  refine Under.retc ?_
                  refine Under.tR ?_
                  have e76 := Option.some.inj hF
                  subst e76
                  exact Under.rets Try.results26 (.ce rfl kt27 (.tm rfl .nil)) rfl rfl
                · refine Under.code_skip ?_
                  refine Under.tN ?_
                  refine Under.seq ?_
                  refine Under.region ?_
                  refine Under.ov (OpV.asg rfl) rfl ?_
                  refine Under.nil ?_
                  refine Under.tN ?_
                  refine Under.seq ?_
                  refine Under.seq ?_
                  refine Under.region ?_
                  refine Under.ov (OpV.move rfl) rfl ?_
                  refine Under.rng Try.underlying69 rfl rfl fun b77 => ?_
                  refine Under.nil ?_
                  refine Under.tN ?_
                  refine Under.block ?_
                  refine Under.ownNil (K := kArr 16 (kInt .u8)) (e := 43) ?_
                  refine Under.fo2 ?_
                  refine Under.fo1 ?_
                  refine Under.fo2 ?_
                  refine Under.loopM (S := (List (List Int))) (C := Value) (.slice none 0 0) (fun (x888 : (List (List Int))) (q889 : Value) => [(1, .raw (.int .i64 a1)), (4, .ptr kApi_Window a0), (8, .raw (.pointer (some ⟨b1, 0, none⟩))), (14, .raw q889), (74, .raw (.pointer (some ⟨b77, 0, none⟩)))]) (fun (x888 : (List (List Int))) (q889 : Value) => (.own (kArr 16 (kInt .u8)) q889 43 x888) :: (.box kApi_Window b1 27 (⟨0, []⟩ : Api_Window)) :: L) hF (sub_cons rfl (sub_cons rfl (sub_cons rfl (sub_cons rfl (sub_cons rfl (sub_nil _)))))) rfl (fun x888 q889 l78 u79 h80 h81 => ?_)
                  try dsimp only at h80
                  try dsimp only at h81
                  try dsimp only
                  refine Under.seq ?_
                  refine Under.region ?_
                  refine Under.nxt rfl rfl (fun h105 => ?_) (fun p106 l107 h108 => ?_)
                  · refine Under.ov (OpV.extr rfl rfl) rfl ?_
                    refine Under.nil ?_
                    refine Under.tN ?_
                    refine Under.seq ?_
                    refine Under.condF rfl ?_
                    refine Under.exit ?_
                    refine Under.tE ?_
                    have hF := h80 h105
                    refine Under.dropr ?_
                    refine Under.tE ?_
                    refine Under.bH ?_
                    refine Under.tN ?_
                    refine Under.seq ?_
                    refine Under.region ?_
                    refine Under.ov (OpV.fd fb27_0 rfl rfl) rfl ?_
                    refine Under.ov (OpV.ldI kt2 rfl) rfl ?_
                    refine Under.ov (OpV.bst BT27_Api_Window_r1 (Bld.cons (x' := (⟨a0.Newest, .slice none 0 0⟩ : Api_Window_r1)) rfl rfl rdI (by intro q hq; simp only [List.mem_cons, List.not_mem_nil, or_false] at hq; rcases hq with rfl <;> rfl) (Bld.nil _))) rfl ?_
                    refine Under.al ZT27_Api_Window_r1 rfl fun b110 => ?_
                    refine Under.stP (x' := (⟨a0.Newest, .slice none 0 0⟩ : Api_Window_r1)) .box .id sz27_kApi_Window_r1 rfl rfl rdV rfl ?_
                    refine Under.nil ?_
                    refine Under.tN ?_
                    refine Under.seq ?_
                    refine Under.region ?_
                    refine Under.ov (OpV.move rfl) rfl ?_
                    refine Under.fo1 ?_
                    refine Under.ov (OpV.lenO Try.underlying36 rfl) rfl ?_
                    refine Under.ov (OpV.bin rfl rfl rfl) rfl ?_
                    refine Under.ov (OpV.asg rfl) rfl ?_
                    refine Under.nil ?_
                    refine Under.tN ?_
                    refine Under.seq ?_
                    refine Under.seq ?_
                    refine Under.region ?_
                    refine Under.ov (OpV.fd fb27_1 rfl rfl) rfl ?_
                    refine Under.ov (OpV.ld kt25 rfl) rfl ?_
                    refine Under.ov (OpV.len Try.underlying25 rfl rdV) rfl ?_
                    refine Under.ov (OpV.move rfl) rfl ?_
                    refine Under.nil ?_
                    refine Under.tN ?_
                    refine Under.block ?_
                    obtain ⟨r289, h290, hF⟩ := bsome hF
                    refine Under.manyNil (KR := kApi_Epoch_r1) (KT := kArr 16 (kInt .u8)) (mk := mk_Api_Epoch) (tg := tg_Api_Epoch) (TE := 61) (TT := 43) ?_
                    refine Under.fo2 ?_
                    refine Under.fo1 ?_
                    refine Under.fo3 ?_
                    refine Under.fo3 ?_
                    refine Under.modeD (b := (x888.length : Int) == 0) ?_
                    refine Under.loop (S := (Int × (List Api_Epoch) × Bool)) (C := Value) (.slice none 0 0) (fun (x616 : (Int × (List Api_Epoch) × Bool)) (q617 : Value) => [(1, .raw (.int .i64 a1)), (8, .raw (.pointer (some ⟨b1, 0, none⟩))), (14, .raw q889), (16, .raw (.pointer (some ⟨b110, 0, none⟩))), (17, .raw (.bool x616.2.2)), (90, .val (kSl kApi_Epoch) a0.Epochs), (91, .raw (.int .i64 (a0.Epochs.length : Int))), (92, .raw (.int .i64 x616.1))]) (fun (x616 : (Int × (List Api_Epoch) × Bool)) (q617 : Value) => bif x616.2.2 then ((.box kApi_Window b1 27 (⟨0, []⟩ : Api_Window)) :: (.any (manyH kApi_Epoch_r1 (kArr 16 (kInt .u8)) mk_Api_Epoch tg_Api_Epoch 61 43 q617 x616.2.1)) :: (.box kApi_Window_r1 b110 27 (⟨a0.Newest, q617⟩ : Api_Window_r1)) :: L) else ((.own (kArr 16 (kInt .u8)) q889 43 x888) :: (.box kApi_Window b1 27 (⟨0, []⟩ : Api_Window)) :: (.any (manyH kApi_Epoch_r1 (kArr 16 (kInt .u8)) mk_Api_Epoch tg_Api_Epoch 61 43 q617 x616.2.1)) :: (.box kApi_Window_r1 b110 27 (⟨a0.Newest, q617⟩ : Api_Window_r1)) :: L)) h290 (sub_cons rfl (sub_cons rfl (sub_cons rfl (sub_cons rfl (sub_cons rfl (sub_cons rfl (sub_cons rfl (sub_cons rfl (sub_nil _))))))))) rfl (fun x616 q617 o291 h287 d288 => ?_)
                    obtain ⟨x226, x228, mode_⟩ := x616
                    cases mode_
                    · try dsimp only [cond_true, cond_false] at h287
                      try dsimp only [cond_true, cond_false]
                      refine Under.seq ?_
                      refine Under.region ?_
                      refine Under.ov (OpV.bin rfl rfl rfl) rfl ?_
                      refine Under.nil ?_
                      refine Under.tN ?_
                      refine Under.seq ?_
                      refine Under.ite h287 rfl (fun h287 => ?_) (fun h287 => ?_)
                      · refine Under.code_skip ?_
                        refine Under.tN ?_
                        refine Under.seq ?_
                        refine Under.block ?_
                        refine Under.seq ?_
                        refine Under.region ?_
                        obtain ⟨x292, h293, h287⟩ := bsome h287
                        refine Under.ov (OpV.ixS h293 Try.underlying25 sz61 rfl rdV rfl) rfl ?_
                        refine Under.ov (OpV.ld kt61 rfl) rfl ?_
                        refine Under.al ZT61 rfl fun b294 => ?_
                        refine Under.stP (x' := x292) .box .id sz61_kApi_Epoch rfl rfl rdV rfl ?_
                        refine Under.nil ?_
                        refine Under.tN ?_
                        refine Under.seq ?_
                        refine Under.seq ?_
                        refine Under.region ?_
                        refine Under.ov (OpV.move rfl) rfl ?_
                        refine Under.ov (OpV.not rfl) rfl ?_
                        refine Under.ov (OpV.move rfl) rfl ?_
                        refine Under.goc (rfl : (true : Bool) = true) rfl rfl ?_
                        refine Under.ov (OpV.fdM fm61_0 rfl) rfl ?_
                        refine Under.goc (rfl : (true : Bool) = true) rfl rfl ?_
                        refine Under.ldP .box (.fld .id uf_Api_Epoch_0) kt2_kInt_i64 rfl rfl ?_
                        refine Under.rawI (t := 100) rfl ?_
                        refine Under.goc (rfl : (true : Bool) = true) rfl rfl ?_
                        refine Under.ov (OpV.move rfl) rfl ?_
                        refine Under.goc (rfl : (true : Bool) = true) rfl rfl ?_
                        refine Under.ov (OpV.bin rfl rfl rfl) rfl ?_
                        refine Under.ov (OpV.pick rfl (fun e => rfl) (fun e => absurd (e.symm.trans (rfl : (true : Bool) = true)) (by decide))) rfl ?_
                        refine Under.nil ?_
                        refine Under.tN ?_
                        refine Under.ite h287 rfl (fun h287 => ?_) (fun h287 => ?_)
                        · refine Under.seq ?_
                          refine Under.region ?_
                          refine Under.ov (OpV.asg rfl) rfl ?_
                          refine Under.nil ?_
                          refine Under.tN ?_
                          refine Under.seq ?_
                          refine Under.region ?_
                          refine Under.ov (OpV.fdM fm61_0 rfl) rfl ?_
                          refine Under.ldP .box (.fld .id uf_Api_Epoch_0) kt2_kInt_i64 rfl rfl ?_
                          refine Under.rawI (t := 105) rfl ?_
                          refine Under.ov (OpV.move rfl) rfl ?_
                          refine Under.ov (OpV.bin rfl rfl rfl) rfl ?_
                          refine Under.nil ?_
                          refine Under.tN ?_
                          refine Under.ite h287 rfl (fun h287 => ?_) (fun h287 => ?_)
                          · refine Under.frz (t := 19) rfl ?_
                            refine Under.region ?_
                            refine Under.ov (OpV.fdM fm27_1 rfl) rfl ?_
                            refine Under.fo3 ?_
                            refine Under.ldP .box (.fld .id uf_Api_Window_r1_1) kt25_kRaw rfl rfl ?_
                            refine Under.rawR (t := 109) rfl ?_
                            refine Under.ov (OpV.move rfl) rfl ?_
                            refine Under.ov (OpV.move rfl) rfl ?_
                            refine Under.fo1 ?_
                            refine Under.ownCell fun h298 => ?_
                            refine Under.ov (OpV.bst BT61_Api_Epoch_r1 (Bld.cons (x' := (⟨a1, .slice none 0 0⟩ : Api_Epoch_r1)) rfl rfl rdI (by intro q hq; simp only [List.mem_cons, List.not_mem_nil, or_false] at hq; rcases hq with rfl <;> rfl) (Bld.cons (x' := (⟨a1, q889⟩ : Api_Epoch_r1)) rfl rfl (rdRaw h298) ⟨rfl, (fun q hq => by simp at hq)⟩ (Bld.nil _)))) rfl ?_
                            refine Under.bsF (ys := [(⟨a1, q889⟩ : Api_Epoch_r1)]) Try.underlying25 ET61_Api_Epoch_r1 (BldA.cons rfl rfl rdV (BldA.nil _)) rfl rfl ?_
                            obtain ⟨z299, h300, h287⟩ := bsome h287
                            refine Under.fo3 ?_
                            refine Under.manyPush (x := (⟨a1, x888⟩ : Api_Epoch)) frR_Api_Epoch frT_Api_Epoch h300 Try.underlying25 (by kernel_rfl) AT61_Api_Epoch_r1 rfl rfl (.sl rdV) rfl fun v301 => ?_
                            refine Under.ov (OpV.fdM fm27_1 rfl) rfl ?_
                            refine Under.manyCell frR_Api_Epoch frT_Api_Epoch fun h302 => ?_
                            refine Under.fo1 ?_
                            refine Under.stP (x' := (⟨a0.Newest, v301⟩ : Api_Window_r1)) .box (.fld .id uf_Api_Window_r1_1) sz25_kRaw rfl rfl (rdRaw h302) rfl ?_
                            refine Under.nil ?_
                            refine Under.tN ?_
                            refine Under.phases rfl ?_
                            obtain ⟨y303, h304, h287⟩ := bsome h287
                            refine Under.grpA (L := L) [0, 1, 2, 3, 4, 5, 6, 7, 8] [[16], [121], [19], [123], [19], [125], [126], [124, 127], [128]] [.v (.raw (.pointer (some ⟨b110, 0 + 1, none⟩))), .v (.raw v301), .v (.ptr (kInt .i64) x292.Number), .v (.raw (.int .i64 x292.Number)), .v (.ptr (kSl (kArr 16 (kInt .u8))) x292.Tags), .v (.val (kSl (kArr 16 (kInt .u8))) x292.Tags), .al (fun v => .val kRaw v) (fun v305 => .own (kArr 16 (kInt .u8)) v305 43 y303) (fun v305 => .own (kArr 16 (kInt .u8)) v305 43 y303) none, .v1 6 (fun v305 => .val kApi_Epoch_r1 (⟨x292.Number, v305⟩ : Api_Epoch_r1)), .v1 6 (fun v305 => .val (kSl kApi_Epoch_r1) [(⟨x292.Number, v305⟩ : Api_Epoch_r1)])] [] [] (fun T : List Res => (.box kApi_Window_r1 b110 27 (⟨a0.Newest, v301⟩ : Api_Window_r1)) :: (.any (manyH kApi_Epoch_r1 (kArr 16 (kInt .u8)) mk_Api_Epoch tg_Api_Epoch 61 43 v301 z299)) :: (.box kApi_Window b1 27 (⟨0, []⟩ : Api_Window)) :: T) lf3 rfl (by kernel_rfl) (ItsOk.of rfl rfl) (by kernel_rfl) rfl rfl (fun F hF0 bs => ?_)
                            refine Aq.v (fun G T hG => ?_) ?_
                            · refine Under.ov (OpV.fdM fm27_1 rfl) rfl ?_
                              refine Under.fo2 ?_
                              refine Under.fo2 ?_
                              refine Under.fo2 ?_
                              exact Zq.done rfl
                            refine Aq.v (fun G T hG => ?_) ?_
                            · refine Under.ldP .box (.fld .id uf_Api_Window_r1_1) kt25_kRaw rfl rfl ?_
                              refine Under.rawR (t := 122) rfl ?_
                              refine Under.fo2 ?_
                              refine Under.fo2 ?_
                              refine Under.fo2 ?_
                              exact Zq.done rfl
                            refine Aq.v (fun G T hG => ?_) ?_
                            · refine Under.ov (OpV.fd fb61_0 rfl rfl) rfl ?_
                              refine Under.fo2 ?_
                              refine Under.fo2 ?_
                              refine Under.fo2 ?_
                              exact Zq.done rfl
                            refine Aq.v (fun G T hG => ?_) ?_
                            · refine Under.ov (OpV.ldI kt2 rfl) rfl ?_
                              refine Under.fo2 ?_
                              refine Under.fo2 ?_
                              refine Under.fo2 ?_
                              exact Zq.done rfl
                            refine Aq.v (fun G T hG => ?_) ?_
                            · refine Under.ov (OpV.fd fb61_1 rfl rfl) rfl ?_
                              refine Under.fo2 ?_
                              refine Under.fo2 ?_
                              refine Under.fo2 ?_
                              exact Zq.done rfl
                            refine Aq.v (fun G T hG => ?_) ?_
                            · refine Under.ov (OpV.ld kt36 rfl) rfl ?_
                              refine Under.fo2 ?_
                              refine Under.fo2 ?_
                              refine Under.fo2 ?_
                              exact Zq.done rfl
                            refine Aq.ow (fun G T hG => ?_) fun v305 hv305 => ?_
                            · refine Under.callX Try.call46 rfl rfl (f_slices_Clone_ro_ok h304 _) rfl ?_
                              rintro v305
                              exact Aq.owr
                            refine Aq.v1 (s1 := fun v305 => .val kApi_Epoch_r1 (⟨x292.Number, v305⟩ : Api_Epoch_r1)) hv305 (fun G T hG => ?_) ?_
                            · refine Under.ov (OpV.bst BT61_Api_Epoch_r1 (Bld.cons (x' := (⟨x292.Number, .slice none 0 0⟩ : Api_Epoch_r1)) rfl rfl rdI (by intro q hq; simp only [List.mem_cons, List.not_mem_nil, or_false] at hq; rcases hq with rfl <;> rfl) (Bld.cons (x' := (⟨x292.Number, v305⟩ : Api_Epoch_r1)) rfl rfl rdV ⟨rfl, (fun q hq => by simp at hq)⟩ (Bld.nil _)))) rfl ?_
                              refine Under.fo2 ?_
                              refine Under.fo2 ?_
                              refine Under.fo2 ?_
                              exact Zq.done rfl
                            refine Aq.v1 (s1 := fun v305 => .val (kSl kApi_Epoch_r1) [(⟨x292.Number, v305⟩ : Api_Epoch_r1)]) hv305 (fun G T hG => ?_) ?_
                            · refine Under.bsF (ys := [(⟨x292.Number, v305⟩ : Api_Epoch_r1)]) Try.underlying25 ET61_Api_Epoch_r1 (BldA.cons rfl rfl rdV (BldA.nil _)) rfl rfl ?_
                              refine Under.fo2 ?_
                              refine Under.fo2 ?_
                              refine Under.fo2 ?_
                              exact Zq.done rfl
                            refine Aq.nil ?_
                            refine Under.le hF0 ?_
                            obtain ⟨z306, h307, h287⟩ := bsome h287
                            refine Under.p1 9 rfl rfl ?_
                            refine Under.fo2 ?_
                            refine Under.manyPush (x := (⟨x292.Number, y303⟩ : Api_Epoch)) frR_Api_Epoch frT_Api_Epoch h307 Try.underlying25 (by kernel_rfl) AT61_Api_Epoch_r1 rfl rfl (.sl rdV) rfl fun v308 => ?_
                            refine Under.pn ?_
                            refine Under.p1 10 rfl rfl ?_
                            refine Under.ov (OpV.fdM fm27_1 rfl) rfl ?_
                            refine Under.pn ?_
                            refine Under.p1 11 rfl rfl ?_
                            refine Under.manyCell frR_Api_Epoch frT_Api_Epoch fun h309 => ?_
                            refine Under.fo1 ?_
                            refine Under.stP (x' := (⟨a0.Newest, v308⟩ : Api_Window_r1)) .box (.fld .id uf_Api_Window_r1_1) sz25_kRaw rfl rfl (rdRaw h309) rfl ?_
                            refine Under.pn ?_
                            refine Under.pdone rfl ?_
                            refine Under.bN ?_
                            refine Under.tN ?_
                            refine Under.region ?_
                            refine Under.ov (OpV.bin rfl rfl rfl) rfl ?_
                            refine Under.ov (OpV.move rfl) rfl ?_
                            refine Under.nil ?_
                            refine Under.fo1 ?_
                            refine Under.fo2 ?_
                            exact Under.next _ v308 h287 (sub_cons rfl (sub_cons rfl (sub_cons rfl (sub_cons rfl (sub_cons rfl (sub_cons rfl (sub_cons rfl (sub_cons rfl (sub_nil _))))))))) rfl
                          · refine Under.region ?_
                            refine Under.ov (OpV.move rfl) rfl ?_
                            refine Under.ov (OpV.fdM fm61_1 rfl) rfl ?_
                            refine Under.ldP .box (.fld .id uf_Api_Epoch_1) kt36_kSl_kArr_16_kInt_u8_ rfl rfl ?_
                            obtain ⟨z310, h311, h287⟩ := bsome h287
                            refine Under.fo1 ?_
                            refine Under.app h311 Try.underlying36 AT43 rfl rfl rdV rfl fun v312 => ?_
                            refine Under.ov (OpV.fdM fm61_1 rfl) rfl ?_
                            refine Under.frzO (t := 119) rfl ?_
                            refine Under.stP (x' := ({ x292 with Tags := z310 } : Api_Epoch)) .box (.fld .id uf_Api_Epoch_1) sz36_kSl_kArr_16_kInt_u8_ rfl rfl rdV rfl ?_
                            refine Under.nil ?_
                            refine Under.frz (t := 19) rfl ?_
                            refine Under.tN ?_
                            refine Under.phases rfl ?_
                            obtain ⟨y313, h314, h287⟩ := bsome h287
                            refine Under.grpA (L := L) [0, 1, 2, 3, 4, 5, 6, 7, 8] [[16], [121], [19], [123], [19], [125], [126], [124, 127], [128]] [.v (.raw (.pointer (some ⟨b110, 0 + 1, none⟩))), .v (.raw q617), .v (.ptr (kInt .i64) (({ x292 with Tags := z310 } : Api_Epoch).Number)), .v (.raw (.int .i64 (({ x292 with Tags := z310 } : Api_Epoch).Number))), .v (.ptr (kSl (kArr 16 (kInt .u8))) (({ x292 with Tags := z310 } : Api_Epoch).Tags)), .v (.val (kSl (kArr 16 (kInt .u8))) (({ x292 with Tags := z310 } : Api_Epoch).Tags)), .al (fun v => .val kRaw v) (fun v315 => .own (kArr 16 (kInt .u8)) v315 43 y313) (fun v315 => .own (kArr 16 (kInt .u8)) v315 43 y313) none, .v1 6 (fun v315 => .val kApi_Epoch_r1 (⟨({ x292 with Tags := z310 } : Api_Epoch).Number, v315⟩ : Api_Epoch_r1)), .v1 6 (fun v315 => .val (kSl kApi_Epoch_r1) [(⟨({ x292 with Tags := z310 } : Api_Epoch).Number, v315⟩ : Api_Epoch_r1)])] [] [] (fun T : List Res => (.box kApi_Window b1 27 (⟨0, []⟩ : Api_Window)) :: (.any (manyH kApi_Epoch_r1 (kArr 16 (kInt .u8)) mk_Api_Epoch tg_Api_Epoch 61 43 q617 x228)) :: (.box kApi_Window_r1 b110 27 (⟨a0.Newest, q617⟩ : Api_Window_r1)) :: T) lf3 rfl (by kernel_rfl) (ItsOk.of rfl rfl) (by kernel_rfl) rfl rfl (fun F hF0 bs => ?_)
                            refine Aq.v (fun G T hG => ?_) ?_
                            · refine Under.ov (OpV.fdM fm27_1 rfl) rfl ?_
                              refine Under.fo2 ?_
                              refine Under.fo2 ?_
                              refine Under.fo2 ?_
                              exact Zq.done rfl
                            refine Aq.v (fun G T hG => ?_) ?_
                            · refine Under.fo2 ?_
                              refine Under.ldP .box (.fld .id uf_Api_Window_r1_1) kt25_kRaw rfl rfl ?_
                              refine Under.rawR (t := 122) rfl ?_
                              refine Under.fo2 ?_
                              refine Under.fo2 ?_
                              exact Zq.done rfl
                            refine Aq.v (fun G T hG => ?_) ?_
                            · refine Under.ov (OpV.fd fb61_0 rfl rfl) rfl ?_
                              refine Under.fo2 ?_
                              refine Under.fo2 ?_
                              refine Under.fo2 ?_
                              exact Zq.done rfl
                            refine Aq.v (fun G T hG => ?_) ?_
                            · refine Under.ov (OpV.ldI kt2 rfl) rfl ?_
                              refine Under.fo2 ?_
                              refine Under.fo2 ?_
                              refine Under.fo2 ?_
                              exact Zq.done rfl
                            refine Aq.v (fun G T hG => ?_) ?_
                            · refine Under.ov (OpV.fd fb61_1 rfl rfl) rfl ?_
                              refine Under.fo2 ?_
                              refine Under.fo2 ?_
                              refine Under.fo2 ?_
                              exact Zq.done rfl
                            refine Aq.v (fun G T hG => ?_) ?_
                            · refine Under.ov (OpV.ld kt36 rfl) rfl ?_
                              refine Under.fo2 ?_
                              refine Under.fo2 ?_
                              refine Under.fo2 ?_
                              exact Zq.done rfl
                            refine Aq.ow (fun G T hG => ?_) fun v315 hv315 => ?_
                            · refine Under.callX Try.call46 rfl rfl (f_slices_Clone_ro_ok h314 _) rfl ?_
                              rintro v315
                              exact Aq.owr
                            refine Aq.v1 (s1 := fun v315 => .val kApi_Epoch_r1 (⟨({ x292 with Tags := z310 } : Api_Epoch).Number, v315⟩ : Api_Epoch_r1)) hv315 (fun G T hG => ?_) ?_
                            · refine Under.ov (OpV.bst BT61_Api_Epoch_r1 (Bld.cons (x' := (⟨({ x292 with Tags := z310 } : Api_Epoch).Number, .slice none 0 0⟩ : Api_Epoch_r1)) rfl rfl rdI (by intro q hq; simp only [List.mem_cons, List.not_mem_nil, or_false] at hq; rcases hq with rfl <;> rfl) (Bld.cons (x' := (⟨({ x292 with Tags := z310 } : Api_Epoch).Number, v315⟩ : Api_Epoch_r1)) rfl rfl rdV ⟨rfl, (fun q hq => by simp at hq)⟩ (Bld.nil _)))) rfl ?_
                              refine Under.fo2 ?_
                              refine Under.fo2 ?_
                              refine Under.fo2 ?_
                              exact Zq.done rfl
                            refine Aq.v1 (s1 := fun v315 => .val (kSl kApi_Epoch_r1) [(⟨({ x292 with Tags := z310 } : Api_Epoch).Number, v315⟩ : Api_Epoch_r1)]) hv315 (fun G T hG => ?_) ?_
                            · refine Under.bsF (ys := [(⟨({ x292 with Tags := z310 } : Api_Epoch).Number, v315⟩ : Api_Epoch_r1)]) Try.underlying25 ET61_Api_Epoch_r1 (BldA.cons rfl rfl rdV (BldA.nil _)) rfl rfl ?_
                              refine Under.fo2 ?_
                              refine Under.fo2 ?_
                              refine Under.fo2 ?_
                              exact Zq.done rfl
                            refine Aq.nil ?_
                            refine Under.le hF0 ?_
                            obtain ⟨z316, h317, h287⟩ := bsome h287
                            refine Under.p1 9 rfl rfl ?_
                            refine Under.fo2 ?_
                            refine Under.manyPush (x := (⟨({ x292 with Tags := z310 } : Api_Epoch).Number, y313⟩ : Api_Epoch)) frR_Api_Epoch frT_Api_Epoch h317 Try.underlying25 (by kernel_rfl) AT61_Api_Epoch_r1 rfl rfl (.sl rdV) rfl fun v318 => ?_
                            refine Under.pn ?_
                            refine Under.p1 10 rfl rfl ?_
                            refine Under.ov (OpV.fdM fm27_1 rfl) rfl ?_
                            refine Under.pn ?_
                            refine Under.p1 11 rfl rfl ?_
                            refine Under.manyCell frR_Api_Epoch frT_Api_Epoch fun h319 => ?_
                            refine Under.fo2 ?_
                            refine Under.stP (x' := (⟨a0.Newest, v318⟩ : Api_Window_r1)) .box (.fld .id uf_Api_Window_r1_1) sz25_kRaw rfl rfl (rdRaw h319) rfl ?_
                            refine Under.pn ?_
                            refine Under.pdone rfl ?_
                            refine Under.bN ?_
                            refine Under.tN ?_
                            refine Under.region ?_
                            refine Under.ov (OpV.bin rfl rfl rfl) rfl ?_
                            refine Under.ov (OpV.move rfl) rfl ?_
                            refine Under.nil ?_
                            refine Under.fo1 ?_
                            refine Under.fo2 ?_
                            exact Under.next _ v318 h287 (sub_cons rfl (sub_cons rfl (sub_cons rfl (sub_cons rfl (sub_cons rfl (sub_cons rfl (sub_cons rfl (sub_cons rfl (sub_nil _))))))))) rfl
                        · refine Under.frz (t := 19) rfl ?_
                          refine Under.code_skip ?_
                          refine Under.tN ?_
                          refine Under.phases rfl ?_
                          obtain ⟨y320, h321, h287⟩ := bsome h287
                          refine Under.grpA (L := L) [0, 1, 2, 3, 4, 5, 6, 7, 8] [[16], [121], [19], [123], [19], [125], [126], [124, 127], [128]] [.v (.raw (.pointer (some ⟨b110, 0 + 1, none⟩))), .v (.raw q617), .v (.ptr (kInt .i64) x292.Number), .v (.raw (.int .i64 x292.Number)), .v (.ptr (kSl (kArr 16 (kInt .u8))) x292.Tags), .v (.val (kSl (kArr 16 (kInt .u8))) x292.Tags), .al (fun v => .val kRaw v) (fun v322 => .own (kArr 16 (kInt .u8)) v322 43 y320) (fun v322 => .own (kArr 16 (kInt .u8)) v322 43 y320) none, .v1 6 (fun v322 => .val kApi_Epoch_r1 (⟨x292.Number, v322⟩ : Api_Epoch_r1)), .v1 6 (fun v322 => .val (kSl kApi_Epoch_r1) [(⟨x292.Number, v322⟩ : Api_Epoch_r1)])] [] [] (fun T : List Res => (.own (kArr 16 (kInt .u8)) q889 43 x888) :: (.box kApi_Window b1 27 (⟨0, []⟩ : Api_Window)) :: (.any (manyH kApi_Epoch_r1 (kArr 16 (kInt .u8)) mk_Api_Epoch tg_Api_Epoch 61 43 q617 x228)) :: (.box kApi_Window_r1 b110 27 (⟨a0.Newest, q617⟩ : Api_Window_r1)) :: T) lf4 rfl (by kernel_rfl) (ItsOk.of rfl rfl) (by kernel_rfl) rfl rfl (fun F hF0 bs => ?_)
                          refine Aq.v (fun G T hG => ?_) ?_
                          · refine Under.ov (OpV.fdM fm27_1 rfl) rfl ?_
                            refine Under.fo3 ?_
                            refine Under.fo3 ?_
                            refine Under.fo3 ?_
                            refine Under.fo3 ?_
                            exact Zq.done rfl
                          refine Aq.v (fun G T hG => ?_) ?_
                          · refine Under.fo3 ?_
                            refine Under.ldP .box (.fld .id uf_Api_Window_r1_1) kt25_kRaw rfl rfl ?_
                            refine Under.rawR (t := 122) rfl ?_
                            refine Under.fo3 ?_
                            refine Under.fo3 ?_
                            refine Under.fo3 ?_
                            exact Zq.done rfl
                          refine Aq.v (fun G T hG => ?_) ?_
                          · refine Under.ov (OpV.fd fb61_0 rfl rfl) rfl ?_
                            refine Under.fo3 ?_
                            refine Under.fo3 ?_
                            refine Under.fo3 ?_
                            refine Under.fo3 ?_
                            exact Zq.done rfl
                          refine Aq.v (fun G T hG => ?_) ?_
                          · refine Under.ov (OpV.ldI kt2 rfl) rfl ?_
                            refine Under.fo3 ?_
                            refine Under.fo3 ?_
                            refine Under.fo3 ?_
                            refine Under.fo3 ?_
                            exact Zq.done rfl
                          refine Aq.v (fun G T hG => ?_) ?_
                          · refine Under.ov (OpV.fd fb61_1 rfl rfl) rfl ?_
                            refine Under.fo3 ?_
                            refine Under.fo3 ?_
                            refine Under.fo3 ?_
                            refine Under.fo3 ?_
                            exact Zq.done rfl
                          refine Aq.v (fun G T hG => ?_) ?_
                          · refine Under.ov (OpV.ld kt36 rfl) rfl ?_
                            refine Under.fo3 ?_
                            refine Under.fo3 ?_
                            refine Under.fo3 ?_
                            refine Under.fo3 ?_
                            exact Zq.done rfl
                          refine Aq.ow (fun G T hG => ?_) fun v322 hv322 => ?_
                          · refine Under.callX Try.call46 rfl rfl (f_slices_Clone_ro_ok h321 _) rfl ?_
                            rintro v322
                            exact Aq.owr
                          refine Aq.v1 (s1 := fun v322 => .val kApi_Epoch_r1 (⟨x292.Number, v322⟩ : Api_Epoch_r1)) hv322 (fun G T hG => ?_) ?_
                          · refine Under.ov (OpV.bst BT61_Api_Epoch_r1 (Bld.cons (x' := (⟨x292.Number, .slice none 0 0⟩ : Api_Epoch_r1)) rfl rfl rdI (by intro q hq; simp only [List.mem_cons, List.not_mem_nil, or_false] at hq; rcases hq with rfl <;> rfl) (Bld.cons (x' := (⟨x292.Number, v322⟩ : Api_Epoch_r1)) rfl rfl rdV ⟨rfl, (fun q hq => by simp at hq)⟩ (Bld.nil _)))) rfl ?_
                            refine Under.fo3 ?_
                            refine Under.fo3 ?_
                            refine Under.fo3 ?_
                            refine Under.fo3 ?_
                            exact Zq.done rfl
                          refine Aq.v1 (s1 := fun v322 => .val (kSl kApi_Epoch_r1) [(⟨x292.Number, v322⟩ : Api_Epoch_r1)]) hv322 (fun G T hG => ?_) ?_
                          · refine Under.bsF (ys := [(⟨x292.Number, v322⟩ : Api_Epoch_r1)]) Try.underlying25 ET61_Api_Epoch_r1 (BldA.cons rfl rfl rdV (BldA.nil _)) rfl rfl ?_
                            refine Under.fo3 ?_
                            refine Under.fo3 ?_
                            refine Under.fo3 ?_
                            refine Under.fo3 ?_
                            exact Zq.done rfl
                          refine Aq.nil ?_
                          refine Under.le hF0 ?_
                          obtain ⟨z323, h324, h287⟩ := bsome h287
                          refine Under.p1 9 rfl rfl ?_
                          refine Under.fo3 ?_
                          refine Under.manyPush (x := (⟨x292.Number, y320⟩ : Api_Epoch)) frR_Api_Epoch frT_Api_Epoch h324 Try.underlying25 (by kernel_rfl) AT61_Api_Epoch_r1 rfl rfl (.sl rdV) rfl fun v325 => ?_
                          refine Under.pn ?_
                          refine Under.p1 10 rfl rfl ?_
                          refine Under.ov (OpV.fdM fm27_1 rfl) rfl ?_
                          refine Under.pn ?_
                          refine Under.p1 11 rfl rfl ?_
                          refine Under.manyCell frR_Api_Epoch frT_Api_Epoch fun h326 => ?_
                          refine Under.fo3 ?_
                          refine Under.stP (x' := (⟨a0.Newest, v325⟩ : Api_Window_r1)) .box (.fld .id uf_Api_Window_r1_1) sz25_kRaw rfl rfl (rdRaw h326) rfl ?_
                          refine Under.pn ?_
                          refine Under.pdone rfl ?_
                          refine Under.bN ?_
                          refine Under.tN ?_
                          refine Under.region ?_
                          refine Under.ov (OpV.bin rfl rfl rfl) rfl ?_
                          refine Under.ov (OpV.move rfl) rfl ?_
                          refine Under.nil ?_
                          refine Under.fo1 ?_
                          refine Under.fo3 ?_
                          refine Under.fo3 ?_
                          exact Under.next _ v325 h287 (sub_cons rfl (sub_cons rfl (sub_cons rfl (sub_cons rfl (sub_cons rfl (sub_cons rfl (sub_cons rfl (sub_cons rfl (sub_nil _))))))))) rfl
                      · refine Under.exit ?_
                        refine Under.tE ?_
                        have e327 := done_eq h287 d288
                        subst e327
                        try dsimp only [cond_true, cond_false] at hF
                        refine Under.tE ?_
                        refine Under.bH ?_
                        refine Under.tN ?_
                        obtain ⟨r335, h336, hF⟩ := bsome hF
                        refine Under.seq ?_
                        refine Under.after (fun X => ∀ (x334 : List Api_Epoch) (v333 : Value), r335 = x334 → Under F0 155 [(8, .raw (.pointer (some ⟨b1, 0, none⟩))), (16, .raw (.pointer (some ⟨b110, 0, none⟩)))] ((.box kApi_Window b1 27 (⟨0, []⟩ : Api_Window)) :: (.any (manyH kApi_Epoch_r1 (kArr 16 (kInt .u8)) mk_Api_Epoch tg_Api_Epoch 61 43 v333 x334)) :: (.box kApi_Window_r1 b110 27 (⟨a0.Newest, v333⟩ : Api_Window_r1)) :: L) X) ?_ ?_
                        · intro x334 v333 h466
                          replace h466 := h466.symm
                          subst h466
                          obtain ⟨r396, h397, hF⟩ := bsome hF
                          refine Under.seq ?_
                          refine Under.after (fun X => ∀ (x395 : Api_Window), r396 = x395 → Under F0 155 [(8, .raw (.pointer (some ⟨b1, 0, none⟩))), (16, .ptr kApi_Window x395)] ((.box kApi_Window b1 27 (⟨0, []⟩ : Api_Window)) :: L) X) ?_ ?_
                          · intro x395 h459
                            replace h459 := h459.symm
                            subst h459
                            refine Under.seq ?_
                            refine Under.region ?_
                            refine Under.ov (OpV.ld kt27 rfl) rfl ?_
                            refine Under.stP (x' := x395) .box .id sz27_kApi_Window rfl rfl rdV rfl ?_
                            refine Under.ov (OpV.asg rfl) rfl ?_
                            refine Under.nil ?_
                            refine Under.frz (t := 8) rfl ?_
                            refine Under.tN ?_
                            refine Under.retc ?_
                            have e399 := Option.some.inj hF
                            subst e399
                            exact Under.rets Try.results26 (.ce rfl kt27 (.tm rfl .nil)) rfl rfl
                          · intro K k398
                            refine Under.seq ?_
                            refine Under.region ?_
                            refine Under.ov (OpV.fdM fm27_1 rfl) rfl ?_
                            refine Under.fo2 ?_
                            refine Under.ldP .box (.fld .id uf_Api_Window_r1_1) kt25_kRaw rfl rfl ?_
                            refine Under.rawR (t := 144) rfl ?_
                            refine Under.fo2 ?_
                            refine Under.lenMany frR_Api_Epoch frT_Api_Epoch Try.underlying25 rfl rfl ?_
                            refine Under.ov (OpV.move rfl) rfl ?_
                            refine Under.nil ?_
                            refine Under.tN ?_
                            refine Under.block ?_
                            obtain ⟨r440, h441, h397⟩ := bsome h397
                            refine Under.fo1 ?_
                            refine Under.fo2 ?_
                            refine Under.fo2 ?_
                            refine Under.loop (S := ((List Api_Epoch) × Int)) (C := Unit) () (fun (x456 : ((List Api_Epoch) × Int)) (q457 : Unit) => [(8, .raw (.pointer (some ⟨b1, 0, none⟩))), (16, .raw (.pointer (some ⟨b110, 0, none⟩))), (144, .raw v333), (145, .raw (.int .i64 (x334.length : Int))), (146, .raw (.int .i64 x456.2))]) (fun (x456 : ((List Api_Epoch) × Int)) (q457 : Unit) => (.any (manyH kApi_Epoch_r1 (kArr 16 (kInt .u8)) mk_Api_Epoch tg_Api_Epoch 61 43 v333 x456.1)) :: (.box kApi_Window b1 27 (⟨0, []⟩ : Api_Window)) :: (.box kApi_Window_r1 b110 27 (⟨a0.Newest, v333⟩ : Api_Window_r1)) :: L) h441 (sub_cons rfl (sub_cons rfl (sub_cons rfl (sub_cons rfl (sub_cons rfl (sub_nil _)))))) rfl (fun x456 q457 o442 h438 d439 => ?_)
                            obtain ⟨x424, x425⟩ := x456
                            dsimp only at h438 ⊢
                            refine Under.seq ?_
                            refine Under.region ?_
                            refine Under.ov (OpV.bin rfl rfl rfl) rfl ?_
                            refine Under.nil ?_
                            refine Under.tN ?_
                            refine Under.seq ?_
                            refine Under.ite h438 rfl (fun h438 => ?_) (fun h438 => ?_)
                            · refine Under.code_skip ?_
                              refine Under.tN ?_
                              refine Under.seq ?_
                              refine Under.block ?_
                              refine Under.seq ?_
                              refine Under.region ?_
                              obtain ⟨x443, h444, h438⟩ := bsome h438
                              refine Under.manyTake frR_Api_Epoch frT_Api_Epoch h444 fun v445 x446 l447 h448 h449 h450 => ?_
                              refine Under.ov (OpV.ixO h449 Try.underlying25 sz61_kApi_Epoch_r1 rfl rfl) rfl ?_
                              refine Under.ldP (.own h449) (.ix .id h449) kt61_kApi_Epoch_r1 rfl rfl ?_
                              refine Under.al ZT61_Api_Epoch_r1 rfl fun b451 => ?_
                              refine Under.stP (x' := (⟨x443.Number, v445⟩ : Api_Epoch_r1)) .box .id sz61_kApi_Epoch_r1 rfl rfl rdV rfl ?_
                              refine Under.nil ?_
                              refine Under.tN ?_
                              refine Under.region ?_
                              refine Under.ov (OpV.fdM fm61_1 rfl) rfl ?_
                              refine Under.ldP .box (.fld .id uf_Api_Epoch_r1_1) kt36_kRaw rfl rfl ?_
                              refine Under.rawR (t := 151) rfl ?_
                              obtain ⟨y452, h453, h438⟩ := bsome h438
                              refine Under.fo2 ?_
                              refine Under.call Try.call47 rfl rfl (sortTags_ok h453 _) rfl ?_
                              refine Under.nil ?_
                              refine Under.fo1 ?_
                              refine Under.dropr ?_
                              refine Under.fo1 ?_
                              refine Under.back (fun F w h => h450 ({ x443 with Tags := y452 } : Api_Epoch) rfl F w _ h) ?_
                              refine Under.bN ?_
                              refine Under.tN ?_
                              refine Under.region ?_
                              refine Under.ov (OpV.bin rfl rfl rfl) rfl ?_
                              refine Under.ov (OpV.move rfl) rfl ?_
                              refine Under.nil ?_
                              refine Under.fo2 ?_
                              refine Under.fo2 ?_
                              refine Under.fo2 ?_
                              exact Under.next _ () h438 (sub_cons rfl (sub_cons rfl (sub_cons rfl (sub_cons rfl (sub_cons rfl (sub_nil _)))))) rfl
                            · refine Under.manyPlain (KB := kApi_Epoch) frR_Api_Epoch frT_Api_Epoch rfl cvm_Api_Epoch ?_
                              refine Under.fo2 ?_
                              refine Under.fo1 ?_
                              refine Under.frzBO (fs := kApi_WindowF) (⟨a0.Newest, x424⟩ : Api_Window) (fun F hv => ⟨fun _ h => h, cv_raw hv, trivial⟩) ?_
                              refine Under.frz (t := 16) rfl ?_
                              refine Under.exit ?_
                              refine Under.tE ?_
                              have e454 := done_eq h438 d439
                              subst e454
                              refine Under.tE ?_
                              refine Under.bH ?_
                              refine Under.tN ?_
                              exact Under.weak (k398 _ (Option.some.inj h397).symm) (sub_cons rfl (sub_cons rfl (sub_nil _)))
                        · intro K k337
                          refine Under.seq ?_
                          refine Under.region ?_
                          refine Under.ov (OpV.move rfl) rfl ?_
                          refine Under.ov (OpV.not rfl) rfl ?_
                          refine Under.nil ?_
                          refine Under.tN ?_
                          refine Under.condT rfl ?_
                          refine Under.region ?_
                          refine Under.ov (OpV.fdM fm27_1 rfl) rfl ?_
                          refine Under.fo3 ?_
                          refine Under.ldP .box (.fld .id uf_Api_Window_r1_1) kt25_kRaw rfl rfl ?_
                          refine Under.rawR (t := 136) rfl ?_
                          refine Under.ov (OpV.move rfl) rfl ?_
                          refine Under.ov (OpV.move rfl) rfl ?_
                          refine Under.fo1 ?_
                          refine Under.ownCell fun h460 => ?_
                          refine Under.ov (OpV.bst BT61_Api_Epoch_r1 (Bld.cons (x' := (⟨a1, .slice none 0 0⟩ : Api_Epoch_r1)) rfl rfl rdI (by intro q hq; simp only [List.mem_cons, List.not_mem_nil, or_false] at hq; rcases hq with rfl <;> rfl) (Bld.cons (x' := (⟨a1, q889⟩ : Api_Epoch_r1)) rfl rfl (rdRaw h460) ⟨rfl, (fun q hq => by simp at hq)⟩ (Bld.nil _)))) rfl ?_
                          refine Under.bsF (ys := [(⟨a1, q889⟩ : Api_Epoch_r1)]) Try.underlying25 ET61_Api_Epoch_r1 (BldA.cons rfl rfl rdV (BldA.nil _)) rfl rfl ?_
                          obtain ⟨z461, h462, h336⟩ := bsome h336
                          refine Under.fo3 ?_
                          refine Under.manyPush (x := (⟨a1, x888⟩ : Api_Epoch)) frR_Api_Epoch frT_Api_Epoch h462 Try.underlying25 (by kernel_rfl) AT61_Api_Epoch_r1 rfl rfl (.sl rdV) rfl fun v463 => ?_
                          refine Under.ov (OpV.fdM fm27_1 rfl) rfl ?_
                          refine Under.manyCell frR_Api_Epoch frT_Api_Epoch fun h464 => ?_
                          refine Under.fo1 ?_
                          refine Under.stP (x' := (⟨a0.Newest, v463⟩ : Api_Window_r1)) .box (.fld .id uf_Api_Window_r1_1) sz25_kRaw rfl rfl (rdRaw h464) rfl ?_
                          refine Under.nil ?_
                          refine Under.tN ?_
                          refine Under.fo1 ?_
                          refine Under.fo2 ?_
                          exact Under.weak (k337 _ _ (Option.some.inj h336).symm) (sub_cons rfl (sub_cons rfl (sub_nil _)))
                    · try dsimp only [cond_true, cond_false] at h287
                      try dsimp only [cond_true, cond_false]
                      refine Under.seq ?_
                      refine Under.region ?_
                      refine Under.ov (OpV.bin rfl rfl rfl) rfl ?_
                      refine Under.nil ?_
                      refine Under.tN ?_
                      refine Under.seq ?_
                      refine Under.ite h287 rfl (fun h287 => ?_) (fun h287 => ?_)
                      · refine Under.code_skip ?_
                        refine Under.tN ?_
                        refine Under.seq ?_
                        refine Under.block ?_
                        refine Under.seq ?_
                        refine Under.region ?_
                        obtain ⟨x467, h468, h287⟩ := bsome h287
                        refine Under.ov (OpV.ixS h468 Try.underlying25 sz61 rfl rdV rfl) rfl ?_
                        refine Under.ov (OpV.ld kt61 rfl) rfl ?_
                        refine Under.al ZT61 rfl fun b469 => ?_
                        refine Under.stP (x' := x467) .box .id sz61_kApi_Epoch rfl rfl rdV rfl ?_
                        refine Under.nil ?_
                        refine Under.tN ?_
                        obtain ⟨r473, h474, h287⟩ := bsome h287
                        refine Under.seq ?_
                        refine Under.after (fun X => ∀ (_ : Unit), r473 = () → Under F0 155 [(1, .raw (.int .i64 a1)), (8, .raw (.pointer (some ⟨b1, 0, none⟩))), (14, .raw q889), (16, .raw (.pointer (some ⟨b110, 0, none⟩))), (17, .raw (.bool true)), (19, .ptr kApi_Epoch x467), (90, .val (kSl kApi_Epoch) a0.Epochs), (91, .raw (.int .i64 (a0.Epochs.length : Int))), (92, .raw (.int .i64 x226))] ((.box kApi_Window b1 27 (⟨0, []⟩ : Api_Window)) :: (.any (manyH kApi_Epoch_r1 (kArr 16 (kInt .u8)) mk_Api_Epoch tg_Api_Epoch 61 43 q617 x228)) :: (.box kApi_Window_r1 b110 27 (⟨a0.Newest, q617⟩ : Api_Window_r1)) :: L) X) ?_ ?_
                        · intro _ h487
                          replace h487 := h487.symm
                          subst h487
                          refine Under.phases rfl ?_
                          obtain ⟨y476, h477, h287⟩ := bsome h287
                          refine Under.grpA (L := L) [0, 1, 2, 3, 4, 5, 6, 7, 8] [[16], [121], [19], [123], [19], [125], [126], [124, 127], [128]] [.v (.raw (.pointer (some ⟨b110, 0 + 1, none⟩))), .v (.raw q617), .v (.ptr (kInt .i64) x467.Number), .v (.raw (.int .i64 x467.Number)), .v (.ptr (kSl (kArr 16 (kInt .u8))) x467.Tags), .v (.val (kSl (kArr 16 (kInt .u8))) x467.Tags), .al (fun v => .val kRaw v) (fun v478 => .own (kArr 16 (kInt .u8)) v478 43 y476) (fun v478 => .own (kArr 16 (kInt .u8)) v478 43 y476) none, .v1 6 (fun v478 => .val kApi_Epoch_r1 (⟨x467.Number, v478⟩ : Api_Epoch_r1)), .v1 6 (fun v478 => .val (kSl kApi_Epoch_r1) [(⟨x467.Number, v478⟩ : Api_Epoch_r1)])] [] [] (fun T : List Res => (.box kApi_Window b1 27 (⟨0, []⟩ : Api_Window)) :: (.any (manyH kApi_Epoch_r1 (kArr 16 (kInt .u8)) mk_Api_Epoch tg_Api_Epoch 61 43 q617 x228)) :: (.box kApi_Window_r1 b110 27 (⟨a0.Newest, q617⟩ : Api_Window_r1)) :: T) lf3 rfl (by kernel_rfl) (ItsOk.of rfl rfl) (by kernel_rfl) rfl rfl (fun F hF0 bs => ?_)
                          refine Aq.v (fun G T hG => ?_) ?_
                          · refine Under.ov (OpV.fdM fm27_1 rfl) rfl ?_
                            refine Under.fo2 ?_
                            refine Under.fo2 ?_
                            refine Under.fo2 ?_
                            exact Zq.done rfl
                          refine Aq.v (fun G T hG => ?_) ?_
                          · refine Under.fo2 ?_
                            refine Under.ldP .box (.fld .id uf_Api_Window_r1_1) kt25_kRaw rfl rfl ?_
                            refine Under.rawR (t := 122) rfl ?_
                            refine Under.fo2 ?_
                            refine Under.fo2 ?_
                            exact Zq.done rfl
                          refine Aq.v (fun G T hG => ?_) ?_
                          · refine Under.ov (OpV.fd fb61_0 rfl rfl) rfl ?_
                            refine Under.fo2 ?_
                            refine Under.fo2 ?_
                            refine Under.fo2 ?_
                            exact Zq.done rfl
                          refine Aq.v (fun G T hG => ?_) ?_
                          · refine Under.ov (OpV.ldI kt2 rfl) rfl ?_
                            refine Under.fo2 ?_
                            refine Under.fo2 ?_
                            refine Under.fo2 ?_
                            exact Zq.done rfl
                          refine Aq.v (fun G T hG => ?_) ?_
                          · refine Under.ov (OpV.fd fb61_1 rfl rfl) rfl ?_
                            refine Under.fo2 ?_
                            refine Under.fo2 ?_
                            refine Under.fo2 ?_
                            exact Zq.done rfl
                          refine Aq.v (fun G T hG => ?_) ?_
                          · refine Under.ov (OpV.ld kt36 rfl) rfl ?_
                            refine Under.fo2 ?_
                            refine Under.fo2 ?_
                            refine Under.fo2 ?_
                            exact Zq.done rfl
                          refine Aq.ow (fun G T hG => ?_) fun v478 hv478 => ?_
                          · refine Under.callX Try.call46 rfl rfl (f_slices_Clone_ro_ok h477 _) rfl ?_
                            rintro v478
                            exact Aq.owr
                          refine Aq.v1 (s1 := fun v478 => .val kApi_Epoch_r1 (⟨x467.Number, v478⟩ : Api_Epoch_r1)) hv478 (fun G T hG => ?_) ?_
                          · refine Under.ov (OpV.bst BT61_Api_Epoch_r1 (Bld.cons (x' := (⟨x467.Number, .slice none 0 0⟩ : Api_Epoch_r1)) rfl rfl rdI (by intro q hq; simp only [List.mem_cons, List.not_mem_nil, or_false] at hq; rcases hq with rfl <;> rfl) (Bld.cons (x' := (⟨x467.Number, v478⟩ : Api_Epoch_r1)) rfl rfl rdV ⟨rfl, (fun q hq => by simp at hq)⟩ (Bld.nil _)))) rfl ?_
                            refine Under.fo2 ?_
                            refine Under.fo2 ?_
                            refine Under.fo2 ?_
                            exact Zq.done rfl
                          refine Aq.v1 (s1 := fun v478 => .val (kSl kApi_Epoch_r1) [(⟨x467.Number, v478⟩ : Api_Epoch_r1)]) hv478 (fun G T hG => ?_) ?_
                          · refine Under.bsF (ys := [(⟨x467.Number, v478⟩ : Api_Epoch_r1)]) Try.underlying25 ET61_Api_Epoch_r1 (BldA.cons rfl rfl rdV (BldA.nil _)) rfl rfl ?_
                            refine Under.fo2 ?_
                            refine Under.fo2 ?_
                            refine Under.fo2 ?_
                            exact Zq.done rfl
                          refine Aq.nil ?_
                          refine Under.le hF0 ?_
                          obtain ⟨z479, h480, h287⟩ := bsome h287
                          refine Under.p1 9 rfl rfl ?_
                          refine Under.fo2 ?_
                          refine Under.manyPush (x := (⟨x467.Number, y476⟩ : Api_Epoch)) frR_Api_Epoch frT_Api_Epoch h480 Try.underlying25 (by kernel_rfl) AT61_Api_Epoch_r1 rfl rfl (.sl rdV) rfl fun v481 => ?_
                          refine Under.pn ?_
                          refine Under.p1 10 rfl rfl ?_
                          refine Under.ov (OpV.fdM fm27_1 rfl) rfl ?_
                          refine Under.pn ?_
                          refine Under.p1 11 rfl rfl ?_
                          refine Under.manyCell frR_Api_Epoch frT_Api_Epoch fun h482 => ?_
                          refine Under.fo2 ?_
                          refine Under.stP (x' := (⟨a0.Newest, v481⟩ : Api_Window_r1)) .box (.fld .id uf_Api_Window_r1_1) sz25_kRaw rfl rfl (rdRaw h482) rfl ?_
                          refine Under.pn ?_
                          refine Under.pdone rfl ?_
                          refine Under.bN ?_
                          refine Under.tN ?_
                          refine Under.region ?_
                          refine Under.ov (OpV.bin rfl rfl rfl) rfl ?_
                          refine Under.ov (OpV.move rfl) rfl ?_
                          refine Under.nil ?_
                          refine Under.fo1 ?_
                          refine Under.fo2 ?_
                          exact Under.next _ v481 h287 (sub_cons rfl (sub_cons rfl (sub_cons rfl (sub_cons rfl (sub_cons rfl (sub_cons rfl (sub_cons rfl (sub_cons rfl (sub_nil _))))))))) rfl
                        · intro K k475
                          refine Under.seq ?_
                          refine Under.region ?_
                          refine Under.ov (OpV.move rfl) rfl ?_
                          refine Under.ov (OpV.not rfl) rfl ?_
                          refine Under.ov (OpV.move rfl) rfl ?_
                          refine Under.skc (rfl : (false : Bool) = false) rfl rfl rfl ?_
                          refine Under.skc (rfl : (false : Bool) = false) rfl rfl rfl ?_
                          refine Under.skc (rfl : (false : Bool) = false) rfl rfl rfl ?_
                          refine Under.skc (rfl : (false : Bool) = false) rfl rfl rfl ?_
                          refine Under.ov (OpV.pick rfl (fun e => absurd (e.symm.trans (rfl : (false : Bool) = false)) (by decide)) (fun e => rfl)) rfl ?_
                          refine Under.nil ?_
                          refine Under.tN ?_
                          refine Under.condF rfl ?_
                          refine Under.frz (t := 19) rfl ?_
                          refine Under.code_skip ?_
                          refine Under.tN ?_
                          refine Under.fo2 ?_
                          refine Under.fo2 ?_
                          refine Under.fo2 ?_
                          exact Under.weak (k475 () (Option.some.inj h474).symm) (sub_cons rfl (sub_cons rfl (sub_cons rfl (sub_cons rfl (sub_cons rfl (sub_cons rfl (sub_cons rfl (sub_cons rfl (sub_cons rfl (sub_nil _))))))))))
                      · refine Under.exit ?_
                        refine Under.tE ?_
                        have e488 := done_eq h287 d288
                        subst e488
                        try dsimp only [cond_true, cond_false] at hF
                        refine Under.tE ?_
                        refine Under.bH ?_
                        refine Under.tN ?_
                        obtain ⟨r489, h490, hF⟩ := bsome hF
                        refine Under.seq ?_
                        refine Under.after (fun X => ∀ (_ : Unit), r489 = () → Under F0 155 [(8, .raw (.pointer (some ⟨b1, 0, none⟩))), (16, .raw (.pointer (some ⟨b110, 0, none⟩)))] ((.box kApi_Window b1 27 (⟨0, []⟩ : Api_Window)) :: (.any (manyH kApi_Epoch_r1 (kArr 16 (kInt .u8)) mk_Api_Epoch tg_Api_Epoch 61 43 q617 x228)) :: (.box kApi_Window_r1 b110 27 (⟨a0.Newest, q617⟩ : Api_Window_r1)) :: L) X) ?_ ?_
                        · intro _ h615
                          replace h615 := h615.symm
                          subst h615
                          obtain ⟨r550, h551, hF⟩ := bsome hF
                          refine Under.seq ?_
                          refine Under.after (fun X => ∀ (x549 : Api_Window), r550 = x549 → Under F0 155 [(8, .raw (.pointer (some ⟨b1, 0, none⟩))), (16, .ptr kApi_Window x549)] ((.box kApi_Window b1 27 (⟨0, []⟩ : Api_Window)) :: L) X) ?_ ?_
                          · intro x549 h613
                            replace h613 := h613.symm
                            subst h613
                            refine Under.seq ?_
                            refine Under.region ?_
                            refine Under.ov (OpV.ld kt27 rfl) rfl ?_
                            refine Under.stP (x' := x549) .box .id sz27_kApi_Window rfl rfl rdV rfl ?_
                            refine Under.ov (OpV.asg rfl) rfl ?_
                            refine Under.nil ?_
                            refine Under.frz (t := 8) rfl ?_
                            refine Under.tN ?_
                            refine Under.retc ?_
                            have e553 := Option.some.inj hF
                            subst e553
                            exact Under.rets Try.results26 (.ce rfl kt27 (.tm rfl .nil)) rfl rfl
                          · intro K k552
                            refine Under.seq ?_
                            refine Under.region ?_
                            refine Under.ov (OpV.fdM fm27_1 rfl) rfl ?_
                            refine Under.fo2 ?_
                            refine Under.ldP .box (.fld .id uf_Api_Window_r1_1) kt25_kRaw rfl rfl ?_
                            refine Under.rawR (t := 144) rfl ?_
                            refine Under.fo2 ?_
                            refine Under.lenMany frR_Api_Epoch frT_Api_Epoch Try.underlying25 rfl rfl ?_
                            refine Under.ov (OpV.move rfl) rfl ?_
                            refine Under.nil ?_
                            refine Under.tN ?_
                            refine Under.block ?_
                            obtain ⟨r594, h595, h551⟩ := bsome h551
                            refine Under.fo1 ?_
                            refine Under.fo2 ?_
                            refine Under.fo2 ?_
                            refine Under.loop (S := ((List Api_Epoch) × Int)) (C := Unit) () (fun (x610 : ((List Api_Epoch) × Int)) (q611 : Unit) => [(8, .raw (.pointer (some ⟨b1, 0, none⟩))), (16, .raw (.pointer (some ⟨b110, 0, none⟩))), (144, .raw q617), (145, .raw (.int .i64 (x228.length : Int))), (146, .raw (.int .i64 x610.2))]) (fun (x610 : ((List Api_Epoch) × Int)) (q611 : Unit) => (.any (manyH kApi_Epoch_r1 (kArr 16 (kInt .u8)) mk_Api_Epoch tg_Api_Epoch 61 43 q617 x610.1)) :: (.box kApi_Window b1 27 (⟨0, []⟩ : Api_Window)) :: (.box kApi_Window_r1 b110 27 (⟨a0.Newest, q617⟩ : Api_Window_r1)) :: L) h595 (sub_cons rfl (sub_cons rfl (sub_cons rfl (sub_cons rfl (sub_cons rfl (sub_nil _)))))) rfl (fun x610 q611 o596 h592 d593 => ?_)
                            obtain ⟨x578, x579⟩ := x610
                            dsimp only at h592 ⊢
                            refine Under.seq ?_
                            refine Under.region ?_
                            refine Under.ov (OpV.bin rfl rfl rfl) rfl ?_
                            refine Under.nil ?_
                            refine Under.tN ?_
                            refine Under.seq ?_
                            refine Under.ite h592 rfl (fun h592 => ?_) (fun h592 => ?_)
                            · refine Under.code_skip ?_
                              refine Under.tN ?_
                              refine Under.seq ?_
                              refine Under.block ?_
                              refine Under.seq ?_
                              refine Under.region ?_
                              obtain ⟨x597, h598, h592⟩ := bsome h592
                              refine Under.manyTake frR_Api_Epoch frT_Api_Epoch h598 fun v599 x600 l601 h602 h603 h604 => ?_
                              refine Under.ov (OpV.ixO h603 Try.underlying25 sz61_kApi_Epoch_r1 rfl rfl) rfl ?_
                              refine Under.ldP (.own h603) (.ix .id h603) kt61_kApi_Epoch_r1 rfl rfl ?_
                              refine Under.al ZT61_Api_Epoch_r1 rfl fun b605 => ?_
                              refine Under.stP (x' := (⟨x597.Number, v599⟩ : Api_Epoch_r1)) .box .id sz61_kApi_Epoch_r1 rfl rfl rdV rfl ?_
                              refine Under.nil ?_
                              refine Under.tN ?_
                              refine Under.region ?_
                              refine Under.ov (OpV.fdM fm61_1 rfl) rfl ?_
                              refine Under.ldP .box (.fld .id uf_Api_Epoch_r1_1) kt36_kRaw rfl rfl ?_
                              refine Under.rawR (t := 151) rfl ?_
                              obtain ⟨y606, h607, h592⟩ := bsome h592
                              refine Under.fo2 ?_
                              refine Under.call Try.call47 rfl rfl (sortTags_ok h607 _) rfl ?_
                              refine Under.nil ?_
                              refine Under.fo1 ?_
                              refine Under.dropr ?_
                              refine Under.fo1 ?_
                              refine Under.back (fun F w h => h604 ({ x597 with Tags := y606 } : Api_Epoch) rfl F w _ h) ?_
                              refine Under.bN ?_
                              refine Under.tN ?_
                              refine Under.region ?_
                              refine Under.ov (OpV.bin rfl rfl rfl) rfl ?_
                              refine Under.ov (OpV.move rfl) rfl ?_
                              refine Under.nil ?_
                              refine Under.fo2 ?_
                              refine Under.fo2 ?_
                              refine Under.fo2 ?_
                              exact Under.next _ () h592 (sub_cons rfl (sub_cons rfl (sub_cons rfl (sub_cons rfl (sub_cons rfl (sub_nil _)))))) rfl
                            · refine Under.manyPlain (KB := kApi_Epoch) frR_Api_Epoch frT_Api_Epoch rfl cvm_Api_Epoch ?_
                              refine Under.fo2 ?_
                              refine Under.fo1 ?_
                              refine Under.frzBO (fs := kApi_WindowF) (⟨a0.Newest, x578⟩ : Api_Window) (fun F hv => ⟨fun _ h => h, cv_raw hv, trivial⟩) ?_
                              refine Under.frz (t := 16) rfl ?_
                              refine Under.exit ?_
                              refine Under.tE ?_
                              have e608 := done_eq h592 d593
                              subst e608
                              refine Under.tE ?_
                              refine Under.bH ?_
                              refine Under.tN ?_
                              exact Under.weak (k552 _ (Option.some.inj h551).symm) (sub_cons rfl (sub_cons rfl (sub_nil _)))
                        · intro K k491
                          refine Under.seq ?_
                          refine Under.region ?_
                          refine Under.ov (OpV.move rfl) rfl ?_
                          refine Under.ov (OpV.not rfl) rfl ?_
                          refine Under.nil ?_
                          refine Under.tN ?_
                          refine Under.condF rfl ?_
                          refine Under.code_skip ?_
                          refine Under.tN ?_
                          refine Under.fo2 ?_
                          refine Under.fo2 ?_
                          refine Under.fo2 ?_
                          exact Under.weak (k491 () (Option.some.inj h490).symm) (sub_cons rfl (sub_cons rfl (sub_nil _)))
                  · obtain ⟨x109, h104⟩ := h81 p106 l107 h108
                    have h108k := h104
                    refine Under.ov (OpV.extr rfl rfl) rfl ?_
                    refine Under.nil ?_
                    refine Under.tN ?_
                    refine Under.seq ?_
                    refine Under.condT rfl ?_
                    refine Under.code_skip ?_
                    refine Under.tN ?_
                    refine Under.block ?_
                    refine Under.seq ?_
                    refine Under.region ?_
                    refine Under.ent rfl rfl ?_
                    refine Under.ov (OpV.extr rfl rfl) rfl ?_
                    refine Under.al ZT43 rfl fun b884 => ?_
                    refine Under.stP (x' := p106.1) .box .id sz43_kArr_16_kInt_u8_ rfl rfl rdV rfl ?_
                    refine Under.nil ?_
                    refine Under.frz (t := 15) rfl ?_
                    refine Under.tN ?_
                    refine Under.region ?_
                    refine Under.ov (OpV.move rfl) rfl ?_
                    refine Under.ov (OpV.ld kt43 rfl) rfl ?_
                    refine Under.bsF (ys := [p106.1]) Try.underlying36 ET43 (BldA.cons rfl rfl rdV (BldA.nil _)) rfl rfl ?_
                    obtain ⟨z885, h886, h104⟩ := bsome h104
                    refine Under.fo1 ?_
                    refine Under.app h886 Try.underlying36 AT43 rfl rfl rdV rfl fun v887 => ?_
                    refine Under.ov (OpV.asg rfl) rfl ?_
                    refine Under.nil ?_
                    refine Under.bN ?_
                    refine Under.fo2 ?_
                    refine Under.fo1 ?_
                    refine Under.fo2 ?_
                    refine Under.tN ?_
                    refine Under.nextM (cur' := some p106) z885 v887 h108 ?_ h104 ?_ ?_
                    · exact h108k
                    · exact (sub_cons rfl (sub_cons rfl (sub_cons rfl (sub_cons rfl (sub_cons rfl (sub_nil _))))))
                    · rfl
              · obtain ⟨x73, h68⟩ := h53 p70 l71 h72
                have h72k := h68
                refine Under.ov (OpV.extr rfl rfl) rfl ?_
                refine Under.nil ?_
                refine Under.tN ?_
                refine Under.seq ?_
                refine Under.condT rfl ?_
                refine Under.code_skip ?_
                refine Under.tN ?_
                refine Under.block ?_
                refine Under.seq ?_
                refine Under.region ?_
                refine Under.ent rfl rfl ?_
                refine Under.ov (OpV.extr rfl rfl) rfl ?_
                refine Under.al ZT43 rfl fun b890 => ?_
                refine Under.stP (x' := p70.1) .box .id sz43_kArr_16_kInt_u8_ rfl rfl rdV rfl ?_
                refine Under.nil ?_
                refine Under.frz (t := 13) rfl ?_
                refine Under.tN ?_
                refine Under.region ?_
                refine Under.ov (OpV.move rfl) rfl ?_
                refine Under.ov (OpV.ld kt43 rfl) rfl ?_
                refine Under.fo2 ?_
                refine Under.mdel key43 Try.underlying69 rfl rfl rdV ?_
                refine Under.nil ?_
                refine Under.bN ?_
                refine Under.fo2 ?_
                refine Under.fo2 ?_
                refine Under.tN ?_
                refine Under.nextM (cur' := some p70) (mdel p70.1 x891) () h72 ?_ h68 ?_ ?_
                · exact h72k
                · exact (sub_cons rfl (sub_cons rfl (sub_cons rfl (sub_cons rfl (sub_cons rfl (sub_cons rfl (sub_nil _)))))))
                · rfl
            · intro K k46
              refine Under.seq ?_
              refine Under.region ?_
              refine Under.ov (OpV.move rfl) rfl ?_
              refine Under.ov (OpV.len Try.underlying36 rfl rdV) rfl ?_
              refine Under.ov (OpV.move rfl) rfl ?_
              refine Under.nil ?_
              refine Under.tN ?_
              refine Under.block ?_
              obtain ⟨r909, h910, h45⟩ := bsome h45
              refine Under.fo1 ?_
              refine Under.loop (S := (Int × (List ((List Int) × Int)))) (C := Unit) () (fun (x917 : (Int × (List ((List Int) × Int)))) (q918 : Unit) => [(1, .raw (.int .i64 a1)), (3, .raw (.int .i64 a3)), (4, .ptr kApi_Window a0), (8, .raw (.pointer (some ⟨b1, 0, none⟩))), (10, .raw (.map (some b17))), (45, .val (kSl (kArr 16 (kInt .u8))) a2), (46, .raw (.int .i64 (a2.length : Int))), (47, .raw (.int .i64 x917.1))]) (fun (x917 : (Int × (List ((List Int) × Int)))) (q918 : Unit) => (.box kApi_Window b1 27 (⟨0, []⟩ : Api_Window)) :: (.mp (kArr 16 (kInt .u8)) (kInt .i64) b17 x917.2) :: L) h910 (sub_cons rfl (sub_cons rfl (sub_cons rfl (sub_cons rfl (sub_cons rfl (sub_cons rfl (sub_cons rfl (sub_cons rfl (sub_nil _))))))))) rfl (fun x917 q918 o911 h907 d908 => ?_)
              obtain ⟨x901, x902⟩ := x917
              dsimp only at h907 ⊢
              refine Under.seq ?_
              refine Under.region ?_
              refine Under.ov (OpV.bin rfl rfl rfl) rfl ?_
              refine Under.nil ?_
              refine Under.tN ?_
              refine Under.seq ?_
              refine Under.ite h907 rfl (fun h907 => ?_) (fun h907 => ?_)
              · refine Under.code_skip ?_
                refine Under.tN ?_
                refine Under.seq ?_
                refine Under.block ?_
                refine Under.seq ?_
                refine Under.region ?_
                refine Under.ov (OpV.move rfl) rfl ?_
                obtain ⟨x912, h913, h907⟩ := bsome h907
                refine Under.ov (OpV.ixS h913 Try.underlying36 sz43 rfl rdV rfl) rfl ?_
                refine Under.ov (OpV.ld kt43 rfl) rfl ?_
                refine Under.al ZT43 rfl fun b914 => ?_
                refine Under.ov (OpV.asg rfl) rfl ?_
                refine Under.stP (x' := x912) .box .id sz43_kArr_16_kInt_u8_ rfl rfl rdV rfl ?_
                refine Under.nil ?_
                refine Under.frz (t := 12) rfl ?_
                refine Under.tN ?_
                refine Under.region ?_
                refine Under.ov (OpV.move rfl) rfl ?_
                refine Under.ov (OpV.ld kt43 rfl) rfl ?_
                refine Under.ov (OpV.move rfl) rfl ?_
                refine Under.fo1 ?_
                refine Under.mup key43 Try.underlying69 rfl rfl rdV rfl rdI ?_
                refine Under.nil ?_
                refine Under.bN ?_
                refine Under.tN ?_
                refine Under.region ?_
                refine Under.ov (OpV.bin rfl rfl rfl) rfl ?_
                refine Under.ov (OpV.move rfl) rfl ?_
                refine Under.nil ?_
                refine Under.fo1 ?_
                exact Under.next _ () h907 (sub_cons rfl (sub_cons rfl (sub_cons rfl (sub_cons rfl (sub_cons rfl (sub_cons rfl (sub_cons rfl (sub_cons rfl (sub_nil _))))))))) rfl
              · refine Under.exit ?_
                refine Under.tE ?_
                have e915 := done_eq h907 d908
                subst e915
                refine Under.tE ?_
                refine Under.bH ?_
                refine Under.tN ?_
                refine Under.fo1 ?_
                refine Under.fo1 ?_
                exact Under.weak (k46 _ (Option.some.inj h45).symm) (sub_cons rfl (sub_cons rfl (sub_cons rfl (sub_cons rfl (sub_cons rfl (sub_nil _))))))
        · refine Under.byc (t := 36) rfl (fun c11 => ?_) (fun c11 => ?_)
          · replace h12 := ctrue c11 h12
            refine Under.skc c11 rfl rfl rfl ?_
            refine Under.skc c11 rfl rfl rfl ?_
            refine Under.skc c11 rfl rfl rfl ?_
            refine Under.skc c11 rfl rfl rfl ?_
            refine Under.skc c11 rfl rfl rfl ?_
            refine Under.ov (OpV.pick rfl (fun e => rfl) (fun e => absurd (e.symm.trans c11) (by decide))) rfl ?_
            exact Under.rfin 5 (congrArg (fun b => SV.raw (.bool b)) (Option.some.inj h12)) rfl k
          · replace h12 := cfalse c11 h12
            refine Under.goc c11 rfl rfl ?_
            refine Under.ov (OpV.move rfl) rfl ?_
            refine Under.goc c11 rfl rfl ?_
            refine Under.ov (OpV.fd fb27_0 rfl rfl) rfl ?_
            refine Under.goc c11 rfl rfl ?_
            refine Under.ov (OpV.ldI kt2 rfl) rfl ?_
            obtain ⟨y14, h15, h12⟩ := bsome h12
            refine Under.goc c11 rfl rfl ?_
            refine Under.call Try.call36 rfl rfl (f_window_kept_ok h15 _) rfl ?_
            refine Under.goc c11 rfl rfl ?_
            refine Under.ov (OpV.not rfl) rfl ?_
            refine Under.ov (OpV.pick rfl (fun e => absurd (e.symm.trans c11) (by decide)) (fun e => rfl)) rfl ?_
            exact Under.rfin 5 (congrArg (fun b => SV.raw (.bool b)) (Option.some.inj h12)) rfl k
    · refine Under.byc (t := 28) rfl (fun c5 => ?_) (fun c5 => ?_)
      · replace h6 := ctrue c5 h6
        refine Under.skc c5 rfl rfl rfl ?_
        refine Under.skc c5 rfl rfl rfl ?_
        refine Under.skc c5 rfl rfl rfl ?_
        refine Under.ov (OpV.pick rfl (fun e => rfl) (fun e => absurd (e.symm.trans c5) (by decide))) rfl ?_
        exact Under.rfin 3 (congrArg (fun b => SV.raw (.bool b)) (Option.some.inj h6)) rfl k
      · replace h6 := cfalse c5 h6
        refine Under.goc c5 rfl rfl ?_
        refine Under.ov (OpV.ld kt27 rfl) rfl ?_
        obtain ⟨y8, h9, h6⟩ := bsome h6
        refine Under.goc c5 rfl rfl ?_
        refine Under.call Try.call16 rfl rfl (f_window_Check_ok h9 _) rfl ?_
        refine Under.goc c5 rfl rfl ?_
        refine Under.ov (OpV.bin rfl rfl rfl) rfl ?_
        refine Under.ov (OpV.pick rfl (fun e => absurd (e.symm.trans c5) (by decide)) (fun e => rfl)) rfl ?_
        exact Under.rfin 3 (congrArg (fun b => SV.raw (.bool b)) (Option.some.inj h6)) rfl k
  · refine Under.byc (t := 24) rfl (fun c2 => ?_) (fun c2 => ?_)
    · refine Under.skc c2 rfl rfl rfl ?_
      refine Under.skc c2 rfl rfl rfl ?_
      refine Under.ov (OpV.pick rfl (fun e => rfl) (fun e => absurd (e.symm.trans c2) (by decide))) rfl ?_
      exact Under.rfin 2 (or_t (e := decide (a3 > 4096)) c2) rfl k
    · refine Under.goc c2 rfl rfl ?_
      refine Under.ov (OpV.move rfl) rfl ?_
      refine Under.goc c2 rfl rfl ?_
      refine Under.ov (OpV.bin rfl rfl rfl) rfl ?_
      refine Under.ov (OpV.pick rfl (fun e => absurd (e.symm.trans c2) (by decide)) (fun e => rfl)) rfl ?_
      exact Under.rfin 2 (or_f c2) rfl k
/-- slices.Index[[][16]byte,[16]byte] -/
noncomputable def f_slices_Index (a0 : List (List Int)) (a1 : List Int) : Option Int :=
  (((Loop.run (S := Int) (R := (Unit ⊕ Int)) (fun x29 =>
      bif decide (x29 < (a0.length : Int)) then
        (idx a0 x29).bind fun x37 =>
        bif a1 == x37 then
          some (.done (.inr x29))
        else
          some (.next (IntKind.wrap .i64 (x29 + 1)))
      else
        some (.done (.inl ()))) 0).bind fun r34 => match r34 with
    | .inl _ =>
      some (.inr ())
    | .inr z =>
      some (.inl z)
    : Option (Int ⊕ Unit))).bind fun r20 => match r20 with
    | .inl z =>
      some z
    | .inr _ =>
      some (-1)
theorem f_slices_Index_ok {a0 : List (List Int)} {a1 : List Int} {r0 : Int} (hF : f_slices_Index a0 a1 = some r0) (L : List Res) : Ok Try.prog 52 [SV.val (kSl (kArr 16 (kInt .u8))) a0, SV.val (kArr 16 (kInt .u8)) a1] (L) (SV.raw (.int .i64 r0)) (L) := by
  unfold f_slices_Index at hF
  refine Ok.intro 19 [(0, .val (kSl (kArr 16 (kInt .u8))) a0), (1, .val (kArr 16 (kInt .u8)) a1)] Try.func52 rfl rfl rfl rfl (fun F0 => ?_)
  refine Under.seq ?_
  refine Under.region ?_
  refine Under.bxF (K := kArr 16 (kInt .u8)) rfl rdV rfl ?_
  refine Under.ov (OpV.asg rfl) rfl ?_
  refine Under.nil ?_
  refine Under.tN ?_
  obtain ⟨r20, h21, hF⟩ := bsome hF
  refine Under.seq ?_
  refine Under.after (fun X => ∀ (_ : Unit), r20 = (.inr ()) → Under F0 19 [] (L) X) ?_ ?_
  · intro _ h47
    replace h47 := h47.symm
    subst h47
    refine Under.seq ?_
    refine Under.region ?_
    refine Under.ov (OpV.asg rfl) rfl ?_
    refine Under.nil ?_
    refine Under.tN ?_
    refine Under.retc ?_
    have e23 := Option.some.inj hF
    subst e23
    exact Under.rets Try.results52 (.tm rfl .nil) rfl rfl
  · intro K k22
    refine Under.seq ?_
    refine Under.region ?_
    refine Under.ov (OpV.move rfl) rfl ?_
    refine Under.ov (OpV.len Try.underlying36 rfl rdV) rfl ?_
    refine Under.ov (OpV.move rfl) rfl ?_
    refine Under.nil ?_
    refine Under.tN ?_
    refine Under.block ?_
    obtain ⟨r34, h35, h21⟩ := bsome h21
    refine Under.loop (S := Int) (C := Unit) () (fun (x44 : Int) (q45 : Unit) => [(0, .val (kSl (kArr 16 (kInt .u8))) a0), (3, .ptr (kArr 16 (kInt .u8)) a1), (7, .raw (.int .i64 (a0.length : Int))), (8, .raw (.int .i64 x44))]) (fun (x44 : Int) (q45 : Unit) => L) h35 (sub_cons rfl (sub_cons rfl (sub_cons rfl (sub_cons rfl (sub_nil _))))) rfl (fun x44 q45 o36 h32 d33 => ?_)
    refine Under.seq ?_
    refine Under.region ?_
    refine Under.ov (OpV.bin rfl rfl rfl) rfl ?_
    refine Under.nil ?_
    refine Under.tN ?_
    refine Under.seq ?_
    refine Under.ite h32 rfl (fun h32 => ?_) (fun h32 => ?_)
    · refine Under.code_skip ?_
      refine Under.tN ?_
      refine Under.seq ?_
      refine Under.block ?_
      refine Under.seq ?_
      refine Under.region ?_
      refine Under.ov (OpV.move rfl) rfl ?_
      refine Under.ov (OpV.asg rfl) rfl ?_
      refine Under.nil ?_
      refine Under.tN ?_
      refine Under.seq ?_
      refine Under.draw rfl (by kernel_rfl) fun F hF0 => ?_
      refine UnderQ.ov (OpV.ld kt43 rfl) rfl ?_
      refine UnderQ.ov (OpV.move rfl) rfl ?_
      refine UnderQ.ov (OpV.move rfl) rfl ?_
      obtain ⟨x37, h38, h32⟩ := bsome h32
      refine UnderQ.ov (OpV.ixS h38 Try.underlying36 sz43 rfl rdV rfl) rfl ?_
      refine UnderQ.ov (OpV.ld kt43 rfl) rfl ?_
      refine UnderQ.ov (OpV.eqK eqk43 eqg43 rfl rfl rfl rdV rfl rdV) rfl ?_
      refine UnderQ.nil hF0 ?_
      refine Under.tN ?_
      refine Under.ite h32 rfl (fun h32 => ?_) (fun h32 => ?_)
      · refine Under.seq ?_
        refine Under.region ?_
        refine Under.ov (OpV.move rfl) rfl ?_
        refine Under.ov (OpV.asg rfl) rfl ?_
        refine Under.nil ?_
        refine Under.tN ?_
        refine Under.retc ?_
        refine Under.bR ?_
        refine Under.tR ?_
        have e39 := done_eq h32 d33
        subst e39
        refine Under.tR ?_
        refine Under.bR ?_
        refine Under.tR ?_
        have e40 := Option.some.inj h21
        subst e40
        have e41 := Option.some.inj hF
        subst e41
        exact Under.rets Try.results52 (.tm rfl .nil) rfl rfl
      · refine Under.code_skip ?_
        refine Under.bN ?_
        refine Under.tN ?_
        refine Under.region ?_
        refine Under.ov (OpV.bin rfl rfl rfl) rfl ?_
        refine Under.ov (OpV.move rfl) rfl ?_
        refine Under.nil ?_
        exact Under.next _ () h32 (sub_cons rfl (sub_cons rfl (sub_cons rfl (sub_cons rfl (sub_nil _))))) rfl
    · refine Under.exit ?_
      refine Under.tE ?_
      have e42 := done_eq h32 d33
      subst e42
      refine Under.tE ?_
      refine Under.bH ?_
      refine Under.tN ?_
      exact Under.weak (k22 () (Option.some.inj h21).symm) (sub_nil _)
/-- slices.Contains[[][16]byte,[16]byte] -/
noncomputable def f_slices_Contains (a0 : List (List Int)) (a1 : List Int) : Option Bool :=
  (f_slices_Index a0 a1).bind fun y1 =>
  some (decide (y1 ≥ 0))
theorem f_slices_Contains_ok {a0 : List (List Int)} {a1 : List Int} {r0 : Bool} (hF : f_slices_Contains a0 a1 = some r0) (L : List Res) : Ok Try.prog 44 [SV.val (kSl (kArr 16 (kInt .u8))) a0, SV.val (kArr 16 (kInt .u8)) a1] (L) (SV.raw (.bool r0)) (L) := by
  unfold f_slices_Contains at hF
  refine Ok.intro 9 [(0, .val (kSl (kArr 16 (kInt .u8))) a0), (1, .val (kArr 16 (kInt .u8)) a1)] Try.func44 rfl rfl rfl rfl (fun F0 => ?_)
  refine Under.seq ?_
  refine Under.region ?_
  refine Under.bxF (K := kArr 16 (kInt .u8)) rfl rdV rfl ?_
  refine Under.ov (OpV.asg rfl) rfl ?_
  refine Under.nil ?_
  refine Under.tN ?_
  refine Under.seq ?_
  refine Under.region ?_
  refine Under.ov (OpV.move rfl) rfl ?_
  refine Under.ov (OpV.ld kt43 rfl) rfl ?_
  obtain ⟨y1, h2, hF⟩ := bsome hF
  refine Under.call Try.call52 rfl rfl (f_slices_Index_ok h2 _) rfl ?_
  refine Under.ov (OpV.bin rfl rfl rfl) rfl ?_
  refine Under.ov (OpV.asg rfl) rfl ?_
  refine Under.nil ?_
  refine Under.tN ?_
  refine Under.retc ?_
  have e3 := Option.some.inj hF
  subst e3
  exact Under.rets Try.results44 (.tm rfl .nil) rfl rfl
/-- churn/window.Has$1 -/
noncomputable def f_window_Has_1 (a0 : Api_Epoch) (a1 : List Int) : Option Bool :=
  (f_slices_Contains a0.Tags a1).bind fun y1 =>
  some y1
theorem f_window_Has_1_ok {a0 : Api_Epoch} {a1 : List Int} {r0 : Bool} (hF : f_window_Has_1 a0 a1 = some r0) (L : List Res) : Ok Try.prog 43 [SV.val kApi_Epoch a0, SV.ptr (kArr 16 (kInt .u8)) a1] (L) (SV.raw (.bool r0)) (L) := by
  unfold f_window_Has_1 at hF
  refine Ok.intro 8 [(0, .val kApi_Epoch a0), (1, .ptr (kArr 16 (kInt .u8)) a1)] Try.func43 rfl rfl rfl rfl (fun F0 => ?_)
  refine Under.seq ?_
  refine Under.region ?_
  refine Under.bxF (K := kApi_Epoch) rfl rdV rfl ?_
  refine Under.ov (OpV.asg rfl) rfl ?_
  refine Under.nil ?_
  refine Under.tN ?_
  refine Under.seq ?_
  refine Under.region ?_
  refine Under.ov (OpV.fd fb61_1 rfl rfl) rfl ?_
  refine Under.ov (OpV.ld kt36 rfl) rfl ?_
  refine Under.ov (OpV.ld kt43 rfl) rfl ?_
  obtain ⟨y1, h2, hF⟩ := bsome hF
  refine Under.call Try.call44 rfl rfl (f_slices_Contains_ok h2 _) rfl ?_
  refine Under.ov (OpV.asg rfl) rfl ?_
  refine Under.nil ?_
  refine Under.tN ?_
  refine Under.retc ?_
  have e3 := Option.some.inj hF
  subst e3
  exact Under.rets Try.results43 (.tm rfl .nil) rfl rfl
/-- slices.IndexFunc[[]churn/api.Epoch,churn/api.Epoch] -/
noncomputable def f_slices_IndexFunc_window_Has_1 (a0 : List Api_Epoch) (a1 : List Int) : Option Int :=
  (((Loop.run (S := Int) (R := (Unit ⊕ Int)) (fun x41 =>
      bif decide (x41 < (a0.length : Int)) then
        (idx a0 x41).bind fun x51 =>
        (f_window_Has_1 x51 a1).bind fun y53 =>
        bif y53 then
          some (.done (.inr x41))
        else
          some (.next (IntKind.wrap .i64 (x41 + 1)))
      else
        some (.done (.inl ()))) 0).bind fun r48 => match r48 with
    | .inl _ =>
      some (.inr ())
    | .inr z =>
      some (.inl z)
    : Option (Int ⊕ Unit))).bind fun r28 => match r28 with
    | .inl z =>
      some z
    | .inr _ =>
      some (-1)
theorem f_slices_IndexFunc_window_Has_1_ok {a0 : List Api_Epoch} {a1 : List Int} {r0 : Int} (hF : f_slices_IndexFunc_window_Has_1 a0 a1 = some r0) (L : List Res) : Ok Try.prog 51 [SV.val (kSl kApi_Epoch) a0, SV.fn 43 [.ptr (kArr 16 (kInt .u8)) a1]] (L) (SV.raw (.int .i64 r0)) (L) := by
  unfold f_slices_IndexFunc_window_Has_1 at hF
  refine Ok.intro 19 [(0, .val (kSl kApi_Epoch) a0), (1, .fn 43 [.ptr (kArr 16 (kInt .u8)) a1])] Try.func51 rfl rfl rfl rfl (fun F0 => ?_)
  refine Under.seq ?_
  refine Under.region ?_
  refine Under.ov (OpV.asg rfl) rfl ?_
  refine Under.nil ?_
  refine Under.tN ?_
  obtain ⟨r28, h29, hF⟩ := bsome hF
  refine Under.seq ?_
  refine Under.after (fun X => ∀ (_ : Unit), r28 = (.inr ()) → Under F0 19 [] (L) X) ?_ ?_
  · intro _ h63
    replace h63 := h63.symm
    subst h63
    refine Under.seq ?_
    refine Under.region ?_
    refine Under.ov (OpV.asg rfl) rfl ?_
    refine Under.nil ?_
    refine Under.tN ?_
    refine Under.retc ?_
    have e31 := Option.some.inj hF
    subst e31
    exact Under.rets Try.results51 (.tm rfl .nil) rfl rfl
  · intro K k30
    refine Under.seq ?_
    refine Under.region ?_
    refine Under.ov (OpV.move rfl) rfl ?_
    refine Under.ov (OpV.len Try.underlying25 rfl rdV) rfl ?_
    refine Under.ov (OpV.move rfl) rfl ?_
    refine Under.nil ?_
    refine Under.tN ?_
    refine Under.block ?_
    obtain ⟨r48, h49, h29⟩ := bsome h29
    refine Under.loop (S := Int) (C := Unit) () (fun (x60 : Int) (q61 : Unit) => [(0, .val (kSl kApi_Epoch) a0), (1, .fn 43 [.ptr (kArr 16 (kInt .u8)) a1]), (7, .raw (.int .i64 (a0.length : Int))), (8, .raw (.int .i64 x60))]) (fun (x60 : Int) (q61 : Unit) => L) h49 (sub_cons rfl (sub_cons rfl (sub_cons rfl (sub_cons rfl (sub_nil _))))) rfl (fun x60 q61 o50 h46 d47 => ?_)
    refine Under.seq ?_
    refine Under.region ?_
    refine Under.ov (OpV.bin rfl rfl rfl) rfl ?_
    refine Under.nil ?_
    refine Under.tN ?_
    refine Under.seq ?_
    refine Under.ite h46 rfl (fun h46 => ?_) (fun h46 => ?_)
    · refine Under.code_skip ?_
      refine Under.tN ?_
      refine Under.seq ?_
      refine Under.block ?_
      refine Under.seq ?_
      refine Under.region ?_
      refine Under.ov (OpV.move rfl) rfl ?_
      refine Under.ov (OpV.asg rfl) rfl ?_
      refine Under.nil ?_
      refine Under.tN ?_
      refine Under.seq ?_
      refine Under.region ?_
      refine Under.ov (OpV.move rfl) rfl ?_
      refine Under.ov (OpV.move rfl) rfl ?_
      refine Under.ov (OpV.move rfl) rfl ?_
      obtain ⟨x51, h52, h46⟩ := bsome h46
      refine Under.ov (OpV.ixS h52 Try.underlying25 sz61 rfl rdV rfl) rfl ?_
      refine Under.ov (OpV.ld kt61 rfl) rfl ?_
      obtain ⟨y53, h54, h46⟩ := bsome h46
      refine Under.callC Try.call43 rfl rfl (f_window_Has_1_ok h54 _) rfl ?_
      refine Under.nil ?_
      refine Under.tN ?_
      refine Under.ite h46 rfl (fun h46 => ?_) (fun h46 => ?_)
      · refine Under.seq ?_
        refine Under.region ?_
        refine Under.ov (OpV.move rfl) rfl ?_
        refine Under.ov (OpV.asg rfl) rfl ?_
        refine Under.nil ?_
        refine Under.tN ?_
        refine Under.retc ?_
        refine Under.bR ?_
        refine Under.tR ?_
        have e55 := done_eq h46 d47
        subst e55
        refine Under.tR ?_
        refine Under.bR ?_
        refine Under.tR ?_
        have e56 := Option.some.inj h29
        subst e56
        have e57 := Option.some.inj hF
        subst e57
        exact Under.rets Try.results51 (.tm rfl .nil) rfl rfl
      · refine Under.code_skip ?_
        refine Under.bN ?_
        refine Under.tN ?_
        refine Under.region ?_
        refine Under.ov (OpV.bin rfl rfl rfl) rfl ?_
        refine Under.ov (OpV.move rfl) rfl ?_
        refine Under.nil ?_
        exact Under.next _ () h46 (sub_cons rfl (sub_cons rfl (sub_cons rfl (sub_cons rfl (sub_nil _))))) rfl
    · refine Under.exit ?_
      refine Under.tE ?_
      have e58 := done_eq h46 d47
      subst e58
      refine Under.tE ?_
      refine Under.bH ?_
      refine Under.tN ?_
      exact Under.weak (k30 () (Option.some.inj h29).symm) (sub_nil _)
/-- slices.ContainsFunc[[]churn/api.Epoch,churn/api.Epoch] -/
noncomputable def f_slices_ContainsFunc_window_Has_1 (a0 : List Api_Epoch) (a1 : List Int) : Option Bool :=
  (f_slices_IndexFunc_window_Has_1 a0 a1).bind fun y1 =>
  some (decide (y1 ≥ 0))
theorem f_slices_ContainsFunc_window_Has_1_ok {a0 : List Api_Epoch} {a1 : List Int} {r0 : Bool} (hF : f_slices_ContainsFunc_window_Has_1 a0 a1 = some r0) (L : List Res) : Ok Try.prog 42 [SV.val (kSl kApi_Epoch) a0, SV.fn 43 [.ptr (kArr 16 (kInt .u8)) a1]] (L) (SV.raw (.bool r0)) (L) := by
  unfold f_slices_ContainsFunc_window_Has_1 at hF
  refine Ok.intro 9 [(0, .val (kSl kApi_Epoch) a0), (1, .fn 43 [.ptr (kArr 16 (kInt .u8)) a1])] Try.func42 rfl rfl rfl rfl (fun F0 => ?_)
  refine Under.seq ?_
  refine Under.region ?_
  refine Under.ov (OpV.asg rfl) rfl ?_
  refine Under.nil ?_
  refine Under.tN ?_
  refine Under.seq ?_
  refine Under.region ?_
  refine Under.ov (OpV.move rfl) rfl ?_
  refine Under.ov (OpV.move rfl) rfl ?_
  obtain ⟨y1, h2, hF⟩ := bsome hF
  refine Under.call Try.call51 rfl rfl (f_slices_IndexFunc_window_Has_1_ok h2 _) rfl ?_
  refine Under.ov (OpV.bin rfl rfl rfl) rfl ?_
  refine Under.ov (OpV.asg rfl) rfl ?_
  refine Under.nil ?_
  refine Under.tN ?_
  refine Under.retc ?_
  have e3 := Option.some.inj hF
  subst e3
  exact Under.rets Try.results42 (.tm rfl .nil) rfl rfl
/-- churn/window.Has -/
noncomputable def f_window_Has (a0 : Api_Window) (a1 : List Int) : Option Bool :=
  (f_slices_ContainsFunc_window_Has_1 a0.Epochs a1).bind fun y1 =>
  some y1
theorem f_window_Has_ok {a0 : Api_Window} {a1 : List Int} {r0 : Bool} (hF : f_window_Has a0 a1 = some r0) (L : List Res) : Ok Try.prog 20 [SV.val kApi_Window a0, SV.val (kArr 16 (kInt .u8)) a1] (L) (SV.raw (.bool r0)) (L) := by
  unfold f_window_Has at hF
  refine Ok.intro 9 [(0, .val kApi_Window a0), (1, .val (kArr 16 (kInt .u8)) a1)] Try.func20 rfl rfl rfl rfl (fun F0 => ?_)
  refine Under.seq ?_
  refine Under.region ?_
  refine Under.bxF (K := kApi_Window) rfl rdV rfl ?_
  refine Under.bxF (K := kArr 16 (kInt .u8)) rfl rdV rfl ?_
  refine Under.ov (OpV.asg rfl) rfl ?_
  refine Under.nil ?_
  refine Under.tN ?_
  refine Under.seq ?_
  refine Under.region ?_
  refine Under.ov (OpV.fd fb27_1 rfl rfl) rfl ?_
  refine Under.ov (OpV.ld kt25 rfl) rfl ?_
  refine Under.ov (OpV.mkf rfl) rfl ?_
  obtain ⟨y1, h2, hF⟩ := bsome hF
  refine Under.call Try.call42 rfl rfl (f_slices_ContainsFunc_window_Has_1_ok h2 _) rfl ?_
  refine Under.ov (OpV.asg rfl) rfl ?_
  refine Under.nil ?_
  refine Under.tN ?_
  refine Under.retc ?_
  have e3 := Option.some.inj hF
  subst e3
  exact Under.rets Try.results20 (.tm rfl .nil) rfl rfl
/-- churn/churnlaw16.alive -/
noncomputable def f_churnlaw16_alive  : Option Bool :=
  (f_churnlaw16_some).bind fun y1 =>
  (f_window_Open y1 6 2).bind fun y3 =>
  (f_churnlaw16_some).bind fun y6 =>
  (f_churnlaw16_tag 100).bind fun y8 =>
  (f_window_Add y6 3 [y8] 4).bind fun y10 =>
  (f_churnlaw16_some).bind fun y13 =>
  (f_churnlaw16_tag 100).bind fun y15 =>
  (f_churnlaw16_tag 101).bind fun y17 =>
  (f_window_Add y13 5 [y15, y17] 4).bind fun y19 =>
  ((bif (((((y3.2 != 0) || (y10.2 != 0)) || (y19.2 != 160)) || (y3.1.Newest != 6)) || ((y3.1.Epochs.length : Int) != 1)) || ((y10.1.Epochs.length : Int) != 3) then
    some true
  else
    (idx y10.1.Epochs 0).bind fun x40 =>
    some (x40.Number != 3)
    : Option Bool)).bind fun x39 =>
  bif x39 then
    some false
  else
    (f_churnlaw16_some).bind fun y43 =>
    (f_churnlaw16_tag 99).bind fun y45 =>
    (f_window_Has y43 y45).bind fun y47 =>
    ((bif y47 then
      (f_churnlaw16_some).bind fun y52 =>
      (f_churnlaw16_tag 100).bind fun y54 =>
      (f_window_Has y52 y54).bind fun y56 =>
      some (!y56)
    else
      some false
      : Option Bool)).bind fun x51 =>
    ((bif x51 then
      (f_churnlaw16_some).bind fun y61 =>
      (f_window_Len y61).bind fun y63 =>
      some (y63 == 3)
    else
      some false
      : Option Bool)).bind fun x60 =>
    ((bif x60 then
      (f_churnlaw16_some).bind fun y68 =>
      (f_window_Check y68 2 2).bind fun y70 =>
      some (y70 == 2)
    else
      some false
      : Option Bool)).bind fun x67 =>
    ((bif x67 then
      (f_churnlaw16_some).bind fun y75 =>
      (f_window_Check y75 2 3).bind fun y77 =>
      some (y77 == 0)
    else
      some false
      : Option Bool)).bind fun x74 =>
    some x74
theorem f_churnlaw16_alive_ok  {r0 : Bool} (hF : f_churnlaw16_alive = some r0) (L : List Res) : Ok Try.prog 15 [] (L) (SV.raw (.bool r0)) (L) := by
  unfold f_churnlaw16_alive at hF
  refine Ok.intro 86 [] Try.func15 rfl rfl rfl rfl (fun F0 => ?_)
  refine Under.seq ?_
  refine Under.region ?_
  refine Under.ov (OpV.asg rfl) rfl ?_
  refine Under.nil ?_
  refine Under.tN ?_
  refine Under.seq ?_
  refine Under.region ?_
  obtain ⟨y1, h2, hF⟩ := bsome hF
  refine Under.call Try.call34 rfl rfl (f_churnlaw16_some_ok h2 _) rfl ?_
  obtain ⟨y3, h4, hF⟩ := bsome hF
  refine Under.call Try.call23 rfl rfl (f_window_Open_ok h4 _) rfl ?_
  refine Under.ov (OpV.move rfl) rfl ?_
  refine Under.ov (OpV.extr rfl rfl) rfl ?_
  refine Under.ov (OpV.extr rfl rfl) rfl ?_
  refine Under.al ZT27 rfl fun b5 => ?_
  refine Under.stP (x' := y3.1) .box .id sz27_kApi_Window rfl rfl rdV rfl ?_
  refine Under.ov (OpV.asg rfl) rfl ?_
  refine Under.nil ?_
  refine Under.frz (t := 1) rfl ?_
  refine Under.tN ?_
  refine Under.seq ?_
  refine Under.region ?_
  obtain ⟨y6, h7, hF⟩ := bsome hF
  refine Under.call Try.call34 rfl rfl (f_churnlaw16_some_ok h7 _) rfl ?_
  obtain ⟨y8, h9, hF⟩ := bsome hF
  refine Under.call Try.call29 rfl rfl (f_churnlaw16_tag_ok h9 _) rfl ?_
  refine Under.bsF (ys := [y8]) Try.underlying36 ET43 (BldA.cons rfl rfl rdV (BldA.nil _)) rfl rfl ?_
  obtain ⟨y10, h11, hF⟩ := bsome hF
  refine Under.call Try.call26 rfl rfl (f_window_Add_ok h11 _) rfl ?_
  refine Under.ov (OpV.move rfl) rfl ?_
  refine Under.ov (OpV.extr rfl rfl) rfl ?_
  refine Under.ov (OpV.extr rfl rfl) rfl ?_
  refine Under.al ZT27 rfl fun b12 => ?_
  refine Under.stP (x' := y10.1) .box .id sz27_kApi_Window rfl rfl rdV rfl ?_
  refine Under.ov (OpV.asg rfl) rfl ?_
  refine Under.nil ?_
  refine Under.frz (t := 3) rfl ?_
  refine Under.tN ?_
  refine Under.seq ?_
  refine Under.region ?_
  obtain ⟨y13, h14, hF⟩ := bsome hF
  refine Under.call Try.call34 rfl rfl (f_churnlaw16_some_ok h14 _) rfl ?_
  obtain ⟨y15, h16, hF⟩ := bsome hF
  refine Under.call Try.call29 rfl rfl (f_churnlaw16_tag_ok h16 _) rfl ?_
  obtain ⟨y17, h18, hF⟩ := bsome hF
  refine Under.call Try.call29 rfl rfl (f_churnlaw16_tag_ok h18 _) rfl ?_
  refine Under.bsF (ys := [y15, y17]) Try.underlying36 ET43 (BldA.cons rfl rfl rdV (BldA.cons rfl rfl rdV (BldA.nil _))) rfl rfl ?_
  obtain ⟨y19, h20, hF⟩ := bsome hF
  refine Under.call Try.call26 rfl rfl (f_window_Add_ok h20 _) rfl ?_
  refine Under.ov (OpV.move rfl) rfl ?_
  refine Under.ov (OpV.extr rfl rfl) rfl ?_
  refine Under.ov (OpV.extr rfl rfl) rfl ?_
  refine Under.al ZT27 rfl fun b21 => ?_
  refine Under.stP (x' := y19.1) .box .id sz27_kApi_Window rfl rfl rdV rfl ?_
  refine Under.ov (OpV.asg rfl) rfl ?_
  refine Under.nil ?_
  refine Under.dropr ?_
  refine Under.tN ?_
  refine Under.seq ?_
  refine Under.seq ?_
  refine Under.region ?_
  refine Under.ov (OpV.move rfl) rfl ?_
  refine Under.ov (OpV.bin rfl rfl rfl) rfl ?_
  refine Under.ov (OpV.move rfl) rfl ?_
  refine runj_3 32 ((y3.2 != 0) || (y10.2 != 0)) ?_ (fun k => ?_)
  · refine Under.ov (OpV.move rfl) rfl ?_
    refine runj_3 36 (((y3.2 != 0) || (y10.2 != 0)) || (y19.2 != 160)) ?_ (fun k => ?_)
    · refine Under.ov (OpV.move rfl) rfl ?_
      refine runj_4 41 ((((y3.2 != 0) || (y10.2 != 0)) || (y19.2 != 160)) || (y3.1.Newest != 6)) ?_ (fun k => ?_)
      · refine Under.ov (OpV.move rfl) rfl ?_
        refine runj_5 47 (((((y3.2 != 0) || (y10.2 != 0)) || (y19.2 != 160)) || (y3.1.Newest != 6)) || ((y3.1.Epochs.length : Int) != 1)) ?_ (fun k => ?_)
        · refine Under.ov (OpV.move rfl) rfl ?_
          refine runj_5 53 ((((((y3.2 != 0) || (y10.2 != 0)) || (y19.2 != 160)) || (y3.1.Newest != 6)) || ((y3.1.Epochs.length : Int) != 1)) || ((y10.1.Epochs.length : Int) != 3)) ?_ (fun k => ?_)
          · refine Under.ov (OpV.move rfl) rfl ?_
            obtain ⟨x39, h38, hF⟩ := bsome hF
            refine runj_7 61 x39 ?_ (fun k => ?_)
            · refine Under.nil ?_
              refine Under.tN ?_
              refine Under.ite hF rfl (fun hF => ?_) (fun hF => ?_)
              · refine Under.seq ?_
                refine Under.region ?_
                refine Under.ov (OpV.asg rfl) rfl ?_
                refine Under.nil ?_
                refine Under.tN ?_
                refine Under.retc ?_
                refine Under.tR ?_
                have e42 := Option.some.inj hF
                subst e42
                exact Under.rets Try.results15 (.tm rfl .nil) rfl rfl
              · refine Under.code_skip ?_
                refine Under.tN ?_
                refine Under.seq ?_
                refine Under.region ?_
                obtain ⟨y43, h44, hF⟩ := bsome hF
                refine Under.call Try.call34 rfl rfl (f_churnlaw16_some_ok h44 _) rfl ?_
                obtain ⟨y45, h46, hF⟩ := bsome hF
                refine Under.call Try.call29 rfl rfl (f_churnlaw16_tag_ok h46 _) rfl ?_
                obtain ⟨y47, h48, hF⟩ := bsome hF
                refine Under.call Try.call20 rfl rfl (f_window_Has_ok h48 _) rfl ?_
                refine Under.ov (OpV.move rfl) rfl ?_
                obtain ⟨x51, h50, hF⟩ := bsome hF
                refine runj_5 70 x51 ?_ (fun k => ?_)
                · refine Under.ov (OpV.move rfl) rfl ?_
                  obtain ⟨x60, h59, hF⟩ := bsome hF
                  refine runj_4 75 x60 ?_ (fun k => ?_)
                  · refine Under.ov (OpV.move rfl) rfl ?_
                    obtain ⟨x67, h66, hF⟩ := bsome hF
                    refine runj_4 80 x67 ?_ (fun k => ?_)
                    · refine Under.ov (OpV.move rfl) rfl ?_
                      obtain ⟨x74, h73, hF⟩ := bsome hF
                      refine runj_4 85 x74 ?_ (fun k => ?_)
                      · refine Under.ov (OpV.asg rfl) rfl ?_
                        refine Under.nil ?_
                        refine Under.tN ?_
                        refine Under.retc ?_
                        have e79 := Option.some.inj hF
                        subst e79
                        exact Under.rets Try.results15 (.tm rfl .nil) rfl rfl
                      · refine Under.byc (t := 81) rfl (fun c72 => ?_) (fun c72 => ?_)
                        · replace h73 := ctrue c72 h73
                          obtain ⟨y75, h76, h73⟩ := bsome h73
                          refine Under.goc c72 rfl rfl ?_
                          refine Under.call Try.call34 rfl rfl (f_churnlaw16_some_ok h76 _) rfl ?_
                          obtain ⟨y77, h78, h73⟩ := bsome h73
                          refine Under.goc c72 rfl rfl ?_
                          refine Under.call Try.call16 rfl rfl (f_window_Check_ok h78 _) rfl ?_
                          refine Under.goc c72 rfl rfl ?_
                          refine Under.ov (OpV.bin rfl rfl rfl) rfl ?_
                          refine Under.ov (OpV.pick rfl (fun e => rfl) (fun e => absurd (e.symm.trans c72) (by decide))) rfl ?_
                          exact Under.rfin 3 (congrArg (fun b => SV.raw (.bool b)) (Option.some.inj h73)) rfl k
                        · replace h73 := cfalse c72 h73
                          refine Under.skc c72 rfl rfl rfl ?_
                          refine Under.skc c72 rfl rfl rfl ?_
                          refine Under.skc c72 rfl rfl rfl ?_
                          refine Under.ov (OpV.pick rfl (fun e => absurd (e.symm.trans c72) (by decide)) (fun e => rfl)) rfl ?_
                          exact Under.rfin 3 (congrArg (fun b => SV.raw (.bool b)) (Option.some.inj h73)) rfl k
                    · refine Under.byc (t := 76) rfl (fun c65 => ?_) (fun c65 => ?_)
                      · replace h66 := ctrue c65 h66
                        obtain ⟨y68, h69, h66⟩ := bsome h66
                        refine Under.goc c65 rfl rfl ?_
                        refine Under.call Try.call34 rfl rfl (f_churnlaw16_some_ok h69 _) rfl ?_
                        obtain ⟨y70, h71, h66⟩ := bsome h66
                        refine Under.goc c65 rfl rfl ?_
                        refine Under.call Try.call16 rfl rfl (f_window_Check_ok h71 _) rfl ?_
                        refine Under.goc c65 rfl rfl ?_
                        refine Under.ov (OpV.bin rfl rfl rfl) rfl ?_
                        refine Under.ov (OpV.pick rfl (fun e => rfl) (fun e => absurd (e.symm.trans c65) (by decide))) rfl ?_
                        exact Under.rfin 3 (congrArg (fun b => SV.raw (.bool b)) (Option.some.inj h66)) rfl k
                      · replace h66 := cfalse c65 h66
                        refine Under.skc c65 rfl rfl rfl ?_
                        refine Under.skc c65 rfl rfl rfl ?_
                        refine Under.skc c65 rfl rfl rfl ?_
                        refine Under.ov (OpV.pick rfl (fun e => absurd (e.symm.trans c65) (by decide)) (fun e => rfl)) rfl ?_
                        exact Under.rfin 3 (congrArg (fun b => SV.raw (.bool b)) (Option.some.inj h66)) rfl k
                  · refine Under.byc (t := 71) rfl (fun c58 => ?_) (fun c58 => ?_)
                    · replace h59 := ctrue c58 h59
                      obtain ⟨y61, h62, h59⟩ := bsome h59
                      refine Under.goc c58 rfl rfl ?_
                      refine Under.call Try.call34 rfl rfl (f_churnlaw16_some_ok h62 _) rfl ?_
                      obtain ⟨y63, h64, h59⟩ := bsome h59
                      refine Under.goc c58 rfl rfl ?_
                      refine Under.call Try.call18 rfl rfl (f_window_Len_ok h64 _) rfl ?_
                      refine Under.goc c58 rfl rfl ?_
                      refine Under.ov (OpV.bin rfl rfl rfl) rfl ?_
                      refine Under.ov (OpV.pick rfl (fun e => rfl) (fun e => absurd (e.symm.trans c58) (by decide))) rfl ?_
                      exact Under.rfin 3 (congrArg (fun b => SV.raw (.bool b)) (Option.some.inj h59)) rfl k
                    · replace h59 := cfalse c58 h59
                      refine Under.skc c58 rfl rfl rfl ?_
                      refine Under.skc c58 rfl rfl rfl ?_
                      refine Under.skc c58 rfl rfl rfl ?_
                      refine Under.ov (OpV.pick rfl (fun e => absurd (e.symm.trans c58) (by decide)) (fun e => rfl)) rfl ?_
                      exact Under.rfin 3 (congrArg (fun b => SV.raw (.bool b)) (Option.some.inj h59)) rfl k
                · refine Under.byc (t := 65) rfl (fun c49 => ?_) (fun c49 => ?_)
                  · replace h50 := ctrue c49 h50
                    obtain ⟨y52, h53, h50⟩ := bsome h50
                    refine Under.goc c49 rfl rfl ?_
                    refine Under.call Try.call34 rfl rfl (f_churnlaw16_some_ok h53 _) rfl ?_
                    obtain ⟨y54, h55, h50⟩ := bsome h50
                    refine Under.goc c49 rfl rfl ?_
                    refine Under.call Try.call29 rfl rfl (f_churnlaw16_tag_ok h55 _) rfl ?_
                    obtain ⟨y56, h57, h50⟩ := bsome h50
                    refine Under.goc c49 rfl rfl ?_
                    refine Under.call Try.call20 rfl rfl (f_window_Has_ok h57 _) rfl ?_
                    refine Under.goc c49 rfl rfl ?_
                    refine Under.ov (OpV.not rfl) rfl ?_
                    refine Under.ov (OpV.pick rfl (fun e => rfl) (fun e => absurd (e.symm.trans c49) (by decide))) rfl ?_
                    exact Under.rfin 4 (congrArg (fun b => SV.raw (.bool b)) (Option.some.inj h50)) rfl k
                  · replace h50 := cfalse c49 h50
                    refine Under.skc c49 rfl rfl rfl ?_
                    refine Under.skc c49 rfl rfl rfl ?_
                    refine Under.skc c49 rfl rfl rfl ?_
                    refine Under.skc c49 rfl rfl rfl ?_
                    refine Under.ov (OpV.pick rfl (fun e => absurd (e.symm.trans c49) (by decide)) (fun e => rfl)) rfl ?_
                    exact Under.rfin 4 (congrArg (fun b => SV.raw (.bool b)) (Option.some.inj h50)) rfl k
            · refine Under.byc (t := 54) rfl (fun c37 => ?_) (fun c37 => ?_)
              · replace h38 := ctrue c37 h38
                refine Under.skc c37 rfl rfl rfl ?_
                refine Under.skc c37 rfl rfl rfl ?_
                refine Under.skc c37 rfl rfl rfl ?_
                refine Under.skc c37 rfl rfl rfl ?_
                refine Under.skc c37 rfl rfl rfl ?_
                refine Under.skc c37 rfl rfl rfl ?_
                refine Under.ov (OpV.pick rfl (fun e => rfl) (fun e => absurd (e.symm.trans c37) (by decide))) rfl ?_
                exact Under.rfin 6 (congrArg (fun b => SV.raw (.bool b)) (Option.some.inj h38)) rfl k
              · replace h38 := cfalse c37 h38
                refine Under.goc c37 rfl rfl ?_
                refine Under.ov (OpV.fd fb27_1 rfl rfl) rfl ?_
                refine Under.goc c37 rfl rfl ?_
                refine Under.ov (OpV.ld kt25 rfl) rfl ?_
                obtain ⟨x40, h41, h38⟩ := bsome h38
                refine Under.goc c37 rfl rfl ?_
                refine Under.ov (OpV.ixS h41 Try.underlying25 sz61 rfl rdV rfl) rfl ?_
                refine Under.goc c37 rfl rfl ?_
                refine Under.ov (OpV.fd fb61_0 rfl rfl) rfl ?_
                refine Under.goc c37 rfl rfl ?_
                refine Under.ov (OpV.ldI kt2 rfl) rfl ?_
                refine Under.goc c37 rfl rfl ?_
                refine Under.ov (OpV.bin rfl rfl rfl) rfl ?_
                refine Under.ov (OpV.pick rfl (fun e => absurd (e.symm.trans c37) (by decide)) (fun e => rfl)) rfl ?_
                exact Under.rfin 6 (congrArg (fun b => SV.raw (.bool b)) (Option.some.inj h38)) rfl k
          · refine Under.byc (t := 48) rfl (fun c34 => ?_) (fun c34 => ?_)
            · refine Under.skc c34 rfl rfl rfl ?_
              refine Under.skc c34 rfl rfl rfl ?_
              refine Under.skc c34 rfl rfl rfl ?_
              refine Under.skc c34 rfl rfl rfl ?_
              refine Under.ov (OpV.pick rfl (fun e => rfl) (fun e => absurd (e.symm.trans c34) (by decide))) rfl ?_
              exact Under.rfin 4 (or_t (e := (y10.1.Epochs.length : Int) != 3) c34) rfl k
            · refine Under.goc c34 rfl rfl ?_
              refine Under.ov (OpV.fd fb27_1 rfl rfl) rfl ?_
              refine Under.goc c34 rfl rfl ?_
              refine Under.ov (OpV.ld kt25 rfl) rfl ?_
              refine Under.goc c34 rfl rfl ?_
              refine Under.ov (OpV.len Try.underlying25 rfl rdV) rfl ?_
              refine Under.goc c34 rfl rfl ?_
              refine Under.ov (OpV.bin rfl rfl rfl) rfl ?_
              refine Under.ov (OpV.pick rfl (fun e => absurd (e.symm.trans c34) (by decide)) (fun e => rfl)) rfl ?_
              exact Under.rfin 4 (or_f c34) rfl k
        · refine Under.byc (t := 42) rfl (fun c31 => ?_) (fun c31 => ?_)
          · refine Under.skc c31 rfl rfl rfl ?_
            refine Under.skc c31 rfl rfl rfl ?_
            refine Under.skc c31 rfl rfl rfl ?_
            refine Under.skc c31 rfl rfl rfl ?_
            refine Under.ov (OpV.pick rfl (fun e => rfl) (fun e => absurd (e.symm.trans c31) (by decide))) rfl ?_
            exact Under.rfin 4 (or_t (e := (y3.1.Epochs.length : Int) != 1) c31) rfl k
          · refine Under.goc c31 rfl rfl ?_
            refine Under.ov (OpV.fd fb27_1 rfl rfl) rfl ?_
            refine Under.goc c31 rfl rfl ?_
            refine Under.ov (OpV.ld kt25 rfl) rfl ?_
            refine Under.goc c31 rfl rfl ?_
            refine Under.ov (OpV.len Try.underlying25 rfl rdV) rfl ?_
            refine Under.goc c31 rfl rfl ?_
            refine Under.ov (OpV.bin rfl rfl rfl) rfl ?_
            refine Under.ov (OpV.pick rfl (fun e => absurd (e.symm.trans c31) (by decide)) (fun e => rfl)) rfl ?_
            exact Under.rfin 4 (or_f c31) rfl k
      · refine Under.byc (t := 37) rfl (fun c28 => ?_) (fun c28 => ?_)
        · refine Under.skc c28 rfl rfl rfl ?_
          refine Under.skc c28 rfl rfl rfl ?_
          refine Under.skc c28 rfl rfl rfl ?_
          refine Under.ov (OpV.pick rfl (fun e => rfl) (fun e => absurd (e.symm.trans c28) (by decide))) rfl ?_
          exact Under.rfin 3 (or_t (e := y3.1.Newest != 6) c28) rfl k
        · refine Under.goc c28 rfl rfl ?_
          refine Under.ov (OpV.fd fb27_0 rfl rfl) rfl ?_
          refine Under.goc c28 rfl rfl ?_
          refine Under.ov (OpV.ldI kt2 rfl) rfl ?_
          refine Under.goc c28 rfl rfl ?_
          refine Under.ov (OpV.bin rfl rfl rfl) rfl ?_
          refine Under.ov (OpV.pick rfl (fun e => absurd (e.symm.trans c28) (by decide)) (fun e => rfl)) rfl ?_
          exact Under.rfin 3 (or_f c28) rfl k
    · refine Under.byc (t := 33) rfl (fun c25 => ?_) (fun c25 => ?_)
      · refine Under.skc c25 rfl rfl rfl ?_
        refine Under.skc c25 rfl rfl rfl ?_
        refine Under.ov (OpV.pick rfl (fun e => rfl) (fun e => absurd (e.symm.trans c25) (by decide))) rfl ?_
        exact Under.rfin 2 (or_t (e := y19.2 != 160) c25) rfl k
      · refine Under.goc c25 rfl rfl ?_
        refine Under.ov (OpV.move rfl) rfl ?_
        refine Under.goc c25 rfl rfl ?_
        refine Under.ov (OpV.bin rfl rfl rfl) rfl ?_
        refine Under.ov (OpV.pick rfl (fun e => absurd (e.symm.trans c25) (by decide)) (fun e => rfl)) rfl ?_
        exact Under.rfin 2 (or_f c25) rfl k
  · refine Under.byc (t := 29) rfl (fun c22 => ?_) (fun c22 => ?_)
    · refine Under.skc c22 rfl rfl rfl ?_
      refine Under.skc c22 rfl rfl rfl ?_
      refine Under.ov (OpV.pick rfl (fun e => rfl) (fun e => absurd (e.symm.trans c22) (by decide))) rfl ?_
      exact Under.rfin 2 (or_t (e := y10.2 != 0) c22) rfl k
    · refine Under.goc c22 rfl rfl ?_
      refine Under.ov (OpV.move rfl) rfl ?_
      refine Under.goc c22 rfl rfl ?_
      refine Under.ov (OpV.bin rfl rfl rfl) rfl ?_
      refine Under.ov (OpV.pick rfl (fun e => absurd (e.symm.trans c22) (by decide)) (fun e => rfl)) rfl ?_
      exact Under.rfin 2 (or_f c22) rfl k
/-- churn/churnlaw16.WindowNames -/
noncomputable def f_churnlaw16_WindowNames  : Option Bool :=
  (f_churnlaw16_alive).bind fun y4 =>
  some y4
theorem f_churnlaw16_WindowNames_ok  {r0 : Bool} (hF : f_churnlaw16_WindowNames = some r0) (L : List Res) : Ok Try.prog 4 [] (L) (SV.raw (.bool r0)) (L) := by
  unfold f_churnlaw16_WindowNames at hF
  refine Ok.intro 4 [] Try.func4 rfl rfl rfl rfl (fun F0 => ?_)
  refine Under.seq ?_
  refine Under.region ?_
  refine Under.ov (OpV.asg rfl) rfl ?_
  refine Under.nil ?_
  refine Under.tN ?_
  refine Under.seq ?_
  refine Under.region ?_
  refine Under.ov (OpV.move rfl) rfl ?_
  obtain ⟨y4, h5, hF⟩ := bsome hF
  refine Under.goc (rfl : (true : Bool) = true) rfl rfl ?_
  refine Under.call Try.call15 rfl rfl (f_churnlaw16_alive_ok h5 _) rfl ?_
  refine Under.ov (OpV.pick rfl (fun e => rfl) (fun e => absurd (e.symm.trans (rfl : (true : Bool) = true)) (by decide))) rfl ?_
  refine Under.ov (OpV.asg rfl) rfl ?_
  refine Under.nil ?_
  refine Under.tN ?_
  refine Under.retc ?_
  have e6 := Option.some.inj hF
  subst e6
  exact Under.rets Try.results4 (.tm rfl .nil) rfl rfl
/-- churn/churnref16.Len -/
noncomputable def f_churnref16_Len (a0 : Api_Window) : Option Int :=
  (((Loop.run (S := (Int × Int)) (R := Int) (fun (x33, x34) =>
      bif decide (x34 < (a0.Epochs.length : Int)) then
        (idx a0.Epochs x34).bind fun x43 =>
        some (.next (IntKind.wrap .i64 (x33 + (x43.Tags.length : Int)), IntKind.wrap .i64 (x34 + 1)))
      else
        some (.done x33)) (0, 0)).bind fun x37 =>
  some x37
    : Option Int)).bind fun x22 =>
  some x22
theorem f_churnref16_Len_ok {a0 : Api_Window} {r0 : Int} (hF : f_churnref16_Len a0 = some r0) (L : List Res) : Ok Try.prog 19 [SV.val kApi_Window a0] (L) (SV.raw (.int .i64 r0)) (L) := by
  unfold f_churnref16_Len at hF
  refine Ok.intro 22 [(0, .val kApi_Window a0)] Try.func19 rfl rfl rfl rfl (fun F0 => ?_)
  refine Under.seq ?_
  refine Under.region ?_
  refine Under.bxF (K := kApi_Window) rfl rdV rfl ?_
  refine Under.ov (OpV.asg rfl) rfl ?_
  refine Under.nil ?_
  refine Under.tN ?_
  refine Under.seq ?_
  refine Under.region ?_
  refine Under.ov (OpV.asg rfl) rfl ?_
  refine Under.nil ?_
  refine Under.tN ?_
  obtain ⟨r23, h24, hF⟩ := bsome hF
  refine Under.seq ?_
  refine Under.after (fun X => ∀ (x22 : Int), r23 = x22 → Under F0 22 [(3, .raw (.int .i64 x22))] (L) X) ?_ ?_
  · intro x22 h50
    replace h50 := h50.symm
    subst h50
    refine Under.seq ?_
    refine Under.region ?_
    refine Under.ov (OpV.move rfl) rfl ?_
    refine Under.ov (OpV.asg rfl) rfl ?_
    refine Under.nil ?_
    refine Under.tN ?_
    refine Under.retc ?_
    have e26 := Option.some.inj hF
    subst e26
    exact Under.rets Try.results19 (.tm rfl .nil) rfl rfl
  · intro K k25
    refine Under.seq ?_
    refine Under.region ?_
    refine Under.ov (OpV.asg rfl) rfl ?_
    refine Under.nil ?_
    refine Under.tN ?_
    refine Under.block ?_
    obtain ⟨r40, h41, h24⟩ := bsome h24
    refine Under.loop (S := (Int × Int)) (C := Unit) () (fun (x47 : (Int × Int)) (q48 : Unit) => [(1, .ptr kApi_Window a0), (3, .raw (.int .i64 x47.1)), (4, .raw (.int .i64 x47.2))]) (fun (x47 : (Int × Int)) (q48 : Unit) => L) h41 (sub_cons rfl (sub_cons rfl (sub_cons rfl (sub_nil _)))) rfl (fun x47 q48 o42 h38 d39 => ?_)
    obtain ⟨x33, x34⟩ := x47
    dsimp only at h38 ⊢
    refine Under.seq ?_
    refine Under.seq ?_
    refine Under.region ?_
    refine Under.ov (OpV.move rfl) rfl ?_
    refine Under.ov (OpV.fd fb27_1 rfl rfl) rfl ?_
    refine Under.ov (OpV.ld kt25 rfl) rfl ?_
    refine Under.ov (OpV.len Try.underlying25 rfl rdV) rfl ?_
    refine Under.ov (OpV.bin rfl rfl rfl) rfl ?_
    refine Under.nil ?_
    refine Under.tN ?_
    refine Under.ite h38 rfl (fun h38 => ?_) (fun h38 => ?_)
    · refine Under.code_skip ?_
      refine Under.tN ?_
      refine Under.seq ?_
      refine Under.block ?_
      refine Under.region ?_
      refine Under.ov (OpV.move rfl) rfl ?_
      refine Under.ov (OpV.fd fb27_1 rfl rfl) rfl ?_
      refine Under.ov (OpV.ld kt25 rfl) rfl ?_
      refine Under.ov (OpV.move rfl) rfl ?_
      obtain ⟨x43, h44, h38⟩ := bsome h38
      refine Under.ov (OpV.ixS h44 Try.underlying25 sz61 rfl rdV rfl) rfl ?_
      refine Under.ov (OpV.fd fb61_1 rfl rfl) rfl ?_
      refine Under.ov (OpV.ld kt36 rfl) rfl ?_
      refine Under.ov (OpV.len Try.underlying36 rfl rdV) rfl ?_
      refine Under.ov (OpV.bin rfl rfl rfl) rfl ?_
      refine Under.ov (OpV.asg rfl) rfl ?_
      refine Under.nil ?_
      refine Under.bN ?_
      refine Under.tN ?_
      refine Under.region ?_
      refine Under.ov (OpV.move rfl) rfl ?_
      refine Under.ov (OpV.bin rfl rfl rfl) rfl ?_
      refine Under.ov (OpV.asg rfl) rfl ?_
      refine Under.nil ?_
      exact Under.next _ () h38 (sub_cons rfl (sub_cons rfl (sub_cons rfl (sub_nil _)))) rfl
    · refine Under.exit ?_
      refine Under.tE ?_
      have e45 := done_eq h38 d39
      subst e45
      refine Under.tE ?_
      refine Under.bH ?_
      refine Under.tN ?_
      exact Under.weak (k25 _ (Option.some.inj h24).symm) (sub_cons rfl (sub_nil _))
/-- churn/churnref16.less -/
noncomputable def f_churnref16_less (a0 : List Int) (a1 : List Int) : Option Bool :=
  (((Loop.run (S := Int) (R := (Unit ⊕ Bool)) (fun x65 =>
      bif decide (x65 < 16) then
        (idx a0 x65).bind fun x79 =>
        (idx a1 x65).bind fun x81 =>
        bif x79 != x81 then
          (idx a0 x65).bind fun x83 =>
          (idx a1 x65).bind fun x85 =>
          some (.done (.inr (decide (x83 < x85))))
        else
          some (.next (IntKind.wrap .i64 (x65 + 1)))
      else
        some (.done (.inl ()))) 0).bind fun r76 => match r76 with
    | .inl _ =>
      some (.inr ())
    | .inr z =>
      some (.inl z)
    : Option (Bool ⊕ Unit))).bind fun r44 => match r44 with
    | .inl z =>
      some z
    | .inr _ =>
      some false
theorem f_churnref16_less_ok {a0 : List Int} {a1 : List Int} {r0 : Bool} (hF : f_churnref16_less a0 a1 = some r0) (L : List Res) : Ok Try.prog 39 [SV.val (kArr 16 (kInt .u8)) a0, SV.val (kArr 16 (kInt .u8)) a1] (L) (SV.raw (.bool r0)) (L) := by
  unfold f_churnref16_less at hF
  refine Ok.intro 24 [(0, .val (kArr 16 (kInt .u8)) a0), (1, .val (kArr 16 (kInt .u8)) a1)] Try.func39 rfl rfl rfl rfl (fun F0 => ?_)
  refine Under.seq ?_
  refine Under.region ?_
  refine Under.bxF (K := kArr 16 (kInt .u8)) rfl rdV rfl ?_
  refine Under.bxF (K := kArr 16 (kInt .u8)) rfl rdV rfl ?_
  refine Under.ov (OpV.asg rfl) rfl ?_
  refine Under.nil ?_
  refine Under.tN ?_
  obtain ⟨r44, h45, hF⟩ := bsome hF
  refine Under.seq ?_
  refine Under.after (fun X => ∀ (_ : Unit), r44 = (.inr ()) → Under F0 24 [] (L) X) ?_ ?_
  · intro _ h95
    replace h95 := h95.symm
    subst h95
    refine Under.seq ?_
    refine Under.region ?_
    refine Under.ov (OpV.asg rfl) rfl ?_
    refine Under.nil ?_
    refine Under.tN ?_
    refine Under.retc ?_
    have e47 := Option.some.inj hF
    subst e47
    exact Under.rets Try.results39 (.tm rfl .nil) rfl rfl
  · intro K k46
    refine Under.seq ?_
    refine Under.region ?_
    refine Under.ov (OpV.asg rfl) rfl ?_
    refine Under.nil ?_
    refine Under.tN ?_
    refine Under.block ?_
    obtain ⟨r76, h77, h45⟩ := bsome h45
    refine Under.loop (S := Int) (C := Unit) () (fun (x92 : Int) (q93 : Unit) => [(2, .ptr (kArr 16 (kInt .u8)) a0), (3, .ptr (kArr 16 (kInt .u8)) a1), (5, .raw (.int .i64 x92))]) (fun (x92 : Int) (q93 : Unit) => L) h77 (sub_cons rfl (sub_cons rfl (sub_cons rfl (sub_nil _)))) rfl (fun x92 q93 o78 h74 d75 => ?_)
    refine Under.seq ?_
    refine Under.seq ?_
    refine Under.region ?_
    refine Under.ov (OpV.move rfl) rfl ?_
    refine Under.ov (OpV.bin rfl rfl rfl) rfl ?_
    refine Under.nil ?_
    refine Under.tN ?_
    refine Under.ite h74 rfl (fun h74 => ?_) (fun h74 => ?_)
    · refine Under.code_skip ?_
      refine Under.tN ?_
      refine Under.seq ?_
      refine Under.block ?_
      refine Under.seq ?_
      refine Under.draw rfl (by kernel_rfl) fun F hF0 => ?_
      refine UnderQ.ov (OpV.move rfl) rfl ?_
      obtain ⟨x79, h80, h74⟩ := bsome h74
      refine UnderQ.ov (OpV.ixA h80 Try.underlying43 sz5 rfl rfl) rfl ?_
      refine UnderQ.ov (OpV.ldI kt5 rfl) rfl ?_
      refine UnderQ.ov (OpV.move rfl) rfl ?_
      obtain ⟨x81, h82, h74⟩ := bsome h74
      refine UnderQ.ov (OpV.ixA h82 Try.underlying43 sz5 rfl rfl) rfl ?_
      refine UnderQ.ov (OpV.ldI kt5 rfl) rfl ?_
      refine UnderQ.ov (OpV.bin rfl rfl rfl) rfl ?_
      refine UnderQ.nil hF0 ?_
      refine Under.tN ?_
      refine Under.ite h74 rfl (fun h74 => ?_) (fun h74 => ?_)
      · refine Under.seq ?_
        refine Under.draw rfl (by kernel_rfl) fun F hF0 => ?_
        refine UnderQ.ov (OpV.move rfl) rfl ?_
        obtain ⟨x83, h84, h74⟩ := bsome h74
        refine UnderQ.ov (OpV.ixA h84 Try.underlying43 sz5 rfl rfl) rfl ?_
        refine UnderQ.ov (OpV.ldI kt5 rfl) rfl ?_
        refine UnderQ.ov (OpV.move rfl) rfl ?_
        obtain ⟨x85, h86, h74⟩ := bsome h74
        refine UnderQ.ov (OpV.ixA h86 Try.underlying43 sz5 rfl rfl) rfl ?_
        refine UnderQ.ov (OpV.ldI kt5 rfl) rfl ?_
        refine UnderQ.ov (OpV.bin rfl rfl rfl) rfl ?_
        refine UnderQ.ov (OpV.asg rfl) rfl ?_
        refine UnderQ.nil hF0 ?_
        refine Under.tN ?_
        refine Under.retc ?_
        refine Under.bR ?_
        refine Under.tR ?_
        have e87 := done_eq h74 d75
        subst e87
        refine Under.tR ?_
        refine Under.bR ?_
        refine Under.tR ?_
        have e88 := Option.some.inj h45
        subst e88
        have e89 := Option.some.inj hF
        subst e89
        exact Under.rets Try.results39 (.tm rfl .nil) rfl rfl
      · refine Under.code_skip ?_
        refine Under.bN ?_
        refine Under.tN ?_
        refine Under.region ?_
        refine Under.ov (OpV.move rfl) rfl ?_
        refine Under.ov (OpV.bin rfl rfl rfl) rfl ?_
        refine Under.ov (OpV.asg rfl) rfl ?_
        refine Under.nil ?_
        exact Under.next _ () h74 (sub_cons rfl (sub_cons rfl (sub_cons rfl (sub_nil _)))) rfl
    · refine Under.exit ?_
      refine Under.tE ?_
      have e90 := done_eq h74 d75
      subst e90
      refine Under.tE ?_
      refine Under.bH ?_
      refine Under.tN ?_
      exact Under.weak (k46 () (Option.some.inj h45).symm) (sub_nil _)
/-- churn/churnref16.all -/
noncomputable def f_churnref16_all (a0 : Api_Window) : Option (List (List Int)) :=
  (((Loop.run (S := ((List (List Int)) × Int)) (R := (List (List Int))) (fun (x55, x56) =>
      bif decide (x56 < (a0.Epochs.length : Int)) then
        (idx a0.Epochs x56).bind fun x68 =>
        (app x55 x68.Tags).bind fun z70 =>
        some (.next (z70, IntKind.wrap .i64 (x56 + 1)))
      else
        some (.done x55)) ([], 0)).bind fun x62 =>
  some x62
    : Option (List (List Int)))).bind fun x36 =>
  some x36
theorem f_churnref16_all_ok {a0 : Api_Window} {r0 : (List (List Int))} (hF : f_churnref16_all a0 = some r0) (L : List Res) : Ok Try.prog 41 [SV.val kApi_Window a0] (L) (SV.val (kSl (kArr 16 (kInt .u8))) r0) (L) := by
  unfold f_churnref16_all at hF
  refine Ok.intro 21 [(0, .val kApi_Window a0)] Try.func41 rfl rfl rfl rfl (fun F0 => ?_)
  refine Under.seq ?_
  refine Under.region ?_
  refine Under.bxF (K := kApi_Window) rfl rdV rfl ?_
  refine Under.ov (OpV.asg rfl) rfl ?_
  refine Under.nil ?_
  refine Under.tN ?_
  refine Under.seq ?_
  refine Under.region ?_
  refine Under.ov (OpV.asg rfl) rfl ?_
  refine Under.nil ?_
  refine Under.tN ?_
  obtain ⟨r37, h38, hF⟩ := bsome hF
  refine Under.seq ?_
  refine Under.after (fun X => ∀ (x36 : List (List Int)), r37 = x36 → Under F0 21 [(3, .val (kSl (kArr 16 (kInt .u8))) x36)] (L) X) ?_ ?_
  · intro x36 h78
    replace h78 := h78.symm
    subst h78
    refine Under.seq ?_
    refine Under.region ?_
    refine Under.ov (OpV.move rfl) rfl ?_
    refine Under.ov (OpV.asg rfl) rfl ?_
    refine Under.nil ?_
    refine Under.tN ?_
    refine Under.retc ?_
    have e40 := Option.some.inj hF
    subst e40
    exact Under.rets Try.results41 (.tm rfl .nil) rfl rfl
  · intro K k39
    refine Under.seq ?_
    refine Under.region ?_
    refine Under.ov (OpV.asg rfl) rfl ?_
    refine Under.nil ?_
    refine Under.tN ?_
    refine Under.block ?_
    obtain ⟨r65, h66, h38⟩ := bsome h38
    refine Under.ownNil (K := kArr 16 (kInt .u8)) (e := 43) ?_
    refine Under.loop (S := ((List (List Int)) × Int)) (C := Value) (.slice none 0 0) (fun (x75 : ((List (List Int)) × Int)) (q76 : Value) => [(1, .ptr kApi_Window a0), (3, .raw q76), (4, .raw (.int .i64 x75.2))]) (fun (x75 : ((List (List Int)) × Int)) (q76 : Value) => (.own (kArr 16 (kInt .u8)) q76 43 x75.1) :: L) h66 (sub_cons rfl (sub_cons rfl (sub_cons rfl (sub_nil _)))) rfl (fun x75 q76 o67 h63 d64 => ?_)
    obtain ⟨x55, x56⟩ := x75
    dsimp only at h63 ⊢
    refine Under.seq ?_
    refine Under.seq ?_
    refine Under.region ?_
    refine Under.ov (OpV.move rfl) rfl ?_
    refine Under.ov (OpV.fd fb27_1 rfl rfl) rfl ?_
    refine Under.ov (OpV.ld kt25 rfl) rfl ?_
    refine Under.ov (OpV.len Try.underlying25 rfl rdV) rfl ?_
    refine Under.ov (OpV.bin rfl rfl rfl) rfl ?_
    refine Under.nil ?_
    refine Under.tN ?_
    refine Under.ite h63 rfl (fun h63 => ?_) (fun h63 => ?_)
    · refine Under.code_skip ?_
      refine Under.tN ?_
      refine Under.seq ?_
      refine Under.block ?_
      refine Under.region ?_
      refine Under.ov (OpV.move rfl) rfl ?_
      refine Under.ov (OpV.fd fb27_1 rfl rfl) rfl ?_
      refine Under.ov (OpV.ld kt25 rfl) rfl ?_
      refine Under.ov (OpV.move rfl) rfl ?_
      obtain ⟨x68, h69, h63⟩ := bsome h63
      refine Under.ov (OpV.ixS h69 Try.underlying25 sz61 rfl rdV rfl) rfl ?_
      refine Under.ov (OpV.fd fb61_1 rfl rfl) rfl ?_
      refine Under.ov (OpV.ld kt36 rfl) rfl ?_
      obtain ⟨z70, h71, h63⟩ := bsome h63
      refine Under.app h71 Try.underlying36 AT43 rfl rfl rdV rfl fun v72 => ?_
      refine Under.ov (OpV.asg rfl) rfl ?_
      refine Under.nil ?_
      refine Under.bN ?_
      refine Under.tN ?_
      refine Under.region ?_
      refine Under.ov (OpV.move rfl) rfl ?_
      refine Under.ov (OpV.bin rfl rfl rfl) rfl ?_
      refine Under.ov (OpV.asg rfl) rfl ?_
      refine Under.nil ?_
      exact Under.next _ v72 h63 (sub_cons rfl (sub_cons rfl (sub_cons rfl (sub_nil _)))) rfl
    · refine Under.frzO (t := 3) rfl ?_
      refine Under.exit ?_
      refine Under.tE ?_
      have e73 := done_eq h63 d64
      subst e73
      refine Under.tE ?_
      refine Under.bH ?_
      refine Under.tN ?_
      exact Under.weak (k39 _ (Option.some.inj h38).symm) (sub_cons rfl (sub_nil _))
end Go.Proofs.Ytgllljocmpbooaa

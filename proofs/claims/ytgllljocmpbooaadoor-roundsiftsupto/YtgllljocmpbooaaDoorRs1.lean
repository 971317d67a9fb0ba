/- PRINTED BY gen2.py (of this repo): functions of the program in Lean, and that the machine follows them. -/
import Derived.Test.YtgllljocmpbooaaDoorRs0
set_option linter.unusedVariables false
set_option linter.unusedSimpArgs false
set_option maxRecDepth 20000
namespace Go.Proofs.YtgllljocmpbooaaDoor
open Go Go.Sim Go.ChangeShapes Go.WideShapes Go.ChangeAt Go.RowKit
/-- churn/churnlaw21.plain -/
noncomputable def f_churnlaw21_plain  : Option Api_Config :=
  bif mkB 32 32 then
  some (⟨List.replicate (Int.toNat 32) (0 : Int), 2, 1, (0 : Int), (0 : Int), 1, (0 : Int), 1, 1, (0 : Int), 1⟩ : Api_Config)
  else none
theorem f_churnlaw21_plain_ok  {r0 : Api_Config} (hF : f_churnlaw21_plain = some r0) (L : List Res) : Ok Tryd.prog 5 [] (L) (SV.val kApi_Config r0) (L) := by
  unfold f_churnlaw21_plain at hF
  refine Ok.intro 3 [] Tryd.func5 rfl rfl rfl rfl (fun F0 => ?_)
  obtain ⟨h3, hF⟩ := gsome hF
  refine sr <| Under.al ZT24 rfl fun b1 => ns <| Under.mk h3 Tryd.underlying22 AT5 rfl rfl rfl fun v2 => Under.frzO (t := 1) rfl <| ov (OpV.bst BT24 (Bld.cons (x' := (⟨List.replicate (Int.toNat 32) (0 : Int), (0 : Int), (0 : Int), (0 : Int), (0 : Int), (0 : Int), (0 : Int), (0 : Int), (0 : Int), (0 : Int), (0 : Int)⟩ : Api_Config)) rfl rfl rdV (by intro q hq; simp only [List.mem_cons, List.not_mem_nil, or_false] at hq; rcases hq with rfl | rfl | rfl | rfl | rfl | rfl | rfl | rfl | rfl | rfl <;> rfl) (Bld.cons (x' := (⟨List.replicate (Int.toNat 32) (0 : Int), 2, (0 : Int), (0 : Int), (0 : Int), (0 : Int), (0 : Int), (0 : Int), (0 : Int), (0 : Int), (0 : Int)⟩ : Api_Config)) rfl rfl rdI ⟨rfl, (by intro q hq; simp only [List.mem_cons, List.not_mem_nil, or_false] at hq; rcases hq with rfl | rfl | rfl | rfl | rfl | rfl | rfl | rfl | rfl <;> rfl)⟩ (Bld.cons (x' := (⟨List.replicate (Int.toNat 32) (0 : Int), 2, 1, (0 : Int), (0 : Int), (0 : Int), (0 : Int), (0 : Int), (0 : Int), (0 : Int), (0 : Int)⟩ : Api_Config)) rfl rfl rdI ⟨rfl, ⟨rfl, (by intro q hq; simp only [List.mem_cons, List.not_mem_nil, or_false] at hq; rcases hq with rfl | rfl | rfl | rfl | rfl | rfl | rfl | rfl <;> rfl)⟩⟩ (Bld.cons (x' := (⟨List.replicate (Int.toNat 32) (0 : Int), 2, 1, (0 : Int), (0 : Int), 1, (0 : Int), (0 : Int), (0 : Int), (0 : Int), (0 : Int)⟩ : Api_Config)) rfl rfl rdI ⟨rfl, ⟨rfl, ⟨rfl, ⟨rfl, ⟨rfl, (by intro q hq; simp only [List.mem_cons, List.not_mem_nil, or_false] at hq; rcases hq with rfl | rfl | rfl | rfl | rfl <;> rfl)⟩⟩⟩⟩⟩ (Bld.cons (x' := (⟨List.replicate (Int.toNat 32) (0 : Int), 2, 1, (0 : Int), (0 : Int), 1, (0 : Int), 1, (0 : Int), (0 : Int), (0 : Int)⟩ : Api_Config)) rfl rfl rdI ⟨rfl, ⟨rfl, ⟨rfl, ⟨rfl, ⟨rfl, ⟨rfl, ⟨rfl, (by intro q hq; simp only [List.mem_cons, List.not_mem_nil, or_false] at hq; rcases hq with rfl | rfl | rfl <;> rfl)⟩⟩⟩⟩⟩⟩⟩ (Bld.cons (x' := (⟨List.replicate (Int.toNat 32) (0 : Int), 2, 1, (0 : Int), (0 : Int), 1, (0 : Int), 1, 1, (0 : Int), (0 : Int)⟩ : Api_Config)) rfl rfl rdI ⟨rfl, ⟨rfl, ⟨rfl, ⟨rfl, ⟨rfl, ⟨rfl, ⟨rfl, ⟨rfl, (by intro q hq; simp only [List.mem_cons, List.not_mem_nil, or_false] at hq; rcases hq with rfl | rfl <;> rfl)⟩⟩⟩⟩⟩⟩⟩⟩ (Bld.cons (x' := (⟨List.replicate (Int.toNat 32) (0 : Int), 2, 1, (0 : Int), (0 : Int), 1, (0 : Int), 1, 1, (0 : Int), 1⟩ : Api_Config)) rfl rfl rdI ⟨rfl, ⟨rfl, ⟨rfl, ⟨rfl, ⟨rfl, ⟨rfl, ⟨rfl, ⟨rfl, ⟨rfl, ⟨rfl, (fun q hq => by simp at hq)⟩⟩⟩⟩⟩⟩⟩⟩⟩⟩ (Bld.nil _))))))))) rfl <| Under.stP (x' := (⟨List.replicate (Int.toNat 32) (0 : Int), 2, 1, (0 : Int), (0 : Int), 1, (0 : Int), 1, 1, (0 : Int), 1⟩ : Api_Config)) .box .id sz24_kApi_Config rfl rfl rdV rfl <| nl <| Under.frz (t := 0) rfl <| tn <| rc ?_
  have e5 := osi hF
  subst e5
  exact Under.rets Tryd.results5 (.ce rfl kt24 .nil) rfl rfl
/-- churn/round.within -/
noncomputable def f_round_within (a0 : Int) (a1 : Int) (a2 : Int) : Option Bool :=
  some ((decide (a1 ≤ a0)) && (decide (a0 ≤ a2)))
theorem f_round_within_ok {a0 : Int} {a1 : Int} {a2 : Int} {r0 : Bool} (hF : f_round_within a0 a1 a2 = some r0) (L : List Res) : Ok Tryd.prog 14 [SV.raw (.int .i64 a0), SV.raw (.int .i64 a1), SV.raw (.int .i64 a2)] (L) (SV.raw (.bool r0)) (L) := by
  unfold f_round_within at hF
  refine Ok.intro 15 [(0, .raw (.int .i64 a0)), (1, .raw (.int .i64 a1)), (2, .raw (.int .i64 a2))] Tryd.func14 rfl rfl rfl rfl (fun F0 => ?_)
  refine sr <| ag rfl rfl <| ns <| mv rfl rfl <| mv rfl rfl <| bn rfl rfl rfl rfl <| mv rfl rfl <| runj_4 14 ((decide (a1 ≤ a0)) && (decide (a0 ≤ a2))) ?_ (fun k => ?_)
  ·refine ag rfl rfl <| nt <| rc ?_
   have e4 := osi hF
   subst e4
   exact Under.rets Tryd.results14 (.tm rfl .nil) rfl rfl
  ·refine by_ (t := 10) rfl (fun c1 => ?_) (fun c1 => ?_)
   ·exact gc c1 rfl rfl <| mv rfl rfl <| gc c1 rfl rfl <| mv rfl rfl <| gc c1 rfl rfl <| bn rfl rfl rfl rfl <| ov (pkT c1 rfl rfl) rfl <| rf 3 (and_t c1) rfl k
   ·exact sk c1 rfl rfl rfl <| sk c1 rfl rfl rfl <| sk c1 rfl rfl rfl <| ov (pkF c1 rfl rfl) rfl <| rf 3 (and_f (e := decide (a0 ≤ a2)) c1) rfl k
/-- churn/round.right -/
noncomputable def f_round_right (a0 : Api_Config) : Option Bool :=
  ((bif (a0.Master.length : Int) == 32 then
    (f_round_within a0.Left 1 8).bind fun y4 =>
    some y4
  else
    some false
    : Option Bool)).bind fun x3 =>
  ((bif x3 then
    (f_round_within a0.Span 1 8).bind fun y9 =>
    some y9
  else
    some false
    : Option Bool)).bind fun x8 =>
  ((bif x8 then
    (f_round_within a0.Room 0 4096).bind fun y14 =>
    some y14
  else
    some false
    : Option Bool)).bind fun x13 =>
  ((bif x13 then
    (f_round_within a0.Den 1 1000).bind fun y19 =>
    some y19
  else
    some false
    : Option Bool)).bind fun x18 =>
  ((bif x18 then
    (f_round_within a0.Num 0 a0.Den).bind fun y24 =>
    some y24
  else
    some false
    : Option Bool)).bind fun x23 =>
  ((bif x23 then
    (f_round_within a0.Noise 0 16).bind fun y29 =>
    some y29
  else
    some false
    : Option Bool)).bind fun x28 =>
  ((bif x28 then
    (f_round_within a0.Chunks 1 64).bind fun y34 =>
    some y34
  else
    some false
    : Option Bool)).bind fun x33 =>
  ((bif x33 then
    (f_round_within a0.Workers 1 64).bind fun y39 =>
    some y39
  else
    some false
    : Option Bool)).bind fun x38 =>
  ((bif x38 then
    (f_round_within a0.Cap 0 1024).bind fun y44 =>
    some y44
  else
    some false
    : Option Bool)).bind fun x43 =>
  ((bif x43 then
    (f_round_within a0.Shards 1 64).bind fun y49 =>
    some y49
  else
    some false
    : Option Bool)).bind fun x48 =>
  some x48
theorem f_round_right_ok {a0 : Api_Config} {r0 : Bool} (hF : f_round_right a0 = some r0) (L : List Res) : Ok Tryd.prog 7 [SV.val kApi_Config a0] (L) (SV.raw (.bool r0)) (L) := by
  unfold f_round_right at hF
  refine Ok.intro 63 [(0, .val kApi_Config a0)] Tryd.func7 rfl rfl rfl rfl (fun F0 => ?_)
  obtain ⟨x3, h2, hF⟩ := bsome hF
  refine sr <| Under.bxF (K := kApi_Config) rfl rdV rfl <| ag rfl rfl <| ns <| ov (OpV.fd fb24_0 rfl rfl) rfl <| ov (OpV.ld kt22 rfl) rfl <| ov (OpV.len Tryd.underlying22 rfl rdV) rfl <| bn rfl rfl rfl rfl <| mv rfl rfl <| runj_4 12 x3 ?_ (fun k => ?_)
  ·obtain ⟨x8, h7, hF⟩ := bsome hF
   refine mv rfl rfl <| runj_4 17 x8 ?_ (fun k => ?_)
   ·obtain ⟨x13, h12, hF⟩ := bsome hF
    refine ag rfl rfl <| ns <| mv rfl rfl <| mv rfl rfl <| runj_4 23 x13 ?_ (fun k => ?_)
    ·obtain ⟨x18, h17, hF⟩ := bsome hF
     refine mv rfl rfl <| runj_4 28 x18 ?_ (fun k => ?_)
     ·obtain ⟨x23, h22, hF⟩ := bsome hF
      refine mv rfl rfl <| runj_6 35 x23 ?_ (fun k => ?_)
      ·obtain ⟨x28, h27, hF⟩ := bsome hF
       refine ag rfl rfl <| ns <| mv rfl rfl <| mv rfl rfl <| runj_4 41 x28 ?_ (fun k => ?_)
       ·obtain ⟨x33, h32, hF⟩ := bsome hF
        refine mv rfl rfl <| runj_4 46 x33 ?_ (fun k => ?_)
        ·obtain ⟨x38, h37, hF⟩ := bsome hF
         refine ag rfl rfl <| ns <| mv rfl rfl <| mv rfl rfl <| runj_4 52 x38 ?_ (fun k => ?_)
         ·obtain ⟨x43, h42, hF⟩ := bsome hF
          refine mv rfl rfl <| runj_4 57 x43 ?_ (fun k => ?_)
          ·obtain ⟨x48, h47, hF⟩ := bsome hF
           refine mv rfl rfl <| runj_4 62 x48 ?_ (fun k => ?_)
           ·refine ag rfl rfl <| nt <| rc ?_
            have e51 := osi hF
            subst e51
            exact Under.rets Tryd.results7 (.tm rfl .nil) rfl rfl
           ·refine by_ (t := 58) rfl (fun c46 => ?_) (fun c46 => ?_)
            ·replace h47 := ctrue c46 h47
             obtain ⟨y49, h50, h47⟩ := bsome h47
             exact gc c46 rfl rfl <| ov (OpV.fd fb24_10 rfl rfl) rfl <| gc c46 rfl rfl <| ov (OpV.ldI kt3 rfl) rfl <| gc c46 rfl rfl <| Under.call Tryd.call14 rfl rfl (f_round_within_ok h50 _) rfl <| ov (pkT c46 rfl rfl) rfl <| rf 3 (rbq h47) rfl k
            ·replace h47 := cfalse c46 h47
             exact sk c46 rfl rfl rfl <| sk c46 rfl rfl rfl <| sk c46 rfl rfl rfl <| ov (pkF c46 rfl rfl) rfl <| rf 3 (rbq h47) rfl k
          ·refine by_ (t := 53) rfl (fun c41 => ?_) (fun c41 => ?_)
           ·replace h42 := ctrue c41 h42
            obtain ⟨y44, h45, h42⟩ := bsome h42
            exact gc c41 rfl rfl <| ov (OpV.fd fb24_9 rfl rfl) rfl <| gc c41 rfl rfl <| ov (OpV.ldI kt3 rfl) rfl <| gc c41 rfl rfl <| Under.call Tryd.call14 rfl rfl (f_round_within_ok h45 _) rfl <| ov (pkT c41 rfl rfl) rfl <| rf 3 (rbq h42) rfl k
           ·replace h42 := cfalse c41 h42
            exact sk c41 rfl rfl rfl <| sk c41 rfl rfl rfl <| sk c41 rfl rfl rfl <| ov (pkF c41 rfl rfl) rfl <| rf 3 (rbq h42) rfl k
         ·refine by_ (t := 48) rfl (fun c36 => ?_) (fun c36 => ?_)
          ·replace h37 := ctrue c36 h37
           obtain ⟨y39, h40, h37⟩ := bsome h37
           exact gc c36 rfl rfl <| ov (OpV.fd fb24_8 rfl rfl) rfl <| gc c36 rfl rfl <| ov (OpV.ldI kt3 rfl) rfl <| gc c36 rfl rfl <| Under.call Tryd.call14 rfl rfl (f_round_within_ok h40 _) rfl <| ov (pkT c36 rfl rfl) rfl <| rf 3 (rbq h37) rfl k
          ·replace h37 := cfalse c36 h37
           exact sk c36 rfl rfl rfl <| sk c36 rfl rfl rfl <| sk c36 rfl rfl rfl <| ov (pkF c36 rfl rfl) rfl <| rf 3 (rbq h37) rfl k
        ·refine by_ (t := 42) rfl (fun c31 => ?_) (fun c31 => ?_)
         ·replace h32 := ctrue c31 h32
          obtain ⟨y34, h35, h32⟩ := bsome h32
          exact gc c31 rfl rfl <| ov (OpV.fd fb24_7 rfl rfl) rfl <| gc c31 rfl rfl <| ov (OpV.ldI kt3 rfl) rfl <| gc c31 rfl rfl <| Under.call Tryd.call14 rfl rfl (f_round_within_ok h35 _) rfl <| ov (pkT c31 rfl rfl) rfl <| rf 3 (rbq h32) rfl k
         ·replace h32 := cfalse c31 h32
          exact sk c31 rfl rfl rfl <| sk c31 rfl rfl rfl <| sk c31 rfl rfl rfl <| ov (pkF c31 rfl rfl) rfl <| rf 3 (rbq h32) rfl k
       ·refine by_ (t := 37) rfl (fun c26 => ?_) (fun c26 => ?_)
        ·replace h27 := ctrue c26 h27
         obtain ⟨y29, h30, h27⟩ := bsome h27
         exact gc c26 rfl rfl <| ov (OpV.fd fb24_6 rfl rfl) rfl <| gc c26 rfl rfl <| ov (OpV.ldI kt3 rfl) rfl <| gc c26 rfl rfl <| Under.call Tryd.call14 rfl rfl (f_round_within_ok h30 _) rfl <| ov (pkT c26 rfl rfl) rfl <| rf 3 (rbq h27) rfl k
        ·replace h27 := cfalse c26 h27
         exact sk c26 rfl rfl rfl <| sk c26 rfl rfl rfl <| sk c26 rfl rfl rfl <| ov (pkF c26 rfl rfl) rfl <| rf 3 (rbq h27) rfl k
      ·refine by_ (t := 29) rfl (fun c21 => ?_) (fun c21 => ?_)
       ·replace h22 := ctrue c21 h22
        obtain ⟨y24, h25, h22⟩ := bsome h22
        exact gc c21 rfl rfl <| ov (OpV.fd fb24_4 rfl rfl) rfl <| gc c21 rfl rfl <| ov (OpV.ldI kt3 rfl) rfl <| gc c21 rfl rfl <| ov (OpV.fd fb24_5 rfl rfl) rfl <| gc c21 rfl rfl <| ov (OpV.ldI kt3 rfl) rfl <| gc c21 rfl rfl <| Under.call Tryd.call14 rfl rfl (f_round_within_ok h25 _) rfl <| ov (pkT c21 rfl rfl) rfl <| rf 5 (rbq h22) rfl k
       ·replace h22 := cfalse c21 h22
        exact sk c21 rfl rfl rfl <| sk c21 rfl rfl rfl <| sk c21 rfl rfl rfl <| sk c21 rfl rfl rfl <| sk c21 rfl rfl rfl <| ov (pkF c21 rfl rfl) rfl <| rf 5 (rbq h22) rfl k
     ·refine by_ (t := 24) rfl (fun c16 => ?_) (fun c16 => ?_)
      ·replace h17 := ctrue c16 h17
       obtain ⟨y19, h20, h17⟩ := bsome h17
       exact gc c16 rfl rfl <| ov (OpV.fd fb24_5 rfl rfl) rfl <| gc c16 rfl rfl <| ov (OpV.ldI kt3 rfl) rfl <| gc c16 rfl rfl <| Under.call Tryd.call14 rfl rfl (f_round_within_ok h20 _) rfl <| ov (pkT c16 rfl rfl) rfl <| rf 3 (rbq h17) rfl k
      ·replace h17 := cfalse c16 h17
       exact sk c16 rfl rfl rfl <| sk c16 rfl rfl rfl <| sk c16 rfl rfl rfl <| ov (pkF c16 rfl rfl) rfl <| rf 3 (rbq h17) rfl k
    ·refine by_ (t := 19) rfl (fun c11 => ?_) (fun c11 => ?_)
     ·replace h12 := ctrue c11 h12
      obtain ⟨y14, h15, h12⟩ := bsome h12
      exact gc c11 rfl rfl <| ov (OpV.fd fb24_3 rfl rfl) rfl <| gc c11 rfl rfl <| ov (OpV.ldI kt3 rfl) rfl <| gc c11 rfl rfl <| Under.call Tryd.call14 rfl rfl (f_round_within_ok h15 _) rfl <| ov (pkT c11 rfl rfl) rfl <| rf 3 (rbq h12) rfl k
     ·replace h12 := cfalse c11 h12
      exact sk c11 rfl rfl rfl <| sk c11 rfl rfl rfl <| sk c11 rfl rfl rfl <| ov (pkF c11 rfl rfl) rfl <| rf 3 (rbq h12) rfl k
   ·refine by_ (t := 13) rfl (fun c6 => ?_) (fun c6 => ?_)
    ·replace h7 := ctrue c6 h7
     obtain ⟨y9, h10, h7⟩ := bsome h7
     exact gc c6 rfl rfl <| ov (OpV.fd fb24_2 rfl rfl) rfl <| gc c6 rfl rfl <| ov (OpV.ldI kt3 rfl) rfl <| gc c6 rfl rfl <| Under.call Tryd.call14 rfl rfl (f_round_within_ok h10 _) rfl <| ov (pkT c6 rfl rfl) rfl <| rf 3 (rbq h7) rfl k
    ·replace h7 := cfalse c6 h7
     exact sk c6 rfl rfl rfl <| sk c6 rfl rfl rfl <| sk c6 rfl rfl rfl <| ov (pkF c6 rfl rfl) rfl <| rf 3 (rbq h7) rfl k
  ·refine by_ (t := 8) rfl (fun c1 => ?_) (fun c1 => ?_)
   ·replace h2 := ctrue c1 h2
    obtain ⟨y4, h5, h2⟩ := bsome h2
    exact gc c1 rfl rfl <| ov (OpV.fd fb24_1 rfl rfl) rfl <| gc c1 rfl rfl <| ov (OpV.ldI kt3 rfl) rfl <| gc c1 rfl rfl <| Under.call Tryd.call14 rfl rfl (f_round_within_ok h5 _) rfl <| ov (pkT c1 rfl rfl) rfl <| rf 3 (rbq h2) rfl k
   ·replace h2 := cfalse c1 h2
    exact sk c1 rfl rfl rfl <| sk c1 rfl rfl rfl <| sk c1 rfl rfl rfl <| ov (pkF c1 rfl rfl) rfl <| rf 3 (rbq h2) rfl k
/-- churn/hash.New -/
noncomputable def f_hash_New  : Option Hash_Hash :=
  some (⟨(List.replicate 8 (0 : Int)), (List.replicate 64 (0 : Int)), (0 : Int)⟩ : Hash_Hash)
theorem f_hash_New_ok  {r0 : Hash_Hash} (hF : f_hash_New = some r0) (L : List Res) : Ok Tryd.prog 67 [] (L) (SV.val kHash_Hash r0) (L) := by
  unfold f_hash_New at hF
  refine Ok.intro 2 [] Tryd.func67 rfl rfl rfl rfl (fun F0 => ?_)
  refine sr <| Under.al ZT103 rfl fun b1 => ns <| ov (OpV.bst BT103 (Bld.nil _)) rfl <| Under.stP (x' := (⟨(List.replicate 8 (0 : Int)), (List.replicate 64 (0 : Int)), (0 : Int)⟩ : Hash_Hash)) .box .id sz103_kHash_Hash rfl rfl rdV rfl <| nl <| Under.frz (t := 0) rfl <| tn <| rc ?_
  have e2 := osi hF
  subst e2
  exact Under.rets Tryd.results67 (.ce rfl kt103 .nil) rfl rfl
/-- churn/hash.first -/
noncomputable def f_hash_first  : Option (List Int) :=
  some [1779033703, 3144134277, 1013904242, 2773480762, 1359893119, 2600822924, 528734635, 1541459225]
theorem f_hash_first_ok  {r0 : (List Int)} (hF : f_hash_first = some r0) (L : List Res) : Ok Tryd.prog 68 [] (L) (SV.val K2 r0) (L) := by
  unfold f_hash_first at hF
  refine Ok.intro 2 [] Tryd.func68 rfl rfl rfl rfl (fun F0 => ?_)
  refine sr <| Under.al ZT99 rfl fun b1 => ns <| ov (OpV.bar (ys := [1779033703, 3144134277, 1013904242, 2773480762, 1359893119, 2600822924, 528734635, 1541459225]) BTA99 (BldA.cons rfl rfl rdI (BldA.cons rfl rfl rdI (BldA.cons rfl rfl rdI (BldA.cons rfl rfl rdI (BldA.cons rfl rfl rdI (BldA.cons rfl rfl rdI (BldA.cons rfl rfl rdI (BldA.cons rfl rfl rdI (BldA.nil _)))))))))) rfl <| Under.stP (x' := [1779033703, 3144134277, 1013904242, 2773480762, 1359893119, 2600822924, 528734635, 1541459225]) .box .id sz99_kArr_8_kInt_u32_ rfl rfl rdV rfl <| nl <| Under.frz (t := 0) rfl <| tn <| rc ?_
  have e2 := osi hF
  subst e2
  exact Under.rets Tryd.results68 (.ce rfl kt99 .nil) rfl rfl
/-- math/bits.RotateLeft32 -/
noncomputable def f_bits_RotateLeft32 (a0 : Int) (a1 : Int) : Option Int :=
  bif decide (0 ≤ (andI .u64 (IntKind.wrap .u64 a1) 31)) then
  bif decide (0 ≤ (IntKind.wrap .u64 (32 - (andI .u64 (IntKind.wrap .u64 a1) 31)))) then
  some (orI .u32 (shlI .u32 a0 (andI .u64 (IntKind.wrap .u64 a1) 31)) (shrI .u32 a0 (IntKind.wrap .u64 (32 - (andI .u64 (IntKind.wrap .u64 a1) 31)))))
  else none
  else none
theorem f_bits_RotateLeft32_ok {a0 : Int} {a1 : Int} {r0 : Int} (hF : f_bits_RotateLeft32 a0 a1 = some r0) (L : List Res) : Ok Tryd.prog 77 [SV.raw (.int .u32 a0), SV.raw (.int .i64 a1)] (L) (SV.raw (.int .u32 r0)) (L) := by
  unfold f_bits_RotateLeft32 at hF
  refine Ok.intro 17 [(0, .raw (.int .u32 a0)), (1, .raw (.int .i64 a1))] Tryd.func77 rfl rfl rfl rfl (fun F0 => ?_)
  obtain ⟨h1, hF⟩ := gsome hF
  obtain ⟨h2, hF⟩ := gsome hF
  refine sr <| ag rfl rfl <| ns <| mv rfl rfl <| ov (OpV.conv (by kernel_rfl) Tryd.underlying82 rfl) rfl <| bn rfl rfl rfl rfl <| ag rfl rfl <| ns <| mv rfl rfl <| mv rfl rfl <| ov (OpV.sh rfl rfl (of_decide_eq_true h1) rfl) rfl <| mv rfl rfl <| mv rfl rfl <| bn rfl rfl rfl rfl <| ov (OpV.sh rfl rfl (of_decide_eq_true h2) rfl) rfl <| bn rfl rfl rfl rfl <| ag rfl rfl <| nt <| rc ?_
  have e3 := osi hF
  subst e3
  exact Under.rets Tryd.results77 (.tm rfl .nil) rfl rfl
/-- (churn/hash.state).block -/
noncomputable def f_hash_state_block (a0 : List Int) (a1 : List Int) : Option (List Int) :=
  (((Loop.run (S := (Int × (List Int))) (R := (List Int)) (fun (x678, x679) =>
      bif decide (x678 < 16) then
        (idx a1 (IntKind.wrap .i64 (4 * x678))).bind fun x698 =>
        (idx a1 (IntKind.wrap .i64 ((IntKind.wrap .i64 (4 * x678)) + 1))).bind fun x700 =>
        (idx a1 (IntKind.wrap .i64 ((IntKind.wrap .i64 (4 * x678)) + 2))).bind fun x702 =>
        (idx a1 (IntKind.wrap .i64 ((IntKind.wrap .i64 (4 * x678)) + 3))).bind fun x704 =>
        (idx x679 x678).bind fun x706 =>
        some (.next (IntKind.wrap .i64 (x678 + 1), List.set x679 (Int.toNat x678) (orI .u32 (orI .u32 (orI .u32 (shlI .u32 (IntKind.wrap .u32 x698) 24) (shlI .u32 (IntKind.wrap .u32 x700) 16)) (shlI .u32 (IntKind.wrap .u32 x702) 8)) (IntKind.wrap .u32 x704))))
      else
        some (.done x679)) (0, (List.replicate 64 (0 : Int)))).bind fun x691 =>
  some x691
    : Option (List Int))).bind fun x61 =>
  (((Loop.run (S := (Int × (List Int))) (R := (List Int)) (fun (x600, x601) =>
      bif decide (x600 < 64) then
        (idx x601 (IntKind.wrap .i64 (x600 - 15))).bind fun x629 =>
        (idx x601 (IntKind.wrap .i64 (x600 - 2))).bind fun x631 =>
        (f_bits_RotateLeft32 x629 (-7)).bind fun y633 =>
        (f_bits_RotateLeft32 x629 (-18)).bind fun y635 =>
        (f_bits_RotateLeft32 x631 (-17)).bind fun y637 =>
        (f_bits_RotateLeft32 x631 (-19)).bind fun y639 =>
        (idx x601 (IntKind.wrap .i64 (x600 - 7))).bind fun x642 =>
        (idx x601 (IntKind.wrap .i64 (x600 - 16))).bind fun x644 =>
        (idx x601 x600).bind fun x646 =>
        some (.next (IntKind.wrap .i64 (x600 + 1), List.set x601 (Int.toNat x600) (IntKind.wrap .u32 ((IntKind.wrap .u32 ((IntKind.wrap .u32 ((xorI .u32 (xorI .u32 y637 y639) (shrI .u32 x631 10)) + x642)) + (xorI .u32 (xorI .u32 y633 y635) (shrI .u32 x629 3)))) + x644))))
      else
        some (.done x601)) (16, x61)).bind fun x622 =>
  some x622
    : Option (List Int))).bind fun x158 =>
  (((Loop.run (S := (Int × (List Int))) (R := (List Int)) (fun (x476, x477) =>
      bif decide (x476 < 64) then
        (idx x477 0).bind fun x519 =>
        (idx x477 1).bind fun x521 =>
        (idx x477 2).bind fun x523 =>
        (idx x477 4).bind fun x525 =>
        (idx x477 5).bind fun x527 =>
        (idx x477 6).bind fun x529 =>
        (f_bits_RotateLeft32 x525 (-6)).bind fun y531 =>
        (f_bits_RotateLeft32 x525 (-11)).bind fun y533 =>
        (f_bits_RotateLeft32 x525 (-25)).bind fun y535 =>
        (f_bits_RotateLeft32 x519 (-2)).bind fun y537 =>
        (f_bits_RotateLeft32 x519 (-13)).bind fun y539 =>
        (f_bits_RotateLeft32 x519 (-22)).bind fun y541 =>
        (idx x477 7).bind fun x544 =>
        (idx glob0 x476).bind fun x546 =>
        (idx x158 x476).bind fun x548 =>
        (idx x477 3).bind fun x550 =>
        some (.next (IntKind.wrap .i64 (x476 + 1), [IntKind.wrap .u32 ((IntKind.wrap .u32 ((IntKind.wrap .u32 ((IntKind.wrap .u32 ((IntKind.wrap .u32 (x544 + (xorI .u32 (xorI .u32 y531 y533) y535))) + (xorI .u32 (andI .u32 x525 x527) (andI .u32 (cplI .u32 x525) x529)))) + x546)) + x548)) + (IntKind.wrap .u32 ((xorI .u32 (xorI .u32 y537 y539) y541) + (xorI .u32 (xorI .u32 (andI .u32 x519 x521) (andI .u32 x519 x523)) (andI .u32 x521 x523))))), x519, x521, x523, IntKind.wrap .u32 (x550 + (IntKind.wrap .u32 ((IntKind.wrap .u32 ((IntKind.wrap .u32 ((IntKind.wrap .u32 (x544 + (xorI .u32 (xorI .u32 y531 y533) y535))) + (xorI .u32 (andI .u32 x525 x527) (andI .u32 (cplI .u32 x525) x529)))) + x546)) + x548))), x525, x527, x529]))
      else
        some (.done x477)) (0, a0)).bind fun x512 =>
  some x512
    : Option (List Int))).bind fun x312 =>
  (((Loop.run (S := (Int × (List Int))) (R := (List Int)) (fun (x378, x379) =>
      bif decide (x378 < 8) then
        (idx x379 x378).bind fun x394 =>
        (idx x312 x378).bind fun x396 =>
        (idx x379 x378).bind fun x398 =>
        some (.next (IntKind.wrap .i64 (x378 + 1), List.set x379 (Int.toNat x378) (IntKind.wrap .u32 (x394 + x396))))
      else
        some (.done x379)) (0, a0)).bind fun x387 =>
  some x387
    : Option (List Int))).bind fun x357 =>
  some x357
theorem f_hash_state_block_ok {a0 : List Int} {a1 : List Int} {r0 : (List Int)} (hF : f_hash_state_block a0 a1 = some r0) (L : List Res) : Ok Tryd.prog 69 [SV.val K2 a0, SV.val (kArr 64 K8) a1] (L) (SV.val K2 r0) (L) := by
  unfold f_hash_state_block at hF
  refine Ok.intro 197 [(0, .val K2 a0), (1, .val (kArr 64 K8) a1)] Tryd.func69 rfl rfl rfl rfl (fun F0 => ?_)
  obtain ⟨r62, h63, hF⟩ := bsome hF
  refine sr <| Under.bx (K := kArr 8 K7) rfl rdV rfl fun b1 => Under.bxF (K := kArr 64 K8) rfl rdV rfl <| Under.al ZT99 rfl fun b2 => ns <| Under.al ZT136 rfl fun b3 => nt <| sq <| Under.after (fun X => ∀ (x61 : List Int), r62 = x61 → Under F0 197 [(2, .raw (.pointer (some ⟨b1, 0, none⟩))), (4, .raw (.pointer (some ⟨b2, 0, none⟩))), (5, .raw (.pointer (some ⟨b3, 0, none⟩)))] ((.box K2 b1 99 a0) :: (.box K2 b2 99 (List.replicate 8 (0 : Int))) :: (.box K0 b3 136 x61) :: L) X) ?_ ?_
  ·intro x61 h713
   replace h713 := h713.symm
   subst h713
   obtain ⟨r159, h160, hF⟩ := bsome hF
   refine sq <| Under.after (fun X => ∀ (x158 : List Int), r159 = x158 → Under F0 197 [(2, .raw (.pointer (some ⟨b1, 0, none⟩))), (4, .raw (.pointer (some ⟨b2, 0, none⟩))), (5, .ptr K0 x158)] ((.box K2 b1 99 a0) :: (.box K2 b2 99 (List.replicate 8 (0 : Int))) :: L) X) ?_ ?_
   ·intro x158 h653
    replace h653 := h653.symm
    subst h653
    obtain ⟨r313, h314, hF⟩ := bsome hF
    refine sr <| Under.ldP .box .id kt99_kArr_8_kInt_u32_ rfl rfl <| Under.al ZT99 rfl fun b162 => Under.stP (x' := a0) .box .id sz99_kArr_8_kInt_u32_ rfl rfl rdV rfl <| nt <| sq <| Under.after (fun X => ∀ (x312 : List Int), r313 = x312 → Under F0 197 [(2, .raw (.pointer (some ⟨b1, 0, none⟩))), (4, .raw (.pointer (some ⟨b2, 0, none⟩))), (12, .ptr K2 x312)] ((.box K2 b1 99 a0) :: (.box K2 b2 99 (List.replicate 8 (0 : Int))) :: L) X) ?_ ?_
    ·intro x312 h557
     replace h557 := h557.symm
     subst h557
     obtain ⟨r358, h359, hF⟩ := bsome hF
     refine sq <| Under.after (fun X => ∀ (x357 : List Int), r358 = x357 → Under F0 197 [(2, .ptr K2 x357), (4, .raw (.pointer (some ⟨b2, 0, none⟩)))] ((.box K2 b2 99 (List.replicate 8 (0 : Int))) :: L) X) ?_ ?_
     ·intro x357 h405
      replace h405 := h405.symm
      subst h405
      refine sr <| ov (OpV.ld kt99 rfl) rfl <| Under.stP (x' := x357) .box .id sz99_kArr_8_kInt_u32_ rfl rfl rdV rfl <| nl <| Under.frz (t := 4) rfl <| tn <| rc ?_
      have e361 := osi hF
      subst e361
      exact Under.rets Tryd.results69 (.ce rfl kt99 .nil) rfl rfl
     ·intro K k360
      obtain ⟨r390, h391, h359⟩ := bsome h359
      refine sr <| mv rfl rfl <| nt <| bk <| Under.fo1 <| Under.fo1 <| Under.loop (S := (Int × (List Int))) (C := Unit) () (fun (x402 : (Int × (List Int))) (q403 : Unit) => [(2, .raw (.pointer (some ⟨b1, 0, none⟩))), (4, .raw (.pointer (some ⟨b2, 0, none⟩))), (12, .ptr K2 x312), (184, .raw (.int .i64 x402.1))]) (fun (x402 : (Int × (List Int))) (q403 : Unit) => (.box K2 b1 99 x402.2) :: (.box K2 b2 99 (List.replicate 8 (0 : Int))) :: L) h391 (s4 rfl rfl rfl rfl) rfl (fun x402 q403 o392 h388 d389 => ?_)
      obtain ⟨x378, x379⟩ := x402
      dsimp only at h388 ⊢
      refine sr <| bn rfl rfl rfl rfl <| nt <| sq <| Under.ite h388 rfl (fun h388 => ?_) (fun h388 => ?_)
      ·obtain ⟨x394, h395, h388⟩ := bsome h388
       obtain ⟨x396, h397, h388⟩ := bsome h388
       obtain ⟨x398, h399, h388⟩ := bsome h388
       refine ct <| sq <| bk <| sr <| mv rfl rfl <| ag rfl rfl <| nt <| Under.phases rfl <| Under.fo1 <| Under.fo1 <| Under.grpT (L := L) [0, 1, 2, 3, 4, 5] [[24], [2, 187], [188], [24], [12, 190], [191]] [⟨sk0 (.raw (.int .i64 x378)), [], [], []⟩, ⟨sk0 (.raw (.pointer (some ⟨b1, 0 + Int.toNat x378 * 1, none⟩))), [], [], []⟩, ⟨sk0 (.raw (.int .u32 x394)), [], [], []⟩, ⟨sk0 (.raw (.int .i64 x378)), [], [], []⟩, ⟨sk0 (.ptr K7 x396), [], [], []⟩, ⟨sk0 (.raw (.int .u32 x396)), [], [], []⟩] [] (fun T : List Res => (.box K2 b1 99 x379) :: (.box K2 b2 99 (List.replicate 8 (0 : Int))) :: T) lf2 rfl (by kernel_rfl) rfl rfl (fun F hF0 bs393 => ?_)
       refine Tq.v (fun G T hG => ?_) ?_
       ·exact mv rfl rfl <| Under.fo1 <| Under.fo1 <| Tq.end undef rfl rfl
       refine Tq.v (fun G T hG => ?_) ?_
       ·exact ov (OpV.ixP .box .id h395 Tryd.underlying99 sz97_kInt_u32 rfl rfl) rfl <| Under.fo1 <| Under.fo1 <| Tq.end undef rfl rfl
       refine Tq.v (fun G T hG => ?_) ?_
       ·exact Under.ldP .box (.ix .id h395) kt97_kInt_u32 rfl rfl <| Under.rawI (t := 189) rfl <| Under.fo1 <| Under.fo1 <| Tq.end undef rfl rfl
       refine Tq.v (fun G T hG => ?_) ?_
       ·exact mv rfl rfl <| Under.fo1 <| Under.fo1 <| Tq.end undef rfl rfl
       refine Tq.v (fun G T hG => ?_) ?_
       ·exact ov (OpV.ixA h397 Tryd.underlying99 sz97 rfl rfl) rfl <| Under.fo1 <| Under.fo1 <| Tq.end undef rfl rfl
       refine Tq.v (fun G T hG => ?_) ?_
       ·exact ov (OpV.ldI kt97 rfl) rfl <| Under.fo1 <| Under.fo1 <| Tq.end undef rfl rfl
       exact Tq.nil <| Under.le hF0 <| Under.p1 6 rfl rfl <| bn rfl rfl rfl rfl <| Under.pn <| Under.p1 7 rfl rfl <| ov (OpV.ixP .box .id h399 Tryd.underlying99 sz97_kInt_u32 rfl rfl) rfl <| Under.pn <| Under.p1 8 rfl rfl <| Under.stP (x' := List.set x379 (Int.toNat x378) (IntKind.wrap .u32 (x394 + x396))) .box (.ix .id h399) sz97_kInt_u32 rfl rfl rdI rfl <| Under.pn <| Under.pdone rfl <| bN <| tn <| rg <| bn rfl rfl rfl rfl <| mv rfl rfl <| nl <| Under.fo1 <| Under.fo1 <| Under.next _ () h388 (s4 rfl rfl rfl rfl) rfl
      ·refine Under.frz (t := 2) rfl <| xt <| te ?_
       have e400 := done_eq h388 d389
       subst e400
       exact te <| bh <| tn <| wk (k360 _ (osi h359).symm) (s2 rfl rfl)
    ·intro K k315
     obtain ⟨r515, h516, h314⟩ := bsome h314
     refine sr <| mv rfl rfl <| nt <| bk <| Under.fo2 <| Under.fo2 <| Under.loop (S := (Int × (List Int))) (C := Unit) () (fun (x554 : (Int × (List Int))) (q555 : Unit) => [(2, .raw (.pointer (some ⟨b1, 0, none⟩))), (4, .raw (.pointer (some ⟨b2, 0, none⟩))), (5, .ptr K0 x158), (12, .raw (.pointer (some ⟨b162, 0, none⟩))), (104, .raw (.int .i64 x554.1))]) (fun (x554 : (Int × (List Int))) (q555 : Unit) => (.box K2 b1 99 a0) :: (.box K2 b2 99 (List.replicate 8 (0 : Int))) :: (.box K2 b162 99 x554.2) :: L) h516 (s5 rfl rfl rfl rfl rfl) rfl (fun x554 q555 o517 h513 d514 => ?_)
     obtain ⟨x476, x477⟩ := x554
     dsimp only at h513 ⊢
     refine sr <| bn rfl rfl rfl rfl <| nt <| sq <| Under.ite h513 rfl (fun h513 => ?_) (fun h513 => ?_)
     ·obtain ⟨x519, h520, h513⟩ := bsome h513
      obtain ⟨x521, h522, h513⟩ := bsome h513
      obtain ⟨x523, h524, h513⟩ := bsome h513
      obtain ⟨x525, h526, h513⟩ := bsome h513
      obtain ⟨x527, h528, h513⟩ := bsome h513
      obtain ⟨x529, h530, h513⟩ := bsome h513
      refine ct <| sq <| bk <| sr <| mv rfl rfl <| ag rfl rfl <| nt <| sq <| Under.phases rfl <| Under.fo2 <| Under.fo2 <| Under.fo2 <| Under.grpT (L := L) [0, 1, 2, 3, 4, 5, 6, 7, 8, 9, 10, 11, 12, 13, 14, 15, 16] [[12], [107], [12], [109], [12], [111], [12], [113], [12], [115], [12], [117], [108], [110], [112], [114], [116]] [⟨sk0 (.raw (.pointer (some ⟨b162, 0 + Int.toNat 0 * 1, none⟩))), [], [], []⟩, ⟨sk0 (.raw (.int .u32 x519)), [], [], []⟩, ⟨sk0 (.raw (.pointer (some ⟨b162, 0 + Int.toNat 1 * 1, none⟩))), [], [], []⟩, ⟨sk0 (.raw (.int .u32 x521)), [], [], []⟩, ⟨sk0 (.raw (.pointer (some ⟨b162, 0 + Int.toNat 2 * 1, none⟩))), [], [], []⟩, ⟨sk0 (.raw (.int .u32 x523)), [], [], []⟩, ⟨sk0 (.raw (.pointer (some ⟨b162, 0 + Int.toNat 4 * 1, none⟩))), [], [], []⟩, ⟨sk0 (.raw (.int .u32 x525)), [], [], []⟩, ⟨sk0 (.raw (.pointer (some ⟨b162, 0 + Int.toNat 5 * 1, none⟩))), [], [], []⟩, ⟨sk0 (.raw (.int .u32 x527)), [], [], []⟩, ⟨sk0 (.raw (.pointer (some ⟨b162, 0 + Int.toNat 6 * 1, none⟩))), [], [], []⟩, ⟨sk0 (.raw (.int .u32 x529)), [], [], []⟩, ⟨sk0 (.raw (.int .u32 x519)), [], [], []⟩, ⟨sk0 (.raw (.int .u32 x521)), [], [], []⟩, ⟨sk0 (.raw (.int .u32 x523)), [], [], []⟩, ⟨sk0 (.raw (.int .u32 x525)), [], [], []⟩, ⟨sk0 (.raw (.int .u32 x527)), [], [], []⟩] [] (fun T : List Res => (.box K2 b1 99 a0) :: (.box K2 b2 99 (List.replicate 8 (0 : Int))) :: (.box K2 b162 99 x477) :: T) lf3 rfl (by kernel_rfl) rfl rfl (fun F hF0 bs518 => ?_)
      refine Tq.v (fun G T hG => ?_) ?_
      ·exact Under.fo2 <| ov (OpV.ixP .box .id h520 Tryd.underlying99 sz97_kInt_u32 rfl rfl) rfl <| Under.fo2 <| Under.fo2 <| Tq.end undef rfl rfl
      refine Tq.v (fun G T hG => ?_) ?_
      ·exact Under.fo2 <| Under.ldP .box (.ix .id h520) kt97_kInt_u32 rfl rfl <| Under.rawI (t := 108) rfl <| Under.fo2 <| Under.fo2 <| Tq.end undef rfl rfl
      refine Tq.v (fun G T hG => ?_) ?_
      ·exact Under.fo2 <| ov (OpV.ixP .box .id h522 Tryd.underlying99 sz97_kInt_u32 rfl rfl) rfl <| Under.fo2 <| Under.fo2 <| Tq.end undef rfl rfl
      refine Tq.v (fun G T hG => ?_) ?_
      ·exact Under.fo2 <| Under.ldP .box (.ix .id h522) kt97_kInt_u32 rfl rfl <| Under.rawI (t := 110) rfl <| Under.fo2 <| Under.fo2 <| Tq.end undef rfl rfl
      refine Tq.v (fun G T hG => ?_) ?_
      ·exact Under.fo2 <| ov (OpV.ixP .box .id h524 Tryd.underlying99 sz97_kInt_u32 rfl rfl) rfl <| Under.fo2 <| Under.fo2 <| Tq.end undef rfl rfl
      refine Tq.v (fun G T hG => ?_) ?_
      ·exact Under.fo2 <| Under.ldP .box (.ix .id h524) kt97_kInt_u32 rfl rfl <| Under.rawI (t := 112) rfl <| Under.fo2 <| Under.fo2 <| Tq.end undef rfl rfl
      refine Tq.v (fun G T hG => ?_) ?_
      ·exact Under.fo2 <| ov (OpV.ixP .box .id h526 Tryd.underlying99 sz97_kInt_u32 rfl rfl) rfl <| Under.fo2 <| Under.fo2 <| Tq.end undef rfl rfl
      refine Tq.v (fun G T hG => ?_) ?_
      ·exact Under.fo2 <| Under.ldP .box (.ix .id h526) kt97_kInt_u32 rfl rfl <| Under.rawI (t := 114) rfl <| Under.fo2 <| Under.fo2 <| Tq.end undef rfl rfl
      refine Tq.v (fun G T hG => ?_) ?_
      ·exact Under.fo2 <| ov (OpV.ixP .box .id h528 Tryd.underlying99 sz97_kInt_u32 rfl rfl) rfl <| Under.fo2 <| Under.fo2 <| Tq.end undef rfl rfl
      refine Tq.v (fun G T hG => ?_) ?_
      ·exact Under.fo2 <| Under.ldP .box (.ix .id h528) kt97_kInt_u32 rfl rfl <| Under.rawI (t := 116) rfl <| Under.fo2 <| Under.fo2 <| Tq.end undef rfl rfl
      refine Tq.v (fun G T hG => ?_) ?_
      ·exact Under.fo2 <| ov (OpV.ixP .box .id h530 Tryd.underlying99 sz97_kInt_u32 rfl rfl) rfl <| Under.fo2 <| Under.fo2 <| Tq.end undef rfl rfl
      refine Tq.v (fun G T hG => ?_) ?_
      ·exact Under.fo2 <| Under.ldP .box (.ix .id h530) kt97_kInt_u32 rfl rfl <| Under.rawI (t := 118) rfl <| Under.fo2 <| Under.fo2 <| Tq.end undef rfl rfl
      refine Tq.v (fun G T hG => ?_) ?_
      ·exact ag rfl rfl <| Under.fo2 <| Under.fo2 <| Under.fo2 <| Tq.end undef rfl rfl
      refine Tq.v (fun G T hG => ?_) ?_
      ·exact ag rfl rfl <| Under.fo2 <| Under.fo2 <| Under.fo2 <| Tq.end undef rfl rfl
      refine Tq.v (fun G T hG => ?_) ?_
      ·exact ag rfl rfl <| Under.fo2 <| Under.fo2 <| Under.fo2 <| Tq.end undef rfl rfl
      refine Tq.v (fun G T hG => ?_) ?_
      ·exact ag rfl rfl <| Under.fo2 <| Under.fo2 <| Under.fo2 <| Tq.end undef rfl rfl
      refine Tq.v (fun G T hG => ?_) ?_
      ·exact ag rfl rfl <| Under.fo2 <| Under.fo2 <| Under.fo2 <| Tq.end undef rfl rfl
      obtain ⟨y531, h532, h513⟩ := bsome h513
      obtain ⟨y533, h534, h513⟩ := bsome h513
      obtain ⟨y535, h536, h513⟩ := bsome h513
      obtain ⟨y537, h538, h513⟩ := bsome h513
      obtain ⟨y539, h540, h513⟩ := bsome h513
      obtain ⟨y541, h542, h513⟩ := bsome h513
      obtain ⟨x544, h545, h513⟩ := bsome h513
      obtain ⟨x546, h547, h513⟩ := bsome h513
      obtain ⟨x548, h549, h513⟩ := bsome h513
      refine Tq.nil <| Under.le hF0 <| Under.p1 17 rfl rfl <| ag rfl rfl <| Under.pn <| Under.pdone rfl <| tn <| sr <| mv rfl rfl <| Under.call Tryd.call77 rfl rfl (f_bits_RotateLeft32_ok h532 _) rfl <| mv rfl rfl <| Under.call Tryd.call77 rfl rfl (f_bits_RotateLeft32_ok h534 _) rfl <| bn rfl rfl rfl rfl <| mv rfl rfl <| Under.call Tryd.call77 rfl rfl (f_bits_RotateLeft32_ok h536 _) rfl <| bn rfl rfl rfl rfl <| ag rfl rfl <| ns <| mv rfl rfl <| Under.call Tryd.call77 rfl rfl (f_bits_RotateLeft32_ok h538 _) rfl <| mv rfl rfl <| Under.call Tryd.call77 rfl rfl (f_bits_RotateLeft32_ok h540 _) rfl <| bn rfl rfl rfl rfl <| mv rfl rfl <| Under.call Tryd.call77 rfl rfl (f_bits_RotateLeft32_ok h542 _) rfl <| bn rfl rfl rfl rfl <| ag rfl rfl <| nt <| sq <| Under.phases rfl <| Under.fo2 <| Under.fo2 <| Under.fo2 <| Under.grpT (L := L) [0, 1, 2, 3, 4, 5, 6, 7, 8, 9, 10, 11, 12, 13, 14, 15, 16, 17, 18, 19] [[12], [135], [20], [136, 137], [17], [18], [139, 140], [17], [142], [19], [143, 144], [141, 145], [138, 146], [13], [148], [149], [147, 150], [13], [5, 152], [153]] [⟨sk0 (.raw (.pointer (some ⟨b162, 0 + Int.toNat 7 * 1, none⟩))), [], [], []⟩, ⟨sk0 (.raw (.int .u32 x544)), [], [], []⟩, ⟨sk0 (.raw (.int .u32 (xorI .u32 (xorI .u32 y531 y533) y535))), [], [], []⟩, ⟨sk0 (.raw (.int .u32 (IntKind.wrap .u32 (x544 + (xorI .u32 (xorI .u32 y531 y533) y535))))), [], [], []⟩, ⟨sk0 (.raw (.int .u32 x525)), [], [], []⟩, ⟨sk0 (.raw (.int .u32 x527)), [], [], []⟩, ⟨sk0 (.raw (.int .u32 (andI .u32 x525 x527))), [], [], []⟩, ⟨sk0 (.raw (.int .u32 x525)), [], [], []⟩, ⟨sk0 (.raw (.int .u32 (cplI .u32 x525))), [], [], []⟩, ⟨sk0 (.raw (.int .u32 x529)), [], [], []⟩, ⟨sk0 (.raw (.int .u32 (andI .u32 (cplI .u32 x525) x529))), [], [], []⟩, ⟨sk0 (.raw (.int .u32 (xorI .u32 (andI .u32 x525 x527) (andI .u32 (cplI .u32 x525) x529)))), [], [], []⟩, ⟨sk0 (.raw (.int .u32 (IntKind.wrap .u32 ((IntKind.wrap .u32 (x544 + (xorI .u32 (xorI .u32 y531 y533) y535))) + (xorI .u32 (andI .u32 x525 x527) (andI .u32 (cplI .u32 x525) x529)))))), [], [], []⟩, ⟨sk0 (.raw (.int .i64 x476)), [], [], []⟩, ⟨sk0 (.ptr K7 x546), [], [], []⟩, ⟨sk0 (.raw (.int .u32 x546)), [], [], []⟩, ⟨sk0 (.raw (.int .u32 (IntKind.wrap .u32 ((IntKind.wrap .u32 ((IntKind.wrap .u32 (x544 + (xorI .u32 (xorI .u32 y531 y533) y535))) + (xorI .u32 (andI .u32 x525 x527) (andI .u32 (cplI .u32 x525) x529)))) + x546)))), [], [], []⟩, ⟨sk0 (.raw (.int .i64 x476)), [], [], []⟩, ⟨sk0 (.ptr K7 x548), [], [], []⟩, ⟨sk0 (.raw (.int .u32 x548)), [], [], []⟩] [] (fun T : List Res => (.box K2 b1 99 a0) :: (.box K2 b2 99 (List.replicate 8 (0 : Int))) :: (.box K2 b162 99 x477) :: T) lf3 rfl (by kernel_rfl) rfl rfl (fun F hF0 bs543 => ?_)
      refine Tq.v (fun G T hG => ?_) ?_
      ·exact Under.fo2 <| ov (OpV.ixP .box .id h545 Tryd.underlying99 sz97_kInt_u32 rfl rfl) rfl <| Under.fo2 <| Under.fo2 <| Tq.end undef rfl rfl
      refine Tq.v (fun G T hG => ?_) ?_
      ·exact Under.fo2 <| Under.ldP .box (.ix .id h545) kt97_kInt_u32 rfl rfl <| Under.rawI (t := 136) rfl <| Under.fo2 <| Under.fo2 <| Tq.end undef rfl rfl
      refine Tq.v (fun G T hG => ?_) ?_
      ·exact mv rfl rfl <| Under.fo2 <| Under.fo2 <| Under.fo2 <| Tq.end undef rfl rfl
      refine Tq.v (fun G T hG => ?_) ?_
      ·exact bn rfl rfl rfl rfl <| Under.fo2 <| Under.fo2 <| Under.fo2 <| Tq.end undef rfl rfl
      refine Tq.v (fun G T hG => ?_) ?_
      ·exact mv rfl rfl <| Under.fo2 <| Under.fo2 <| Under.fo2 <| Tq.end undef rfl rfl
      refine Tq.v (fun G T hG => ?_) ?_
      ·exact mv rfl rfl <| Under.fo2 <| Under.fo2 <| Under.fo2 <| Tq.end undef rfl rfl
      refine Tq.v (fun G T hG => ?_) ?_
      ·exact bn rfl rfl rfl rfl <| Under.fo2 <| Under.fo2 <| Under.fo2 <| Tq.end undef rfl rfl
      refine Tq.v (fun G T hG => ?_) ?_
      ·exact mv rfl rfl <| Under.fo2 <| Under.fo2 <| Under.fo2 <| Tq.end undef rfl rfl
      refine Tq.v (fun G T hG => ?_) ?_
      ·exact ov (OpV.cpl rfl) rfl <| Under.fo2 <| Under.fo2 <| Under.fo2 <| Tq.end undef rfl rfl
      refine Tq.v (fun G T hG => ?_) ?_
      ·exact mv rfl rfl <| Under.fo2 <| Under.fo2 <| Under.fo2 <| Tq.end undef rfl rfl
      refine Tq.v (fun G T hG => ?_) ?_
      ·exact bn rfl rfl rfl rfl <| Under.fo2 <| Under.fo2 <| Under.fo2 <| Tq.end undef rfl rfl
      refine Tq.v (fun G T hG => ?_) ?_
      ·exact bn rfl rfl rfl rfl <| Under.fo2 <| Under.fo2 <| Under.fo2 <| Tq.end undef rfl rfl
      refine Tq.v (fun G T hG => ?_) ?_
      ·exact bn rfl rfl rfl rfl <| Under.fo2 <| Under.fo2 <| Under.fo2 <| Tq.end undef rfl rfl
      refine Tq.v (fun G T hG => ?_) ?_
      ·exact mv rfl rfl <| Under.fo2 <| Under.fo2 <| Under.fo2 <| Tq.end undef rfl rfl
      refine Tq.v (fun G T hG => ?_) ?_
      ·exact ov (OpV.ixA h547 Tryd.underlying136 sz97 rfl rfl) rfl <| Under.fo2 <| Under.fo2 <| Under.fo2 <| Tq.end undef rfl rfl
      refine Tq.v (fun G T hG => ?_) ?_
      ·exact ov (OpV.ldI kt97 rfl) rfl <| Under.fo2 <| Under.fo2 <| Under.fo2 <| Tq.end undef rfl rfl
      refine Tq.v (fun G T hG => ?_) ?_
      ·exact bn rfl rfl rfl rfl <| Under.fo2 <| Under.fo2 <| Under.fo2 <| Tq.end undef rfl rfl
      refine Tq.v (fun G T hG => ?_) ?_
      ·exact mv rfl rfl <| Under.fo2 <| Under.fo2 <| Under.fo2 <| Tq.end undef rfl rfl
      refine Tq.v (fun G T hG => ?_) ?_
      ·exact ov (OpV.ixA h549 Tryd.underlying136 sz97 rfl rfl) rfl <| Under.fo2 <| Under.fo2 <| Under.fo2 <| Tq.end undef rfl rfl
      refine Tq.v (fun G T hG => ?_) ?_
      ·exact ov (OpV.ldI kt97 rfl) rfl <| Under.fo2 <| Under.fo2 <| Under.fo2 <| Tq.end undef rfl rfl
      obtain ⟨x550, h551, h513⟩ := bsome h513
      exact Tq.nil <| Under.le hF0 <| Under.p1 20 rfl rfl <| bn rfl rfl rfl rfl <| Under.pn <| Under.p1 21 rfl rfl <| ag rfl rfl <| Under.pn <| Under.pdone rfl <| tn <| sr <| mv rfl rfl <| mv rfl rfl <| mv rfl rfl <| bn rfl rfl rfl rfl <| mv rfl rfl <| mv rfl rfl <| bn rfl rfl rfl rfl <| bn rfl rfl rfl rfl <| mv rfl rfl <| mv rfl rfl <| bn rfl rfl rfl rfl <| bn rfl rfl rfl rfl <| bn rfl rfl rfl rfl <| ag rfl rfl <| nt <| rg <| mv rfl rfl <| mv rfl rfl <| bn rfl rfl rfl rfl <| mv rfl rfl <| mv rfl rfl <| mv rfl rfl <| Under.fo2 <| ov (OpV.ixP .box .id h551 Tryd.underlying99 sz97_kInt_u32 rfl rfl) rfl <| Under.ldP .box (.ix .id h551) kt97_kInt_u32 rfl rfl <| Under.rawI (t := 176) rfl <| mv rfl rfl <| bn rfl rfl rfl rfl <| mv rfl rfl <| mv rfl rfl <| mv rfl rfl <| ov (OpV.bar (ys := [IntKind.wrap .u32 ((IntKind.wrap .u32 ((IntKind.wrap .u32 ((IntKind.wrap .u32 ((IntKind.wrap .u32 (x544 + (xorI .u32 (xorI .u32 y531 y533) y535))) + (xorI .u32 (andI .u32 x525 x527) (andI .u32 (cplI .u32 x525) x529)))) + x546)) + x548)) + (IntKind.wrap .u32 ((xorI .u32 (xorI .u32 y537 y539) y541) + (xorI .u32 (xorI .u32 (andI .u32 x519 x521) (andI .u32 x519 x523)) (andI .u32 x521 x523))))), x519, x521, x523, IntKind.wrap .u32 (x550 + (IntKind.wrap .u32 ((IntKind.wrap .u32 ((IntKind.wrap .u32 ((IntKind.wrap .u32 (x544 + (xorI .u32 (xorI .u32 y531 y533) y535))) + (xorI .u32 (andI .u32 x525 x527) (andI .u32 (cplI .u32 x525) x529)))) + x546)) + x548))), x525, x527, x529]) BTA99 (BldA.cons rfl rfl rdI (BldA.cons rfl rfl rdI (BldA.cons rfl rfl rdI (BldA.cons rfl rfl rdI (BldA.cons rfl rfl rdI (BldA.cons rfl rfl rdI (BldA.cons rfl rfl rdI (BldA.cons rfl rfl rdI (BldA.nil _)))))))))) rfl <| Under.stP (x' := [IntKind.wrap .u32 ((IntKind.wrap .u32 ((IntKind.wrap .u32 ((IntKind.wrap .u32 ((IntKind.wrap .u32 (x544 + (xorI .u32 (xorI .u32 y531 y533) y535))) + (xorI .u32 (andI .u32 x525 x527) (andI .u32 (cplI .u32 x525) x529)))) + x546)) + x548)) + (IntKind.wrap .u32 ((xorI .u32 (xorI .u32 y537 y539) y541) + (xorI .u32 (xorI .u32 (andI .u32 x519 x521) (andI .u32 x519 x523)) (andI .u32 x521 x523))))), x519, x521, x523, IntKind.wrap .u32 (x550 + (IntKind.wrap .u32 ((IntKind.wrap .u32 ((IntKind.wrap .u32 ((IntKind.wrap .u32 (x544 + (xorI .u32 (xorI .u32 y531 y533) y535))) + (xorI .u32 (andI .u32 x525 x527) (andI .u32 (cplI .u32 x525) x529)))) + x546)) + x548))), x525, x527, x529]) .box .id sz99_kArr_8_kInt_u32_ rfl rfl rdV rfl <| nl <| bN <| tn <| rg <| bn rfl rfl rfl rfl <| mv rfl rfl <| nl <| Under.fo2 <| Under.fo2 <| Under.next _ () h513 (s5 rfl rfl rfl rfl rfl) rfl
     ·refine Under.fo2 <| Under.frz (t := 12) rfl <| xt <| te ?_
      have e552 := done_eq h513 d514
      subst e552
      exact te <| bh <| tn <| Under.fo1 <| Under.fo1 <| wk (k315 _ (osi h314).symm) (s3 rfl rfl rfl)
   ·intro K k161
    obtain ⟨r625, h626, h160⟩ := bsome h160
    refine sr <| ag rfl rfl <| nt <| bk <| Under.fo2 <| Under.fo2 <| Under.fo2 <| Under.loop (S := (Int × (List Int))) (C := Unit) () (fun (x650 : (Int × (List Int))) (q651 : Unit) => [(2, .raw (.pointer (some ⟨b1, 0, none⟩))), (4, .raw (.pointer (some ⟨b2, 0, none⟩))), (5, .raw (.pointer (some ⟨b3, 0, none⟩))), (7, .raw (.int .i64 x650.1))]) (fun (x650 : (Int × (List Int))) (q651 : Unit) => (.box K2 b1 99 a0) :: (.box K2 b2 99 (List.replicate 8 (0 : Int))) :: (.box K0 b3 136 x650.2) :: L) h626 (s4 rfl rfl rfl rfl) rfl (fun x650 q651 o627 h623 d624 => ?_)
    obtain ⟨x600, x601⟩ := x650
    dsimp only at h623 ⊢
    refine sq <| sr <| mv rfl rfl <| bn rfl rfl rfl rfl <| nt <| Under.ite h623 rfl (fun h623 => ?_) (fun h623 => ?_)
    ·obtain ⟨x629, h630, h623⟩ := bsome h623
     obtain ⟨x631, h632, h623⟩ := bsome h623
     refine ct <| sq <| bk <| sq <| Under.phases rfl <| Under.fo2 <| Under.fo2 <| Under.fo2 <| Under.grpT (L := L) [0, 1, 2, 3, 4, 5, 6, 7, 8] [[7], [64], [5, 65], [66], [7], [68], [5, 69], [70], [67]] [⟨sk0 (.raw (.int .i64 x600)), [], [], []⟩, ⟨sk0 (.raw (.int .i64 (IntKind.wrap .i64 (x600 - 15)))), [], [], []⟩, ⟨sk0 (.raw (.pointer (some ⟨b3, 0 + Int.toNat (IntKind.wrap .i64 (x600 - 15)) * 1, none⟩))), [], [], []⟩, ⟨sk0 (.raw (.int .u32 x629)), [], [], []⟩, ⟨sk0 (.raw (.int .i64 x600)), [], [], []⟩, ⟨sk0 (.raw (.int .i64 (IntKind.wrap .i64 (x600 - 2)))), [], [], []⟩, ⟨sk0 (.raw (.pointer (some ⟨b3, 0 + Int.toNat (IntKind.wrap .i64 (x600 - 2)) * 1, none⟩))), [], [], []⟩, ⟨sk0 (.raw (.int .u32 x631)), [], [], []⟩, ⟨sk0 (.raw (.int .u32 x629)), [], [], []⟩] [] (fun T : List Res => (.box K2 b1 99 a0) :: (.box K2 b2 99 (List.replicate 8 (0 : Int))) :: (.box K0 b3 136 x601) :: T) lf3 rfl (by kernel_rfl) rfl rfl (fun F hF0 bs628 => ?_)
     refine Tq.v (fun G T hG => ?_) ?_
     ·exact mv rfl rfl <| Under.fo2 <| Under.fo2 <| Under.fo2 <| Tq.end undef rfl rfl
     refine Tq.v (fun G T hG => ?_) ?_
     ·exact bn rfl rfl rfl rfl <| Under.fo2 <| Under.fo2 <| Under.fo2 <| Tq.end undef rfl rfl
     refine Tq.v (fun G T hG => ?_) ?_
     ·exact Under.fo2 <| ov (OpV.ixP .box .id h630 Tryd.underlying136 sz97_kInt_u32 rfl rfl) rfl <| Under.fo2 <| Under.fo2 <| Tq.end undef rfl rfl
     refine Tq.v (fun G T hG => ?_) ?_
     ·exact Under.fo2 <| Under.ldP .box (.ix .id h630) kt97_kInt_u32 rfl rfl <| Under.rawI (t := 67) rfl <| Under.fo2 <| Under.fo2 <| Tq.end undef rfl rfl
     refine Tq.v (fun G T hG => ?_) ?_
     ·exact mv rfl rfl <| Under.fo2 <| Under.fo2 <| Under.fo2 <| Tq.end undef rfl rfl
     refine Tq.v (fun G T hG => ?_) ?_
     ·exact bn rfl rfl rfl rfl <| Under.fo2 <| Under.fo2 <| Under.fo2 <| Tq.end undef rfl rfl
     refine Tq.v (fun G T hG => ?_) ?_
     ·exact Under.fo2 <| ov (OpV.ixP .box .id h632 Tryd.underlying136 sz97_kInt_u32 rfl rfl) rfl <| Under.fo2 <| Under.fo2 <| Tq.end undef rfl rfl
     refine Tq.v (fun G T hG => ?_) ?_
     ·exact Under.fo2 <| Under.ldP .box (.ix .id h632) kt97_kInt_u32 rfl rfl <| Under.rawI (t := 71) rfl <| Under.fo2 <| Under.fo2 <| Tq.end undef rfl rfl
     refine Tq.v (fun G T hG => ?_) ?_
     ·exact ag rfl rfl <| Under.fo2 <| Under.fo2 <| Under.fo2 <| Tq.end undef rfl rfl
     obtain ⟨y633, h634, h623⟩ := bsome h623
     obtain ⟨y635, h636, h623⟩ := bsome h623
     obtain ⟨y637, h638, h623⟩ := bsome h623
     obtain ⟨y639, h640, h623⟩ := bsome h623
     obtain ⟨x642, h643, h623⟩ := bsome h623
     obtain ⟨x644, h645, h623⟩ := bsome h623
     obtain ⟨x646, h647, h623⟩ := bsome h623
     refine Tq.nil <| Under.le hF0 <| Under.p1 9 rfl rfl <| ag rfl rfl <| Under.pn <| Under.pdone rfl <| tn <| sr <| mv rfl rfl <| Under.call Tryd.call77 rfl rfl (f_bits_RotateLeft32_ok h634 _) rfl <| mv rfl rfl <| Under.call Tryd.call77 rfl rfl (f_bits_RotateLeft32_ok h636 _) rfl <| bn rfl rfl rfl rfl <| mv rfl rfl <| ov (OpV.sh rfl rfl (by decide) rfl) rfl <| bn rfl rfl rfl rfl <| ag rfl rfl <| ns <| mv rfl rfl <| Under.call Tryd.call77 rfl rfl (f_bits_RotateLeft32_ok h638 _) rfl <| mv rfl rfl <| Under.call Tryd.call77 rfl rfl (f_bits_RotateLeft32_ok h640 _) rfl <| bn rfl rfl rfl rfl <| mv rfl rfl <| ov (OpV.sh rfl rfl (by decide) rfl) rfl <| bn rfl rfl rfl rfl <| ag rfl rfl <| nt <| Under.phases rfl <| Under.fo2 <| Under.fo2 <| Under.fo2 <| Under.grpT (L := L) [0, 1, 2, 3, 4, 5, 6, 7, 8, 9, 10, 11, 12, 13] [[7], [11], [7], [90], [5, 91], [92], [89, 93], [10], [94, 95], [7], [97], [5, 98], [99], [96, 100]] [⟨sk0 (.raw (.int .i64 x600)), [], [], []⟩, ⟨sk0 (.raw (.int .u32 (xorI .u32 (xorI .u32 y637 y639) (shrI .u32 x631 10)))), [], [], []⟩, ⟨sk0 (.raw (.int .i64 x600)), [], [], []⟩, ⟨sk0 (.raw (.int .i64 (IntKind.wrap .i64 (x600 - 7)))), [], [], []⟩, ⟨sk0 (.raw (.pointer (some ⟨b3, 0 + Int.toNat (IntKind.wrap .i64 (x600 - 7)) * 1, none⟩))), [], [], []⟩, ⟨sk0 (.raw (.int .u32 x642)), [], [], []⟩, ⟨sk0 (.raw (.int .u32 (IntKind.wrap .u32 ((xorI .u32 (xorI .u32 y637 y639) (shrI .u32 x631 10)) + x642)))), [], [], []⟩, ⟨sk0 (.raw (.int .u32 (xorI .u32 (xorI .u32 y633 y635) (shrI .u32 x629 3)))), [], [], []⟩, ⟨sk0 (.raw (.int .u32 (IntKind.wrap .u32 ((IntKind.wrap .u32 ((xorI .u32 (xorI .u32 y637 y639) (shrI .u32 x631 10)) + x642)) + (xorI .u32 (xorI .u32 y633 y635) (shrI .u32 x629 3)))))), [], [], []⟩, ⟨sk0 (.raw (.int .i64 x600)), [], [], []⟩, ⟨sk0 (.raw (.int .i64 (IntKind.wrap .i64 (x600 - 16)))), [], [], []⟩, ⟨sk0 (.raw (.pointer (some ⟨b3, 0 + Int.toNat (IntKind.wrap .i64 (x600 - 16)) * 1, none⟩))), [], [], []⟩, ⟨sk0 (.raw (.int .u32 x644)), [], [], []⟩, ⟨sk0 (.raw (.int .u32 (IntKind.wrap .u32 ((IntKind.wrap .u32 ((IntKind.wrap .u32 ((xorI .u32 (xorI .u32 y637 y639) (shrI .u32 x631 10)) + x642)) + (xorI .u32 (xorI .u32 y633 y635) (shrI .u32 x629 3)))) + x644)))), [], [], []⟩] [] (fun T : List Res => (.box K2 b1 99 a0) :: (.box K2 b2 99 (List.replicate 8 (0 : Int))) :: (.box K0 b3 136 x601) :: T) lf3 rfl (by kernel_rfl) rfl rfl (fun F hF0 bs641 => ?_)
     refine Tq.v (fun G T hG => ?_) ?_
     ·exact mv rfl rfl <| Under.fo2 <| Under.fo2 <| Under.fo2 <| Tq.end undef rfl rfl
     refine Tq.v (fun G T hG => ?_) ?_
     ·exact mv rfl rfl <| Under.fo2 <| Under.fo2 <| Under.fo2 <| Tq.end undef rfl rfl
     refine Tq.v (fun G T hG => ?_) ?_
     ·exact mv rfl rfl <| Under.fo2 <| Under.fo2 <| Under.fo2 <| Tq.end undef rfl rfl
     refine Tq.v (fun G T hG => ?_) ?_
     ·exact bn rfl rfl rfl rfl <| Under.fo2 <| Under.fo2 <| Under.fo2 <| Tq.end undef rfl rfl
     refine Tq.v (fun G T hG => ?_) ?_
     ·exact Under.fo2 <| ov (OpV.ixP .box .id h643 Tryd.underlying136 sz97_kInt_u32 rfl rfl) rfl <| Under.fo2 <| Under.fo2 <| Tq.end undef rfl rfl
     refine Tq.v (fun G T hG => ?_) ?_
     ·exact Under.fo2 <| Under.ldP .box (.ix .id h643) kt97_kInt_u32 rfl rfl <| Under.rawI (t := 93) rfl <| Under.fo2 <| Under.fo2 <| Tq.end undef rfl rfl
     refine Tq.v (fun G T hG => ?_) ?_
     ·exact bn rfl rfl rfl rfl <| Under.fo2 <| Under.fo2 <| Under.fo2 <| Tq.end undef rfl rfl
     refine Tq.v (fun G T hG => ?_) ?_
     ·exact mv rfl rfl <| Under.fo2 <| Under.fo2 <| Under.fo2 <| Tq.end undef rfl rfl
     refine Tq.v (fun G T hG => ?_) ?_
     ·exact bn rfl rfl rfl rfl <| Under.fo2 <| Under.fo2 <| Under.fo2 <| Tq.end undef rfl rfl
     refine Tq.v (fun G T hG => ?_) ?_
     ·exact mv rfl rfl <| Under.fo2 <| Under.fo2 <| Under.fo2 <| Tq.end undef rfl rfl
     refine Tq.v (fun G T hG => ?_) ?_
     ·exact bn rfl rfl rfl rfl <| Under.fo2 <| Under.fo2 <| Under.fo2 <| Tq.end undef rfl rfl
     refine Tq.v (fun G T hG => ?_) ?_
     ·exact Under.fo2 <| ov (OpV.ixP .box .id h645 Tryd.underlying136 sz97_kInt_u32 rfl rfl) rfl <| Under.fo2 <| Under.fo2 <| Tq.end undef rfl rfl
     refine Tq.v (fun G T hG => ?_) ?_
     ·exact Under.fo2 <| Under.ldP .box (.ix .id h645) kt97_kInt_u32 rfl rfl <| Under.rawI (t := 100) rfl <| Under.fo2 <| Under.fo2 <| Tq.end undef rfl rfl
     refine Tq.v (fun G T hG => ?_) ?_
     ·exact bn rfl rfl rfl rfl <| Under.fo2 <| Under.fo2 <| Under.fo2 <| Tq.end undef rfl rfl
     exact Tq.nil <| Under.le hF0 <| Under.p1 14 rfl rfl <| Under.fo2 <| ov (OpV.ixP .box .id h647 Tryd.underlying136 sz97_kInt_u32 rfl rfl) rfl <| Under.pn <| Under.p1 15 rfl rfl <| Under.stP (x' := List.set x601 (Int.toNat x600) (IntKind.wrap .u32 ((IntKind.wrap .u32 ((IntKind.wrap .u32 ((xorI .u32 (xorI .u32 y637 y639) (shrI .u32 x631 10)) + x642)) + (xorI .u32 (xorI .u32 y633 y635) (shrI .u32 x629 3)))) + x644))) .box (.ix .id h647) sz97_kInt_u32 rfl rfl rdI rfl <| Under.pn <| Under.pdone rfl <| bN <| tn <| rg <| mv rfl rfl <| bn rfl rfl rfl rfl <| ag rfl rfl <| nl <| Under.fo2 <| Under.fo2 <| Under.next _ () h623 (s4 rfl rfl rfl rfl) rfl
    ·refine Under.fo2 <| Under.frz (t := 5) rfl <| xt <| te ?_
     have e648 := done_eq h623 d624
     subst e648
     exact te <| bh <| tn <| Under.fo1 <| Under.fo1 <| wk (k161 _ (osi h160).symm) (s3 rfl rfl rfl)
  ·intro K k64
   obtain ⟨r694, h695, h63⟩ := bsome h63
   refine sr <| mv rfl rfl <| nt <| bk <| Under.fo1 <| Under.fo2 <| Under.loop (S := (Int × (List Int))) (C := Unit) () (fun (x710 : (Int × (List Int))) (q711 : Unit) => [(2, .raw (.pointer (some ⟨b1, 0, none⟩))), (3, .ptr (kArr 64 K8) a1), (4, .raw (.pointer (some ⟨b2, 0, none⟩))), (5, .raw (.pointer (some ⟨b3, 0, none⟩))), (25, .raw (.int .i64 x710.1))]) (fun (x710 : (Int × (List Int))) (q711 : Unit) => (.box K2 b1 99 a0) :: (.box K2 b2 99 (List.replicate 8 (0 : Int))) :: (.box K0 b3 136 x710.2) :: L) h695 (s5 rfl rfl rfl rfl rfl) rfl (fun x710 q711 o696 h692 d693 => ?_)
   obtain ⟨x678, x679⟩ := x710
   dsimp only at h692 ⊢
   refine sr <| bn rfl rfl rfl rfl <| nt <| sq <| Under.ite h692 rfl (fun h692 => ?_) (fun h692 => ?_)
   ·obtain ⟨x698, h699, h692⟩ := bsome h692
    obtain ⟨x700, h701, h692⟩ := bsome h692
    obtain ⟨x702, h703, h692⟩ := bsome h692
    obtain ⟨x704, h705, h692⟩ := bsome h692
    obtain ⟨x706, h707, h692⟩ := bsome h692
    refine ct <| sq <| bk <| sr <| mv rfl rfl <| ag rfl rfl <| nt <| Under.phases rfl <| Under.fo2 <| Under.fo2 <| Under.fo2 <| Under.grpT (L := L) [0, 1, 2, 3, 4, 5, 6, 7, 8, 9, 10, 11, 12, 13, 14, 15, 16, 17, 18, 19, 20, 21, 22, 23, 24, 25, 26, 27, 28, 29] [[6], [6], [29], [3, 30], [31], [32], [33], [6], [35], [36], [3, 37], [38], [39], [40], [34, 41], [6], [43], [44], [3, 45], [46], [47], [48], [42, 49], [6], [51], [52], [3, 53], [54], [55], [50, 56]] [⟨sk0 (.raw (.int .i64 x678)), [], [], []⟩, ⟨sk0 (.raw (.int .i64 x678)), [], [], []⟩, ⟨sk0 (.raw (.int .i64 (IntKind.wrap .i64 (4 * x678)))), [], [], []⟩, ⟨sk0 (.ptr K8 x698), [], [], []⟩, ⟨sk0 (.raw (.int .u8 x698)), [], [], []⟩, ⟨sk0 (.raw (.int .u32 (IntKind.wrap .u32 x698))), [], [], []⟩, ⟨sk0 (.raw (.int .u32 (shlI .u32 (IntKind.wrap .u32 x698) 24))), [], [], []⟩, ⟨sk0 (.raw (.int .i64 x678)), [], [], []⟩, ⟨sk0 (.raw (.int .i64 (IntKind.wrap .i64 (4 * x678)))), [], [], []⟩, ⟨sk0 (.raw (.int .i64 (IntKind.wrap .i64 ((IntKind.wrap .i64 (4 * x678)) + 1)))), [], [], []⟩, ⟨sk0 (.ptr K8 x700), [], [], []⟩, ⟨sk0 (.raw (.int .u8 x700)), [], [], []⟩, ⟨sk0 (.raw (.int .u32 (IntKind.wrap .u32 x700))), [], [], []⟩, ⟨sk0 (.raw (.int .u32 (shlI .u32 (IntKind.wrap .u32 x700) 16))), [], [], []⟩, ⟨sk0 (.raw (.int .u32 (orI .u32 (shlI .u32 (IntKind.wrap .u32 x698) 24) (shlI .u32 (IntKind.wrap .u32 x700) 16)))), [], [], []⟩, ⟨sk0 (.raw (.int .i64 x678)), [], [], []⟩, ⟨sk0 (.raw (.int .i64 (IntKind.wrap .i64 (4 * x678)))), [], [], []⟩, ⟨sk0 (.raw (.int .i64 (IntKind.wrap .i64 ((IntKind.wrap .i64 (4 * x678)) + 2)))), [], [], []⟩, ⟨sk0 (.ptr K8 x702), [], [], []⟩, ⟨sk0 (.raw (.int .u8 x702)), [], [], []⟩, ⟨sk0 (.raw (.int .u32 (IntKind.wrap .u32 x702))), [], [], []⟩, ⟨sk0 (.raw (.int .u32 (shlI .u32 (IntKind.wrap .u32 x702) 8))), [], [], []⟩, ⟨sk0 (.raw (.int .u32 (orI .u32 (orI .u32 (shlI .u32 (IntKind.wrap .u32 x698) 24) (shlI .u32 (IntKind.wrap .u32 x700) 16)) (shlI .u32 (IntKind.wrap .u32 x702) 8)))), [], [], []⟩, ⟨sk0 (.raw (.int .i64 x678)), [], [], []⟩, ⟨sk0 (.raw (.int .i64 (IntKind.wrap .i64 (4 * x678)))), [], [], []⟩, ⟨sk0 (.raw (.int .i64 (IntKind.wrap .i64 ((IntKind.wrap .i64 (4 * x678)) + 3)))), [], [], []⟩, ⟨sk0 (.ptr K8 x704), [], [], []⟩, ⟨sk0 (.raw (.int .u8 x704)), [], [], []⟩, ⟨sk0 (.raw (.int .u32 (IntKind.wrap .u32 x704))), [], [], []⟩, ⟨sk0 (.raw (.int .u32 (orI .u32 (orI .u32 (orI .u32 (shlI .u32 (IntKind.wrap .u32 x698) 24) (shlI .u32 (IntKind.wrap .u32 x700) 16)) (shlI .u32 (IntKind.wrap .u32 x702) 8)) (IntKind.wrap .u32 x704)))), [], [], []⟩] [] (fun T : List Res => (.box K2 b1 99 a0) :: (.box K2 b2 99 (List.replicate 8 (0 : Int))) :: (.box K0 b3 136 x679) :: T) lf3 rfl (by kernel_rfl) rfl rfl (fun F hF0 bs697 => ?_)
    refine Tq.v (fun G T hG => ?_) ?_
    ·exact mv rfl rfl <| Under.fo2 <| Under.fo2 <| Under.fo2 <| Tq.end undef rfl rfl
    refine Tq.v (fun G T hG => ?_) ?_
    ·exact mv rfl rfl <| Under.fo2 <| Under.fo2 <| Under.fo2 <| Tq.end undef rfl rfl
    refine Tq.v (fun G T hG => ?_) ?_
    ·exact bn rfl rfl rfl rfl <| Under.fo2 <| Under.fo2 <| Under.fo2 <| Tq.end undef rfl rfl
    refine Tq.v (fun G T hG => ?_) ?_
    ·exact ov (OpV.ixA h699 Tryd.underlying100 sz5 rfl rfl) rfl <| Under.fo2 <| Under.fo2 <| Under.fo2 <| Tq.end undef rfl rfl
    refine Tq.v (fun G T hG => ?_) ?_
    ·exact ov (OpV.ldI kt5 rfl) rfl <| Under.fo2 <| Under.fo2 <| Under.fo2 <| Tq.end undef rfl rfl
    refine Tq.v (fun G T hG => ?_) ?_
    ·exact ov (OpV.conv (by kernel_rfl) Tryd.underlying97 rfl) rfl <| Under.fo2 <| Under.fo2 <| Under.fo2 <| Tq.end undef rfl rfl
    refine Tq.v (fun G T hG => ?_) ?_
    ·exact ov (OpV.sh rfl rfl (by decide) rfl) rfl <| Under.fo2 <| Under.fo2 <| Under.fo2 <| Tq.end undef rfl rfl
    refine Tq.v (fun G T hG => ?_) ?_
    ·exact mv rfl rfl <| Under.fo2 <| Under.fo2 <| Under.fo2 <| Tq.end undef rfl rfl
    refine Tq.v (fun G T hG => ?_) ?_
    ·exact bn rfl rfl rfl rfl <| Under.fo2 <| Under.fo2 <| Under.fo2 <| Tq.end undef rfl rfl
    refine Tq.v (fun G T hG => ?_) ?_
    ·exact bn rfl rfl rfl rfl <| Under.fo2 <| Under.fo2 <| Under.fo2 <| Tq.end undef rfl rfl
    refine Tq.v (fun G T hG => ?_) ?_
    ·exact ov (OpV.ixA h701 Tryd.underlying100 sz5 rfl rfl) rfl <| Under.fo2 <| Under.fo2 <| Under.fo2 <| Tq.end undef rfl rfl
    refine Tq.v (fun G T hG => ?_) ?_
    ·exact ov (OpV.ldI kt5 rfl) rfl <| Under.fo2 <| Under.fo2 <| Under.fo2 <| Tq.end undef rfl rfl
    refine Tq.v (fun G T hG => ?_) ?_
    ·exact ov (OpV.conv (by kernel_rfl) Tryd.underlying97 rfl) rfl <| Under.fo2 <| Under.fo2 <| Under.fo2 <| Tq.end undef rfl rfl
    refine Tq.v (fun G T hG => ?_) ?_
    ·exact ov (OpV.sh rfl rfl (by decide) rfl) rfl <| Under.fo2 <| Under.fo2 <| Under.fo2 <| Tq.end undef rfl rfl
    refine Tq.v (fun G T hG => ?_) ?_
    ·exact bn rfl rfl rfl rfl <| Under.fo2 <| Under.fo2 <| Under.fo2 <| Tq.end undef rfl rfl
    refine Tq.v (fun G T hG => ?_) ?_
    ·exact mv rfl rfl <| Under.fo2 <| Under.fo2 <| Under.fo2 <| Tq.end undef rfl rfl
    refine Tq.v (fun G T hG => ?_) ?_
    ·exact bn rfl rfl rfl rfl <| Under.fo2 <| Under.fo2 <| Under.fo2 <| Tq.end undef rfl rfl
    refine Tq.v (fun G T hG => ?_) ?_
    ·exact bn rfl rfl rfl rfl <| Under.fo2 <| Under.fo2 <| Under.fo2 <| Tq.end undef rfl rfl
    refine Tq.v (fun G T hG => ?_) ?_
    ·exact ov (OpV.ixA h703 Tryd.underlying100 sz5 rfl rfl) rfl <| Under.fo2 <| Under.fo2 <| Under.fo2 <| Tq.end undef rfl rfl
    refine Tq.v (fun G T hG => ?_) ?_
    ·exact ov (OpV.ldI kt5 rfl) rfl <| Under.fo2 <| Under.fo2 <| Under.fo2 <| Tq.end undef rfl rfl
    refine Tq.v (fun G T hG => ?_) ?_
    ·exact ov (OpV.conv (by kernel_rfl) Tryd.underlying97 rfl) rfl <| Under.fo2 <| Under.fo2 <| Under.fo2 <| Tq.end undef rfl rfl
    refine Tq.v (fun G T hG => ?_) ?_
    ·exact ov (OpV.sh rfl rfl (by decide) rfl) rfl <| Under.fo2 <| Under.fo2 <| Under.fo2 <| Tq.end undef rfl rfl
    refine Tq.v (fun G T hG => ?_) ?_
    ·exact bn rfl rfl rfl rfl <| Under.fo2 <| Under.fo2 <| Under.fo2 <| Tq.end undef rfl rfl
    refine Tq.v (fun G T hG => ?_) ?_
    ·exact mv rfl rfl <| Under.fo2 <| Under.fo2 <| Under.fo2 <| Tq.end undef rfl rfl
    refine Tq.v (fun G T hG => ?_) ?_
    ·exact bn rfl rfl rfl rfl <| Under.fo2 <| Under.fo2 <| Under.fo2 <| Tq.end undef rfl rfl
    refine Tq.v (fun G T hG => ?_) ?_
    ·exact bn rfl rfl rfl rfl <| Under.fo2 <| Under.fo2 <| Under.fo2 <| Tq.end undef rfl rfl
    refine Tq.v (fun G T hG => ?_) ?_
    ·exact ov (OpV.ixA h705 Tryd.underlying100 sz5 rfl rfl) rfl <| Under.fo2 <| Under.fo2 <| Under.fo2 <| Tq.end undef rfl rfl
    refine Tq.v (fun G T hG => ?_) ?_
    ·exact ov (OpV.ldI kt5 rfl) rfl <| Under.fo2 <| Under.fo2 <| Under.fo2 <| Tq.end undef rfl rfl
    refine Tq.v (fun G T hG => ?_) ?_
    ·exact ov (OpV.conv (by kernel_rfl) Tryd.underlying97 rfl) rfl <| Under.fo2 <| Under.fo2 <| Under.fo2 <| Tq.end undef rfl rfl
    refine Tq.v (fun G T hG => ?_) ?_
    ·exact bn rfl rfl rfl rfl <| Under.fo2 <| Under.fo2 <| Under.fo2 <| Tq.end undef rfl rfl
    exact Tq.nil <| Under.le hF0 <| Under.p1 30 rfl rfl <| Under.fo2 <| ov (OpV.ixP .box .id h707 Tryd.underlying136 sz97_kInt_u32 rfl rfl) rfl <| Under.pn <| Under.p1 31 rfl rfl <| Under.stP (x' := List.set x679 (Int.toNat x678) (orI .u32 (orI .u32 (orI .u32 (shlI .u32 (IntKind.wrap .u32 x698) 24) (shlI .u32 (IntKind.wrap .u32 x700) 16)) (shlI .u32 (IntKind.wrap .u32 x702) 8)) (IntKind.wrap .u32 x704))) .box (.ix .id h707) sz97_kInt_u32 rfl rfl rdI rfl <| Under.pn <| Under.pdone rfl <| bN <| tn <| rg <| bn rfl rfl rfl rfl <| mv rfl rfl <| nl <| Under.fo2 <| Under.fo2 <| Under.next _ () h692 (s5 rfl rfl rfl rfl rfl) rfl
   ·refine xt <| te ?_
    have e708 := done_eq h692 d693
    subst e708
    exact te <| bh <| tn <| Under.fo2 <| Under.fo2 <| Under.fo2 <| wk (k64 _ (osi h63).symm) (s3 rfl rfl rfl)
/-- (churn/hash.Hash).Add -/
noncomputable def f_hash_Hash_Add (a0 : Hash_Hash) (a1 : List Int) : Option Hash_Hash :=
  ((bif decide (a0.n < 64) then
    (f_hash_first).bind fun y91 =>
    some ({ a0 with words := y91 } : Hash_Hash)
  else
    some a0
    : Option Hash_Hash)).bind fun x5 =>
  (((Loop.run (S := ((List Int) × Hash_Hash)) (R := Hash_Hash) (fun (x65, x66) =>
      bif decide ((x65.length : Int) > 0) then
        bif decide ((0 : Int) ≤ (Int.tmod x66.n 64) ∧ (Int.tmod x66.n 64 : Int) ≤ 64 ∧ (64 : Int) ≤ 64) then
        bif decide ((Int.toNat (Int.tmod x66.n 64)) ≤ (Int.toNat 64) ∧ (Int.toNat 64) ≤ 64) then
        (sub x65 ((min (List.length x65) ((Int.toNat 64) - (Int.toNat (Int.tmod x66.n 64))) : Nat) : Int) (x65.length : Int)).bind fun x81 =>
        bif (Int.tmod (({ ({ x66 with tail := over x66.tail (Int.toNat (Int.tmod x66.n 64)) (Int.toNat 64) x65 } : Hash_Hash) with n := IntKind.wrap .u64 ((({ x66 with tail := over x66.tail (Int.toNat (Int.tmod x66.n 64)) (Int.toNat 64) x65 } : Hash_Hash).n) + (IntKind.wrap .u64 ((min (List.length x65) ((Int.toNat 64) - (Int.toNat (Int.tmod x66.n 64))) : Nat) : Int))) } : Hash_Hash).n) 64) == 0 then
          (f_hash_state_block (({ ({ x66 with tail := over x66.tail (Int.toNat (Int.tmod x66.n 64)) (Int.toNat 64) x65 } : Hash_Hash) with n := IntKind.wrap .u64 ((({ x66 with tail := over x66.tail (Int.toNat (Int.tmod x66.n 64)) (Int.toNat 64) x65 } : Hash_Hash).n) + (IntKind.wrap .u64 ((min (List.length x65) ((Int.toNat 64) - (Int.toNat (Int.tmod x66.n 64))) : Nat) : Int))) } : Hash_Hash).words) (({ ({ x66 with tail := over x66.tail (Int.toNat (Int.tmod x66.n 64)) (Int.toNat 64) x65 } : Hash_Hash) with n := IntKind.wrap .u64 ((({ x66 with tail := over x66.tail (Int.toNat (Int.tmod x66.n 64)) (Int.toNat 64) x65 } : Hash_Hash).n) + (IntKind.wrap .u64 ((min (List.length x65) ((Int.toNat 64) - (Int.toNat (Int.tmod x66.n 64))) : Nat) : Int))) } : Hash_Hash).tail)).bind fun y83 =>
          some (.next (x81, ({ ({ ({ x66 with tail := over x66.tail (Int.toNat (Int.tmod x66.n 64)) (Int.toNat 64) x65 } : Hash_Hash) with n := IntKind.wrap .u64 ((({ x66 with tail := over x66.tail (Int.toNat (Int.tmod x66.n 64)) (Int.toNat 64) x65 } : Hash_Hash).n) + (IntKind.wrap .u64 ((min (List.length x65) ((Int.toNat 64) - (Int.toNat (Int.tmod x66.n 64))) : Nat) : Int))) } : Hash_Hash) with words := y83 } : Hash_Hash)))
        else
          some (.next (x81, ({ ({ x66 with tail := over x66.tail (Int.toNat (Int.tmod x66.n 64)) (Int.toNat 64) x65 } : Hash_Hash) with n := IntKind.wrap .u64 ((({ x66 with tail := over x66.tail (Int.toNat (Int.tmod x66.n 64)) (Int.toNat 64) x65 } : Hash_Hash).n) + (IntKind.wrap .u64 ((min (List.length x65) ((Int.toNat 64) - (Int.toNat (Int.tmod x66.n 64))) : Nat) : Int))) } : Hash_Hash)))
        else none
        else none
      else
        some (.done x66)) (a1, x5)).bind fun x73 =>
  some x73
    : Option Hash_Hash)).bind fun x46 =>
  some x46
theorem f_hash_Hash_Add_ok {a0 : Hash_Hash} {a1 : List Int} {r0 : Hash_Hash} (hF : f_hash_Hash_Add a0 a1 = some r0) (L : List Res) : Ok Tryd.prog 43 [SV.val kHash_Hash a0, SV.val K6 a1] (L) (SV.val kHash_Hash r0) (L) := by
  unfold f_hash_Hash_Add at hF
  refine Ok.intro 41 [(0, .val kHash_Hash a0), (1, .val K6 a1)] Tryd.func43 rfl rfl rfl rfl (fun F0 => ?_)
  obtain ⟨r6, h7, hF⟩ := bsome hF
  refine sr <| Under.bx (K := kHash_Hash) rfl rdV rfl fun b1 => Under.al ZT103 rfl fun b2 => nt <| sq <| Under.after (fun X => ∀ (x5 : Hash_Hash), r6 = x5 → Under F0 41 [(1, .val K6 a1), (2, .raw (.pointer (some ⟨b1, 0, none⟩))), (4, .raw (.pointer (some ⟨b2, 0, none⟩)))] ((.box kHash_Hash b1 103 x5) :: (.box kHash_Hash b2 103 (⟨(List.replicate 8 (0 : Int)), (List.replicate 64 (0 : Int)), (0 : Int)⟩ : Hash_Hash)) :: L) X) ?_ ?_
  ·intro x5 h95
   replace h95 := h95.symm
   subst h95
   obtain ⟨r47, h48, hF⟩ := bsome hF
   refine sq <| Under.after (fun X => ∀ (x46 : Hash_Hash), r47 = x46 → Under F0 41 [(2, .ptr kHash_Hash x46), (4, .raw (.pointer (some ⟨b2, 0, none⟩)))] ((.box kHash_Hash b2 103 (⟨(List.replicate 8 (0 : Int)), (List.replicate 64 (0 : Int)), (0 : Int)⟩ : Hash_Hash)) :: L) X) ?_ ?_
   ·intro x46 h90
    replace h90 := h90.symm
    subst h90
    refine sr <| ov (OpV.ld kt103 rfl) rfl <| Under.stP (x' := x46) .box .id sz103_kHash_Hash rfl rfl rdV rfl <| nl <| Under.frz (t := 4) rfl <| tn <| rc ?_
    have e50 := osi hF
    subst e50
    exact Under.rets Tryd.results43 (.ce rfl kt103 .nil) rfl rfl
   ·intro K k49
    obtain ⟨r76, h77, h48⟩ := bsome h48
    refine bk <| Under.fo1 <| Under.fo1 <| Under.loop (S := ((List Int) × Hash_Hash)) (C := Unit) () (fun (x87 : ((List Int) × Hash_Hash)) (q88 : Unit) => [(1, .val K6 x87.1), (2, .raw (.pointer (some ⟨b1, 0, none⟩))), (4, .raw (.pointer (some ⟨b2, 0, none⟩)))]) (fun (x87 : ((List Int) × Hash_Hash)) (q88 : Unit) => (.box kHash_Hash b1 103 x87.2) :: (.box kHash_Hash b2 103 (⟨(List.replicate 8 (0 : Int)), (List.replicate 64 (0 : Int)), (0 : Int)⟩ : Hash_Hash)) :: L) h77 (s3 rfl rfl rfl) rfl (fun x87 q88 o78 h74 d75 => ?_)
    obtain ⟨x65, x66⟩ := x87
    dsimp only at h74 ⊢
    refine sq <| sr <| mv rfl rfl <| ov (OpV.len Tryd.underlying22 rfl rdV) rfl <| bn rfl rfl rfl rfl <| nt <| Under.ite h74 rfl (fun h74 => ?_) (fun h74 => ?_)
    ·obtain ⟨h79, h74⟩ := gsome h74
     refine ct <| bk <| sr <| ov (OpV.fdM fm103_1 rfl) rfl <| ov (OpV.fdM fm103_2 rfl) rfl <| Under.ldP .box (.fld .id uf_Hash_Hash_2) kt101_kInt_u64 rfl rfl <| Under.rawI (t := 16) rfl <| ov (OpV.quo rfl rfl (by decide) rfl) rfl ?_
     replace h79 : (0 : Int) ≤ (Int.tmod x66.n 64) ∧ (Int.tmod x66.n 64 : Int) ≤ 64 ∧ (64 : Int) ≤ 64 := of_decide_eq_true h79
     obtain ⟨h80, h74⟩ := gsome h74
     refine ov (OpV.slP (l := Int.tmod x66.n 64) (h := 64) Tryd.underlying100 sz5_kInt_u8 rfl rfl rfl (And.left h79) (And.left (And.right h79)) (And.right (And.right h79))) rfl <| mv rfl rfl ?_
     replace h80 : (Int.toNat (Int.tmod x66.n 64)) ≤ (Int.toNat 64) ∧ (Int.toNat 64) ≤ 64 := of_decide_eq_true h80
     obtain ⟨x81, h82, h74⟩ := bsome h74
     refine Under.cpB (x' := ({ x66 with tail := over x66.tail (Int.toNat (Int.tmod x66.n 64)) (Int.toNat 64) x65 } : Hash_Hash)) .box (.fld .id uf_Hash_Hash_1) (And.left h80) (And.right h80) (had_of (And.right h80)) Tryd.underlying22 sz5_kInt_u8 rfl rfl (.sl rdV) rfl rfl <| ag rfl rfl <| ns <| ov (OpV.fdM fm103_2 rfl) rfl <| Under.ldP .box (.fld .id uf_Hash_Hash_2) kt101_kInt_u64 rfl rfl <| Under.rawI (t := 22) rfl <| mv rfl rfl <| ov (OpV.conv (by kernel_rfl) Tryd.underlying101 rfl) rfl <| bn rfl rfl rfl rfl <| ov (OpV.fdM fm103_2 rfl) rfl <| Under.stP (x' := ({ ({ x66 with tail := over x66.tail (Int.toNat (Int.tmod x66.n 64)) (Int.toNat 64) x65 } : Hash_Hash) with n := IntKind.wrap .u64 ((({ x66 with tail := over x66.tail (Int.toNat (Int.tmod x66.n 64)) (Int.toNat 64) x65 } : Hash_Hash).n) + (IntKind.wrap .u64 ((min (List.length x65) ((Int.toNat 64) - (Int.toNat (Int.tmod x66.n 64))) : Nat) : Int))) } : Hash_Hash)) .box (.fld .id uf_Hash_Hash_2) sz101_kInt_u64 rfl rfl rdI rfl <| ns <| mv rfl rfl <| mv rfl rfl <| ov (OpV.slL h82 Tryd.underlying22 sz5 rfl rdV rfl) rfl <| ag rfl rfl <| ns <| ov (OpV.fdM fm103_2 rfl) rfl <| Under.ldP .box (.fld .id uf_Hash_Hash_2) kt101_kInt_u64 rfl rfl <| Under.rawI (t := 31) rfl <| ov (OpV.quo rfl rfl (by decide) rfl) rfl <| bn rfl rfl rfl rfl <| nt <| Under.ite h74 rfl (fun h74 => ?_) (fun h74 => ?_)
     ·obtain ⟨y83, h84, h74⟩ := bsome h74
      exact rg <| ov (OpV.fdM fm103_0 rfl) rfl <| Under.ldP .box (.fld .id uf_Hash_Hash_0) kt99_kArr_8_kInt_u32_ rfl rfl <| ov (OpV.fdM fm103_1 rfl) rfl <| Under.ldP .box (.fld .id uf_Hash_Hash_1) kt100_kArr_64_kInt_u8_ rfl rfl <| Under.call Tryd.call69 rfl rfl (f_hash_state_block_ok h84 _) rfl <| ov (OpV.fdM fm103_0 rfl) rfl <| Under.stP (x' := ({ ({ ({ x66 with tail := over x66.tail (Int.toNat (Int.tmod x66.n 64)) (Int.toNat 64) x65 } : Hash_Hash) with n := IntKind.wrap .u64 ((({ x66 with tail := over x66.tail (Int.toNat (Int.tmod x66.n 64)) (Int.toNat 64) x65 } : Hash_Hash).n) + (IntKind.wrap .u64 ((min (List.length x65) ((Int.toNat 64) - (Int.toNat (Int.tmod x66.n 64))) : Nat) : Int))) } : Hash_Hash) with words := y83 } : Hash_Hash)) .box (.fld .id uf_Hash_Hash_0) sz99_kArr_8_kInt_u32_ rfl rfl rdV rfl <| nl <| bN <| Under.fo1 <| Under.fo1 <| Under.next _ () h74 (s3 rfl rfl rfl) rfl
     ·exact cs <| bN <| Under.fo1 <| Under.fo1 <| Under.next _ () h74 (s3 rfl rfl rfl) rfl
    ·refine Under.frz (t := 2) rfl <| xt <| te ?_
     have e85 := done_eq h74 d75
     subst e85
     exact te <| bh <| tn <| wk (k49 _ (osi h48).symm) (s2 rfl rfl)
  ·intro K k8
   refine sr <| ov (OpV.fdM fm103_2 rfl) rfl <| Under.fo1 <| Under.ldP .box (.fld .id uf_Hash_Hash_2) kt101_kInt_u64 rfl rfl <| Under.rawI (t := 7) rfl <| bn rfl rfl rfl rfl <| nt <| Under.ite h7 rfl (fun h7 => ?_) (fun h7 => ?_)
   ·obtain ⟨y91, h92, h7⟩ := bsome h7
    exact rg <| Under.call Tryd.call68 rfl rfl (f_hash_first_ok h92 _) rfl <| ov (OpV.fdM fm103_0 rfl) rfl <| Under.stP (x' := ({ a0 with words := y91 } : Hash_Hash)) .box (.fld .id uf_Hash_Hash_0) sz99_kArr_8_kInt_u32_ rfl rfl rdV rfl <| nt <| Under.fo1 <| Under.fo1 <| wk (k8 _ (osi h7).symm) (s3 rfl rfl rfl)
   ·exact ct <| Under.fo1 <| Under.fo1 <| wk (k8 _ (osi h7).symm) (s3 rfl rfl rfl)
/-- (churn/hash.Hash).Sum -/
noncomputable def f_hash_Hash_Sum (a0 : Hash_Hash) : Option (List Int) :=
  bif mkB (IntKind.wrap .u64 (1 + (Int.tmod (IntKind.wrap .u64 (119 - (Int.tmod a0.n 64))) 64))) 72 then
  (idx (List.replicate (Int.toNat (IntKind.wrap .u64 (1 + (Int.tmod (IntKind.wrap .u64 (119 - (Int.tmod a0.n 64))) 64)))) (0 : Int)) 0).bind fun x6 =>
  (((Loop.run (S := ((List Int) × Int)) (R := (List Int)) (fun (x170, x171) =>
      bif decide (x171 ≥ 0) then
        bif decide (0 ≤ x171) then
        (app x170 [IntKind.wrap .u8 (shrI .u64 (shlI .u64 a0.n 3) x171)]).bind fun z183 =>
        some (.next (z183, IntKind.wrap .i64 (x171 - 8)))
        else none
      else
        some (.done x170)) (List.set (List.replicate (Int.toNat (IntKind.wrap .u64 (1 + (Int.tmod (IntKind.wrap .u64 (119 - (Int.tmod a0.n 64))) 64)))) (0 : Int)) (Int.toNat 0) 128, 56)).bind fun x176 =>
  some x176
    : Option (List Int))).bind fun x38 =>
  (f_hash_Hash_Add a0 x38).bind fun y42 =>
  (((Loop.run (S := (Int × (List Int))) (R := (List Int)) (fun (x125, x126) =>
      bif decide (x125 < 8) then
        (idx y42.words x125).bind fun x143 =>
        (idx x126 (IntKind.wrap .i64 (4 * x125))).bind fun x145 =>
        (idx (List.set x126 (Int.toNat (IntKind.wrap .i64 (4 * x125))) (IntKind.wrap .u8 (shrI .u32 x143 24))) (IntKind.wrap .i64 ((IntKind.wrap .i64 (4 * x125)) + 1))).bind fun x147 =>
        (idx (List.set (List.set x126 (Int.toNat (IntKind.wrap .i64 (4 * x125))) (IntKind.wrap .u8 (shrI .u32 x143 24))) (Int.toNat (IntKind.wrap .i64 ((IntKind.wrap .i64 (4 * x125)) + 1))) (IntKind.wrap .u8 (shrI .u32 x143 16))) (IntKind.wrap .i64 ((IntKind.wrap .i64 (4 * x125)) + 2))).bind fun x149 =>
        (idx (List.set (List.set (List.set x126 (Int.toNat (IntKind.wrap .i64 (4 * x125))) (IntKind.wrap .u8 (shrI .u32 x143 24))) (Int.toNat (IntKind.wrap .i64 ((IntKind.wrap .i64 (4 * x125)) + 1))) (IntKind.wrap .u8 (shrI .u32 x143 16))) (Int.toNat (IntKind.wrap .i64 ((IntKind.wrap .i64 (4 * x125)) + 2))) (IntKind.wrap .u8 (shrI .u32 x143 8))) (IntKind.wrap .i64 ((IntKind.wrap .i64 (4 * x125)) + 3))).bind fun x151 =>
        some (.next (IntKind.wrap .i64 (x125 + 1), List.set (List.set (List.set (List.set x126 (Int.toNat (IntKind.wrap .i64 (4 * x125))) (IntKind.wrap .u8 (shrI .u32 x143 24))) (Int.toNat (IntKind.wrap .i64 ((IntKind.wrap .i64 (4 * x125)) + 1))) (IntKind.wrap .u8 (shrI .u32 x143 16))) (Int.toNat (IntKind.wrap .i64 ((IntKind.wrap .i64 (4 * x125)) + 2))) (IntKind.wrap .u8 (shrI .u32 x143 8))) (Int.toNat (IntKind.wrap .i64 ((IntKind.wrap .i64 (4 * x125)) + 3))) (IntKind.wrap .u8 x143)))
      else
        some (.done x126)) (0, (List.replicate 32 (0 : Int)))).bind fun x137 =>
  some x137
    : Option (List Int))).bind fun x98 =>
  some x98
  else none
theorem f_hash_Hash_Sum_ok {a0 : Hash_Hash} {r0 : (List Int)} (hF : f_hash_Hash_Sum a0 = some r0) (L : List Res) : Ok Tryd.prog 44 [SV.val kHash_Hash a0] (L) (SV.val K3 r0) (L) := by
  unfold f_hash_Hash_Sum at hF
  refine Ok.intro 68 [(0, .val kHash_Hash a0)] Tryd.func44 rfl rfl rfl rfl (fun F0 => ?_)
  obtain ⟨h4, hF⟩ := gsome hF
  obtain ⟨x6, h7, hF⟩ := bsome hF
  obtain ⟨r39, h40, hF⟩ := bsome hF
  refine sr <| Under.bx (K := kHash_Hash) rfl rdV rfl fun b1 => Under.al ZT64 rfl fun b2 => ns <| ov (OpV.fdM fm103_2 rfl) rfl <| Under.fo1 <| Under.ldP .box (.fld .id uf_Hash_Hash_2) kt101_kInt_u64 rfl rfl <| Under.rawI (t := 10) rfl <| ag rfl rfl <| ns <| mv rfl rfl <| ov (OpV.quo rfl rfl (by decide) rfl) rfl <| bn rfl rfl rfl rfl <| ov (OpV.quo rfl rfl (by decide) rfl) rfl <| bn rfl rfl rfl rfl <| Under.mk h4 Tryd.underlying22 AT5 rfl rfl rfl fun v3 => ag rfl rfl <| ns <| mv rfl rfl <| ov (OpV.ixO h7 Tryd.underlying22 sz5_kInt_u8 rfl rfl) rfl <| Under.stP (x' := List.set (List.replicate (Int.toNat (IntKind.wrap .u64 (1 + (Int.tmod (IntKind.wrap .u64 (119 - (Int.tmod a0.n 64))) 64)))) (0 : Int)) (Int.toNat 0) 128) (.own h7) (.ix .id h7) sz5_kInt_u8 rfl rfl rdI rfl <| nt <| sq <| Under.after (fun X => ∀ (x38 : List Int), r39 = x38 → Under F0 68 [(1, .raw (.pointer (some ⟨b1, 0, none⟩))), (2, .raw (.pointer (some ⟨b2, 0, none⟩))), (4, .val K6 x38)] ((.box kHash_Hash b1 103 a0) :: (.box K3 b2 64 (List.replicate 32 (0 : Int))) :: L) X) ?_ ?_
  ·intro x38 h191
   replace h191 := h191.symm
   subst h191
   obtain ⟨y42, h43, hF⟩ := bsome hF
   obtain ⟨r99, h100, hF⟩ := bsome hF
   refine sr <| Under.ldP .box .id kt103_kHash_Hash rfl rfl <| mv rfl rfl <| Under.call Tryd.call43 rfl rfl (f_hash_Hash_Add_ok h43 _) rfl <| Under.stP (x' := y42) .box .id sz103_kHash_Hash rfl rfl rdV rfl <| nl <| Under.frz (t := 1) rfl <| tn <| sr <| Under.al ZT64 rfl fun b44 => nt <| sq <| Under.after (fun X => ∀ (x98 : List Int), r99 = x98 → Under F0 68 [(2, .raw (.pointer (some ⟨b2, 0, none⟩))), (6, .ptr K3 x98)] ((.box K3 b2 64 (List.replicate 32 (0 : Int))) :: L) X) ?_ ?_
   ·intro x98 h158
    replace h158 := h158.symm
    subst h158
    refine sr <| ov (OpV.ld kt64 rfl) rfl <| Under.stP (x' := x98) .box .id sz64_kArr_32_kInt_u8_ rfl rfl rdV rfl <| nl <| Under.frz (t := 2) rfl <| tn <| rc ?_
    have e102 := osi hF
    subst e102
    exact Under.rets Tryd.results44 (.ce rfl kt64 .nil) rfl rfl
   ·intro K k101
    obtain ⟨r140, h141, h100⟩ := bsome h100
    refine sr <| ov (OpV.fd fb103_0 rfl rfl) rfl <| ov (OpV.ld kt99 rfl) rfl <| mv rfl rfl <| nt <| bk <| Under.fo1 <| Under.loop (S := (Int × (List Int))) (C := Unit) () (fun (x155 : (Int × (List Int))) (q156 : Unit) => [(2, .raw (.pointer (some ⟨b2, 0, none⟩))), (6, .raw (.pointer (some ⟨b44, 0, none⟩))), (35, .val K2 y42.words), (36, .raw (.int .i64 x155.1))]) (fun (x155 : (Int × (List Int))) (q156 : Unit) => (.box K3 b2 64 (List.replicate 32 (0 : Int))) :: (.box K3 b44 64 x155.2) :: L) h141 (s4 rfl rfl rfl rfl) rfl (fun x155 q156 o142 h138 d139 => ?_)
    obtain ⟨x125, x126⟩ := x155
    dsimp only at h138 ⊢
    refine sr <| bn rfl rfl rfl rfl <| nt <| sq <| Under.ite h138 rfl (fun h138 => ?_) (fun h138 => ?_)
    ·obtain ⟨x143, h144, h138⟩ := bsome h138
     obtain ⟨x145, h146, h138⟩ := bsome h138
     obtain ⟨x147, h148, h138⟩ := bsome h138
     obtain ⟨x149, h150, h138⟩ := bsome h138
     obtain ⟨x151, h152, h138⟩ := bsome h138
     exact ct <| sq <| bk <| sr <| mv rfl rfl <| ov (OpV.ixVI h144 Tryd.underlying99 kt97 rfl rfl) rfl <| ag rfl rfl <| ag rfl rfl <| nt <| rg <| mv rfl rfl <| bn rfl rfl rfl rfl <| mv rfl rfl <| bn rfl rfl rfl rfl <| bn rfl rfl rfl rfl <| mv rfl rfl <| bn rfl rfl rfl rfl <| bn rfl rfl rfl rfl <| mv rfl rfl <| bn rfl rfl rfl rfl <| bn rfl rfl rfl rfl <| mv rfl rfl <| ov (OpV.sh rfl rfl (by decide) rfl) rfl <| ov (OpV.conv (by kernel_rfl) Tryd.underlying5 rfl) rfl <| mv rfl rfl <| ov (OpV.sh rfl rfl (by decide) rfl) rfl <| ov (OpV.conv (by kernel_rfl) Tryd.underlying5 rfl) rfl <| mv rfl rfl <| ov (OpV.sh rfl rfl (by decide) rfl) rfl <| ov (OpV.conv (by kernel_rfl) Tryd.underlying5 rfl) rfl <| mv rfl rfl <| ov (OpV.conv (by kernel_rfl) Tryd.underlying5 rfl) rfl <| Under.fo1 <| ov (OpV.ixP .box .id h146 Tryd.underlying64 sz5_kInt_u8 rfl rfl) rfl <| Under.stP (x' := List.set x126 (Int.toNat (IntKind.wrap .i64 (4 * x125))) (IntKind.wrap .u8 (shrI .u32 x143 24))) .box (.ix .id h146) sz5_kInt_u8 rfl rfl rdI rfl <| ov (OpV.ixP .box .id h148 Tryd.underlying64 sz5_kInt_u8 rfl rfl) rfl <| Under.stP (x' := List.set (List.set x126 (Int.toNat (IntKind.wrap .i64 (4 * x125))) (IntKind.wrap .u8 (shrI .u32 x143 24))) (Int.toNat (IntKind.wrap .i64 ((IntKind.wrap .i64 (4 * x125)) + 1))) (IntKind.wrap .u8 (shrI .u32 x143 16))) .box (.ix .id h148) sz5_kInt_u8 rfl rfl rdI rfl <| ov (OpV.ixP .box .id h150 Tryd.underlying64 sz5_kInt_u8 rfl rfl) rfl <| Under.stP (x' := List.set (List.set (List.set x126 (Int.toNat (IntKind.wrap .i64 (4 * x125))) (IntKind.wrap .u8 (shrI .u32 x143 24))) (Int.toNat (IntKind.wrap .i64 ((IntKind.wrap .i64 (4 * x125)) + 1))) (IntKind.wrap .u8 (shrI .u32 x143 16))) (Int.toNat (IntKind.wrap .i64 ((IntKind.wrap .i64 (4 * x125)) + 2))) (IntKind.wrap .u8 (shrI .u32 x143 8))) .box (.ix .id h150) sz5_kInt_u8 rfl rfl rdI rfl <| ov (OpV.ixP .box .id h152 Tryd.underlying64 sz5_kInt_u8 rfl rfl) rfl <| Under.stP (x' := List.set (List.set (List.set (List.set x126 (Int.toNat (IntKind.wrap .i64 (4 * x125))) (IntKind.wrap .u8 (shrI .u32 x143 24))) (Int.toNat (IntKind.wrap .i64 ((IntKind.wrap .i64 (4 * x125)) + 1))) (IntKind.wrap .u8 (shrI .u32 x143 16))) (Int.toNat (IntKind.wrap .i64 ((IntKind.wrap .i64 (4 * x125)) + 2))) (IntKind.wrap .u8 (shrI .u32 x143 8))) (Int.toNat (IntKind.wrap .i64 ((IntKind.wrap .i64 (4 * x125)) + 3))) (IntKind.wrap .u8 x143)) .box (.ix .id h152) sz5_kInt_u8 rfl rfl rdI rfl <| nl <| bN <| tn <| rg <| bn rfl rfl rfl rfl <| mv rfl rfl <| nl <| Under.fo1 <| Under.next _ () h138 (s4 rfl rfl rfl rfl) rfl
    ·refine Under.fo1 <| Under.frz (t := 6) rfl <| xt <| te ?_
     have e153 := done_eq h138 d139
     subst e153
     exact te <| bh <| tn <| wk (k101 _ (osi h100).symm) (s2 rfl rfl)
  ·intro K k41
   obtain ⟨r179, h180, h40⟩ := bsome h40
   refine sr <| ag rfl rfl <| nt <| bk <| Under.fo2 <| Under.fo2 <| Under.fo2 <| Under.loop (S := ((List Int) × Int)) (C := Value) v3 (fun (x188 : ((List Int) × Int)) (q189 : Value) => [(1, .raw (.pointer (some ⟨b1, 0, none⟩))), (2, .raw (.pointer (some ⟨b2, 0, none⟩))), (3, .raw (.int .u64 a0.n)), (4, .raw q189), (5, .raw (.int .i64 x188.2))]) (fun (x188 : ((List Int) × Int)) (q189 : Value) => (.own K8 q189 5 x188.1) :: (.box kHash_Hash b1 103 a0) :: (.box K3 b2 64 (List.replicate 32 (0 : Int))) :: L) h180 (s5 rfl rfl rfl rfl rfl) rfl (fun x188 q189 o181 h177 d178 => ?_)
   obtain ⟨x170, x171⟩ := x188
   dsimp only at h177 ⊢
   refine sq <| sr <| mv rfl rfl <| bn rfl rfl rfl rfl <| nt <| Under.ite h177 rfl (fun h177 => ?_) (fun h177 => ?_)
   ·obtain ⟨h182, h177⟩ := gsome h177
    obtain ⟨z183, h184, h177⟩ := bsome h177
    exact ct <| sq <| bk <| rg <| mv rfl rfl <| mv rfl rfl <| ov (OpV.sh rfl rfl (by decide) rfl) rfl <| mv rfl rfl <| ov (OpV.sh rfl rfl (of_decide_eq_true h182) rfl) rfl <| ov (OpV.conv (by kernel_rfl) Tryd.underlying5 rfl) rfl <| Under.bsF (ys := [IntKind.wrap .u8 (shrI .u64 (shlI .u64 a0.n 3) x171)]) Tryd.underlying22 ET5 (BldA.cons rfl rfl rdI (BldA.nil _)) rfl rfl <| Under.app h184 Tryd.underlying22 AT5 rfl rfl rdV rfl fun v185 => ag rfl rfl <| nl <| bN <| tn <| rg <| mv rfl rfl <| bn rfl rfl rfl rfl <| ag rfl rfl <| nl <| Under.fo2 <| Under.fo2 <| Under.fo2 <| Under.next _ v185 h177 (s5 rfl rfl rfl rfl rfl) rfl
   ·refine Under.frzO (t := 4) rfl <| xt <| te ?_
    have e186 := done_eq h177 d178
    subst e186
    exact te <| bh <| tn <| Under.fo1 <| Under.fo1 <| wk (k41 _ (osi h40).symm) (s3 rfl rfl rfl)
/-- churn/hash.Sum -/
noncomputable def f_hash_Sum (a0 : List Int) : Option (List Int) :=
  (f_hash_New).bind fun y2 =>
  (f_hash_Hash_Add y2 a0).bind fun y4 =>
  (f_hash_Hash_Sum y4).bind fun y6 =>
  some y6
theorem f_hash_Sum_ok {a0 : List Int} {r0 : (List Int)} (hF : f_hash_Sum a0 = some r0) (L : List Res) : Ok Tryd.prog 66 [SV.val K6 a0] (L) (SV.val K3 r0) (L) := by
  unfold f_hash_Sum at hF
  refine Ok.intro 7 [(0, .val K6 a0)] Tryd.func66 rfl rfl rfl rfl (fun F0 => ?_)
  obtain ⟨y2, h3, hF⟩ := bsome hF
  obtain ⟨y4, h5, hF⟩ := bsome hF
  obtain ⟨y6, h7, hF⟩ := bsome hF
  refine sr <| Under.al ZT64 rfl fun b1 => ns <| Under.call Tryd.call67 rfl rfl (f_hash_New_ok h3 _) rfl <| mv rfl rfl <| Under.call Tryd.call43 rfl rfl (f_hash_Hash_Add_ok h5 _) rfl <| Under.call Tryd.call44 rfl rfl (f_hash_Hash_Sum_ok h7 _) rfl <| Under.stP (x' := y6) .box .id sz64_kArr_32_kInt_u8_ rfl rfl rdV rfl <| nl <| Under.frz (t := 2) rfl <| tn <| rc ?_
  have e8 := osi hF
  subst e8
  exact Under.rets Tryd.results66 (.ce rfl kt64 .nil) rfl rfl
/-- churn/mac.padded -/
noncomputable def f_mac_padded (a0 : List Int) (a1 : Int) : Option Hash_Hash :=
  ((bif decide ((a0.length : Int) > 64) then
    (f_hash_Sum a0).bind fun y83 =>
    some y83
  else
    some a0
    : Option (List Int))).bind fun x6 =>
  bif decide ((Int.toNat 0) ≤ (Int.toNat 64) ∧ (Int.toNat 64) ≤ 64) then
  (((Loop.run (S := (Int × (List Int))) (R := (List Int)) (fun (x61, x62) =>
      bif decide (x61 < 64) then
        (idx x62 x61).bind fun x73 =>
        (idx x62 x61).bind fun x75 =>
        some (.next (IntKind.wrap .i64 (x61 + 1), List.set x62 (Int.toNat x61) (xorI .u8 x73 a1)))
      else
        some (.done x62)) (0, over (List.replicate 64 (0 : Int)) (Int.toNat 0) (Int.toNat 64) x6)).bind fun x67 =>
  some x67
    : Option (List Int))).bind fun x41 =>
  (f_hash_New).bind fun y46 =>
  (f_hash_Hash_Add y46 x41).bind fun y48 =>
  some y48
  else none
theorem f_mac_padded_ok {a0 : List Int} {a1 : Int} {r0 : Hash_Hash} (hF : f_mac_padded a0 a1 = some r0) (L : List Res) : Ok Tryd.prog 42 [SV.val K6 a0, SV.raw (.int .u8 a1)] (L) (SV.val kHash_Hash r0) (L) := by
  unfold f_mac_padded at hF
  refine Ok.intro 30 [(0, .val K6 a0), (1, .raw (.int .u8 a1))] Tryd.func42 rfl rfl rfl rfl (fun F0 => ?_)
  obtain ⟨r7, h8, hF⟩ := bsome hF
  refine sr <| Under.al ZT103 rfl fun b1 => ns <| Under.al ZT100 rfl fun b2 => nt <| sq <| Under.after (fun X => ∀ (x6 : List Int), r7 = x6 → Under F0 30 [(0, .val K6 x6), (1, .raw (.int .u8 a1)), (4, .raw (.pointer (some ⟨b1, 0, none⟩))), (5, .raw (.pointer (some ⟨b2, 0, none⟩)))] ((.box kHash_Hash b1 103 (⟨(List.replicate 8 (0 : Int)), (List.replicate 64 (0 : Int)), (0 : Int)⟩ : Hash_Hash)) :: (.box (kArr 64 K8) b2 100 (List.replicate 64 (0 : Int))) :: L) X) ?_ ?_
  ·intro x6 h88
   replace h88 := h88.symm
   subst h88
   obtain ⟨h11, hF⟩ := gsome hF
   refine sr <| ov (OpV.slP (l := 0) (h := 64) Tryd.underlying100 sz5_kInt_u8 rfl rfl rfl (by decide) (by decide) (by decide)) rfl <| mv rfl rfl ?_
   replace h11 : (Int.toNat 0) ≤ (Int.toNat 64) ∧ (Int.toNat 64) ≤ 64 := of_decide_eq_true h11
   obtain ⟨r42, h43, hF⟩ := bsome hF
   refine Under.fo1 <| Under.cpB (x' := over (List.replicate 64 (0 : Int)) (Int.toNat 0) (Int.toNat 64) x6) .box .id (And.left h11) (And.right h11) (had_of (And.right h11)) Tryd.underlying22 sz5_kInt_u8 rfl rfl (.sl rdV) rfl rfl <| nt <| sq <| Under.after (fun X => ∀ (x41 : List Int), r42 = x41 → Under F0 30 [(4, .raw (.pointer (some ⟨b1, 0, none⟩))), (5, .ptr (kArr 64 K8) x41)] ((.box kHash_Hash b1 103 (⟨(List.replicate 8 (0 : Int)), (List.replicate 64 (0 : Int)), (0 : Int)⟩ : Hash_Hash)) :: L) X) ?_ ?_
   ·intro x41 h82
    replace h82 := h82.symm
    subst h82
    obtain ⟨y46, h47, hF⟩ := bsome hF
    obtain ⟨y48, h49, hF⟩ := bsome hF
    refine sq <| Under.phases rfl <| Under.grpT (L := L) [0, 1] [[], [5]] [⟨sk0 (.val kHash_Hash y46), [], [], []⟩, ⟨sk0 (.val K6 x41), [], [], []⟩] [] (fun T : List Res => (.box kHash_Hash b1 103 (⟨(List.replicate 8 (0 : Int)), (List.replicate 64 (0 : Int)), (0 : Int)⟩ : Hash_Hash)) :: T) lf1 rfl (by kernel_rfl) rfl rfl (fun F hF0 bs45 => ?_)
    refine Tq.v (fun G T hG => ?_) ?_
    ·exact Under.call Tryd.call67 rfl rfl (f_hash_New_ok h47 _) rfl <| Tq.end undef rfl rfl
    refine Tq.v (fun G T hG => ?_) ?_
    ·exact ov (OpV.slA Tryd.underlying100 sz5 rfl) rfl <| Tq.end undef rfl rfl
    refine Tq.nil <| Under.le hF0 <| Under.p1 2 rfl rfl <| Under.call Tryd.call43 rfl rfl (f_hash_Hash_Add_ok h49 _) rfl <| Under.pn <| Under.p1 3 rfl rfl <| Under.stP (x' := y48) .box .id sz103_kHash_Hash rfl rfl rdV rfl <| Under.pn <| Under.pdone rfl <| Under.frz (t := 4) rfl <| tn <| rc ?_
    have e50 := osi hF
    subst e50
    exact Under.rets Tryd.results42 (.ce rfl kt103 .nil) rfl rfl
   ·intro K k44
    obtain ⟨r70, h71, h43⟩ := bsome h43
    refine sr <| mv rfl rfl <| nt <| bk <| Under.fo1 <| Under.loop (S := (Int × (List Int))) (C := Unit) () (fun (x79 : (Int × (List Int))) (q80 : Unit) => [(1, .raw (.int .u8 a1)), (4, .raw (.pointer (some ⟨b1, 0, none⟩))), (5, .raw (.pointer (some ⟨b2, 0, none⟩))), (17, .raw (.int .i64 x79.1))]) (fun (x79 : (Int × (List Int))) (q80 : Unit) => (.box kHash_Hash b1 103 (⟨(List.replicate 8 (0 : Int)), (List.replicate 64 (0 : Int)), (0 : Int)⟩ : Hash_Hash)) :: (.box (kArr 64 K8) b2 100 x79.2) :: L) h71 (s4 rfl rfl rfl rfl) rfl (fun x79 q80 o72 h68 d69 => ?_)
    obtain ⟨x61, x62⟩ := x79
    dsimp only at h68 ⊢
    refine sr <| bn rfl rfl rfl rfl <| nt <| sq <| Under.ite h68 rfl (fun h68 => ?_) (fun h68 => ?_)
    ·obtain ⟨x73, h74, h68⟩ := bsome h68
     obtain ⟨x75, h76, h68⟩ := bsome h68
     exact ct <| sq <| bk <| sr <| mv rfl rfl <| ag rfl rfl <| nt <| rg <| mv rfl rfl <| Under.fo1 <| ov (OpV.ixP .box .id h74 Tryd.underlying100 sz5_kInt_u8 rfl rfl) rfl <| Under.ldP .box (.ix .id h74) kt5_kInt_u8 rfl rfl <| Under.rawI (t := 22) rfl <| mv rfl rfl <| bn rfl rfl rfl rfl <| ov (OpV.ixP .box .id h76 Tryd.underlying100 sz5_kInt_u8 rfl rfl) rfl <| Under.stP (x' := List.set x62 (Int.toNat x61) (xorI .u8 x73 a1)) .box (.ix .id h76) sz5_kInt_u8 rfl rfl rdI rfl <| nl <| bN <| tn <| rg <| bn rfl rfl rfl rfl <| mv rfl rfl <| nl <| Under.fo1 <| Under.next _ () h68 (s4 rfl rfl rfl rfl) rfl
    ·refine Under.fo1 <| Under.frz (t := 5) rfl <| xt <| te ?_
     have e77 := done_eq h68 d69
     subst e77
     exact te <| bh <| tn <| wk (k44 _ (osi h43).symm) (s2 rfl rfl)
  ·intro K k9
   refine sr <| mv rfl rfl <| ov (OpV.len Tryd.underlying22 rfl rdV) rfl <| bn rfl rfl rfl rfl <| nt <| Under.ite h8 rfl (fun h8 => ?_) (fun h8 => ?_)
   ·obtain ⟨y83, h84, h8⟩ := bsome h8
    exact sr <| mv rfl rfl <| Under.call Tryd.call66 rfl rfl (f_hash_Sum_ok h84 _) rfl <| Under.al ZT64 rfl fun b85 => Under.stP (x' := y83) .box .id sz64_kArr_32_kInt_u8_ rfl rfl rdV rfl <| nl <| Under.frz (t := 6) rfl <| tn <| rg <| ov (OpV.slA Tryd.underlying64 sz5 rfl) rfl <| ag rfl rfl <| nt <| Under.fo1 <| wk (k9 _ (osi h8).symm) (s4 rfl rfl rfl rfl)
   ·exact ct <| Under.fo1 <| wk (k9 _ (osi h8).symm) (s4 rfl rfl rfl rfl)
/-- churn/mac.Tag -/
noncomputable def f_mac_Tag (a0 : List Int) (a1 : List Int) : Option (List Int) :=
  (f_mac_padded a0 54).bind fun y2 =>
  (f_hash_Hash_Add y2 a1).bind fun y4 =>
  (f_hash_Hash_Sum y4).bind fun y6 =>
  (f_mac_padded a0 92).bind fun y10 =>
  (f_hash_Hash_Add y10 y6).bind fun y12 =>
  (f_hash_Hash_Sum y12).bind fun y14 =>
  some y14
theorem f_mac_Tag_ok {a0 : List Int} {a1 : List Int} {r0 : (List Int)} (hF : f_mac_Tag a0 a1 = some r0) (L : List Res) : Ok Tryd.prog 23 [SV.val K6 a0, SV.val K6 a1] (L) (SV.val K3 r0) (L) := by
  unfold f_mac_Tag at hF
  refine Ok.intro 16 [(0, .val K6 a0), (1, .val K6 a1)] Tryd.func23 rfl rfl rfl rfl (fun F0 => ?_)
  obtain ⟨y2, h3, hF⟩ := bsome hF
  obtain ⟨y4, h5, hF⟩ := bsome hF
  obtain ⟨y6, h7, hF⟩ := bsome hF
  obtain ⟨y10, h11, hF⟩ := bsome hF
  obtain ⟨y12, h13, hF⟩ := bsome hF
  obtain ⟨y14, h15, hF⟩ := bsome hF
  refine sr <| Under.al ZT64 rfl fun b1 => ns <| mv rfl rfl <| Under.call Tryd.call42 rfl rfl (f_mac_padded_ok h3 _) rfl <| mv rfl rfl <| Under.call Tryd.call43 rfl rfl (f_hash_Hash_Add_ok h5 _) rfl <| Under.call Tryd.call44 rfl rfl (f_hash_Hash_Sum_ok h7 _) rfl <| Under.al ZT64 rfl fun b8 => Under.stP (x' := y6) .box .id sz64_kArr_32_kInt_u8_ rfl rfl rdV rfl <| nl <| Under.frz (t := 5) rfl <| tn <| sq <| Under.phases rfl <| Under.grpT (L := L) [0, 1, 2] [[0], [11], [5]] [⟨sk0 (.val K6 a0), [], [], []⟩, ⟨sk0 (.val kHash_Hash y10), [], [], []⟩, ⟨sk0 (.val K6 y6), [], [], []⟩] [] (fun T : List Res => (.box K3 b1 64 (List.replicate 32 (0 : Int))) :: T) lf1 rfl (by kernel_rfl) rfl rfl (fun F hF0 bs9 => ?_)
  refine Tq.v (fun G T hG => ?_) ?_
  ·exact mv rfl rfl <| Tq.end undef rfl rfl
  refine Tq.v (fun G T hG => ?_) ?_
  ·exact Under.call Tryd.call42 rfl rfl (f_mac_padded_ok h11 _) rfl <| Tq.end undef rfl rfl
  refine Tq.v (fun G T hG => ?_) ?_
  ·exact ov (OpV.slA Tryd.underlying64 sz5 rfl) rfl <| Tq.end undef rfl rfl
  refine Tq.nil <| Under.le hF0 <| Under.p1 3 rfl rfl <| Under.call Tryd.call43 rfl rfl (f_hash_Hash_Add_ok h13 _) rfl <| Under.pn <| Under.p1 4 rfl rfl <| Under.call Tryd.call44 rfl rfl (f_hash_Hash_Sum_ok h15 _) rfl <| Under.pn <| Under.p1 5 rfl rfl <| Under.stP (x' := y14) .box .id sz64_kArr_32_kInt_u8_ rfl rfl rdV rfl <| Under.pn <| Under.pdone rfl <| Under.frz (t := 4) rfl <| tn <| rc ?_
  have e16 := osi hF
  subst e16
  exact Under.rets Tryd.results23 (.ce rfl kt64 .nil) rfl rfl
/-- churn/mac.Extract -/
noncomputable def f_mac_Extract (a0 : List Int) (a1 : List Int) : Option (List Int) :=
  (f_mac_Tag a0 a1).bind fun y2 =>
  some y2
theorem f_mac_Extract_ok {a0 : List Int} {a1 : List Int} {r0 : (List Int)} (hF : f_mac_Extract a0 a1 = some r0) (L : List Res) : Ok Tryd.prog 33 [SV.val K6 a0, SV.val K6 a1] (L) (SV.val K3 r0) (L) := by
  unfold f_mac_Extract at hF
  refine Ok.intro 8 [(0, .val K6 a0), (1, .val K6 a1)] Tryd.func33 rfl rfl rfl rfl (fun F0 => ?_)
  obtain ⟨y2, h3, hF⟩ := bsome hF
  refine sr <| Under.al ZT64 rfl fun b1 => ns <| mv rfl rfl <| mv rfl rfl <| Under.call Tryd.call23 rfl rfl (f_mac_Tag_ok h3 _) rfl <| Under.stP (x' := y2) .box .id sz64_kArr_32_kInt_u8_ rfl rfl rdV rfl <| nl <| Under.frz (t := 4) rfl <| tn <| rc ?_
  have e4 := osi hF
  subst e4
  exact Under.rets Tryd.results33 (.ce rfl kt64 .nil) rfl rfl
/-- churn/mac.Expand -/
noncomputable def f_mac_Expand (a0 : List Int) (a1 : List Int) (a2 : Int) : Option ((List Int) × Int) :=
  bif decide (a2 < 0) then
    some ([], 2)
  else
    bif decide (a2 > 8160) then
      some ([], 1)
    else
      bif mkB 0 (IntKind.wrap .i64 (a2 + 32)) then
      (((Loop.run (S := ((List Int) × (List Int) × Int)) (R := (List Int)) (fun (x143, x144, x145) =>
          bif decide ((x143.length : Int) < a2) then
            bif mkB 0 (IntKind.wrap .i64 ((IntKind.wrap .i64 ((x144.length : Int) + (a1.length : Int))) + 1)) then
            (app (List.replicate (Int.toNat 0) (0 : Int)) x144).bind fun z173 =>
            (app z173 a1).bind fun z176 =>
            (app z176 [IntKind.wrap .u8 x145]).bind fun z179 =>
            (f_mac_Tag a0 z179).bind fun y182 =>
            (app x143 y182).bind fun z185 =>
            some (.next (z185, y182, IntKind.wrap .i64 (x145 + 1)))
            else none
          else
            some (.done x143)) (List.replicate (Int.toNat 0) (0 : Int), [], 1)).bind fun x164 =>
      some x164
        : Option (List Int))).bind fun x95 =>
      (sub x95 0 a2).bind fun x99 =>
      some (x99, 0)
      else none
theorem f_mac_Expand_ok {a0 : List Int} {a1 : List Int} {a2 : Int} {r0 : ((List Int) × Int)} (hF : f_mac_Expand a0 a1 a2 = some r0) (L : List Res) : Ok Tryd.prog 34 [SV.val K6 a0, SV.val K6 a1, SV.raw (.int .i64 a2)] (L) (SV.tup [SV.val K6 r0.1, SV.raw (.int .i64 r0.2)]) (L) := by
  unfold f_mac_Expand at hF
  refine Ok.intro 54 [(0, .val K6 a0), (1, .val K6 a1), (2, .raw (.int .i64 a2))] Tryd.func34 rfl rfl rfl rfl (fun F0 => ?_)
  refine sr <| ag rfl rfl <| ag rfl rfl <| nt <| sq <| sr <| mv rfl rfl <| bn rfl rfl rfl rfl <| nt <| Under.ite hF rfl (fun hF => ?_) (fun hF => ?_)
  ·refine sr <| ag rfl rfl <| ag rfl rfl <| nt <| rt <| Under.toV (K := kSl K8) (x := []) (t := 6) rfl rdN ?_
   have e1 := osi hF
   subst e1
   exact Under.rets Tryd.results34 (.tm rfl (.tm rfl .nil)) rfl rfl
  ·refine ct <| sq <| sr <| mv rfl rfl <| bn rfl rfl rfl rfl <| nt <| Under.ite hF rfl (fun hF => ?_) (fun hF => ?_)
   ·refine sr <| ag rfl rfl <| ag rfl rfl <| nt <| rt <| Under.toV (K := kSl K8) (x := []) (t := 6) rfl rdN ?_
    have e2 := osi hF
    subst e2
    exact Under.rets Tryd.results34 (.tm rfl (.tm rfl .nil)) rfl rfl
   ·obtain ⟨h4, hF⟩ := gsome hF
    obtain ⟨r96, h97, hF⟩ := bsome hF
    refine ct <| sr <| mv rfl rfl <| bn rfl rfl rfl rfl <| Under.mk h4 Tryd.underlying22 AT5 rfl rfl rfl fun v3 => ag rfl rfl <| ns <| ag rfl rfl <| nt <| sq <| Under.after (fun X => ∀ (x95 : List Int), r96 = x95 → Under F0 54 [(2, .raw (.int .i64 a2)), (8, .val K6 x95)] (L) X) ?_ ?_
    ·intro x95 h193
     replace h193 := h193.symm
     subst h193
     obtain ⟨x99, h100, hF⟩ := bsome hF
     refine sr <| mv rfl rfl <| mv rfl rfl <| ov (OpV.slH h100 Tryd.underlying22 sz5 rfl rdV rfl) rfl <| ag rfl rfl <| ag rfl rfl <| nt <| rc ?_
     have e101 := osi hF
     subst e101
     exact Under.rets Tryd.results34 (.tm rfl (.tm rfl .nil)) rfl rfl
    ·intro K k98
     obtain ⟨r167, h168, h97⟩ := bsome h97
     refine sr <| ag rfl rfl <| nt <| bk <| Under.toV (K := kSl K8) (x := []) (t := 9) rfl rdN <| Under.loop (S := ((List Int) × (List Int) × Int)) (C := Value) v3 (fun (x190 : ((List Int) × (List Int) × Int)) (q191 : Value) => [(0, .val K6 a0), (1, .val K6 a1), (2, .raw (.int .i64 a2)), (8, .raw q191), (9, .val K6 x190.2.1), (10, .raw (.int .i64 x190.2.2))]) (fun (x190 : ((List Int) × (List Int) × Int)) (q191 : Value) => (.own K8 q191 5 x190.1) :: L) h168 (s6 rfl rfl rfl rfl rfl rfl) rfl (fun x190 q191 o169 h165 d166 => ?_)
     obtain ⟨x143, x144, x145⟩ := x190
     dsimp only at h165 ⊢
     refine sq <| sr <| mv rfl rfl <| ov (OpV.lenO Tryd.underlying22 rfl) rfl <| mv rfl rfl <| bn rfl rfl rfl rfl <| nt <| Under.ite h165 rfl (fun h165 => ?_) (fun h165 => ?_)
     ·obtain ⟨h171, h165⟩ := gsome h165
      obtain ⟨z173, h174, h165⟩ := bsome h165
      obtain ⟨z176, h177, h165⟩ := bsome h165
      obtain ⟨z179, h180, h165⟩ := bsome h165
      obtain ⟨y182, h183, h165⟩ := bsome h165
      obtain ⟨z185, h186, h165⟩ := bsome h165
      exact ct <| sq <| bk <| sr <| mv rfl rfl <| ov (OpV.len Tryd.underlying22 rfl rdV) rfl <| mv rfl rfl <| ov (OpV.len Tryd.underlying22 rfl rdV) rfl <| bn rfl rfl rfl rfl <| bn rfl rfl rfl rfl <| Under.mk h171 Tryd.underlying22 AT5 rfl rfl rfl fun v170 => ag rfl rfl <| ns <| mv rfl rfl <| mv rfl rfl <| Under.app h174 Tryd.underlying22 AT5 rfl rfl rdV rfl fun v175 => ag rfl rfl <| ns <| mv rfl rfl <| mv rfl rfl <| Under.app h177 Tryd.underlying22 AT5 rfl rfl rdV rfl fun v178 => ag rfl rfl <| ns <| mv rfl rfl <| mv rfl rfl <| ov (OpV.conv (by kernel_rfl) Tryd.underlying5 rfl) rfl <| Under.bsF (ys := [IntKind.wrap .u8 x145]) Tryd.underlying22 ET5 (BldA.cons rfl rfl rdI (BldA.nil _)) rfl rfl <| Under.app h180 Tryd.underlying22 AT5 rfl rfl rdV rfl fun v181 => ag rfl rfl <| nl <| Under.frzO (t := 11) rfl <| tn <| sr <| mv rfl rfl <| mv rfl rfl <| Under.call Tryd.call23 rfl rfl (f_mac_Tag_ok h183 _) rfl <| Under.al ZT64 rfl fun b184 => Under.stP (x' := y182) .box .id sz64_kArr_32_kInt_u8_ rfl rfl rdV rfl <| nl <| Under.frz (t := 12) rfl <| tn <| sr <| ov (OpV.slA Tryd.underlying64 sz5 rfl) rfl <| ag rfl rfl <| nt <| rg <| mv rfl rfl <| mv rfl rfl <| Under.app h186 Tryd.underlying22 AT5 rfl rfl rdV rfl fun v187 => ag rfl rfl <| nl <| bN <| tn <| rg <| mv rfl rfl <| bn rfl rfl rfl rfl <| ag rfl rfl <| nl <| Under.next _ v187 h165 (s6 rfl rfl rfl rfl rfl rfl) rfl
     ·refine Under.frzO (t := 8) rfl <| xt <| te ?_
      have e188 := done_eq h165 d166
      subst e188
      exact te <| bh <| tn <| wk (k98 _ (osi h97).symm) (s2 rfl rfl)
/-- churn/mac.Derive -/
noncomputable def f_mac_Derive (a0 : List Int) (a1 : List Int) (a2 : List Int) (a3 : Int) : Option ((List Int) × Int) :=
  (f_mac_Extract a1 a0).bind fun y1 =>
  (f_mac_Expand y1 a2 a3).bind fun y4 =>
  some (y4.1, y4.2)
theorem f_mac_Derive_ok {a0 : List Int} {a1 : List Int} {a2 : List Int} {a3 : Int} {r0 : ((List Int) × Int)} (hF : f_mac_Derive a0 a1 a2 a3 = some r0) (L : List Res) : Ok Tryd.prog 15 [SV.val K6 a0, SV.val K6 a1, SV.val K6 a2, SV.raw (.int .i64 a3)] (L) (SV.tup [SV.val K6 r0.1, SV.raw (.int .i64 r0.2)]) (L) := by
  unfold f_mac_Derive at hF
  refine Ok.intro 20 [(0, .val K6 a0), (1, .val K6 a1), (2, .val K6 a2), (3, .raw (.int .i64 a3))] Tryd.func15 rfl rfl rfl rfl (fun F0 => ?_)
  obtain ⟨y1, h2, hF⟩ := bsome hF
  obtain ⟨y4, h5, hF⟩ := bsome hF
  refine sr <| ag rfl rfl <| ag rfl rfl <| ns <| mv rfl rfl <| mv rfl rfl <| Under.call Tryd.call33 rfl rfl (f_mac_Extract_ok h2 _) rfl <| Under.al ZT64 rfl fun b3 => Under.stP (x' := y1) .box .id sz64_kArr_32_kInt_u8_ rfl rfl rdV rfl <| nl <| Under.frz (t := 10) rfl <| tn <| sr <| ov (OpV.slA Tryd.underlying64 sz5 rfl) rfl <| mv rfl rfl <| mv rfl rfl <| Under.call Tryd.call34 rfl rfl (f_mac_Expand_ok h5 _) rfl <| ov (OpV.extr rfl rfl) rfl <| ov (OpV.extr rfl rfl) rfl <| ag rfl rfl <| ag rfl rfl <| nt <| rc ?_
  have e6 := osi hF
  subst e6
  exact Under.rets Tryd.results15 (.tm rfl (.tm rfl .nil)) rfl rfl
/-- churn/route.Key -/
noncomputable def f_route_Key (a0 : List Int) (a1 : Int) : Option ((List Int) × Int) :=
  bif (((a0.length : Int) != 32) || (decide (a1 < 0))) || (decide (a1 > 4611686018427387904)) then
    some ([], 2)
  else
    bif mkB 8 8 then
    (((Loop.run (S := ((List Int) × Int)) (R := (List Int)) (fun (x53, x54) =>
        bif decide (x54 < ((List.replicate (Int.toNat 8) (0 : Int)).length : Int)) then
          bif decide (0 ≤ (IntKind.wrap .i64 (56 - (IntKind.wrap .i64 (8 * x54))))) then
          (idx x53 x54).bind fun x65 =>
          some (.next (List.set x53 (Int.toNat x54) (IntKind.wrap .u8 (shrI .i64 a1 (IntKind.wrap .i64 (56 - (IntKind.wrap .i64 (8 * x54)))))), IntKind.wrap .i64 (x54 + 1)))
          else none
        else
          some (.done x53)) (List.replicate (Int.toNat 8) (0 : Int), 0)).bind fun x58 =>
    some x58
      : Option (List Int))).bind fun x36 =>
    bif decide (0 < [99, 104, 117, 114, 110, 32, 104, 111, 112].length) then
    (f_mac_Derive a0 x36 [99, 104, 117, 114, 110, 32, 104, 111, 112] 32).bind fun y42 =>
    some (y42.1, y42.2)
    else none
    else none
theorem f_route_Key_ok {a0 : List Int} {a1 : Int} {r0 : ((List Int) × Int)} (hF : f_route_Key a0 a1 = some r0) (L : List Res) : Ok Tryd.prog 8 [SV.val K6 a0, SV.raw (.int .i64 a1)] (L) (SV.tup [SV.val K6 r0.1, SV.raw (.int .i64 r0.2)]) (L) := by
  unfold f_route_Key at hF
  refine Ok.intro 42 [(0, .val K6 a0), (1, .raw (.int .i64 a1))] Tryd.func8 rfl rfl rfl rfl (fun F0 => ?_)
  refine sr <| ag rfl rfl <| ag rfl rfl <| nt <| sq <| sr <| mv rfl rfl <| ov (OpV.len Tryd.underlying22 rfl rdV) rfl <| bn rfl rfl rfl rfl <| mv rfl rfl <| runj_3 14 (((a0.length : Int) != 32) || (decide (a1 < 0))) ?_ (fun k => ?_)
  ·refine mv rfl rfl <| runj_3 18 ((((a0.length : Int) != 32) || (decide (a1 < 0))) || (decide (a1 > 4611686018427387904))) ?_ (fun k => ?_)
   ·refine nt <| Under.ite hF rfl (fun hF => ?_) (fun hF => ?_)
    ·refine sr <| ag rfl rfl <| ag rfl rfl <| nt <| rt <| Under.toV (K := kSl K8) (x := []) (t := 4) rfl rdN ?_
     have e7 := osi hF
     subst e7
     exact Under.rets Tryd.results8 (.tm rfl (.tm rfl .nil)) rfl rfl
    ·obtain ⟨h9, hF⟩ := gsome hF
     obtain ⟨r37, h38, hF⟩ := bsome hF
     refine ct <| sr <| Under.mk h9 Tryd.underlying22 AT5 rfl rfl rfl fun v8 => ag rfl rfl <| nt <| sq <| Under.after (fun X => ∀ (x36 : List Int), r37 = x36 → Under F0 42 [(0, .val K6 a0), (6, .val K6 x36)] (L) X) ?_ ?_
     ·intro x36 h72
      replace h72 := h72.symm
      subst h72
      obtain ⟨h41, hF⟩ := gsome hF
      obtain ⟨y42, h43, hF⟩ := bsome hF
      refine sr <| mv rfl rfl <| mv rfl rfl <| Under.bsO (ys := [99, 104, 117, 114, 110, 32, 104, 111, 112]) Tryd.underlying22 ET5 (BldA.cons rfl rfl rdI (BldA.cons rfl rfl rdI (BldA.cons rfl rfl rdI (BldA.cons rfl rfl rdI (BldA.cons rfl rfl rdI (BldA.cons rfl rfl rdI (BldA.cons rfl rfl rdI (BldA.cons rfl rfl rdI (BldA.cons rfl rfl rdI (BldA.nil _)))))))))) rfl rfl fun v40 => Under.cvS Tryd.underlying22 Tryd.underlying5 (of_decide_eq_true h41) rfl rfl <| Under.call Tryd.call15 rfl rfl (f_mac_Derive_ok h43 _) rfl <| ov (OpV.extr rfl rfl) rfl <| ov (OpV.extr rfl rfl) rfl <| ag rfl rfl <| ag rfl rfl <| nt <| rc ?_
      have e44 := osi hF
      subst e44
      exact Under.rets Tryd.results8 (.tm rfl (.tm rfl .nil)) rfl rfl
     ·intro K k39
      obtain ⟨r61, h62, h38⟩ := bsome h38
      refine sr <| mv rfl rfl <| ov (OpV.lenO Tryd.underlying22 rfl) rfl <| mv rfl rfl <| nt <| bk <| Under.loop (S := ((List Int) × Int)) (C := Unit) () (fun (x69 : ((List Int) × Int)) (q70 : Unit) => [(0, .val K6 a0), (1, .raw (.int .i64 a1)), (6, .raw v8), (21, .raw (.int .i64 ((List.replicate (Int.toNat 8) (0 : Int)).length : Int))), (22, .raw (.int .i64 x69.2))]) (fun (x69 : ((List Int) × Int)) (q70 : Unit) => (.own K8 v8 5 x69.1) :: L) h62 (s5 rfl rfl rfl rfl rfl) rfl (fun x69 q70 o63 h59 d60 => ?_)
      obtain ⟨x53, x54⟩ := x69
      dsimp only at h59 ⊢
      refine sr <| bn rfl rfl rfl rfl <| nt <| sq <| Under.ite h59 rfl (fun h59 => ?_) (fun h59 => ?_)
      ·obtain ⟨h64, h59⟩ := gsome h59
       obtain ⟨x65, h66, h59⟩ := bsome h59
       exact ct <| sq <| bk <| sr <| mv rfl rfl <| ag rfl rfl <| nt <| rg <| mv rfl rfl <| mv rfl rfl <| mv rfl rfl <| mv rfl rfl <| bn rfl rfl rfl rfl <| bn rfl rfl rfl rfl <| ov (OpV.sh rfl rfl (of_decide_eq_true h64) rfl) rfl <| ov (OpV.conv (by kernel_rfl) Tryd.underlying5 rfl) rfl <| ov (OpV.ixO h66 Tryd.underlying22 sz5_kInt_u8 rfl rfl) rfl <| Under.stP (x' := List.set x53 (Int.toNat x54) (IntKind.wrap .u8 (shrI .i64 a1 (IntKind.wrap .i64 (56 - (IntKind.wrap .i64 (8 * x54))))))) (.own h66) (.ix .id h66) sz5_kInt_u8 rfl rfl rdI rfl <| nl <| bN <| tn <| rg <| bn rfl rfl rfl rfl <| mv rfl rfl <| nl <| Under.next _ () h59 (s5 rfl rfl rfl rfl rfl) rfl
      ·refine Under.frzO (t := 6) rfl <| xt <| te ?_
       have e67 := done_eq h59 d60
       subst e67
       exact te <| bh <| tn <| wk (k39 _ (osi h38).symm) (s2 rfl rfl)
   ·refine by_ (t := 15) rfl (fun c4 => ?_) (fun c4 => ?_)
    ·exact sk c4 rfl rfl rfl <| sk c4 rfl rfl rfl <| ov (pkT c4 rfl rfl) rfl <| rf 2 (or_t (e := decide (a1 > 4611686018427387904)) c4) rfl k
    ·exact gc c4 rfl rfl <| mv rfl rfl <| gc c4 rfl rfl <| bn rfl rfl rfl rfl <| ov (pkF c4 rfl rfl) rfl <| rf 2 (or_f c4) rfl k
  ·refine by_ (t := 11) rfl (fun c1 => ?_) (fun c1 => ?_)
   ·exact sk c1 rfl rfl rfl <| sk c1 rfl rfl rfl <| ov (pkT c1 rfl rfl) rfl <| rf 2 (or_t (e := decide (a1 < 0)) c1) rfl k
   ·exact gc c1 rfl rfl <| mv rfl rfl <| gc c1 rfl rfl <| bn rfl rfl rfl rfl <| ov (pkF c1 rfl rfl) rfl <| rf 2 (or_f c1) rfl k
/-- churn/onion.Size -/
noncomputable def f_onion_Size (a0 : Int) : Option Int :=
  bif (decide (a0 < 1)) || (decide (a0 > 8)) then
    some 0
  else
    some (IntKind.wrap .i64 (48 + (IntKind.wrap .i64 (34 * a0))))
theorem f_onion_Size_ok {a0 : Int} {r0 : Int} (hF : f_onion_Size a0 = some r0) (L : List Res) : Ok Tryd.prog 16 [SV.raw (.int .i64 a0)] (L) (SV.raw (.int .i64 r0)) (L) := by
  unfold f_onion_Size at hF
  refine Ok.intro 12 [(0, .raw (.int .i64 a0))] Tryd.func16 rfl rfl rfl rfl (fun F0 => ?_)
  refine sr <| ag rfl rfl <| nt <| sq <| sr <| mv rfl rfl <| bn rfl rfl rfl rfl <| mv rfl rfl <| runj_3 8 ((decide (a0 < 1)) || (decide (a0 > 8))) ?_ (fun k => ?_)
  ·refine nt <| Under.ite hF rfl (fun hF => ?_) (fun hF => ?_)
   ·refine sr <| ag rfl rfl <| nt <| rt ?_
    have e4 := osi hF
    subst e4
    exact Under.rets Tryd.results16 (.tm rfl .nil) rfl rfl
   ·refine ct <| sr <| mv rfl rfl <| bn rfl rfl rfl rfl <| bn rfl rfl rfl rfl <| ag rfl rfl <| nt <| rc ?_
    have e5 := osi hF
    subst e5
    exact Under.rets Tryd.results16 (.tm rfl .nil) rfl rfl
  ·refine by_ (t := 5) rfl (fun c1 => ?_) (fun c1 => ?_)
   ·exact sk c1 rfl rfl rfl <| sk c1 rfl rfl rfl <| ov (pkT c1 rfl rfl) rfl <| rf 2 (or_t (e := decide (a0 > 8)) c1) rfl k
   ·exact gc c1 rfl rfl <| mv rfl rfl <| gc c1 rfl rfl <| bn rfl rfl rfl rfl <| ov (pkF c1 rfl rfl) rfl <| rf 2 (or_f c1) rfl k
/-- churn/cell.noughts -/
noncomputable def f_cell_noughts (a0 : List Int) : Option Bool :=
  (((Loop.run (S := Int) (R := (Unit ⊕ Bool)) (fun x29 =>
      bif decide (x29 < (a0.length : Int)) then
        (idx a0 x29).bind fun x37 =>
        bif x37 != 0 then
          some (.done (.inr false))
        else
          some (.next (IntKind.wrap .i64 (x29 + 1)))
      else
        some (.done (.inl ()))) 0).bind fun r34 => match r34 with
    | .inl _ =>
      some (.inr ())
    | .inr z =>
      some (.inl z)
    : Option (Bool ⊕ Unit))).bind fun r20 => match r20 with
    | .inl z =>
      some z
    | .inr _ =>
      some true
theorem f_cell_noughts_ok {a0 : List Int} {r0 : Bool} (hF : f_cell_noughts a0 = some r0) (L : List Res) : Ok Tryd.prog 35 [SV.val K6 a0] (L) (SV.raw (.bool r0)) (L) := by
  unfold f_cell_noughts at hF
  refine Ok.intro 14 [(0, .val K6 a0)] Tryd.func35 rfl rfl rfl rfl (fun F0 => ?_)
  obtain ⟨r20, h21, hF⟩ := bsome hF
  refine sr <| ag rfl rfl <| nt <| sq <| Under.after (fun X => ∀ (_ : Unit), r20 = (.inr ()) → Under F0 14 [] (L) X) ?_ ?_
  ·intro _ h47
   replace h47 := h47.symm
   subst h47
   refine sr <| ag rfl rfl <| nt <| rc ?_
   have e23 := osi hF
   subst e23
   exact Under.rets Tryd.results35 (.tm rfl .nil) rfl rfl
  ·intro K k22
   obtain ⟨r34, h35, h21⟩ := bsome h21
   refine sr <| mv rfl rfl <| ov (OpV.len Tryd.underlying22 rfl rdV) rfl <| mv rfl rfl <| nt <| bk <| Under.loop (S := Int) (C := Unit) () (fun (x44 : Int) (q45 : Unit) => [(5, .val K6 a0), (6, .raw (.int .i64 (a0.length : Int))), (7, .raw (.int .i64 x44))]) (fun (x44 : Int) (q45 : Unit) => L) h35 (s3 rfl rfl rfl) rfl (fun x44 q45 o36 h32 d33 => ?_)
   refine sr <| bn rfl rfl rfl rfl <| nt <| sq <| Under.ite h32 rfl (fun h32 => ?_) (fun h32 => ?_)
   ·obtain ⟨x37, h38, h32⟩ := bsome h32
    refine ct <| sq <| bk <| sr <| ov (OpV.ixS h38 Tryd.underlying22 sz5 rfl rdV rfl) rfl <| ov (OpV.ldI kt5 rfl) rfl <| ag rfl rfl <| ns <| mv rfl rfl <| bn rfl rfl rfl rfl <| nt <| Under.ite h32 rfl (fun h32 => ?_) (fun h32 => ?_)
    ·refine sr <| ag rfl rfl <| nt <| rc <| Under.bR <| tr ?_
     have e39 := done_eq h32 d33
     subst e39
     refine tr <| Under.bR <| tr ?_
     have e40 := osi h21
     subst e40
     have e41 := osi hF
     subst e41
     exact Under.rets Tryd.results35 (.tm rfl .nil) rfl rfl
    ·exact cs <| bN <| tn <| rg <| bn rfl rfl rfl rfl <| mv rfl rfl <| nl <| Under.next _ () h32 (s3 rfl rfl rfl) rfl
   ·refine xt <| te ?_
    have e42 := done_eq h32 d33
    subst e42
    exact te <| bh <| tn <| wk (k22 () (osi h21).symm) (sub_nil _)
/-- churn/cell.Cut -/
noncomputable def f_cell_Cut (a0 : List Int) (a1 : Int) : Option ((List Int) × Int) :=
  bif (a0.length : Int) != 320 then
    some ([], 50)
  else
    bif (decide (a1 < 0)) || (decide (a1 > 320)) then
      some ([], 2)
    else
      (sub a0 a1 (a0.length : Int)).bind fun x6 =>
      (f_cell_noughts x6).bind fun y8 =>
      bif !y8 then
        some ([], 51)
      else
        (sub a0 0 a1).bind fun x11 =>
        (app [] x11).bind fun z13 =>
        some (z13, 0)
theorem f_cell_Cut_ok {a0 : List Int} {a1 : Int} {r0 : ((List Int) × Int)} (hF : f_cell_Cut a0 a1 = some r0) (L : List Res) : Ok Tryd.prog 17 [SV.val K6 a0, SV.raw (.int .i64 a1)] (L) (SV.tup [SV.val K6 r0.1, SV.raw (.int .i64 r0.2)]) (L) := by
  unfold f_cell_Cut at hF
  refine Ok.intro 27 [(0, .val K6 a0), (1, .raw (.int .i64 a1))] Tryd.func17 rfl rfl rfl rfl (fun F0 => ?_)
  refine sr <| ag rfl rfl <| ag rfl rfl <| nt <| sq <| bk <| sr <| mv rfl rfl <| ov (OpV.len Tryd.underlying22 rfl rdV) rfl <| bn rfl rfl rfl rfl <| ag rfl rfl <| nt <| Under.ite hF rfl (fun hF => ?_) (fun hF => ?_)
  ·refine sr <| ag rfl rfl <| ag rfl rfl <| nt <| rc <| Under.bR <| tr <| Under.toV (K := kSl K8) (x := []) (t := 4) rfl rdN ?_
   have e1 := osi hF
   subst e1
   exact Under.rets Tryd.results17 (.tm rfl (.tm rfl .nil)) rfl rfl
  ·refine sr <| mv rfl rfl <| bn rfl rfl rfl rfl <| mv rfl rfl <| runj_3 16 ((decide (a1 < 0)) || (decide (a1 > 320))) ?_ (fun k => ?_)
   ·refine ag rfl rfl <| nt <| Under.ite hF rfl (fun hF => ?_) (fun hF => ?_)
    ·refine sr <| ag rfl rfl <| ag rfl rfl <| nt <| rc <| Under.bR <| tr <| Under.toV (K := kSl K8) (x := []) (t := 4) rfl rdN ?_
     have e5 := osi hF
     subst e5
     exact Under.rets Tryd.results17 (.tm rfl (.tm rfl .nil)) rfl rfl
    ·obtain ⟨x6, h7, hF⟩ := bsome hF
     obtain ⟨y8, h9, hF⟩ := bsome hF
     refine sr <| mv rfl rfl <| mv rfl rfl <| ov (OpV.slL h7 Tryd.underlying22 sz5 rfl rdV rfl) rfl <| Under.call Tryd.call35 rfl rfl (f_cell_noughts_ok h9 _) rfl <| ov (OpV.not rfl) rfl <| ag rfl rfl <| nt <| Under.ite hF rfl (fun hF => ?_) (fun hF => ?_)
     ·refine sr <| ag rfl rfl <| ag rfl rfl <| nt <| rc <| Under.bR <| tr <| Under.toV (K := kSl K8) (x := []) (t := 4) rfl rdN ?_
      have e10 := osi hF
      subst e10
      exact Under.rets Tryd.results17 (.tm rfl (.tm rfl .nil)) rfl rfl
     ·obtain ⟨x11, h12, hF⟩ := bsome hF
      obtain ⟨z13, h14, hF⟩ := bsome hF
      refine cs <| bN <| tn <| sr <| mv rfl rfl <| mv rfl rfl <| ov (OpV.slH h12 Tryd.underlying22 sz5 rfl rdV rfl) rfl <| Under.ownNil (K := kInt .u8) (e := 5) <| Under.app h14 Tryd.underlying22 AT5 rfl rfl rdV rfl fun v15 => ag rfl rfl <| ag rfl rfl <| nl <| Under.frzO (t := 4) rfl <| tn <| rc ?_
      have e16 := osi hF
      subst e16
      exact Under.rets Tryd.results17 (.tm rfl (.tm rfl .nil)) rfl rfl
   ·refine by_ (t := 13) rfl (fun c2 => ?_) (fun c2 => ?_)
    ·exact sk c2 rfl rfl rfl <| sk c2 rfl rfl rfl <| ov (pkT c2 rfl rfl) rfl <| rf 2 (or_t (e := decide (a1 > 320)) c2) rfl k
    ·exact gc c2 rfl rfl <| mv rfl rfl <| gc c2 rfl rfl <| bn rfl rfl rfl rfl <| ov (pkF c2 rfl rfl) rfl <| rf 2 (or_f c2) rfl k
/-- churn/onion.Derive -/
noncomputable def f_onion_Derive (a0 : List Int) (a1 : List Int) : Option (Api_OnionKeys × Int) :=
  bif (a0.length : Int) != 32 then
    some ((⟨(List.replicate 16 (0 : Int)), (List.replicate 32 (0 : Int)), (List.replicate 32 (0 : Int))⟩ : Api_OnionKeys), 2)
  else
    bif decide (0 < [99, 104, 117, 114, 110].length) then
    (f_mac_Derive a0 a1 [99, 104, 117, 114, 110] 80).bind fun y5 =>
    bif y5.2 != 0 then
      some ((⟨(List.replicate 16 (0 : Int)), (List.replicate 32 (0 : Int)), (List.replicate 32 (0 : Int))⟩ : Api_OnionKeys), y5.2)
    else
      (sub y5.1 0 16).bind fun x9 =>
      bif decide (16 ≤ x9.length) then
      (sub y5.1 16 48).bind fun x12 =>
      bif decide (32 ≤ x12.length) then
      (sub y5.1 48 (y5.1.length : Int)).bind fun x15 =>
      bif decide (32 ≤ x15.length) then
      some ((⟨List.take 16 x9, List.take 32 x12, List.take 32 x15⟩ : Api_OnionKeys), 0)
      else none
      else none
      else none
    else none
theorem f_onion_Derive_ok {a0 : List Int} {a1 : List Int} {r0 : (Api_OnionKeys × Int)} (hF : f_onion_Derive a0 a1 = some r0) (L : List Res) : Ok Tryd.prog 18 [SV.val K6 a0, SV.val K4 a1] (L) (SV.tup [SV.val kApi_OnionKeys r0.1, SV.raw (.int .i64 r0.2)]) (L) := by
  unfold f_onion_Derive at hF
  refine Ok.intro 37 [(0, .val K6 a0), (1, .val K4 a1)] Tryd.func18 rfl rfl rfl rfl (fun F0 => ?_)
  refine sr <| Under.bxF (K := kArr 16 K8) rfl rdV rfl <| Under.al ZT66 rfl fun b1 => ag rfl rfl <| nt <| sq <| sr <| mv rfl rfl <| ov (OpV.len Tryd.underlying22 rfl rdV) rfl <| bn rfl rfl rfl rfl <| nt <| Under.ite hF rfl (fun hF => ?_) (fun hF => ?_)
  ·refine sr <| ov (OpV.bst BT66 (Bld.nil _)) rfl <| Under.stP (x' := (⟨(List.replicate 16 (0 : Int)), (List.replicate 32 (0 : Int)), (List.replicate 32 (0 : Int))⟩ : Api_OnionKeys)) .box .id sz66_kApi_OnionKeys rfl rfl rdV rfl <| ag rfl rfl <| nl <| Under.frz (t := 4) rfl <| tn <| rt ?_
   have e2 := osi hF
   subst e2
   exact Under.rets Tryd.results18 (.ce rfl kt66 (.tm rfl .nil)) rfl rfl
  ·obtain ⟨h4, hF⟩ := gsome hF
   obtain ⟨y5, h6, hF⟩ := bsome hF
   refine ct <| sr <| mv rfl rfl <| ov (OpV.slA Tryd.underlying44 sz5 rfl) rfl <| Under.bsO (ys := [99, 104, 117, 114, 110]) Tryd.underlying22 ET5 (BldA.cons rfl rfl rdI (BldA.cons rfl rfl rdI (BldA.cons rfl rfl rdI (BldA.cons rfl rfl rdI (BldA.cons rfl rfl rdI (BldA.nil _)))))) rfl rfl fun v3 => Under.cvS Tryd.underlying22 Tryd.underlying5 (of_decide_eq_true h4) rfl rfl <| Under.call Tryd.call15 rfl rfl (f_mac_Derive_ok h6 _) rfl <| mv rfl rfl <| ov (OpV.extr rfl rfl) rfl <| ov (OpV.extr rfl rfl) rfl <| ag rfl rfl <| ag rfl rfl <| nt <| sq <| sr <| mv rfl rfl <| bn rfl rfl rfl rfl <| nt <| Under.ite hF rfl (fun hF => ?_) (fun hF => ?_)
   ·refine sr <| ov (OpV.bst BT66 (Bld.nil _)) rfl <| mv rfl rfl <| Under.stP (x' := (⟨(List.replicate 16 (0 : Int)), (List.replicate 32 (0 : Int)), (List.replicate 32 (0 : Int))⟩ : Api_OnionKeys)) .box .id sz66_kApi_OnionKeys rfl rfl rdV rfl <| ag rfl rfl <| nl <| Under.frz (t := 4) rfl <| tn <| rt ?_
    have e7 := osi hF
    subst e7
    exact Under.rets Tryd.results18 (.ce rfl kt66 (.tm rfl .nil)) rfl rfl
   ·obtain ⟨x9, h10, hF⟩ := bsome hF
    obtain ⟨h11, hF⟩ := gsome hF
    obtain ⟨x12, h13, hF⟩ := bsome hF
    obtain ⟨h14, hF⟩ := gsome hF
    obtain ⟨x15, h16, hF⟩ := bsome hF
    obtain ⟨h17, hF⟩ := gsome hF
    refine ct <| sq <| Under.phases rfl <| Under.grpT (L := L) [0, 1, 2, 3, 4, 5, 6, 7, 8, 9, 10, 11] [[6], [24], [25], [26], [6], [28], [29], [30], [6], [32], [33], [34]] [⟨sk0 (.val K6 y5.1), [], [], []⟩, ⟨sk0 (.val K6 x9), [], [], []⟩, ⟨sk0 (.ptr K4 (List.take 16 x9)), [], [], []⟩, ⟨sk0 (.val K4 (List.take 16 x9)), [], [], []⟩, ⟨sk0 (.val K6 y5.1), [], [], []⟩, ⟨sk0 (.val K6 x12), [], [], []⟩, ⟨sk0 (.ptr K3 (List.take 32 x12)), [], [], []⟩, ⟨sk0 (.val K3 (List.take 32 x12)), [], [], []⟩, ⟨sk0 (.val K6 y5.1), [], [], []⟩, ⟨sk0 (.val K6 x15), [], [], []⟩, ⟨sk0 (.ptr K3 (List.take 32 x15)), [], [], []⟩, ⟨sk0 (.val K3 (List.take 32 x15)), [], [], []⟩] [] (fun T : List Res => (.box kApi_OnionKeys b1 66 (⟨(List.replicate 16 (0 : Int)), (List.replicate 32 (0 : Int)), (List.replicate 32 (0 : Int))⟩ : Api_OnionKeys)) :: T) lf1 rfl (by kernel_rfl) rfl rfl (fun F hF0 bs8 => ?_)
    refine Tq.v (fun G T hG => ?_) ?_
    ·exact mv rfl rfl <| Tq.end undef rfl rfl
    refine Tq.v (fun G T hG => ?_) ?_
    ·exact ov (OpV.slH h10 Tryd.underlying22 sz5 rfl rdV rfl) rfl <| Tq.end undef rfl rfl
    refine Tq.v (fun G T hG => ?_) ?_
    ·exact ov (OpV.s2a (of_decide_eq_true h11) rfl Tryd.underlying44 rfl rdV) rfl <| Tq.end undef rfl rfl
    refine Tq.v (fun G T hG => ?_) ?_
    ·exact ov (OpV.ld kt44 rfl) rfl <| Tq.end undef rfl rfl
    refine Tq.v (fun G T hG => ?_) ?_
    ·exact mv rfl rfl <| Tq.end undef rfl rfl
    refine Tq.v (fun G T hG => ?_) ?_
    ·exact ov (OpV.slLH h13 Tryd.underlying22 sz5 rfl rdV rfl rfl) rfl <| Tq.end undef rfl rfl
    refine Tq.v (fun G T hG => ?_) ?_
    ·exact ov (OpV.s2a (of_decide_eq_true h14) rfl Tryd.underlying64 rfl rdV) rfl <| Tq.end undef rfl rfl
    refine Tq.v (fun G T hG => ?_) ?_
    ·exact ov (OpV.ld kt64 rfl) rfl <| Tq.end undef rfl rfl
    refine Tq.v (fun G T hG => ?_) ?_
    ·exact mv rfl rfl <| Tq.end undef rfl rfl
    refine Tq.v (fun G T hG => ?_) ?_
    ·exact ov (OpV.slL h16 Tryd.underlying22 sz5 rfl rdV rfl) rfl <| Tq.end undef rfl rfl
    refine Tq.v (fun G T hG => ?_) ?_
    ·exact ov (OpV.s2a (of_decide_eq_true h17) rfl Tryd.underlying64 rfl rdV) rfl <| Tq.end undef rfl rfl
    refine Tq.v (fun G T hG => ?_) ?_
    ·exact ov (OpV.ld kt64 rfl) rfl <| Tq.end undef rfl rfl
    refine Tq.nil <| Under.le hF0 <| Under.p1 12 rfl rfl <| ov (OpV.bst BT66 (Bld.cons (x' := (⟨List.take 16 x9, (List.replicate 32 (0 : Int)), (List.replicate 32 (0 : Int))⟩ : Api_OnionKeys)) rfl rfl rdV (by intro q hq; simp only [List.mem_cons, List.not_mem_nil, or_false] at hq; rcases hq with rfl | rfl <;> rfl) (Bld.cons (x' := (⟨List.take 16 x9, List.take 32 x12, (List.replicate 32 (0 : Int))⟩ : Api_OnionKeys)) rfl rfl rdV ⟨rfl, (by intro q hq; simp only [List.mem_cons, List.not_mem_nil, or_false] at hq; rcases hq with rfl <;> rfl)⟩ (Bld.cons (x' := (⟨List.take 16 x9, List.take 32 x12, List.take 32 x15⟩ : Api_OnionKeys)) rfl rfl rdV ⟨rfl, ⟨rfl, (fun q hq => by simp at hq)⟩⟩ (Bld.nil _))))) rfl <| Under.pn <| Under.p1 13 rfl rfl <| Under.stP (x' := (⟨List.take 16 x9, List.take 32 x12, List.take 32 x15⟩ : Api_OnionKeys)) .box .id sz66_kApi_OnionKeys rfl rfl rdV rfl <| Under.pn <| Under.p1 14 rfl rfl <| ag rfl rfl <| Under.pn <| Under.pdone rfl <| Under.frz (t := 4) rfl <| tn <| rc ?_
    have e18 := osi hF
    subst e18
    exact Under.rets Tryd.results18 (.ce rfl kt66 (.tm rfl .nil)) rfl rfl
/-- churn/onion.tagged -/
noncomputable def f_onion_tagged (a0 : Api_OnionKeys) (a1 : Int) (a2 : List Int) (a3 : List Int) : Option (List Int) :=
  (app [IntKind.wrap .u8 a1] a2).bind fun z2 =>
  (app z2 a3).bind fun z6 =>
  (f_mac_Tag a0.Mac z6).bind fun y9 =>
  (sub y9 0 16).bind fun x12 =>
  some x12
theorem f_onion_tagged_ok {a0 : Api_OnionKeys} {a1 : Int} {a2 : List Int} {a3 : List Int} {r0 : (List Int)} (hF : f_onion_tagged a0 a1 a2 a3 = some r0) (L : List Res) : Ok Tryd.prog 20 [SV.val kApi_OnionKeys a0, SV.raw (.int .i64 a1), SV.val K4 a2, SV.val K6 a3] (L) (SV.val K6 r0) (L) := by
  unfold f_onion_tagged at hF
  refine Ok.intro 23 [(0, .val kApi_OnionKeys a0), (1, .raw (.int .i64 a1)), (2, .val K4 a2), (3, .val K6 a3)] Tryd.func20 rfl rfl rfl rfl (fun F0 => ?_)
  obtain ⟨z2, h3, hF⟩ := bsome hF
  obtain ⟨z6, h7, hF⟩ := bsome hF
  obtain ⟨y9, h10, hF⟩ := bsome hF
  refine sr <| Under.bxF (K := kApi_OnionKeys) rfl rdV rfl <| Under.bxF (K := kArr 16 K8) rfl rdV rfl <| ag rfl rfl <| ns <| mv rfl rfl <| ov (OpV.conv (by kernel_rfl) Tryd.underlying5 rfl) rfl <| Under.bsO (ys := [IntKind.wrap .u8 a1]) Tryd.underlying22 ET5 (BldA.cons rfl rfl rdI (BldA.nil _)) rfl rfl fun v1 => ov (OpV.slA Tryd.underlying44 sz5 rfl) rfl <| Under.app h3 Tryd.underlying22 AT5 rfl rfl rdV rfl fun v4 => ag rfl rfl <| nt <| sq <| Under.phases rfl <| Under.grpT (L := L) [0, 1, 2, 3, 4, 5, 6] [[4], [16], [9], [3], [18, 19], [17, 20], []] [⟨sk0 (.ptr K3 a0.Mac), [], [], []⟩, ⟨sk0 (.val K6 a0.Mac), [], [], []⟩, ⟨sk0 (.raw v4), [], [], []⟩, ⟨sk0 (.val K6 a3), [], [], []⟩, ⟨sk1 4 (fun u4 => .raw u4), [0], [(1, tk1 4 (fun u4 => .own K8 u4 5 z6))], []⟩, ⟨sk0 (.val K3 y9), [1], [], []⟩, ⟨sk1 6 (fun u6 => .raw (.pointer (some ⟨(vblk u6), 0, none⟩))), [], [(2, tk1 6 (fun u6 => .box K3 (vblk u6) 64 (List.replicate 32 (0 : Int))))], []⟩] [(0, .own K8 v4 5 z2)] (fun T : List Res => T) lf0 rfl (by kernel_rfl) rfl rfl (fun F hF0 bs5 => ?_)
  refine Tq.v (fun G T hG => ?_) ?_
  ·exact ov (OpV.fd fb66_1 rfl rfl) rfl <| Tq.end undef rfl rfl
  refine Tq.v (fun G T hG => ?_) ?_
  ·exact ov (OpV.slA Tryd.underlying64 sz5 rfl) rfl <| Tq.end undef rfl rfl
  refine Tq.v (fun G T hG => ?_) ?_
  ·exact mv rfl rfl <| Tq.end undef rfl rfl
  refine Tq.v (fun G T hG => ?_) ?_
  ·exact mv rfl rfl <| Tq.end undef rfl rfl
  refine Tq.st (.raw (bs5 4)) [.own K8 v4 5 z2] rfl rfl (fun G T hG => ?_) ?_
  ·exact Under.app h7 Tryd.underlying22 AT5 rfl rfl rdV rfl fun v8 => Tq.end v8 rfl rfl
  refine Tq.st (.val K3 y9) [.own K8 (bs5 4) 5 z6] rfl rfl (fun G T hG => ?_) ?_
  ·exact Under.frzO (t := 20) rfl <| Under.call Tryd.call23 rfl rfl (f_mac_Tag_ok h10 _) rfl <| Tq.end undef rfl rfl
  refine Tq.st (.raw (.pointer (some ⟨(vblk (bs5 6)), 0, none⟩))) [] rfl rfl (fun G T hG => ?_) ?_
  ·exact Under.al ZT64 rfl fun b11 => Tq.end (.pointer (some ⟨b11, 0, none⟩)) rfl rfl
  obtain ⟨x12, h13, hF⟩ := bsome hF
  refine Tq.nil <| Under.le hF0 <| Under.p1 7 rfl rfl <| Under.stP (x' := y9) .box .id sz64_kArr_32_kInt_u8_ rfl rfl rdV rfl <| Under.pn <| Under.pdone rfl <| Under.frz (t := 10) rfl <| tn <| sr <| ov (OpV.slF h13 Tryd.underlying64 sz5 rfl rfl rfl) rfl <| ag rfl rfl <| nt <| rc ?_
  have e14 := osi hF
  subst e14
  exact Under.rets Tryd.results20 (.tm rfl .nil) rfl rfl
/-- churn/mac.Equal -/
noncomputable def f_mac_Equal (a0 : List Int) (a1 : List Int) : Option Bool :=
  bif (a0.length : Int) != (a1.length : Int) then
    some false
  else
    (((Loop.run (S := (Int × Int)) (R := Int) (fun (x46, x47) =>
        bif decide (x47 < (a0.length : Int)) then
          (idx a0 x47).bind fun x58 =>
          (idx a1 x47).bind fun x60 =>
          some (.next (orI .u8 x46 (xorI .u8 x58 x60), IntKind.wrap .i64 (x47 + 1)))
        else
          some (.done x46)) (0, 0)).bind fun x52 =>
    some x52
      : Option Int)).bind fun x31 =>
    some (x31 == 0)
theorem f_mac_Equal_ok {a0 : List Int} {a1 : List Int} {r0 : Bool} (hF : f_mac_Equal a0 a1 = some r0) (L : List Res) : Ok Tryd.prog 19 [SV.val K6 a0, SV.val K6 a1] (L) (SV.raw (.bool r0)) (L) := by
  unfold f_mac_Equal at hF
  refine Ok.intro 31 [(0, .val K6 a0), (1, .val K6 a1)] Tryd.func19 rfl rfl rfl rfl (fun F0 => ?_)
  refine sr <| ag rfl rfl <| nt <| sq <| sr <| mv rfl rfl <| ov (OpV.len Tryd.underlying22 rfl rdV) rfl <| mv rfl rfl <| ov (OpV.len Tryd.underlying22 rfl rdV) rfl <| bn rfl rfl rfl rfl <| nt <| Under.ite hF rfl (fun hF => ?_) (fun hF => ?_)
  ·refine sr <| ag rfl rfl <| nt <| rt ?_
   have e1 := osi hF
   subst e1
   exact Under.rets Tryd.results19 (.tm rfl .nil) rfl rfl
  ·obtain ⟨r32, h33, hF⟩ := bsome hF
   refine ct <| sr <| ag rfl rfl <| nt <| sq <| Under.after (fun X => ∀ (x31 : Int), r32 = x31 → Under F0 31 [(5, .raw (.int .u8 x31))] (L) X) ?_ ?_
   ·intro x31 h67
    replace h67 := h67.symm
    subst h67
    refine sr <| mv rfl rfl <| bn rfl rfl rfl rfl <| ag rfl rfl <| nt <| rc ?_
    have e35 := osi hF
    subst e35
    exact Under.rets Tryd.results19 (.tm rfl .nil) rfl rfl
   ·intro K k34
    obtain ⟨r55, h56, h33⟩ := bsome h33
    refine sr <| mv rfl rfl <| ov (OpV.len Tryd.underlying22 rfl rdV) rfl <| mv rfl rfl <| nt <| bk <| Under.loop (S := (Int × Int)) (C := Unit) () (fun (x64 : (Int × Int)) (q65 : Unit) => [(0, .val K6 a0), (1, .val K6 a1), (5, .raw (.int .u8 x64.1)), (13, .raw (.int .i64 (a0.length : Int))), (14, .raw (.int .i64 x64.2))]) (fun (x64 : (Int × Int)) (q65 : Unit) => L) h56 (s5 rfl rfl rfl rfl rfl) rfl (fun x64 q65 o57 h53 d54 => ?_)
    obtain ⟨x46, x47⟩ := x64
    dsimp only at h53 ⊢
    refine sr <| bn rfl rfl rfl rfl <| nt <| sq <| Under.ite h53 rfl (fun h53 => ?_) (fun h53 => ?_)
    ·obtain ⟨x58, h59, h53⟩ := bsome h53
     obtain ⟨x60, h61, h53⟩ := bsome h53
     exact ct <| sq <| bk <| sr <| mv rfl rfl <| ag rfl rfl <| nt <| dw rfl (by kernel_rfl) fun F hF0 => mvq rfl rfl <| mvq rfl rfl <| mvq rfl rfl <| oq (OpV.ixS h59 Tryd.underlying22 sz5 rfl rdV rfl) rfl <| oq (OpV.ldI kt5 rfl) rfl <| mvq rfl rfl <| mvq rfl rfl <| oq (OpV.ixS h61 Tryd.underlying22 sz5 rfl rdV rfl) rfl <| oq (OpV.ldI kt5 rfl) rfl <| bnq rfl rfl rfl rfl <| bnq rfl rfl rfl rfl <| agq rfl rfl <| nlq hF0 <| bN <| tn <| rg <| bn rfl rfl rfl rfl <| mv rfl rfl <| nl <| Under.next _ () h53 (s5 rfl rfl rfl rfl rfl) rfl
    ·refine xt <| te ?_
     have e62 := done_eq h53 d54
     subst e62
     exact te <| bh <| tn <| wk (k34 _ (osi h33).symm) (s1 rfl)
/-- churn/field.Mul -/
noncomputable def f_field_Mul (a0 : Int) (a1 : Int) : Option Int :=
  (((Loop.run (S := (Int × Int × Int × Int)) (R := Int) (fun (x159, x160, x161, x162) =>
      bif decide (x162 < 8) then
        ((((bif (andI .u8 x160 1) == 1 then
          some (xorI .u8 x161 x159)
        else
          some x161
          : Option Int)).bind fun x203 =>
        bif (andI .u8 x159 128) != 0 then
          some (xorI .u8 (shlI .u8 x159 1) 27, x203)
        else
          some (shlI .u8 x159 1, x203)
          : Option (Int × Int))).bind fun r200 => match r200 with
          | (x198, x199) =>
            some (.next (x198, shrI .u8 x160 1, x199, IntKind.wrap .i64 (x162 + 1)))
      else
        some (.done x161)) (a0, a1, 0, 0)).bind fun x185 =>
  some x185
    : Option Int)).bind fun x106 =>
  some x106
theorem f_field_Mul_ok {a0 : Int} {a1 : Int} {r0 : Int} (hF : f_field_Mul a0 a1 = some r0) (L : List Res) : Ok Tryd.prog 58 [SV.raw (.int .u8 a0), SV.raw (.int .u8 a1)] (L) (SV.raw (.int .u8 r0)) (L) := by
  unfold f_field_Mul at hF
  refine Ok.intro 27 [(0, .raw (.int .u8 a0)), (1, .raw (.int .u8 a1))] Tryd.func58 rfl rfl rfl rfl (fun F0 => ?_)
  obtain ⟨r107, h108, hF⟩ := bsome hF
  refine sr <| ag rfl rfl <| ns <| ag rfl rfl <| nt <| sq <| Under.after (fun X => ∀ (x106 : Int), r107 = x106 → Under F0 27 [(5, .raw (.int .u8 x106))] (L) X) ?_ ?_
  ·intro x106 h218
   replace h218 := h218.symm
   subst h218
   refine sr <| mv rfl rfl <| ag rfl rfl <| nt <| rc ?_
   have e110 := osi hF
   subst e110
   exact Under.rets Tryd.results58 (.tm rfl .nil) rfl rfl
  ·intro K k109
   obtain ⟨r188, h189, h108⟩ := bsome h108
   refine sr <| mv rfl rfl <| nt <| bk <| Under.loop (S := (Int × Int × Int × Int)) (C := Unit) () (fun (x215 : (Int × Int × Int × Int)) (q216 : Unit) => [(0, .raw (.int .u8 x215.1)), (1, .raw (.int .u8 x215.2.1)), (5, .raw (.int .u8 x215.2.2.1)), (7, .raw (.int .i64 x215.2.2.2))]) (fun (x215 : (Int × Int × Int × Int)) (q216 : Unit) => L) h189 (s4 rfl rfl rfl rfl) rfl (fun x215 q216 o190 h186 d187 => ?_)
   obtain ⟨x159, x160, x161, x162⟩ := x215
   dsimp only at h186 ⊢
   refine sr <| bn rfl rfl rfl rfl <| nt <| sq <| Under.ite h186 rfl (fun h186 => ?_) (fun h186 => ?_)
   ·obtain ⟨r200, h201, h186⟩ := bsome h186
    refine ct <| sq <| Under.after (fun X => ∀ (x198 : Int) (x199 : Int), r200 = (x198, x199) → Under F0 27 [(0, .raw (.int .u8 x198)), (1, .raw (.int .u8 (shrI .u8 x160 1))), (5, .raw (.int .u8 x199)), (7, .raw (.int .i64 x162))] (L) X) ?_ ?_
    ·intro x198 x199 h212
     replace h212 := h212.symm
     subst h212
     exact rg <| bn rfl rfl rfl rfl <| mv rfl rfl <| nl <| Under.next _ () h186 (s4 rfl rfl rfl rfl) rfl
    ·intro K k202
     obtain ⟨r204, h205, h201⟩ := bsome h201
     refine bk <| sq <| Under.after (fun X => ∀ (x203 : Int), r204 = x203 → Under F0 27 [(0, .raw (.int .u8 x159)), (1, .raw (.int .u8 x160)), (5, .raw (.int .u8 x203)), (7, .raw (.int .i64 x162))] (L) X) ?_ ?_
     ·intro x203 h211
      replace h211 := h211.symm
      subst h211
      refine sr <| mv rfl rfl <| ov (OpV.sh rfl rfl (by decide) rfl) rfl <| ag rfl rfl <| ns <| mv rfl rfl <| bn rfl rfl rfl rfl <| ag rfl rfl <| ns <| mv rfl rfl <| ov (OpV.sh rfl rfl (by decide) rfl) rfl <| ag rfl rfl <| ns <| mv rfl rfl <| bn rfl rfl rfl rfl <| nt <| Under.ite h201 rfl (fun h201 => ?_) (fun h201 => ?_)
      ·exact rg <| mv rfl rfl <| bn rfl rfl rfl rfl <| ag rfl rfl <| nl <| bN <| tn <| wk (k202 _ _ (osi h201).symm) (s4 rfl rfl rfl rfl)
      ·exact cs <| bN <| tn <| wk (k202 _ _ (osi h201).symm) (s4 rfl rfl rfl rfl)
     ·intro K k206
      refine sr <| mv rfl rfl <| bn rfl rfl rfl rfl <| bn rfl rfl rfl rfl <| nt <| Under.ite h205 rfl (fun h205 => ?_) (fun h205 => ?_)
      ·exact rg <| mv rfl rfl <| mv rfl rfl <| bn rfl rfl rfl rfl <| ag rfl rfl <| nt <| wk (k206 _ (osi h205).symm) (s4 rfl rfl rfl rfl)
      ·exact ct <| wk (k206 _ (osi h205).symm) (s4 rfl rfl rfl rfl)
   ·refine xt <| te ?_
    have e213 := done_eq h186 d187
    subst e213
    exact te <| bh <| tn <| wk (k109 _ (osi h108).symm) (s1 rfl)
/-- churn/field.Inv -/
noncomputable def f_field_Inv (a0 : Int) : Option Int :=
  (((Loop.run (S := (Int × Int × Int)) (R := Int) (fun (x48, x49, x50) =>
      bif decide (x50 < 7) then
        (f_field_Mul x49 x49).bind fun y61 =>
        (f_field_Mul x48 y61).bind fun y63 =>
        some (.next (y63, y61, IntKind.wrap .i64 (x50 + 1)))
      else
        some (.done x48)) (1, a0, 0)).bind fun x55 =>
  some x55
    : Option Int)).bind fun x32 =>
  some x32
theorem f_field_Inv_ok {a0 : Int} {r0 : Int} (hF : f_field_Inv a0 = some r0) (L : List Res) : Ok Tryd.prog 59 [SV.raw (.int .u8 a0)] (L) (SV.raw (.int .u8 r0)) (L) := by
  unfold f_field_Inv at hF
  refine Ok.intro 16 [(0, .raw (.int .u8 a0))] Tryd.func59 rfl rfl rfl rfl (fun F0 => ?_)
  obtain ⟨r33, h34, hF⟩ := bsome hF
  refine sr <| ag rfl rfl <| ns <| mv rfl rfl <| ag rfl rfl <| ag rfl rfl <| nt <| sq <| Under.after (fun X => ∀ (x32 : Int), r33 = x32 → Under F0 16 [(3, .raw (.int .u8 x32))] (L) X) ?_ ?_
  ·intro x32 h70
   replace h70 := h70.symm
   subst h70
   refine sr <| mv rfl rfl <| ag rfl rfl <| nt <| rc ?_
   have e36 := osi hF
   subst e36
   exact Under.rets Tryd.results59 (.tm rfl .nil) rfl rfl
  ·intro K k35
   obtain ⟨r58, h59, h34⟩ := bsome h34
   refine sr <| mv rfl rfl <| nt <| bk <| Under.loop (S := (Int × Int × Int)) (C := Unit) () (fun (x67 : (Int × Int × Int)) (q68 : Unit) => [(3, .raw (.int .u8 x67.1)), (4, .raw (.int .u8 x67.2.1)), (6, .raw (.int .i64 x67.2.2))]) (fun (x67 : (Int × Int × Int)) (q68 : Unit) => L) h59 (s3 rfl rfl rfl) rfl (fun x67 q68 o60 h56 d57 => ?_)
   obtain ⟨x48, x49, x50⟩ := x67
   dsimp only at h56 ⊢
   refine sr <| bn rfl rfl rfl rfl <| nt <| sq <| Under.ite h56 rfl (fun h56 => ?_) (fun h56 => ?_)
   ·obtain ⟨y61, h62, h56⟩ := bsome h56
    obtain ⟨y63, h64, h56⟩ := bsome h56
    exact ct <| sq <| bk <| sr <| mv rfl rfl <| mv rfl rfl <| Under.call Tryd.call58 rfl rfl (f_field_Mul_ok h62 _) rfl <| ag rfl rfl <| nt <| rg <| mv rfl rfl <| mv rfl rfl <| Under.call Tryd.call58 rfl rfl (f_field_Mul_ok h64 _) rfl <| ag rfl rfl <| nl <| bN <| tn <| rg <| bn rfl rfl rfl rfl <| mv rfl rfl <| nl <| Under.next _ () h56 (s3 rfl rfl rfl) rfl
   ·refine xt <| te ?_
    have e65 := done_eq h56 d57
    subst e65
    exact te <| bh <| tn <| wk (k35 _ (osi h34).symm) (s1 rfl)
/-- churn/field.turned -/
noncomputable def f_field_turned (a0 : Int) (a1 : Int) : Option Int :=
  bif decide (0 ≤ a1) then
  bif decide (0 ≤ (IntKind.wrap .i64 (8 - a1))) then
  some (orI .u8 (shlI .u8 a0 a1) (shrI .u8 a0 (IntKind.wrap .i64 (8 - a1))))
  else none
  else none
theorem f_field_turned_ok {a0 : Int} {a1 : Int} {r0 : Int} (hF : f_field_turned a0 a1 = some r0) (L : List Res) : Ok Tryd.prog 60 [SV.raw (.int .u8 a0), SV.raw (.int .i64 a1)] (L) (SV.raw (.int .u8 r0)) (L) := by
  unfold f_field_turned at hF
  refine Ok.intro 13 [(0, .raw (.int .u8 a0)), (1, .raw (.int .i64 a1))] Tryd.func60 rfl rfl rfl rfl (fun F0 => ?_)
  obtain ⟨h1, hF⟩ := gsome hF
  obtain ⟨h2, hF⟩ := gsome hF
  refine sr <| ag rfl rfl <| nt <| sq <| dw rfl (by kernel_rfl) fun F hF0 => mvq rfl rfl <| mvq rfl rfl <| oq (OpV.sh rfl rfl (of_decide_eq_true h1) rfl) rfl <| mvq rfl rfl <| mvq rfl rfl <| bnq rfl rfl rfl rfl <| oq (OpV.sh rfl rfl (of_decide_eq_true h2) rfl) rfl <| bnq rfl rfl rfl rfl <| agq rfl rfl <| nlq hF0 <| tn <| rc ?_
  have e3 := osi hF
  subst e3
  exact Under.rets Tryd.results60 (.tm rfl .nil) rfl rfl
/-- churn/field.Sub -/
noncomputable def f_field_Sub (a0 : Int) : Option Int :=
  (f_field_Inv a0).bind fun y1 =>
  (f_field_turned y1 1).bind fun y3 =>
  (f_field_turned y1 2).bind fun y5 =>
  (f_field_turned y1 3).bind fun y7 =>
  (f_field_turned y1 4).bind fun y9 =>
  some (xorI .u8 (xorI .u8 (xorI .u8 (xorI .u8 (xorI .u8 y1 y3) y5) y7) y9) 99)
theorem f_field_Sub_ok {a0 : Int} {r0 : Int} (hF : f_field_Sub a0 = some r0) (L : List Res) : Ok Tryd.prog 38 [SV.raw (.int .u8 a0)] (L) (SV.raw (.int .u8 r0)) (L) := by
  unfold f_field_Sub at hF
  refine Ok.intro 20 [(0, .raw (.int .u8 a0))] Tryd.func38 rfl rfl rfl rfl (fun F0 => ?_)
  obtain ⟨y1, h2, hF⟩ := bsome hF
  obtain ⟨y3, h4, hF⟩ := bsome hF
  obtain ⟨y5, h6, hF⟩ := bsome hF
  obtain ⟨y7, h8, hF⟩ := bsome hF
  obtain ⟨y9, h10, hF⟩ := bsome hF
  refine sr <| ag rfl rfl <| ns <| mv rfl rfl <| Under.call Tryd.call59 rfl rfl (f_field_Inv_ok h2 _) rfl <| ag rfl rfl <| ns <| mv rfl rfl <| mv rfl rfl <| Under.call Tryd.call60 rfl rfl (f_field_turned_ok h4 _) rfl <| bn rfl rfl rfl rfl <| mv rfl rfl <| Under.call Tryd.call60 rfl rfl (f_field_turned_ok h6 _) rfl <| bn rfl rfl rfl rfl <| mv rfl rfl <| Under.call Tryd.call60 rfl rfl (f_field_turned_ok h8 _) rfl <| bn rfl rfl rfl rfl <| mv rfl rfl <| Under.call Tryd.call60 rfl rfl (f_field_turned_ok h10 _) rfl <| bn rfl rfl rfl rfl <| bn rfl rfl rfl rfl <| ag rfl rfl <| nt <| rc ?_
  have e11 := osi hF
  subst e11
  exact Under.rets Tryd.results38 (.tm rfl .nil) rfl rfl
/-- churn/block.New -/
noncomputable def f_block_New (a0 : List Int) : Option Block_Schedule :=
  (((Loop.run (S := (Int × (List (List Int)))) (R := (List (List Int))) (fun (x1960, x1961) =>
      bif decide (x1960 < 4) then
        (idx x1961 x1960).bind fun x1976 =>
        (sub a0 (IntKind.wrap .i64 (4 * x1960)) 16).bind fun x1979 =>
        bif decide ((Int.toNat 0) ≤ (Int.toNat 4) ∧ (Int.toNat 4) ≤ 4) then
        some (.next (IntKind.wrap .i64 (x1960 + 1), List.set x1961 (Int.toNat x1960) (over x1976 (Int.toNat 0) (Int.toNat 4) x1979)))
        else none
      else
        some (.done x1961)) (0, (List.replicate 44 (List.replicate 4 (0 : Int))))).bind fun x1969 =>
  some x1969
    : Option (List (List Int)))).bind fun x44 =>
  (((Loop.run (S := (Int × Int × (List (List Int)))) (R := (List (List Int))) (fun (x1489, x1490, x1491) =>
      bif decide (x1490 < 44) then
        (((idx x1491 (IntKind.wrap .i64 (x1490 - 1))).bind fun x1829 =>
        ((bif (Int.tmod x1490 4) == 0 then
          (idx x1829 1).bind fun x1916 =>
          (f_field_Sub x1916).bind fun y1918 =>
          (idx x1829 2).bind fun x1920 =>
          (f_field_Sub x1920).bind fun y1922 =>
          (idx x1829 3).bind fun x1924 =>
          (f_field_Sub x1924).bind fun y1926 =>
          (idx x1829 0).bind fun x1928 =>
          (f_field_Sub x1928).bind fun y1930 =>
          (f_field_Mul 2 x1489).bind fun y1932 =>
          some (y1932, [xorI .u8 y1918 x1489, y1922, y1926, y1930])
        else
          some (x1489, x1829)
          : Option (Int × (List Int)))).bind fun r1853 => match r1853 with
          | (x1851, x1852) =>
            (Loop.run (S := (Int × (List (List Int)))) (R := (List (List Int))) (fun (x1880, x1881) =>
                bif decide (x1880 < 4) then
                  (idx x1881 (IntKind.wrap .i64 (x1490 - 4))).bind fun x1900 =>
                  (idx x1900 x1880).bind fun x1902 =>
                  (idx x1852 x1880).bind fun x1904 =>
                  (idx x1881 x1490).bind fun x1906 =>
                  (idx x1906 x1880).bind fun x1908 =>
                  some (.next (IntKind.wrap .i64 (x1880 + 1), List.set x1881 (Int.toNat x1490) (List.set x1906 (Int.toNat x1880) (xorI .u8 x1902 x1904))))
                else
                  some (.done x1881)) (0, x1491)).bind fun x1893 =>
            some (x1851, x1893)
          : Option (Int × (List (List Int))))).bind fun r1826 => match r1826 with
          | (x1824, x1825) =>
            some (.next (x1824, IntKind.wrap .i64 (x1490 + 1), x1825))
      else
        some (.done x1491)) (1, 4, x44)).bind fun x1712 =>
  some x1712
    : Option (List (List Int)))).bind fun x943 =>
  (((Loop.run (S := (Int × Block_Schedule)) (R := Block_Schedule) (fun (x1016, x1017) =>
      bif decide (x1016 < 44) then
        (idx x943 x1016).bind fun x1032 =>
        (idx x1017.keys (IntKind.wrap .i64 (Int.tdiv x1016 4))).bind fun x1036 =>
        bif decide ((0 : Int) ≤ (IntKind.wrap .i64 ((Int.tmod x1016 4) * 4)) ∧ (IntKind.wrap .i64 ((Int.tmod x1016 4) * 4) : Int) ≤ 16 ∧ (16 : Int) ≤ 16) then
        bif decide ((Int.toNat (IntKind.wrap .i64 ((Int.tmod x1016 4) * 4))) ≤ (Int.toNat 16) ∧ (Int.toNat 16) ≤ 16) then
        some (.next (IntKind.wrap .i64 (x1016 + 1), ({ x1017 with keys := List.set x1017.keys (Int.toNat (IntKind.wrap .i64 (Int.tdiv x1016 4))) (over x1036 (Int.toNat (IntKind.wrap .i64 ((Int.tmod x1016 4) * 4))) (Int.toNat 16) x1032) } : Block_Schedule)))
        else none
        else none
      else
        some (.done x1017)) (0, (⟨(List.replicate 11 (List.replicate 16 (0 : Int)))⟩ : Block_Schedule))).bind fun x1026 =>
  some x1026
    : Option Block_Schedule)).bind fun x993 =>
  some x993
theorem f_block_New_ok {a0 : List Int} {r0 : Block_Schedule} (hF : f_block_New a0 = some r0) (L : List Res) : Ok Tryd.prog 37 [SV.val K4 a0] (L) (SV.val kBlock_Schedule r0) (L) := by
  unfold f_block_New at hF
  refine Ok.intro 86 [(0, .val K4 a0)] Tryd.func37 rfl rfl rfl rfl (fun F0 => ?_)
  obtain ⟨r45, h46, hF⟩ := bsome hF
  refine sr <| Under.bxF (K := kArr 16 K8) rfl rdV rfl <| Under.al ZT91 rfl fun b1 => ns <| Under.al ZT118 rfl fun b2 => nt <| sq <| Under.after (fun X => ∀ (x44 : List (List Int)), r45 = x44 → Under F0 86 [(2, .raw (.pointer (some ⟨b1, 0, none⟩))), (3, .raw (.pointer (some ⟨b2, 0, none⟩)))] ((.box kBlock_Schedule b1 91 (⟨(List.replicate 11 (List.replicate 16 (0 : Int)))⟩ : Block_Schedule)) :: (.box (kArr 44 K5) b2 118 x44) :: L) X) ?_ ?_
  ·intro x44 h1987
   replace h1987 := h1987.symm
   subst h1987
   obtain ⟨r944, h945, hF⟩ := bsome hF
   refine sr <| ag rfl rfl <| nt <| sq <| Under.after (fun X => ∀ (x943 : List (List Int)), r944 = x943 → Under F0 86 [(2, .raw (.pointer (some ⟨b1, 0, none⟩))), (3, .ptr (kArr 44 K5) x943)] ((.box kBlock_Schedule b1 91 (⟨(List.replicate 11 (List.replicate 16 (0 : Int)))⟩ : Block_Schedule)) :: L) X) ?_ ?_
   ·intro x943 h1943
    replace h1943 := h1943.symm
    subst h1943
    obtain ⟨r994, h995, hF⟩ := bsome hF
    refine sr <| Under.al ZT91 rfl fun b947 => nt <| sq <| Under.after (fun X => ∀ (x993 : Block_Schedule), r994 = x993 → Under F0 86 [(2, .raw (.pointer (some ⟨b1, 0, none⟩))), (9, .ptr kBlock_Schedule x993)] ((.box kBlock_Schedule b1 91 (⟨(List.replicate 11 (List.replicate 16 (0 : Int)))⟩ : Block_Schedule)) :: L) X) ?_ ?_
    ·intro x993 h1045
     replace h1045 := h1045.symm
     subst h1045
     refine sr <| ov (OpV.ld kt91 rfl) rfl <| Under.stP (x' := x993) .box .id sz91_kBlock_Schedule rfl rfl rdV rfl <| nl <| Under.frz (t := 2) rfl <| tn <| rc ?_
     have e997 := osi hF
     subst e997
     exact Under.rets Tryd.results37 (.ce rfl kt91 .nil) rfl rfl
    ·intro K k996
     obtain ⟨r1029, h1030, h995⟩ := bsome h995
     refine sr <| ov (OpV.ld kt118 rfl) rfl <| mv rfl rfl <| nt <| bk <| Under.fo1 <| Under.loop (S := (Int × Block_Schedule)) (C := Unit) () (fun (x1042 : (Int × Block_Schedule)) (q1043 : Unit) => [(2, .raw (.pointer (some ⟨b1, 0, none⟩))), (9, .raw (.pointer (some ⟨b947, 0, none⟩))), (69, .val (kArr 44 K5) x943), (70, .raw (.int .i64 x1042.1))]) (fun (x1042 : (Int × Block_Schedule)) (q1043 : Unit) => (.box kBlock_Schedule b1 91 (⟨(List.replicate 11 (List.replicate 16 (0 : Int)))⟩ : Block_Schedule)) :: (.box kBlock_Schedule b947 91 x1042.2) :: L) h1030 (s4 rfl rfl rfl rfl) rfl (fun x1042 q1043 o1031 h1027 d1028 => ?_)
     obtain ⟨x1016, x1017⟩ := x1042
     dsimp only at h1027 ⊢
     refine sr <| bn rfl rfl rfl rfl <| nt <| sq <| Under.ite h1027 rfl (fun h1027 => ?_) (fun h1027 => ?_)
     ·obtain ⟨x1032, h1033, h1027⟩ := bsome h1027
      obtain ⟨x1036, h1037, h1027⟩ := bsome h1027
      obtain ⟨h1038, h1027⟩ := gsome h1027
      refine ct <| sq <| bk <| sr <| mv rfl rfl <| ov (OpV.ixV h1033 Tryd.underlying118 kt117 rfl rfl) rfl <| Under.al ZT117 rfl fun b1034 => ag rfl rfl <| Under.stP (x' := x1032) .box .id sz117_kArr_4_kInt_u8_ rfl rfl rdV rfl <| nl <| Under.frz (t := 11) rfl <| tn ?_
      replace h1038 : (0 : Int) ≤ (IntKind.wrap .i64 ((Int.tmod x1016 4) * 4)) ∧ (IntKind.wrap .i64 ((Int.tmod x1016 4) * 4) : Int) ≤ 16 ∧ (16 : Int) ≤ 16 := of_decide_eq_true h1038
      obtain ⟨h1039, h1027⟩ := gsome h1027
      replace h1039 : (Int.toNat (IntKind.wrap .i64 ((Int.tmod x1016 4) * 4))) ≤ (Int.toNat 16) ∧ (Int.toNat 16) ≤ 16 := of_decide_eq_true h1039
      refine Under.phases rfl <| Under.fo1 <| Under.fo1 <| Under.grpT (L := L) [0, 1, 2, 3, 4, 5, 6, 7, 8] [[10], [74], [9], [75, 76], [10], [78], [79], [77, 80], [11]] [⟨sk0 (.raw (.int .i64 x1016)), [], [], []⟩, ⟨sk0 (.raw (.int .i64 (IntKind.wrap .i64 (Int.tdiv x1016 4)))), [], [], []⟩, ⟨sk0 (.raw (.pointer (some ⟨b947, 0 + 0, none⟩))), [], [], []⟩, ⟨sk0 (.raw (.pointer (some ⟨b947, 0 + 0 + Int.toNat (IntKind.wrap .i64 (Int.tdiv x1016 4)) * 16, none⟩))), [], [], []⟩, ⟨sk0 (.raw (.int .i64 x1016)), [], [], []⟩, ⟨sk0 (.raw (.int .i64 (Int.tmod x1016 4))), [], [], []⟩, ⟨sk0 (.raw (.int .i64 (IntKind.wrap .i64 ((Int.tmod x1016 4) * 4)))), [], [], []⟩, ⟨sk0 (.raw (.slice (some (if 16 = (Int.toNat (IntKind.wrap .i64 ((Int.tmod x1016 4) * 4))) then ⟨b947, 0 + 0 + Int.toNat (IntKind.wrap .i64 (Int.tdiv x1016 4)) * 16, none⟩ else ⟨b947, 0 + 0 + Int.toNat (IntKind.wrap .i64 (Int.tdiv x1016 4)) * 16 + (Int.toNat (IntKind.wrap .i64 ((Int.tmod x1016 4) * 4))) * 1, none⟩)) (Int.toNat 16 - (Int.toNat (IntKind.wrap .i64 ((Int.tmod x1016 4) * 4)))) (16 - (Int.toNat (IntKind.wrap .i64 ((Int.tmod x1016 4) * 4)))))), [], [], []⟩, ⟨sk0 (.val K6 x1032), [], [], []⟩] [] (fun T : List Res => (.box kBlock_Schedule b1 91 (⟨(List.replicate 11 (List.replicate 16 (0 : Int)))⟩ : Block_Schedule)) :: (.box kBlock_Schedule b947 91 x1017) :: T) lf2 rfl (by kernel_rfl) rfl rfl (fun F hF0 bs1035 => ?_)
      refine Tq.v (fun G T hG => ?_) ?_
      ·exact mv rfl rfl <| Under.fo1 <| Under.fo1 <| Tq.end undef rfl rfl
      refine Tq.v (fun G T hG => ?_) ?_
      ·exact ov (OpV.quo rfl rfl (by decide) rfl) rfl <| Under.fo1 <| Under.fo1 <| Tq.end undef rfl rfl
      refine Tq.v (fun G T hG => ?_) ?_
      ·exact ov (OpV.fdM fm91_0 rfl) rfl <| Under.fo1 <| Under.fo1 <| Tq.end undef rfl rfl
      refine Tq.v (fun G T hG => ?_) ?_
      ·exact Under.fo1 <| ov (OpV.ixP .box (.fld .id uf_Block_Schedule_0) h1037 Tryd.underlying89 sz88_kArr_16_kInt_u8_ rfl rfl) rfl <| Under.fo1 <| Tq.end undef rfl rfl
      refine Tq.v (fun G T hG => ?_) ?_
      ·exact mv rfl rfl <| Under.fo1 <| Under.fo1 <| Tq.end undef rfl rfl
      refine Tq.v (fun G T hG => ?_) ?_
      ·exact ov (OpV.quo rfl rfl (by decide) rfl) rfl <| Under.fo1 <| Under.fo1 <| Tq.end undef rfl rfl
      refine Tq.v (fun G T hG => ?_) ?_
      ·exact bn rfl rfl rfl rfl <| Under.fo1 <| Under.fo1 <| Tq.end undef rfl rfl
      refine Tq.v (fun G T hG => ?_) ?_
      ·exact ov (OpV.slP (l := IntKind.wrap .i64 ((Int.tmod x1016 4) * 4)) (h := 16) Tryd.underlying88 sz5_kInt_u8 rfl rfl rfl (And.left h1038) (And.left (And.right h1038)) (And.right (And.right h1038))) rfl <| Under.fo1 <| Under.fo1 <| Tq.end undef rfl rfl
      refine Tq.v (fun G T hG => ?_) ?_
      ·exact ov (OpV.slA Tryd.underlying117 sz5 rfl) rfl <| Under.fo1 <| Under.fo1 <| Tq.end undef rfl rfl
      exact Tq.nil <| Under.le hF0 <| Under.p1 9 rfl rfl <| Under.fo1 <| Under.cpB (x' := ({ x1017 with keys := List.set x1017.keys (Int.toNat (IntKind.wrap .i64 (Int.tdiv x1016 4))) (over x1036 (Int.toNat (IntKind.wrap .i64 ((Int.tmod x1016 4) * 4))) (Int.toNat 16) x1032) } : Block_Schedule)) .box (.ix (.fld .id uf_Block_Schedule_0) h1037) (And.left h1039) (And.right h1039) (had_of (And.right h1039)) Tryd.underlying22 sz5_kInt_u8 rfl rfl (.sl rdV) rfl rfl <| Under.pn <| Under.pdone rfl <| bN <| tn <| rg <| bn rfl rfl rfl rfl <| mv rfl rfl <| nl <| Under.fo1 <| Under.next _ () h1027 (s4 rfl rfl rfl rfl) rfl
     ·refine Under.fo1 <| Under.frz (t := 9) rfl <| xt <| te ?_
      have e1040 := done_eq h1027 d1028
      subst e1040
      exact te <| bh <| tn <| wk (k996 _ (osi h995).symm) (s2 rfl rfl)
   ·intro K k946
    obtain ⟨r1715, h1716, h945⟩ := bsome h945
    refine sr <| ag rfl rfl <| nt <| bk <| Under.fo1 <| Under.fo1 <| Under.loop (S := (Int × Int × (List (List Int)))) (C := Unit) () (fun (x1940 : (Int × Int × (List (List Int)))) (q1941 : Unit) => [(2, .raw (.pointer (some ⟨b1, 0, none⟩))), (3, .raw (.pointer (some ⟨b2, 0, none⟩))), (5, .raw (.int .u8 x1940.1)), (6, .raw (.int .i64 x1940.2.1))]) (fun (x1940 : (Int × Int × (List (List Int)))) (q1941 : Unit) => (.box kBlock_Schedule b1 91 (⟨(List.replicate 11 (List.replicate 16 (0 : Int)))⟩ : Block_Schedule)) :: (.box (kArr 44 K5) b2 118 x1940.2.2) :: L) h1716 (s4 rfl rfl rfl rfl) rfl (fun x1940 q1941 o1717 h1713 d1714 => ?_)
    obtain ⟨x1489, x1490, x1491⟩ := x1940
    dsimp only at h1713 ⊢
    refine sq <| sr <| mv rfl rfl <| bn rfl rfl rfl rfl <| nt <| Under.ite h1713 rfl (fun h1713 => ?_) (fun h1713 => ?_)
    ·obtain ⟨r1826, h1827, h1713⟩ := bsome h1713
     refine ct <| sq <| Under.after (fun X => ∀ (x1824 : Int) (x1825 : List (List Int)), r1826 = (x1824, x1825) → Under F0 86 [(2, .raw (.pointer (some ⟨b1, 0, none⟩))), (3, .raw (.pointer (some ⟨b2, 0, none⟩))), (5, .raw (.int .u8 x1824)), (6, .raw (.int .i64 x1490))] ((.box kBlock_Schedule b1 91 (⟨(List.replicate 11 (List.replicate 16 (0 : Int)))⟩ : Block_Schedule)) :: (.box (kArr 44 K5) b2 118 x1825) :: L) X) ?_ ?_
     ·intro x1824 x1825 h1937
      replace h1937 := h1937.symm
      subst h1937
      exact rg <| mv rfl rfl <| bn rfl rfl rfl rfl <| ag rfl rfl <| nl <| Under.fo1 <| Under.fo1 <| Under.next _ () h1713 (s4 rfl rfl rfl rfl) rfl
     ·intro K k1828
      obtain ⟨x1829, h1830, h1827⟩ := bsome h1827
      obtain ⟨r1853, h1854, h1827⟩ := bsome h1827
      refine bk <| sr <| mv rfl rfl <| bn rfl rfl rfl rfl <| Under.fo1 <| ov (OpV.ixP .box .id h1830 Tryd.underlying118 sz117_kArr_4_kInt_u8_ rfl rfl) rfl <| Under.ldP .box (.ix .id h1830) kt117_kArr_4_kInt_u8_ rfl rfl <| Under.al ZT117 rfl fun b1831 => Under.stP (x' := x1829) .box .id sz117_kArr_4_kInt_u8_ rfl rfl rdV rfl <| nt <| sq <| Under.after (fun X => ∀ (x1851 : Int) (x1852 : List Int), r1853 = (x1851, x1852) → Under F0 86 [(2, .raw (.pointer (some ⟨b1, 0, none⟩))), (3, .raw (.pointer (some ⟨b2, 0, none⟩))), (5, .raw (.int .u8 x1851)), (6, .raw (.int .i64 x1490)), (7, .ptr K5 x1852)] ((.box kBlock_Schedule b1 91 (⟨(List.replicate 11 (List.replicate 16 (0 : Int)))⟩ : Block_Schedule)) :: (.box (kArr 44 K5) b2 118 x1491) :: L) X) ?_ ?_
      ·intro x1851 x1852 h1936
       replace h1936 := h1936.symm
       subst h1936
       obtain ⟨r1896, h1897, h1827⟩ := bsome h1827
       refine sr <| mv rfl rfl <| nt <| bk <| Under.fo1 <| Under.fo1 <| Under.loop (S := (Int × (List (List Int)))) (C := Unit) () (fun (x1912 : (Int × (List (List Int)))) (q1913 : Unit) => [(2, .raw (.pointer (some ⟨b1, 0, none⟩))), (3, .raw (.pointer (some ⟨b2, 0, none⟩))), (5, .raw (.int .u8 x1851)), (6, .raw (.int .i64 x1490)), (7, .ptr K5 x1852), (51, .raw (.int .i64 x1912.1))]) (fun (x1912 : (Int × (List (List Int)))) (q1913 : Unit) => (.box kBlock_Schedule b1 91 (⟨(List.replicate 11 (List.replicate 16 (0 : Int)))⟩ : Block_Schedule)) :: (.box (kArr 44 K5) b2 118 x1912.2) :: L) h1897 (s6 rfl rfl rfl rfl rfl rfl) rfl (fun x1912 q1913 o1898 h1894 d1895 => ?_)
       obtain ⟨x1880, x1881⟩ := x1912
       dsimp only at h1894 ⊢
       refine sr <| bn rfl rfl rfl rfl <| nt <| sq <| Under.ite h1894 rfl (fun h1894 => ?_) (fun h1894 => ?_)
       ·obtain ⟨x1900, h1901, h1894⟩ := bsome h1894
        obtain ⟨x1902, h1903, h1894⟩ := bsome h1894
        obtain ⟨x1904, h1905, h1894⟩ := bsome h1894
        obtain ⟨x1906, h1907, h1894⟩ := bsome h1894
        obtain ⟨x1908, h1909, h1894⟩ := bsome h1894
        refine ct <| sq <| bk <| sr <| mv rfl rfl <| ag rfl rfl <| nt <| Under.phases rfl <| Under.fo1 <| Under.fo1 <| Under.grpT (L := L) [0, 1, 2, 3, 4, 5, 6, 7, 8, 9, 10, 11, 12] [[6], [8], [6], [56], [8], [3, 57], [58, 59], [60], [8], [7, 62], [63], [61, 64], [3, 54]] [⟨sk0 (.raw (.int .i64 x1490)), [], [], []⟩, ⟨sk0 (.raw (.int .i64 x1880)), [], [], []⟩, ⟨sk0 (.raw (.int .i64 x1490)), [], [], []⟩, ⟨sk0 (.raw (.int .i64 (IntKind.wrap .i64 (x1490 - 4)))), [], [], []⟩, ⟨sk0 (.raw (.int .i64 x1880)), [], [], []⟩, ⟨sk0 (.raw (.pointer (some ⟨b2, 0 + Int.toNat (IntKind.wrap .i64 (x1490 - 4)) * 4, none⟩))), [], [], []⟩, ⟨sk0 (.raw (.pointer (some ⟨b2, 0 + Int.toNat (IntKind.wrap .i64 (x1490 - 4)) * 4 + Int.toNat x1880 * 1, none⟩))), [], [], []⟩, ⟨sk0 (.raw (.int .u8 x1902)), [], [], []⟩, ⟨sk0 (.raw (.int .i64 x1880)), [], [], []⟩, ⟨sk0 (.ptr K8 x1904), [], [], []⟩, ⟨sk0 (.raw (.int .u8 x1904)), [], [], []⟩, ⟨sk0 (.raw (.int .u8 (xorI .u8 x1902 x1904))), [], [], []⟩, ⟨sk0 (.raw (.pointer (some ⟨b2, 0 + Int.toNat x1490 * 4, none⟩))), [], [], []⟩] [] (fun T : List Res => (.box kBlock_Schedule b1 91 (⟨(List.replicate 11 (List.replicate 16 (0 : Int)))⟩ : Block_Schedule)) :: (.box (kArr 44 K5) b2 118 x1881) :: T) lf2 rfl (by kernel_rfl) rfl rfl (fun F hF0 bs1899 => ?_)
        refine Tq.v (fun G T hG => ?_) ?_
        ·exact mv rfl rfl <| Under.fo1 <| Under.fo1 <| Tq.end undef rfl rfl
        refine Tq.v (fun G T hG => ?_) ?_
        ·exact mv rfl rfl <| Under.fo1 <| Under.fo1 <| Tq.end undef rfl rfl
        refine Tq.v (fun G T hG => ?_) ?_
        ·exact mv rfl rfl <| Under.fo1 <| Under.fo1 <| Tq.end undef rfl rfl
        refine Tq.v (fun G T hG => ?_) ?_
        ·exact bn rfl rfl rfl rfl <| Under.fo1 <| Under.fo1 <| Tq.end undef rfl rfl
        refine Tq.v (fun G T hG => ?_) ?_
        ·exact mv rfl rfl <| Under.fo1 <| Under.fo1 <| Tq.end undef rfl rfl
        refine Tq.v (fun G T hG => ?_) ?_
        ·exact Under.fo1 <| ov (OpV.ixP .box .id h1901 Tryd.underlying118 sz117_kArr_4_kInt_u8_ rfl rfl) rfl <| Under.fo1 <| Tq.end undef rfl rfl
        refine Tq.v (fun G T hG => ?_) ?_
        ·exact Under.fo1 <| ov (OpV.ixP .box (.ix .id h1901) h1903 Tryd.underlying117 sz5_kInt_u8 rfl rfl) rfl <| Under.fo1 <| Tq.end undef rfl rfl
        refine Tq.v (fun G T hG => ?_) ?_
        ·exact Under.fo1 <| Under.ldP .box (.ix (.ix .id h1901) h1903) kt5_kInt_u8 rfl rfl <| Under.rawI (t := 61) rfl <| Under.fo1 <| Tq.end undef rfl rfl
        refine Tq.v (fun G T hG => ?_) ?_
        ·exact mv rfl rfl <| Under.fo1 <| Under.fo1 <| Tq.end undef rfl rfl
        refine Tq.v (fun G T hG => ?_) ?_
        ·exact ov (OpV.ixA h1905 Tryd.underlying117 sz5 rfl rfl) rfl <| Under.fo1 <| Under.fo1 <| Tq.end undef rfl rfl
        refine Tq.v (fun G T hG => ?_) ?_
        ·exact ov (OpV.ldI kt5 rfl) rfl <| Under.fo1 <| Under.fo1 <| Tq.end undef rfl rfl
        refine Tq.v (fun G T hG => ?_) ?_
        ·exact bn rfl rfl rfl rfl <| Under.fo1 <| Under.fo1 <| Tq.end undef rfl rfl
        refine Tq.v (fun G T hG => ?_) ?_
        ·exact Under.fo1 <| ov (OpV.ixP .box .id h1907 Tryd.underlying118 sz117_kArr_4_kInt_u8_ rfl rfl) rfl <| Under.fo1 <| Tq.end undef rfl rfl
        exact Tq.nil <| Under.le hF0 <| Under.p1 13 rfl rfl <| Under.fo1 <| ov (OpV.ixP .box (.ix .id h1907) h1909 Tryd.underlying117 sz5_kInt_u8 rfl rfl) rfl <| Under.pn <| Under.p1 14 rfl rfl <| Under.stP (x' := List.set x1881 (Int.toNat x1490) (List.set x1906 (Int.toNat x1880) (xorI .u8 x1902 x1904))) .box (.ix (.ix .id h1907) h1909) sz5_kInt_u8 rfl rfl rdI rfl <| Under.pn <| Under.pdone rfl <| bN <| tn <| rg <| bn rfl rfl rfl rfl <| mv rfl rfl <| nl <| Under.fo1 <| Under.next _ () h1894 (s6 rfl rfl rfl rfl rfl rfl) rfl
       ·refine xt <| te ?_
        have e1910 := done_eq h1894 d1895
        subst e1910
        exact te <| bh <| bN <| tn <| Under.fo1 <| Under.fo1 <| wk (k1828 _ _ (osi h1827).symm) (s4 rfl rfl rfl rfl)
      ·intro K k1855
       refine sr <| mv rfl rfl <| ov (OpV.quo rfl rfl (by decide) rfl) rfl <| bn rfl rfl rfl rfl <| nt <| Under.ite h1854 rfl (fun h1854 => ?_) (fun h1854 => ?_)
       ·obtain ⟨x1916, h1917, h1854⟩ := bsome h1854
        obtain ⟨y1918, h1919, h1854⟩ := bsome h1854
        obtain ⟨x1920, h1921, h1854⟩ := bsome h1854
        obtain ⟨y1922, h1923, h1854⟩ := bsome h1854
        obtain ⟨x1924, h1925, h1854⟩ := bsome h1854
        obtain ⟨y1926, h1927, h1854⟩ := bsome h1854
        obtain ⟨x1928, h1929, h1854⟩ := bsome h1854
        obtain ⟨y1930, h1931, h1854⟩ := bsome h1854
        refine sq <| Under.phases rfl <| Under.fo2 <| Under.fo2 <| Under.fo2 <| Under.grpT (L := L) [0, 1, 2, 3, 4, 5, 6, 7, 8, 9, 10, 11, 12, 13] [[7], [34], [35], [5], [36, 37], [7], [39], [40], [7], [42], [43], [7], [45], [46]] [⟨sk0 (.raw (.pointer (some ⟨b1831, 0 + Int.toNat 1 * 1, none⟩))), [], [], []⟩, ⟨sk0 (.raw (.int .u8 x1916)), [], [], []⟩, ⟨sk0 (.raw (.int .u8 y1918)), [], [], []⟩, ⟨sk0 (.raw (.int .u8 x1489)), [], [], []⟩, ⟨sk0 (.raw (.int .u8 (xorI .u8 y1918 x1489))), [], [], []⟩, ⟨sk0 (.raw (.pointer (some ⟨b1831, 0 + Int.toNat 2 * 1, none⟩))), [], [], []⟩, ⟨sk0 (.raw (.int .u8 x1920)), [], [], []⟩, ⟨sk0 (.raw (.int .u8 y1922)), [], [], []⟩, ⟨sk0 (.raw (.pointer (some ⟨b1831, 0 + Int.toNat 3 * 1, none⟩))), [], [], []⟩, ⟨sk0 (.raw (.int .u8 x1924)), [], [], []⟩, ⟨sk0 (.raw (.int .u8 y1926)), [], [], []⟩, ⟨sk0 (.raw (.pointer (some ⟨b1831, 0 + Int.toNat 0 * 1, none⟩))), [], [], []⟩, ⟨sk0 (.raw (.int .u8 x1928)), [], [], []⟩, ⟨sk0 (.raw (.int .u8 y1930)), [], [], []⟩] [] (fun T : List Res => (.box K5 b1831 117 x1829) :: (.box (kArr 44 K5) b2 118 x1491) :: (.box kBlock_Schedule b1 91 (⟨(List.replicate 11 (List.replicate 16 (0 : Int)))⟩ : Block_Schedule)) :: T) lf3 rfl (by kernel_rfl) rfl rfl (fun F hF0 bs1915 => ?_)
        refine Tq.v (fun G T hG => ?_) ?_
        ·exact ov (OpV.ixP .box .id h1917 Tryd.underlying117 sz5_kInt_u8 rfl rfl) rfl <| Under.fo2 <| Under.fo2 <| Under.fo2 <| Tq.end undef rfl rfl
        refine Tq.v (fun G T hG => ?_) ?_
        ·exact Under.ldP .box (.ix .id h1917) kt5_kInt_u8 rfl rfl <| Under.rawI (t := 35) rfl <| Under.fo2 <| Under.fo2 <| Under.fo2 <| Tq.end undef rfl rfl
        refine Tq.v (fun G T hG => ?_) ?_
        ·exact Under.call Tryd.call38 rfl rfl (f_field_Sub_ok h1919 _) rfl <| Under.fo2 <| Under.fo2 <| Under.fo2 <| Tq.end undef rfl rfl
        refine Tq.v (fun G T hG => ?_) ?_
        ·exact mv rfl rfl <| Under.fo2 <| Under.fo2 <| Under.fo2 <| Tq.end undef rfl rfl
        refine Tq.v (fun G T hG => ?_) ?_
        ·exact bn rfl rfl rfl rfl <| Under.fo2 <| Under.fo2 <| Under.fo2 <| Tq.end undef rfl rfl
        refine Tq.v (fun G T hG => ?_) ?_
        ·exact ov (OpV.ixP .box .id h1921 Tryd.underlying117 sz5_kInt_u8 rfl rfl) rfl <| Under.fo2 <| Under.fo2 <| Under.fo2 <| Tq.end undef rfl rfl
        refine Tq.v (fun G T hG => ?_) ?_
        ·exact Under.ldP .box (.ix .id h1921) kt5_kInt_u8 rfl rfl <| Under.rawI (t := 40) rfl <| Under.fo2 <| Under.fo2 <| Under.fo2 <| Tq.end undef rfl rfl
        refine Tq.v (fun G T hG => ?_) ?_
        ·exact Under.call Tryd.call38 rfl rfl (f_field_Sub_ok h1923 _) rfl <| Under.fo2 <| Under.fo2 <| Under.fo2 <| Tq.end undef rfl rfl
        refine Tq.v (fun G T hG => ?_) ?_
        ·exact ov (OpV.ixP .box .id h1925 Tryd.underlying117 sz5_kInt_u8 rfl rfl) rfl <| Under.fo2 <| Under.fo2 <| Under.fo2 <| Tq.end undef rfl rfl
        refine Tq.v (fun G T hG => ?_) ?_
        ·exact Under.ldP .box (.ix .id h1925) kt5_kInt_u8 rfl rfl <| Under.rawI (t := 43) rfl <| Under.fo2 <| Under.fo2 <| Under.fo2 <| Tq.end undef rfl rfl
        refine Tq.v (fun G T hG => ?_) ?_
        ·exact Under.call Tryd.call38 rfl rfl (f_field_Sub_ok h1927 _) rfl <| Under.fo2 <| Under.fo2 <| Under.fo2 <| Tq.end undef rfl rfl
        refine Tq.v (fun G T hG => ?_) ?_
        ·exact ov (OpV.ixP .box .id h1929 Tryd.underlying117 sz5_kInt_u8 rfl rfl) rfl <| Under.fo2 <| Under.fo2 <| Under.fo2 <| Tq.end undef rfl rfl
        refine Tq.v (fun G T hG => ?_) ?_
        ·exact Under.ldP .box (.ix .id h1929) kt5_kInt_u8 rfl rfl <| Under.rawI (t := 46) rfl <| Under.fo2 <| Under.fo2 <| Under.fo2 <| Tq.end undef rfl rfl
        refine Tq.v (fun G T hG => ?_) ?_
        ·exact Under.call Tryd.call38 rfl rfl (f_field_Sub_ok h1931 _) rfl <| Under.fo2 <| Under.fo2 <| Under.fo2 <| Tq.end undef rfl rfl
        obtain ⟨y1932, h1933, h1854⟩ := bsome h1854
        exact Tq.nil <| Under.le hF0 <| Under.p1 14 rfl rfl <| ov (OpV.bar (ys := [xorI .u8 y1918 x1489, y1922, y1926, y1930]) BTA117 (BldA.cons rfl rfl rdI (BldA.cons rfl rfl rdI (BldA.cons rfl rfl rdI (BldA.cons rfl rfl rdI (BldA.nil _)))))) rfl <| Under.pn <| Under.p1 15 rfl rfl <| Under.stP (x' := [xorI .u8 y1918 x1489, y1922, y1926, y1930]) .box .id sz117_kArr_4_kInt_u8_ rfl rfl rdV rfl <| Under.pn <| Under.pdone rfl <| Under.frz (t := 7) rfl <| tn <| rg <| mv rfl rfl <| Under.call Tryd.call58 rfl rfl (f_field_Mul_ok h1933 _) rfl <| ag rfl rfl <| nt <| Under.fo1 <| wk (k1855 _ _ (osi h1854).symm) (s5 rfl rfl rfl rfl rfl)
       ·exact Under.frz (t := 7) rfl <| ct <| Under.fo1 <| wk (k1855 _ _ (osi h1854).symm) (s5 rfl rfl rfl rfl rfl)
    ·refine Under.fo1 <| Under.frz (t := 3) rfl <| xt <| te ?_
     have e1938 := done_eq h1713 d1714
     subst e1938
     exact te <| bh <| tn <| wk (k946 _ (osi h945).symm) (s2 rfl rfl)
  ·intro K k47
   obtain ⟨r1972, h1973, h46⟩ := bsome h46
   refine sr <| mv rfl rfl <| nt <| bk <| Under.fo1 <| Under.loop (S := (Int × (List (List Int)))) (C := Unit) () (fun (x1984 : (Int × (List (List Int)))) (q1985 : Unit) => [(1, .ptr K4 a0), (2, .raw (.pointer (some ⟨b1, 0, none⟩))), (3, .raw (.pointer (some ⟨b2, 0, none⟩))), (12, .raw (.int .i64 x1984.1))]) (fun (x1984 : (Int × (List (List Int)))) (q1985 : Unit) => (.box kBlock_Schedule b1 91 (⟨(List.replicate 11 (List.replicate 16 (0 : Int)))⟩ : Block_Schedule)) :: (.box (kArr 44 K5) b2 118 x1984.2) :: L) h1973 (s4 rfl rfl rfl rfl) rfl (fun x1984 q1985 o1974 h1970 d1971 => ?_)
   obtain ⟨x1960, x1961⟩ := x1984
   dsimp only at h1970 ⊢
   refine sr <| bn rfl rfl rfl rfl <| nt <| sq <| Under.ite h1970 rfl (fun h1970 => ?_) (fun h1970 => ?_)
   ·obtain ⟨x1976, h1977, h1970⟩ := bsome h1970
    obtain ⟨x1979, h1980, h1970⟩ := bsome h1970
    obtain ⟨h1981, h1970⟩ := gsome h1970
    refine ct <| sq <| bk <| sr <| mv rfl rfl <| ag rfl rfl <| nl <| tn ?_
    replace h1981 : (Int.toNat 0) ≤ (Int.toNat 4) ∧ (Int.toNat 4) ≤ 4 := of_decide_eq_true h1981
    refine Under.phases rfl <| Under.fo1 <| Under.fo1 <| Under.grpT (L := L) [0, 1, 2, 3, 4, 5] [[4], [3, 15], [16], [4], [18], [1, 19]] [⟨sk0 (.raw (.int .i64 x1960)), [], [], []⟩, ⟨sk0 (.raw (.pointer (some ⟨b2, 0 + Int.toNat x1960 * 4, none⟩))), [], [], []⟩, ⟨sk0 (.raw (.slice (some (if 4 = (Int.toNat 0) then ⟨b2, 0 + Int.toNat x1960 * 4, none⟩ else ⟨b2, 0 + Int.toNat x1960 * 4 + (Int.toNat 0) * 1, none⟩)) (Int.toNat 4 - (Int.toNat 0)) (4 - (Int.toNat 0)))), [], [], []⟩, ⟨sk0 (.raw (.int .i64 x1960)), [], [], []⟩, ⟨sk0 (.raw (.int .i64 (IntKind.wrap .i64 (4 * x1960)))), [], [], []⟩, ⟨sk0 (.val K6 x1979), [], [], []⟩] [] (fun T : List Res => (.box kBlock_Schedule b1 91 (⟨(List.replicate 11 (List.replicate 16 (0 : Int)))⟩ : Block_Schedule)) :: (.box (kArr 44 K5) b2 118 x1961) :: T) lf2 rfl (by kernel_rfl) rfl rfl (fun F hF0 bs1975 => ?_)
    refine Tq.v (fun G T hG => ?_) ?_
    ·exact mv rfl rfl <| Under.fo1 <| Under.fo1 <| Tq.end undef rfl rfl
    refine Tq.v (fun G T hG => ?_) ?_
    ·exact Under.fo1 <| ov (OpV.ixP .box .id h1977 Tryd.underlying118 sz117_kArr_4_kInt_u8_ rfl rfl) rfl <| Under.fo1 <| Tq.end undef rfl rfl
    refine Tq.v (fun G T hG => ?_) ?_
    ·exact ov (OpV.slP (l := 0) (h := 4) Tryd.underlying117 sz5_kInt_u8 rfl rfl rfl (by decide) (by decide) (by decide)) rfl <| Under.fo1 <| Under.fo1 <| Tq.end undef rfl rfl
    refine Tq.v (fun G T hG => ?_) ?_
    ·exact mv rfl rfl <| Under.fo1 <| Under.fo1 <| Tq.end undef rfl rfl
    refine Tq.v (fun G T hG => ?_) ?_
    ·exact bn rfl rfl rfl rfl <| Under.fo1 <| Under.fo1 <| Tq.end undef rfl rfl
    refine Tq.v (fun G T hG => ?_) ?_
    ·exact ov (OpV.slF h1980 Tryd.underlying44 sz5 rfl rfl rfl) rfl <| Under.fo1 <| Under.fo1 <| Tq.end undef rfl rfl
    exact Tq.nil <| Under.le hF0 <| Under.p1 6 rfl rfl <| Under.fo1 <| Under.cpB (x' := List.set x1961 (Int.toNat x1960) (over x1976 (Int.toNat 0) (Int.toNat 4) x1979)) .box (.ix .id h1977) (And.left h1981) (And.right h1981) (had_of (And.right h1981)) Tryd.underlying22 sz5_kInt_u8 rfl rfl (.sl rdV) rfl rfl <| Under.pn <| Under.pdone rfl <| bN <| tn <| rg <| bn rfl rfl rfl rfl <| mv rfl rfl <| nl <| Under.fo1 <| Under.next _ () h1970 (s4 rfl rfl rfl rfl) rfl
   ·refine xt <| te ?_
    have e1982 := done_eq h1970 d1971
    subst e1982
    exact te <| bh <| tn <| Under.fo1 <| Under.fo1 <| wk (k47 _ (osi h46).symm) (s2 rfl rfl)
/-- (churn/block.quad).with -/
noncomputable def f_block_quad_with (a0 : List Int) (a1 : List Int) : Option (List Int) :=
  (((Loop.run (S := (Int × (List Int))) (R := (List Int)) (fun (x65, x66) =>
      bif decide (x65 < 16) then
        (idx x66 x65).bind fun x81 =>
        (idx a1 x65).bind fun x83 =>
        (idx x66 x65).bind fun x85 =>
        some (.next (IntKind.wrap .i64 (x65 + 1), List.set x66 (Int.toNat x65) (xorI .u8 x81 x83)))
      else
        some (.done x66)) (0, a0)).bind fun x74 =>
  some x74
    : Option (List Int))).bind fun x44 =>
  some x44
theorem f_block_quad_with_ok {a0 : List Int} {a1 : List Int} {r0 : (List Int)} (hF : f_block_quad_with a0 a1 = some r0) (L : List Res) : Ok Tryd.prog 61 [SV.val K4 a0, SV.val K4 a1] (L) (SV.val K4 r0) (L) := by
  unfold f_block_quad_with at hF
  refine Ok.intro 19 [(0, .val K4 a0), (1, .val K4 a1)] Tryd.func61 rfl rfl rfl rfl (fun F0 => ?_)
  obtain ⟨r45, h46, hF⟩ := bsome hF
  refine sr <| Under.bx (K := kArr 16 K8) rfl rdV rfl fun b1 => Under.bxF (K := kArr 16 K8) rfl rdV rfl <| Under.al ZT88 rfl fun b2 => nt <| sq <| Under.after (fun X => ∀ (x44 : List Int), r45 = x44 → Under F0 19 [(2, .ptr K4 x44), (4, .raw (.pointer (some ⟨b2, 0, none⟩)))] ((.box K4 b2 88 (List.replicate 16 (0 : Int))) :: L) X) ?_ ?_
  ·intro x44 h92
   replace h92 := h92.symm
   subst h92
   refine sr <| ov (OpV.ld kt88 rfl) rfl <| Under.stP (x' := x44) .box .id sz88_kArr_16_kInt_u8_ rfl rfl rdV rfl <| nl <| Under.frz (t := 4) rfl <| tn <| rc ?_
   have e48 := osi hF
   subst e48
   exact Under.rets Tryd.results61 (.ce rfl kt88 .nil) rfl rfl
  ·intro K k47
   obtain ⟨r77, h78, h46⟩ := bsome h46
   refine sr <| mv rfl rfl <| nt <| bk <| Under.fo1 <| Under.loop (S := (Int × (List Int))) (C := Unit) () (fun (x89 : (Int × (List Int))) (q90 : Unit) => [(2, .raw (.pointer (some ⟨b1, 0, none⟩))), (3, .ptr K4 a1), (4, .raw (.pointer (some ⟨b2, 0, none⟩))), (6, .raw (.int .i64 x89.1))]) (fun (x89 : (Int × (List Int))) (q90 : Unit) => (.box K4 b1 88 x89.2) :: (.box K4 b2 88 (List.replicate 16 (0 : Int))) :: L) h78 (s4 rfl rfl rfl rfl) rfl (fun x89 q90 o79 h75 d76 => ?_)
   obtain ⟨x65, x66⟩ := x89
   dsimp only at h75 ⊢
   refine sr <| bn rfl rfl rfl rfl <| nt <| sq <| Under.ite h75 rfl (fun h75 => ?_) (fun h75 => ?_)
   ·obtain ⟨x81, h82, h75⟩ := bsome h75
    obtain ⟨x83, h84, h75⟩ := bsome h75
    obtain ⟨x85, h86, h75⟩ := bsome h75
    refine ct <| sq <| bk <| sr <| mv rfl rfl <| ag rfl rfl <| nt <| Under.phases rfl <| Under.fo1 <| Under.fo1 <| Under.grpT (L := L) [0, 1, 2, 3, 4, 5] [[5], [2, 9], [10], [5], [3, 12], [13]] [⟨sk0 (.raw (.int .i64 x65)), [], [], []⟩, ⟨sk0 (.raw (.pointer (some ⟨b1, 0 + Int.toNat x65 * 1, none⟩))), [], [], []⟩, ⟨sk0 (.raw (.int .u8 x81)), [], [], []⟩, ⟨sk0 (.raw (.int .i64 x65)), [], [], []⟩, ⟨sk0 (.ptr K8 x83), [], [], []⟩, ⟨sk0 (.raw (.int .u8 x83)), [], [], []⟩] [] (fun T : List Res => (.box K4 b1 88 x66) :: (.box K4 b2 88 (List.replicate 16 (0 : Int))) :: T) lf2 rfl (by kernel_rfl) rfl rfl (fun F hF0 bs80 => ?_)
    refine Tq.v (fun G T hG => ?_) ?_
    ·exact mv rfl rfl <| Under.fo1 <| Under.fo1 <| Tq.end undef rfl rfl
    refine Tq.v (fun G T hG => ?_) ?_
    ·exact ov (OpV.ixP .box .id h82 Tryd.underlying88 sz5_kInt_u8 rfl rfl) rfl <| Under.fo1 <| Under.fo1 <| Tq.end undef rfl rfl
    refine Tq.v (fun G T hG => ?_) ?_
    ·exact Under.ldP .box (.ix .id h82) kt5_kInt_u8 rfl rfl <| Under.rawI (t := 11) rfl <| Under.fo1 <| Under.fo1 <| Tq.end undef rfl rfl
    refine Tq.v (fun G T hG => ?_) ?_
    ·exact mv rfl rfl <| Under.fo1 <| Under.fo1 <| Tq.end undef rfl rfl
    refine Tq.v (fun G T hG => ?_) ?_
    ·exact ov (OpV.ixA h84 Tryd.underlying88 sz5 rfl rfl) rfl <| Under.fo1 <| Under.fo1 <| Tq.end undef rfl rfl
    refine Tq.v (fun G T hG => ?_) ?_
    ·exact ov (OpV.ldI kt5 rfl) rfl <| Under.fo1 <| Under.fo1 <| Tq.end undef rfl rfl
    exact Tq.nil <| Under.le hF0 <| Under.p1 6 rfl rfl <| bn rfl rfl rfl rfl <| Under.pn <| Under.p1 7 rfl rfl <| ov (OpV.ixP .box .id h86 Tryd.underlying88 sz5_kInt_u8 rfl rfl) rfl <| Under.pn <| Under.p1 8 rfl rfl <| Under.stP (x' := List.set x66 (Int.toNat x65) (xorI .u8 x81 x83)) .box (.ix .id h86) sz5_kInt_u8 rfl rfl rdI rfl <| Under.pn <| Under.pdone rfl <| bN <| tn <| rg <| bn rfl rfl rfl rfl <| mv rfl rfl <| nl <| Under.fo1 <| Under.fo1 <| Under.next _ () h75 (s4 rfl rfl rfl rfl) rfl
   ·refine Under.frz (t := 2) rfl <| xt <| te ?_
    have e87 := done_eq h75 d76
    subst e87
    exact te <| bh <| tn <| wk (k47 _ (osi h46).symm) (s2 rfl rfl)
/-- churn/block.Mask$1 -/
noncomputable def f_block_Mask_1 (a0 : Int) (a1 : List Int) : Option Int :=
  (idx a1 a0).bind fun x1 =>
  some x1
theorem f_block_Mask_1_ok {a0 : Int} {a1 : List Int} {r0 : Int} (hF : f_block_Mask_1 a0 a1 = some r0) (L : List Res) : Ok Tryd.prog 39 [SV.raw (.int .u8 a0), SV.ptr (kArr 256 K8) a1] (L) (SV.raw (.int .u8 r0)) (L) := by
  unfold f_block_Mask_1 at hF
  refine Ok.intro 7 [(0, .raw (.int .u8 a0)), (1, .ptr (kArr 256 K8) a1)] Tryd.func39 rfl rfl rfl rfl (fun F0 => ?_)
  obtain ⟨x1, h2, hF⟩ := bsome hF
  refine sr <| ag rfl rfl <| ns <| mv rfl rfl <| ov (OpV.ixA h2 Tryd.underlying94 sz5 rfl rfl) rfl <| ov (OpV.ldI kt5 rfl) rfl <| ag rfl rfl <| nt <| rc ?_
  have e3 := osi hF
  subst e3
  exact Under.rets Tryd.results39 (.tm rfl .nil) rfl rfl
/-- (churn/block.quad).each -/
noncomputable def f_block_quad_each_block_Mask_1 (a0 : List Int) (a1 : List Int) : Option (List Int) :=
  (((Loop.run (S := (Int × (List Int))) (R := (List Int)) (fun (x59, x60) =>
      bif decide (x59 < 16) then
        (idx x60 x59).bind fun x73 =>
        (f_block_Mask_1 x73 a1).bind fun y75 =>
        (idx x60 x59).bind fun x77 =>
        some (.next (IntKind.wrap .i64 (x59 + 1), List.set x60 (Int.toNat x59) y75))
      else
        some (.done x60)) (0, a0)).bind fun x67 =>
  some x67
    : Option (List Int))).bind fun x40 =>
  some x40
theorem f_block_quad_each_block_Mask_1_ok {a0 : List Int} {a1 : List Int} {r0 : (List Int)} (hF : f_block_quad_each_block_Mask_1 a0 a1 = some r0) (L : List Res) : Ok Tryd.prog 62 [SV.val K4 a0, SV.fn 39 [.ptr (kArr 256 K8) a1]] (L) (SV.val K4 r0) (L) := by
  unfold f_block_quad_each_block_Mask_1 at hF
  refine Ok.intro 18 [(0, .val K4 a0), (1, .fn 39 [.ptr (kArr 256 K8) a1])] Tryd.func62 rfl rfl rfl rfl (fun F0 => ?_)
  obtain ⟨r41, h42, hF⟩ := bsome hF
  refine sr <| Under.bx (K := kArr 16 K8) rfl rdV rfl fun b1 => Under.al ZT88 rfl fun b2 => nt <| sq <| Under.after (fun X => ∀ (x40 : List Int), r41 = x40 → Under F0 18 [(2, .ptr K4 x40), (4, .raw (.pointer (some ⟨b2, 0, none⟩)))] ((.box K4 b2 88 (List.replicate 16 (0 : Int))) :: L) X) ?_ ?_
  ·intro x40 h84
   replace h84 := h84.symm
   subst h84
   refine sr <| ov (OpV.ld kt88 rfl) rfl <| Under.stP (x' := x40) .box .id sz88_kArr_16_kInt_u8_ rfl rfl rdV rfl <| nl <| Under.frz (t := 4) rfl <| tn <| rc ?_
   have e44 := osi hF
   subst e44
   exact Under.rets Tryd.results62 (.ce rfl kt88 .nil) rfl rfl
  ·intro K k43
   obtain ⟨r70, h71, h42⟩ := bsome h42
   refine sr <| mv rfl rfl <| nt <| bk <| Under.fo1 <| Under.loop (S := (Int × (List Int))) (C := Unit) () (fun (x81 : (Int × (List Int))) (q82 : Unit) => [(1, .fn 39 [.ptr (kArr 256 K8) a1]), (2, .raw (.pointer (some ⟨b1, 0, none⟩))), (4, .raw (.pointer (some ⟨b2, 0, none⟩))), (6, .raw (.int .i64 x81.1))]) (fun (x81 : (Int × (List Int))) (q82 : Unit) => (.box K4 b1 88 x81.2) :: (.box K4 b2 88 (List.replicate 16 (0 : Int))) :: L) h71 (s4 rfl rfl rfl rfl) rfl (fun x81 q82 o72 h68 d69 => ?_)
   obtain ⟨x59, x60⟩ := x81
   dsimp only at h68 ⊢
   refine sr <| bn rfl rfl rfl rfl <| nt <| sq <| Under.ite h68 rfl (fun h68 => ?_) (fun h68 => ?_)
   ·obtain ⟨x73, h74, h68⟩ := bsome h68
    obtain ⟨y75, h76, h68⟩ := bsome h68
    obtain ⟨x77, h78, h68⟩ := bsome h68
    exact ct <| sq <| bk <| sr <| mv rfl rfl <| ag rfl rfl <| nt <| rg <| mv rfl rfl <| mv rfl rfl <| mv rfl rfl <| ov (OpV.ixP .box .id h74 Tryd.underlying88 sz5_kInt_u8 rfl rfl) rfl <| Under.ldP .box (.ix .id h74) kt5_kInt_u8 rfl rfl <| Under.rawI (t := 13) rfl <| Under.callC Tryd.call39 rfl rfl (f_block_Mask_1_ok h76 _) rfl <| ov (OpV.ixP .box .id h78 Tryd.underlying88 sz5_kInt_u8 rfl rfl) rfl <| Under.stP (x' := List.set x60 (Int.toNat x59) y75) .box (.ix .id h78) sz5_kInt_u8 rfl rfl rdI rfl <| nl <| bN <| tn <| rg <| bn rfl rfl rfl rfl <| mv rfl rfl <| nl <| Under.fo1 <| Under.fo1 <| Under.next _ () h68 (s4 rfl rfl rfl rfl) rfl
   ·refine Under.frz (t := 2) rfl <| xt <| te ?_
    have e79 := done_eq h68 d69
    subst e79
    exact te <| bh <| tn <| wk (k43 _ (osi h42).symm) (s2 rfl rfl)
end Go.Proofs.YtgllljocmpbooaaDoor

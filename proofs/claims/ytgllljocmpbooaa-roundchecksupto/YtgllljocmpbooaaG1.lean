/- PRINTED BY gen.py (of this repo) -/
import Derived.Test.YtgllljocmpbooaaSim16
import Derived.Test.YtgllljocmpbooaaRows
set_option linter.unusedVariables false
set_option linter.unusedSimpArgs false
set_option maxRecDepth 20000
namespace Go.Proofs.Ytgllljocmpbooaa
open Go Go.Sim Go.ChangeShapes Go.WideShapes Go.ChangeAt Go.RowKit
structure Api_Config where
  Master : List Int
  Left : Int
  Span : Int
  Room : Int
  Num : Int
  Den : Int
  Noise : Int
  Chunks : Int
  Workers : Int
  Cap : Int
  Shards : Int
abbrev kApi_ConfigF : List (Fld Api_Config) := [⟨kSl (kInt .u8), Api_Config.Master⟩, ⟨kInt .i64, Api_Config.Left⟩, ⟨kInt .i64, Api_Config.Span⟩, ⟨kInt .i64, Api_Config.Room⟩, ⟨kInt .i64, Api_Config.Num⟩, ⟨kInt .i64, Api_Config.Den⟩, ⟨kInt .i64, Api_Config.Noise⟩, ⟨kInt .i64, Api_Config.Chunks⟩, ⟨kInt .i64, Api_Config.Workers⟩, ⟨kInt .i64, Api_Config.Cap⟩, ⟨kInt .i64, Api_Config.Shards⟩]
abbrev kApi_Config : Kd Api_Config := kSt kApi_ConfigF
structure Api_Epoch where
  Number : Int
  Tags : List (List Int)
abbrev kApi_EpochF : List (Fld Api_Epoch) := [⟨kInt .i64, Api_Epoch.Number⟩, ⟨kSl (kArr 16 (kInt .u8)), Api_Epoch.Tags⟩]
abbrev kApi_Epoch : Kd Api_Epoch := kSt kApi_EpochF
structure Api_Window where
  Newest : Int
  Epochs : List Api_Epoch
abbrev kApi_WindowF : List (Fld Api_Window) := [⟨kInt .i64, Api_Window.Newest⟩, ⟨kSl kApi_Epoch, Api_Window.Epochs⟩]
abbrev kApi_Window : Kd Api_Window := kSt kApi_WindowF
structure Api_State where
  Next : Int
  Window : Api_Window
abbrev kApi_StateF : List (Fld Api_State) := [⟨kInt .i64, Api_State.Next⟩, ⟨kApi_Window, Api_State.Window⟩]
abbrev kApi_State : Kd Api_State := kSt kApi_StateF
theorem z_kApi_Config (F : Fz) : Kd.rd kApi_Config F ([.slice none 0 0] ++ [.int .i64 0] ++ [.int .i64 0] ++ [.int .i64 0] ++ [.int .i64 0] ++ [.int .i64 0] ++ [.int .i64 0] ++ [.int .i64 0] ++ [.int .i64 0] ++ [.int .i64 0] ++ [.int .i64 0] ++ []) (⟨[], 0, 0, 0, 0, 0, 0, 0, 0, 0, 0⟩ : Api_Config) := ⟨[.slice none 0 0], _, rfl, ⟨none, 0, rfl, Nat.le_refl _, .inl rfl⟩, ⟨[.int .i64 0], _, rfl, rfl, ⟨[.int .i64 0], _, rfl, rfl, ⟨[.int .i64 0], _, rfl, rfl, ⟨[.int .i64 0], _, rfl, rfl, ⟨[.int .i64 0], _, rfl, rfl, ⟨[.int .i64 0], _, rfl, rfl, ⟨[.int .i64 0], _, rfl, rfl, ⟨[.int .i64 0], _, rfl, rfl, ⟨[.int .i64 0], _, rfl, rfl, ⟨[.int .i64 0], _, rfl, rfl, rfl⟩⟩⟩⟩⟩⟩⟩⟩⟩⟩⟩
theorem BT24 : BT Try.prog 24 kApi_ConfigF (⟨[], 0, 0, 0, 0, 0, 0, 0, 0, 0, 0⟩ : Api_Config) := ⟨⟨Try.t24, (.agg #[.slice none 0 0, .int .i64 0, .int .i64 0, .int .i64 0, .int .i64 0, .int .i64 0, .int .i64 0, .int .i64 0, .int .i64 0, .int .i64 0, .int .i64 0] : Value), _, [(0, 1), (1, 1), (2, 1), (3, 1), (4, 1), (5, 1), (6, 1), (7, 1), (8, 1), (9, 1), (10, 1)], by kernel_rfl, by kernel_rfl, Try.underlying24, by kernel_rfl, fun i f h => match i, f, h with
    | 0, f, h => by cases h; rfl
    | 1, f, h => by cases h; rfl
    | 2, f, h => by cases h; rfl
    | 3, f, h => by cases h; rfl
    | 4, f, h => by cases h; rfl
    | 5, f, h => by cases h; rfl
    | 6, f, h => by cases h; rfl
    | 7, f, h => by cases h; rfl
    | 8, f, h => by cases h; rfl
    | 9, f, h => by cases h; rfl
    | 10, f, h => by cases h; rfl
    | (_ + 11), f, h => by simp [kApi_ConfigF] at h, fun F => cells_castF (by kernel_rfl) (z_kApi_Config F)⟩⟩
theorem z_kApi_State (F : Fz) : Kd.rd kApi_State F ([.int .i64 0] ++ ([.int .i64 0] ++ [.slice none 0 0] ++ []) ++ []) (⟨0, (⟨0, []⟩ : Api_Window)⟩ : Api_State) := ⟨[.int .i64 0], _, rfl, rfl, ⟨([.int .i64 0] ++ [.slice none 0 0] ++ []), _, rfl, ⟨[.int .i64 0], _, rfl, rfl, ⟨[.slice none 0 0], _, rfl, ⟨none, 0, rfl, Nat.le_refl _, .inl rfl⟩, rfl⟩⟩, rfl⟩⟩
theorem BT29 : BT Try.prog 29 kApi_StateF (⟨0, (⟨0, []⟩ : Api_Window)⟩ : Api_State) := ⟨⟨Try.t29, (.agg #[.int .i64 0, .int .i64 0, .slice none 0 0] : Value), _, [(0, 1), (1, 2)], by kernel_rfl, by kernel_rfl, Try.underlying29, by kernel_rfl, fun i f h => match i, f, h with
    | 0, f, h => by cases h; rfl
    | 1, f, h => by cases h; rfl
    | (_ + 2), f, h => by simp [kApi_StateF] at h, fun F => cells_castF (by kernel_rfl) (z_kApi_State F)⟩⟩
theorem kt24 : KT Try.prog 24 kApi_Config := ⟨by kernel_rfl, by kernel_rfl⟩
theorem fb24_0 : fldB Try.prog 24 0 = some (offF kApi_ConfigF 0, 0 + 1) := by kernel_rfl
theorem kt22 : KT Try.prog 22 (kSl (kInt .u8)) := ⟨by kernel_rfl, by kernel_rfl⟩
theorem fb24_1 : fldB Try.prog 24 1 = some (offF kApi_ConfigF 1, 0 + 1) := by kernel_rfl
theorem kt3 : KT Try.prog 3 (kInt .i64) := ⟨by kernel_rfl, by kernel_rfl⟩
theorem fb24_2 : fldB Try.prog 24 2 = some (offF kApi_ConfigF 2, 0 + 1) := by kernel_rfl
theorem fb24_3 : fldB Try.prog 24 3 = some (offF kApi_ConfigF 3, 0 + 1) := by kernel_rfl
theorem fb24_5 : fldB Try.prog 24 5 = some (offF kApi_ConfigF 5, 0 + 1) := by kernel_rfl
theorem fb24_4 : fldB Try.prog 24 4 = some (offF kApi_ConfigF 4, 0 + 1) := by kernel_rfl
theorem fb24_6 : fldB Try.prog 24 6 = some (offF kApi_ConfigF 6, 0 + 1) := by kernel_rfl
theorem fb24_7 : fldB Try.prog 24 7 = some (offF kApi_ConfigF 7, 0 + 1) := by kernel_rfl
theorem fb24_8 : fldB Try.prog 24 8 = some (offF kApi_ConfigF 8, 0 + 1) := by kernel_rfl
theorem fb24_9 : fldB Try.prog 24 9 = some (offF kApi_ConfigF 9, 0 + 1) := by kernel_rfl
theorem fb24_10 : fldB Try.prog 24 10 = some (offF kApi_ConfigF 10, 0 + 1) := by kernel_rfl
theorem fb29_0 : fldB Try.prog 29 0 = some (offF kApi_StateF 0, 0 + 1) := by kernel_rfl
theorem kt2 : KT Try.prog 2 (kInt .i64) := ⟨by kernel_rfl, by kernel_rfl⟩
theorem fb29_1 : fldB Try.prog 29 1 = some (offF kApi_StateF 1, 1 + 1) := by kernel_rfl
theorem kt27 : KT Try.prog 27 kApi_Window := ⟨by kernel_rfl, by kernel_rfl⟩
theorem fb27_0 : fldB Try.prog 27 0 = some (offF kApi_WindowF 0, 0 + 1) := by kernel_rfl
theorem fb27_1 : fldB Try.prog 27 1 = some (offF kApi_WindowF 1, 0 + 1) := by kernel_rfl
theorem kt25 : KT Try.prog 25 (kSl kApi_Epoch) := ⟨by kernel_rfl, by kernel_rfl⟩
theorem sz61 : (Try.prog.info? 61).map (·.size) = some (Kd.n kApi_Epoch) := by kernel_rfl
theorem kt61 : KT Try.prog 61 kApi_Epoch := ⟨by kernel_rfl, by kernel_rfl⟩
theorem z_kApi_Epoch (F : Fz) : Kd.rd kApi_Epoch F ([.int .i64 0] ++ [.slice none 0 0] ++ []) (⟨0, []⟩ : Api_Epoch) := ⟨[.int .i64 0], _, rfl, rfl, ⟨[.slice none 0 0], _, rfl, ⟨none, 0, rfl, Nat.le_refl _, .inl rfl⟩, rfl⟩⟩
theorem ZT61 : ZT Try.prog 61 kApi_Epoch (⟨0, []⟩ : Api_Epoch) := ⟨(.agg #[.int .i64 0, .slice none 0 0] : Value), by kernel_rfl, fun F => cells_cast (by kernel_rfl) (z_kApi_Epoch F)⟩
theorem fb61_1 : fldB Try.prog 61 1 = some (offF kApi_EpochF 1, 0 + 1) := by kernel_rfl
theorem kt36 : KT Try.prog 36 (kSl (kArr 16 (kInt .u8))) := ⟨by kernel_rfl, by kernel_rfl⟩
theorem sz43 : (Try.prog.info? 43).map (·.size) = some (Kd.n (kArr 16 (kInt .u8))) := by kernel_rfl
theorem kt43 : KT Try.prog 43 (kArr 16 (kInt .u8)) := ⟨by kernel_rfl, by kernel_rfl⟩
theorem z_kArr_16_kInt_u8_ (F : Fz) : Kd.rd (kArr 16 (kInt .u8)) F ((List.replicate 16 [.int .u8 0]).flatten) (List.replicate 16 0) := ⟨by simp, rdAll_rep (K := kInt .u8) rfl 16⟩
theorem ZT43 : ZT Try.prog 43 (kArr 16 (kInt .u8)) (List.replicate 16 0) := ⟨(.agg #[.int .u8 0, .int .u8 0, .int .u8 0, .int .u8 0, .int .u8 0, .int .u8 0, .int .u8 0, .int .u8 0, .int .u8 0, .int .u8 0, .int .u8 0, .int .u8 0, .int .u8 0, .int .u8 0, .int .u8 0, .int .u8 0] : Value), by kernel_rfl, fun F => cells_cast (by kernel_rfl) (z_kArr_16_kInt_u8_ F)⟩
theorem sn43 : (Try.prog.info? 43).map (·.size) = some 16 := by kernel_rfl
theorem kt5 : KT Try.prog 5 (kInt .u8) := ⟨by kernel_rfl, by kernel_rfl⟩
theorem key43 : KeyK Try.prog 43 (kArr 16 (kInt .u8)) := KeyK.ints Try.underlying43 Try.underlying5 kt5
theorem fb61_0 : fldB Try.prog 61 0 = some (offF kApi_EpochF 0, 0 + 1) := by kernel_rfl
theorem sz5 : (Try.prog.info? 5).map (·.size) = some (Kd.n (kInt .u8)) := by kernel_rfl
theorem nx55 : Extern.findNext Try.f55 = none := by kernel_rfl
theorem fd55 : Extern.find Try.f55 = some Extern.BytealgCompare.compare := by kernel_rfl
theorem nb55 : Try.f55.body.isNone = true := by kernel_rfl
theorem nn55 : (Try.f55.name == "runtime.NumGoroutine") = false := by kernel_rfl
theorem ZT24 : ZT Try.prog 24 kApi_Config (⟨[], 0, 0, 0, 0, 0, 0, 0, 0, 0, 0⟩ : Api_Config) := ⟨(.agg #[.slice none 0 0, .int .i64 0, .int .i64 0, .int .i64 0, .int .i64 0, .int .i64 0, .int .i64 0, .int .i64 0, .int .i64 0, .int .i64 0, .int .i64 0] : Value), by kernel_rfl, fun F => cells_cast (by kernel_rfl) (z_kApi_Config F)⟩
theorem z_kInt_u8 (F : Fz) : Kd.rd (kInt .u8) F [.int .u8 0] 0 := rfl
theorem AT5 : AT Try.prog 5 (kInt .u8) 0 1 := ⟨⟨Try.t5, (.int .u8 0 : Value), by kernel_rfl, by kernel_rfl, by kernel_rfl, by kernel_rfl, by decide, by decide, fun F => cells_cast (by kernel_rfl) (z_kInt_u8 F)⟩⟩
theorem sz24 : (Try.prog.info? 24).map (·.size) = some (Kd.n kApi_Config) := by kernel_rfl
theorem kt29 : KT Try.prog 29 kApi_State := ⟨by kernel_rfl, by kernel_rfl⟩
theorem AT43 : AT Try.prog 43 (kArr 16 (kInt .u8)) (List.replicate 16 0) 16 := ⟨⟨Try.t43, (.agg #[.int .u8 0, .int .u8 0, .int .u8 0, .int .u8 0, .int .u8 0, .int .u8 0, .int .u8 0, .int .u8 0, .int .u8 0, .int .u8 0, .int .u8 0, .int .u8 0, .int .u8 0, .int .u8 0, .int .u8 0, .int .u8 0] : Value), by kernel_rfl, by kernel_rfl, by kernel_rfl, by kernel_rfl, by decide, by decide, fun F => cells_cast (by kernel_rfl) (z_kArr_16_kInt_u8_ F)⟩⟩
theorem eqk5 : EqK Try.prog 5 (kInt .u8) 1 := EqK.int Try.underlying5
theorem eqk43 : EqK Try.prog 43 (kArr 16 (kInt .u8)) 2 := EqK.arr eqk5 kt5 Try.underlying43
theorem eqg43 : Try.prog.eqGuardType Try.prog.depth 43 = false := by kernel_rfl
theorem ET43 : ET Try.prog 43 (kArr 16 (kInt .u8)) (List.replicate 16 0) := ⟨⟨Try.t43, (.agg #[.int .u8 0, .int .u8 0, .int .u8 0, .int .u8 0, .int .u8 0, .int .u8 0, .int .u8 0, .int .u8 0, .int .u8 0, .int .u8 0, .int .u8 0, .int .u8 0, .int .u8 0, .int .u8 0, .int .u8 0, .int .u8 0] : Value), by kernel_rfl, by kernel_rfl, by kernel_rfl, by decide, fun F => cells_cast (by kernel_rfl) (z_kArr_16_kInt_u8_ F)⟩⟩
theorem rw5 : RdW Try.prog 5 (kInt .u8) (gInt .u8) bOne := rw_int Try.underlying5
theorem cof5 : Try.prog.cellsOf 5 = 1 := by kernel_rfl
theorem rw22 : RdW Try.prog 22 (kSl (kInt .u8)) (gSl (gInt .u8)) (bSl bOne) := rw_sl (K := kInt .u8) Try.underlying22 cof5 (by decide) rw5
theorem rw3 : RdW Try.prog 3 (kInt .i64) (gInt .i64) bOne := rw_int Try.underlying3
theorem cof22 : Try.prog.cellsOf 22 = 1 := by kernel_rfl
theorem cof3 : Try.prog.cellsOf 3 = 1 := by kernel_rfl
theorem cof24 : Try.prog.cellsOf 24 = 11 := by kernel_rfl
def g_Api_Config (x : Api_Config) : Prop := (gSl (gInt .u8)) x.Master ∧ (gInt .i64) x.Left ∧ (gInt .i64) x.Span ∧ (gInt .i64) x.Room ∧ (gInt .i64) x.Num ∧ (gInt .i64) x.Den ∧ (gInt .i64) x.Noise ∧ (gInt .i64) x.Chunks ∧ (gInt .i64) x.Workers ∧ (gInt .i64) x.Cap ∧ (gInt .i64) x.Shards ∧ True
def b_Api_Config (x : Api_Config) : Nat := (bSl bOne) x.Master + (bOne x.Left + (bOne x.Span + (bOne x.Room + (bOne x.Num + (bOne x.Den + (bOne x.Noise + (bOne x.Chunks + (bOne x.Workers + (bOne x.Cap + (bOne x.Shards + 0))))))))))
theorem rw24 : RdW Try.prog 24 kApi_Config g_Api_Config b_Api_Config := by
  intro H enc W B BA hB fuel cs x h
  obtain ⟨hl, ds, hx, hf0⟩ := trod_st Try.underlying24 h
  obtain ⟨d0, ds0, e0, ⟨n0, p0, t0⟩, hf1⟩ := FsRd.cons hf0
  subst e0
  obtain ⟨y0, r0, g0, b0⟩ := rw22 hB t0
  obtain ⟨d1, ds1, e1, ⟨n1, p1, t1⟩, hf2⟩ := FsRd.cons hf1
  subst e1
  obtain ⟨y1, r1, g1, b1⟩ := rw3 hB t1
  obtain ⟨d2, ds2, e2, ⟨n2, p2, t2⟩, hf3⟩ := FsRd.cons hf2
  subst e2
  obtain ⟨y2, r2, g2, b2⟩ := rw3 hB t2
  obtain ⟨d3, ds3, e3, ⟨n3, p3, t3⟩, hf4⟩ := FsRd.cons hf3
  subst e3
  obtain ⟨y3, r3, g3, b3⟩ := rw3 hB t3
  obtain ⟨d4, ds4, e4, ⟨n4, p4, t4⟩, hf5⟩ := FsRd.cons hf4
  subst e4
  obtain ⟨y4, r4, g4, b4⟩ := rw3 hB t4
  obtain ⟨d5, ds5, e5, ⟨n5, p5, t5⟩, hf6⟩ := FsRd.cons hf5
  subst e5
  obtain ⟨y5, r5, g5, b5⟩ := rw3 hB t5
  obtain ⟨d6, ds6, e6, ⟨n6, p6, t6⟩, hf7⟩ := FsRd.cons hf6
  subst e6
  obtain ⟨y6, r6, g6, b6⟩ := rw3 hB t6
  obtain ⟨d7, ds7, e7, ⟨n7, p7, t7⟩, hf8⟩ := FsRd.cons hf7
  subst e7
  obtain ⟨y7, r7, g7, b7⟩ := rw3 hB t7
  obtain ⟨d8, ds8, e8, ⟨n8, p8, t8⟩, hf9⟩ := FsRd.cons hf8
  subst e8
  obtain ⟨y8, r8, g8, b8⟩ := rw3 hB t8
  obtain ⟨d9, ds9, e9, ⟨n9, p9, t9⟩, hf10⟩ := FsRd.cons hf9
  subst e9
  obtain ⟨y9, r9, g9, b9⟩ := rw3 hB t9
  obtain ⟨d10, ds10, e10, ⟨n10, p10, t10⟩, hf11⟩ := FsRd.cons hf10
  subst e10
  obtain ⟨y10, r10, g10, b10⟩ := rw3 hB t10
  have hnil := FsRd.nil hf11
  subst hnil
  refine ⟨⟨y0, y1, y2, y3, y4, y5, y6, y7, y8, y9, y10⟩, rdF_start (rdF_step cof22 r0 (rdF_step cof3 r1 (rdF_step cof3 r2 (rdF_step cof3 r3 (rdF_step cof3 r4 (rdF_step cof3 r5 (rdF_step cof3 r6 (rdF_step cof3 r7 (rdF_step cof3 r8 (rdF_step cof3 r9 (rdF_step cof3 r10 (rdF_end (hl.trans cof24) rfl)))))))))))), ⟨g0, g1, g2, g3, g4, g5, g6, g7, g8, g9, g10, trivial⟩, ?_⟩
  have := hB.agg [d0, d1, d2, d3, d4, d5, d6, d7, d8, d9, d10]
  rw [hx]
  dsimp only at b0 b1 b2 b3 b4 b5 b6 b7 b8 b9 b10
  simp only [hB.cons, hB.nil] at this
  simp only [b_Api_Config]; omega
theorem rw2 : RdW Try.prog 2 (kInt .i64) (gInt .i64) bOne := rw_int Try.underlying2
theorem cof43 : Try.prog.cellsOf 43 = 16 := by kernel_rfl
theorem rw43 : RdW Try.prog 43 (kArr 16 (kInt .u8)) (gArr 16 (gInt .u8)) (bArr bOne) := rw_arr (K := kInt .u8) Try.underlying43 cof43 cof5 rw5
theorem rw36 : RdW Try.prog 36 (kSl (kArr 16 (kInt .u8))) (gSl (gArr 16 (gInt .u8))) (bSl (bArr bOne)) := rw_sl (K := kArr 16 (kInt .u8)) Try.underlying36 cof43 (by decide) rw43
theorem cof2 : Try.prog.cellsOf 2 = 1 := by kernel_rfl
theorem cof36 : Try.prog.cellsOf 36 = 1 := by kernel_rfl
theorem cof61 : Try.prog.cellsOf 61 = 2 := by kernel_rfl
def g_Api_Epoch (x : Api_Epoch) : Prop := (gInt .i64) x.Number ∧ (gSl (gArr 16 (gInt .u8))) x.Tags ∧ True
def b_Api_Epoch (x : Api_Epoch) : Nat := bOne x.Number + ((bSl (bArr bOne)) x.Tags + 0)
theorem rw61 : RdW Try.prog 61 kApi_Epoch g_Api_Epoch b_Api_Epoch := by
  intro H enc W B BA hB fuel cs x h
  obtain ⟨hl, ds, hx, hf0⟩ := trod_st Try.underlying61 h
  obtain ⟨d0, ds0, e0, ⟨n0, p0, t0⟩, hf1⟩ := FsRd.cons hf0
  subst e0
  obtain ⟨y0, r0, g0, b0⟩ := rw2 hB t0
  obtain ⟨d1, ds1, e1, ⟨n1, p1, t1⟩, hf2⟩ := FsRd.cons hf1
  subst e1
  obtain ⟨y1, r1, g1, b1⟩ := rw36 hB t1
  have hnil := FsRd.nil hf2
  subst hnil
  refine ⟨⟨y0, y1⟩, rdF_start (rdF_step cof2 r0 (rdF_step cof36 r1 (rdF_end (hl.trans cof61) rfl))), ⟨g0, g1, trivial⟩, ?_⟩
  have := hB.agg [d0, d1]
  rw [hx]
  dsimp only at b0 b1
  simp only [hB.cons, hB.nil] at this
  simp only [b_Api_Epoch]; omega
theorem rw25 : RdW Try.prog 25 (kSl kApi_Epoch) (gSl g_Api_Epoch) (bSl b_Api_Epoch) := rw_sl (K := kApi_Epoch) Try.underlying25 cof61 (by decide) rw61
theorem cof25 : Try.prog.cellsOf 25 = 1 := by kernel_rfl
theorem cof27 : Try.prog.cellsOf 27 = 2 := by kernel_rfl
def g_Api_Window (x : Api_Window) : Prop := (gInt .i64) x.Newest ∧ (gSl g_Api_Epoch) x.Epochs ∧ True
def b_Api_Window (x : Api_Window) : Nat := bOne x.Newest + ((bSl b_Api_Epoch) x.Epochs + 0)
theorem rw27 : RdW Try.prog 27 kApi_Window g_Api_Window b_Api_Window := by
  intro H enc W B BA hB fuel cs x h
  obtain ⟨hl, ds, hx, hf0⟩ := trod_st Try.underlying27 h
  obtain ⟨d0, ds0, e0, ⟨n0, p0, t0⟩, hf1⟩ := FsRd.cons hf0
  subst e0
  obtain ⟨y0, r0, g0, b0⟩ := rw2 hB t0
  obtain ⟨d1, ds1, e1, ⟨n1, p1, t1⟩, hf2⟩ := FsRd.cons hf1
  subst e1
  obtain ⟨y1, r1, g1, b1⟩ := rw25 hB t1
  have hnil := FsRd.nil hf2
  subst hnil
  refine ⟨⟨y0, y1⟩, rdF_start (rdF_step cof2 r0 (rdF_step cof25 r1 (rdF_end (hl.trans cof27) rfl))), ⟨g0, g1, trivial⟩, ?_⟩
  have := hB.agg [d0, d1]
  rw [hx]
  dsimp only at b0 b1
  simp only [hB.cons, hB.nil] at this
  simp only [b_Api_Window]; omega
theorem cof29 : Try.prog.cellsOf 29 = 3 := by kernel_rfl
def g_Api_State (x : Api_State) : Prop := (gInt .i64) x.Next ∧ g_Api_Window x.Window ∧ True
def b_Api_State (x : Api_State) : Nat := bOne x.Next + (b_Api_Window x.Window + 0)
theorem rw29 : RdW Try.prog 29 kApi_State g_Api_State b_Api_State := by
  intro H enc W B BA hB fuel cs x h
  obtain ⟨hl, ds, hx, hf0⟩ := trod_st Try.underlying29 h
  obtain ⟨d0, ds0, e0, ⟨n0, p0, t0⟩, hf1⟩ := FsRd.cons hf0
  subst e0
  obtain ⟨y0, r0, g0, b0⟩ := rw2 hB t0
  obtain ⟨d1, ds1, e1, ⟨n1, p1, t1⟩, hf2⟩ := FsRd.cons hf1
  subst e1
  obtain ⟨y1, r1, g1, b1⟩ := rw27 hB t1
  have hnil := FsRd.nil hf2
  subst hnil
  refine ⟨⟨y0, y1⟩, rdF_start (rdF_step cof2 r0 (rdF_step cof27 r1 (rdF_end (hl.trans cof29) rfl))), ⟨g0, g1, trivial⟩, ?_⟩
  have := hB.agg [d0, d1]
  rw [hx]
  dsimp only at b0 b1
  simp only [hB.cons, hB.nil] at this
  simp only [b_Api_State]; omega
/-- churn/round.within -/
noncomputable def f_round_within (a0 : Int) (a1 : Int) (a2 : Int) : Option Bool :=
  some ((decide (a1 ≤ a0)) && (decide (a0 ≤ a2)))
theorem f_round_within_ok {a0 : Int} {a1 : Int} {a2 : Int} {r0 : Bool} (hF : f_round_within a0 a1 a2 = some r0) (L : List Res) : Ok Try.prog 48 [SV.raw (.int .i64 a0), SV.raw (.int .i64 a1), SV.raw (.int .i64 a2)] L (SV.raw (.bool r0)) L := by
  unfold f_round_within at hF
  refine Ok.intro 15 [(0, .raw (.int .i64 a0)), (1, .raw (.int .i64 a1)), (2, .raw (.int .i64 a2))] Try.func48 rfl rfl rfl rfl (fun F0 => ?_)
  refine Under.seq ?_
  refine Under.region ?_
  refine Under.ov (OpV.asg rfl) rfl ?_
  refine Under.nil ?_
  refine Under.tN ?_
  refine Under.seq ?_
  refine Under.rj [(6, .raw (.bool ((decide (a1 ≤ a0)) && (decide (a0 ≤ a2)))))] ?_ (fun k => ?_)
  · refine Under.tN ?_
    refine Under.retc ?_
    exact Under.retE Try.results48 rfl (congrArg (fun y => SV.raw (.bool y)) (Option.some.inj hF)) rfl
  · refine Under.ov (OpV.move rfl) rfl ?_
    refine Under.ov (OpV.move rfl) rfl ?_
    refine Under.ov (OpV.bin rfl rfl rfl) rfl ?_
    refine Under.ov (OpV.move rfl) rfl ?_
    refine Under.byc (t := 10) rfl (fun c1 => ?_) (fun c1 => ?_)
    · refine Under.goc c1 rfl rfl ?_
      refine Under.ov (OpV.move rfl) rfl ?_
      refine Under.goc c1 rfl rfl ?_
      refine Under.ov (OpV.move rfl) rfl ?_
      refine Under.goc c1 rfl rfl ?_
      refine Under.ov (OpV.bin rfl rfl rfl) rfl ?_
      refine Under.ov (OpV.pick rfl (fun _ => rfl) (fun e => absurd (e.symm.trans c1) (by decide))) rfl ?_
      refine Under.top (and_t c1) ?_
      refine Under.ov (OpV.asg rfl) rfl ?_
      exact Under.nil (Under.fin 9 (SubZ.cons rfl rfl SubZ.nil) rfl k)
    · refine Under.skc c1 rfl rfl rfl ?_
      refine Under.skc c1 rfl rfl rfl ?_
      refine Under.skc c1 rfl rfl rfl ?_
      refine Under.ov (OpV.pick rfl (fun e => absurd (e.symm.trans c1) (by decide)) (fun _ => rfl)) rfl ?_
      refine Under.top (and_f (e := decide (a0 ≤ a2)) c1) ?_
      have c2 := and_fb (e := decide (a0 ≤ a2)) c1
      refine Under.ov (OpV.asg rfl) rfl ?_
      exact Under.nil (Under.fin 9 (SubZ.cons rfl rfl SubZ.nil) rfl k)
/-- churn/round.right -/
noncomputable def f_round_right (a0 : Api_Config) : Option Bool :=
  ((bif (a0.Master.length : Int) == 32 then
    (f_round_within a0.Left 1 8).bind fun y1 =>
    some y1
  else
    some false
    : Option Bool)).bind fun x3 =>
  ((bif x3 then
    (f_round_within a0.Span 1 8).bind fun y5 =>
    some y5
  else
    some false
    : Option Bool)).bind fun x7 =>
  ((bif x7 then
    (f_round_within a0.Room 0 4096).bind fun y9 =>
    some y9
  else
    some false
    : Option Bool)).bind fun x11 =>
  ((bif x11 then
    (f_round_within a0.Den 1 1000).bind fun y13 =>
    some y13
  else
    some false
    : Option Bool)).bind fun x15 =>
  ((bif x15 then
    (f_round_within a0.Num 0 a0.Den).bind fun y17 =>
    some y17
  else
    some false
    : Option Bool)).bind fun x19 =>
  ((bif x19 then
    (f_round_within a0.Noise 0 16).bind fun y21 =>
    some y21
  else
    some false
    : Option Bool)).bind fun x23 =>
  ((bif x23 then
    (f_round_within a0.Chunks 1 64).bind fun y25 =>
    some y25
  else
    some false
    : Option Bool)).bind fun x27 =>
  ((bif x27 then
    (f_round_within a0.Workers 1 64).bind fun y29 =>
    some y29
  else
    some false
    : Option Bool)).bind fun x31 =>
  ((bif x31 then
    (f_round_within a0.Cap 0 1024).bind fun y33 =>
    some y33
  else
    some false
    : Option Bool)).bind fun x35 =>
  ((bif x35 then
    (f_round_within a0.Shards 1 64).bind fun y37 =>
    some y37
  else
    some false
    : Option Bool)).bind fun x39 =>
  some x39
theorem f_round_right_ok {a0 : Api_Config} {r0 : Bool} (hF : f_round_right a0 = some r0) (L : List Res) : Ok Try.prog 32 [SV.val kApi_Config a0] L (SV.raw (.bool r0)) L := by
  unfold f_round_right at hF
  refine Ok.intro 63 [(0, .val kApi_Config a0)] Try.func32 rfl rfl rfl rfl (fun F0 => ?_)
  refine Under.seq ?_
  refine Under.region ?_
  refine Under.bxF (K := kApi_Config) rfl rdV rfl ?_
  refine Under.ov (OpV.asg rfl) rfl ?_
  refine Under.nil ?_
  refine Under.tN ?_
  refine Under.seq ?_
  obtain ⟨x3, h4, hF⟩ := bsome hF
  obtain ⟨x7, h8, hF⟩ := bsome hF
  refine Under.rj [(3, .raw (.bool x7))] ?_ (fun k => ?_)
  · refine Under.tN ?_
    refine Under.seq ?_
    obtain ⟨x11, h12, hF⟩ := bsome hF
    obtain ⟨x15, h16, hF⟩ := bsome hF
    obtain ⟨x19, h20, hF⟩ := bsome hF
    refine Under.rj [(3, .raw (.bool x19))] ?_ (fun k => ?_)
    · refine Under.tN ?_
      refine Under.seq ?_
      obtain ⟨x23, h24, hF⟩ := bsome hF
      obtain ⟨x27, h28, hF⟩ := bsome hF
      refine Under.rj [(3, .raw (.bool x27))] ?_ (fun k => ?_)
      · refine Under.tN ?_
        refine Under.seq ?_
        obtain ⟨x31, h32, hF⟩ := bsome hF
        obtain ⟨x35, h36, hF⟩ := bsome hF
        obtain ⟨x39, h40, hF⟩ := bsome hF
        refine Under.rj [(2, .raw (.bool x39))] ?_ (fun k => ?_)
        · refine Under.tN ?_
          refine Under.retc ?_
          exact Under.retE Try.results32 rfl (congrArg (fun y => SV.raw (.bool y)) (Option.some.inj hF)) rfl
        · refine Under.ov (OpV.move rfl) rfl ?_
          refine Under.ov (OpV.move rfl) rfl ?_
          refine Under.byc (t := 48) rfl (fun c41 => ?_) (fun c41 => ?_)
          · replace h32 := ctrue c41 h32
            obtain ⟨y29, h30, h32⟩ := bsome h32
            refine Under.goc c41 rfl rfl ?_
            refine Under.ov (OpV.fd fb24_8 rfl rfl) rfl ?_
            refine Under.goc c41 rfl rfl ?_
            refine Under.ov (OpV.ldI kt3 rfl) rfl ?_
            refine Under.goc c41 rfl rfl ?_
            refine Under.call Try.call48 rfl rfl (f_round_within_ok h30 _) rfl ?_
            refine Under.ov (OpV.pick rfl (fun _ => rfl) (fun e => absurd (e.symm.trans c41) (by decide))) rfl ?_
            refine Under.top (congrArg (fun b => SV.raw (.bool b)) (Option.some.inj h32)) ?_
            refine Under.ov (OpV.move rfl) rfl ?_
            refine Under.byc (t := 53) rfl (fun c42 => ?_) (fun c42 => ?_)
            · replace h36 := ctrue c42 h36
              obtain ⟨y33, h34, h36⟩ := bsome h36
              refine Under.goc c42 rfl rfl ?_
              refine Under.ov (OpV.fd fb24_9 rfl rfl) rfl ?_
              refine Under.goc c42 rfl rfl ?_
              refine Under.ov (OpV.ldI kt3 rfl) rfl ?_
              refine Under.goc c42 rfl rfl ?_
              refine Under.call Try.call48 rfl rfl (f_round_within_ok h34 _) rfl ?_
              refine Under.ov (OpV.pick rfl (fun _ => rfl) (fun e => absurd (e.symm.trans c42) (by decide))) rfl ?_
              refine Under.top (congrArg (fun b => SV.raw (.bool b)) (Option.some.inj h36)) ?_
              refine Under.ov (OpV.move rfl) rfl ?_
              refine Under.byc (t := 58) rfl (fun c43 => ?_) (fun c43 => ?_)
              · replace h40 := ctrue c43 h40
                obtain ⟨y37, h38, h40⟩ := bsome h40
                refine Under.goc c43 rfl rfl ?_
                refine Under.ov (OpV.fd fb24_10 rfl rfl) rfl ?_
                refine Under.goc c43 rfl rfl ?_
                refine Under.ov (OpV.ldI kt3 rfl) rfl ?_
                refine Under.goc c43 rfl rfl ?_
                refine Under.call Try.call48 rfl rfl (f_round_within_ok h38 _) rfl ?_
                refine Under.ov (OpV.pick rfl (fun _ => rfl) (fun e => absurd (e.symm.trans c43) (by decide))) rfl ?_
                refine Under.top (congrArg (fun b => SV.raw (.bool b)) (Option.some.inj h40)) ?_
                refine Under.ov (OpV.asg rfl) rfl ?_
                exact Under.nil (Under.fin 17 (SubZ.cons rfl rfl SubZ.nil) rfl k)
              · replace h40 := cfalse c43 h40
                refine Under.skc c43 rfl rfl rfl ?_
                refine Under.skc c43 rfl rfl rfl ?_
                refine Under.skc c43 rfl rfl rfl ?_
                refine Under.ov (OpV.pick rfl (fun e => absurd (e.symm.trans c43) (by decide)) (fun _ => rfl)) rfl ?_
                refine Under.top (congrArg (fun b => SV.raw (.bool b)) (Option.some.inj h40)) ?_
                have c44 := (Option.some.inj h40).symm
                refine Under.ov (OpV.asg rfl) rfl ?_
                exact Under.nil (Under.fin 17 (SubZ.cons rfl rfl SubZ.nil) rfl k)
            · replace h36 := cfalse c42 h36
              refine Under.skc c42 rfl rfl rfl ?_
              refine Under.skc c42 rfl rfl rfl ?_
              refine Under.skc c42 rfl rfl rfl ?_
              refine Under.ov (OpV.pick rfl (fun e => absurd (e.symm.trans c42) (by decide)) (fun _ => rfl)) rfl ?_
              refine Under.top (congrArg (fun b => SV.raw (.bool b)) (Option.some.inj h36)) ?_
              have c45 := (Option.some.inj h36).symm
              refine Under.ov (OpV.move rfl) rfl ?_
              replace h40 := cfalse c45 h40
              refine Under.skc c45 rfl rfl rfl ?_
              refine Under.skc c45 rfl rfl rfl ?_
              refine Under.skc c45 rfl rfl rfl ?_
              refine Under.ov (OpV.pick rfl (fun e => absurd (e.symm.trans c45) (by decide)) (fun _ => rfl)) rfl ?_
              refine Under.top (congrArg (fun b => SV.raw (.bool b)) (Option.some.inj h40)) ?_
              have c46 := (Option.some.inj h40).symm
              refine Under.ov (OpV.asg rfl) rfl ?_
              exact Under.nil (Under.fin 17 (SubZ.cons rfl rfl SubZ.nil) rfl k)
          · replace h32 := cfalse c41 h32
            refine Under.skc c41 rfl rfl rfl ?_
            refine Under.skc c41 rfl rfl rfl ?_
            refine Under.skc c41 rfl rfl rfl ?_
            refine Under.ov (OpV.pick rfl (fun e => absurd (e.symm.trans c41) (by decide)) (fun _ => rfl)) rfl ?_
            refine Under.top (congrArg (fun b => SV.raw (.bool b)) (Option.some.inj h32)) ?_
            have c47 := (Option.some.inj h32).symm
            refine Under.ov (OpV.move rfl) rfl ?_
            replace h36 := cfalse c47 h36
            refine Under.skc c47 rfl rfl rfl ?_
            refine Under.skc c47 rfl rfl rfl ?_
            refine Under.skc c47 rfl rfl rfl ?_
            refine Under.ov (OpV.pick rfl (fun e => absurd (e.symm.trans c47) (by decide)) (fun _ => rfl)) rfl ?_
            refine Under.top (congrArg (fun b => SV.raw (.bool b)) (Option.some.inj h36)) ?_
            have c48 := (Option.some.inj h36).symm
            refine Under.ov (OpV.move rfl) rfl ?_
            replace h40 := cfalse c48 h40
            refine Under.skc c48 rfl rfl rfl ?_
            refine Under.skc c48 rfl rfl rfl ?_
            refine Under.skc c48 rfl rfl rfl ?_
            refine Under.ov (OpV.pick rfl (fun e => absurd (e.symm.trans c48) (by decide)) (fun _ => rfl)) rfl ?_
            refine Under.top (congrArg (fun b => SV.raw (.bool b)) (Option.some.inj h40)) ?_
            have c49 := (Option.some.inj h40).symm
            refine Under.ov (OpV.asg rfl) rfl ?_
            exact Under.nil (Under.fin 17 (SubZ.cons rfl rfl SubZ.nil) rfl k)
      · refine Under.ov (OpV.move rfl) rfl ?_
        refine Under.ov (OpV.move rfl) rfl ?_
        refine Under.byc (t := 37) rfl (fun c50 => ?_) (fun c50 => ?_)
        · replace h24 := ctrue c50 h24
          obtain ⟨y21, h22, h24⟩ := bsome h24
          refine Under.goc c50 rfl rfl ?_
          refine Under.ov (OpV.fd fb24_6 rfl rfl) rfl ?_
          refine Under.goc c50 rfl rfl ?_
          refine Under.ov (OpV.ldI kt3 rfl) rfl ?_
          refine Under.goc c50 rfl rfl ?_
          refine Under.call Try.call48 rfl rfl (f_round_within_ok h22 _) rfl ?_
          refine Under.ov (OpV.pick rfl (fun _ => rfl) (fun e => absurd (e.symm.trans c50) (by decide))) rfl ?_
          refine Under.top (congrArg (fun b => SV.raw (.bool b)) (Option.some.inj h24)) ?_
          refine Under.ov (OpV.move rfl) rfl ?_
          refine Under.byc (t := 42) rfl (fun c51 => ?_) (fun c51 => ?_)
          · replace h28 := ctrue c51 h28
            obtain ⟨y25, h26, h28⟩ := bsome h28
            refine Under.goc c51 rfl rfl ?_
            refine Under.ov (OpV.fd fb24_7 rfl rfl) rfl ?_
            refine Under.goc c51 rfl rfl ?_
            refine Under.ov (OpV.ldI kt3 rfl) rfl ?_
            refine Under.goc c51 rfl rfl ?_
            refine Under.call Try.call48 rfl rfl (f_round_within_ok h26 _) rfl ?_
            refine Under.ov (OpV.pick rfl (fun _ => rfl) (fun e => absurd (e.symm.trans c51) (by decide))) rfl ?_
            refine Under.top (congrArg (fun b => SV.raw (.bool b)) (Option.some.inj h28)) ?_
            refine Under.ov (OpV.asg rfl) rfl ?_
            exact Under.nil (Under.fin 12 (SubZ.cons rfl rfl SubZ.nil) rfl k)
          · replace h28 := cfalse c51 h28
            refine Under.skc c51 rfl rfl rfl ?_
            refine Under.skc c51 rfl rfl rfl ?_
            refine Under.skc c51 rfl rfl rfl ?_
            refine Under.ov (OpV.pick rfl (fun e => absurd (e.symm.trans c51) (by decide)) (fun _ => rfl)) rfl ?_
            refine Under.top (congrArg (fun b => SV.raw (.bool b)) (Option.some.inj h28)) ?_
            have c52 := (Option.some.inj h28).symm
            refine Under.ov (OpV.asg rfl) rfl ?_
            exact Under.nil (Under.fin 12 (SubZ.cons rfl rfl SubZ.nil) rfl k)
        · replace h24 := cfalse c50 h24
          refine Under.skc c50 rfl rfl rfl ?_
          refine Under.skc c50 rfl rfl rfl ?_
          refine Under.skc c50 rfl rfl rfl ?_
          refine Under.ov (OpV.pick rfl (fun e => absurd (e.symm.trans c50) (by decide)) (fun _ => rfl)) rfl ?_
          refine Under.top (congrArg (fun b => SV.raw (.bool b)) (Option.some.inj h24)) ?_
          have c53 := (Option.some.inj h24).symm
          refine Under.ov (OpV.move rfl) rfl ?_
          replace h28 := cfalse c53 h28
          refine Under.skc c53 rfl rfl rfl ?_
          refine Under.skc c53 rfl rfl rfl ?_
          refine Under.skc c53 rfl rfl rfl ?_
          refine Under.ov (OpV.pick rfl (fun e => absurd (e.symm.trans c53) (by decide)) (fun _ => rfl)) rfl ?_
          refine Under.top (congrArg (fun b => SV.raw (.bool b)) (Option.some.inj h28)) ?_
          have c54 := (Option.some.inj h28).symm
          refine Under.ov (OpV.asg rfl) rfl ?_
          exact Under.nil (Under.fin 12 (SubZ.cons rfl rfl SubZ.nil) rfl k)
    · refine Under.ov (OpV.move rfl) rfl ?_
      refine Under.ov (OpV.move rfl) rfl ?_
      refine Under.byc (t := 19) rfl (fun c55 => ?_) (fun c55 => ?_)
      · replace h12 := ctrue c55 h12
        obtain ⟨y9, h10, h12⟩ := bsome h12
        refine Under.goc c55 rfl rfl ?_
        refine Under.ov (OpV.fd fb24_3 rfl rfl) rfl ?_
        refine Under.goc c55 rfl rfl ?_
        refine Under.ov (OpV.ldI kt3 rfl) rfl ?_
        refine Under.goc c55 rfl rfl ?_
        refine Under.call Try.call48 rfl rfl (f_round_within_ok h10 _) rfl ?_
        refine Under.ov (OpV.pick rfl (fun _ => rfl) (fun e => absurd (e.symm.trans c55) (by decide))) rfl ?_
        refine Under.top (congrArg (fun b => SV.raw (.bool b)) (Option.some.inj h12)) ?_
        refine Under.ov (OpV.move rfl) rfl ?_
        refine Under.byc (t := 24) rfl (fun c56 => ?_) (fun c56 => ?_)
        · replace h16 := ctrue c56 h16
          obtain ⟨y13, h14, h16⟩ := bsome h16
          refine Under.goc c56 rfl rfl ?_
          refine Under.ov (OpV.fd fb24_5 rfl rfl) rfl ?_
          refine Under.goc c56 rfl rfl ?_
          refine Under.ov (OpV.ldI kt3 rfl) rfl ?_
          refine Under.goc c56 rfl rfl ?_
          refine Under.call Try.call48 rfl rfl (f_round_within_ok h14 _) rfl ?_
          refine Under.ov (OpV.pick rfl (fun _ => rfl) (fun e => absurd (e.symm.trans c56) (by decide))) rfl ?_
          refine Under.top (congrArg (fun b => SV.raw (.bool b)) (Option.some.inj h16)) ?_
          refine Under.ov (OpV.move rfl) rfl ?_
          refine Under.byc (t := 29) rfl (fun c57 => ?_) (fun c57 => ?_)
          · replace h20 := ctrue c57 h20
            obtain ⟨y17, h18, h20⟩ := bsome h20
            refine Under.goc c57 rfl rfl ?_
            refine Under.ov (OpV.fd fb24_4 rfl rfl) rfl ?_
            refine Under.goc c57 rfl rfl ?_
            refine Under.ov (OpV.ldI kt3 rfl) rfl ?_
            refine Under.goc c57 rfl rfl ?_
            refine Under.ov (OpV.fd fb24_5 rfl rfl) rfl ?_
            refine Under.goc c57 rfl rfl ?_
            refine Under.ov (OpV.ldI kt3 rfl) rfl ?_
            refine Under.goc c57 rfl rfl ?_
            refine Under.call Try.call48 rfl rfl (f_round_within_ok h18 _) rfl ?_
            refine Under.ov (OpV.pick rfl (fun _ => rfl) (fun e => absurd (e.symm.trans c57) (by decide))) rfl ?_
            refine Under.top (congrArg (fun b => SV.raw (.bool b)) (Option.some.inj h20)) ?_
            refine Under.ov (OpV.asg rfl) rfl ?_
            exact Under.nil (Under.fin 19 (SubZ.cons rfl rfl SubZ.nil) rfl k)
          · replace h20 := cfalse c57 h20
            refine Under.skc c57 rfl rfl rfl ?_
            refine Under.skc c57 rfl rfl rfl ?_
            refine Under.skc c57 rfl rfl rfl ?_
            refine Under.skc c57 rfl rfl rfl ?_
            refine Under.skc c57 rfl rfl rfl ?_
            refine Under.ov (OpV.pick rfl (fun e => absurd (e.symm.trans c57) (by decide)) (fun _ => rfl)) rfl ?_
            refine Under.top (congrArg (fun b => SV.raw (.bool b)) (Option.some.inj h20)) ?_
            have c58 := (Option.some.inj h20).symm
            refine Under.ov (OpV.asg rfl) rfl ?_
            exact Under.nil (Under.fin 19 (SubZ.cons rfl rfl SubZ.nil) rfl k)
        · replace h16 := cfalse c56 h16
          refine Under.skc c56 rfl rfl rfl ?_
          refine Under.skc c56 rfl rfl rfl ?_
          refine Under.skc c56 rfl rfl rfl ?_
          refine Under.ov (OpV.pick rfl (fun e => absurd (e.symm.trans c56) (by decide)) (fun _ => rfl)) rfl ?_
          refine Under.top (congrArg (fun b => SV.raw (.bool b)) (Option.some.inj h16)) ?_
          have c59 := (Option.some.inj h16).symm
          refine Under.ov (OpV.move rfl) rfl ?_
          replace h20 := cfalse c59 h20
          refine Under.skc c59 rfl rfl rfl ?_
          refine Under.skc c59 rfl rfl rfl ?_
          refine Under.skc c59 rfl rfl rfl ?_
          refine Under.skc c59 rfl rfl rfl ?_
          refine Under.skc c59 rfl rfl rfl ?_
          refine Under.ov (OpV.pick rfl (fun e => absurd (e.symm.trans c59) (by decide)) (fun _ => rfl)) rfl ?_
          refine Under.top (congrArg (fun b => SV.raw (.bool b)) (Option.some.inj h20)) ?_
          have c60 := (Option.some.inj h20).symm
          refine Under.ov (OpV.asg rfl) rfl ?_
          exact Under.nil (Under.fin 19 (SubZ.cons rfl rfl SubZ.nil) rfl k)
      · replace h12 := cfalse c55 h12
        refine Under.skc c55 rfl rfl rfl ?_
        refine Under.skc c55 rfl rfl rfl ?_
        refine Under.skc c55 rfl rfl rfl ?_
        refine Under.ov (OpV.pick rfl (fun e => absurd (e.symm.trans c55) (by decide)) (fun _ => rfl)) rfl ?_
        refine Under.top (congrArg (fun b => SV.raw (.bool b)) (Option.some.inj h12)) ?_
        have c61 := (Option.some.inj h12).symm
        refine Under.ov (OpV.move rfl) rfl ?_
        replace h16 := cfalse c61 h16
        refine Under.skc c61 rfl rfl rfl ?_
        refine Under.skc c61 rfl rfl rfl ?_
        refine Under.skc c61 rfl rfl rfl ?_
        refine Under.ov (OpV.pick rfl (fun e => absurd (e.symm.trans c61) (by decide)) (fun _ => rfl)) rfl ?_
        refine Under.top (congrArg (fun b => SV.raw (.bool b)) (Option.some.inj h16)) ?_
        have c62 := (Option.some.inj h16).symm
        refine Under.ov (OpV.move rfl) rfl ?_
        replace h20 := cfalse c62 h20
        refine Under.skc c62 rfl rfl rfl ?_
        refine Under.skc c62 rfl rfl rfl ?_
        refine Under.skc c62 rfl rfl rfl ?_
        refine Under.skc c62 rfl rfl rfl ?_
        refine Under.skc c62 rfl rfl rfl ?_
        refine Under.ov (OpV.pick rfl (fun e => absurd (e.symm.trans c62) (by decide)) (fun _ => rfl)) rfl ?_
        refine Under.top (congrArg (fun b => SV.raw (.bool b)) (Option.some.inj h20)) ?_
        have c63 := (Option.some.inj h20).symm
        refine Under.ov (OpV.asg rfl) rfl ?_
        exact Under.nil (Under.fin 19 (SubZ.cons rfl rfl SubZ.nil) rfl k)
  · refine Under.ov (OpV.fd fb24_0 rfl rfl) rfl ?_
    refine Under.ov (OpV.ld kt22 rfl) rfl ?_
    refine Under.ov (OpV.len Try.underlying22 rfl rdV) rfl ?_
    refine Under.ov (OpV.bin rfl rfl rfl) rfl ?_
    refine Under.ov (OpV.move rfl) rfl ?_
    refine Under.byc (t := 8) rfl (fun c64 => ?_) (fun c64 => ?_)
    · replace h4 := ctrue c64 h4
      obtain ⟨y1, h2, h4⟩ := bsome h4
      refine Under.goc c64 rfl rfl ?_
      refine Under.ov (OpV.fd fb24_1 rfl rfl) rfl ?_
      refine Under.goc c64 rfl rfl ?_
      refine Under.ov (OpV.ldI kt3 rfl) rfl ?_
      refine Under.goc c64 rfl rfl ?_
      refine Under.call Try.call48 rfl rfl (f_round_within_ok h2 _) rfl ?_
      refine Under.ov (OpV.pick rfl (fun _ => rfl) (fun e => absurd (e.symm.trans c64) (by decide))) rfl ?_
      refine Under.top (congrArg (fun b => SV.raw (.bool b)) (Option.some.inj h4)) ?_
      refine Under.ov (OpV.move rfl) rfl ?_
      refine Under.byc (t := 13) rfl (fun c65 => ?_) (fun c65 => ?_)
      · replace h8 := ctrue c65 h8
        obtain ⟨y5, h6, h8⟩ := bsome h8
        refine Under.goc c65 rfl rfl ?_
        refine Under.ov (OpV.fd fb24_2 rfl rfl) rfl ?_
        refine Under.goc c65 rfl rfl ?_
        refine Under.ov (OpV.ldI kt3 rfl) rfl ?_
        refine Under.goc c65 rfl rfl ?_
        refine Under.call Try.call48 rfl rfl (f_round_within_ok h6 _) rfl ?_
        refine Under.ov (OpV.pick rfl (fun _ => rfl) (fun e => absurd (e.symm.trans c65) (by decide))) rfl ?_
        refine Under.top (congrArg (fun b => SV.raw (.bool b)) (Option.some.inj h8)) ?_
        refine Under.ov (OpV.asg rfl) rfl ?_
        exact Under.nil (Under.fin 15 (SubZ.cons rfl rfl SubZ.nil) rfl k)
      · replace h8 := cfalse c65 h8
        refine Under.skc c65 rfl rfl rfl ?_
        refine Under.skc c65 rfl rfl rfl ?_
        refine Under.skc c65 rfl rfl rfl ?_
        refine Under.ov (OpV.pick rfl (fun e => absurd (e.symm.trans c65) (by decide)) (fun _ => rfl)) rfl ?_
        refine Under.top (congrArg (fun b => SV.raw (.bool b)) (Option.some.inj h8)) ?_
        have c66 := (Option.some.inj h8).symm
        refine Under.ov (OpV.asg rfl) rfl ?_
        exact Under.nil (Under.fin 15 (SubZ.cons rfl rfl SubZ.nil) rfl k)
    · replace h4 := cfalse c64 h4
      refine Under.skc c64 rfl rfl rfl ?_
      refine Under.skc c64 rfl rfl rfl ?_
      refine Under.skc c64 rfl rfl rfl ?_
      refine Under.ov (OpV.pick rfl (fun e => absurd (e.symm.trans c64) (by decide)) (fun _ => rfl)) rfl ?_
      refine Under.top (congrArg (fun b => SV.raw (.bool b)) (Option.some.inj h4)) ?_
      have c67 := (Option.some.inj h4).symm
      refine Under.ov (OpV.move rfl) rfl ?_
      replace h8 := cfalse c67 h8
      refine Under.skc c67 rfl rfl rfl ?_
      refine Under.skc c67 rfl rfl rfl ?_
      refine Under.skc c67 rfl rfl rfl ?_
      refine Under.ov (OpV.pick rfl (fun e => absurd (e.symm.trans c67) (by decide)) (fun _ => rfl)) rfl ?_
      refine Under.top (congrArg (fun b => SV.raw (.bool b)) (Option.some.inj h8)) ?_
      have c68 := (Option.some.inj h8).symm
      refine Under.ov (OpV.asg rfl) rfl ?_
      exact Under.nil (Under.fin 15 (SubZ.cons rfl rfl SubZ.nil) rfl k)
/-- churn/window.Len -/
noncomputable def f_window_Len (a0 : Api_Window) : Option Int :=
  (((Loop.run (S := (Int × Int)) (R := Int) (fun (x37, x38) =>
      bif decide (x38 < (a0.Epochs.length : Int)) then
        (idx a0.Epochs x38).bind fun x48 =>
        some (.next (IntKind.wrap .i64 (x37 + (x48.Tags.length : Int)), IntKind.wrap .i64 (x38 + 1)))
      else
        some (.done x37)) (0, 0)).bind fun x42 =>
  some x42
    : Option Int)).bind fun x25 =>
  some x25
theorem f_window_Len_ok {a0 : Api_Window} {r0 : Int} (hF : f_window_Len a0 = some r0) (L : List Res) : Ok Try.prog 18 [SV.val kApi_Window a0] L (SV.raw (.int .i64 r0)) L := by
  unfold f_window_Len at hF
  refine Ok.intro 20 [(0, .val kApi_Window a0)] Try.func18 rfl rfl rfl rfl (fun F0 => ?_)
  refine Under.seq ?_
  refine Under.region ?_
  refine Under.bxF (K := kApi_Window) rfl rdV rfl ?_
  refine Under.ov (OpV.asg rfl) rfl ?_
  refine Under.nil ?_
  refine Under.tN ?_
  refine Under.seq ?_
  refine Under.region ?_
  refine Under.ov (OpV.asg rfl) rfl ?_
  refine Under.nil ?_
  refine Under.tN ?_
  obtain ⟨r26, h27, hF⟩ := bsome hF
  refine Under.seq ?_
  refine Under.after (fun X => ∀ (x25 : Int), r26 = x25 → Under F0 20 [(3, .raw (.int .i64 x25))] (L) X) ?_ ?_
  · intro x25 h53
    subst h53
    refine Under.seq ?_
    refine Under.region ?_
    refine Under.ov (OpV.move rfl) rfl ?_
    refine Under.ov (OpV.asg rfl) rfl ?_
    refine Under.nil ?_
    refine Under.tN ?_
    refine Under.retc ?_
    exact Under.retE Try.results18 rfl (congrArg (fun y => SV.raw (.int .i64 y)) (Option.some.inj hF)) rfl
  · intro K k28
    refine Under.seq ?_
    refine Under.region ?_
    refine Under.ov (OpV.fd fb27_1 rfl rfl) rfl ?_
    refine Under.ov (OpV.ld kt25 rfl) rfl ?_
    refine Under.ov (OpV.len Try.underlying25 rfl rdV) rfl ?_
    refine Under.ov (OpV.move rfl) rfl ?_
    refine Under.nil ?_
    refine Under.tN ?_
    refine Under.block ?_
    obtain ⟨r45, h46, h27⟩ := bsome h27
    refine Under.loop (S := (Int × Int)) (C := Unit) () (fun (x52 : (Int × Int)) (y : Unit) => [(3, .raw (.int .i64 x52.1)), (7, .val (kSl kApi_Epoch) a0.Epochs), (8, .raw (.int .i64 (a0.Epochs.length : Int))), (9, .raw (.int .i64 x52.2))]) (fun (x52 : (Int × Int)) (y : Unit) => L) h46 (sub_cons rfl (sub_cons rfl (sub_cons rfl (sub_cons rfl (sub_nil _))))) rfl (fun x52 y o47 h43 d44 => ?_)
    obtain ⟨x37, x38⟩ := x52
    dsimp only at h43 ⊢
    refine Under.seq ?_
    refine Under.region ?_
    refine Under.ov (OpV.bin rfl rfl rfl) rfl ?_
    refine Under.nil ?_
    refine Under.tN ?_
    refine Under.seq ?_
    refine Under.ite h43 rfl (fun h43 => ?_) (fun h43 => ?_)
    · refine Under.code_skip ?_
      refine Under.tN ?_
      refine Under.seq ?_
      refine Under.block ?_
      refine Under.seq ?_
      refine Under.region ?_
      obtain ⟨x48, h49, h43⟩ := bsome h43
      refine Under.ov (OpV.ixS h49 Try.underlying25 sz61 rfl rdV rfl) rfl ?_
      refine Under.ov (OpV.ld kt61 rfl) rfl ?_
      refine Under.al ZT61 rfl fun b50 => ?_
      refine Under.st Pl.id rfl rfl sz61 rfl rfl rdV ?_
      refine Under.frz (t := 5) rfl ?_
      refine Under.nil ?_
      refine Under.tN ?_
      refine Under.region ?_
      refine Under.ov (OpV.move rfl) rfl ?_
      refine Under.ov (OpV.fd fb61_1 rfl rfl) rfl ?_
      refine Under.ov (OpV.ld kt36 rfl) rfl ?_
      refine Under.ov (OpV.len Try.underlying36 rfl rdV) rfl ?_
      refine Under.ov (OpV.bin rfl rfl rfl) rfl ?_
      refine Under.ov (OpV.asg rfl) rfl ?_
      refine Under.nil ?_
      refine Under.bN ?_
      refine Under.tN ?_
      refine Under.region ?_
      refine Under.ov (OpV.bin rfl rfl rfl) rfl ?_
      refine Under.ov (OpV.move rfl) rfl ?_
      refine Under.nil ?_
      exact Under.next _ () h43 (sub_cons rfl (sub_cons rfl (sub_cons rfl (sub_cons rfl (sub_nil _))))) rfl
    · refine Under.exit ?_
      refine Under.tE ?_
      have e51 := done_eq h43 d44
      subst e51
      refine Under.tE ?_
      refine Under.bH ?_
      refine Under.tN ?_
      exact Under.weak (k28 _ (Option.some.inj h27).symm) (sub_cons rfl (sub_nil _))
/-- churn/window.known -/
noncomputable def f_window_known (a0 : Api_Window) : Option (List ((List Int) × Int)) :=
  (((Loop.run (S := (Int × (List ((List Int) × Int)))) (R := (List ((List Int) × Int))) (fun (x374, x375) =>
      bif decide (x374 < (a0.Epochs.length : Int)) then
        (((idx a0.Epochs x374).bind fun x472 =>
        (Loop.run (S := (Int × (List ((List Int) × Int)))) (R := (List ((List Int) × Int))) (fun (x483, x484) =>
            bif decide (x483 < (x472.Tags.length : Int)) then
              (idx x472.Tags x483).bind fun x494 =>
              some (.next (IntKind.wrap .i64 (x483 + 1), mset x494 x374 x484))
            else
              some (.done x484)) (0, x375)).bind fun x488 =>
        some x488
          : Option (List ((List Int) × Int)))).bind fun x468 =>
        some (.next (IntKind.wrap .i64 (x374 + 1), x468))
      else
        some (.done x375)) (0, [])).bind fun x435 =>
  some x435
    : Option (List ((List Int) × Int)))).bind fun x250 =>
  some x250
theorem f_window_known_ok {a0 : Api_Window} {r0 : (List ((List Int) × Int))} (hF : f_window_known a0 = some r0) (L : List Res) : Ok Try.prog 35 [SV.val kApi_Window a0] L (SV.val (kMap (kArr 16 (kInt .u8)) (kInt .i64)) r0) L := by
  unfold f_window_known at hF
  refine Ok.intro 30 [(0, .val kApi_Window a0)] Try.func35 rfl rfl rfl rfl (fun F0 => ?_)
  refine Under.seq ?_
  refine Under.region ?_
  refine Under.bxF (K := kApi_Window) rfl rdV rfl ?_
  refine Under.ov (OpV.asg rfl) rfl ?_
  refine Under.nil ?_
  refine Under.tN ?_
  refine Under.seq ?_
  refine Under.region ?_
  refine Under.mkm (kArr 16 (kInt .u8)) (kInt .i64) rfl fun b1 => ?_
  refine Under.ov (OpV.asg rfl) rfl ?_
  refine Under.nil ?_
  refine Under.tN ?_
  obtain ⟨r251, h252, hF⟩ := bsome hF
  refine Under.seq ?_
  refine Under.after (fun X => ∀ (x250 : List ((List Int) × Int)), r251 = x250 → Under F0 30 [(3, .raw (.map (some b1)))] ((.mp (kArr 16 (kInt .u8)) (kInt .i64) b1 x250) :: L) X) ?_ ?_
  · intro x250 h502
    subst h502
    refine Under.seq ?_
    refine Under.region ?_
    refine Under.ov (OpV.move rfl) rfl ?_
    refine Under.ov (OpV.asg rfl) rfl ?_
    refine Under.nil ?_
    refine Under.tN ?_
    refine Under.retc ?_
    refine Under.frzM (t := 2) rfl ?_
    exact Under.retE Try.results35 rfl (congrArg (fun y => SV.val (kMap (kArr 16 (kInt .u8)) (kInt .i64)) y) (Option.some.inj hF)) rfl
  · intro K k253
    refine Under.seq ?_
    refine Under.region ?_
    refine Under.ov (OpV.fd fb27_1 rfl rfl) rfl ?_
    refine Under.ov (OpV.ld kt25 rfl) rfl ?_
    refine Under.ov (OpV.len Try.underlying25 rfl rdV) rfl ?_
    refine Under.ov (OpV.move rfl) rfl ?_
    refine Under.nil ?_
    refine Under.tN ?_
    refine Under.block ?_
    obtain ⟨r438, h439, h252⟩ := bsome h252
    refine Under.loop (S := (Int × (List ((List Int) × Int)))) (C := Unit) () (fun (x501 : (Int × (List ((List Int) × Int)))) (y : Unit) => [(3, .raw (.map (some b1))), (10, .val (kSl kApi_Epoch) a0.Epochs), (11, .raw (.int .i64 (a0.Epochs.length : Int))), (12, .raw (.int .i64 x501.1))]) (fun (x501 : (Int × (List ((List Int) × Int)))) (y : Unit) => (.mp (kArr 16 (kInt .u8)) (kInt .i64) b1 x501.2) :: L) h439 (sub_cons rfl (sub_cons rfl (sub_cons rfl (sub_cons rfl (sub_nil _))))) rfl (fun x501 y o440 h436 d437 => ?_)
    obtain ⟨x374, x375⟩ := x501
    dsimp only at h436 ⊢
    refine Under.seq ?_
    refine Under.region ?_
    refine Under.ov (OpV.bin rfl rfl rfl) rfl ?_
    refine Under.nil ?_
    refine Under.tN ?_
    refine Under.seq ?_
    refine Under.ite h436 rfl (fun h436 => ?_) (fun h436 => ?_)
    · refine Under.code_skip ?_
      refine Under.tN ?_
      obtain ⟨r469, h470, h436⟩ := bsome h436
      refine Under.seq ?_
      refine Under.after (fun X => ∀ (x468 : List ((List Int) × Int)), r469 = x468 → Under F0 30 [(3, .raw (.map (some b1))), (10, .val (kSl kApi_Epoch) a0.Epochs), (11, .raw (.int .i64 (a0.Epochs.length : Int))), (12, .raw (.int .i64 x374))] ((.mp (kArr 16 (kInt .u8)) (kInt .i64) b1 x468) :: L) X) ?_ ?_
      · intro x468 h499
        subst h499
        refine Under.region ?_
        refine Under.ov (OpV.bin rfl rfl rfl) rfl ?_
        refine Under.ov (OpV.move rfl) rfl ?_
        refine Under.nil ?_
        exact Under.next _ () h436 (sub_cons rfl (sub_cons rfl (sub_cons rfl (sub_cons rfl (sub_nil _))))) rfl
      · intro K k471
        refine Under.block ?_
        refine Under.seq ?_
        refine Under.region ?_
        refine Under.ov (OpV.move rfl) rfl ?_
        obtain ⟨x472, h473, h470⟩ := bsome h470
        refine Under.ov (OpV.ixS h473 Try.underlying25 sz61 rfl rdV rfl) rfl ?_
        refine Under.ov (OpV.ld kt61 rfl) rfl ?_
        refine Under.al ZT61 rfl fun b474 => ?_
        refine Under.ov (OpV.asg rfl) rfl ?_
        refine Under.st Pl.id rfl rfl sz61 rfl rfl rdV ?_
        refine Under.frz (t := 5) rfl ?_
        refine Under.nil ?_
        refine Under.tN ?_
        refine Under.seq ?_
        refine Under.region ?_
        refine Under.ov (OpV.fd fb61_1 rfl rfl) rfl ?_
        refine Under.ov (OpV.ld kt36 rfl) rfl ?_
        refine Under.ov (OpV.len Try.underlying36 rfl rdV) rfl ?_
        refine Under.ov (OpV.move rfl) rfl ?_
        refine Under.nil ?_
        refine Under.tN ?_
        refine Under.block ?_
        obtain ⟨r491, h492, h470⟩ := bsome h470
        refine Under.loop (S := (Int × (List ((List Int) × Int)))) (C := Unit) () (fun (x498 : (Int × (List ((List Int) × Int)))) (y : Unit) => [(3, .raw (.map (some b1))), (4, .raw (.int .i64 x374)), (10, .val (kSl kApi_Epoch) a0.Epochs), (11, .raw (.int .i64 (a0.Epochs.length : Int))), (12, .raw (.int .i64 x374)), (18, .val (kSl (kArr 16 (kInt .u8))) x472.Tags), (19, .raw (.int .i64 (x472.Tags.length : Int))), (20, .raw (.int .i64 x498.1))]) (fun (x498 : (Int × (List ((List Int) × Int)))) (y : Unit) => (.mp (kArr 16 (kInt .u8)) (kInt .i64) b1 x498.2) :: L) h492 (sub_cons rfl (sub_cons rfl (sub_cons rfl (sub_cons rfl (sub_cons rfl (sub_cons rfl (sub_cons rfl (sub_cons rfl (sub_nil _))))))))) rfl (fun x498 y o493 h489 d490 => ?_)
        obtain ⟨x483, x484⟩ := x498
        dsimp only at h489 ⊢
        refine Under.seq ?_
        refine Under.region ?_
        refine Under.ov (OpV.bin rfl rfl rfl) rfl ?_
        refine Under.nil ?_
        refine Under.tN ?_
        refine Under.seq ?_
        refine Under.ite h489 rfl (fun h489 => ?_) (fun h489 => ?_)
        · refine Under.code_skip ?_
          refine Under.tN ?_
          refine Under.seq ?_
          refine Under.block ?_
          refine Under.seq ?_
          refine Under.region ?_
          obtain ⟨x494, h495, h489⟩ := bsome h489
          refine Under.ov (OpV.ixS h495 Try.underlying36 sz43 rfl rdV rfl) rfl ?_
          refine Under.ov (OpV.ld kt43 rfl) rfl ?_
          refine Under.al ZT43 rfl fun b496 => ?_
          refine Under.st Pl.id rfl rfl sn43 rfl rfl rdV ?_
          refine Under.frz (t := 7) rfl ?_
          refine Under.nil ?_
          refine Under.tN ?_
          refine Under.region ?_
          refine Under.ov (OpV.move rfl) rfl ?_
          refine Under.ov (OpV.ld kt43 rfl) rfl ?_
          refine Under.ov (OpV.move rfl) rfl ?_
          refine Under.mup key43 Try.underlying69 rfl rfl rdV rfl rdI ?_
          refine Under.nil ?_
          refine Under.bN ?_
          refine Under.tN ?_
          refine Under.region ?_
          refine Under.ov (OpV.bin rfl rfl rfl) rfl ?_
          refine Under.ov (OpV.move rfl) rfl ?_
          refine Under.nil ?_
          exact Under.next _ () h489 (sub_cons rfl (sub_cons rfl (sub_cons rfl (sub_cons rfl (sub_cons rfl (sub_cons rfl (sub_cons rfl (sub_cons rfl (sub_nil _))))))))) rfl
        · refine Under.exit ?_
          refine Under.tE ?_
          have e497 := done_eq h489 d490
          subst e497
          refine Under.tE ?_
          refine Under.bH ?_
          refine Under.bN ?_
          refine Under.tN ?_
          exact Under.weak (k471 _ (Option.some.inj h470).symm) (sub_cons rfl (sub_cons rfl (sub_cons rfl (sub_cons rfl (sub_nil _)))))
    · refine Under.exit ?_
      refine Under.tE ?_
      have e500 := done_eq h436 d437
      subst e500
      refine Under.tE ?_
      refine Under.bH ?_
      refine Under.tN ?_
      exact Under.weak (k253 _ (Option.some.inj h252).symm) (sub_cons rfl (sub_nil _))
/-- churn/window.kept -/
noncomputable def f_window_kept (a0 : Int) (a1 : Int) (a2 : Int) : Option Bool :=
  some ((decide (a0 ≤ a1)) && (decide ((IntKind.wrap .i64 (a1 - a0)) < a2)))
theorem f_window_kept_ok {a0 : Int} {a1 : Int} {a2 : Int} {r0 : Bool} (hF : f_window_kept a0 a1 a2 = some r0) (L : List Res) : Ok Try.prog 36 [SV.raw (.int .i64 a0), SV.raw (.int .i64 a1), SV.raw (.int .i64 a2)] L (SV.raw (.bool r0)) L := by
  unfold f_window_kept at hF
  refine Ok.intro 17 [(0, .raw (.int .i64 a0)), (1, .raw (.int .i64 a1)), (2, .raw (.int .i64 a2))] Try.func36 rfl rfl rfl rfl (fun F0 => ?_)
  refine Under.seq ?_
  refine Under.region ?_
  refine Under.ov (OpV.asg rfl) rfl ?_
  refine Under.nil ?_
  refine Under.tN ?_
  refine Under.seq ?_
  refine Under.rj [(6, .raw (.bool ((decide (a0 ≤ a1)) && (decide ((IntKind.wrap .i64 (a1 - a0)) < a2)))))] ?_ (fun k => ?_)
  · refine Under.tN ?_
    refine Under.retc ?_
    exact Under.retE Try.results36 rfl (congrArg (fun y => SV.raw (.bool y)) (Option.some.inj hF)) rfl
  · refine Under.ov (OpV.move rfl) rfl ?_
    refine Under.ov (OpV.move rfl) rfl ?_
    refine Under.ov (OpV.bin rfl rfl rfl) rfl ?_
    refine Under.ov (OpV.move rfl) rfl ?_
    refine Under.byc (t := 10) rfl (fun c1 => ?_) (fun c1 => ?_)
    · refine Under.goc c1 rfl rfl ?_
      refine Under.ov (OpV.move rfl) rfl ?_
      refine Under.goc c1 rfl rfl ?_
      refine Under.ov (OpV.move rfl) rfl ?_
      refine Under.goc c1 rfl rfl ?_
      refine Under.ov (OpV.bin rfl rfl rfl) rfl ?_
      refine Under.goc c1 rfl rfl ?_
      refine Under.ov (OpV.move rfl) rfl ?_
      refine Under.goc c1 rfl rfl ?_
      refine Under.ov (OpV.bin rfl rfl rfl) rfl ?_
      refine Under.ov (OpV.pick rfl (fun _ => rfl) (fun e => absurd (e.symm.trans c1) (by decide))) rfl ?_
      refine Under.top (and_t c1) ?_
      refine Under.ov (OpV.asg rfl) rfl ?_
      exact Under.nil (Under.fin 11 (SubZ.cons rfl rfl SubZ.nil) rfl k)
    · refine Under.skc c1 rfl rfl rfl ?_
      refine Under.skc c1 rfl rfl rfl ?_
      refine Under.skc c1 rfl rfl rfl ?_
      refine Under.skc c1 rfl rfl rfl ?_
      refine Under.skc c1 rfl rfl rfl ?_
      refine Under.ov (OpV.pick rfl (fun e => absurd (e.symm.trans c1) (by decide)) (fun _ => rfl)) rfl ?_
      refine Under.top (and_f (e := decide ((IntKind.wrap .i64 (a1 - a0)) < a2)) c1) ?_
      have c2 := and_fb (e := decide ((IntKind.wrap .i64 (a1 - a0)) < a2)) c1
      refine Under.ov (OpV.asg rfl) rfl ?_
      exact Under.nil (Under.fin 11 (SubZ.cons rfl rfl SubZ.nil) rfl k)
/-- bytes.Compare -/
noncomputable def f_bytes_Compare (a0 : List Int) (a1 : List Int) : Option Int :=
  some (cmpB a0 a1)
theorem f_bytes_Compare_ok {a0 : List Int} {a1 : List Int} {r0 : Int} (hF : f_bytes_Compare a0 a1 = some r0) (L : List Res) : Ok Try.prog 50 [SV.val (kSl (kInt .u8)) a0, SV.val (kSl (kInt .u8)) a1] L (SV.raw (.int .i64 r0)) L := by
  unfold f_bytes_Compare at hF
  refine Ok.intro 8 [(0, .val (kSl (kInt .u8)) a0), (1, .val (kSl (kInt .u8)) a1)] Try.func50 rfl rfl rfl rfl (fun F0 => ?_)
  refine Under.seq ?_
  refine Under.region ?_
  refine Under.ov (OpV.asg rfl) rfl ?_
  refine Under.nil ?_
  refine Under.tN ?_
  refine Under.seq ?_
  refine Under.region ?_
  refine Under.ov (OpV.move rfl) rfl ?_
  refine Under.ov (OpV.move rfl) rfl ?_
  refine Under.ov (OpV.cmp Try.func55 nn55 nb55 nx55 fd55 rfl rfl rdV rfl rdV) rfl ?_
  refine Under.ov (OpV.asg rfl) rfl ?_
  refine Under.nil ?_
  refine Under.tN ?_
  refine Under.retc ?_
  exact Under.retE Try.results50 rfl (congrArg (fun y => SV.raw (.int .i64 y)) (Option.some.inj hF)) rfl
/-- churn/window.order -/
noncomputable def f_window_order (a0 : List Int) (a1 : List Int) : Option Int :=
  (f_bytes_Compare a0 a1).bind fun y1 =>
  some y1
theorem f_window_order_ok {a0 : List Int} {a1 : List Int} {r0 : Int} (hF : f_window_order a0 a1 = some r0) (L : List Res) : Ok Try.prog 38 [SV.val (kArr 16 (kInt .u8)) a0, SV.val (kArr 16 (kInt .u8)) a1] L (SV.raw (.int .i64 r0)) L := by
  unfold f_window_order at hF
  refine Ok.intro 8 [(0, .val (kArr 16 (kInt .u8)) a0), (1, .val (kArr 16 (kInt .u8)) a1)] Try.func38 rfl rfl rfl rfl (fun F0 => ?_)
  refine Under.seq ?_
  refine Under.region ?_
  refine Under.bxF (K := kArr 16 (kInt .u8)) rfl rdV rfl ?_
  refine Under.bxF (K := kArr 16 (kInt .u8)) rfl rdV rfl ?_
  refine Under.ov (OpV.asg rfl) rfl ?_
  refine Under.nil ?_
  refine Under.tN ?_
  refine Under.seq ?_
  refine Under.draw rfl (by kernel_rfl) fun F hF0 => ?_
  refine UnderQ.ov (OpV.slA Try.underlying43 sz5 rfl) rfl ?_
  refine UnderQ.ov (OpV.slA Try.underlying43 sz5 rfl) rfl ?_
  obtain ⟨y1, h2, hF⟩ := bsome hF
  refine UnderQ.ov (OpV.call Try.call50 rfl rfl (fun L => f_bytes_Compare_ok h2 L)) rfl ?_
  refine UnderQ.ov (OpV.asg rfl) rfl ?_
  refine UnderQ.nil hF0 ?_
  refine Under.tN ?_
  refine Under.retc ?_
  exact Under.retE Try.results38 rfl (congrArg (fun y => SV.raw (.int .i64 y)) (Option.some.inj hF)) rfl
/-- slices.IsSortedFunc[[][16]byte,[16]byte] -/
noncomputable def f_slices_IsSortedFunc_window_order (a0 : List (List Int)) : Option Bool :=
  (((Loop.run (S := Int) (R := (Unit ⊕ Bool)) (fun x51 =>
      bif decide (x51 > 0) then
        (idx a0 x51).bind fun x63 =>
        (idx a0 (IntKind.wrap .i64 (x51 - 1))).bind fun x65 =>
        (f_window_order x63 x65).bind fun y67 =>
        bif decide (y67 < 0) then
          some (.done (.inr false))
        else
          some (.next (IntKind.wrap .i64 (x51 - 1)))
      else
        some (.done (.inl ()))) (IntKind.wrap .i64 ((a0.length : Int) - 1))).bind fun r60 => match r60 with
    | .inl _ =>
      some (.inr ())
    | .inr z =>
      some (.inl z)
    : Option (Bool ⊕ Unit))).bind fun r35 => match r35 with
    | .inl z =>
      some z
    | .inr _ =>
      some true
theorem f_slices_IsSortedFunc_window_order_ok {a0 : List (List Int)} {r0 : Bool} (hF : f_slices_IsSortedFunc_window_order a0 = some r0) (L : List Res) : Ok Try.prog 37 [SV.val (kSl (kArr 16 (kInt .u8))) a0, SV.raw (.func (.func 38) #[] #[])] L (SV.raw (.bool r0)) L := by
  unfold f_slices_IsSortedFunc_window_order at hF
  refine Ok.intro 25 [(0, .val (kSl (kArr 16 (kInt .u8))) a0), (1, .raw (.func (.func 38) #[] #[]))] Try.func37 rfl rfl rfl rfl (fun F0 => ?_)
  refine Under.seq ?_
  refine Under.region ?_
  refine Under.ov (OpV.asg rfl) rfl ?_
  refine Under.nil ?_
  refine Under.tN ?_
  obtain ⟨r35, h36, hF⟩ := bsome hF
  refine Under.seq ?_
  refine Under.after (fun X => ∀ (_ : Unit), r35 = (.inr ()) → Under F0 25 [] (L) X) ?_ ?_
  · intro _ h74
    subst h74
    refine Under.seq ?_
    refine Under.region ?_
    refine Under.ov (OpV.asg rfl) rfl ?_
    refine Under.nil ?_
    refine Under.tN ?_
    refine Under.retc ?_
    exact Under.retE Try.results37 rfl (congrArg (fun y => SV.raw (.bool y)) (Option.some.inj hF)) rfl
  · intro K k37
    refine Under.seq ?_
    refine Under.region ?_
    refine Under.ov (OpV.move rfl) rfl ?_
    refine Under.ov (OpV.len Try.underlying36 rfl rdV) rfl ?_
    refine Under.ov (OpV.bin rfl rfl rfl) rfl ?_
    refine Under.ov (OpV.asg rfl) rfl ?_
    refine Under.nil ?_
    refine Under.tN ?_
    refine Under.block ?_
    obtain ⟨r60, h61, h36⟩ := bsome h36
    refine Under.loop (S := Int) (C := Unit) () (fun (x73 : Int) (y : Unit) => [(0, .val (kSl (kArr 16 (kInt .u8))) a0), (1, .raw (.func (.func 38) #[] #[])), (5, .raw (.int .i64 x73))]) (fun (x73 : Int) (y : Unit) => L) h61 (sub_cons rfl (sub_cons rfl (sub_cons rfl (sub_nil _)))) rfl (fun x73 y o62 h58 d59 => ?_)
    refine Under.seq ?_
    refine Under.seq ?_
    refine Under.region ?_
    refine Under.ov (OpV.move rfl) rfl ?_
    refine Under.ov (OpV.bin rfl rfl rfl) rfl ?_
    refine Under.nil ?_
    refine Under.tN ?_
    refine Under.ite h58 rfl (fun h58 => ?_) (fun h58 => ?_)
    · refine Under.code_skip ?_
      refine Under.tN ?_
      refine Under.seq ?_
      refine Under.block ?_
      refine Under.seq ?_
      refine Under.draw rfl (by kernel_rfl) fun F hF0 => ?_
      refine UnderQ.ov (OpV.move rfl) rfl ?_
      refine UnderQ.ov (OpV.move rfl) rfl ?_
      refine UnderQ.ov (OpV.move rfl) rfl ?_
      obtain ⟨x63, h64, h58⟩ := bsome h58
      refine UnderQ.ov (OpV.ixS h64 Try.underlying36 sz43 rfl rdV rfl) rfl ?_
      refine UnderQ.ov (OpV.ld kt43 rfl) rfl ?_
      refine UnderQ.ov (OpV.move rfl) rfl ?_
      refine UnderQ.ov (OpV.move rfl) rfl ?_
      refine UnderQ.ov (OpV.bin rfl rfl rfl) rfl ?_
      obtain ⟨x65, h66, h58⟩ := bsome h58
      refine UnderQ.ov (OpV.ixS h66 Try.underlying36 sz43 rfl rdV rfl) rfl ?_
      refine UnderQ.ov (OpV.ld kt43 rfl) rfl ?_
      obtain ⟨y67, h68, h58⟩ := bsome h58
      refine UnderQ.ov (OpV.call Try.call38 rfl rfl (fun L => f_window_order_ok h68 L)) rfl ?_
      refine UnderQ.ov (OpV.bin rfl rfl rfl) rfl ?_
      refine UnderQ.nil hF0 ?_
      refine Under.tN ?_
      refine Under.ite h58 rfl (fun h58 => ?_) (fun h58 => ?_)
      · refine Under.seq ?_
        refine Under.region ?_
        refine Under.ov (OpV.asg rfl) rfl ?_
        refine Under.nil ?_
        refine Under.tN ?_
        refine Under.retc ?_
        refine Under.bR ?_
        refine Under.tR ?_
        have e69 := done_eq h58 d59
        subst e69
        refine Under.tR ?_
        refine Under.bR ?_
        refine Under.tR ?_
        have e71 := Option.some.inj h36
        subst e71
        exact Under.retE Try.results37 rfl (congrArg (fun y => SV.raw (.bool y)) (Option.some.inj hF)) rfl
      · refine Under.code_skip ?_
        refine Under.bN ?_
        refine Under.tN ?_
        refine Under.region ?_
        refine Under.ov (OpV.move rfl) rfl ?_
        refine Under.ov (OpV.bin rfl rfl rfl) rfl ?_
        refine Under.ov (OpV.asg rfl) rfl ?_
        refine Under.nil ?_
        exact Under.next _ () h58 (sub_cons rfl (sub_cons rfl (sub_cons rfl (sub_nil _)))) rfl
    · refine Under.exit ?_
      refine Under.tE ?_
      have e72 := done_eq h58 d59
      subst e72
      refine Under.tE ?_
      refine Under.bH ?_
      refine Under.tN ?_
      exact Under.weak (k37 () (Option.some.inj h36).symm) (sub_nil _)
/-- churn/window.Check -/
noncomputable def f_window_Check (a0 : Api_Window) (a1 : Int) (a2 : Int) : Option Int :=
  bif (((decide (a1 < 1)) || (decide (a1 > 8))) || (decide (a2 < 0))) || (decide (a2 > 4096)) then
    some 2
  else
    ((bif (decide (a0.Newest < 0)) || (decide (a0.Newest > 4611686018427387904)) then
      some true
    else
      (f_window_Len a0).bind fun y1 =>
      some (decide (y1 > a2))
      : Option Bool)).bind fun x3 =>
    ((bif x3 then
      some true
    else
      (f_window_known a0).bind fun y5 =>
      (f_window_Len a0).bind fun y7 =>
      some ((y5.length : Int) != y7)
      : Option Bool)).bind fun x9 =>
    bif x9 then
      some 2
    else
      (((Loop.run (S := Int) (R := (Unit ⊕ Int)) (fun x194 =>
          bif decide (x194 < (a0.Epochs.length : Int)) then
            (idx a0.Epochs x194).bind fun x228 =>
            ((bif decide (x228.Number < 0) then
              some true
            else
              (f_window_kept x228.Number a0.Newest a1).bind fun y231 =>
              some (!y231)
              : Option Bool)).bind fun x233 =>
            ((bif x233 then
              some true
            else
              ((bif decide (x194 > 0) then
                (idx a0.Epochs (IntKind.wrap .i64 (x194 - 1))).bind fun x235 =>
                some (decide (x228.Number ≤ x235.Number))
              else
                some false
                : Option Bool)).bind fun x237 =>
              some x237
              : Option Bool)).bind fun x239 =>
            bif x239 || ((x228.Tags.length : Int) == 0) then
              some (.done (.inr 2))
            else
              (f_slices_IsSortedFunc_window_order x228.Tags).bind fun y244 =>
              bif !y244 then
                some (.done (.inr 2))
              else
                some (.next (IntKind.wrap .i64 (x194 + 1)))
          else
            some (.done (.inl ()))) 0).bind fun r225 => match r225 with
        | .inl _ =>
          some (.inr ())
        | .inr z =>
          some (.inl z)
        : Option (Int ⊕ Unit))).bind fun r134 => match r134 with
        | .inl z =>
          some z
        | .inr _ =>
          some 0
theorem f_window_Check_ok {a0 : Api_Window} {a1 : Int} {a2 : Int} {r0 : Int} (hF : f_window_Check a0 a1 a2 = some r0) (L : List Res) : Ok Try.prog 16 [SV.val kApi_Window a0, SV.raw (.int .i64 a1), SV.raw (.int .i64 a2)] L (SV.raw (.int .i64 r0)) L := by
  unfold f_window_Check at hF
  refine Ok.intro 92 [(0, .val kApi_Window a0), (1, .raw (.int .i64 a1)), (2, .raw (.int .i64 a2))] Try.func16 rfl rfl rfl rfl (fun F0 => ?_)
  refine Under.seq ?_
  refine Under.region ?_
  refine Under.bxF (K := kApi_Window) rfl rdV rfl ?_
  refine Under.ov (OpV.asg rfl) rfl ?_
  refine Under.nil ?_
  refine Under.tN ?_
  refine Under.seq ?_
  refine Under.seq ?_
  refine Under.rj [(22, .raw (.bool ((((decide (a1 < 1)) || (decide (a1 > 8))) || (decide (a2 < 0))) || (decide (a2 > 4096)))))] ?_ (fun k => ?_)
  · refine Under.tN ?_
    refine Under.ite hF rfl (fun hF => ?_) (fun hF => ?_)
    · refine Under.seq ?_
      refine Under.region ?_
      refine Under.ov (OpV.asg rfl) rfl ?_
      refine Under.nil ?_
      refine Under.tN ?_
      refine Under.retc ?_
      refine Under.tR ?_
      exact Under.retE Try.results16 rfl (congrArg (fun y => SV.raw (.int .i64 y)) (Option.some.inj hF)) rfl
    · refine Under.code_skip ?_
      refine Under.tN ?_
      refine Under.seq ?_
      refine Under.seq ?_
      obtain ⟨x3, h4, hF⟩ := bsome hF
      obtain ⟨x9, h10, hF⟩ := bsome hF
      refine Under.drawz [[3], [23], [24], [25], [3, 26], [26, 27], [26, 28], [26, 29], [30], [3, 31], [31, 32], [2, 31], [31, 33, 34], [31, 35], [36], [3, 37], [37, 38], [37, 39], [3, 37], [37, 41], [37, 40, 42], [37, 43]] [(44, .raw (.bool x9))] rfl (by kernel_rfl) rfl ?_ (fun k F hF0 => ?_)
      · refine Under.tN ?_
        refine Under.ite hF rfl (fun hF => ?_) (fun hF => ?_)
        · refine Under.seq ?_
          refine Under.region ?_
          refine Under.ov (OpV.asg rfl) rfl ?_
          refine Under.nil ?_
          refine Under.tN ?_
          refine Under.retc ?_
          refine Under.tR ?_
          exact Under.retE Try.results16 rfl (congrArg (fun y => SV.raw (.int .i64 y)) (Option.some.inj hF)) rfl
        · refine Under.code_skip ?_
          refine Under.tN ?_
          obtain ⟨r134, h135, hF⟩ := bsome hF
          refine Under.seq ?_
          refine Under.after (fun X => ∀ (_ : Unit), r134 = (.inr ()) → Under F0 92 [] (L) X) ?_ ?_
          · intro _ h264
            subst h264
            refine Under.seq ?_
            refine Under.region ?_
            refine Under.ov (OpV.asg rfl) rfl ?_
            refine Under.nil ?_
            refine Under.tN ?_
            refine Under.retc ?_
            exact Under.retE Try.results16 rfl (congrArg (fun y => SV.raw (.int .i64 y)) (Option.some.inj hF)) rfl
          · intro K k136
            refine Under.seq ?_
            refine Under.region ?_
            refine Under.ov (OpV.fd fb27_1 rfl rfl) rfl ?_
            refine Under.ov (OpV.ld kt25 rfl) rfl ?_
            refine Under.ov (OpV.len Try.underlying25 rfl rdV) rfl ?_
            refine Under.ov (OpV.move rfl) rfl ?_
            refine Under.nil ?_
            refine Under.tN ?_
            refine Under.block ?_
            obtain ⟨r225, h226, h135⟩ := bsome h135
            refine Under.loop (S := Int) (C := Unit) () (fun (x263 : Int) (y : Unit) => [(1, .raw (.int .i64 a1)), (3, .ptr kApi_Window a0), (46, .val (kSl kApi_Epoch) a0.Epochs), (47, .raw (.int .i64 (a0.Epochs.length : Int))), (48, .raw (.int .i64 x263))]) (fun (x263 : Int) (y : Unit) => L) h226 (sub_cons rfl (sub_cons rfl (sub_cons rfl (sub_cons rfl (sub_cons rfl (sub_nil _)))))) rfl (fun x263 y o227 h223 d224 => ?_)
            refine Under.seq ?_
            refine Under.region ?_
            refine Under.ov (OpV.bin rfl rfl rfl) rfl ?_
            refine Under.nil ?_
            refine Under.tN ?_
            refine Under.seq ?_
            refine Under.ite h223 rfl (fun h223 => ?_) (fun h223 => ?_)
            · refine Under.code_skip ?_
              refine Under.tN ?_
              refine Under.seq ?_
              refine Under.block ?_
              refine Under.seq ?_
              refine Under.region ?_
              refine Under.ov (OpV.move rfl) rfl ?_
              obtain ⟨x228, h229, h223⟩ := bsome h223
              refine Under.ov (OpV.ixS h229 Try.underlying25 sz61 rfl rdV rfl) rfl ?_
              refine Under.ov (OpV.ld kt61 rfl) rfl ?_
              refine Under.al ZT61 rfl fun b230 => ?_
              refine Under.ov (OpV.asg rfl) rfl ?_
              refine Under.st Pl.id rfl rfl sz61 rfl rfl rdV ?_
              refine Under.frz (t := 8) rfl ?_
              refine Under.nil ?_
              refine Under.tN ?_
              refine Under.seq ?_
              refine Under.seq ?_
              obtain ⟨x233, h234, h223⟩ := bsome h223
              obtain ⟨x239, h240, h223⟩ := bsome h223
              refine Under.drawj [(86, .raw (.bool (x239 || ((x228.Tags.length : Int) == 0))))] rfl (by kernel_rfl) ?_ (fun k F hF0 => ?_)
              · refine Under.tN ?_
                refine Under.ite h223 rfl (fun h223 => ?_) (fun h223 => ?_)
                · refine Under.seq ?_
                  refine Under.region ?_
                  refine Under.ov (OpV.asg rfl) rfl ?_
                  refine Under.nil ?_
                  refine Under.tN ?_
                  refine Under.retc ?_
                  refine Under.tR ?_
                  refine Under.bR ?_
                  refine Under.tR ?_
                  have e241 := done_eq h223 d224
                  subst e241
                  refine Under.tR ?_
                  refine Under.bR ?_
                  refine Under.tR ?_
                  have e243 := Option.some.inj h135
                  subst e243
                  exact Under.retE Try.results16 rfl (congrArg (fun y => SV.raw (.int .i64 y)) (Option.some.inj hF)) rfl
                · refine Under.code_skip ?_
                  refine Under.tN ?_
                  refine Under.seq ?_
                  refine Under.region ?_
                  refine Under.ov (OpV.fd fb61_1 rfl rfl) rfl ?_
                  refine Under.ov (OpV.ld kt36 rfl) rfl ?_
                  obtain ⟨y244, h245, h223⟩ := bsome h223
                  refine Under.call Try.call37 rfl rfl (f_slices_IsSortedFunc_window_order_ok h245 _) rfl ?_
                  refine Under.ov (OpV.not rfl) rfl ?_
                  refine Under.nil ?_
                  refine Under.tN ?_
                  refine Under.ite h223 rfl (fun h223 => ?_) (fun h223 => ?_)
                  · refine Under.seq ?_
                    refine Under.region ?_
                    refine Under.ov (OpV.asg rfl) rfl ?_
                    refine Under.nil ?_
                    refine Under.tN ?_
                    refine Under.retc ?_
                    refine Under.bR ?_
                    refine Under.tR ?_
                    have e246 := done_eq h223 d224
                    subst e246
                    refine Under.tR ?_
                    refine Under.bR ?_
                    refine Under.tR ?_
                    have e248 := Option.some.inj h135
                    subst e248
                    exact Under.retE Try.results16 rfl (congrArg (fun y => SV.raw (.int .i64 y)) (Option.some.inj hF)) rfl
                  · refine Under.code_skip ?_
                    refine Under.bN ?_
                    refine Under.tN ?_
                    refine Under.region ?_
                    refine Under.ov (OpV.bin rfl rfl rfl) rfl ?_
                    refine Under.ov (OpV.move rfl) rfl ?_
                    refine Under.nil ?_
                    exact Under.next _ () h223 (sub_cons rfl (sub_cons rfl (sub_cons rfl (sub_cons rfl (sub_cons rfl (sub_nil _)))))) rfl
              · refine UnderQ.ov (OpV.fd fb61_0 rfl rfl) rfl ?_
                refine UnderQ.ov (OpV.ldI kt2 rfl) rfl ?_
                refine UnderQ.ov (OpV.bin rfl rfl rfl) rfl ?_
                refine UnderQ.ov (OpV.move rfl) rfl ?_
                refine UnderQ.byc (t := 56) rfl (fun c249 => ?_) (fun c249 => ?_)
                · replace h234 := ctrue c249 h234
                  refine UnderQ.skc c249 rfl rfl rfl ?_
                  refine UnderQ.skc c249 rfl rfl rfl ?_
                  refine UnderQ.skc c249 rfl rfl rfl ?_
                  refine UnderQ.skc c249 rfl rfl rfl ?_
                  refine UnderQ.skc c249 rfl rfl rfl ?_
                  refine UnderQ.skc c249 rfl rfl rfl ?_
                  refine UnderQ.skc c249 rfl rfl rfl ?_
                  refine UnderQ.ov (OpV.pick rfl (fun _ => rfl) (fun e => absurd (e.symm.trans c249) (by decide))) rfl ?_
                  refine UnderQ.top (congrArg (fun b => SV.raw (.bool b)) (Option.some.inj h234)) ?_
                  have c250 := (Option.some.inj h234).symm
                  refine UnderQ.ov (OpV.move rfl) rfl ?_
                  replace h240 := ctrue c250 h240
                  refine UnderQ.skc c250 rfl rfl rfl ?_
                  refine UnderQ.skc c250 rfl rfl rfl ?_
                  refine UnderQ.skc c250 rfl rfl rfl ?_
                  refine UnderQ.sku rfl rfl rfl ?_
                  refine UnderQ.sku rfl rfl rfl ?_
                  refine UnderQ.sku rfl rfl rfl ?_
                  refine UnderQ.sku rfl rfl rfl ?_
                  refine UnderQ.sku rfl rfl rfl ?_
                  refine UnderQ.sku rfl rfl rfl ?_
                  refine UnderQ.sku rfl rfl rfl ?_
                  refine UnderQ.sku rfl rfl rfl ?_
                  refine UnderQ.sku rfl rfl rfl ?_
                  refine UnderQ.sku rfl rfl rfl ?_
                  refine UnderQ.skc c250 rfl rfl rfl ?_
                  refine UnderQ.ov (OpV.pick rfl (fun _ => rfl) (fun e => absurd (e.symm.trans c250) (by decide))) rfl ?_
                  refine UnderQ.top (congrArg (fun b => SV.raw (.bool b)) (Option.some.inj h240)) ?_
                  have c251 := (Option.some.inj h240).symm
                  refine UnderQ.ov (OpV.move rfl) rfl ?_
                  refine UnderQ.skc c251 rfl rfl rfl ?_
                  refine UnderQ.skc c251 rfl rfl rfl ?_
                  refine UnderQ.skc c251 rfl rfl rfl ?_
                  refine UnderQ.skc c251 rfl rfl rfl ?_
                  refine UnderQ.ov (OpV.pick rfl (fun _ => rfl) (fun e => absurd (e.symm.trans c251) (by decide))) rfl ?_
                  refine UnderQ.top (or_t (e := (x228.Tags.length : Int) == 0) c251) ?_
                  have c252 := or_tb (e := (x228.Tags.length : Int) == 0) c251
                  exact UnderQ.fin 34 hF0 (SubZ.cons rfl rfl SubZ.nil) rfl k
                · replace h234 := cfalse c249 h234
                  obtain ⟨y231, h232, h234⟩ := bsome h234
                  refine UnderQ.goc c249 rfl rfl ?_
                  refine UnderQ.ov (OpV.fd fb61_0 rfl rfl) rfl ?_
                  refine UnderQ.goc c249 rfl rfl ?_
                  refine UnderQ.ov (OpV.ldI kt2 rfl) rfl ?_
                  refine UnderQ.goc c249 rfl rfl ?_
                  refine UnderQ.ov (OpV.fd fb27_0 rfl rfl) rfl ?_
                  refine UnderQ.goc c249 rfl rfl ?_
                  refine UnderQ.ov (OpV.ldI kt2 rfl) rfl ?_
                  refine UnderQ.goc c249 rfl rfl ?_
                  refine UnderQ.ov (OpV.move rfl) rfl ?_
                  refine UnderQ.goc c249 rfl rfl ?_
                  refine UnderQ.ov (OpV.call Try.call36 rfl rfl (fun L => f_window_kept_ok h232 L)) rfl ?_
                  refine UnderQ.goc c249 rfl rfl ?_
                  refine UnderQ.ov (OpV.not rfl) rfl ?_
                  refine UnderQ.ov (OpV.pick rfl (fun e => absurd (e.symm.trans c249) (by decide)) (fun _ => rfl)) rfl ?_
                  refine UnderQ.top (congrArg (fun b => SV.raw (.bool b)) (Option.some.inj h234)) ?_
                  refine UnderQ.ov (OpV.move rfl) rfl ?_
                  refine UnderQ.byc (t := 65) rfl (fun c253 => ?_) (fun c253 => ?_)
                  · replace h240 := ctrue c253 h240
                    refine UnderQ.skc c253 rfl rfl rfl ?_
                    refine UnderQ.skc c253 rfl rfl rfl ?_
                    refine UnderQ.skc c253 rfl rfl rfl ?_
                    refine UnderQ.sku rfl rfl rfl ?_
                    refine UnderQ.sku rfl rfl rfl ?_
                    refine UnderQ.sku rfl rfl rfl ?_
                    refine UnderQ.sku rfl rfl rfl ?_
                    refine UnderQ.sku rfl rfl rfl ?_
                    refine UnderQ.sku rfl rfl rfl ?_
                    refine UnderQ.sku rfl rfl rfl ?_
                    refine UnderQ.sku rfl rfl rfl ?_
                    refine UnderQ.sku rfl rfl rfl ?_
                    refine UnderQ.sku rfl rfl rfl ?_
                    refine UnderQ.skc c253 rfl rfl rfl ?_
                    refine UnderQ.ov (OpV.pick rfl (fun _ => rfl) (fun e => absurd (e.symm.trans c253) (by decide))) rfl ?_
                    refine UnderQ.top (congrArg (fun b => SV.raw (.bool b)) (Option.some.inj h240)) ?_
                    have c254 := (Option.some.inj h240).symm
                    refine UnderQ.ov (OpV.move rfl) rfl ?_
                    refine UnderQ.skc c254 rfl rfl rfl ?_
                    refine UnderQ.skc c254 rfl rfl rfl ?_
                    refine UnderQ.skc c254 rfl rfl rfl ?_
                    refine UnderQ.skc c254 rfl rfl rfl ?_
                    refine UnderQ.ov (OpV.pick rfl (fun _ => rfl) (fun e => absurd (e.symm.trans c254) (by decide))) rfl ?_
                    refine UnderQ.top (or_t (e := (x228.Tags.length : Int) == 0) c254) ?_
                    have c255 := or_tb (e := (x228.Tags.length : Int) == 0) c254
                    exact UnderQ.fin 34 hF0 (SubZ.cons rfl rfl SubZ.nil) rfl k
                  · replace h240 := cfalse c253 h240
                    obtain ⟨x237, h238, h240⟩ := bsome h240
                    refine UnderQ.goc c253 rfl rfl ?_
                    refine UnderQ.ov (OpV.move rfl) rfl ?_
                    refine UnderQ.goc c253 rfl rfl ?_
                    refine UnderQ.ov (OpV.bin rfl rfl rfl) rfl ?_
                    refine UnderQ.goc c253 rfl rfl ?_
                    refine UnderQ.ov (OpV.move rfl) rfl ?_
                    refine UnderQ.byc (t := 68) rfl (fun c256 => ?_) (fun c256 => ?_)
                    · replace h238 := ctrue c256 h238
                      obtain ⟨x235, h236, h238⟩ := bsome h238
                      refine UnderQ.goc c256 rfl rfl ?_
                      refine UnderQ.ov (OpV.fd fb61_0 rfl rfl) rfl ?_
                      refine UnderQ.goc c256 rfl rfl ?_
                      refine UnderQ.ov (OpV.ldI kt2 rfl) rfl ?_
                      refine UnderQ.goc c256 rfl rfl ?_
                      refine UnderQ.ov (OpV.fd fb27_1 rfl rfl) rfl ?_
                      refine UnderQ.goc c256 rfl rfl ?_
                      refine UnderQ.ov (OpV.ld kt25 rfl) rfl ?_
                      refine UnderQ.goc c256 rfl rfl ?_
                      refine UnderQ.ov (OpV.move rfl) rfl ?_
                      refine UnderQ.goc c256 rfl rfl ?_
                      refine UnderQ.ov (OpV.bin rfl rfl rfl) rfl ?_
                      refine UnderQ.goc c256 rfl rfl ?_
                      refine UnderQ.ov (OpV.ixS h236 Try.underlying25 sz61 rfl rdV rfl) rfl ?_
                      refine UnderQ.goc c256 rfl rfl ?_
                      refine UnderQ.ov (OpV.fd fb61_0 rfl rfl) rfl ?_
                      refine UnderQ.goc c256 rfl rfl ?_
                      refine UnderQ.ov (OpV.ldI kt2 rfl) rfl ?_
                      refine UnderQ.goc c256 rfl rfl ?_
                      refine UnderQ.ov (OpV.bin rfl rfl rfl) rfl ?_
                      refine UnderQ.goc c253 rfl rfl ?_
                      refine UnderQ.ov (OpV.pick rfl (fun _ => rfl) (fun e => absurd (e.symm.trans c256) (by decide))) rfl ?_
                      refine UnderQ.top (congrArg (fun b => SV.raw (.bool b)) (Option.some.inj h238)) ?_
                      refine UnderQ.ov (OpV.pick rfl (fun e => absurd (e.symm.trans c253) (by decide)) (fun _ => rfl)) rfl ?_
                      refine UnderQ.top (congrArg (fun b => SV.raw (.bool b)) (Option.some.inj h240)) ?_
                      refine UnderQ.ov (OpV.move rfl) rfl ?_
                      refine UnderQ.byc (t := 81) rfl (fun c257 => ?_) (fun c257 => ?_)
                      · refine UnderQ.skc c257 rfl rfl rfl ?_
                        refine UnderQ.skc c257 rfl rfl rfl ?_
                        refine UnderQ.skc c257 rfl rfl rfl ?_
                        refine UnderQ.skc c257 rfl rfl rfl ?_
                        refine UnderQ.ov (OpV.pick rfl (fun _ => rfl) (fun e => absurd (e.symm.trans c257) (by decide))) rfl ?_
                        refine UnderQ.top (or_t (e := (x228.Tags.length : Int) == 0) c257) ?_
                        have c258 := or_tb (e := (x228.Tags.length : Int) == 0) c257
                        exact UnderQ.fin 34 hF0 (SubZ.cons rfl rfl SubZ.nil) rfl k
                      · refine UnderQ.goc c257 rfl rfl ?_
                        refine UnderQ.ov (OpV.fd fb61_1 rfl rfl) rfl ?_
                        refine UnderQ.goc c257 rfl rfl ?_
                        refine UnderQ.ov (OpV.ld kt36 rfl) rfl ?_
                        refine UnderQ.goc c257 rfl rfl ?_
                        refine UnderQ.ov (OpV.len Try.underlying36 rfl rdV) rfl ?_
                        refine UnderQ.goc c257 rfl rfl ?_
                        refine UnderQ.ov (OpV.bin rfl rfl rfl) rfl ?_
                        refine UnderQ.ov (OpV.pick rfl (fun e => absurd (e.symm.trans c257) (by decide)) (fun _ => rfl)) rfl ?_
                        refine UnderQ.top (or_f c257) ?_
                        exact UnderQ.fin 34 hF0 (SubZ.cons rfl rfl SubZ.nil) rfl k
                    · replace h238 := cfalse c256 h238
                      refine UnderQ.skc c256 rfl rfl rfl ?_
                      refine UnderQ.skc c256 rfl rfl rfl ?_
                      refine UnderQ.skc c256 rfl rfl rfl ?_
                      refine UnderQ.skc c256 rfl rfl rfl ?_
                      refine UnderQ.skc c256 rfl rfl rfl ?_
                      refine UnderQ.skc c256 rfl rfl rfl ?_
                      refine UnderQ.skc c256 rfl rfl rfl ?_
                      refine UnderQ.skc c256 rfl rfl rfl ?_
                      refine UnderQ.skc c256 rfl rfl rfl ?_
                      refine UnderQ.skc c256 rfl rfl rfl ?_
                      refine UnderQ.goc c253 rfl rfl ?_
                      refine UnderQ.ov (OpV.pick rfl (fun e => absurd (e.symm.trans c256) (by decide)) (fun _ => rfl)) rfl ?_
                      refine UnderQ.top (congrArg (fun b => SV.raw (.bool b)) (Option.some.inj h238)) ?_
                      have c259 := (Option.some.inj h238).symm
                      refine UnderQ.ov (OpV.pick rfl (fun e => absurd (e.symm.trans c253) (by decide)) (fun _ => rfl)) rfl ?_
                      refine UnderQ.top (congrArg (fun b => SV.raw (.bool b)) (Option.some.inj h240)) ?_
                      refine UnderQ.ov (OpV.move rfl) rfl ?_
                      refine UnderQ.byc (t := 81) rfl (fun c260 => ?_) (fun c260 => ?_)
                      · refine UnderQ.skc c260 rfl rfl rfl ?_
                        refine UnderQ.skc c260 rfl rfl rfl ?_
                        refine UnderQ.skc c260 rfl rfl rfl ?_
                        refine UnderQ.skc c260 rfl rfl rfl ?_
                        refine UnderQ.ov (OpV.pick rfl (fun _ => rfl) (fun e => absurd (e.symm.trans c260) (by decide))) rfl ?_
                        refine UnderQ.top (or_t (e := (x228.Tags.length : Int) == 0) c260) ?_
                        have c261 := or_tb (e := (x228.Tags.length : Int) == 0) c260
                        exact UnderQ.fin 34 hF0 (SubZ.cons rfl rfl SubZ.nil) rfl k
                      · refine UnderQ.goc c260 rfl rfl ?_
                        refine UnderQ.ov (OpV.fd fb61_1 rfl rfl) rfl ?_
                        refine UnderQ.goc c260 rfl rfl ?_
                        refine UnderQ.ov (OpV.ld kt36 rfl) rfl ?_
                        refine UnderQ.goc c260 rfl rfl ?_
                        refine UnderQ.ov (OpV.len Try.underlying36 rfl rdV) rfl ?_
                        refine UnderQ.goc c260 rfl rfl ?_
                        refine UnderQ.ov (OpV.bin rfl rfl rfl) rfl ?_
                        refine UnderQ.ov (OpV.pick rfl (fun e => absurd (e.symm.trans c260) (by decide)) (fun _ => rfl)) rfl ?_
                        refine UnderQ.top (or_f c260) ?_
                        exact UnderQ.fin 34 hF0 (SubZ.cons rfl rfl SubZ.nil) rfl k
            · refine Under.exit ?_
              refine Under.tE ?_
              have e262 := done_eq h223 d224
              subst e262
              refine Under.tE ?_
              refine Under.bH ?_
              refine Under.tN ?_
              exact Under.weak (k136 () (Option.some.inj h135).symm) (sub_nil _)
      · refine Zq.st (.ptr (kInt .i64) a0.Newest) (fun G hG => ?_) ?_
        · refine Under.ov (OpV.fd fb27_0 rfl rfl) rfl ?_
          exact Zq.done rfl
        refine Zq.st (.raw (.int .i64 a0.Newest)) (fun G hG => ?_) ?_
        · refine Under.ov (OpV.ldI kt2 rfl) rfl ?_
          exact Zq.done rfl
        refine Zq.st (.raw (.bool (decide (a0.Newest < 0)))) (fun G hG => ?_) ?_
        · refine Under.ov (OpV.bin rfl rfl rfl) rfl ?_
          exact Zq.done rfl
        refine Zq.st (.raw (.bool (decide (a0.Newest < 0)))) (fun G hG => ?_) ?_
        · refine Under.ov (OpV.move rfl) rfl ?_
          exact Zq.done rfl
        refine Zq.by (decide (a0.Newest < 0)) (fun c265 => ?_) (fun c265 => ?_)
        · refine Zq.st (.raw undef) (fun G hG => ?_) ?_
          · refine Under.skc c265 rfl rfl rfl ?_
            exact Zq.done rfl
          refine Zq.st (.raw undef) (fun G hG => ?_) ?_
          · refine Under.skc c265 rfl rfl rfl ?_
            exact Zq.done rfl
          refine Zq.st (.raw undef) (fun G hG => ?_) ?_
          · refine Under.skc c265 rfl rfl rfl ?_
            exact Zq.done rfl
          refine Zq.st (.raw (.bool ((decide (a0.Newest < 0)) || (decide (a0.Newest > 4611686018427387904))))) (fun G hG => ?_) ?_
          · refine Under.ov (OpV.pick rfl (fun _ => rfl) (fun e => absurd (e.symm.trans c265) (by decide))) rfl ?_
            refine Under.top (or_t (e := decide (a0.Newest > 4611686018427387904)) c265) ?_
            exact Zq.done rfl
          have c266 := or_tb (e := decide (a0.Newest > 4611686018427387904)) c265
          refine Zq.st (.raw (.bool ((decide (a0.Newest < 0)) || (decide (a0.Newest > 4611686018427387904))))) (fun G hG => ?_) ?_
          · refine Under.ov (OpV.move rfl) rfl ?_
            exact Zq.done rfl
          replace h4 := ctrue c266 h4
          refine Zq.st (.raw undef) (fun G hG => ?_) ?_
          · refine Under.skc c266 rfl rfl rfl ?_
            exact Zq.done rfl
          refine Zq.st (.raw undef) (fun G hG => ?_) ?_
          · refine Under.skc c266 rfl rfl rfl ?_
            exact Zq.done rfl
          refine Zq.st (.raw undef) (fun G hG => ?_) ?_
          · refine Under.skc c266 rfl rfl rfl ?_
            exact Zq.done rfl
          refine Zq.st (.raw undef) (fun G hG => ?_) ?_
          · refine Under.skc c266 rfl rfl rfl ?_
            exact Zq.done rfl
          refine Zq.st (.raw (.bool x3)) (fun G hG => ?_) ?_
          · refine Under.ov (OpV.pick rfl (fun _ => rfl) (fun e => absurd (e.symm.trans c266) (by decide))) rfl ?_
            refine Under.top (congrArg (fun b => SV.raw (.bool b)) (Option.some.inj h4)) ?_
            exact Zq.done rfl
          have c267 := (Option.some.inj h4).symm
          refine Zq.st (.raw (.bool x3)) (fun G hG => ?_) ?_
          · refine Under.ov (OpV.move rfl) rfl ?_
            exact Zq.done rfl
          replace h10 := ctrue c267 h10
          refine Zq.st (.raw undef) (fun G hG => ?_) ?_
          · refine Under.skc c267 rfl rfl rfl ?_
            exact Zq.done rfl
          refine Zq.st (.raw undef) (fun G hG => ?_) ?_
          · refine Under.skc c267 rfl rfl rfl ?_
            exact Zq.done rfl
          refine Zq.st (.raw undef) (fun G hG => ?_) ?_
          · refine Under.skc c267 rfl rfl rfl ?_
            exact Zq.done rfl
          refine Zq.st (.raw undef) (fun G hG => ?_) ?_
          · refine Under.skc c267 rfl rfl rfl ?_
            exact Zq.done rfl
          refine Zq.st (.raw undef) (fun G hG => ?_) ?_
          · refine Under.skc c267 rfl rfl rfl ?_
            exact Zq.done rfl
          refine Zq.st (.raw undef) (fun G hG => ?_) ?_
          · refine Under.skc c267 rfl rfl rfl ?_
            exact Zq.done rfl
          refine Zq.st (.raw (.bool x9)) (fun G hG => ?_) ?_
          · refine Under.ov (OpV.pick rfl (fun _ => rfl) (fun e => absurd (e.symm.trans c267) (by decide))) rfl ?_
            refine Under.top (congrArg (fun b => SV.raw (.bool b)) (Option.some.inj h10)) ?_
            exact Zq.done rfl
          have c268 := (Option.some.inj h10).symm
          exact Zq.nil (Zq.fin 22 hF0 (SubZ.cons rfl rfl SubZ.nil) rfl k)
        · refine Zq.st (.ptr (kInt .i64) a0.Newest) (fun G hG => ?_) ?_
          · refine Under.goc c265 rfl rfl ?_
            refine Under.ov (OpV.fd fb27_0 rfl rfl) rfl ?_
            exact Zq.done rfl
          refine Zq.st (.raw (.int .i64 a0.Newest)) (fun G hG => ?_) ?_
          · refine Under.goc c265 rfl rfl ?_
            refine Under.ov (OpV.ldI kt2 rfl) rfl ?_
            exact Zq.done rfl
          refine Zq.st (.raw (.bool (decide (a0.Newest > 4611686018427387904)))) (fun G hG => ?_) ?_
          · refine Under.goc c265 rfl rfl ?_
            refine Under.ov (OpV.bin rfl rfl rfl) rfl ?_
            exact Zq.done rfl
          refine Zq.st (.raw (.bool ((decide (a0.Newest < 0)) || (decide (a0.Newest > 4611686018427387904))))) (fun G hG => ?_) ?_
          · refine Under.ov (OpV.pick rfl (fun e => absurd (e.symm.trans c265) (by decide)) (fun _ => rfl)) rfl ?_
            refine Under.top (or_f c265) ?_
            exact Zq.done rfl
          refine Zq.st (.raw (.bool ((decide (a0.Newest < 0)) || (decide (a0.Newest > 4611686018427387904))))) (fun G hG => ?_) ?_
          · refine Under.ov (OpV.move rfl) rfl ?_
            exact Zq.done rfl
          refine Zq.by ((decide (a0.Newest < 0)) || (decide (a0.Newest > 4611686018427387904))) (fun c269 => ?_) (fun c269 => ?_)
          · replace h4 := ctrue c269 h4
            refine Zq.st (.raw undef) (fun G hG => ?_) ?_
            · refine Under.skc c269 rfl rfl rfl ?_
              exact Zq.done rfl
            refine Zq.st (.raw undef) (fun G hG => ?_) ?_
            · refine Under.skc c269 rfl rfl rfl ?_
              exact Zq.done rfl
            refine Zq.st (.raw undef) (fun G hG => ?_) ?_
            · refine Under.skc c269 rfl rfl rfl ?_
              exact Zq.done rfl
            refine Zq.st (.raw undef) (fun G hG => ?_) ?_
            · refine Under.skc c269 rfl rfl rfl ?_
              exact Zq.done rfl
            refine Zq.st (.raw (.bool x3)) (fun G hG => ?_) ?_
            · refine Under.ov (OpV.pick rfl (fun _ => rfl) (fun e => absurd (e.symm.trans c269) (by decide))) rfl ?_
              refine Under.top (congrArg (fun b => SV.raw (.bool b)) (Option.some.inj h4)) ?_
              exact Zq.done rfl
            have c270 := (Option.some.inj h4).symm
            refine Zq.st (.raw (.bool x3)) (fun G hG => ?_) ?_
            · refine Under.ov (OpV.move rfl) rfl ?_
              exact Zq.done rfl
            replace h10 := ctrue c270 h10
            refine Zq.st (.raw undef) (fun G hG => ?_) ?_
            · refine Under.skc c270 rfl rfl rfl ?_
              exact Zq.done rfl
            refine Zq.st (.raw undef) (fun G hG => ?_) ?_
            · refine Under.skc c270 rfl rfl rfl ?_
              exact Zq.done rfl
            refine Zq.st (.raw undef) (fun G hG => ?_) ?_
            · refine Under.skc c270 rfl rfl rfl ?_
              exact Zq.done rfl
            refine Zq.st (.raw undef) (fun G hG => ?_) ?_
            · refine Under.skc c270 rfl rfl rfl ?_
              exact Zq.done rfl
            refine Zq.st (.raw undef) (fun G hG => ?_) ?_
            · refine Under.skc c270 rfl rfl rfl ?_
              exact Zq.done rfl
            refine Zq.st (.raw undef) (fun G hG => ?_) ?_
            · refine Under.skc c270 rfl rfl rfl ?_
              exact Zq.done rfl
            refine Zq.st (.raw (.bool x9)) (fun G hG => ?_) ?_
            · refine Under.ov (OpV.pick rfl (fun _ => rfl) (fun e => absurd (e.symm.trans c270) (by decide))) rfl ?_
              refine Under.top (congrArg (fun b => SV.raw (.bool b)) (Option.some.inj h10)) ?_
              exact Zq.done rfl
            have c271 := (Option.some.inj h10).symm
            exact Zq.nil (Zq.fin 22 hF0 (SubZ.cons rfl rfl SubZ.nil) rfl k)
          · replace h4 := cfalse c269 h4
            obtain ⟨y1, h2, h4⟩ := bsome h4
            refine Zq.st (.val kApi_Window a0) (fun G hG => ?_) ?_
            · refine Under.goc c269 rfl rfl ?_
              refine Under.ov (OpV.ld kt27 rfl) rfl ?_
              exact Zq.done rfl
            refine Zq.st (.raw (.int .i64 y1)) (fun G hG => ?_) ?_
            · refine Under.goc c269 rfl rfl ?_
              refine Under.call Try.call18 rfl rfl (f_window_Len_ok h2 _) rfl ?_
              exact Zq.done rfl
            refine Zq.st (.raw (.int .i64 a2)) (fun G hG => ?_) ?_
            · refine Under.goc c269 rfl rfl ?_
              refine Under.ov (OpV.move rfl) rfl ?_
              exact Zq.done rfl
            refine Zq.st (.raw (.bool (decide (y1 > a2)))) (fun G hG => ?_) ?_
            · refine Under.goc c269 rfl rfl ?_
              refine Under.ov (OpV.bin rfl rfl rfl) rfl ?_
              exact Zq.done rfl
            refine Zq.st (.raw (.bool x3)) (fun G hG => ?_) ?_
            · refine Under.ov (OpV.pick rfl (fun e => absurd (e.symm.trans c269) (by decide)) (fun _ => rfl)) rfl ?_
              refine Under.top (congrArg (fun b => SV.raw (.bool b)) (Option.some.inj h4)) ?_
              exact Zq.done rfl
            refine Zq.st (.raw (.bool x3)) (fun G hG => ?_) ?_
            · refine Under.ov (OpV.move rfl) rfl ?_
              exact Zq.done rfl
            refine Zq.by x3 (fun c272 => ?_) (fun c272 => ?_)
            · replace h10 := ctrue c272 h10
              refine Zq.st (.raw undef) (fun G hG => ?_) ?_
              · refine Under.skc c272 rfl rfl rfl ?_
                exact Zq.done rfl
              refine Zq.st (.raw undef) (fun G hG => ?_) ?_
              · refine Under.skc c272 rfl rfl rfl ?_
                exact Zq.done rfl
              refine Zq.st (.raw undef) (fun G hG => ?_) ?_
              · refine Under.skc c272 rfl rfl rfl ?_
                exact Zq.done rfl
              refine Zq.st (.raw undef) (fun G hG => ?_) ?_
              · refine Under.skc c272 rfl rfl rfl ?_
                exact Zq.done rfl
              refine Zq.st (.raw undef) (fun G hG => ?_) ?_
              · refine Under.skc c272 rfl rfl rfl ?_
                exact Zq.done rfl
              refine Zq.st (.raw undef) (fun G hG => ?_) ?_
              · refine Under.skc c272 rfl rfl rfl ?_
                exact Zq.done rfl
              refine Zq.st (.raw (.bool x9)) (fun G hG => ?_) ?_
              · refine Under.ov (OpV.pick rfl (fun _ => rfl) (fun e => absurd (e.symm.trans c272) (by decide))) rfl ?_
                refine Under.top (congrArg (fun b => SV.raw (.bool b)) (Option.some.inj h10)) ?_
                exact Zq.done rfl
              have c273 := (Option.some.inj h10).symm
              exact Zq.nil (Zq.fin 22 hF0 (SubZ.cons rfl rfl SubZ.nil) rfl k)
            · replace h10 := cfalse c272 h10
              obtain ⟨y5, h6, h10⟩ := bsome h10
              obtain ⟨y7, h8, h10⟩ := bsome h10
              refine Zq.st (.val kApi_Window a0) (fun G hG => ?_) ?_
              · refine Under.goc c272 rfl rfl ?_
                refine Under.ov (OpV.ld kt27 rfl) rfl ?_
                exact Zq.done rfl
              refine Zq.st (.val (kMap (kArr 16 (kInt .u8)) (kInt .i64)) y5) (fun G hG => ?_) ?_
              · refine Under.goc c272 rfl rfl ?_
                refine Under.call Try.call35 rfl rfl (f_window_known_ok h6 _) rfl ?_
                exact Zq.done rfl
              refine Zq.st (.raw (.int .i64 (y5.length : Int))) (fun G hG => ?_) ?_
              · refine Under.goc c272 rfl rfl ?_
                refine Under.ov (OpV.lenM Try.underlying69 rfl) rfl ?_
                exact Zq.done rfl
              refine Zq.st (.val kApi_Window a0) (fun G hG => ?_) ?_
              · refine Under.goc c272 rfl rfl ?_
                refine Under.ov (OpV.ld kt27 rfl) rfl ?_
                exact Zq.done rfl
              refine Zq.st (.raw (.int .i64 y7)) (fun G hG => ?_) ?_
              · refine Under.goc c272 rfl rfl ?_
                refine Under.call Try.call18 rfl rfl (f_window_Len_ok h8 _) rfl ?_
                exact Zq.done rfl
              refine Zq.st (.raw (.bool ((y5.length : Int) != y7))) (fun G hG => ?_) ?_
              · refine Under.goc c272 rfl rfl ?_
                refine Under.ov (OpV.bin rfl rfl rfl) rfl ?_
                exact Zq.done rfl
              refine Zq.st (.raw (.bool x9)) (fun G hG => ?_) ?_
              · refine Under.ov (OpV.pick rfl (fun e => absurd (e.symm.trans c272) (by decide)) (fun _ => rfl)) rfl ?_
                refine Under.top (congrArg (fun b => SV.raw (.bool b)) (Option.some.inj h10)) ?_
                exact Zq.done rfl
              exact Zq.nil (Zq.fin 22 hF0 (SubZ.cons rfl rfl SubZ.nil) rfl k)
  · refine Under.ov (OpV.move rfl) rfl ?_
    refine Under.ov (OpV.bin rfl rfl rfl) rfl ?_
    refine Under.ov (OpV.move rfl) rfl ?_
    refine Under.byc (t := 11) rfl (fun c274 => ?_) (fun c274 => ?_)
    · refine Under.skc c274 rfl rfl rfl ?_
      refine Under.skc c274 rfl rfl rfl ?_
      refine Under.ov (OpV.pick rfl (fun _ => rfl) (fun e => absurd (e.symm.trans c274) (by decide))) rfl ?_
      refine Under.top (or_t (e := decide (a1 > 8)) c274) ?_
      have c275 := or_tb (e := decide (a1 > 8)) c274
      refine Under.ov (OpV.move rfl) rfl ?_
      refine Under.skc c275 rfl rfl rfl ?_
      refine Under.skc c275 rfl rfl rfl ?_
      refine Under.ov (OpV.pick rfl (fun _ => rfl) (fun e => absurd (e.symm.trans c275) (by decide))) rfl ?_
      refine Under.top (or_t (e := decide (a2 < 0)) c275) ?_
      have c276 := or_tb (e := decide (a2 < 0)) c275
      refine Under.ov (OpV.move rfl) rfl ?_
      refine Under.skc c276 rfl rfl rfl ?_
      refine Under.skc c276 rfl rfl rfl ?_
      refine Under.ov (OpV.pick rfl (fun _ => rfl) (fun e => absurd (e.symm.trans c276) (by decide))) rfl ?_
      refine Under.top (or_t (e := decide (a2 > 4096)) c276) ?_
      have c277 := or_tb (e := decide (a2 > 4096)) c276
      exact Under.nil (Under.fin 14 (SubZ.cons rfl rfl SubZ.nil) rfl k)
    · refine Under.goc c274 rfl rfl ?_
      refine Under.ov (OpV.move rfl) rfl ?_
      refine Under.goc c274 rfl rfl ?_
      refine Under.ov (OpV.bin rfl rfl rfl) rfl ?_
      refine Under.ov (OpV.pick rfl (fun e => absurd (e.symm.trans c274) (by decide)) (fun _ => rfl)) rfl ?_
      refine Under.top (or_f c274) ?_
      refine Under.ov (OpV.move rfl) rfl ?_
      refine Under.byc (t := 15) rfl (fun c278 => ?_) (fun c278 => ?_)
      · refine Under.skc c278 rfl rfl rfl ?_
        refine Under.skc c278 rfl rfl rfl ?_
        refine Under.ov (OpV.pick rfl (fun _ => rfl) (fun e => absurd (e.symm.trans c278) (by decide))) rfl ?_
        refine Under.top (or_t (e := decide (a2 < 0)) c278) ?_
        have c279 := or_tb (e := decide (a2 < 0)) c278
        refine Under.ov (OpV.move rfl) rfl ?_
        refine Under.skc c279 rfl rfl rfl ?_
        refine Under.skc c279 rfl rfl rfl ?_
        refine Under.ov (OpV.pick rfl (fun _ => rfl) (fun e => absurd (e.symm.trans c279) (by decide))) rfl ?_
        refine Under.top (or_t (e := decide (a2 > 4096)) c279) ?_
        have c280 := or_tb (e := decide (a2 > 4096)) c279
        exact Under.nil (Under.fin 14 (SubZ.cons rfl rfl SubZ.nil) rfl k)
      · refine Under.goc c278 rfl rfl ?_
        refine Under.ov (OpV.move rfl) rfl ?_
        refine Under.goc c278 rfl rfl ?_
        refine Under.ov (OpV.bin rfl rfl rfl) rfl ?_
        refine Under.ov (OpV.pick rfl (fun e => absurd (e.symm.trans c278) (by decide)) (fun _ => rfl)) rfl ?_
        refine Under.top (or_f c278) ?_
        refine Under.ov (OpV.move rfl) rfl ?_
        refine Under.byc (t := 19) rfl (fun c281 => ?_) (fun c281 => ?_)
        · refine Under.skc c281 rfl rfl rfl ?_
          refine Under.skc c281 rfl rfl rfl ?_
          refine Under.ov (OpV.pick rfl (fun _ => rfl) (fun e => absurd (e.symm.trans c281) (by decide))) rfl ?_
          refine Under.top (or_t (e := decide (a2 > 4096)) c281) ?_
          have c282 := or_tb (e := decide (a2 > 4096)) c281
          exact Under.nil (Under.fin 14 (SubZ.cons rfl rfl SubZ.nil) rfl k)
        · refine Under.goc c281 rfl rfl ?_
          refine Under.ov (OpV.move rfl) rfl ?_
          refine Under.goc c281 rfl rfl ?_
          refine Under.ov (OpV.bin rfl rfl rfl) rfl ?_
          refine Under.ov (OpV.pick rfl (fun e => absurd (e.symm.trans c281) (by decide)) (fun _ => rfl)) rfl ?_
          refine Under.top (or_f c281) ?_
          exact Under.nil (Under.fin 14 (SubZ.cons rfl rfl SubZ.nil) rfl k)
/-- churn/round.Check -/
noncomputable def f_round_Check (a0 : Api_Config) (a1 : Api_State) : Option Int :=
  (f_round_right a0).bind fun y1 =>
  ((bif ((!y1) || (decide (a1.Next < 0))) || (decide (a1.Next > 4611686018427387904)) then
    some true
  else
    (f_window_Check a1.Window a0.Span a0.Room).bind fun y3 =>
    some (y3 != 0)
    : Option Bool)).bind fun x5 =>
  bif x5 then
    some 210
  else
    some 0
theorem f_round_Check_ok {a0 : Api_Config} {a1 : Api_State} {r0 : Int} (hF : f_round_Check a0 a1 = some r0) (L : List Res) : Ok Try.prog 12 [SV.val kApi_Config a0, SV.val kApi_State a1] L (SV.raw (.int .i64 r0)) L := by
  unfold f_round_Check at hF
  refine Ok.intro 28 [(0, .val kApi_Config a0), (1, .val kApi_State a1)] Try.func12 rfl rfl rfl rfl (fun F0 => ?_)
  refine Under.seq ?_
  refine Under.region ?_
  refine Under.bxF (K := kApi_Config) rfl rdV rfl ?_
  refine Under.bxF (K := kApi_State) rfl rdV rfl ?_
  refine Under.ov (OpV.asg rfl) rfl ?_
  refine Under.nil ?_
  refine Under.tN ?_
  refine Under.seq ?_
  refine Under.seq ?_
  obtain ⟨y1, h2, hF⟩ := bsome hF
  obtain ⟨x5, h6, hF⟩ := bsome hF
  refine Under.rj [(27, .raw (.bool x5))] ?_ (fun k => ?_)
  · refine Under.tN ?_
    refine Under.ite hF rfl (fun hF => ?_) (fun hF => ?_)
    · refine Under.seq ?_
      refine Under.region ?_
      refine Under.ov (OpV.asg rfl) rfl ?_
      refine Under.nil ?_
      refine Under.tN ?_
      refine Under.retc ?_
      refine Under.tR ?_
      exact Under.retE Try.results12 rfl (congrArg (fun y => SV.raw (.int .i64 y)) (Option.some.inj hF)) rfl
    · refine Under.code_skip ?_
      refine Under.tN ?_
      refine Under.seq ?_
      refine Under.region ?_
      refine Under.ov (OpV.asg rfl) rfl ?_
      refine Under.nil ?_
      refine Under.tN ?_
      refine Under.retc ?_
      exact Under.retE Try.results12 rfl (congrArg (fun y => SV.raw (.int .i64 y)) (Option.some.inj hF)) rfl
  · refine Under.ov (OpV.ld kt24 rfl) rfl ?_
    refine Under.call Try.call32 rfl rfl (f_round_right_ok h2 _) rfl ?_
    refine Under.ov (OpV.not rfl) rfl ?_
    refine Under.ov (OpV.move rfl) rfl ?_
    refine Under.byc (t := 8) rfl (fun c7 => ?_) (fun c7 => ?_)
    · refine Under.skc c7 rfl rfl rfl ?_
      refine Under.skc c7 rfl rfl rfl ?_
      refine Under.skc c7 rfl rfl rfl ?_
      refine Under.ov (OpV.pick rfl (fun _ => rfl) (fun e => absurd (e.symm.trans c7) (by decide))) rfl ?_
      refine Under.top (or_t (e := decide (a1.Next < 0)) c7) ?_
      have c8 := or_tb (e := decide (a1.Next < 0)) c7
      refine Under.ov (OpV.move rfl) rfl ?_
      refine Under.skc c8 rfl rfl rfl ?_
      refine Under.skc c8 rfl rfl rfl ?_
      refine Under.skc c8 rfl rfl rfl ?_
      refine Under.ov (OpV.pick rfl (fun _ => rfl) (fun e => absurd (e.symm.trans c8) (by decide))) rfl ?_
      refine Under.top (or_t (e := decide (a1.Next > 4611686018427387904)) c8) ?_
      have c9 := or_tb (e := decide (a1.Next > 4611686018427387904)) c8
      refine Under.ov (OpV.move rfl) rfl ?_
      replace h6 := ctrue c9 h6
      refine Under.skc c9 rfl rfl rfl ?_
      refine Under.skc c9 rfl rfl rfl ?_
      refine Under.skc c9 rfl rfl rfl ?_
      refine Under.skc c9 rfl rfl rfl ?_
      refine Under.skc c9 rfl rfl rfl ?_
      refine Under.skc c9 rfl rfl rfl ?_
      refine Under.skc c9 rfl rfl rfl ?_
      refine Under.skc c9 rfl rfl rfl ?_
      refine Under.ov (OpV.pick rfl (fun _ => rfl) (fun e => absurd (e.symm.trans c9) (by decide))) rfl ?_
      refine Under.top (congrArg (fun b => SV.raw (.bool b)) (Option.some.inj h6)) ?_
      have c10 := (Option.some.inj h6).symm
      exact Under.nil (Under.fin 23 (SubZ.cons rfl rfl SubZ.nil) rfl k)
    · refine Under.goc c7 rfl rfl ?_
      refine Under.ov (OpV.fd fb29_0 rfl rfl) rfl ?_
      refine Under.goc c7 rfl rfl ?_
      refine Under.ov (OpV.ldI kt2 rfl) rfl ?_
      refine Under.goc c7 rfl rfl ?_
      refine Under.ov (OpV.bin rfl rfl rfl) rfl ?_
      refine Under.ov (OpV.pick rfl (fun e => absurd (e.symm.trans c7) (by decide)) (fun _ => rfl)) rfl ?_
      refine Under.top (or_f c7) ?_
      refine Under.ov (OpV.move rfl) rfl ?_
      refine Under.byc (t := 13) rfl (fun c11 => ?_) (fun c11 => ?_)
      · refine Under.skc c11 rfl rfl rfl ?_
        refine Under.skc c11 rfl rfl rfl ?_
        refine Under.skc c11 rfl rfl rfl ?_
        refine Under.ov (OpV.pick rfl (fun _ => rfl) (fun e => absurd (e.symm.trans c11) (by decide))) rfl ?_
        refine Under.top (or_t (e := decide (a1.Next > 4611686018427387904)) c11) ?_
        have c12 := or_tb (e := decide (a1.Next > 4611686018427387904)) c11
        refine Under.ov (OpV.move rfl) rfl ?_
        replace h6 := ctrue c12 h6
        refine Under.skc c12 rfl rfl rfl ?_
        refine Under.skc c12 rfl rfl rfl ?_
        refine Under.skc c12 rfl rfl rfl ?_
        refine Under.skc c12 rfl rfl rfl ?_
        refine Under.skc c12 rfl rfl rfl ?_
        refine Under.skc c12 rfl rfl rfl ?_
        refine Under.skc c12 rfl rfl rfl ?_
        refine Under.skc c12 rfl rfl rfl ?_
        refine Under.ov (OpV.pick rfl (fun _ => rfl) (fun e => absurd (e.symm.trans c12) (by decide))) rfl ?_
        refine Under.top (congrArg (fun b => SV.raw (.bool b)) (Option.some.inj h6)) ?_
        have c13 := (Option.some.inj h6).symm
        exact Under.nil (Under.fin 23 (SubZ.cons rfl rfl SubZ.nil) rfl k)
      · refine Under.goc c11 rfl rfl ?_
        refine Under.ov (OpV.fd fb29_0 rfl rfl) rfl ?_
        refine Under.goc c11 rfl rfl ?_
        refine Under.ov (OpV.ldI kt2 rfl) rfl ?_
        refine Under.goc c11 rfl rfl ?_
        refine Under.ov (OpV.bin rfl rfl rfl) rfl ?_
        refine Under.ov (OpV.pick rfl (fun e => absurd (e.symm.trans c11) (by decide)) (fun _ => rfl)) rfl ?_
        refine Under.top (or_f c11) ?_
        refine Under.ov (OpV.move rfl) rfl ?_
        refine Under.byc (t := 18) rfl (fun c14 => ?_) (fun c14 => ?_)
        · replace h6 := ctrue c14 h6
          refine Under.skc c14 rfl rfl rfl ?_
          refine Under.skc c14 rfl rfl rfl ?_
          refine Under.skc c14 rfl rfl rfl ?_
          refine Under.skc c14 rfl rfl rfl ?_
          refine Under.skc c14 rfl rfl rfl ?_
          refine Under.skc c14 rfl rfl rfl ?_
          refine Under.skc c14 rfl rfl rfl ?_
          refine Under.skc c14 rfl rfl rfl ?_
          refine Under.ov (OpV.pick rfl (fun _ => rfl) (fun e => absurd (e.symm.trans c14) (by decide))) rfl ?_
          refine Under.top (congrArg (fun b => SV.raw (.bool b)) (Option.some.inj h6)) ?_
          have c15 := (Option.some.inj h6).symm
          exact Under.nil (Under.fin 23 (SubZ.cons rfl rfl SubZ.nil) rfl k)
        · replace h6 := cfalse c14 h6
          obtain ⟨y3, h4, h6⟩ := bsome h6
          refine Under.goc c14 rfl rfl ?_
          refine Under.ov (OpV.fd fb29_1 rfl rfl) rfl ?_
          refine Under.goc c14 rfl rfl ?_
          refine Under.ov (OpV.ld kt27 rfl) rfl ?_
          refine Under.goc c14 rfl rfl ?_
          refine Under.ov (OpV.fd fb24_2 rfl rfl) rfl ?_
          refine Under.goc c14 rfl rfl ?_
          refine Under.ov (OpV.ldI kt3 rfl) rfl ?_
          refine Under.goc c14 rfl rfl ?_
          refine Under.ov (OpV.fd fb24_3 rfl rfl) rfl ?_
          refine Under.goc c14 rfl rfl ?_
          refine Under.ov (OpV.ldI kt3 rfl) rfl ?_
          refine Under.goc c14 rfl rfl ?_
          refine Under.call Try.call16 rfl rfl (f_window_Check_ok h4 _) rfl ?_
          refine Under.goc c14 rfl rfl ?_
          refine Under.ov (OpV.bin rfl rfl rfl) rfl ?_
          refine Under.ov (OpV.pick rfl (fun e => absurd (e.symm.trans c14) (by decide)) (fun _ => rfl)) rfl ?_
          refine Under.top (congrArg (fun b => SV.raw (.bool b)) (Option.some.inj h6)) ?_
          exact Under.nil (Under.fin 23 (SubZ.cons rfl rfl SubZ.nil) rfl k)
/-- churn/churnlaw21.plain -/
noncomputable def f_churnlaw21_plain  : Option Api_Config :=
  bif mkB 32 32 then
  some (⟨List.replicate (Int.toNat 32) 0, 2, 1, 0, 0, 1, 0, 1, 1, 0, 1⟩ : Api_Config)
  else none
theorem f_churnlaw21_plain_ok  {r0 : Api_Config} (hF : f_churnlaw21_plain = some r0) (L : List Res) : Ok Try.prog 13 [] L (SV.val kApi_Config r0) L := by
  unfold f_churnlaw21_plain at hF
  refine Ok.intro 3 [] Try.func13 rfl rfl rfl rfl (fun F0 => ?_)
  refine Under.seq ?_
  refine Under.region ?_
  refine Under.al ZT24 rfl fun b1 => ?_
  refine Under.nil ?_
  refine Under.tN ?_
  refine Under.seq ?_
  refine Under.region ?_
  obtain ⟨h3, hF⟩ := gsome hF
  refine Under.mk h3 Try.underlying22 AT5 rfl rfl rfl fun v2 => ?_
  refine Under.frzO (t := 1) rfl ?_
  refine Under.ov (OpV.bst BT24 (Bld.cons (x' := (⟨List.replicate (Int.toNat 32) 0, 0, 0, 0, 0, 0, 0, 0, 0, 0, 0⟩ : Api_Config)) rfl rfl rdV (by intro q hq; simp only [List.mem_cons, List.not_mem_nil, or_false] at hq; rcases hq with rfl | rfl | rfl | rfl | rfl | rfl | rfl | rfl | rfl | rfl <;> rfl) (Bld.cons (x' := (⟨List.replicate (Int.toNat 32) 0, 2, 0, 0, 0, 0, 0, 0, 0, 0, 0⟩ : Api_Config)) rfl rfl rdI ⟨rfl, (by intro q hq; simp only [List.mem_cons, List.not_mem_nil, or_false] at hq; rcases hq with rfl | rfl | rfl | rfl | rfl | rfl | rfl | rfl | rfl <;> rfl)⟩ (Bld.cons (x' := (⟨List.replicate (Int.toNat 32) 0, 2, 1, 0, 0, 0, 0, 0, 0, 0, 0⟩ : Api_Config)) rfl rfl rdI ⟨rfl, ⟨rfl, (by intro q hq; simp only [List.mem_cons, List.not_mem_nil, or_false] at hq; rcases hq with rfl | rfl | rfl | rfl | rfl | rfl | rfl | rfl <;> rfl)⟩⟩ (Bld.cons (x' := (⟨List.replicate (Int.toNat 32) 0, 2, 1, 0, 0, 1, 0, 0, 0, 0, 0⟩ : Api_Config)) rfl rfl rdI ⟨rfl, ⟨rfl, ⟨rfl, ⟨rfl, ⟨rfl, (by intro q hq; simp only [List.mem_cons, List.not_mem_nil, or_false] at hq; rcases hq with rfl | rfl | rfl | rfl | rfl <;> rfl)⟩⟩⟩⟩⟩ (Bld.cons (x' := (⟨List.replicate (Int.toNat 32) 0, 2, 1, 0, 0, 1, 0, 1, 0, 0, 0⟩ : Api_Config)) rfl rfl rdI ⟨rfl, ⟨rfl, ⟨rfl, ⟨rfl, ⟨rfl, ⟨rfl, ⟨rfl, (by intro q hq; simp only [List.mem_cons, List.not_mem_nil, or_false] at hq; rcases hq with rfl | rfl | rfl <;> rfl)⟩⟩⟩⟩⟩⟩⟩ (Bld.cons (x' := (⟨List.replicate (Int.toNat 32) 0, 2, 1, 0, 0, 1, 0, 1, 1, 0, 0⟩ : Api_Config)) rfl rfl rdI ⟨rfl, ⟨rfl, ⟨rfl, ⟨rfl, ⟨rfl, ⟨rfl, ⟨rfl, ⟨rfl, (by intro q hq; simp only [List.mem_cons, List.not_mem_nil, or_false] at hq; rcases hq with rfl | rfl <;> rfl)⟩⟩⟩⟩⟩⟩⟩⟩ (Bld.cons (x' := (⟨List.replicate (Int.toNat 32) 0, 2, 1, 0, 0, 1, 0, 1, 1, 0, 1⟩ : Api_Config)) rfl rfl rdI ⟨rfl, ⟨rfl, ⟨rfl, ⟨rfl, ⟨rfl, ⟨rfl, ⟨rfl, ⟨rfl, ⟨rfl, ⟨rfl, (fun q hq => by simp at hq)⟩⟩⟩⟩⟩⟩⟩⟩⟩⟩ (Bld.nil _))))))))) rfl ?_
  refine Under.st Pl.id rfl rfl sz24 rfl rfl rdV ?_
  refine Under.nil ?_
  refine Under.tN ?_
  refine Under.retc ?_
  refine Under.frz (t := 0) rfl ?_
  exact Under.ret_c Try.results13 kt24 rfl (congrArg (fun y => SV.val kApi_Config y) (Option.some.inj hF)) rfl
/-- churn/churnref21.within -/
noncomputable def f_churnref21_within (a0 : Int) (a1 : Int) (a2 : Int) : Option Bool :=
  some ((decide (a0 ≥ a1)) && (decide (a0 ≤ a2)))
theorem f_churnref21_within_ok {a0 : Int} {a1 : Int} {a2 : Int} {r0 : Bool} (hF : f_churnref21_within a0 a1 a2 = some r0) (L : List Res) : Ok Try.prog 49 [SV.raw (.int .i64 a0), SV.raw (.int .i64 a1), SV.raw (.int .i64 a2)] L (SV.raw (.bool r0)) L := by
  unfold f_churnref21_within at hF
  refine Ok.intro 15 [(0, .raw (.int .i64 a0)), (1, .raw (.int .i64 a1)), (2, .raw (.int .i64 a2))] Try.func49 rfl rfl rfl rfl (fun F0 => ?_)
  refine Under.seq ?_
  refine Under.region ?_
  refine Under.ov (OpV.asg rfl) rfl ?_
  refine Under.nil ?_
  refine Under.tN ?_
  refine Under.seq ?_
  refine Under.rj [(6, .raw (.bool ((decide (a0 ≥ a1)) && (decide (a0 ≤ a2)))))] ?_ (fun k => ?_)
  · refine Under.tN ?_
    refine Under.retc ?_
    exact Under.retE Try.results49 rfl (congrArg (fun y => SV.raw (.bool y)) (Option.some.inj hF)) rfl
  · refine Under.ov (OpV.move rfl) rfl ?_
    refine Under.ov (OpV.move rfl) rfl ?_
    refine Under.ov (OpV.bin rfl rfl rfl) rfl ?_
    refine Under.ov (OpV.move rfl) rfl ?_
    refine Under.byc (t := 10) rfl (fun c1 => ?_) (fun c1 => ?_)
    · refine Under.goc c1 rfl rfl ?_
      refine Under.ov (OpV.move rfl) rfl ?_
      refine Under.goc c1 rfl rfl ?_
      refine Under.ov (OpV.move rfl) rfl ?_
      refine Under.goc c1 rfl rfl ?_
      refine Under.ov (OpV.bin rfl rfl rfl) rfl ?_
      refine Under.ov (OpV.pick rfl (fun _ => rfl) (fun e => absurd (e.symm.trans c1) (by decide))) rfl ?_
      refine Under.top (and_t c1) ?_
      refine Under.ov (OpV.asg rfl) rfl ?_
      exact Under.nil (Under.fin 9 (SubZ.cons rfl rfl SubZ.nil) rfl k)
    · refine Under.skc c1 rfl rfl rfl ?_
      refine Under.skc c1 rfl rfl rfl ?_
      refine Under.skc c1 rfl rfl rfl ?_
      refine Under.ov (OpV.pick rfl (fun e => absurd (e.symm.trans c1) (by decide)) (fun _ => rfl)) rfl ?_
      refine Under.top (and_f (e := decide (a0 ≤ a2)) c1) ?_
      have c2 := and_fb (e := decide (a0 ≤ a2)) c1
      refine Under.ov (OpV.asg rfl) rfl ?_
      exact Under.nil (Under.fin 9 (SubZ.cons rfl rfl SubZ.nil) rfl k)
/-- churn/churnref21.Right -/
noncomputable def f_churnref21_Right (a0 : Api_Config) : Option Bool :=
  ((bif (a0.Master.length : Int) == 32 then
    (f_churnref21_within a0.Left 1 8).bind fun y1 =>
    some y1
  else
    some false
    : Option Bool)).bind fun x3 =>
  ((bif x3 then
    (f_churnref21_within a0.Span 1 8).bind fun y5 =>
    some y5
  else
    some false
    : Option Bool)).bind fun x7 =>
  ((bif x7 then
    (f_churnref21_within a0.Room 0 4096).bind fun y9 =>
    some y9
  else
    some false
    : Option Bool)).bind fun x11 =>
  ((bif x11 then
    (f_churnref21_within a0.Den 1 1000).bind fun y13 =>
    some y13
  else
    some false
    : Option Bool)).bind fun x15 =>
  ((bif x15 then
    (f_churnref21_within a0.Num 0 a0.Den).bind fun y17 =>
    some y17
  else
    some false
    : Option Bool)).bind fun x19 =>
  ((bif x19 then
    (f_churnref21_within a0.Noise 0 16).bind fun y21 =>
    some y21
  else
    some false
    : Option Bool)).bind fun x23 =>
  ((bif x23 then
    (f_churnref21_within a0.Chunks 1 64).bind fun y25 =>
    some y25
  else
    some false
    : Option Bool)).bind fun x27 =>
  ((bif x27 then
    (f_churnref21_within a0.Workers 1 64).bind fun y29 =>
    some y29
  else
    some false
    : Option Bool)).bind fun x31 =>
  ((bif x31 then
    (f_churnref21_within a0.Cap 0 1024).bind fun y33 =>
    some y33
  else
    some false
    : Option Bool)).bind fun x35 =>
  ((bif x35 then
    (f_churnref21_within a0.Shards 1 64).bind fun y37 =>
    some y37
  else
    some false
    : Option Bool)).bind fun x39 =>
  some x39
theorem f_churnref21_Right_ok {a0 : Api_Config} {r0 : Bool} (hF : f_churnref21_Right a0 = some r0) (L : List Res) : Ok Try.prog 33 [SV.val kApi_Config a0] L (SV.raw (.bool r0)) L := by
  unfold f_churnref21_Right at hF
  refine Ok.intro 59 [(0, .val kApi_Config a0)] Try.func33 rfl rfl rfl rfl (fun F0 => ?_)
  refine Under.seq ?_
  refine Under.region ?_
  refine Under.bxF (K := kApi_Config) rfl rdV rfl ?_
  refine Under.ov (OpV.asg rfl) rfl ?_
  refine Under.nil ?_
  refine Under.tN ?_
  refine Under.seq ?_
  obtain ⟨x3, h4, hF⟩ := bsome hF
  obtain ⟨x7, h8, hF⟩ := bsome hF
  obtain ⟨x11, h12, hF⟩ := bsome hF
  obtain ⟨x15, h16, hF⟩ := bsome hF
  obtain ⟨x19, h20, hF⟩ := bsome hF
  obtain ⟨x23, h24, hF⟩ := bsome hF
  obtain ⟨x27, h28, hF⟩ := bsome hF
  obtain ⟨x31, h32, hF⟩ := bsome hF
  obtain ⟨x35, h36, hF⟩ := bsome hF
  obtain ⟨x39, h40, hF⟩ := bsome hF
  refine Under.rj [(2, .raw (.bool x39))] ?_ (fun k => ?_)
  · refine Under.tN ?_
    refine Under.retc ?_
    exact Under.retE Try.results33 rfl (congrArg (fun y => SV.raw (.bool y)) (Option.some.inj hF)) rfl
  · refine Under.ov (OpV.fd fb24_0 rfl rfl) rfl ?_
    refine Under.ov (OpV.ld kt22 rfl) rfl ?_
    refine Under.ov (OpV.len Try.underlying22 rfl rdV) rfl ?_
    refine Under.ov (OpV.bin rfl rfl rfl) rfl ?_
    refine Under.ov (OpV.move rfl) rfl ?_
    refine Under.byc (t := 7) rfl (fun c41 => ?_) (fun c41 => ?_)
    · replace h4 := ctrue c41 h4
      obtain ⟨y1, h2, h4⟩ := bsome h4
      refine Under.goc c41 rfl rfl ?_
      refine Under.ov (OpV.fd fb24_1 rfl rfl) rfl ?_
      refine Under.goc c41 rfl rfl ?_
      refine Under.ov (OpV.ldI kt3 rfl) rfl ?_
      refine Under.goc c41 rfl rfl ?_
      refine Under.call Try.call49 rfl rfl (f_churnref21_within_ok h2 _) rfl ?_
      refine Under.ov (OpV.pick rfl (fun _ => rfl) (fun e => absurd (e.symm.trans c41) (by decide))) rfl ?_
      refine Under.top (congrArg (fun b => SV.raw (.bool b)) (Option.some.inj h4)) ?_
      refine Under.ov (OpV.move rfl) rfl ?_
      refine Under.byc (t := 12) rfl (fun c42 => ?_) (fun c42 => ?_)
      · replace h8 := ctrue c42 h8
        obtain ⟨y5, h6, h8⟩ := bsome h8
        refine Under.goc c42 rfl rfl ?_
        refine Under.ov (OpV.fd fb24_2 rfl rfl) rfl ?_
        refine Under.goc c42 rfl rfl ?_
        refine Under.ov (OpV.ldI kt3 rfl) rfl ?_
        refine Under.goc c42 rfl rfl ?_
        refine Under.call Try.call49 rfl rfl (f_churnref21_within_ok h6 _) rfl ?_
        refine Under.ov (OpV.pick rfl (fun _ => rfl) (fun e => absurd (e.symm.trans c42) (by decide))) rfl ?_
        refine Under.top (congrArg (fun b => SV.raw (.bool b)) (Option.some.inj h8)) ?_
        refine Under.ov (OpV.move rfl) rfl ?_
        refine Under.byc (t := 17) rfl (fun c43 => ?_) (fun c43 => ?_)
        · replace h12 := ctrue c43 h12
          obtain ⟨y9, h10, h12⟩ := bsome h12
          refine Under.goc c43 rfl rfl ?_
          refine Under.ov (OpV.fd fb24_3 rfl rfl) rfl ?_
          refine Under.goc c43 rfl rfl ?_
          refine Under.ov (OpV.ldI kt3 rfl) rfl ?_
          refine Under.goc c43 rfl rfl ?_
          refine Under.call Try.call49 rfl rfl (f_churnref21_within_ok h10 _) rfl ?_
          refine Under.ov (OpV.pick rfl (fun _ => rfl) (fun e => absurd (e.symm.trans c43) (by decide))) rfl ?_
          refine Under.top (congrArg (fun b => SV.raw (.bool b)) (Option.some.inj h12)) ?_
          refine Under.ov (OpV.move rfl) rfl ?_
          refine Under.byc (t := 22) rfl (fun c44 => ?_) (fun c44 => ?_)
          · replace h16 := ctrue c44 h16
            obtain ⟨y13, h14, h16⟩ := bsome h16
            refine Under.goc c44 rfl rfl ?_
            refine Under.ov (OpV.fd fb24_5 rfl rfl) rfl ?_
            refine Under.goc c44 rfl rfl ?_
            refine Under.ov (OpV.ldI kt3 rfl) rfl ?_
            refine Under.goc c44 rfl rfl ?_
            refine Under.call Try.call49 rfl rfl (f_churnref21_within_ok h14 _) rfl ?_
            refine Under.ov (OpV.pick rfl (fun _ => rfl) (fun e => absurd (e.symm.trans c44) (by decide))) rfl ?_
            refine Under.top (congrArg (fun b => SV.raw (.bool b)) (Option.some.inj h16)) ?_
            refine Under.ov (OpV.move rfl) rfl ?_
            refine Under.byc (t := 27) rfl (fun c45 => ?_) (fun c45 => ?_)
            · replace h20 := ctrue c45 h20
              obtain ⟨y17, h18, h20⟩ := bsome h20
              refine Under.goc c45 rfl rfl ?_
              refine Under.ov (OpV.fd fb24_4 rfl rfl) rfl ?_
              refine Under.goc c45 rfl rfl ?_
              refine Under.ov (OpV.ldI kt3 rfl) rfl ?_
              refine Under.goc c45 rfl rfl ?_
              refine Under.ov (OpV.fd fb24_5 rfl rfl) rfl ?_
              refine Under.goc c45 rfl rfl ?_
              refine Under.ov (OpV.ldI kt3 rfl) rfl ?_
              refine Under.goc c45 rfl rfl ?_
              refine Under.call Try.call49 rfl rfl (f_churnref21_within_ok h18 _) rfl ?_
              refine Under.ov (OpV.pick rfl (fun _ => rfl) (fun e => absurd (e.symm.trans c45) (by decide))) rfl ?_
              refine Under.top (congrArg (fun b => SV.raw (.bool b)) (Option.some.inj h20)) ?_
              refine Under.ov (OpV.move rfl) rfl ?_
              refine Under.byc (t := 34) rfl (fun c46 => ?_) (fun c46 => ?_)
              · replace h24 := ctrue c46 h24
                obtain ⟨y21, h22, h24⟩ := bsome h24
                refine Under.goc c46 rfl rfl ?_
                refine Under.ov (OpV.fd fb24_6 rfl rfl) rfl ?_
                refine Under.goc c46 rfl rfl ?_
                refine Under.ov (OpV.ldI kt3 rfl) rfl ?_
                refine Under.goc c46 rfl rfl ?_
                refine Under.call Try.call49 rfl rfl (f_churnref21_within_ok h22 _) rfl ?_
                refine Under.ov (OpV.pick rfl (fun _ => rfl) (fun e => absurd (e.symm.trans c46) (by decide))) rfl ?_
                refine Under.top (congrArg (fun b => SV.raw (.bool b)) (Option.some.inj h24)) ?_
                refine Under.ov (OpV.move rfl) rfl ?_
                refine Under.byc (t := 39) rfl (fun c47 => ?_) (fun c47 => ?_)
                · replace h28 := ctrue c47 h28
                  obtain ⟨y25, h26, h28⟩ := bsome h28
                  refine Under.goc c47 rfl rfl ?_
                  refine Under.ov (OpV.fd fb24_7 rfl rfl) rfl ?_
                  refine Under.goc c47 rfl rfl ?_
                  refine Under.ov (OpV.ldI kt3 rfl) rfl ?_
                  refine Under.goc c47 rfl rfl ?_
                  refine Under.call Try.call49 rfl rfl (f_churnref21_within_ok h26 _) rfl ?_
                  refine Under.ov (OpV.pick rfl (fun _ => rfl) (fun e => absurd (e.symm.trans c47) (by decide))) rfl ?_
                  refine Under.top (congrArg (fun b => SV.raw (.bool b)) (Option.some.inj h28)) ?_
                  refine Under.ov (OpV.move rfl) rfl ?_
                  refine Under.byc (t := 44) rfl (fun c48 => ?_) (fun c48 => ?_)
                  · replace h32 := ctrue c48 h32
                    obtain ⟨y29, h30, h32⟩ := bsome h32
                    refine Under.goc c48 rfl rfl ?_
                    refine Under.ov (OpV.fd fb24_8 rfl rfl) rfl ?_
                    refine Under.goc c48 rfl rfl ?_
                    refine Under.ov (OpV.ldI kt3 rfl) rfl ?_
                    refine Under.goc c48 rfl rfl ?_
                    refine Under.call Try.call49 rfl rfl (f_churnref21_within_ok h30 _) rfl ?_
                    refine Under.ov (OpV.pick rfl (fun _ => rfl) (fun e => absurd (e.symm.trans c48) (by decide))) rfl ?_
                    refine Under.top (congrArg (fun b => SV.raw (.bool b)) (Option.some.inj h32)) ?_
                    refine Under.ov (OpV.move rfl) rfl ?_
                    refine Under.byc (t := 49) rfl (fun c49 => ?_) (fun c49 => ?_)
                    · replace h36 := ctrue c49 h36
                      obtain ⟨y33, h34, h36⟩ := bsome h36
                      refine Under.goc c49 rfl rfl ?_
                      refine Under.ov (OpV.fd fb24_9 rfl rfl) rfl ?_
                      refine Under.goc c49 rfl rfl ?_
                      refine Under.ov (OpV.ldI kt3 rfl) rfl ?_
                      refine Under.goc c49 rfl rfl ?_
                      refine Under.call Try.call49 rfl rfl (f_churnref21_within_ok h34 _) rfl ?_
                      refine Under.ov (OpV.pick rfl (fun _ => rfl) (fun e => absurd (e.symm.trans c49) (by decide))) rfl ?_
                      refine Under.top (congrArg (fun b => SV.raw (.bool b)) (Option.some.inj h36)) ?_
                      refine Under.ov (OpV.move rfl) rfl ?_
                      refine Under.byc (t := 54) rfl (fun c50 => ?_) (fun c50 => ?_)
                      · replace h40 := ctrue c50 h40
                        obtain ⟨y37, h38, h40⟩ := bsome h40
                        refine Under.goc c50 rfl rfl ?_
                        refine Under.ov (OpV.fd fb24_10 rfl rfl) rfl ?_
                        refine Under.goc c50 rfl rfl ?_
                        refine Under.ov (OpV.ldI kt3 rfl) rfl ?_
                        refine Under.goc c50 rfl rfl ?_
                        refine Under.call Try.call49 rfl rfl (f_churnref21_within_ok h38 _) rfl ?_
                        refine Under.ov (OpV.pick rfl (fun _ => rfl) (fun e => absurd (e.symm.trans c50) (by decide))) rfl ?_
                        refine Under.top (congrArg (fun b => SV.raw (.bool b)) (Option.some.inj h40)) ?_
                        refine Under.ov (OpV.asg rfl) rfl ?_
                        exact Under.nil (Under.fin 57 (SubZ.cons rfl rfl SubZ.nil) rfl k)
                      · replace h40 := cfalse c50 h40
                        refine Under.skc c50 rfl rfl rfl ?_
                        refine Under.skc c50 rfl rfl rfl ?_
                        refine Under.skc c50 rfl rfl rfl ?_
                        refine Under.ov (OpV.pick rfl (fun e => absurd (e.symm.trans c50) (by decide)) (fun _ => rfl)) rfl ?_
                        refine Under.top (congrArg (fun b => SV.raw (.bool b)) (Option.some.inj h40)) ?_
                        have c51 := (Option.some.inj h40).symm
                        refine Under.ov (OpV.asg rfl) rfl ?_
                        exact Under.nil (Under.fin 57 (SubZ.cons rfl rfl SubZ.nil) rfl k)
                    · replace h36 := cfalse c49 h36
                      refine Under.skc c49 rfl rfl rfl ?_
                      refine Under.skc c49 rfl rfl rfl ?_
                      refine Under.skc c49 rfl rfl rfl ?_
                      refine Under.ov (OpV.pick rfl (fun e => absurd (e.symm.trans c49) (by decide)) (fun _ => rfl)) rfl ?_
                      refine Under.top (congrArg (fun b => SV.raw (.bool b)) (Option.some.inj h36)) ?_
                      have c52 := (Option.some.inj h36).symm
                      refine Under.ov (OpV.move rfl) rfl ?_
                      replace h40 := cfalse c52 h40
                      refine Under.skc c52 rfl rfl rfl ?_
                      refine Under.skc c52 rfl rfl rfl ?_
                      refine Under.skc c52 rfl rfl rfl ?_
                      refine Under.ov (OpV.pick rfl (fun e => absurd (e.symm.trans c52) (by decide)) (fun _ => rfl)) rfl ?_
                      refine Under.top (congrArg (fun b => SV.raw (.bool b)) (Option.some.inj h40)) ?_
                      have c53 := (Option.some.inj h40).symm
                      refine Under.ov (OpV.asg rfl) rfl ?_
                      exact Under.nil (Under.fin 57 (SubZ.cons rfl rfl SubZ.nil) rfl k)
                  · replace h32 := cfalse c48 h32
                    refine Under.skc c48 rfl rfl rfl ?_
                    refine Under.skc c48 rfl rfl rfl ?_
                    refine Under.skc c48 rfl rfl rfl ?_
                    refine Under.ov (OpV.pick rfl (fun e => absurd (e.symm.trans c48) (by decide)) (fun _ => rfl)) rfl ?_
                    refine Under.top (congrArg (fun b => SV.raw (.bool b)) (Option.some.inj h32)) ?_
                    have c54 := (Option.some.inj h32).symm
                    refine Under.ov (OpV.move rfl) rfl ?_
                    replace h36 := cfalse c54 h36
                    refine Under.skc c54 rfl rfl rfl ?_
                    refine Under.skc c54 rfl rfl rfl ?_
                    refine Under.skc c54 rfl rfl rfl ?_
                    refine Under.ov (OpV.pick rfl (fun e => absurd (e.symm.trans c54) (by decide)) (fun _ => rfl)) rfl ?_
                    refine Under.top (congrArg (fun b => SV.raw (.bool b)) (Option.some.inj h36)) ?_
                    have c55 := (Option.some.inj h36).symm
                    refine Under.ov (OpV.move rfl) rfl ?_
                    replace h40 := cfalse c55 h40
                    refine Under.skc c55 rfl rfl rfl ?_
                    refine Under.skc c55 rfl rfl rfl ?_
                    refine Under.skc c55 rfl rfl rfl ?_
                    refine Under.ov (OpV.pick rfl (fun e => absurd (e.symm.trans c55) (by decide)) (fun _ => rfl)) rfl ?_
                    refine Under.top (congrArg (fun b => SV.raw (.bool b)) (Option.some.inj h40)) ?_
                    have c56 := (Option.some.inj h40).symm
                    refine Under.ov (OpV.asg rfl) rfl ?_
                    exact Under.nil (Under.fin 57 (SubZ.cons rfl rfl SubZ.nil) rfl k)
                · replace h28 := cfalse c47 h28
                  refine Under.skc c47 rfl rfl rfl ?_
                  refine Under.skc c47 rfl rfl rfl ?_
                  refine Under.skc c47 rfl rfl rfl ?_
                  refine Under.ov (OpV.pick rfl (fun e => absurd (e.symm.trans c47) (by decide)) (fun _ => rfl)) rfl ?_
                  refine Under.top (congrArg (fun b => SV.raw (.bool b)) (Option.some.inj h28)) ?_
                  have c57 := (Option.some.inj h28).symm
                  refine Under.ov (OpV.move rfl) rfl ?_
                  replace h32 := cfalse c57 h32
                  refine Under.skc c57 rfl rfl rfl ?_
                  refine Under.skc c57 rfl rfl rfl ?_
                  refine Under.skc c57 rfl rfl rfl ?_
                  refine Under.ov (OpV.pick rfl (fun e => absurd (e.symm.trans c57) (by decide)) (fun _ => rfl)) rfl ?_
                  refine Under.top (congrArg (fun b => SV.raw (.bool b)) (Option.some.inj h32)) ?_
                  have c58 := (Option.some.inj h32).symm
                  refine Under.ov (OpV.move rfl) rfl ?_
                  replace h36 := cfalse c58 h36
                  refine Under.skc c58 rfl rfl rfl ?_
                  refine Under.skc c58 rfl rfl rfl ?_
                  refine Under.skc c58 rfl rfl rfl ?_
                  refine Under.ov (OpV.pick rfl (fun e => absurd (e.symm.trans c58) (by decide)) (fun _ => rfl)) rfl ?_
                  refine Under.top (congrArg (fun b => SV.raw (.bool b)) (Option.some.inj h36)) ?_
                  have c59 := (Option.some.inj h36).symm
                  refine Under.ov (OpV.move rfl) rfl ?_
                  replace h40 := cfalse c59 h40
                  refine Under.skc c59 rfl rfl rfl ?_
                  refine Under.skc c59 rfl rfl rfl ?_
                  refine Under.skc c59 rfl rfl rfl ?_
                  refine Under.ov (OpV.pick rfl (fun e => absurd (e.symm.trans c59) (by decide)) (fun _ => rfl)) rfl ?_
                  refine Under.top (congrArg (fun b => SV.raw (.bool b)) (Option.some.inj h40)) ?_
                  have c60 := (Option.some.inj h40).symm
                  refine Under.ov (OpV.asg rfl) rfl ?_
                  exact Under.nil (Under.fin 57 (SubZ.cons rfl rfl SubZ.nil) rfl k)
              · replace h24 := cfalse c46 h24
                refine Under.skc c46 rfl rfl rfl ?_
                refine Under.skc c46 rfl rfl rfl ?_
                refine Under.skc c46 rfl rfl rfl ?_
                refine Under.ov (OpV.pick rfl (fun e => absurd (e.symm.trans c46) (by decide)) (fun _ => rfl)) rfl ?_
                refine Under.top (congrArg (fun b => SV.raw (.bool b)) (Option.some.inj h24)) ?_
                have c61 := (Option.some.inj h24).symm
                refine Under.ov (OpV.move rfl) rfl ?_
                replace h28 := cfalse c61 h28
                refine Under.skc c61 rfl rfl rfl ?_
                refine Under.skc c61 rfl rfl rfl ?_
                refine Under.skc c61 rfl rfl rfl ?_
                refine Under.ov (OpV.pick rfl (fun e => absurd (e.symm.trans c61) (by decide)) (fun _ => rfl)) rfl ?_
                refine Under.top (congrArg (fun b => SV.raw (.bool b)) (Option.some.inj h28)) ?_
                have c62 := (Option.some.inj h28).symm
                refine Under.ov (OpV.move rfl) rfl ?_
                replace h32 := cfalse c62 h32
                refine Under.skc c62 rfl rfl rfl ?_
                refine Under.skc c62 rfl rfl rfl ?_
                refine Under.skc c62 rfl rfl rfl ?_
                refine Under.ov (OpV.pick rfl (fun e => absurd (e.symm.trans c62) (by decide)) (fun _ => rfl)) rfl ?_
                refine Under.top (congrArg (fun b => SV.raw (.bool b)) (Option.some.inj h32)) ?_
                have c63 := (Option.some.inj h32).symm
                refine Under.ov (OpV.move rfl) rfl ?_
                replace h36 := cfalse c63 h36
                refine Under.skc c63 rfl rfl rfl ?_
                refine Under.skc c63 rfl rfl rfl ?_
                refine Under.skc c63 rfl rfl rfl ?_
                refine Under.ov (OpV.pick rfl (fun e => absurd (e.symm.trans c63) (by decide)) (fun _ => rfl)) rfl ?_
                refine Under.top (congrArg (fun b => SV.raw (.bool b)) (Option.some.inj h36)) ?_
                have c64 := (Option.some.inj h36).symm
                refine Under.ov (OpV.move rfl) rfl ?_
                replace h40 := cfalse c64 h40
                refine Under.skc c64 rfl rfl rfl ?_
                refine Under.skc c64 rfl rfl rfl ?_
                refine Under.skc c64 rfl rfl rfl ?_
                refine Under.ov (OpV.pick rfl (fun e => absurd (e.symm.trans c64) (by decide)) (fun _ => rfl)) rfl ?_
                refine Under.top (congrArg (fun b => SV.raw (.bool b)) (Option.some.inj h40)) ?_
                have c65 := (Option.some.inj h40).symm
                refine Under.ov (OpV.asg rfl) rfl ?_
                exact Under.nil (Under.fin 57 (SubZ.cons rfl rfl SubZ.nil) rfl k)
            · replace h20 := cfalse c45 h20
              refine Under.skc c45 rfl rfl rfl ?_
              refine Under.skc c45 rfl rfl rfl ?_
              refine Under.skc c45 rfl rfl rfl ?_
              refine Under.skc c45 rfl rfl rfl ?_
              refine Under.skc c45 rfl rfl rfl ?_
              refine Under.ov (OpV.pick rfl (fun e => absurd (e.symm.trans c45) (by decide)) (fun _ => rfl)) rfl ?_
              refine Under.top (congrArg (fun b => SV.raw (.bool b)) (Option.some.inj h20)) ?_
              have c66 := (Option.some.inj h20).symm
              refine Under.ov (OpV.move rfl) rfl ?_
              replace h24 := cfalse c66 h24
              refine Under.skc c66 rfl rfl rfl ?_
              refine Under.skc c66 rfl rfl rfl ?_
              refine Under.skc c66 rfl rfl rfl ?_
              refine Under.ov (OpV.pick rfl (fun e => absurd (e.symm.trans c66) (by decide)) (fun _ => rfl)) rfl ?_
              refine Under.top (congrArg (fun b => SV.raw (.bool b)) (Option.some.inj h24)) ?_
              have c67 := (Option.some.inj h24).symm
              refine Under.ov (OpV.move rfl) rfl ?_
              replace h28 := cfalse c67 h28
              refine Under.skc c67 rfl rfl rfl ?_
              refine Under.skc c67 rfl rfl rfl ?_
              refine Under.skc c67 rfl rfl rfl ?_
              refine Under.ov (OpV.pick rfl (fun e => absurd (e.symm.trans c67) (by decide)) (fun _ => rfl)) rfl ?_
              refine Under.top (congrArg (fun b => SV.raw (.bool b)) (Option.some.inj h28)) ?_
              have c68 := (Option.some.inj h28).symm
              refine Under.ov (OpV.move rfl) rfl ?_
              replace h32 := cfalse c68 h32
              refine Under.skc c68 rfl rfl rfl ?_
              refine Under.skc c68 rfl rfl rfl ?_
              refine Under.skc c68 rfl rfl rfl ?_
              refine Under.ov (OpV.pick rfl (fun e => absurd (e.symm.trans c68) (by decide)) (fun _ => rfl)) rfl ?_
              refine Under.top (congrArg (fun b => SV.raw (.bool b)) (Option.some.inj h32)) ?_
              have c69 := (Option.some.inj h32).symm
              refine Under.ov (OpV.move rfl) rfl ?_
              replace h36 := cfalse c69 h36
              refine Under.skc c69 rfl rfl rfl ?_
              refine Under.skc c69 rfl rfl rfl ?_
              refine Under.skc c69 rfl rfl rfl ?_
              refine Under.ov (OpV.pick rfl (fun e => absurd (e.symm.trans c69) (by decide)) (fun _ => rfl)) rfl ?_
              refine Under.top (congrArg (fun b => SV.raw (.bool b)) (Option.some.inj h36)) ?_
              have c70 := (Option.some.inj h36).symm
              refine Under.ov (OpV.move rfl) rfl ?_
              replace h40 := cfalse c70 h40
              refine Under.skc c70 rfl rfl rfl ?_
              refine Under.skc c70 rfl rfl rfl ?_
              refine Under.skc c70 rfl rfl rfl ?_
              refine Under.ov (OpV.pick rfl (fun e => absurd (e.symm.trans c70) (by decide)) (fun _ => rfl)) rfl ?_
              refine Under.top (congrArg (fun b => SV.raw (.bool b)) (Option.some.inj h40)) ?_
              have c71 := (Option.some.inj h40).symm
              refine Under.ov (OpV.asg rfl) rfl ?_
              exact Under.nil (Under.fin 57 (SubZ.cons rfl rfl SubZ.nil) rfl k)
          · replace h16 := cfalse c44 h16
            refine Under.skc c44 rfl rfl rfl ?_
            refine Under.skc c44 rfl rfl rfl ?_
            refine Under.skc c44 rfl rfl rfl ?_
            refine Under.ov (OpV.pick rfl (fun e => absurd (e.symm.trans c44) (by decide)) (fun _ => rfl)) rfl ?_
            refine Under.top (congrArg (fun b => SV.raw (.bool b)) (Option.some.inj h16)) ?_
            have c72 := (Option.some.inj h16).symm
            refine Under.ov (OpV.move rfl) rfl ?_
            replace h20 := cfalse c72 h20
            refine Under.skc c72 rfl rfl rfl ?_
            refine Under.skc c72 rfl rfl rfl ?_
            refine Under.skc c72 rfl rfl rfl ?_
            refine Under.skc c72 rfl rfl rfl ?_
            refine Under.skc c72 rfl rfl rfl ?_
            refine Under.ov (OpV.pick rfl (fun e => absurd (e.symm.trans c72) (by decide)) (fun _ => rfl)) rfl ?_
            refine Under.top (congrArg (fun b => SV.raw (.bool b)) (Option.some.inj h20)) ?_
            have c73 := (Option.some.inj h20).symm
            refine Under.ov (OpV.move rfl) rfl ?_
            replace h24 := cfalse c73 h24
            refine Under.skc c73 rfl rfl rfl ?_
            refine Under.skc c73 rfl rfl rfl ?_
            refine Under.skc c73 rfl rfl rfl ?_
            refine Under.ov (OpV.pick rfl (fun e => absurd (e.symm.trans c73) (by decide)) (fun _ => rfl)) rfl ?_
            refine Under.top (congrArg (fun b => SV.raw (.bool b)) (Option.some.inj h24)) ?_
            have c74 := (Option.some.inj h24).symm
            refine Under.ov (OpV.move rfl) rfl ?_
            replace h28 := cfalse c74 h28
            refine Under.skc c74 rfl rfl rfl ?_
            refine Under.skc c74 rfl rfl rfl ?_
            refine Under.skc c74 rfl rfl rfl ?_
            refine Under.ov (OpV.pick rfl (fun e => absurd (e.symm.trans c74) (by decide)) (fun _ => rfl)) rfl ?_
            refine Under.top (congrArg (fun b => SV.raw (.bool b)) (Option.some.inj h28)) ?_
            have c75 := (Option.some.inj h28).symm
            refine Under.ov (OpV.move rfl) rfl ?_
            replace h32 := cfalse c75 h32
            refine Under.skc c75 rfl rfl rfl ?_
            refine Under.skc c75 rfl rfl rfl ?_
            refine Under.skc c75 rfl rfl rfl ?_
            refine Under.ov (OpV.pick rfl (fun e => absurd (e.symm.trans c75) (by decide)) (fun _ => rfl)) rfl ?_
            refine Under.top (congrArg (fun b => SV.raw (.bool b)) (Option.some.inj h32)) ?_
            have c76 := (Option.some.inj h32).symm
            refine Under.ov (OpV.move rfl) rfl ?_
            replace h36 := cfalse c76 h36
            refine Under.skc c76 rfl rfl rfl ?_
            refine Under.skc c76 rfl rfl rfl ?_
            refine Under.skc c76 rfl rfl rfl ?_
            refine Under.ov (OpV.pick rfl (fun e => absurd (e.symm.trans c76) (by decide)) (fun _ => rfl)) rfl ?_
            refine Under.top (congrArg (fun b => SV.raw (.bool b)) (Option.some.inj h36)) ?_
            have c77 := (Option.some.inj h36).symm
            refine Under.ov (OpV.move rfl) rfl ?_
            replace h40 := cfalse c77 h40
            refine Under.skc c77 rfl rfl rfl ?_
            refine Under.skc c77 rfl rfl rfl ?_
            refine Under.skc c77 rfl rfl rfl ?_
            refine Under.ov (OpV.pick rfl (fun e => absurd (e.symm.trans c77) (by decide)) (fun _ => rfl)) rfl ?_
            refine Under.top (congrArg (fun b => SV.raw (.bool b)) (Option.some.inj h40)) ?_
            have c78 := (Option.some.inj h40).symm
            refine Under.ov (OpV.asg rfl) rfl ?_
            exact Under.nil (Under.fin 57 (SubZ.cons rfl rfl SubZ.nil) rfl k)
        · replace h12 := cfalse c43 h12
          refine Under.skc c43 rfl rfl rfl ?_
          refine Under.skc c43 rfl rfl rfl ?_
          refine Under.skc c43 rfl rfl rfl ?_
          refine Under.ov (OpV.pick rfl (fun e => absurd (e.symm.trans c43) (by decide)) (fun _ => rfl)) rfl ?_
          refine Under.top (congrArg (fun b => SV.raw (.bool b)) (Option.some.inj h12)) ?_
          have c79 := (Option.some.inj h12).symm
          refine Under.ov (OpV.move rfl) rfl ?_
          replace h16 := cfalse c79 h16
          refine Under.skc c79 rfl rfl rfl ?_
          refine Under.skc c79 rfl rfl rfl ?_
          refine Under.skc c79 rfl rfl rfl ?_
          refine Under.ov (OpV.pick rfl (fun e => absurd (e.symm.trans c79) (by decide)) (fun _ => rfl)) rfl ?_
          refine Under.top (congrArg (fun b => SV.raw (.bool b)) (Option.some.inj h16)) ?_
          have c80 := (Option.some.inj h16).symm
          refine Under.ov (OpV.move rfl) rfl ?_
          replace h20 := cfalse c80 h20
          refine Under.skc c80 rfl rfl rfl ?_
          refine Under.skc c80 rfl rfl rfl ?_
          refine Under.skc c80 rfl rfl rfl ?_
          refine Under.skc c80 rfl rfl rfl ?_
          refine Under.skc c80 rfl rfl rfl ?_
          refine Under.ov (OpV.pick rfl (fun e => absurd (e.symm.trans c80) (by decide)) (fun _ => rfl)) rfl ?_
          refine Under.top (congrArg (fun b => SV.raw (.bool b)) (Option.some.inj h20)) ?_
          have c81 := (Option.some.inj h20).symm
          refine Under.ov (OpV.move rfl) rfl ?_
          replace h24 := cfalse c81 h24
          refine Under.skc c81 rfl rfl rfl ?_
          refine Under.skc c81 rfl rfl rfl ?_
          refine Under.skc c81 rfl rfl rfl ?_
          refine Under.ov (OpV.pick rfl (fun e => absurd (e.symm.trans c81) (by decide)) (fun _ => rfl)) rfl ?_
          refine Under.top (congrArg (fun b => SV.raw (.bool b)) (Option.some.inj h24)) ?_
          have c82 := (Option.some.inj h24).symm
          refine Under.ov (OpV.move rfl) rfl ?_
          replace h28 := cfalse c82 h28
          refine Under.skc c82 rfl rfl rfl ?_
          refine Under.skc c82 rfl rfl rfl ?_
          refine Under.skc c82 rfl rfl rfl ?_
          refine Under.ov (OpV.pick rfl (fun e => absurd (e.symm.trans c82) (by decide)) (fun _ => rfl)) rfl ?_
          refine Under.top (congrArg (fun b => SV.raw (.bool b)) (Option.some.inj h28)) ?_
          have c83 := (Option.some.inj h28).symm
          refine Under.ov (OpV.move rfl) rfl ?_
          replace h32 := cfalse c83 h32
          refine Under.skc c83 rfl rfl rfl ?_
          refine Under.skc c83 rfl rfl rfl ?_
          refine Under.skc c83 rfl rfl rfl ?_
          refine Under.ov (OpV.pick rfl (fun e => absurd (e.symm.trans c83) (by decide)) (fun _ => rfl)) rfl ?_
          refine Under.top (congrArg (fun b => SV.raw (.bool b)) (Option.some.inj h32)) ?_
          have c84 := (Option.some.inj h32).symm
          refine Under.ov (OpV.move rfl) rfl ?_
          replace h36 := cfalse c84 h36
          refine Under.skc c84 rfl rfl rfl ?_
          refine Under.skc c84 rfl rfl rfl ?_
          refine Under.skc c84 rfl rfl rfl ?_
          refine Under.ov (OpV.pick rfl (fun e => absurd (e.symm.trans c84) (by decide)) (fun _ => rfl)) rfl ?_
          refine Under.top (congrArg (fun b => SV.raw (.bool b)) (Option.some.inj h36)) ?_
          have c85 := (Option.some.inj h36).symm
          refine Under.ov (OpV.move rfl) rfl ?_
          replace h40 := cfalse c85 h40
          refine Under.skc c85 rfl rfl rfl ?_
          refine Under.skc c85 rfl rfl rfl ?_
          refine Under.skc c85 rfl rfl rfl ?_
          refine Under.ov (OpV.pick rfl (fun e => absurd (e.symm.trans c85) (by decide)) (fun _ => rfl)) rfl ?_
          refine Under.top (congrArg (fun b => SV.raw (.bool b)) (Option.some.inj h40)) ?_
          have c86 := (Option.some.inj h40).symm
          refine Under.ov (OpV.asg rfl) rfl ?_
          exact Under.nil (Under.fin 57 (SubZ.cons rfl rfl SubZ.nil) rfl k)
      · replace h8 := cfalse c42 h8
        refine Under.skc c42 rfl rfl rfl ?_
        refine Under.skc c42 rfl rfl rfl ?_
        refine Under.skc c42 rfl rfl rfl ?_
        refine Under.ov (OpV.pick rfl (fun e => absurd (e.symm.trans c42) (by decide)) (fun _ => rfl)) rfl ?_
        refine Under.top (congrArg (fun b => SV.raw (.bool b)) (Option.some.inj h8)) ?_
        have c87 := (Option.some.inj h8).symm
        refine Under.ov (OpV.move rfl) rfl ?_
        replace h12 := cfalse c87 h12
        refine Under.skc c87 rfl rfl rfl ?_
        refine Under.skc c87 rfl rfl rfl ?_
        refine Under.skc c87 rfl rfl rfl ?_
        refine Under.ov (OpV.pick rfl (fun e => absurd (e.symm.trans c87) (by decide)) (fun _ => rfl)) rfl ?_
        refine Under.top (congrArg (fun b => SV.raw (.bool b)) (Option.some.inj h12)) ?_
        have c88 := (Option.some.inj h12).symm
        refine Under.ov (OpV.move rfl) rfl ?_
        replace h16 := cfalse c88 h16
        refine Under.skc c88 rfl rfl rfl ?_
        refine Under.skc c88 rfl rfl rfl ?_
        refine Under.skc c88 rfl rfl rfl ?_
        refine Under.ov (OpV.pick rfl (fun e => absurd (e.symm.trans c88) (by decide)) (fun _ => rfl)) rfl ?_
        refine Under.top (congrArg (fun b => SV.raw (.bool b)) (Option.some.inj h16)) ?_
        have c89 := (Option.some.inj h16).symm
        refine Under.ov (OpV.move rfl) rfl ?_
        replace h20 := cfalse c89 h20
        refine Under.skc c89 rfl rfl rfl ?_
        refine Under.skc c89 rfl rfl rfl ?_
        refine Under.skc c89 rfl rfl rfl ?_
        refine Under.skc c89 rfl rfl rfl ?_
        refine Under.skc c89 rfl rfl rfl ?_
        refine Under.ov (OpV.pick rfl (fun e => absurd (e.symm.trans c89) (by decide)) (fun _ => rfl)) rfl ?_
        refine Under.top (congrArg (fun b => SV.raw (.bool b)) (Option.some.inj h20)) ?_
        have c90 := (Option.some.inj h20).symm
        refine Under.ov (OpV.move rfl) rfl ?_
        replace h24 := cfalse c90 h24
        refine Under.skc c90 rfl rfl rfl ?_
        refine Under.skc c90 rfl rfl rfl ?_
        refine Under.skc c90 rfl rfl rfl ?_
        refine Under.ov (OpV.pick rfl (fun e => absurd (e.symm.trans c90) (by decide)) (fun _ => rfl)) rfl ?_
        refine Under.top (congrArg (fun b => SV.raw (.bool b)) (Option.some.inj h24)) ?_
        have c91 := (Option.some.inj h24).symm
        refine Under.ov (OpV.move rfl) rfl ?_
        replace h28 := cfalse c91 h28
        refine Under.skc c91 rfl rfl rfl ?_
        refine Under.skc c91 rfl rfl rfl ?_
        refine Under.skc c91 rfl rfl rfl ?_
        refine Under.ov (OpV.pick rfl (fun e => absurd (e.symm.trans c91) (by decide)) (fun _ => rfl)) rfl ?_
        refine Under.top (congrArg (fun b => SV.raw (.bool b)) (Option.some.inj h28)) ?_
        have c92 := (Option.some.inj h28).symm
        refine Under.ov (OpV.move rfl) rfl ?_
        replace h32 := cfalse c92 h32
        refine Under.skc c92 rfl rfl rfl ?_
        refine Under.skc c92 rfl rfl rfl ?_
        refine Under.skc c92 rfl rfl rfl ?_
        refine Under.ov (OpV.pick rfl (fun e => absurd (e.symm.trans c92) (by decide)) (fun _ => rfl)) rfl ?_
        refine Under.top (congrArg (fun b => SV.raw (.bool b)) (Option.some.inj h32)) ?_
        have c93 := (Option.some.inj h32).symm
        refine Under.ov (OpV.move rfl) rfl ?_
        replace h36 := cfalse c93 h36
        refine Under.skc c93 rfl rfl rfl ?_
        refine Under.skc c93 rfl rfl rfl ?_
        refine Under.skc c93 rfl rfl rfl ?_
        refine Under.ov (OpV.pick rfl (fun e => absurd (e.symm.trans c93) (by decide)) (fun _ => rfl)) rfl ?_
        refine Under.top (congrArg (fun b => SV.raw (.bool b)) (Option.some.inj h36)) ?_
        have c94 := (Option.some.inj h36).symm
        refine Under.ov (OpV.move rfl) rfl ?_
        replace h40 := cfalse c94 h40
        refine Under.skc c94 rfl rfl rfl ?_
        refine Under.skc c94 rfl rfl rfl ?_
        refine Under.skc c94 rfl rfl rfl ?_
        refine Under.ov (OpV.pick rfl (fun e => absurd (e.symm.trans c94) (by decide)) (fun _ => rfl)) rfl ?_
        refine Under.top (congrArg (fun b => SV.raw (.bool b)) (Option.some.inj h40)) ?_
        have c95 := (Option.some.inj h40).symm
        refine Under.ov (OpV.asg rfl) rfl ?_
        exact Under.nil (Under.fin 57 (SubZ.cons rfl rfl SubZ.nil) rfl k)
    · replace h4 := cfalse c41 h4
      refine Under.skc c41 rfl rfl rfl ?_
      refine Under.skc c41 rfl rfl rfl ?_
      refine Under.skc c41 rfl rfl rfl ?_
      refine Under.ov (OpV.pick rfl (fun e => absurd (e.symm.trans c41) (by decide)) (fun _ => rfl)) rfl ?_
      refine Under.top (congrArg (fun b => SV.raw (.bool b)) (Option.some.inj h4)) ?_
      have c96 := (Option.some.inj h4).symm
      refine Under.ov (OpV.move rfl) rfl ?_
      replace h8 := cfalse c96 h8
      refine Under.skc c96 rfl rfl rfl ?_
      refine Under.skc c96 rfl rfl rfl ?_
      refine Under.skc c96 rfl rfl rfl ?_
      refine Under.ov (OpV.pick rfl (fun e => absurd (e.symm.trans c96) (by decide)) (fun _ => rfl)) rfl ?_
      refine Under.top (congrArg (fun b => SV.raw (.bool b)) (Option.some.inj h8)) ?_
      have c97 := (Option.some.inj h8).symm
      refine Under.ov (OpV.move rfl) rfl ?_
      replace h12 := cfalse c97 h12
      refine Under.skc c97 rfl rfl rfl ?_
      refine Under.skc c97 rfl rfl rfl ?_
      refine Under.skc c97 rfl rfl rfl ?_
      refine Under.ov (OpV.pick rfl (fun e => absurd (e.symm.trans c97) (by decide)) (fun _ => rfl)) rfl ?_
      refine Under.top (congrArg (fun b => SV.raw (.bool b)) (Option.some.inj h12)) ?_
      have c98 := (Option.some.inj h12).symm
      refine Under.ov (OpV.move rfl) rfl ?_
      replace h16 := cfalse c98 h16
      refine Under.skc c98 rfl rfl rfl ?_
      refine Under.skc c98 rfl rfl rfl ?_
      refine Under.skc c98 rfl rfl rfl ?_
      refine Under.ov (OpV.pick rfl (fun e => absurd (e.symm.trans c98) (by decide)) (fun _ => rfl)) rfl ?_
      refine Under.top (congrArg (fun b => SV.raw (.bool b)) (Option.some.inj h16)) ?_
      have c99 := (Option.some.inj h16).symm
      refine Under.ov (OpV.move rfl) rfl ?_
      replace h20 := cfalse c99 h20
      refine Under.skc c99 rfl rfl rfl ?_
      refine Under.skc c99 rfl rfl rfl ?_
      refine Under.skc c99 rfl rfl rfl ?_
      refine Under.skc c99 rfl rfl rfl ?_
      refine Under.skc c99 rfl rfl rfl ?_
      refine Under.ov (OpV.pick rfl (fun e => absurd (e.symm.trans c99) (by decide)) (fun _ => rfl)) rfl ?_
      refine Under.top (congrArg (fun b => SV.raw (.bool b)) (Option.some.inj h20)) ?_
      have c100 := (Option.some.inj h20).symm
      refine Under.ov (OpV.move rfl) rfl ?_
      replace h24 := cfalse c100 h24
      refine Under.skc c100 rfl rfl rfl ?_
      refine Under.skc c100 rfl rfl rfl ?_
      refine Under.skc c100 rfl rfl rfl ?_
      refine Under.ov (OpV.pick rfl (fun e => absurd (e.symm.trans c100) (by decide)) (fun _ => rfl)) rfl ?_
      refine Under.top (congrArg (fun b => SV.raw (.bool b)) (Option.some.inj h24)) ?_
      have c101 := (Option.some.inj h24).symm
      refine Under.ov (OpV.move rfl) rfl ?_
      replace h28 := cfalse c101 h28
      refine Under.skc c101 rfl rfl rfl ?_
      refine Under.skc c101 rfl rfl rfl ?_
      refine Under.skc c101 rfl rfl rfl ?_
      refine Under.ov (OpV.pick rfl (fun e => absurd (e.symm.trans c101) (by decide)) (fun _ => rfl)) rfl ?_
      refine Under.top (congrArg (fun b => SV.raw (.bool b)) (Option.some.inj h28)) ?_
      have c102 := (Option.some.inj h28).symm
      refine Under.ov (OpV.move rfl) rfl ?_
      replace h32 := cfalse c102 h32
      refine Under.skc c102 rfl rfl rfl ?_
      refine Under.skc c102 rfl rfl rfl ?_
      refine Under.skc c102 rfl rfl rfl ?_
      refine Under.ov (OpV.pick rfl (fun e => absurd (e.symm.trans c102) (by decide)) (fun _ => rfl)) rfl ?_
      refine Under.top (congrArg (fun b => SV.raw (.bool b)) (Option.some.inj h32)) ?_
      have c103 := (Option.some.inj h32).symm
      refine Under.ov (OpV.move rfl) rfl ?_
      replace h36 := cfalse c103 h36
      refine Under.skc c103 rfl rfl rfl ?_
      refine Under.skc c103 rfl rfl rfl ?_
      refine Under.skc c103 rfl rfl rfl ?_
      refine Under.ov (OpV.pick rfl (fun e => absurd (e.symm.trans c103) (by decide)) (fun _ => rfl)) rfl ?_
      refine Under.top (congrArg (fun b => SV.raw (.bool b)) (Option.some.inj h36)) ?_
      have c104 := (Option.some.inj h36).symm
      refine Under.ov (OpV.move rfl) rfl ?_
      replace h40 := cfalse c104 h40
      refine Under.skc c104 rfl rfl rfl ?_
      refine Under.skc c104 rfl rfl rfl ?_
      refine Under.skc c104 rfl rfl rfl ?_
      refine Under.ov (OpV.pick rfl (fun e => absurd (e.symm.trans c104) (by decide)) (fun _ => rfl)) rfl ?_
      refine Under.top (congrArg (fun b => SV.raw (.bool b)) (Option.some.inj h40)) ?_
      have c105 := (Option.some.inj h40).symm
      refine Under.ov (OpV.asg rfl) rfl ?_
      exact Under.nil (Under.fin 57 (SubZ.cons rfl rfl SubZ.nil) rfl k)
/-- churn/churnref16.Len -/
noncomputable def f_churnref16_Len (a0 : Api_Window) : Option Int :=
  (((Loop.run (S := (Int × Int)) (R := Int) (fun (x31, x32) =>
      bif decide (x32 < (a0.Epochs.length : Int)) then
        (idx a0.Epochs x32).bind fun x41 =>
        some (.next (IntKind.wrap .i64 (x31 + (x41.Tags.length : Int)), IntKind.wrap .i64 (x32 + 1)))
      else
        some (.done x31)) (0, 0)).bind fun x35 =>
  some x35
    : Option Int)).bind fun x21 =>
  some x21
theorem f_churnref16_Len_ok {a0 : Api_Window} {r0 : Int} (hF : f_churnref16_Len a0 = some r0) (L : List Res) : Ok Try.prog 19 [SV.val kApi_Window a0] L (SV.raw (.int .i64 r0)) L := by
  unfold f_churnref16_Len at hF
  refine Ok.intro 22 [(0, .val kApi_Window a0)] Try.func19 rfl rfl rfl rfl (fun F0 => ?_)
  refine Under.seq ?_
  refine Under.region ?_
  refine Under.bxF (K := kApi_Window) rfl rdV rfl ?_
  refine Under.ov (OpV.asg rfl) rfl ?_
  refine Under.nil ?_
  refine Under.tN ?_
  refine Under.seq ?_
  refine Under.region ?_
  refine Under.ov (OpV.asg rfl) rfl ?_
  refine Under.nil ?_
  refine Under.tN ?_
  obtain ⟨r22, h23, hF⟩ := bsome hF
  refine Under.seq ?_
  refine Under.after (fun X => ∀ (x21 : Int), r22 = x21 → Under F0 22 [(3, .raw (.int .i64 x21))] (L) X) ?_ ?_
  · intro x21 h45
    subst h45
    refine Under.seq ?_
    refine Under.region ?_
    refine Under.ov (OpV.move rfl) rfl ?_
    refine Under.ov (OpV.asg rfl) rfl ?_
    refine Under.nil ?_
    refine Under.tN ?_
    refine Under.retc ?_
    exact Under.retE Try.results19 rfl (congrArg (fun y => SV.raw (.int .i64 y)) (Option.some.inj hF)) rfl
  · intro K k24
    refine Under.seq ?_
    refine Under.region ?_
    refine Under.ov (OpV.asg rfl) rfl ?_
    refine Under.nil ?_
    refine Under.tN ?_
    refine Under.block ?_
    obtain ⟨r38, h39, h23⟩ := bsome h23
    refine Under.loop (S := (Int × Int)) (C := Unit) () (fun (x44 : (Int × Int)) (y : Unit) => [(1, .ptr kApi_Window a0), (3, .raw (.int .i64 x44.1)), (4, .raw (.int .i64 x44.2))]) (fun (x44 : (Int × Int)) (y : Unit) => L) h39 (sub_cons rfl (sub_cons rfl (sub_cons rfl (sub_nil _)))) rfl (fun x44 y o40 h36 d37 => ?_)
    obtain ⟨x31, x32⟩ := x44
    dsimp only at h36 ⊢
    refine Under.seq ?_
    refine Under.seq ?_
    refine Under.region ?_
    refine Under.ov (OpV.move rfl) rfl ?_
    refine Under.ov (OpV.fd fb27_1 rfl rfl) rfl ?_
    refine Under.ov (OpV.ld kt25 rfl) rfl ?_
    refine Under.ov (OpV.len Try.underlying25 rfl rdV) rfl ?_
    refine Under.ov (OpV.bin rfl rfl rfl) rfl ?_
    refine Under.nil ?_
    refine Under.tN ?_
    refine Under.ite h36 rfl (fun h36 => ?_) (fun h36 => ?_)
    · refine Under.code_skip ?_
      refine Under.tN ?_
      refine Under.seq ?_
      refine Under.block ?_
      refine Under.region ?_
      refine Under.ov (OpV.move rfl) rfl ?_
      refine Under.ov (OpV.fd fb27_1 rfl rfl) rfl ?_
      refine Under.ov (OpV.ld kt25 rfl) rfl ?_
      refine Under.ov (OpV.move rfl) rfl ?_
      obtain ⟨x41, h42, h36⟩ := bsome h36
      refine Under.ov (OpV.ixS h42 Try.underlying25 sz61 rfl rdV rfl) rfl ?_
      refine Under.ov (OpV.fd fb61_1 rfl rfl) rfl ?_
      refine Under.ov (OpV.ld kt36 rfl) rfl ?_
      refine Under.ov (OpV.len Try.underlying36 rfl rdV) rfl ?_
      refine Under.ov (OpV.bin rfl rfl rfl) rfl ?_
      refine Under.ov (OpV.asg rfl) rfl ?_
      refine Under.nil ?_
      refine Under.bN ?_
      refine Under.tN ?_
      refine Under.region ?_
      refine Under.ov (OpV.move rfl) rfl ?_
      refine Under.ov (OpV.bin rfl rfl rfl) rfl ?_
      refine Under.ov (OpV.asg rfl) rfl ?_
      refine Under.nil ?_
      exact Under.next _ () h36 (sub_cons rfl (sub_cons rfl (sub_cons rfl (sub_nil _)))) rfl
    · refine Under.exit ?_
      refine Under.tE ?_
      have e43 := done_eq h36 d37
      subst e43
      refine Under.tE ?_
      refine Under.bH ?_
      refine Under.tN ?_
      exact Under.weak (k24 _ (Option.some.inj h23).symm) (sub_cons rfl (sub_nil _))
/-- churn/churnref16.less -/
noncomputable def f_churnref16_less (a0 : List Int) (a1 : List Int) : Option Bool :=
  (((Loop.run (S := Int) (R := (Unit ⊕ Bool)) (fun x63 =>
      bif decide (x63 < 16) then
        (idx a0 x63).bind fun x77 =>
        (idx a1 x63).bind fun x79 =>
        bif x77 != x79 then
          (idx a0 x63).bind fun x81 =>
          (idx a1 x63).bind fun x83 =>
          some (.done (.inr (decide (x81 < x83))))
        else
          some (.next (IntKind.wrap .i64 (x63 + 1)))
      else
        some (.done (.inl ()))) 0).bind fun r74 => match r74 with
    | .inl _ =>
      some (.inr ())
    | .inr z =>
      some (.inl z)
    : Option (Bool ⊕ Unit))).bind fun r43 => match r43 with
    | .inl z =>
      some z
    | .inr _ =>
      some false
theorem f_churnref16_less_ok {a0 : List Int} {a1 : List Int} {r0 : Bool} (hF : f_churnref16_less a0 a1 = some r0) (L : List Res) : Ok Try.prog 39 [SV.val (kArr 16 (kInt .u8)) a0, SV.val (kArr 16 (kInt .u8)) a1] L (SV.raw (.bool r0)) L := by
  unfold f_churnref16_less at hF
  refine Ok.intro 24 [(0, .val (kArr 16 (kInt .u8)) a0), (1, .val (kArr 16 (kInt .u8)) a1)] Try.func39 rfl rfl rfl rfl (fun F0 => ?_)
  refine Under.seq ?_
  refine Under.region ?_
  refine Under.bxF (K := kArr 16 (kInt .u8)) rfl rdV rfl ?_
  refine Under.bxF (K := kArr 16 (kInt .u8)) rfl rdV rfl ?_
  refine Under.ov (OpV.asg rfl) rfl ?_
  refine Under.nil ?_
  refine Under.tN ?_
  obtain ⟨r43, h44, hF⟩ := bsome hF
  refine Under.seq ?_
  refine Under.after (fun X => ∀ (_ : Unit), r43 = (.inr ()) → Under F0 24 [] (L) X) ?_ ?_
  · intro _ h90
    subst h90
    refine Under.seq ?_
    refine Under.region ?_
    refine Under.ov (OpV.asg rfl) rfl ?_
    refine Under.nil ?_
    refine Under.tN ?_
    refine Under.retc ?_
    exact Under.retE Try.results39 rfl (congrArg (fun y => SV.raw (.bool y)) (Option.some.inj hF)) rfl
  · intro K k45
    refine Under.seq ?_
    refine Under.region ?_
    refine Under.ov (OpV.asg rfl) rfl ?_
    refine Under.nil ?_
    refine Under.tN ?_
    refine Under.block ?_
    obtain ⟨r74, h75, h44⟩ := bsome h44
    refine Under.loop (S := Int) (C := Unit) () (fun (x89 : Int) (y : Unit) => [(2, .ptr (kArr 16 (kInt .u8)) a0), (3, .ptr (kArr 16 (kInt .u8)) a1), (5, .raw (.int .i64 x89))]) (fun (x89 : Int) (y : Unit) => L) h75 (sub_cons rfl (sub_cons rfl (sub_cons rfl (sub_nil _)))) rfl (fun x89 y o76 h72 d73 => ?_)
    refine Under.seq ?_
    refine Under.seq ?_
    refine Under.region ?_
    refine Under.ov (OpV.move rfl) rfl ?_
    refine Under.ov (OpV.bin rfl rfl rfl) rfl ?_
    refine Under.nil ?_
    refine Under.tN ?_
    refine Under.ite h72 rfl (fun h72 => ?_) (fun h72 => ?_)
    · refine Under.code_skip ?_
      refine Under.tN ?_
      refine Under.seq ?_
      refine Under.block ?_
      refine Under.seq ?_
      refine Under.draw rfl (by kernel_rfl) fun F hF0 => ?_
      refine UnderQ.ov (OpV.move rfl) rfl ?_
      obtain ⟨x77, h78, h72⟩ := bsome h72
      refine UnderQ.ov (OpV.ixA h78 Try.underlying43 sz5 rfl rfl) rfl ?_
      refine UnderQ.ov (OpV.ldI kt5 rfl) rfl ?_
      refine UnderQ.ov (OpV.move rfl) rfl ?_
      obtain ⟨x79, h80, h72⟩ := bsome h72
      refine UnderQ.ov (OpV.ixA h80 Try.underlying43 sz5 rfl rfl) rfl ?_
      refine UnderQ.ov (OpV.ldI kt5 rfl) rfl ?_
      refine UnderQ.ov (OpV.bin rfl rfl rfl) rfl ?_
      refine UnderQ.nil hF0 ?_
      refine Under.tN ?_
      refine Under.ite h72 rfl (fun h72 => ?_) (fun h72 => ?_)
      · refine Under.seq ?_
        refine Under.draw rfl (by kernel_rfl) fun F hF0 => ?_
        refine UnderQ.ov (OpV.move rfl) rfl ?_
        obtain ⟨x81, h82, h72⟩ := bsome h72
        refine UnderQ.ov (OpV.ixA h82 Try.underlying43 sz5 rfl rfl) rfl ?_
        refine UnderQ.ov (OpV.ldI kt5 rfl) rfl ?_
        refine UnderQ.ov (OpV.move rfl) rfl ?_
        obtain ⟨x83, h84, h72⟩ := bsome h72
        refine UnderQ.ov (OpV.ixA h84 Try.underlying43 sz5 rfl rfl) rfl ?_
        refine UnderQ.ov (OpV.ldI kt5 rfl) rfl ?_
        refine UnderQ.ov (OpV.bin rfl rfl rfl) rfl ?_
        refine UnderQ.ov (OpV.asg rfl) rfl ?_
        refine UnderQ.nil hF0 ?_
        refine Under.tN ?_
        refine Under.retc ?_
        refine Under.bR ?_
        refine Under.tR ?_
        have e85 := done_eq h72 d73
        subst e85
        refine Under.tR ?_
        refine Under.bR ?_
        refine Under.tR ?_
        have e87 := Option.some.inj h44
        subst e87
        exact Under.retE Try.results39 rfl (congrArg (fun y => SV.raw (.bool y)) (Option.some.inj hF)) rfl
      · refine Under.code_skip ?_
        refine Under.bN ?_
        refine Under.tN ?_
        refine Under.region ?_
        refine Under.ov (OpV.move rfl) rfl ?_
        refine Under.ov (OpV.bin rfl rfl rfl) rfl ?_
        refine Under.ov (OpV.asg rfl) rfl ?_
        refine Under.nil ?_
        exact Under.next _ () h72 (sub_cons rfl (sub_cons rfl (sub_cons rfl (sub_nil _)))) rfl
    · refine Under.exit ?_
      refine Under.tE ?_
      have e88 := done_eq h72 d73
      subst e88
      refine Under.tE ?_
      refine Under.bH ?_
      refine Under.tN ?_
      exact Under.weak (k45 () (Option.some.inj h44).symm) (sub_nil _)
/-- churn/churnref16.all -/
noncomputable def f_churnref16_all (a0 : Api_Window) : Option (List (List Int)) :=
  (((Loop.run (S := ((List (List Int)) × Int)) (R := (List (List Int))) (fun (x55, x56) =>
      bif decide (x56 < (a0.Epochs.length : Int)) then
        (idx a0.Epochs x56).bind fun x69 =>
        (app x55 x69.Tags).bind fun z71 =>
        some (.next (z71, IntKind.wrap .i64 (x56 + 1)))
      else
        some (.done x55)) ([], 0)).bind fun x63 =>
  some x63
    : Option (List (List Int)))).bind fun x37 =>
  some x37
theorem f_churnref16_all_ok {a0 : Api_Window} {r0 : (List (List Int))} (hF : f_churnref16_all a0 = some r0) (L : List Res) : Ok Try.prog 41 [SV.val kApi_Window a0] L (SV.val (kSl (kArr 16 (kInt .u8))) r0) L := by
  unfold f_churnref16_all at hF
  refine Ok.intro 21 [(0, .val kApi_Window a0)] Try.func41 rfl rfl rfl rfl (fun F0 => ?_)
  refine Under.seq ?_
  refine Under.region ?_
  refine Under.bxF (K := kApi_Window) rfl rdV rfl ?_
  refine Under.ov (OpV.asg rfl) rfl ?_
  refine Under.nil ?_
  refine Under.tN ?_
  refine Under.seq ?_
  refine Under.region ?_
  refine Under.ov (OpV.asg rfl) rfl ?_
  refine Under.nil ?_
  refine Under.tN ?_
  obtain ⟨r38, h39, hF⟩ := bsome hF
  refine Under.seq ?_
  refine Under.after (fun X => ∀ (x37 : List (List Int)) (v36 : Value), r38 = x37 → Under F0 21 [(3, .raw v36)] ((.own (kArr 16 (kInt .u8)) v36 43 x37) :: L) X) ?_ ?_
  · intro x37 v36 h76
    subst h76
    refine Under.seq ?_
    refine Under.region ?_
    refine Under.ov (OpV.move rfl) rfl ?_
    refine Under.ov (OpV.asg rfl) rfl ?_
    refine Under.nil ?_
    refine Under.tN ?_
    refine Under.retc ?_
    refine Under.frzO (t := 2) rfl ?_
    exact Under.retE Try.results41 rfl (congrArg (fun y => SV.val (kSl (kArr 16 (kInt .u8))) y) (Option.some.inj hF)) rfl
  · intro K k40
    refine Under.seq ?_
    refine Under.region ?_
    refine Under.ov (OpV.asg rfl) rfl ?_
    refine Under.nil ?_
    refine Under.tN ?_
    refine Under.block ?_
    obtain ⟨r66, h67, h39⟩ := bsome h39
    refine Under.ownNil (K := kArr 16 (kInt .u8)) (e := 43) ?_
    refine Under.loop (S := ((List (List Int)) × Int)) (C := Value) (.slice none 0 0) (fun (x75 : ((List (List Int)) × Int)) (y : Value) => [(1, .ptr kApi_Window a0), (3, .raw y), (4, .raw (.int .i64 x75.2))]) (fun (x75 : ((List (List Int)) × Int)) (y : Value) => (.own (kArr 16 (kInt .u8)) y 43 x75.1) :: L) h67 (sub_cons rfl (sub_cons rfl (sub_cons rfl (sub_nil _)))) rfl (fun x75 y o68 h64 d65 => ?_)
    obtain ⟨x55, x56⟩ := x75
    dsimp only at h64 ⊢
    refine Under.seq ?_
    refine Under.seq ?_
    refine Under.region ?_
    refine Under.ov (OpV.move rfl) rfl ?_
    refine Under.ov (OpV.fd fb27_1 rfl rfl) rfl ?_
    refine Under.ov (OpV.ld kt25 rfl) rfl ?_
    refine Under.ov (OpV.len Try.underlying25 rfl rdV) rfl ?_
    refine Under.ov (OpV.bin rfl rfl rfl) rfl ?_
    refine Under.nil ?_
    refine Under.tN ?_
    refine Under.ite h64 rfl (fun h64 => ?_) (fun h64 => ?_)
    · refine Under.code_skip ?_
      refine Under.tN ?_
      refine Under.seq ?_
      refine Under.block ?_
      refine Under.region ?_
      refine Under.ov (OpV.move rfl) rfl ?_
      refine Under.ov (OpV.fd fb27_1 rfl rfl) rfl ?_
      refine Under.ov (OpV.ld kt25 rfl) rfl ?_
      refine Under.ov (OpV.move rfl) rfl ?_
      obtain ⟨x69, h70, h64⟩ := bsome h64
      refine Under.ov (OpV.ixS h70 Try.underlying25 sz61 rfl rdV rfl) rfl ?_
      refine Under.ov (OpV.fd fb61_1 rfl rfl) rfl ?_
      refine Under.ov (OpV.ld kt36 rfl) rfl ?_
      obtain ⟨z71, h72, h64⟩ := bsome h64
      refine Under.app h72 Try.underlying36 AT43 rfl rfl rdV rfl fun v73 => ?_
      refine Under.ov (OpV.asg rfl) rfl ?_
      refine Under.nil ?_
      refine Under.bN ?_
      refine Under.tN ?_
      refine Under.region ?_
      refine Under.ov (OpV.move rfl) rfl ?_
      refine Under.ov (OpV.bin rfl rfl rfl) rfl ?_
      refine Under.ov (OpV.asg rfl) rfl ?_
      refine Under.nil ?_
      exact Under.next _ v73 h64 (sub_cons rfl (sub_cons rfl (sub_cons rfl (sub_nil _)))) rfl
    · refine Under.exit ?_
      refine Under.tE ?_
      have e74 := done_eq h64 d65
      subst e74
      refine Under.tE ?_
      refine Under.bH ?_
      refine Under.tN ?_
      exact Under.weak (k40 _ _ (Option.some.inj h39).symm) (sub_cons rfl (sub_nil _))
/-- churn/churnref16.sorted -/
noncomputable def f_churnref16_sorted : Nat → (List (List Int)) → Option (List (List Int))
  | 0, _ => none
  | fuel + 1, a0 =>
    bif decide ((a0.length : Int) < 2) then
      bif mkB 0 1 then
      (app (List.replicate (Int.toNat 0) (List.replicate 16 0)) a0).bind fun z4 =>
      some z4
      else none
    else
      (sub a0 0 (IntKind.wrap .i64 (Int.tdiv (a0.length : Int) 2))).bind fun x7 =>
      (f_churnref16_sorted fuel x7).bind fun y9 =>
      (sub a0 (IntKind.wrap .i64 (Int.tdiv (a0.length : Int) 2)) (a0.length : Int)).bind fun x11 =>
      (f_churnref16_sorted fuel x11).bind fun y13 =>
      bif mkB 0 (a0.length : Int) then
      (((Loop.run (S := ((List (List Int)) × Int × Int)) (R := (List (List Int))) (fun (x327, x328, x329) =>
          bif (decide (x328 < (y9.length : Int))) || (decide (x329 < (y13.length : Int))) then
            ((bif x329 == (y13.length : Int) then
              some true
            else
              ((bif decide (x328 < (y9.length : Int)) then
                (idx y13 x329).bind fun x384 =>
                (idx y9 x328).bind fun x386 =>
                (f_churnref16_less x384 x386).bind fun y388 =>
                some (!y388)
              else
                some false
                : Option Bool)).bind fun x390 =>
              some x390
              : Option Bool)).bind fun x392 =>
            bif x392 then
              ((((bif decide (x329 < (y13.length : Int)) then
                (idx y9 x328).bind fun x411 =>
                (idx y13 x329).bind fun x413 =>
                some (x411 == x413)
              else
                some false
                : Option Bool)).bind fun x415 =>
              bif x415 then
                some (IntKind.wrap .i64 (x329 + 1))
              else
                some x329
                : Option Int)).bind fun x402 =>
              (idx y9 x328).bind fun x406 =>
              (app x327 [x406]).bind fun z408 =>
              some (.next (z408, IntKind.wrap .i64 (x328 + 1), x402))
            else
              (idx y13 x329).bind fun x420 =>
              (app x327 [x420]).bind fun z422 =>
              some (.next (z422, x328, IntKind.wrap .i64 (x329 + 1)))
          else
            some (.done x327)) (List.replicate (Int.toNat 0) (List.replicate 16 0), 0, 0)).bind fun x378 =>
      some x378
        : Option (List (List Int)))).bind fun x224 =>
      some x224
      else none
theorem f_churnref16_sorted_ok {fuel : Nat} : ∀ {a0 : List (List Int)} {r0 : (List (List Int))} (hF : f_churnref16_sorted fuel a0 = some r0) (L : List Res), Ok Try.prog 40 [SV.val (kSl (kArr 16 (kInt .u8))) a0] L (SV.val (kSl (kArr 16 (kInt .u8))) r0) L := by
  induction fuel with
  | zero => intro a0 r0 hF; cases hF
  | succ fuel ih =>
    intro a0 r0 hF L
    rw [f_churnref16_sorted] at hF
    refine Ok.intro 99 [(0, .val (kSl (kArr 16 (kInt .u8))) a0)] Try.func40 rfl rfl rfl rfl (fun F0 => ?_)
    refine Under.seq ?_
    refine Under.region ?_
    refine Under.ov (OpV.asg rfl) rfl ?_
    refine Under.nil ?_
    refine Under.tN ?_
    refine Under.seq ?_
    refine Under.seq ?_
    refine Under.region ?_
    refine Under.ov (OpV.move rfl) rfl ?_
    refine Under.ov (OpV.len Try.underlying36 rfl rdV) rfl ?_
    refine Under.ov (OpV.bin rfl rfl rfl) rfl ?_
    refine Under.nil ?_
    refine Under.tN ?_
    refine Under.ite hF rfl (fun hF => ?_) (fun hF => ?_)
    · refine Under.seq ?_
      refine Under.region ?_
      obtain ⟨h2, hF⟩ := gsome hF
      refine Under.mk h2 Try.underlying36 AT43 rfl rfl rfl fun v1 => ?_
      refine Under.ov (OpV.asg rfl) rfl ?_
      refine Under.nil ?_
      refine Under.tN ?_
      refine Under.seq ?_
      refine Under.region ?_
      refine Under.ov (OpV.move rfl) rfl ?_
      refine Under.ov (OpV.move rfl) rfl ?_
      obtain ⟨z4, h5, hF⟩ := bsome hF
      refine Under.app h5 Try.underlying36 AT43 rfl rfl rdV rfl fun v6 => ?_
      refine Under.ov (OpV.asg rfl) rfl ?_
      refine Under.nil ?_
      refine Under.tN ?_
      refine Under.retc ?_
      refine Under.tR ?_
      refine Under.frzO (t := 2) rfl ?_
      exact Under.retE Try.results40 rfl (congrArg (fun y => SV.val (kSl (kArr 16 (kInt .u8))) y) (Option.some.inj hF)) rfl
    · refine Under.code_skip ?_
      refine Under.tN ?_
      refine Under.seq ?_
      refine Under.region ?_
      refine Under.ov (OpV.move rfl) rfl ?_
      refine Under.ov (OpV.move rfl) rfl ?_
      refine Under.ov (OpV.len Try.underlying36 rfl rdV) rfl ?_
      refine Under.ov (OpV.quo rfl rfl (by decide) rfl) rfl ?_
      obtain ⟨x7, h8, hF⟩ := bsome hF
      refine Under.ov (OpV.slH h8 Try.underlying36 sz43 rfl rdV rfl) rfl ?_
      obtain ⟨y9, h10, hF⟩ := bsome hF
      refine Under.call Try.call40 rfl rfl (ih h10 _) rfl ?_
      refine Under.ov (OpV.asg rfl) rfl ?_
      refine Under.nil ?_
      refine Under.tN ?_
      refine Under.seq ?_
      refine Under.region ?_
      refine Under.ov (OpV.move rfl) rfl ?_
      refine Under.ov (OpV.move rfl) rfl ?_
      refine Under.ov (OpV.len Try.underlying36 rfl rdV) rfl ?_
      refine Under.ov (OpV.quo rfl rfl (by decide) rfl) rfl ?_
      obtain ⟨x11, h12, hF⟩ := bsome hF
      refine Under.ov (OpV.slL h12 Try.underlying36 sz43 rfl rdV rfl) rfl ?_
      obtain ⟨y13, h14, hF⟩ := bsome hF
      refine Under.call Try.call40 rfl rfl (ih h14 _) rfl ?_
      refine Under.ov (OpV.asg rfl) rfl ?_
      refine Under.nil ?_
      refine Under.tN ?_
      refine Under.seq ?_
      refine Under.region ?_
      refine Under.ov (OpV.move rfl) rfl ?_
      refine Under.ov (OpV.len Try.underlying36 rfl rdV) rfl ?_
      obtain ⟨h16, hF⟩ := gsome hF
      refine Under.mk h16 Try.underlying36 AT43 rfl rfl rfl fun v15 => ?_
      refine Under.ov (OpV.asg rfl) rfl ?_
      refine Under.nil ?_
      refine Under.tN ?_
      refine Under.seq ?_
      refine Under.region ?_
      refine Under.ov (OpV.asg rfl) rfl ?_
      refine Under.ov (OpV.asg rfl) rfl ?_
      refine Under.nil ?_
      refine Under.tN ?_
      obtain ⟨r225, h226, hF⟩ := bsome hF
      refine Under.seq ?_
      refine Under.after (fun X => ∀ (x224 : List (List Int)) (v223 : Value), r225 = x224 → Under F0 99 [(6, .raw v223)] ((.own (kArr 16 (kInt .u8)) v223 43 x224) :: L) X) ?_ ?_
      · intro x224 v223 h433
        subst h433
        refine Under.seq ?_
        refine Under.region ?_
        refine Under.ov (OpV.move rfl) rfl ?_
        refine Under.ov (OpV.asg rfl) rfl ?_
        refine Under.nil ?_
        refine Under.tN ?_
        refine Under.retc ?_
        refine Under.frzO (t := 2) rfl ?_
        exact Under.retE Try.results40 rfl (congrArg (fun y => SV.val (kSl (kArr 16 (kInt .u8))) y) (Option.some.inj hF)) rfl
      · intro K k227
        refine Under.block ?_
        obtain ⟨r381, h382, h226⟩ := bsome h226
        refine Under.loop (S := ((List (List Int)) × Int × Int)) (C := Value) v15 (fun (x432 : ((List (List Int)) × Int × Int)) (y : Value) => [(4, .val (kSl (kArr 16 (kInt .u8))) y9), (5, .val (kSl (kArr 16 (kInt .u8))) y13), (6, .raw y), (7, .raw (.int .i64 x432.2.1)), (8, .raw (.int .i64 x432.2.2))]) (fun (x432 : ((List (List Int)) × Int × Int)) (y : Value) => (.own (kArr 16 (kInt .u8)) y 43 x432.1) :: L) h382 (sub_cons rfl (sub_cons rfl (sub_cons rfl (sub_cons rfl (sub_cons rfl (sub_nil _)))))) rfl (fun x432 y o383 h379 d380 => ?_)
        obtain ⟨x327, x328, x329⟩ := x432
        dsimp only at h379 ⊢
        refine Under.seq ?_
        refine Under.seq ?_
        refine Under.rj [(40, .raw (.bool ((decide (x328 < (y9.length : Int))) || (decide (x329 < (y13.length : Int))))))] ?_ (fun k => ?_)
        · refine Under.tN ?_
          refine Under.ite h379 rfl (fun h379 => ?_) (fun h379 => ?_)
          · refine Under.code_skip ?_
            refine Under.tN ?_
            refine Under.block ?_
            refine Under.seq ?_
            obtain ⟨x392, h393, h379⟩ := bsome h379
            refine Under.drawj [(62, .raw (.bool x392))] rfl (by kernel_rfl) ?_ (fun k F hF0 => ?_)
            · refine Under.tN ?_
              refine Under.ite h379 rfl (fun h379 => ?_) (fun h379 => ?_)
              · obtain ⟨r403, h404, h379⟩ := bsome h379
                refine Under.seq ?_
                refine Under.after (fun X => ∀ (x402 : Int), r403 = x402 → Under F0 99 [(4, .val (kSl (kArr 16 (kInt .u8))) y9), (5, .val (kSl (kArr 16 (kInt .u8))) y13), (6, .raw y), (7, .raw (.int .i64 x328)), (8, .raw (.int .i64 x402))] ((.own (kArr 16 (kInt .u8)) y 43 x327) :: L) X) ?_ ?_
                · intro x402 h419
                  subst h419
                  refine Under.seq ?_
                  refine Under.region ?_
                  refine Under.ov (OpV.move rfl) rfl ?_
                  refine Under.ov (OpV.move rfl) rfl ?_
                  refine Under.ov (OpV.move rfl) rfl ?_
                  obtain ⟨x406, h407, h379⟩ := bsome h379
                  refine Under.ov (OpV.ixS h407 Try.underlying36 sz43 rfl rdV rfl) rfl ?_
                  refine Under.ov (OpV.ld kt43 rfl) rfl ?_
                  refine Under.bsF (ys := [x406]) Try.underlying36 ET43 (BldA.cons rfl rfl rdV (BldA.nil _)) rfl rfl ?_
                  obtain ⟨z408, h409, h379⟩ := bsome h379
                  refine Under.app h409 Try.underlying36 AT43 rfl rfl rdV rfl fun v410 => ?_
                  refine Under.ov (OpV.asg rfl) rfl ?_
                  refine Under.nil ?_
                  refine Under.tN ?_
                  refine Under.region ?_
                  refine Under.ov (OpV.move rfl) rfl ?_
                  refine Under.ov (OpV.bin rfl rfl rfl) rfl ?_
                  refine Under.ov (OpV.asg rfl) rfl ?_
                  refine Under.nil ?_
                  refine Under.bN ?_
                  exact Under.next _ v410 h379 (sub_cons rfl (sub_cons rfl (sub_cons rfl (sub_cons rfl (sub_cons rfl (sub_nil _)))))) rfl
                · intro K k405
                  refine Under.seq ?_
                  obtain ⟨x415, h416, h404⟩ := bsome h404
                  refine Under.drawj [(77, .raw (.bool x415))] rfl (by kernel_rfl) ?_ (fun k F hF0 => ?_)
                  · refine Under.tN ?_
                    refine Under.ite h404 rfl (fun h404 => ?_) (fun h404 => ?_)
                    · refine Under.region ?_
                      refine Under.ov (OpV.move rfl) rfl ?_
                      refine Under.ov (OpV.bin rfl rfl rfl) rfl ?_
                      refine Under.ov (OpV.asg rfl) rfl ?_
                      refine Under.nil ?_
                      refine Under.tN ?_
                      exact Under.weak (k405 _ (Option.some.inj h404).symm) (sub_cons rfl (sub_cons rfl (sub_cons rfl (sub_cons rfl (sub_cons rfl (sub_nil _))))))
                    · refine Under.code_skip ?_
                      refine Under.tN ?_
                      exact Under.weak (k405 _ (Option.some.inj h404).symm) (sub_cons rfl (sub_cons rfl (sub_cons rfl (sub_cons rfl (sub_cons rfl (sub_nil _))))))
                  · refine UnderQ.ov (OpV.move rfl) rfl ?_
                    refine UnderQ.ov (OpV.move rfl) rfl ?_
                    refine UnderQ.ov (OpV.len Try.underlying36 rfl rdV) rfl ?_
                    refine UnderQ.ov (OpV.bin rfl rfl rfl) rfl ?_
                    refine UnderQ.ov (OpV.move rfl) rfl ?_
                    refine UnderQ.byc (t := 67) rfl (fun c417 => ?_) (fun c417 => ?_)
                    · replace h416 := ctrue c417 h416
                      obtain ⟨x411, h412, h416⟩ := bsome h416
                      obtain ⟨x413, h414, h416⟩ := bsome h416
                      refine UnderQ.goc c417 rfl rfl ?_
                      refine UnderQ.ov (OpV.move rfl) rfl ?_
                      refine UnderQ.goc c417 rfl rfl ?_
                      refine UnderQ.ov (OpV.move rfl) rfl ?_
                      refine UnderQ.goc c417 rfl rfl ?_
                      refine UnderQ.ov (OpV.ixS h412 Try.underlying36 sz43 rfl rdV rfl) rfl ?_
                      refine UnderQ.goc c417 rfl rfl ?_
                      refine UnderQ.ov (OpV.ld kt43 rfl) rfl ?_
                      refine UnderQ.goc c417 rfl rfl ?_
                      refine UnderQ.ov (OpV.move rfl) rfl ?_
                      refine UnderQ.goc c417 rfl rfl ?_
                      refine UnderQ.ov (OpV.move rfl) rfl ?_
                      refine UnderQ.goc c417 rfl rfl ?_
                      refine UnderQ.ov (OpV.ixS h414 Try.underlying36 sz43 rfl rdV rfl) rfl ?_
                      refine UnderQ.goc c417 rfl rfl ?_
                      refine UnderQ.ov (OpV.ld kt43 rfl) rfl ?_
                      refine UnderQ.goc c417 rfl rfl ?_
                      refine UnderQ.ov (OpV.eqK eqk43 eqg43 rfl rfl rfl rdV rfl rdV) rfl ?_
                      refine UnderQ.ov (OpV.pick rfl (fun _ => rfl) (fun e => absurd (e.symm.trans c417) (by decide))) rfl ?_
                      refine UnderQ.top (congrArg (fun b => SV.raw (.bool b)) (Option.some.inj h416)) ?_
                      exact UnderQ.fin 15 hF0 (SubZ.cons rfl rfl SubZ.nil) rfl k
                    · replace h416 := cfalse c417 h416
                      refine UnderQ.skc c417 rfl rfl rfl ?_
                      refine UnderQ.skc c417 rfl rfl rfl ?_
                      refine UnderQ.skc c417 rfl rfl rfl ?_
                      refine UnderQ.skc c417 rfl rfl rfl ?_
                      refine UnderQ.skc c417 rfl rfl rfl ?_
                      refine UnderQ.skc c417 rfl rfl rfl ?_
                      refine UnderQ.skc c417 rfl rfl rfl ?_
                      refine UnderQ.skc c417 rfl rfl rfl ?_
                      refine UnderQ.skc c417 rfl rfl rfl ?_
                      refine UnderQ.ov (OpV.pick rfl (fun e => absurd (e.symm.trans c417) (by decide)) (fun _ => rfl)) rfl ?_
                      refine UnderQ.top (congrArg (fun b => SV.raw (.bool b)) (Option.some.inj h416)) ?_
                      have c418 := (Option.some.inj h416).symm
                      exact UnderQ.fin 15 hF0 (SubZ.cons rfl rfl SubZ.nil) rfl k
              · refine Under.seq ?_
                refine Under.region ?_
                refine Under.ov (OpV.move rfl) rfl ?_
                refine Under.ov (OpV.move rfl) rfl ?_
                refine Under.ov (OpV.move rfl) rfl ?_
                obtain ⟨x420, h421, h379⟩ := bsome h379
                refine Under.ov (OpV.ixS h421 Try.underlying36 sz43 rfl rdV rfl) rfl ?_
                refine Under.ov (OpV.ld kt43 rfl) rfl ?_
                refine Under.bsF (ys := [x420]) Try.underlying36 ET43 (BldA.cons rfl rfl rdV (BldA.nil _)) rfl rfl ?_
                obtain ⟨z422, h423, h379⟩ := bsome h379
                refine Under.app h423 Try.underlying36 AT43 rfl rfl rdV rfl fun v424 => ?_
                refine Under.ov (OpV.asg rfl) rfl ?_
                refine Under.nil ?_
                refine Under.tN ?_
                refine Under.region ?_
                refine Under.ov (OpV.move rfl) rfl ?_
                refine Under.ov (OpV.bin rfl rfl rfl) rfl ?_
                refine Under.ov (OpV.asg rfl) rfl ?_
                refine Under.nil ?_
                refine Under.bN ?_
                exact Under.next _ v424 h379 (sub_cons rfl (sub_cons rfl (sub_cons rfl (sub_cons rfl (sub_cons rfl (sub_nil _)))))) rfl
            · refine UnderQ.ov (OpV.move rfl) rfl ?_
              refine UnderQ.ov (OpV.move rfl) rfl ?_
              refine UnderQ.ov (OpV.len Try.underlying36 rfl rdV) rfl ?_
              refine UnderQ.ov (OpV.bin rfl rfl rfl) rfl ?_
              refine UnderQ.ov (OpV.move rfl) rfl ?_
              refine UnderQ.byc (t := 45) rfl (fun c425 => ?_) (fun c425 => ?_)
              · replace h393 := ctrue c425 h393
                refine UnderQ.skc c425 rfl rfl rfl ?_
                refine UnderQ.skc c425 rfl rfl rfl ?_
                refine UnderQ.skc c425 rfl rfl rfl ?_
                refine UnderQ.skc c425 rfl rfl rfl ?_
                refine UnderQ.skc c425 rfl rfl rfl ?_
                refine UnderQ.sku rfl rfl rfl ?_
                refine UnderQ.sku rfl rfl rfl ?_
                refine UnderQ.sku rfl rfl rfl ?_
                refine UnderQ.sku rfl rfl rfl ?_
                refine UnderQ.sku rfl rfl rfl ?_
                refine UnderQ.sku rfl rfl rfl ?_
                refine UnderQ.sku rfl rfl rfl ?_
                refine UnderQ.sku rfl rfl rfl ?_
                refine UnderQ.sku rfl rfl rfl ?_
                refine UnderQ.sku rfl rfl rfl ?_
                refine UnderQ.skc c425 rfl rfl rfl ?_
                refine UnderQ.ov (OpV.pick rfl (fun _ => rfl) (fun e => absurd (e.symm.trans c425) (by decide))) rfl ?_
                refine UnderQ.top (congrArg (fun b => SV.raw (.bool b)) (Option.some.inj h393)) ?_
                have c426 := (Option.some.inj h393).symm
                exact UnderQ.fin 22 hF0 (SubZ.cons rfl rfl SubZ.nil) rfl k
              · replace h393 := cfalse c425 h393
                obtain ⟨x390, h391, h393⟩ := bsome h393
                refine UnderQ.goc c425 rfl rfl ?_
                refine UnderQ.ov (OpV.move rfl) rfl ?_
                refine UnderQ.goc c425 rfl rfl ?_
                refine UnderQ.ov (OpV.move rfl) rfl ?_
                refine UnderQ.goc c425 rfl rfl ?_
                refine UnderQ.ov (OpV.len Try.underlying36 rfl rdV) rfl ?_
                refine UnderQ.goc c425 rfl rfl ?_
                refine UnderQ.ov (OpV.bin rfl rfl rfl) rfl ?_
                refine UnderQ.goc c425 rfl rfl ?_
                refine UnderQ.ov (OpV.move rfl) rfl ?_
                refine UnderQ.byc (t := 50) rfl (fun c427 => ?_) (fun c427 => ?_)
                · replace h391 := ctrue c427 h391
                  obtain ⟨x384, h385, h391⟩ := bsome h391
                  obtain ⟨x386, h387, h391⟩ := bsome h391
                  obtain ⟨y388, h389, h391⟩ := bsome h391
                  refine UnderQ.goc c427 rfl rfl ?_
                  refine UnderQ.ov (OpV.move rfl) rfl ?_
                  refine UnderQ.goc c427 rfl rfl ?_
                  refine UnderQ.ov (OpV.move rfl) rfl ?_
                  refine UnderQ.goc c427 rfl rfl ?_
                  refine UnderQ.ov (OpV.ixS h385 Try.underlying36 sz43 rfl rdV rfl) rfl ?_
                  refine UnderQ.goc c427 rfl rfl ?_
                  refine UnderQ.ov (OpV.ld kt43 rfl) rfl ?_
                  refine UnderQ.goc c427 rfl rfl ?_
                  refine UnderQ.ov (OpV.move rfl) rfl ?_
                  refine UnderQ.goc c427 rfl rfl ?_
                  refine UnderQ.ov (OpV.move rfl) rfl ?_
                  refine UnderQ.goc c427 rfl rfl ?_
                  refine UnderQ.ov (OpV.ixS h387 Try.underlying36 sz43 rfl rdV rfl) rfl ?_
                  refine UnderQ.goc c427 rfl rfl ?_
                  refine UnderQ.ov (OpV.ld kt43 rfl) rfl ?_
                  refine UnderQ.goc c427 rfl rfl ?_
                  refine UnderQ.ov (OpV.call Try.call39 rfl rfl (fun L => f_churnref16_less_ok h389 L)) rfl ?_
                  refine UnderQ.goc c427 rfl rfl ?_
                  refine UnderQ.ov (OpV.not rfl) rfl ?_
                  refine UnderQ.goc c425 rfl rfl ?_
                  refine UnderQ.ov (OpV.pick rfl (fun _ => rfl) (fun e => absurd (e.symm.trans c427) (by decide))) rfl ?_
                  refine UnderQ.top (congrArg (fun b => SV.raw (.bool b)) (Option.some.inj h391)) ?_
                  refine UnderQ.ov (OpV.pick rfl (fun e => absurd (e.symm.trans c425) (by decide)) (fun _ => rfl)) rfl ?_
                  refine UnderQ.top (congrArg (fun b => SV.raw (.bool b)) (Option.some.inj h393)) ?_
                  exact UnderQ.fin 22 hF0 (SubZ.cons rfl rfl SubZ.nil) rfl k
                · replace h391 := cfalse c427 h391
                  refine UnderQ.skc c427 rfl rfl rfl ?_
                  refine UnderQ.skc c427 rfl rfl rfl ?_
                  refine UnderQ.skc c427 rfl rfl rfl ?_
                  refine UnderQ.skc c427 rfl rfl rfl ?_
                  refine UnderQ.skc c427 rfl rfl rfl ?_
                  refine UnderQ.skc c427 rfl rfl rfl ?_
                  refine UnderQ.skc c427 rfl rfl rfl ?_
                  refine UnderQ.skc c427 rfl rfl rfl ?_
                  refine UnderQ.skc c427 rfl rfl rfl ?_
                  refine UnderQ.skc c427 rfl rfl rfl ?_
                  refine UnderQ.goc c425 rfl rfl ?_
                  refine UnderQ.ov (OpV.pick rfl (fun e => absurd (e.symm.trans c427) (by decide)) (fun _ => rfl)) rfl ?_
                  refine UnderQ.top (congrArg (fun b => SV.raw (.bool b)) (Option.some.inj h391)) ?_
                  have c428 := (Option.some.inj h391).symm
                  refine UnderQ.ov (OpV.pick rfl (fun e => absurd (e.symm.trans c425) (by decide)) (fun _ => rfl)) rfl ?_
                  refine UnderQ.top (congrArg (fun b => SV.raw (.bool b)) (Option.some.inj h393)) ?_
                  exact UnderQ.fin 22 hF0 (SubZ.cons rfl rfl SubZ.nil) rfl k
          · refine Under.exit ?_
            refine Under.tE ?_
            have e429 := done_eq h379 d380
            subst e429
            refine Under.tE ?_
            refine Under.bH ?_
            refine Under.tN ?_
            exact Under.weak (k227 _ _ (Option.some.inj h226).symm) (sub_cons rfl (sub_nil _))
        · refine Under.ov (OpV.move rfl) rfl ?_
          refine Under.ov (OpV.move rfl) rfl ?_
          refine Under.ov (OpV.len Try.underlying36 rfl rdV) rfl ?_
          refine Under.ov (OpV.bin rfl rfl rfl) rfl ?_
          refine Under.ov (OpV.move rfl) rfl ?_
          refine Under.byc (t := 35) rfl (fun c430 => ?_) (fun c430 => ?_)
          · refine Under.skc c430 rfl rfl rfl ?_
            refine Under.skc c430 rfl rfl rfl ?_
            refine Under.skc c430 rfl rfl rfl ?_
            refine Under.skc c430 rfl rfl rfl ?_
            refine Under.ov (OpV.pick rfl (fun _ => rfl) (fun e => absurd (e.symm.trans c430) (by decide))) rfl ?_
            refine Under.top (or_t (e := decide (x329 < (y13.length : Int))) c430) ?_
            have c431 := or_tb (e := decide (x329 < (y13.length : Int))) c430
            exact Under.nil (Under.fin 10 (SubZ.cons rfl rfl SubZ.nil) rfl k)
          · refine Under.goc c430 rfl rfl ?_
            refine Under.ov (OpV.move rfl) rfl ?_
            refine Under.goc c430 rfl rfl ?_
            refine Under.ov (OpV.move rfl) rfl ?_
            refine Under.goc c430 rfl rfl ?_
            refine Under.ov (OpV.len Try.underlying36 rfl rdV) rfl ?_
            refine Under.goc c430 rfl rfl ?_
            refine Under.ov (OpV.bin rfl rfl rfl) rfl ?_
            refine Under.ov (OpV.pick rfl (fun e => absurd (e.symm.trans c430) (by decide)) (fun _ => rfl)) rfl ?_
            refine Under.top (or_f c430) ?_
            exact Under.nil (Under.fin 10 (SubZ.cons rfl rfl SubZ.nil) rfl k)
/-- churn/churnref16.Check -/
noncomputable def f_churnref16_Check (a0 : Api_Window) (a1 : Int) (a2 : Int) : Option Int :=
  ((bif (((((decide (a1 < 1)) || (decide (a1 > 8))) || (decide (a2 < 0))) || (decide (a2 > 4096))) || (decide (a0.Newest < 0))) || (decide (a0.Newest > 4611686018427387904)) then
    some true
  else
    (f_churnref16_Len a0).bind fun y1 =>
    some (decide (y1 > a2))
    : Option Bool)).bind fun x3 =>
  bif x3 then
    some 2
  else
    (((Loop.run (S := Int) (R := (Unit ⊕ Int)) (fun x711 =>
        bif decide (x711 < (a0.Epochs.length : Int)) then
          (((idx a0.Epochs x711).bind fun x886 =>
          bif (((decide (x886.Number < 0)) || (decide (x886.Number > a0.Newest))) || (decide (x886.Number ≤ (IntKind.wrap .i64 (a0.Newest - a1))))) || ((x886.Tags.length : Int) == 0) then
            some (.inl 2)
          else
            ((bif decide (x711 > 0) then
              (idx a0.Epochs (IntKind.wrap .i64 (x711 - 1))).bind fun x894 =>
              some (decide (x894.Number ≥ x886.Number))
            else
              some false
              : Option Bool)).bind fun x896 =>
            bif x896 then
              some (.inl 2)
            else
              (Loop.run (S := Int) (R := (Unit ⊕ Int)) (fun x916 =>
                  bif decide (x916 < (x886.Tags.length : Int)) then
                    (idx x886.Tags (IntKind.wrap .i64 (x916 - 1))).bind fun x928 =>
                    (idx x886.Tags x916).bind fun x930 =>
                    (f_churnref16_less x928 x930).bind fun y932 =>
                    bif !y932 then
                      some (.done (.inr 2))
                    else
                      some (.next (IntKind.wrap .i64 (x916 + 1)))
                  else
                    some (.done (.inl ()))) 1).bind fun r925 => match r925 with
                | .inl _ =>
                  some (.inr ())
                | .inr z =>
                  some (.inl z)
            : Option (Int ⊕ Unit))).bind fun r883 => match r883 with
            | .inl z =>
              some (.done (.inr z))
            | .inr _ =>
              some (.next (IntKind.wrap .i64 (x711 + 1)))
        else
          some (.done (.inl ()))) 0).bind fun r828 => match r828 with
      | .inl _ =>
        some (.inr ())
      | .inr z =>
        some (.inl z)
      : Option (Int ⊕ Unit))).bind fun r473 => match r473 with
      | .inl z =>
        some z
      | .inr _ =>
        (f_churnref16_all a0).bind fun y476 =>
        (f_churnref16_sorted 64 y476).bind fun y478 =>
        (f_churnref16_Len a0).bind fun y480 =>
        bif (y478.length : Int) != y480 then
          some 2
        else
          some 0
theorem f_churnref16_Check_ok {a0 : Api_Window} {a1 : Int} {a2 : Int} {r0 : Int} (hF : f_churnref16_Check a0 a1 a2 = some r0) (L : List Res) : Ok Try.prog 17 [SV.val kApi_Window a0, SV.raw (.int .i64 a1), SV.raw (.int .i64 a2)] L (SV.raw (.int .i64 r0)) L := by
  unfold f_churnref16_Check at hF
  refine Ok.intro 118 [(0, .val kApi_Window a0), (1, .raw (.int .i64 a1)), (2, .raw (.int .i64 a2))] Try.func17 rfl rfl rfl rfl (fun F0 => ?_)
  refine Under.seq ?_
  refine Under.region ?_
  refine Under.bxF (K := kApi_Window) rfl rdV rfl ?_
  refine Under.ov (OpV.asg rfl) rfl ?_
  refine Under.nil ?_
  refine Under.tN ?_
  refine Under.seq ?_
  refine Under.seq ?_
  obtain ⟨x3, h4, hF⟩ := bsome hF
  refine Under.rj [(39, .raw (.bool x3))] ?_ (fun k => ?_)
  · refine Under.tN ?_
    refine Under.ite hF rfl (fun hF => ?_) (fun hF => ?_)
    · refine Under.seq ?_
      refine Under.region ?_
      refine Under.ov (OpV.asg rfl) rfl ?_
      refine Under.nil ?_
      refine Under.tN ?_
      refine Under.retc ?_
      refine Under.tR ?_
      exact Under.retE Try.results17 rfl (congrArg (fun y => SV.raw (.int .i64 y)) (Option.some.inj hF)) rfl
    · refine Under.code_skip ?_
      refine Under.tN ?_
      obtain ⟨r473, h474, hF⟩ := bsome hF
      refine Under.seq ?_
      refine Under.after (fun X => ∀ (_ : Unit), r473 = (.inr ()) → Under F0 118 [(3, .ptr kApi_Window a0)] (L) X) ?_ ?_
      · intro _ h956
        subst h956
        refine Under.seq ?_
        refine Under.seq ?_
        obtain ⟨y476, h477, hF⟩ := bsome hF
        obtain ⟨y478, h479, hF⟩ := bsome hF
        obtain ⟨y480, h481, hF⟩ := bsome hF
        refine Under.drawz [[3], [111], [112], [113], [3], [115], [114, 116]] [(117, .raw (.bool ((y478.length : Int) != y480)))] rfl (by kernel_rfl) rfl ?_ (fun k F hF0 => ?_)
        · refine Under.tN ?_
          refine Under.ite hF rfl (fun hF => ?_) (fun hF => ?_)
          · refine Under.seq ?_
            refine Under.region ?_
            refine Under.ov (OpV.asg rfl) rfl ?_
            refine Under.nil ?_
            refine Under.tN ?_
            refine Under.retc ?_
            refine Under.tR ?_
            exact Under.retE Try.results17 rfl (congrArg (fun y => SV.raw (.int .i64 y)) (Option.some.inj hF)) rfl
          · refine Under.code_skip ?_
            refine Under.tN ?_
            refine Under.seq ?_
            refine Under.region ?_
            refine Under.ov (OpV.asg rfl) rfl ?_
            refine Under.nil ?_
            refine Under.tN ?_
            refine Under.retc ?_
            exact Under.retE Try.results17 rfl (congrArg (fun y => SV.raw (.int .i64 y)) (Option.some.inj hF)) rfl
        · refine Zq.st (.val kApi_Window a0) (fun G hG => ?_) ?_
          · refine Under.ov (OpV.ld kt27 rfl) rfl ?_
            exact Zq.done rfl
          refine Zq.st (.val (kSl (kArr 16 (kInt .u8))) y476) (fun G hG => ?_) ?_
          · refine Under.call Try.call41 rfl rfl (f_churnref16_all_ok h477 _) rfl ?_
            exact Zq.done rfl
          refine Zq.st (.val (kSl (kArr 16 (kInt .u8))) y478) (fun G hG => ?_) ?_
          · refine Under.call Try.call40 rfl rfl (f_churnref16_sorted_ok h479 _) rfl ?_
            exact Zq.done rfl
          refine Zq.st (.raw (.int .i64 (y478.length : Int))) (fun G hG => ?_) ?_
          · refine Under.ov (OpV.len Try.underlying36 rfl rdV) rfl ?_
            exact Zq.done rfl
          refine Zq.st (.val kApi_Window a0) (fun G hG => ?_) ?_
          · refine Under.ov (OpV.ld kt27 rfl) rfl ?_
            exact Zq.done rfl
          refine Zq.st (.raw (.int .i64 y480)) (fun G hG => ?_) ?_
          · refine Under.call Try.call19 rfl rfl (f_churnref16_Len_ok h481 _) rfl ?_
            exact Zq.done rfl
          refine Zq.st (.raw (.bool ((y478.length : Int) != y480))) (fun G hG => ?_) ?_
          · refine Under.ov (OpV.bin rfl rfl rfl) rfl ?_
            exact Zq.done rfl
          exact Zq.nil (Zq.fin 7 hF0 (SubZ.cons rfl rfl SubZ.nil) rfl k)
      · intro K k475
        refine Under.seq ?_
        refine Under.region ?_
        refine Under.ov (OpV.asg rfl) rfl ?_
        refine Under.nil ?_
        refine Under.tN ?_
        refine Under.block ?_
        obtain ⟨r828, h829, h474⟩ := bsome h474
        refine Under.loop (S := Int) (C := Unit) () (fun (x955 : Int) (y : Unit) => [(1, .raw (.int .i64 a1)), (3, .ptr kApi_Window a0), (7, .raw (.int .i64 x955))]) (fun (x955 : Int) (y : Unit) => L) h829 (sub_cons rfl (sub_cons rfl (sub_cons rfl (sub_nil _)))) rfl (fun x955 y o830 h826 d827 => ?_)
        refine Under.seq ?_
        refine Under.seq ?_
        refine Under.region ?_
        refine Under.ov (OpV.move rfl) rfl ?_
        refine Under.ov (OpV.fd fb27_1 rfl rfl) rfl ?_
        refine Under.ov (OpV.ld kt25 rfl) rfl ?_
        refine Under.ov (OpV.len Try.underlying25 rfl rdV) rfl ?_
        refine Under.ov (OpV.bin rfl rfl rfl) rfl ?_
        refine Under.nil ?_
        refine Under.tN ?_
        refine Under.ite h826 rfl (fun h826 => ?_) (fun h826 => ?_)
        · refine Under.code_skip ?_
          refine Under.tN ?_
          obtain ⟨r883, h884, h826⟩ := bsome h826
          refine Under.seq ?_
          refine Under.after (fun X => ∀ (_ : Unit), r883 = (.inr ()) → Under F0 118 [(1, .raw (.int .i64 a1)), (3, .ptr kApi_Window a0), (7, .raw (.int .i64 x955))] (L) X) ?_ ?_
          · intro _ h953
            subst h953
            refine Under.region ?_
            refine Under.ov (OpV.move rfl) rfl ?_
            refine Under.ov (OpV.bin rfl rfl rfl) rfl ?_
            refine Under.ov (OpV.asg rfl) rfl ?_
            refine Under.nil ?_
            exact Under.next _ () h826 (sub_cons rfl (sub_cons rfl (sub_cons rfl (sub_nil _)))) rfl
          · intro K k885
            refine Under.block ?_
            refine Under.seq ?_
            refine Under.region ?_
            refine Under.ov (OpV.fd fb27_1 rfl rfl) rfl ?_
            refine Under.ov (OpV.ld kt25 rfl) rfl ?_
            refine Under.ov (OpV.move rfl) rfl ?_
            obtain ⟨x886, h887, h884⟩ := bsome h884
            refine Under.ov (OpV.ixS h887 Try.underlying25 sz61 rfl rdV rfl) rfl ?_
            refine Under.ov (OpV.ld kt61 rfl) rfl ?_
            refine Under.al ZT61 rfl fun b888 => ?_
            refine Under.st Pl.id rfl rfl sz61 rfl rfl rdV ?_
            refine Under.frz (t := 8) rfl ?_
            refine Under.nil ?_
            refine Under.tN ?_
            refine Under.seq ?_
            refine Under.seq ?_
            refine Under.rj [(76, .raw (.bool ((((decide (x886.Number < 0)) || (decide (x886.Number > a0.Newest))) || (decide (x886.Number ≤ (IntKind.wrap .i64 (a0.Newest - a1))))) || ((x886.Tags.length : Int) == 0))))] ?_ (fun k => ?_)
            · refine Under.tN ?_
              refine Under.ite h884 rfl (fun h884 => ?_) (fun h884 => ?_)
              · refine Under.seq ?_
                refine Under.region ?_
                refine Under.ov (OpV.asg rfl) rfl ?_
                refine Under.nil ?_
                refine Under.tN ?_
                refine Under.retc ?_
                refine Under.tR ?_
                refine Under.bR ?_
                refine Under.tR ?_
                have e890 := Option.some.inj h884
                subst e890
                have e891 := done_eq h826 d827
                subst e891
                refine Under.tR ?_
                refine Under.bR ?_
                refine Under.tR ?_
                have e893 := Option.some.inj h474
                subst e893
                exact Under.retE Try.results17 rfl (congrArg (fun y => SV.raw (.int .i64 y)) (Option.some.inj hF)) rfl
              · refine Under.code_skip ?_
                refine Under.tN ?_
                refine Under.seq ?_
                refine Under.seq ?_
                obtain ⟨x896, h897, h884⟩ := bsome h884
                refine Under.drawj [(90, .raw (.bool x896))] rfl (by kernel_rfl) ?_ (fun k F hF0 => ?_)
                · refine Under.tN ?_
                  refine Under.ite h884 rfl (fun h884 => ?_) (fun h884 => ?_)
                  · refine Under.seq ?_
                    refine Under.region ?_
                    refine Under.ov (OpV.asg rfl) rfl ?_
                    refine Under.nil ?_
                    refine Under.tN ?_
                    refine Under.retc ?_
                    refine Under.tR ?_
                    refine Under.bR ?_
                    refine Under.tR ?_
                    have e899 := Option.some.inj h884
                    subst e899
                    have e900 := done_eq h826 d827
                    subst e900
                    refine Under.tR ?_
                    refine Under.bR ?_
                    refine Under.tR ?_
                    have e902 := Option.some.inj h474
                    subst e902
                    exact Under.retE Try.results17 rfl (congrArg (fun y => SV.raw (.int .i64 y)) (Option.some.inj hF)) rfl
                  · refine Under.code_skip ?_
                    refine Under.tN ?_
                    refine Under.seq ?_
                    refine Under.region ?_
                    refine Under.ov (OpV.asg rfl) rfl ?_
                    refine Under.nil ?_
                    refine Under.tN ?_
                    refine Under.block ?_
                    obtain ⟨r925, h926, h884⟩ := bsome h884
                    refine Under.loop (S := Int) (C := Unit) () (fun (x941 : Int) (y : Unit) => [(1, .raw (.int .i64 a1)), (3, .ptr kApi_Window a0), (7, .raw (.int .i64 x955)), (8, .ptr kApi_Epoch x886), (9, .raw (.int .i64 x941))]) (fun (x941 : Int) (y : Unit) => L) h926 (sub_cons rfl (sub_cons rfl (sub_cons rfl (sub_cons rfl (sub_cons rfl (sub_nil _)))))) rfl (fun x941 y o927 h923 d924 => ?_)
                    refine Under.seq ?_
                    refine Under.seq ?_
                    refine Under.region ?_
                    refine Under.ov (OpV.move rfl) rfl ?_
                    refine Under.ov (OpV.fd fb61_1 rfl rfl) rfl ?_
                    refine Under.ov (OpV.ld kt36 rfl) rfl ?_
                    refine Under.ov (OpV.len Try.underlying36 rfl rdV) rfl ?_
                    refine Under.ov (OpV.bin rfl rfl rfl) rfl ?_
                    refine Under.nil ?_
                    refine Under.tN ?_
                    refine Under.ite h923 rfl (fun h923 => ?_) (fun h923 => ?_)
                    · refine Under.code_skip ?_
                      refine Under.tN ?_
                      refine Under.seq ?_
                      refine Under.block ?_
                      refine Under.seq ?_
                      refine Under.draw rfl (by kernel_rfl) fun F hF0 => ?_
                      refine UnderQ.ov (OpV.fd fb61_1 rfl rfl) rfl ?_
                      refine UnderQ.ov (OpV.ld kt36 rfl) rfl ?_
                      refine UnderQ.ov (OpV.move rfl) rfl ?_
                      refine UnderQ.ov (OpV.bin rfl rfl rfl) rfl ?_
                      obtain ⟨x928, h929, h923⟩ := bsome h923
                      refine UnderQ.ov (OpV.ixS h929 Try.underlying36 sz43 rfl rdV rfl) rfl ?_
                      refine UnderQ.ov (OpV.ld kt43 rfl) rfl ?_
                      refine UnderQ.ov (OpV.fd fb61_1 rfl rfl) rfl ?_
                      refine UnderQ.ov (OpV.ld kt36 rfl) rfl ?_
                      refine UnderQ.ov (OpV.move rfl) rfl ?_
                      obtain ⟨x930, h931, h923⟩ := bsome h923
                      refine UnderQ.ov (OpV.ixS h931 Try.underlying36 sz43 rfl rdV rfl) rfl ?_
                      refine UnderQ.ov (OpV.ld kt43 rfl) rfl ?_
                      obtain ⟨y932, h933, h923⟩ := bsome h923
                      refine UnderQ.ov (OpV.call Try.call39 rfl rfl (fun L => f_churnref16_less_ok h933 L)) rfl ?_
                      refine UnderQ.ov (OpV.not rfl) rfl ?_
                      refine UnderQ.nil hF0 ?_
                      refine Under.tN ?_
                      refine Under.ite h923 rfl (fun h923 => ?_) (fun h923 => ?_)
                      · refine Under.seq ?_
                        refine Under.region ?_
                        refine Under.ov (OpV.asg rfl) rfl ?_
                        refine Under.nil ?_
                        refine Under.tN ?_
                        refine Under.retc ?_
                        refine Under.bR ?_
                        refine Under.tR ?_
                        have e934 := done_eq h923 d924
                        subst e934
                        refine Under.tR ?_
                        refine Under.bR ?_
                        refine Under.bR ?_
                        refine Under.tR ?_
                        have e936 := Option.some.inj h884
                        subst e936
                        have e937 := done_eq h826 d827
                        subst e937
                        refine Under.tR ?_
                        refine Under.bR ?_
                        refine Under.tR ?_
                        have e939 := Option.some.inj h474
                        subst e939
                        exact Under.retE Try.results17 rfl (congrArg (fun y => SV.raw (.int .i64 y)) (Option.some.inj hF)) rfl
                      · refine Under.code_skip ?_
                        refine Under.bN ?_
                        refine Under.tN ?_
                        refine Under.region ?_
                        refine Under.ov (OpV.move rfl) rfl ?_
                        refine Under.ov (OpV.bin rfl rfl rfl) rfl ?_
                        refine Under.ov (OpV.asg rfl) rfl ?_
                        refine Under.nil ?_
                        exact Under.next _ () h923 (sub_cons rfl (sub_cons rfl (sub_cons rfl (sub_cons rfl (sub_cons rfl (sub_nil _)))))) rfl
                    · refine Under.exit ?_
                      refine Under.tE ?_
                      have e940 := done_eq h923 d924
                      subst e940
                      refine Under.tE ?_
                      refine Under.bH ?_
                      refine Under.bN ?_
                      refine Under.tN ?_
                      exact Under.weak (k885 () (Option.some.inj h884).symm) (sub_cons rfl (sub_cons rfl (sub_cons rfl (sub_nil _))))
                · refine UnderQ.ov (OpV.move rfl) rfl ?_
                  refine UnderQ.ov (OpV.bin rfl rfl rfl) rfl ?_
                  refine UnderQ.ov (OpV.move rfl) rfl ?_
                  refine UnderQ.byc (t := 79) rfl (fun c942 => ?_) (fun c942 => ?_)
                  · replace h897 := ctrue c942 h897
                    obtain ⟨x894, h895, h897⟩ := bsome h897
                    refine UnderQ.goc c942 rfl rfl ?_
                    refine UnderQ.ov (OpV.fd fb27_1 rfl rfl) rfl ?_
                    refine UnderQ.goc c942 rfl rfl ?_
                    refine UnderQ.ov (OpV.ld kt25 rfl) rfl ?_
                    refine UnderQ.goc c942 rfl rfl ?_
                    refine UnderQ.ov (OpV.move rfl) rfl ?_
                    refine UnderQ.goc c942 rfl rfl ?_
                    refine UnderQ.ov (OpV.bin rfl rfl rfl) rfl ?_
                    refine UnderQ.goc c942 rfl rfl ?_
                    refine UnderQ.ov (OpV.ixS h895 Try.underlying25 sz61 rfl rdV rfl) rfl ?_
                    refine UnderQ.goc c942 rfl rfl ?_
                    refine UnderQ.ov (OpV.fd fb61_0 rfl rfl) rfl ?_
                    refine UnderQ.goc c942 rfl rfl ?_
                    refine UnderQ.ov (OpV.ldI kt2 rfl) rfl ?_
                    refine UnderQ.goc c942 rfl rfl ?_
                    refine UnderQ.ov (OpV.fd fb61_0 rfl rfl) rfl ?_
                    refine UnderQ.goc c942 rfl rfl ?_
                    refine UnderQ.ov (OpV.ldI kt2 rfl) rfl ?_
                    refine UnderQ.goc c942 rfl rfl ?_
                    refine UnderQ.ov (OpV.bin rfl rfl rfl) rfl ?_
                    refine UnderQ.ov (OpV.pick rfl (fun _ => rfl) (fun e => absurd (e.symm.trans c942) (by decide))) rfl ?_
                    refine UnderQ.top (congrArg (fun b => SV.raw (.bool b)) (Option.some.inj h897)) ?_
                    exact UnderQ.fin 14 hF0 (SubZ.cons rfl rfl SubZ.nil) rfl k
                  · replace h897 := cfalse c942 h897
                    refine UnderQ.skc c942 rfl rfl rfl ?_
                    refine UnderQ.skc c942 rfl rfl rfl ?_
                    refine UnderQ.skc c942 rfl rfl rfl ?_
                    refine UnderQ.skc c942 rfl rfl rfl ?_
                    refine UnderQ.skc c942 rfl rfl rfl ?_
                    refine UnderQ.skc c942 rfl rfl rfl ?_
                    refine UnderQ.skc c942 rfl rfl rfl ?_
                    refine UnderQ.skc c942 rfl rfl rfl ?_
                    refine UnderQ.skc c942 rfl rfl rfl ?_
                    refine UnderQ.skc c942 rfl rfl rfl ?_
                    refine UnderQ.ov (OpV.pick rfl (fun e => absurd (e.symm.trans c942) (by decide)) (fun _ => rfl)) rfl ?_
                    refine UnderQ.top (congrArg (fun b => SV.raw (.bool b)) (Option.some.inj h897)) ?_
                    have c943 := (Option.some.inj h897).symm
                    exact UnderQ.fin 14 hF0 (SubZ.cons rfl rfl SubZ.nil) rfl k
            · refine Under.ov (OpV.fd fb61_0 rfl rfl) rfl ?_
              refine Under.ov (OpV.ldI kt2 rfl) rfl ?_
              refine Under.ov (OpV.bin rfl rfl rfl) rfl ?_
              refine Under.ov (OpV.move rfl) rfl ?_
              refine Under.byc (t := 55) rfl (fun c944 => ?_) (fun c944 => ?_)
              · refine Under.skc c944 rfl rfl rfl ?_
                refine Under.skc c944 rfl rfl rfl ?_
                refine Under.skc c944 rfl rfl rfl ?_
                refine Under.skc c944 rfl rfl rfl ?_
                refine Under.skc c944 rfl rfl rfl ?_
                refine Under.ov (OpV.pick rfl (fun _ => rfl) (fun e => absurd (e.symm.trans c944) (by decide))) rfl ?_
                refine Under.top (or_t (e := decide (x886.Number > a0.Newest)) c944) ?_
                have c945 := or_tb (e := decide (x886.Number > a0.Newest)) c944
                refine Under.ov (OpV.move rfl) rfl ?_
                refine Under.skc c945 rfl rfl rfl ?_
                refine Under.skc c945 rfl rfl rfl ?_
                refine Under.skc c945 rfl rfl rfl ?_
                refine Under.skc c945 rfl rfl rfl ?_
                refine Under.skc c945 rfl rfl rfl ?_
                refine Under.skc c945 rfl rfl rfl ?_
                refine Under.skc c945 rfl rfl rfl ?_
                refine Under.ov (OpV.pick rfl (fun _ => rfl) (fun e => absurd (e.symm.trans c945) (by decide))) rfl ?_
                refine Under.top (or_t (e := decide (x886.Number ≤ (IntKind.wrap .i64 (a0.Newest - a1)))) c945) ?_
                have c946 := or_tb (e := decide (x886.Number ≤ (IntKind.wrap .i64 (a0.Newest - a1)))) c945
                refine Under.ov (OpV.move rfl) rfl ?_
                refine Under.skc c946 rfl rfl rfl ?_
                refine Under.skc c946 rfl rfl rfl ?_
                refine Under.skc c946 rfl rfl rfl ?_
                refine Under.skc c946 rfl rfl rfl ?_
                refine Under.ov (OpV.pick rfl (fun _ => rfl) (fun e => absurd (e.symm.trans c946) (by decide))) rfl ?_
                refine Under.top (or_t (e := (x886.Tags.length : Int) == 0) c946) ?_
                have c947 := or_tb (e := (x886.Tags.length : Int) == 0) c946
                exact Under.nil (Under.fin 25 (SubZ.cons rfl rfl SubZ.nil) rfl k)
              · refine Under.goc c944 rfl rfl ?_
                refine Under.ov (OpV.fd fb61_0 rfl rfl) rfl ?_
                refine Under.goc c944 rfl rfl ?_
                refine Under.ov (OpV.ldI kt2 rfl) rfl ?_
                refine Under.goc c944 rfl rfl ?_
                refine Under.ov (OpV.fd fb27_0 rfl rfl) rfl ?_
                refine Under.goc c944 rfl rfl ?_
                refine Under.ov (OpV.ldI kt2 rfl) rfl ?_
                refine Under.goc c944 rfl rfl ?_
                refine Under.ov (OpV.bin rfl rfl rfl) rfl ?_
                refine Under.ov (OpV.pick rfl (fun e => absurd (e.symm.trans c944) (by decide)) (fun _ => rfl)) rfl ?_
                refine Under.top (or_f c944) ?_
                refine Under.ov (OpV.move rfl) rfl ?_
                refine Under.byc (t := 62) rfl (fun c948 => ?_) (fun c948 => ?_)
                · refine Under.skc c948 rfl rfl rfl ?_
                  refine Under.skc c948 rfl rfl rfl ?_
                  refine Under.skc c948 rfl rfl rfl ?_
                  refine Under.skc c948 rfl rfl rfl ?_
                  refine Under.skc c948 rfl rfl rfl ?_
                  refine Under.skc c948 rfl rfl rfl ?_
                  refine Under.skc c948 rfl rfl rfl ?_
                  refine Under.ov (OpV.pick rfl (fun _ => rfl) (fun e => absurd (e.symm.trans c948) (by decide))) rfl ?_
                  refine Under.top (or_t (e := decide (x886.Number ≤ (IntKind.wrap .i64 (a0.Newest - a1)))) c948) ?_
                  have c949 := or_tb (e := decide (x886.Number ≤ (IntKind.wrap .i64 (a0.Newest - a1)))) c948
                  refine Under.ov (OpV.move rfl) rfl ?_
                  refine Under.skc c949 rfl rfl rfl ?_
                  refine Under.skc c949 rfl rfl rfl ?_
                  refine Under.skc c949 rfl rfl rfl ?_
                  refine Under.skc c949 rfl rfl rfl ?_
                  refine Under.ov (OpV.pick rfl (fun _ => rfl) (fun e => absurd (e.symm.trans c949) (by decide))) rfl ?_
                  refine Under.top (or_t (e := (x886.Tags.length : Int) == 0) c949) ?_
                  have c950 := or_tb (e := (x886.Tags.length : Int) == 0) c949
                  exact Under.nil (Under.fin 25 (SubZ.cons rfl rfl SubZ.nil) rfl k)
                · refine Under.goc c948 rfl rfl ?_
                  refine Under.ov (OpV.fd fb61_0 rfl rfl) rfl ?_
                  refine Under.goc c948 rfl rfl ?_
                  refine Under.ov (OpV.ldI kt2 rfl) rfl ?_
                  refine Under.goc c948 rfl rfl ?_
                  refine Under.ov (OpV.fd fb27_0 rfl rfl) rfl ?_
                  refine Under.goc c948 rfl rfl ?_
                  refine Under.ov (OpV.ldI kt2 rfl) rfl ?_
                  refine Under.goc c948 rfl rfl ?_
                  refine Under.ov (OpV.move rfl) rfl ?_
                  refine Under.goc c948 rfl rfl ?_
                  refine Under.ov (OpV.bin rfl rfl rfl) rfl ?_
                  refine Under.goc c948 rfl rfl ?_
                  refine Under.ov (OpV.bin rfl rfl rfl) rfl ?_
                  refine Under.ov (OpV.pick rfl (fun e => absurd (e.symm.trans c948) (by decide)) (fun _ => rfl)) rfl ?_
                  refine Under.top (or_f c948) ?_
                  refine Under.ov (OpV.move rfl) rfl ?_
                  refine Under.byc (t := 71) rfl (fun c951 => ?_) (fun c951 => ?_)
                  · refine Under.skc c951 rfl rfl rfl ?_
                    refine Under.skc c951 rfl rfl rfl ?_
                    refine Under.skc c951 rfl rfl rfl ?_
                    refine Under.skc c951 rfl rfl rfl ?_
                    refine Under.ov (OpV.pick rfl (fun _ => rfl) (fun e => absurd (e.symm.trans c951) (by decide))) rfl ?_
                    refine Under.top (or_t (e := (x886.Tags.length : Int) == 0) c951) ?_
                    have c952 := or_tb (e := (x886.Tags.length : Int) == 0) c951
                    exact Under.nil (Under.fin 25 (SubZ.cons rfl rfl SubZ.nil) rfl k)
                  · refine Under.goc c951 rfl rfl ?_
                    refine Under.ov (OpV.fd fb61_1 rfl rfl) rfl ?_
                    refine Under.goc c951 rfl rfl ?_
                    refine Under.ov (OpV.ld kt36 rfl) rfl ?_
                    refine Under.goc c951 rfl rfl ?_
                    refine Under.ov (OpV.len Try.underlying36 rfl rdV) rfl ?_
                    refine Under.goc c951 rfl rfl ?_
                    refine Under.ov (OpV.bin rfl rfl rfl) rfl ?_
                    refine Under.ov (OpV.pick rfl (fun e => absurd (e.symm.trans c951) (by decide)) (fun _ => rfl)) rfl ?_
                    refine Under.top (or_f c951) ?_
                    exact Under.nil (Under.fin 25 (SubZ.cons rfl rfl SubZ.nil) rfl k)
        · refine Under.exit ?_
          refine Under.tE ?_
          have e954 := done_eq h826 d827
          subst e954
          refine Under.tE ?_
          refine Under.bH ?_
          refine Under.tN ?_
          exact Under.weak (k475 () (Option.some.inj h474).symm) (sub_cons rfl (sub_nil _))
  · refine Under.ov (OpV.move rfl) rfl ?_
    refine Under.ov (OpV.bin rfl rfl rfl) rfl ?_
    refine Under.ov (OpV.move rfl) rfl ?_
    refine Under.byc (t := 12) rfl (fun c957 => ?_) (fun c957 => ?_)
    · refine Under.skc c957 rfl rfl rfl ?_
      refine Under.skc c957 rfl rfl rfl ?_
      refine Under.ov (OpV.pick rfl (fun _ => rfl) (fun e => absurd (e.symm.trans c957) (by decide))) rfl ?_
      refine Under.top (or_t (e := decide (a1 > 8)) c957) ?_
      have c958 := or_tb (e := decide (a1 > 8)) c957
      refine Under.ov (OpV.move rfl) rfl ?_
      refine Under.skc c958 rfl rfl rfl ?_
      refine Under.skc c958 rfl rfl rfl ?_
      refine Under.ov (OpV.pick rfl (fun _ => rfl) (fun e => absurd (e.symm.trans c958) (by decide))) rfl ?_
      refine Under.top (or_t (e := decide (a2 < 0)) c958) ?_
      have c959 := or_tb (e := decide (a2 < 0)) c958
      refine Under.ov (OpV.move rfl) rfl ?_
      refine Under.skc c959 rfl rfl rfl ?_
      refine Under.skc c959 rfl rfl rfl ?_
      refine Under.ov (OpV.pick rfl (fun _ => rfl) (fun e => absurd (e.symm.trans c959) (by decide))) rfl ?_
      refine Under.top (or_t (e := decide (a2 > 4096)) c959) ?_
      have c960 := or_tb (e := decide (a2 > 4096)) c959
      refine Under.ov (OpV.move rfl) rfl ?_
      refine Under.skc c960 rfl rfl rfl ?_
      refine Under.skc c960 rfl rfl rfl ?_
      refine Under.skc c960 rfl rfl rfl ?_
      refine Under.ov (OpV.pick rfl (fun _ => rfl) (fun e => absurd (e.symm.trans c960) (by decide))) rfl ?_
      refine Under.top (or_t (e := decide (a0.Newest < 0)) c960) ?_
      have c961 := or_tb (e := decide (a0.Newest < 0)) c960
      refine Under.ov (OpV.move rfl) rfl ?_
      refine Under.skc c961 rfl rfl rfl ?_
      refine Under.skc c961 rfl rfl rfl ?_
      refine Under.skc c961 rfl rfl rfl ?_
      refine Under.ov (OpV.pick rfl (fun _ => rfl) (fun e => absurd (e.symm.trans c961) (by decide))) rfl ?_
      refine Under.top (or_t (e := decide (a0.Newest > 4611686018427387904)) c961) ?_
      have c962 := or_tb (e := decide (a0.Newest > 4611686018427387904)) c961
      refine Under.ov (OpV.move rfl) rfl ?_
      replace h4 := ctrue c962 h4
      refine Under.skc c962 rfl rfl rfl ?_
      refine Under.skc c962 rfl rfl rfl ?_
      refine Under.skc c962 rfl rfl rfl ?_
      refine Under.skc c962 rfl rfl rfl ?_
      refine Under.ov (OpV.pick rfl (fun _ => rfl) (fun e => absurd (e.symm.trans c962) (by decide))) rfl ?_
      refine Under.top (congrArg (fun b => SV.raw (.bool b)) (Option.some.inj h4)) ?_
      have c963 := (Option.some.inj h4).symm
      exact Under.nil (Under.fin 30 (SubZ.cons rfl rfl SubZ.nil) rfl k)
    · refine Under.goc c957 rfl rfl ?_
      refine Under.ov (OpV.move rfl) rfl ?_
      refine Under.goc c957 rfl rfl ?_
      refine Under.ov (OpV.bin rfl rfl rfl) rfl ?_
      refine Under.ov (OpV.pick rfl (fun e => absurd (e.symm.trans c957) (by decide)) (fun _ => rfl)) rfl ?_
      refine Under.top (or_f c957) ?_
      refine Under.ov (OpV.move rfl) rfl ?_
      refine Under.byc (t := 16) rfl (fun c964 => ?_) (fun c964 => ?_)
      · refine Under.skc c964 rfl rfl rfl ?_
        refine Under.skc c964 rfl rfl rfl ?_
        refine Under.ov (OpV.pick rfl (fun _ => rfl) (fun e => absurd (e.symm.trans c964) (by decide))) rfl ?_
        refine Under.top (or_t (e := decide (a2 < 0)) c964) ?_
        have c965 := or_tb (e := decide (a2 < 0)) c964
        refine Under.ov (OpV.move rfl) rfl ?_
        refine Under.skc c965 rfl rfl rfl ?_
        refine Under.skc c965 rfl rfl rfl ?_
        refine Under.ov (OpV.pick rfl (fun _ => rfl) (fun e => absurd (e.symm.trans c965) (by decide))) rfl ?_
        refine Under.top (or_t (e := decide (a2 > 4096)) c965) ?_
        have c966 := or_tb (e := decide (a2 > 4096)) c965
        refine Under.ov (OpV.move rfl) rfl ?_
        refine Under.skc c966 rfl rfl rfl ?_
        refine Under.skc c966 rfl rfl rfl ?_
        refine Under.skc c966 rfl rfl rfl ?_
        refine Under.ov (OpV.pick rfl (fun _ => rfl) (fun e => absurd (e.symm.trans c966) (by decide))) rfl ?_
        refine Under.top (or_t (e := decide (a0.Newest < 0)) c966) ?_
        have c967 := or_tb (e := decide (a0.Newest < 0)) c966
        refine Under.ov (OpV.move rfl) rfl ?_
        refine Under.skc c967 rfl rfl rfl ?_
        refine Under.skc c967 rfl rfl rfl ?_
        refine Under.skc c967 rfl rfl rfl ?_
        refine Under.ov (OpV.pick rfl (fun _ => rfl) (fun e => absurd (e.symm.trans c967) (by decide))) rfl ?_
        refine Under.top (or_t (e := decide (a0.Newest > 4611686018427387904)) c967) ?_
        have c968 := or_tb (e := decide (a0.Newest > 4611686018427387904)) c967
        refine Under.ov (OpV.move rfl) rfl ?_
        replace h4 := ctrue c968 h4
        refine Under.skc c968 rfl rfl rfl ?_
        refine Under.skc c968 rfl rfl rfl ?_
        refine Under.skc c968 rfl rfl rfl ?_
        refine Under.skc c968 rfl rfl rfl ?_
        refine Under.ov (OpV.pick rfl (fun _ => rfl) (fun e => absurd (e.symm.trans c968) (by decide))) rfl ?_
        refine Under.top (congrArg (fun b => SV.raw (.bool b)) (Option.some.inj h4)) ?_
        have c969 := (Option.some.inj h4).symm
        exact Under.nil (Under.fin 30 (SubZ.cons rfl rfl SubZ.nil) rfl k)
      · refine Under.goc c964 rfl rfl ?_
        refine Under.ov (OpV.move rfl) rfl ?_
        refine Under.goc c964 rfl rfl ?_
        refine Under.ov (OpV.bin rfl rfl rfl) rfl ?_
        refine Under.ov (OpV.pick rfl (fun e => absurd (e.symm.trans c964) (by decide)) (fun _ => rfl)) rfl ?_
        refine Under.top (or_f c964) ?_
        refine Under.ov (OpV.move rfl) rfl ?_
        refine Under.byc (t := 20) rfl (fun c970 => ?_) (fun c970 => ?_)
        · refine Under.skc c970 rfl rfl rfl ?_
          refine Under.skc c970 rfl rfl rfl ?_
          refine Under.ov (OpV.pick rfl (fun _ => rfl) (fun e => absurd (e.symm.trans c970) (by decide))) rfl ?_
          refine Under.top (or_t (e := decide (a2 > 4096)) c970) ?_
          have c971 := or_tb (e := decide (a2 > 4096)) c970
          refine Under.ov (OpV.move rfl) rfl ?_
          refine Under.skc c971 rfl rfl rfl ?_
          refine Under.skc c971 rfl rfl rfl ?_
          refine Under.skc c971 rfl rfl rfl ?_
          refine Under.ov (OpV.pick rfl (fun _ => rfl) (fun e => absurd (e.symm.trans c971) (by decide))) rfl ?_
          refine Under.top (or_t (e := decide (a0.Newest < 0)) c971) ?_
          have c972 := or_tb (e := decide (a0.Newest < 0)) c971
          refine Under.ov (OpV.move rfl) rfl ?_
          refine Under.skc c972 rfl rfl rfl ?_
          refine Under.skc c972 rfl rfl rfl ?_
          refine Under.skc c972 rfl rfl rfl ?_
          refine Under.ov (OpV.pick rfl (fun _ => rfl) (fun e => absurd (e.symm.trans c972) (by decide))) rfl ?_
          refine Under.top (or_t (e := decide (a0.Newest > 4611686018427387904)) c972) ?_
          have c973 := or_tb (e := decide (a0.Newest > 4611686018427387904)) c972
          refine Under.ov (OpV.move rfl) rfl ?_
          replace h4 := ctrue c973 h4
          refine Under.skc c973 rfl rfl rfl ?_
          refine Under.skc c973 rfl rfl rfl ?_
          refine Under.skc c973 rfl rfl rfl ?_
          refine Under.skc c973 rfl rfl rfl ?_
          refine Under.ov (OpV.pick rfl (fun _ => rfl) (fun e => absurd (e.symm.trans c973) (by decide))) rfl ?_
          refine Under.top (congrArg (fun b => SV.raw (.bool b)) (Option.some.inj h4)) ?_
          have c974 := (Option.some.inj h4).symm
          exact Under.nil (Under.fin 30 (SubZ.cons rfl rfl SubZ.nil) rfl k)
        · refine Under.goc c970 rfl rfl ?_
          refine Under.ov (OpV.move rfl) rfl ?_
          refine Under.goc c970 rfl rfl ?_
          refine Under.ov (OpV.bin rfl rfl rfl) rfl ?_
          refine Under.ov (OpV.pick rfl (fun e => absurd (e.symm.trans c970) (by decide)) (fun _ => rfl)) rfl ?_
          refine Under.top (or_f c970) ?_
          refine Under.ov (OpV.move rfl) rfl ?_
          refine Under.byc (t := 24) rfl (fun c975 => ?_) (fun c975 => ?_)
          · refine Under.skc c975 rfl rfl rfl ?_
            refine Under.skc c975 rfl rfl rfl ?_
            refine Under.skc c975 rfl rfl rfl ?_
            refine Under.ov (OpV.pick rfl (fun _ => rfl) (fun e => absurd (e.symm.trans c975) (by decide))) rfl ?_
            refine Under.top (or_t (e := decide (a0.Newest < 0)) c975) ?_
            have c976 := or_tb (e := decide (a0.Newest < 0)) c975
            refine Under.ov (OpV.move rfl) rfl ?_
            refine Under.skc c976 rfl rfl rfl ?_
            refine Under.skc c976 rfl rfl rfl ?_
            refine Under.skc c976 rfl rfl rfl ?_
            refine Under.ov (OpV.pick rfl (fun _ => rfl) (fun e => absurd (e.symm.trans c976) (by decide))) rfl ?_
            refine Under.top (or_t (e := decide (a0.Newest > 4611686018427387904)) c976) ?_
            have c977 := or_tb (e := decide (a0.Newest > 4611686018427387904)) c976
            refine Under.ov (OpV.move rfl) rfl ?_
            replace h4 := ctrue c977 h4
            refine Under.skc c977 rfl rfl rfl ?_
            refine Under.skc c977 rfl rfl rfl ?_
            refine Under.skc c977 rfl rfl rfl ?_
            refine Under.skc c977 rfl rfl rfl ?_
            refine Under.ov (OpV.pick rfl (fun _ => rfl) (fun e => absurd (e.symm.trans c977) (by decide))) rfl ?_
            refine Under.top (congrArg (fun b => SV.raw (.bool b)) (Option.some.inj h4)) ?_
            have c978 := (Option.some.inj h4).symm
            exact Under.nil (Under.fin 30 (SubZ.cons rfl rfl SubZ.nil) rfl k)
          · refine Under.goc c975 rfl rfl ?_
            refine Under.ov (OpV.fd fb27_0 rfl rfl) rfl ?_
            refine Under.goc c975 rfl rfl ?_
            refine Under.ov (OpV.ldI kt2 rfl) rfl ?_
            refine Under.goc c975 rfl rfl ?_
            refine Under.ov (OpV.bin rfl rfl rfl) rfl ?_
            refine Under.ov (OpV.pick rfl (fun e => absurd (e.symm.trans c975) (by decide)) (fun _ => rfl)) rfl ?_
            refine Under.top (or_f c975) ?_
            refine Under.ov (OpV.move rfl) rfl ?_
            refine Under.byc (t := 29) rfl (fun c979 => ?_) (fun c979 => ?_)
            · refine Under.skc c979 rfl rfl rfl ?_
              refine Under.skc c979 rfl rfl rfl ?_
              refine Under.skc c979 rfl rfl rfl ?_
              refine Under.ov (OpV.pick rfl (fun _ => rfl) (fun e => absurd (e.symm.trans c979) (by decide))) rfl ?_
              refine Under.top (or_t (e := decide (a0.Newest > 4611686018427387904)) c979) ?_
              have c980 := or_tb (e := decide (a0.Newest > 4611686018427387904)) c979
              refine Under.ov (OpV.move rfl) rfl ?_
              replace h4 := ctrue c980 h4
              refine Under.skc c980 rfl rfl rfl ?_
              refine Under.skc c980 rfl rfl rfl ?_
              refine Under.skc c980 rfl rfl rfl ?_
              refine Under.skc c980 rfl rfl rfl ?_
              refine Under.ov (OpV.pick rfl (fun _ => rfl) (fun e => absurd (e.symm.trans c980) (by decide))) rfl ?_
              refine Under.top (congrArg (fun b => SV.raw (.bool b)) (Option.some.inj h4)) ?_
              have c981 := (Option.some.inj h4).symm
              exact Under.nil (Under.fin 30 (SubZ.cons rfl rfl SubZ.nil) rfl k)
            · refine Under.goc c979 rfl rfl ?_
              refine Under.ov (OpV.fd fb27_0 rfl rfl) rfl ?_
              refine Under.goc c979 rfl rfl ?_
              refine Under.ov (OpV.ldI kt2 rfl) rfl ?_
              refine Under.goc c979 rfl rfl ?_
              refine Under.ov (OpV.bin rfl rfl rfl) rfl ?_
              refine Under.ov (OpV.pick rfl (fun e => absurd (e.symm.trans c979) (by decide)) (fun _ => rfl)) rfl ?_
              refine Under.top (or_f c979) ?_
              refine Under.ov (OpV.move rfl) rfl ?_
              refine Under.byc (t := 34) rfl (fun c982 => ?_) (fun c982 => ?_)
              · replace h4 := ctrue c982 h4
                refine Under.skc c982 rfl rfl rfl ?_
                refine Under.skc c982 rfl rfl rfl ?_
                refine Under.skc c982 rfl rfl rfl ?_
                refine Under.skc c982 rfl rfl rfl ?_
                refine Under.ov (OpV.pick rfl (fun _ => rfl) (fun e => absurd (e.symm.trans c982) (by decide))) rfl ?_
                refine Under.top (congrArg (fun b => SV.raw (.bool b)) (Option.some.inj h4)) ?_
                have c983 := (Option.some.inj h4).symm
                exact Under.nil (Under.fin 30 (SubZ.cons rfl rfl SubZ.nil) rfl k)
              · replace h4 := cfalse c982 h4
                obtain ⟨y1, h2, h4⟩ := bsome h4
                refine Under.goc c982 rfl rfl ?_
                refine Under.ov (OpV.ld kt27 rfl) rfl ?_
                refine Under.goc c982 rfl rfl ?_
                refine Under.call Try.call19 rfl rfl (f_churnref16_Len_ok h2 _) rfl ?_
                refine Under.goc c982 rfl rfl ?_
                refine Under.ov (OpV.move rfl) rfl ?_
                refine Under.goc c982 rfl rfl ?_
                refine Under.ov (OpV.bin rfl rfl rfl) rfl ?_
                refine Under.ov (OpV.pick rfl (fun e => absurd (e.symm.trans c982) (by decide)) (fun _ => rfl)) rfl ?_
                refine Under.top (congrArg (fun b => SV.raw (.bool b)) (Option.some.inj h4)) ?_
                exact Under.nil (Under.fin 30 (SubZ.cons rfl rfl SubZ.nil) rfl k)
/-- churn/churnref21.Check -/
noncomputable def f_churnref21_Check (a0 : Api_Config) (a1 : Api_State) : Option Int :=
  (f_churnref21_Right a0).bind fun y1 =>
  ((bif ((!y1) || (decide (a1.Next < 0))) || (decide (a1.Next > 4611686018427387904)) then
    some true
  else
    (f_churnref16_Check a1.Window a0.Span a0.Room).bind fun y3 =>
    some (y3 != 0)
    : Option Bool)).bind fun x5 =>
  bif x5 then
    some 210
  else
    some 0
theorem f_churnref21_Check_ok {a0 : Api_Config} {a1 : Api_State} {r0 : Int} (hF : f_churnref21_Check a0 a1 = some r0) (L : List Res) : Ok Try.prog 14 [SV.val kApi_Config a0, SV.val kApi_State a1] L (SV.raw (.int .i64 r0)) L := by
  unfold f_churnref21_Check at hF
  refine Ok.intro 28 [(0, .val kApi_Config a0), (1, .val kApi_State a1)] Try.func14 rfl rfl rfl rfl (fun F0 => ?_)
  refine Under.seq ?_
  refine Under.region ?_
  refine Under.bxF (K := kApi_Config) rfl rdV rfl ?_
  refine Under.bxF (K := kApi_State) rfl rdV rfl ?_
  refine Under.ov (OpV.asg rfl) rfl ?_
  refine Under.nil ?_
  refine Under.tN ?_
  refine Under.seq ?_
  refine Under.seq ?_
  obtain ⟨y1, h2, hF⟩ := bsome hF
  obtain ⟨x5, h6, hF⟩ := bsome hF
  refine Under.rj [(27, .raw (.bool x5))] ?_ (fun k => ?_)
  · refine Under.tN ?_
    refine Under.ite hF rfl (fun hF => ?_) (fun hF => ?_)
    · refine Under.seq ?_
      refine Under.region ?_
      refine Under.ov (OpV.asg rfl) rfl ?_
      refine Under.nil ?_
      refine Under.tN ?_
      refine Under.retc ?_
      refine Under.tR ?_
      exact Under.retE Try.results14 rfl (congrArg (fun y => SV.raw (.int .i64 y)) (Option.some.inj hF)) rfl
    · refine Under.code_skip ?_
      refine Under.tN ?_
      refine Under.seq ?_
      refine Under.region ?_
      refine Under.ov (OpV.asg rfl) rfl ?_
      refine Under.nil ?_
      refine Under.tN ?_
      refine Under.retc ?_
      exact Under.retE Try.results14 rfl (congrArg (fun y => SV.raw (.int .i64 y)) (Option.some.inj hF)) rfl
  · refine Under.ov (OpV.ld kt24 rfl) rfl ?_
    refine Under.call Try.call33 rfl rfl (f_churnref21_Right_ok h2 _) rfl ?_
    refine Under.ov (OpV.not rfl) rfl ?_
    refine Under.ov (OpV.move rfl) rfl ?_
    refine Under.byc (t := 8) rfl (fun c7 => ?_) (fun c7 => ?_)
    · refine Under.skc c7 rfl rfl rfl ?_
      refine Under.skc c7 rfl rfl rfl ?_
      refine Under.skc c7 rfl rfl rfl ?_
      refine Under.ov (OpV.pick rfl (fun _ => rfl) (fun e => absurd (e.symm.trans c7) (by decide))) rfl ?_
      refine Under.top (or_t (e := decide (a1.Next < 0)) c7) ?_
      have c8 := or_tb (e := decide (a1.Next < 0)) c7
      refine Under.ov (OpV.move rfl) rfl ?_
      refine Under.skc c8 rfl rfl rfl ?_
      refine Under.skc c8 rfl rfl rfl ?_
      refine Under.skc c8 rfl rfl rfl ?_
      refine Under.ov (OpV.pick rfl (fun _ => rfl) (fun e => absurd (e.symm.trans c8) (by decide))) rfl ?_
      refine Under.top (or_t (e := decide (a1.Next > 4611686018427387904)) c8) ?_
      have c9 := or_tb (e := decide (a1.Next > 4611686018427387904)) c8
      refine Under.ov (OpV.move rfl) rfl ?_
      replace h6 := ctrue c9 h6
      refine Under.skc c9 rfl rfl rfl ?_
      refine Under.skc c9 rfl rfl rfl ?_
      refine Under.skc c9 rfl rfl rfl ?_
      refine Under.skc c9 rfl rfl rfl ?_
      refine Under.skc c9 rfl rfl rfl ?_
      refine Under.skc c9 rfl rfl rfl ?_
      refine Under.skc c9 rfl rfl rfl ?_
      refine Under.skc c9 rfl rfl rfl ?_
      refine Under.ov (OpV.pick rfl (fun _ => rfl) (fun e => absurd (e.symm.trans c9) (by decide))) rfl ?_
      refine Under.top (congrArg (fun b => SV.raw (.bool b)) (Option.some.inj h6)) ?_
      have c10 := (Option.some.inj h6).symm
      exact Under.nil (Under.fin 23 (SubZ.cons rfl rfl SubZ.nil) rfl k)
    · refine Under.goc c7 rfl rfl ?_
      refine Under.ov (OpV.fd fb29_0 rfl rfl) rfl ?_
      refine Under.goc c7 rfl rfl ?_
      refine Under.ov (OpV.ldI kt2 rfl) rfl ?_
      refine Under.goc c7 rfl rfl ?_
      refine Under.ov (OpV.bin rfl rfl rfl) rfl ?_
      refine Under.ov (OpV.pick rfl (fun e => absurd (e.symm.trans c7) (by decide)) (fun _ => rfl)) rfl ?_
      refine Under.top (or_f c7) ?_
      refine Under.ov (OpV.move rfl) rfl ?_
      refine Under.byc (t := 13) rfl (fun c11 => ?_) (fun c11 => ?_)
      · refine Under.skc c11 rfl rfl rfl ?_
        refine Under.skc c11 rfl rfl rfl ?_
        refine Under.skc c11 rfl rfl rfl ?_
        refine Under.ov (OpV.pick rfl (fun _ => rfl) (fun e => absurd (e.symm.trans c11) (by decide))) rfl ?_
        refine Under.top (or_t (e := decide (a1.Next > 4611686018427387904)) c11) ?_
        have c12 := or_tb (e := decide (a1.Next > 4611686018427387904)) c11
        refine Under.ov (OpV.move rfl) rfl ?_
        replace h6 := ctrue c12 h6
        refine Under.skc c12 rfl rfl rfl ?_
        refine Under.skc c12 rfl rfl rfl ?_
        refine Under.skc c12 rfl rfl rfl ?_
        refine Under.skc c12 rfl rfl rfl ?_
        refine Under.skc c12 rfl rfl rfl ?_
        refine Under.skc c12 rfl rfl rfl ?_
        refine Under.skc c12 rfl rfl rfl ?_
        refine Under.skc c12 rfl rfl rfl ?_
        refine Under.ov (OpV.pick rfl (fun _ => rfl) (fun e => absurd (e.symm.trans c12) (by decide))) rfl ?_
        refine Under.top (congrArg (fun b => SV.raw (.bool b)) (Option.some.inj h6)) ?_
        have c13 := (Option.some.inj h6).symm
        exact Under.nil (Under.fin 23 (SubZ.cons rfl rfl SubZ.nil) rfl k)
      · refine Under.goc c11 rfl rfl ?_
        refine Under.ov (OpV.fd fb29_0 rfl rfl) rfl ?_
        refine Under.goc c11 rfl rfl ?_
        refine Under.ov (OpV.ldI kt2 rfl) rfl ?_
        refine Under.goc c11 rfl rfl ?_
        refine Under.ov (OpV.bin rfl rfl rfl) rfl ?_
        refine Under.ov (OpV.pick rfl (fun e => absurd (e.symm.trans c11) (by decide)) (fun _ => rfl)) rfl ?_
        refine Under.top (or_f c11) ?_
        refine Under.ov (OpV.move rfl) rfl ?_
        refine Under.byc (t := 18) rfl (fun c14 => ?_) (fun c14 => ?_)
        · replace h6 := ctrue c14 h6
          refine Under.skc c14 rfl rfl rfl ?_
          refine Under.skc c14 rfl rfl rfl ?_
          refine Under.skc c14 rfl rfl rfl ?_
          refine Under.skc c14 rfl rfl rfl ?_
          refine Under.skc c14 rfl rfl rfl ?_
          refine Under.skc c14 rfl rfl rfl ?_
          refine Under.skc c14 rfl rfl rfl ?_
          refine Under.skc c14 rfl rfl rfl ?_
          refine Under.ov (OpV.pick rfl (fun _ => rfl) (fun e => absurd (e.symm.trans c14) (by decide))) rfl ?_
          refine Under.top (congrArg (fun b => SV.raw (.bool b)) (Option.some.inj h6)) ?_
          have c15 := (Option.some.inj h6).symm
          exact Under.nil (Under.fin 23 (SubZ.cons rfl rfl SubZ.nil) rfl k)
        · replace h6 := cfalse c14 h6
          obtain ⟨y3, h4, h6⟩ := bsome h6
          refine Under.goc c14 rfl rfl ?_
          refine Under.ov (OpV.fd fb29_1 rfl rfl) rfl ?_
          refine Under.goc c14 rfl rfl ?_
          refine Under.ov (OpV.ld kt27 rfl) rfl ?_
          refine Under.goc c14 rfl rfl ?_
          refine Under.ov (OpV.fd fb24_2 rfl rfl) rfl ?_
          refine Under.goc c14 rfl rfl ?_
          refine Under.ov (OpV.ldI kt3 rfl) rfl ?_
          refine Under.goc c14 rfl rfl ?_
          refine Under.ov (OpV.fd fb24_3 rfl rfl) rfl ?_
          refine Under.goc c14 rfl rfl ?_
          refine Under.ov (OpV.ldI kt3 rfl) rfl ?_
          refine Under.goc c14 rfl rfl ?_
          refine Under.call Try.call17 rfl rfl (f_churnref16_Check_ok h4 _) rfl ?_
          refine Under.goc c14 rfl rfl ?_
          refine Under.ov (OpV.bin rfl rfl rfl) rfl ?_
          refine Under.ov (OpV.pick rfl (fun e => absurd (e.symm.trans c14) (by decide)) (fun _ => rfl)) rfl ?_
          refine Under.top (congrArg (fun b => SV.raw (.bool b)) (Option.some.inj h6)) ?_
          exact Under.nil (Under.fin 23 (SubZ.cons rfl rfl SubZ.nil) rfl k)
/-- churn/churnlaw21.RoundChecks -/
noncomputable def f_churnlaw21_RoundChecks (a0 : Api_Config) (a1 : Api_State) : Option Bool :=
  (f_round_Check (⟨[], 0, 0, 0, 0, 0, 0, 0, 0, 0, 0⟩ : Api_Config) (⟨0, (⟨0, []⟩ : Api_Window)⟩ : Api_State)).bind fun y1 =>
  ((bif y1 != 210 then
    some true
  else
    (f_churnlaw21_plain).bind fun y3 =>
    (f_round_Check y3 (⟨0, (⟨0, []⟩ : Api_Window)⟩ : Api_State)).bind fun y5 =>
    some (y5 != 0)
    : Option Bool)).bind fun x7 =>
  bif x7 then
    some false
  else
    (f_churnref21_Check a0 a1).bind fun y9 =>
    (f_round_Check a0 a1).bind fun y11 =>
    some (y11 == y9)
theorem f_churnlaw21_RoundChecks_ok {a0 : Api_Config} {a1 : Api_State} {r0 : Bool} (hF : f_churnlaw21_RoundChecks a0 a1 = some r0) (L : List Res) : Ok Try.prog 3 [SV.val kApi_Config a0, SV.val kApi_State a1] L (SV.raw (.bool r0)) L := by
  unfold f_churnlaw21_RoundChecks at hF
  refine Ok.intro 24 [(0, .val kApi_Config a0), (1, .val kApi_State a1)] Try.func3 rfl rfl rfl rfl (fun F0 => ?_)
  refine Under.seq ?_
  refine Under.region ?_
  refine Under.bxF (K := kApi_Config) rfl rdV rfl ?_
  refine Under.bxF (K := kApi_State) rfl rdV rfl ?_
  refine Under.ov (OpV.asg rfl) rfl ?_
  refine Under.nil ?_
  refine Under.tN ?_
  refine Under.seq ?_
  refine Under.seq ?_
  obtain ⟨y1, h2, hF⟩ := bsome hF
  obtain ⟨x7, h8, hF⟩ := bsome hF
  refine Under.rj [(15, .raw (.bool x7))] ?_ (fun k => ?_)
  · refine Under.tN ?_
    refine Under.ite hF rfl (fun hF => ?_) (fun hF => ?_)
    · refine Under.seq ?_
      refine Under.region ?_
      refine Under.ov (OpV.asg rfl) rfl ?_
      refine Under.nil ?_
      refine Under.tN ?_
      refine Under.retc ?_
      refine Under.tR ?_
      exact Under.retE Try.results3 rfl (congrArg (fun y => SV.raw (.bool y)) (Option.some.inj hF)) rfl
    · refine Under.code_skip ?_
      refine Under.tN ?_
      refine Under.seq ?_
      refine Under.region ?_
      refine Under.ov (OpV.ld kt24 rfl) rfl ?_
      refine Under.ov (OpV.ld kt29 rfl) rfl ?_
      obtain ⟨y9, h10, hF⟩ := bsome hF
      refine Under.call Try.call14 rfl rfl (f_churnref21_Check_ok h10 _) rfl ?_
      refine Under.ov (OpV.asg rfl) rfl ?_
      refine Under.nil ?_
      refine Under.tN ?_
      refine Under.seq ?_
      refine Under.region ?_
      refine Under.ov (OpV.ld kt24 rfl) rfl ?_
      refine Under.ov (OpV.ld kt29 rfl) rfl ?_
      obtain ⟨y11, h12, hF⟩ := bsome hF
      refine Under.call Try.call12 rfl rfl (f_round_Check_ok h12 _) rfl ?_
      refine Under.ov (OpV.move rfl) rfl ?_
      refine Under.ov (OpV.bin rfl rfl rfl) rfl ?_
      refine Under.ov (OpV.asg rfl) rfl ?_
      refine Under.nil ?_
      refine Under.tN ?_
      refine Under.retc ?_
      exact Under.retE Try.results3 rfl (congrArg (fun y => SV.raw (.bool y)) (Option.some.inj hF)) rfl
  · refine Under.ov (OpV.bst BT24 (Bld.nil _)) rfl ?_
    refine Under.ov (OpV.bst BT29 (Bld.nil _)) rfl ?_
    refine Under.call Try.call12 rfl rfl (f_round_Check_ok h2 _) rfl ?_
    refine Under.ov (OpV.bin rfl rfl rfl) rfl ?_
    refine Under.ov (OpV.move rfl) rfl ?_
    refine Under.byc (t := 10) rfl (fun c13 => ?_) (fun c13 => ?_)
    · replace h8 := ctrue c13 h8
      refine Under.skc c13 rfl rfl rfl ?_
      refine Under.skc c13 rfl rfl rfl ?_
      refine Under.skc c13 rfl rfl rfl ?_
      refine Under.skc c13 rfl rfl rfl ?_
      refine Under.ov (OpV.pick rfl (fun _ => rfl) (fun e => absurd (e.symm.trans c13) (by decide))) rfl ?_
      refine Under.top (congrArg (fun b => SV.raw (.bool b)) (Option.some.inj h8)) ?_
      have c14 := (Option.some.inj h8).symm
      exact Under.nil (Under.fin 10 (SubZ.cons rfl rfl SubZ.nil) rfl k)
    · replace h8 := cfalse c13 h8
      obtain ⟨y3, h4, h8⟩ := bsome h8
      obtain ⟨y5, h6, h8⟩ := bsome h8
      refine Under.goc c13 rfl rfl ?_
      refine Under.call Try.call13 rfl rfl (f_churnlaw21_plain_ok h4 _) rfl ?_
      refine Under.goc c13 rfl rfl ?_
      refine Under.ov (OpV.bst BT29 (Bld.nil _)) rfl ?_
      refine Under.goc c13 rfl rfl ?_
      refine Under.call Try.call12 rfl rfl (f_round_Check_ok h6 _) rfl ?_
      refine Under.goc c13 rfl rfl ?_
      refine Under.ov (OpV.bin rfl rfl rfl) rfl ?_
      refine Under.ov (OpV.pick rfl (fun e => absurd (e.symm.trans c13) (by decide)) (fun _ => rfl)) rfl ?_
      refine Under.top (congrArg (fun b => SV.raw (.bool b)) (Option.some.inj h8)) ?_
      exact Under.nil (Under.fin 10 (SubZ.cons rfl rfl SubZ.nil) rfl k)
namespace DRoundChecks
def Law : Prop := ∀ (x0 : Api_Config) (x1 : Api_State), g_Api_Config x0 → g_Api_State x1 → b_Api_Config x0 + b_Api_State x1 ≤ 1048576 → f_churnlaw21_RoundChecks x0 x1 = some true
theorem own : ownKnob Try.prog.godebug = none := by kernel_rfl
theorem kids : Kids Try.prog (· < Try.prog.types.size) := kids_rows (by kernel_rfl) (by kernel_rfl)
theorem full : ∀ t e, t < Try.prog.types.size → Try.prog.underlying t = some (.slice e) → 0 < Try.prog.cellsOf e := slices_full_of Try.prog (by kernel_rfl)
theorem blk (H : Type) : Blk (Rows.uptoBulk (H := H)) Rows.uptoBulkAll := ⟨by simp [Rows.uptoBulkAll], fun _ _ => by simp [Rows.uptoBulkAll], fun _ _ => by simp only [Rows.uptoBulk]; omega, fun _ => by simp [Rows.uptoBulk], fun l => by cases l <;> simp [Rows.uptoBulk], fun _ => by simp [Rows.uptoBulk], by simp [Rows.uptoBulk]⟩
theorem contract (law : Law) (H : Type) (enc : TypeId × Value → H) (W : World) (base : Nat) (args : Array Value) (ds gs : List (DataW H)) (before : List MemPlace)
    (hval : ∀ (j : Nat) t v, Try.f3.params[j]? = some t → args[j]? = some v → Value.okWide Try.prog W .any base t v)
    (hW : DataW.Whole enc Try.prog Try.f3.params.toList Rows.roundChecksSpec.vars false W args.toList ds gs before) (hk : Rows.uptoSmall H (ds ++ gs) = true) :
    Calls Try.prog 3 args W fun e W' => ∃ v, e = .returned v ∧ Rows.roundChecksSpec.post enc Try.prog Try.f3 false true false false W args v W' := by
  have hW0 := hW
  obtain ⟨p, q, hA, hV, hpq, hz, hn⟩ := hW
  obtain ⟨rfl, rfl⟩ := trodVars_none hV
  rw [show Try.f3.params.toList = [24, 29] from by rw [Try.params3]] at hA
  rw [Try.params3] at hval
  obtain ⟨v0, vs0, d0, ds0, p0, q0, ha0, hd0, _, t0, r0⟩ := trodAll_cons hA
  obtain ⟨v1, vs1, d1, ds1, p1, q1, ha1, hd1, _, t1, r1⟩ := trodAll_cons r0
  obtain ⟨hvn, hdn, _⟩ := trodAll_nil r1
  subst hvn
  subst hdn
  subst ha1
  subst hd1
  subst hd0
  obtain rfl : args = #[v0, v1] := by cases args; simp_all
  obtain ⟨n0, t0⟩ := t0
  obtain ⟨x0, c0, g0, b0⟩ := rw24 (blk H) t0
  have k0 := Kd.val_of (K := kApi_Config) kt24.agg (hval 0 24 v0 rfl rfl) c0
  obtain ⟨n1, t1⟩ := t1
  obtain ⟨x1, c1, g1, b1⟩ := rw29 (blk H) t1
  have k1 := Kd.val_of (K := kApi_State) kt29.agg (hval 1 29 v1 rfl rfl) c1
  dsimp only at b0 b1
  have hb := of_decide_eq_true hk
  simp only [Rows.uptoBulkAll, List.append_nil] at hb
  have hlaw := law x0 x1 g0 g1 (by omega)
  refine door_true hW0 rfl rfl (tb := 4) rfl Try.underlying4 kids full (by rw [Try.params3]; decide) ?_
  exact f_churnlaw21_RoundChecks_ok hlaw [] (FzOf W) W [v0, v1] (by simp only [SV.oks, SV.ok]; exact ⟨k0, k1, trivial⟩) (St.start W)
set_option maxRecDepth 100000 in
theorem lifted (law : Law) (os : Os) (started : os.Started) (H : Type) (enc : TypeId × Value → H) (F : Stop.Interp) :
    ReturnsInHanded {} Try.checked os 3 .any ((Rows.OpenSpec.upto Rows.roundChecksSpec).pre6 enc Try.prog Try.f3 Rows.roundChecksUptoRow.domain false) (((Rows.OpenSpec.upto Rows.roundChecksSpec).at F).post enc Try.prog Try.f3 false true false false) := by
  refine returnsInHanded_of_cond (C := Try.checked) (s := Rows.OpenSpec.upto Rows.roundChecksSpec) (k := Rows.uptoSmall) rfl own started (by kernel_rfl) Try.func3
    (OpenSpec.witness (enc := enc) (C := Try.checked) (s := Rows.OpenSpec.upto Rows.roundChecksSpec) (k := Rows.uptoSmall) rfl false ⟨#[], #[(.agg #[.slice none 0 0, .int .i64 0, .int .i64 0, .int .i64 0, .int .i64 0, .int .i64 0, .int .i64 0, .int .i64 0, .int .i64 0, .int .i64 0, .int .i64 0] : Value), (.agg #[.int .i64 0, .int .i64 0, .slice none 0 0] : Value)], []⟩ 8 (by kernel_rfl) (by kernel_rfl) (by kernel_rfl)
      (x := ([.agg [.nil, .lit (.int .i64 0), .lit (.int .i64 0), .lit (.int .i64 0), .lit (.int .i64 0), .lit (.int .i64 0), .lit (.int .i64 0), .lit (.int .i64 0), .lit (.int .i64 0), .lit (.int .i64 0), .lit (.int .i64 0)], .agg [.lit (.int .i64 0), .agg [.lit (.int .i64 0), .nil]]], [], [])) (by kernel_rfl) rfl (by kernel_rfl)) ?_
  intro W base args ds gs before hval hW _ hk _
  exact contract law H enc W base args ds gs before hval hW hk
theorem over (law : Law) : Rows.roundChecksUptoRow.holds Try.pinned (Rows.OpenSpec.upto Rows.roundChecksSpec) :=
  OpenClaim.holds_of_cond 3 Try.f3 rfl rfl rfl rfl rfl rfl rfl ⟨rfl, rfl, rfl, rfl, rfl⟩ rfl rfl rfl rfl rfl (by kernel_rfl) Try.func3 (by kernel_rfl)
    (of_decide_eq_true (by kernel_rfl)) (by unfold Func.isWrapper; first | (rw [if_pos (by decide +kernel)]; kernel_rfl) | (rw [if_neg (by decide +kernel)]; exact ⟨rfl, rfl⟩))
    (fun os started H enc _ F => lifted law os started H enc F)
theorem said (law : Law) : Rows.RoundChecksUptoSaid := over law
end DRoundChecks
end Go.Proofs.Ytgllljocmpbooaa

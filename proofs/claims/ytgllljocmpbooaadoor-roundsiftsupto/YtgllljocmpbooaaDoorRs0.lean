/- PRINTED BY gen2.py (of this repo): functions of the program in Lean, and that the machine follows them. -/
import Derived.Test.YtgllljocmpbooaaDoorSimC
import Derived.Test.YtgllljocmpbooaaDoorRows
set_option linter.unusedVariables false
set_option linter.unusedSimpArgs false
set_option maxRecDepth 20000
namespace Go.Proofs.YtgllljocmpbooaaDoor
open Go Go.Sim Go.ChangeShapes Go.WideShapes Go.ChangeAt Go.RowKit
structure Api_Config where
  Master : List Int
  Left : Int
  Span : Int
  Room : Int
  Num : Int
  Den : Int
  Noise : Int
  Chunks : Int
  Workers : Int
  Cap : Int
  Shards : Int
abbrev kApi_ConfigF : List (Fld Api_Config) := [⟨kSl (kInt .u8), Api_Config.Master⟩, ⟨kInt .i64, Api_Config.Left⟩, ⟨kInt .i64, Api_Config.Span⟩, ⟨kInt .i64, Api_Config.Room⟩, ⟨kInt .i64, Api_Config.Num⟩, ⟨kInt .i64, Api_Config.Den⟩, ⟨kInt .i64, Api_Config.Noise⟩, ⟨kInt .i64, Api_Config.Chunks⟩, ⟨kInt .i64, Api_Config.Workers⟩, ⟨kInt .i64, Api_Config.Cap⟩, ⟨kInt .i64, Api_Config.Shards⟩]
abbrev kApi_Config : Kd Api_Config := kSt kApi_ConfigF
structure Api_Epoch where
  Number : Int
  Tags : List (List Int)
abbrev kApi_EpochF : List (Fld Api_Epoch) := [⟨kInt .i64, Api_Epoch.Number⟩, ⟨kSl (kArr 16 (kInt .u8)), Api_Epoch.Tags⟩]
abbrev kApi_Epoch : Kd Api_Epoch := kSt kApi_EpochF
structure Api_Window where
  Newest : Int
  Epochs : List Api_Epoch
abbrev kApi_WindowF : List (Fld Api_Window) := [⟨kInt .i64, Api_Window.Newest⟩, ⟨kSl kApi_Epoch, Api_Window.Epochs⟩]
abbrev kApi_Window : Kd Api_Window := kSt kApi_WindowF
structure Api_Header where
  Round : Int
  Epoch : Int
  Left : Int
abbrev kApi_HeaderF : List (Fld Api_Header) := [⟨kInt .i64, Api_Header.Round⟩, ⟨kInt .i64, Api_Header.Epoch⟩, ⟨kInt .i64, Api_Header.Left⟩]
abbrev kApi_Header : Kd Api_Header := kSt kApi_HeaderF
structure Api_Batch where
  Header : Api_Header
  Cells : List (List Int)
abbrev kApi_BatchF : List (Fld Api_Batch) := [⟨kApi_Header, Api_Batch.Header⟩, ⟨kSl (kSl (kInt .u8)), Api_Batch.Cells⟩]
abbrev kApi_Batch : Kd Api_Batch := kSt kApi_BatchF
structure Churnlaw21_Batch where
  C : Api_Config
  W : Api_Window
  B : Api_Batch
abbrev kChurnlaw21_BatchF : List (Fld Churnlaw21_Batch) := [⟨kApi_Config, Churnlaw21_Batch.C⟩, ⟨kApi_Window, Churnlaw21_Batch.W⟩, ⟨kApi_Batch, Churnlaw21_Batch.B⟩]
abbrev kChurnlaw21_Batch : Kd Churnlaw21_Batch := kSt kChurnlaw21_BatchF
structure Api_Peeled where
  Cell : List Int
  Replay : List Int
abbrev kApi_PeeledF : List (Fld Api_Peeled) := [⟨kSl (kInt .u8), Api_Peeled.Cell⟩, ⟨kArr 16 (kInt .u8), Api_Peeled.Replay⟩]
abbrev kApi_Peeled : Kd Api_Peeled := kSt kApi_PeeledF
structure Api_Report where
  In : Int
  Malformed : Int
  Replays : Int
  Noise : Int
  Out : Int
abbrev kApi_ReportF : List (Fld Api_Report) := [⟨kInt .i64, Api_Report.In⟩, ⟨kInt .i64, Api_Report.Malformed⟩, ⟨kInt .i64, Api_Report.Replays⟩, ⟨kInt .i64, Api_Report.Noise⟩, ⟨kInt .i64, Api_Report.Out⟩]
abbrev kApi_Report : Kd Api_Report := kSt kApi_ReportF
structure Hash_Hash where
  words : List Int
  tail : List Int
  n : Int
abbrev kHash_HashF : List (Fld Hash_Hash) := [⟨kArr 8 (kInt .u32), Hash_Hash.words⟩, ⟨kArr 64 (kInt .u8), Hash_Hash.tail⟩, ⟨kInt .u64, Hash_Hash.n⟩]
abbrev kHash_Hash : Kd Hash_Hash := kSt kHash_HashF
structure Api_OnionKeys where
  Box : List Int
  Mac : List Int
  Replay : List Int
abbrev kApi_OnionKeysF : List (Fld Api_OnionKeys) := [⟨kArr 16 (kInt .u8), Api_OnionKeys.Box⟩, ⟨kArr 32 (kInt .u8), Api_OnionKeys.Mac⟩, ⟨kArr 32 (kInt .u8), Api_OnionKeys.Replay⟩]
abbrev kApi_OnionKeys : Kd Api_OnionKeys := kSt kApi_OnionKeysF
structure Block_Schedule where
  keys : List (List Int)
abbrev kBlock_ScheduleF : List (Fld Block_Schedule) := [⟨kArr 11 (kArr 16 (kInt .u8)), Block_Schedule.keys⟩]
abbrev kBlock_Schedule : Kd Block_Schedule := kSt kBlock_ScheduleF
theorem z_kApi_Config (F : Fz) : Kd.rd kApi_Config F ([.slice none 0 0] ++ [.int .i64 0] ++ [.int .i64 0] ++ [.int .i64 0] ++ [.int .i64 0] ++ [.int .i64 0] ++ [.int .i64 0] ++ [.int .i64 0] ++ [.int .i64 0] ++ [.int .i64 0] ++ [.int .i64 0] ++ []) (⟨[], (0 : Int), (0 : Int), (0 : Int), (0 : Int), (0 : Int), (0 : Int), (0 : Int), (0 : Int), (0 : Int), (0 : Int)⟩ : Api_Config) := ⟨[.slice none 0 0], _, rfl, ⟨none, 0, rfl, Nat.le_refl _, .inl rfl⟩, ⟨[.int .i64 0], _, rfl, rfl, ⟨[.int .i64 0], _, rfl, rfl, ⟨[.int .i64 0], _, rfl, rfl, ⟨[.int .i64 0], _, rfl, rfl, ⟨[.int .i64 0], _, rfl, rfl, ⟨[.int .i64 0], _, rfl, rfl, ⟨[.int .i64 0], _, rfl, rfl, ⟨[.int .i64 0], _, rfl, rfl, ⟨[.int .i64 0], _, rfl, rfl, ⟨[.int .i64 0], _, rfl, rfl, rfl⟩⟩⟩⟩⟩⟩⟩⟩⟩⟩⟩
theorem ZT24 : ZT Tryd.prog 24 kApi_Config (⟨[], (0 : Int), (0 : Int), (0 : Int), (0 : Int), (0 : Int), (0 : Int), (0 : Int), (0 : Int), (0 : Int), (0 : Int)⟩ : Api_Config) := ⟨(.agg #[.slice none 0 0, .int .i64 0, .int .i64 0, .int .i64 0, .int .i64 0, .int .i64 0, .int .i64 0, .int .i64 0, .int .i64 0, .int .i64 0, .int .i64 0] : Value), by kernel_rfl, fun F => cells_cast (by kernel_rfl) (z_kApi_Config F)⟩
theorem z_kInt_u8 (F : Fz) : Kd.rd (kInt .u8) F [.int .u8 0] (0 : Int) := rfl
theorem AT5 : AT Tryd.prog 5 (kInt .u8) (0 : Int) 1 := ⟨⟨Tryd.t5, (.int .u8 0 : Value), by kernel_rfl, by kernel_rfl, by kernel_rfl, by kernel_rfl, by decide, by decide, fun F => cells_cast (by kernel_rfl) (z_kInt_u8 F)⟩⟩
theorem BT24 : BT Tryd.prog 24 kApi_ConfigF (⟨[], (0 : Int), (0 : Int), (0 : Int), (0 : Int), (0 : Int), (0 : Int), (0 : Int), (0 : Int), (0 : Int), (0 : Int)⟩ : Api_Config) := ⟨⟨Tryd.t24, (.agg #[.slice none 0 0, .int .i64 0, .int .i64 0, .int .i64 0, .int .i64 0, .int .i64 0, .int .i64 0, .int .i64 0, .int .i64 0, .int .i64 0, .int .i64 0] : Value), _, [(0, 1), (1, 1), (2, 1), (3, 1), (4, 1), (5, 1), (6, 1), (7, 1), (8, 1), (9, 1), (10, 1)], by kernel_rfl, by kernel_rfl, Tryd.underlying24, by kernel_rfl, fun i f h => match i, f, h with
    | 0, f, h => by cases h; rfl
    | 1, f, h => by cases h; rfl
    | 2, f, h => by cases h; rfl
    | 3, f, h => by cases h; rfl
    | 4, f, h => by cases h; rfl
    | 5, f, h => by cases h; rfl
    | 6, f, h => by cases h; rfl
    | 7, f, h => by cases h; rfl
    | 8, f, h => by cases h; rfl
    | 9, f, h => by cases h; rfl
    | 10, f, h => by cases h; rfl
    | (_ + 11), f, h => by simp [kApi_ConfigF] at h, fun F => cells_castF (by kernel_rfl) (z_kApi_Config F)⟩⟩
theorem sz24_kApi_Config : (Tryd.prog.info? 24).map (·.size) = some (Kd.n kApi_Config) := by kernel_rfl
theorem kt24 : KT Tryd.prog 24 kApi_Config := ⟨by kernel_rfl, by kernel_rfl⟩
theorem z_kApi_Window (F : Fz) : Kd.rd kApi_Window F ([.int .i64 0] ++ [.slice none 0 0] ++ []) (⟨(0 : Int), []⟩ : Api_Window) := ⟨[.int .i64 0], _, rfl, rfl, ⟨[.slice none 0 0], _, rfl, ⟨none, 0, rfl, Nat.le_refl _, .inl rfl⟩, rfl⟩⟩
theorem BT27 : BT Tryd.prog 27 kApi_WindowF (⟨(0 : Int), []⟩ : Api_Window) := ⟨⟨Tryd.t27, (.agg #[.int .i64 0, .slice none 0 0] : Value), _, [(0, 1), (1, 1)], by kernel_rfl, by kernel_rfl, Tryd.underlying27, by kernel_rfl, fun i f h => match i, f, h with
    | 0, f, h => by cases h; rfl
    | 1, f, h => by cases h; rfl
    | (_ + 2), f, h => by simp [kApi_WindowF] at h, fun F => cells_castF (by kernel_rfl) (z_kApi_Window F)⟩⟩
theorem z_kSl_kInt_u8_ (F : Fz) : Kd.rd (kSl (kInt .u8)) F [.slice none 0 0] [] := ⟨none, 0, rfl, Nat.le_refl _, .inl rfl⟩
theorem ET22 : ET Tryd.prog 22 (kSl (kInt .u8)) [] := ⟨⟨Tryd.t22, (.slice none 0 0 : Value), by kernel_rfl, by kernel_rfl, by kernel_rfl, by decide, fun F => cells_cast (by kernel_rfl) (z_kSl_kInt_u8_ F)⟩⟩
theorem z_kApi_Batch (F : Fz) : Kd.rd kApi_Batch F (([.int .i64 0] ++ [.int .i64 0] ++ [.int .i64 0] ++ []) ++ [.slice none 0 0] ++ []) (⟨(⟨(0 : Int), (0 : Int), (0 : Int)⟩ : Api_Header), []⟩ : Api_Batch) := ⟨([.int .i64 0] ++ [.int .i64 0] ++ [.int .i64 0] ++ []), _, rfl, ⟨[.int .i64 0], _, rfl, rfl, ⟨[.int .i64 0], _, rfl, rfl, ⟨[.int .i64 0], _, rfl, rfl, rfl⟩⟩⟩, ⟨[.slice none 0 0], _, rfl, ⟨none, 0, rfl, Nat.le_refl _, .inl rfl⟩, rfl⟩⟩
theorem BT32 : BT Tryd.prog 32 kApi_BatchF (⟨(⟨(0 : Int), (0 : Int), (0 : Int)⟩ : Api_Header), []⟩ : Api_Batch) := ⟨⟨Tryd.t32, (.agg #[.int .i64 0, .int .i64 0, .int .i64 0, .slice none 0 0] : Value), _, [(0, 3), (3, 1)], by kernel_rfl, by kernel_rfl, Tryd.underlying32, by kernel_rfl, fun i f h => match i, f, h with
    | 0, f, h => by cases h; rfl
    | 1, f, h => by cases h; rfl
    | (_ + 2), f, h => by simp [kApi_BatchF] at h, fun F => cells_castF (by kernel_rfl) (z_kApi_Batch F)⟩⟩
theorem z_kApi_Report (F : Fz) : Kd.rd kApi_Report F ([.int .i64 0] ++ [.int .i64 0] ++ [.int .i64 0] ++ [.int .i64 0] ++ [.int .i64 0] ++ []) (⟨(0 : Int), (0 : Int), (0 : Int), (0 : Int), (0 : Int)⟩ : Api_Report) := ⟨[.int .i64 0], _, rfl, rfl, ⟨[.int .i64 0], _, rfl, rfl, ⟨[.int .i64 0], _, rfl, rfl, ⟨[.int .i64 0], _, rfl, rfl, ⟨[.int .i64 0], _, rfl, rfl, rfl⟩⟩⟩⟩⟩
theorem ZT37 : ZT Tryd.prog 37 kApi_Report (⟨(0 : Int), (0 : Int), (0 : Int), (0 : Int), (0 : Int)⟩ : Api_Report) := ⟨(.agg #[.int .i64 0, .int .i64 0, .int .i64 0, .int .i64 0, .int .i64 0] : Value), by kernel_rfl, fun F => cells_cast (by kernel_rfl) (z_kApi_Report F)⟩
theorem fb24_0 : fldB Tryd.prog 24 0 = some (offF kApi_ConfigF 0, 0 + 1) := by kernel_rfl
theorem kt22 : KT Tryd.prog 22 (kSl (kInt .u8)) := ⟨by kernel_rfl, by kernel_rfl⟩
theorem fb24_1 : fldB Tryd.prog 24 1 = some (offF kApi_ConfigF 1, 0 + 1) := by kernel_rfl
theorem kt3 : KT Tryd.prog 3 (kInt .i64) := ⟨by kernel_rfl, by kernel_rfl⟩
theorem runj_4 {P : Program} {ops : Array Oper} {rest : List Oper} {Q : Exit → Act → World → Prop} {F0 : Fz} {n : Nat} {E : List (Nat × SV)} {L : List Res} {o0 o1 o2 o3 : Oper} (d : Nat) (e : Bool) (k : Under F0 n ((d, .raw (.bool e)) :: E) L (wpList P ops Q rest)) (h : Under F0 n ((d, .raw (.bool e)) :: E) L (wpList P ops Q rest) → Under F0 n E L (wpList P ops Q (o0 :: o1 :: o2 :: o3 :: rest))) : Under F0 n E L (wpList P ops Q (o0 :: o1 :: o2 :: o3 :: rest)) := h k
theorem runj_4q {P : Program} {ops : Array Oper} {rest : List Oper} {C : World → Prop} {Qa : Act → Prop} {F0 : Fz} {n : Nat} {E : List (Nat × SV)} {o0 o1 o2 o3 : Oper} (d : Nat) (e : Bool) (k : UnderQ F0 n ((d, .raw (.bool e)) :: E) (wpQuiet P ops C Qa rest)) (h : UnderQ F0 n ((d, .raw (.bool e)) :: E) (wpQuiet P ops C Qa rest) → UnderQ F0 n E (wpQuiet P ops C Qa (o0 :: o1 :: o2 :: o3 :: rest))) : UnderQ F0 n E (wpQuiet P ops C Qa (o0 :: o1 :: o2 :: o3 :: rest)) := h k
theorem fb24_2 : fldB Tryd.prog 24 2 = some (offF kApi_ConfigF 2, 0 + 1) := by kernel_rfl
theorem fb24_3 : fldB Tryd.prog 24 3 = some (offF kApi_ConfigF 3, 0 + 1) := by kernel_rfl
theorem fb24_5 : fldB Tryd.prog 24 5 = some (offF kApi_ConfigF 5, 0 + 1) := by kernel_rfl
theorem fb24_4 : fldB Tryd.prog 24 4 = some (offF kApi_ConfigF 4, 0 + 1) := by kernel_rfl
theorem fb24_6 : fldB Tryd.prog 24 6 = some (offF kApi_ConfigF 6, 0 + 1) := by kernel_rfl
theorem fb24_7 : fldB Tryd.prog 24 7 = some (offF kApi_ConfigF 7, 0 + 1) := by kernel_rfl
theorem fb24_8 : fldB Tryd.prog 24 8 = some (offF kApi_ConfigF 8, 0 + 1) := by kernel_rfl
theorem fb24_9 : fldB Tryd.prog 24 9 = some (offF kApi_ConfigF 9, 0 + 1) := by kernel_rfl
theorem fb24_10 : fldB Tryd.prog 24 10 = some (offF kApi_ConfigF 10, 0 + 1) := by kernel_rfl
theorem runj_6 {P : Program} {ops : Array Oper} {rest : List Oper} {Q : Exit → Act → World → Prop} {F0 : Fz} {n : Nat} {E : List (Nat × SV)} {L : List Res} {o0 o1 o2 o3 o4 o5 : Oper} (d : Nat) (e : Bool) (k : Under F0 n ((d, .raw (.bool e)) :: E) L (wpList P ops Q rest)) (h : Under F0 n ((d, .raw (.bool e)) :: E) L (wpList P ops Q rest) → Under F0 n E L (wpList P ops Q (o0 :: o1 :: o2 :: o3 :: o4 :: o5 :: rest))) : Under F0 n E L (wpList P ops Q (o0 :: o1 :: o2 :: o3 :: o4 :: o5 :: rest)) := h k
theorem runj_6q {P : Program} {ops : Array Oper} {rest : List Oper} {C : World → Prop} {Qa : Act → Prop} {F0 : Fz} {n : Nat} {E : List (Nat × SV)} {o0 o1 o2 o3 o4 o5 : Oper} (d : Nat) (e : Bool) (k : UnderQ F0 n ((d, .raw (.bool e)) :: E) (wpQuiet P ops C Qa rest)) (h : UnderQ F0 n ((d, .raw (.bool e)) :: E) (wpQuiet P ops C Qa rest) → UnderQ F0 n E (wpQuiet P ops C Qa (o0 :: o1 :: o2 :: o3 :: o4 :: o5 :: rest))) : UnderQ F0 n E (wpQuiet P ops C Qa (o0 :: o1 :: o2 :: o3 :: o4 :: o5 :: rest)) := h k
theorem BT37 : BT Tryd.prog 37 kApi_ReportF (⟨(0 : Int), (0 : Int), (0 : Int), (0 : Int), (0 : Int)⟩ : Api_Report) := ⟨⟨Tryd.t37, (.agg #[.int .i64 0, .int .i64 0, .int .i64 0, .int .i64 0, .int .i64 0] : Value), _, [(0, 1), (1, 1), (2, 1), (3, 1), (4, 1)], by kernel_rfl, by kernel_rfl, Tryd.underlying37, by kernel_rfl, fun i f h => match i, f, h with
    | 0, f, h => by cases h; rfl
    | 1, f, h => by cases h; rfl
    | 2, f, h => by cases h; rfl
    | 3, f, h => by cases h; rfl
    | 4, f, h => by cases h; rfl
    | (_ + 5), f, h => by simp [kApi_ReportF] at h, fun F => cells_castF (by kernel_rfl) (z_kApi_Report F)⟩⟩
theorem sz37_kApi_Report : (Tryd.prog.info? 37).map (·.size) = some (Kd.n kApi_Report) := by kernel_rfl
theorem kt37 : KT Tryd.prog 37 kApi_Report := ⟨by kernel_rfl, by kernel_rfl⟩
theorem fb32_0 : fldB Tryd.prog 32 0 = some (offF kApi_BatchF 0, 2 + 1) := by kernel_rfl
theorem fb29_1 : fldB Tryd.prog 29 1 = some (offF kApi_HeaderF 1, 0 + 1) := by kernel_rfl
theorem kt2 : KT Tryd.prog 2 (kInt .i64) := ⟨by kernel_rfl, by kernel_rfl⟩
theorem sz5_kInt_u8 : (Tryd.prog.info? 5).map (·.size) = some (Kd.n (kInt .u8)) := by kernel_rfl
theorem ET5 : ET Tryd.prog 5 (kInt .u8) (0 : Int) := ⟨⟨Tryd.t5, (.int .u8 0 : Value), by kernel_rfl, by kernel_rfl, by kernel_rfl, by decide, fun F => cells_cast (by kernel_rfl) (z_kInt_u8 F)⟩⟩
theorem z_kArr_32_kInt_u8_ (F : Fz) : Kd.rd (kArr 32 (kInt .u8)) F ((List.replicate 32 [.int .u8 0]).flatten) (List.replicate 32 (0 : Int)) := ⟨by simp, rdAll_rep (K := kInt .u8) rfl 32⟩
theorem ZT64 : ZT Tryd.prog 64 (kArr 32 (kInt .u8)) (List.replicate 32 (0 : Int)) := ⟨(.agg #[.int .u8 0, .int .u8 0, .int .u8 0, .int .u8 0, .int .u8 0, .int .u8 0, .int .u8 0, .int .u8 0, .int .u8 0, .int .u8 0, .int .u8 0, .int .u8 0, .int .u8 0, .int .u8 0, .int .u8 0, .int .u8 0, .int .u8 0, .int .u8 0, .int .u8 0, .int .u8 0, .int .u8 0, .int .u8 0, .int .u8 0, .int .u8 0, .int .u8 0, .int .u8 0, .int .u8 0, .int .u8 0, .int .u8 0, .int .u8 0, .int .u8 0, .int .u8 0] : Value), by kernel_rfl, fun F => cells_cast (by kernel_rfl) (z_kArr_32_kInt_u8_ F)⟩
theorem z_kHash_Hash (F : Fz) : Kd.rd kHash_Hash F ((List.replicate 8 [.int .u32 0]).flatten ++ (List.replicate 64 [.int .u8 0]).flatten ++ [.int .u64 0] ++ []) (⟨(List.replicate 8 (0 : Int)), (List.replicate 64 (0 : Int)), (0 : Int)⟩ : Hash_Hash) := ⟨(List.replicate 8 [.int .u32 0]).flatten, _, rfl, ⟨by simp, rdAll_rep (K := kInt .u32) rfl 8⟩, ⟨(List.replicate 64 [.int .u8 0]).flatten, _, rfl, ⟨by simp, rdAll_rep (K := kInt .u8) rfl 64⟩, ⟨[.int .u64 0], _, rfl, rfl, rfl⟩⟩⟩
theorem ZT103 : ZT Tryd.prog 103 kHash_Hash (⟨(List.replicate 8 (0 : Int)), (List.replicate 64 (0 : Int)), (0 : Int)⟩ : Hash_Hash) := ⟨(.agg #[.int .u32 0, .int .u32 0, .int .u32 0, .int .u32 0, .int .u32 0, .int .u32 0, .int .u32 0, .int .u32 0, .int .u8 0, .int .u8 0, .int .u8 0, .int .u8 0, .int .u8 0, .int .u8 0, .int .u8 0, .int .u8 0, .int .u8 0, .int .u8 0, .int .u8 0, .int .u8 0, .int .u8 0, .int .u8 0, .int .u8 0, .int .u8 0, .int .u8 0, .int .u8 0, .int .u8 0, .int .u8 0, .int .u8 0, .int .u8 0, .int .u8 0, .int .u8 0, .int .u8 0, .int .u8 0, .int .u8 0, .int .u8 0, .int .u8 0, .int .u8 0, .int .u8 0, .int .u8 0, .int .u8 0, .int .u8 0, .int .u8 0, .int .u8 0, .int .u8 0, .int .u8 0, .int .u8 0, .int .u8 0, .int .u8 0, .int .u8 0, .int .u8 0, .int .u8 0, .int .u8 0, .int .u8 0, .int .u8 0, .int .u8 0, .int .u8 0, .int .u8 0, .int .u8 0, .int .u8 0, .int .u8 0, .int .u8 0, .int .u8 0, .int .u8 0, .int .u8 0, .int .u8 0, .int .u8 0, .int .u8 0, .int .u8 0, .int .u8 0, .int .u8 0, .int .u8 0, .int .u64 0] : Value), by kernel_rfl, fun F => cells_cast (by kernel_rfl) (z_kHash_Hash F)⟩
theorem z_kArr_64_kInt_u8_ (F : Fz) : Kd.rd (kArr 64 (kInt .u8)) F ((List.replicate 64 [.int .u8 0]).flatten) (List.replicate 64 (0 : Int)) := ⟨by simp, rdAll_rep (K := kInt .u8) rfl 64⟩
theorem ZT100 : ZT Tryd.prog 100 (kArr 64 (kInt .u8)) (List.replicate 64 (0 : Int)) := ⟨(.agg #[.int .u8 0, .int .u8 0, .int .u8 0, .int .u8 0, .int .u8 0, .int .u8 0, .int .u8 0, .int .u8 0, .int .u8 0, .int .u8 0, .int .u8 0, .int .u8 0, .int .u8 0, .int .u8 0, .int .u8 0, .int .u8 0, .int .u8 0, .int .u8 0, .int .u8 0, .int .u8 0, .int .u8 0, .int .u8 0, .int .u8 0, .int .u8 0, .int .u8 0, .int .u8 0, .int .u8 0, .int .u8 0, .int .u8 0, .int .u8 0, .int .u8 0, .int .u8 0, .int .u8 0, .int .u8 0, .int .u8 0, .int .u8 0, .int .u8 0, .int .u8 0, .int .u8 0, .int .u8 0, .int .u8 0, .int .u8 0, .int .u8 0, .int .u8 0, .int .u8 0, .int .u8 0, .int .u8 0, .int .u8 0, .int .u8 0, .int .u8 0, .int .u8 0, .int .u8 0, .int .u8 0, .int .u8 0, .int .u8 0, .int .u8 0, .int .u8 0, .int .u8 0, .int .u8 0, .int .u8 0, .int .u8 0, .int .u8 0, .int .u8 0, .int .u8 0] : Value), by kernel_rfl, fun F => cells_cast (by kernel_rfl) (z_kArr_64_kInt_u8_ F)⟩
theorem BT103 : BT Tryd.prog 103 kHash_HashF (⟨(List.replicate 8 (0 : Int)), (List.replicate 64 (0 : Int)), (0 : Int)⟩ : Hash_Hash) := ⟨⟨Tryd.t103, (.agg #[.int .u32 0, .int .u32 0, .int .u32 0, .int .u32 0, .int .u32 0, .int .u32 0, .int .u32 0, .int .u32 0, .int .u8 0, .int .u8 0, .int .u8 0, .int .u8 0, .int .u8 0, .int .u8 0, .int .u8 0, .int .u8 0, .int .u8 0, .int .u8 0, .int .u8 0, .int .u8 0, .int .u8 0, .int .u8 0, .int .u8 0, .int .u8 0, .int .u8 0, .int .u8 0, .int .u8 0, .int .u8 0, .int .u8 0, .int .u8 0, .int .u8 0, .int .u8 0, .int .u8 0, .int .u8 0, .int .u8 0, .int .u8 0, .int .u8 0, .int .u8 0, .int .u8 0, .int .u8 0, .int .u8 0, .int .u8 0, .int .u8 0, .int .u8 0, .int .u8 0, .int .u8 0, .int .u8 0, .int .u8 0, .int .u8 0, .int .u8 0, .int .u8 0, .int .u8 0, .int .u8 0, .int .u8 0, .int .u8 0, .int .u8 0, .int .u8 0, .int .u8 0, .int .u8 0, .int .u8 0, .int .u8 0, .int .u8 0, .int .u8 0, .int .u8 0, .int .u8 0, .int .u8 0, .int .u8 0, .int .u8 0, .int .u8 0, .int .u8 0, .int .u8 0, .int .u8 0, .int .u64 0] : Value), _, [(0, 8), (8, 64), (72, 1)], by kernel_rfl, by kernel_rfl, Tryd.underlying103, by kernel_rfl, fun i f h => match i, f, h with
    | 0, f, h => by cases h; rfl
    | 1, f, h => by cases h; rfl
    | 2, f, h => by cases h; rfl
    | (_ + 3), f, h => by simp [kHash_HashF] at h, fun F => cells_castF (by kernel_rfl) (z_kHash_Hash F)⟩⟩
theorem sz103_kHash_Hash : (Tryd.prog.info? 103).map (·.size) = some (Kd.n kHash_Hash) := by kernel_rfl
theorem kt103 : KT Tryd.prog 103 kHash_Hash := ⟨by kernel_rfl, by kernel_rfl⟩
theorem fm103_2 : fldB Tryd.prog 103 2 = some (72, 0 + 1) := by kernel_rfl
theorem uf_Hash_Hash_2 : UpF kHash_HashF 2 ⟨kInt .u64, Hash_Hash.n⟩ (fun x y => { x with n := y }) := ⟨rfl, fun _ _ => rfl, fun _ _ => ⟨rfl, ⟨rfl, (fun q hq => by simp at hq)⟩⟩⟩
theorem kt101_kInt_u64 : KT Tryd.prog 101 (kInt .u64) := ⟨by kernel_rfl, by kernel_rfl⟩
theorem z_kArr_8_kInt_u32_ (F : Fz) : Kd.rd (kArr 8 (kInt .u32)) F ((List.replicate 8 [.int .u32 0]).flatten) (List.replicate 8 (0 : Int)) := ⟨by simp, rdAll_rep (K := kInt .u32) rfl 8⟩
theorem ZT99 : ZT Tryd.prog 99 (kArr 8 (kInt .u32)) (List.replicate 8 (0 : Int)) := ⟨(.agg #[.int .u32 0, .int .u32 0, .int .u32 0, .int .u32 0, .int .u32 0, .int .u32 0, .int .u32 0, .int .u32 0] : Value), by kernel_rfl, fun F => cells_cast (by kernel_rfl) (z_kArr_8_kInt_u32_ F)⟩
theorem BTA99 : BTA Tryd.prog 99 8 (kInt .u32) (List.replicate 8 (0 : Int)) := ⟨⟨Tryd.t99, (.agg #[.int .u32 0, .int .u32 0, .int .u32 0, .int .u32 0, .int .u32 0, .int .u32 0, .int .u32 0, .int .u32 0] : Value), _, Tryd.t97, by kernel_rfl, by kernel_rfl, Tryd.underlying99, by kernel_rfl, by kernel_rfl, by simp, fun F => cells_castA (by kernel_rfl) (z_kArr_8_kInt_u32_ F).2⟩⟩
theorem sz99_kArr_8_kInt_u32_ : (Tryd.prog.info? 99).map (·.size) = some (Kd.n (kArr 8 (kInt .u32))) := by kernel_rfl
theorem kt99 : KT Tryd.prog 99 (kArr 8 (kInt .u32)) := ⟨by kernel_rfl, by kernel_rfl⟩
theorem fm103_0 : fldB Tryd.prog 103 0 = some (0, 7 + 1) := by kernel_rfl
theorem uf_Hash_Hash_0 : UpF kHash_HashF 0 ⟨kArr 8 (kInt .u32), Hash_Hash.words⟩ (fun x y => { x with words := y }) := ⟨rfl, fun _ _ => rfl, fun _ _ => (by intro q hq; simp only [List.mem_cons, List.not_mem_nil, or_false] at hq; rcases hq with rfl | rfl <;> rfl)⟩
theorem fm103_1 : fldB Tryd.prog 103 1 = some (8, 63 + 1) := by kernel_rfl
theorem uf_Hash_Hash_1 : UpF kHash_HashF 1 ⟨kArr 64 (kInt .u8), Hash_Hash.tail⟩ (fun x y => { x with tail := y }) := ⟨rfl, fun _ _ => rfl, fun _ _ => ⟨rfl, (by intro q hq; simp only [List.mem_cons, List.not_mem_nil, or_false] at hq; rcases hq with rfl <;> rfl)⟩⟩
theorem sz101_kInt_u64 : (Tryd.prog.info? 101).map (·.size) = some (Kd.n (kInt .u64)) := by kernel_rfl
theorem sz5 : (Tryd.prog.info? 5).map (·.size) = some (Kd.n (kInt .u8)) := by kernel_rfl
theorem kt99_kArr_8_kInt_u32_ : KT Tryd.prog 99 (kArr 8 (kInt .u32)) := ⟨by kernel_rfl, by kernel_rfl⟩
theorem kt100_kArr_64_kInt_u8_ : KT Tryd.prog 100 (kArr 64 (kInt .u8)) := ⟨by kernel_rfl, by kernel_rfl⟩
theorem z_kArr_64_kInt_u32_ (F : Fz) : Kd.rd (kArr 64 (kInt .u32)) F ((List.replicate 64 [.int .u32 0]).flatten) (List.replicate 64 (0 : Int)) := ⟨by simp, rdAll_rep (K := kInt .u32) rfl 64⟩
theorem ZT136 : ZT Tryd.prog 136 (kArr 64 (kInt .u32)) (List.replicate 64 (0 : Int)) := ⟨(.agg #[.int .u32 0, .int .u32 0, .int .u32 0, .int .u32 0, .int .u32 0, .int .u32 0, .int .u32 0, .int .u32 0, .int .u32 0, .int .u32 0, .int .u32 0, .int .u32 0, .int .u32 0, .int .u32 0, .int .u32 0, .int .u32 0, .int .u32 0, .int .u32 0, .int .u32 0, .int .u32 0, .int .u32 0, .int .u32 0, .int .u32 0, .int .u32 0, .int .u32 0, .int .u32 0, .int .u32 0, .int .u32 0, .int .u32 0, .int .u32 0, .int .u32 0, .int .u32 0, .int .u32 0, .int .u32 0, .int .u32 0, .int .u32 0, .int .u32 0, .int .u32 0, .int .u32 0, .int .u32 0, .int .u32 0, .int .u32 0, .int .u32 0, .int .u32 0, .int .u32 0, .int .u32 0, .int .u32 0, .int .u32 0, .int .u32 0, .int .u32 0, .int .u32 0, .int .u32 0, .int .u32 0, .int .u32 0, .int .u32 0, .int .u32 0, .int .u32 0, .int .u32 0, .int .u32 0, .int .u32 0, .int .u32 0, .int .u32 0, .int .u32 0, .int .u32 0] : Value), by kernel_rfl, fun F => cells_cast (by kernel_rfl) (z_kArr_64_kInt_u32_ F)⟩
theorem kt5 : KT Tryd.prog 5 (kInt .u8) := ⟨by kernel_rfl, by kernel_rfl⟩
theorem sz97_kInt_u32 : (Tryd.prog.info? 97).map (·.size) = some (Kd.n (kInt .u32)) := by kernel_rfl
theorem kt97_kInt_u32 : KT Tryd.prog 97 (kInt .u32) := ⟨by kernel_rfl, by kernel_rfl⟩
def glob0 : List Int := [1116352408, 1899447441, 3049323471, 3921009573, 961987163, 1508970993, 2453635748, 2870763221, 3624381080, 310598401, 607225278, 1426881987, 1925078388, 2162078206, 2614888103, 3248222580, 3835390401, 4022224774, 264347078, 604807628, 770255983, 1249150122, 1555081692, 1996064986, 2554220882, 2821834349, 2952996808, 3210313671, 3336571891, 3584528711, 113926993, 338241895, 666307205, 773529912, 1294757372, 1396182291, 1695183700, 1986661051, 2177026350, 2456956037, 2730485921, 2820302411, 3259730800, 3345764771, 3516065817, 3600352804, 4094571909, 275423344, 430227734, 506948616, 659060556, 883997877, 958139571, 1322822218, 1537002063, 1747873779, 1955562222, 2024104815, 2227730452, 2361852424, 2428436474, 2756734187, 3204031479, 3329325298]
theorem sz97 : (Tryd.prog.info? 97).map (·.size) = some (Kd.n (kInt .u32)) := by kernel_rfl
theorem kt97 : KT Tryd.prog 97 (kInt .u32) := ⟨by kernel_rfl, by kernel_rfl⟩
theorem kt103_kHash_Hash : KT Tryd.prog 103 kHash_Hash := ⟨by kernel_rfl, by kernel_rfl⟩
theorem fb103_0 : fldB Tryd.prog 103 0 = some (offF kHash_HashF 0, 7 + 1) := by kernel_rfl
theorem kt64 : KT Tryd.prog 64 (kArr 32 (kInt .u8)) := ⟨by kernel_rfl, by kernel_rfl⟩
theorem sz64_kArr_32_kInt_u8_ : (Tryd.prog.info? 64).map (·.size) = some (Kd.n (kArr 32 (kInt .u8))) := by kernel_rfl
theorem kt5_kInt_u8 : KT Tryd.prog 5 (kInt .u8) := ⟨by kernel_rfl, by kernel_rfl⟩
theorem runj_3 {P : Program} {ops : Array Oper} {rest : List Oper} {Q : Exit → Act → World → Prop} {F0 : Fz} {n : Nat} {E : List (Nat × SV)} {L : List Res} {o0 o1 o2 : Oper} (d : Nat) (e : Bool) (k : Under F0 n ((d, .raw (.bool e)) :: E) L (wpList P ops Q rest)) (h : Under F0 n ((d, .raw (.bool e)) :: E) L (wpList P ops Q rest) → Under F0 n E L (wpList P ops Q (o0 :: o1 :: o2 :: rest))) : Under F0 n E L (wpList P ops Q (o0 :: o1 :: o2 :: rest)) := h k
theorem runj_3q {P : Program} {ops : Array Oper} {rest : List Oper} {C : World → Prop} {Qa : Act → Prop} {F0 : Fz} {n : Nat} {E : List (Nat × SV)} {o0 o1 o2 : Oper} (d : Nat) (e : Bool) (k : UnderQ F0 n ((d, .raw (.bool e)) :: E) (wpQuiet P ops C Qa rest)) (h : UnderQ F0 n ((d, .raw (.bool e)) :: E) (wpQuiet P ops C Qa rest) → UnderQ F0 n E (wpQuiet P ops C Qa (o0 :: o1 :: o2 :: rest))) : UnderQ F0 n E (wpQuiet P ops C Qa (o0 :: o1 :: o2 :: rest)) := h k
theorem fb32_1 : fldB Tryd.prog 32 1 = some (offF kApi_BatchF 1, 0 + 1) := by kernel_rfl
theorem kt30 : KT Tryd.prog 30 (kSl (kSl (kInt .u8))) := ⟨by kernel_rfl, by kernel_rfl⟩
theorem sz22 : (Tryd.prog.info? 22).map (·.size) = some (Kd.n (kSl (kInt .u8))) := by kernel_rfl
theorem z_kApi_Peeled (F : Fz) : Kd.rd kApi_Peeled F ([.slice none 0 0] ++ (List.replicate 16 [.int .u8 0]).flatten ++ []) (⟨[], (List.replicate 16 (0 : Int))⟩ : Api_Peeled) := ⟨[.slice none 0 0], _, rfl, ⟨none, 0, rfl, Nat.le_refl _, .inl rfl⟩, ⟨(List.replicate 16 [.int .u8 0]).flatten, _, rfl, ⟨by simp, rdAll_rep (K := kInt .u8) rfl 16⟩, rfl⟩⟩
theorem ZT46 : ZT Tryd.prog 46 kApi_Peeled (⟨[], (List.replicate 16 (0 : Int))⟩ : Api_Peeled) := ⟨(.agg #[.slice none 0 0, .int .u8 0, .int .u8 0, .int .u8 0, .int .u8 0, .int .u8 0, .int .u8 0, .int .u8 0, .int .u8 0, .int .u8 0, .int .u8 0, .int .u8 0, .int .u8 0, .int .u8 0, .int .u8 0, .int .u8 0, .int .u8 0] : Value), by kernel_rfl, fun F => cells_cast (by kernel_rfl) (z_kApi_Peeled F)⟩
theorem BT46 : BT Tryd.prog 46 kApi_PeeledF (⟨[], (List.replicate 16 (0 : Int))⟩ : Api_Peeled) := ⟨⟨Tryd.t46, (.agg #[.slice none 0 0, .int .u8 0, .int .u8 0, .int .u8 0, .int .u8 0, .int .u8 0, .int .u8 0, .int .u8 0, .int .u8 0, .int .u8 0, .int .u8 0, .int .u8 0, .int .u8 0, .int .u8 0, .int .u8 0, .int .u8 0, .int .u8 0] : Value), _, [(0, 1), (1, 16)], by kernel_rfl, by kernel_rfl, Tryd.underlying46, by kernel_rfl, fun i f h => match i, f, h with
    | 0, f, h => by cases h; rfl
    | 1, f, h => by cases h; rfl
    | (_ + 2), f, h => by simp [kApi_PeeledF] at h, fun F => cells_castF (by kernel_rfl) (z_kApi_Peeled F)⟩⟩
theorem sz46_kApi_Peeled : (Tryd.prog.info? 46).map (·.size) = some (Kd.n kApi_Peeled) := by kernel_rfl
theorem kt46 : KT Tryd.prog 46 kApi_Peeled := ⟨by kernel_rfl, by kernel_rfl⟩
theorem kt44 : KT Tryd.prog 44 (kArr 16 (kInt .u8)) := ⟨by kernel_rfl, by kernel_rfl⟩
theorem z_kArr_16_kInt_u8_ (F : Fz) : Kd.rd (kArr 16 (kInt .u8)) F ((List.replicate 16 [.int .u8 0]).flatten) (List.replicate 16 (0 : Int)) := ⟨by simp, rdAll_rep (K := kInt .u8) rfl 16⟩
theorem ZT44 : ZT Tryd.prog 44 (kArr 16 (kInt .u8)) (List.replicate 16 (0 : Int)) := ⟨(.agg #[.int .u8 0, .int .u8 0, .int .u8 0, .int .u8 0, .int .u8 0, .int .u8 0, .int .u8 0, .int .u8 0, .int .u8 0, .int .u8 0, .int .u8 0, .int .u8 0, .int .u8 0, .int .u8 0, .int .u8 0, .int .u8 0] : Value), by kernel_rfl, fun F => cells_cast (by kernel_rfl) (z_kArr_16_kInt_u8_ F)⟩
theorem sz44_kArr_16_kInt_u8_ : (Tryd.prog.info? 44).map (·.size) = some (Kd.n (kArr 16 (kInt .u8))) := by kernel_rfl
theorem z_kApi_OnionKeys (F : Fz) : Kd.rd kApi_OnionKeys F ((List.replicate 16 [.int .u8 0]).flatten ++ (List.replicate 32 [.int .u8 0]).flatten ++ (List.replicate 32 [.int .u8 0]).flatten ++ []) (⟨(List.replicate 16 (0 : Int)), (List.replicate 32 (0 : Int)), (List.replicate 32 (0 : Int))⟩ : Api_OnionKeys) := ⟨(List.replicate 16 [.int .u8 0]).flatten, _, rfl, ⟨by simp, rdAll_rep (K := kInt .u8) rfl 16⟩, ⟨(List.replicate 32 [.int .u8 0]).flatten, _, rfl, ⟨by simp, rdAll_rep (K := kInt .u8) rfl 32⟩, ⟨(List.replicate 32 [.int .u8 0]).flatten, _, rfl, ⟨by simp, rdAll_rep (K := kInt .u8) rfl 32⟩, rfl⟩⟩⟩
theorem ZT66 : ZT Tryd.prog 66 kApi_OnionKeys (⟨(List.replicate 16 (0 : Int)), (List.replicate 32 (0 : Int)), (List.replicate 32 (0 : Int))⟩ : Api_OnionKeys) := ⟨(.agg #[.int .u8 0, .int .u8 0, .int .u8 0, .int .u8 0, .int .u8 0, .int .u8 0, .int .u8 0, .int .u8 0, .int .u8 0, .int .u8 0, .int .u8 0, .int .u8 0, .int .u8 0, .int .u8 0, .int .u8 0, .int .u8 0, .int .u8 0, .int .u8 0, .int .u8 0, .int .u8 0, .int .u8 0, .int .u8 0, .int .u8 0, .int .u8 0, .int .u8 0, .int .u8 0, .int .u8 0, .int .u8 0, .int .u8 0, .int .u8 0, .int .u8 0, .int .u8 0, .int .u8 0, .int .u8 0, .int .u8 0, .int .u8 0, .int .u8 0, .int .u8 0, .int .u8 0, .int .u8 0, .int .u8 0, .int .u8 0, .int .u8 0, .int .u8 0, .int .u8 0, .int .u8 0, .int .u8 0, .int .u8 0, .int .u8 0, .int .u8 0, .int .u8 0, .int .u8 0, .int .u8 0, .int .u8 0, .int .u8 0, .int .u8 0, .int .u8 0, .int .u8 0, .int .u8 0, .int .u8 0, .int .u8 0, .int .u8 0, .int .u8 0, .int .u8 0, .int .u8 0, .int .u8 0, .int .u8 0, .int .u8 0, .int .u8 0, .int .u8 0, .int .u8 0, .int .u8 0, .int .u8 0, .int .u8 0, .int .u8 0, .int .u8 0, .int .u8 0, .int .u8 0, .int .u8 0, .int .u8 0] : Value), by kernel_rfl, fun F => cells_cast (by kernel_rfl) (z_kApi_OnionKeys F)⟩
theorem BT66 : BT Tryd.prog 66 kApi_OnionKeysF (⟨(List.replicate 16 (0 : Int)), (List.replicate 32 (0 : Int)), (List.replicate 32 (0 : Int))⟩ : Api_OnionKeys) := ⟨⟨Tryd.t66, (.agg #[.int .u8 0, .int .u8 0, .int .u8 0, .int .u8 0, .int .u8 0, .int .u8 0, .int .u8 0, .int .u8 0, .int .u8 0, .int .u8 0, .int .u8 0, .int .u8 0, .int .u8 0, .int .u8 0, .int .u8 0, .int .u8 0, .int .u8 0, .int .u8 0, .int .u8 0, .int .u8 0, .int .u8 0, .int .u8 0, .int .u8 0, .int .u8 0, .int .u8 0, .int .u8 0, .int .u8 0, .int .u8 0, .int .u8 0, .int .u8 0, .int .u8 0, .int .u8 0, .int .u8 0, .int .u8 0, .int .u8 0, .int .u8 0, .int .u8 0, .int .u8 0, .int .u8 0, .int .u8 0, .int .u8 0, .int .u8 0, .int .u8 0, .int .u8 0, .int .u8 0, .int .u8 0, .int .u8 0, .int .u8 0, .int .u8 0, .int .u8 0, .int .u8 0, .int .u8 0, .int .u8 0, .int .u8 0, .int .u8 0, .int .u8 0, .int .u8 0, .int .u8 0, .int .u8 0, .int .u8 0, .int .u8 0, .int .u8 0, .int .u8 0, .int .u8 0, .int .u8 0, .int .u8 0, .int .u8 0, .int .u8 0, .int .u8 0, .int .u8 0, .int .u8 0, .int .u8 0, .int .u8 0, .int .u8 0, .int .u8 0, .int .u8 0, .int .u8 0, .int .u8 0, .int .u8 0, .int .u8 0] : Value), _, [(0, 16), (16, 32), (48, 32)], by kernel_rfl, by kernel_rfl, Tryd.underlying66, by kernel_rfl, fun i f h => match i, f, h with
    | 0, f, h => by cases h; rfl
    | 1, f, h => by cases h; rfl
    | 2, f, h => by cases h; rfl
    | (_ + 3), f, h => by simp [kApi_OnionKeysF] at h, fun F => cells_castF (by kernel_rfl) (z_kApi_OnionKeys F)⟩⟩
theorem sz66_kApi_OnionKeys : (Tryd.prog.info? 66).map (·.size) = some (Kd.n kApi_OnionKeys) := by kernel_rfl
theorem kt66 : KT Tryd.prog 66 kApi_OnionKeys := ⟨by kernel_rfl, by kernel_rfl⟩
theorem fb66_1 : fldB Tryd.prog 66 1 = some (offF kApi_OnionKeysF 1, 31 + 1) := by kernel_rfl
theorem fb66_0 : fldB Tryd.prog 66 0 = some (offF kApi_OnionKeysF 0, 15 + 1) := by kernel_rfl
theorem BTA44 : BTA Tryd.prog 44 16 (kInt .u8) (List.replicate 16 (0 : Int)) := ⟨⟨Tryd.t44, (.agg #[.int .u8 0, .int .u8 0, .int .u8 0, .int .u8 0, .int .u8 0, .int .u8 0, .int .u8 0, .int .u8 0, .int .u8 0, .int .u8 0, .int .u8 0, .int .u8 0, .int .u8 0, .int .u8 0, .int .u8 0, .int .u8 0] : Value), _, Tryd.t5, by kernel_rfl, by kernel_rfl, Tryd.underlying44, by kernel_rfl, by kernel_rfl, by simp, fun F => cells_castA (by kernel_rfl) (z_kArr_16_kInt_u8_ F).2⟩⟩
theorem z_kBlock_Schedule (F : Fz) : Kd.rd kBlock_Schedule F ((List.replicate 11 ((List.replicate 16 [.int .u8 0]).flatten)).flatten ++ []) (⟨(List.replicate 11 (List.replicate 16 (0 : Int)))⟩ : Block_Schedule) := ⟨(List.replicate 11 ((List.replicate 16 [.int .u8 0]).flatten)).flatten, _, rfl, ⟨by simp, rdAll_rep (K := kArr 16 (kInt .u8)) (⟨by simp, rdAll_rep (K := kInt .u8) rfl 16⟩) 11⟩, rfl⟩
theorem ZT91 : ZT Tryd.prog 91 kBlock_Schedule (⟨(List.replicate 11 (List.replicate 16 (0 : Int)))⟩ : Block_Schedule) := ⟨(.agg #[.int .u8 0, .int .u8 0, .int .u8 0, .int .u8 0, .int .u8 0, .int .u8 0, .int .u8 0, .int .u8 0, .int .u8 0, .int .u8 0, .int .u8 0, .int .u8 0, .int .u8 0, .int .u8 0, .int .u8 0, .int .u8 0, .int .u8 0, .int .u8 0, .int .u8 0, .int .u8 0, .int .u8 0, .int .u8 0, .int .u8 0, .int .u8 0, .int .u8 0, .int .u8 0, .int .u8 0, .int .u8 0, .int .u8 0, .int .u8 0, .int .u8 0, .int .u8 0, .int .u8 0, .int .u8 0, .int .u8 0, .int .u8 0, .int .u8 0, .int .u8 0, .int .u8 0, .int .u8 0, .int .u8 0, .int .u8 0, .int .u8 0, .int .u8 0, .int .u8 0, .int .u8 0, .int .u8 0, .int .u8 0, .int .u8 0, .int .u8 0, .int .u8 0, .int .u8 0, .int .u8 0, .int .u8 0, .int .u8 0, .int .u8 0, .int .u8 0, .int .u8 0, .int .u8 0, .int .u8 0, .int .u8 0, .int .u8 0, .int .u8 0, .int .u8 0, .int .u8 0, .int .u8 0, .int .u8 0, .int .u8 0, .int .u8 0, .int .u8 0, .int .u8 0, .int .u8 0, .int .u8 0, .int .u8 0, .int .u8 0, .int .u8 0, .int .u8 0, .int .u8 0, .int .u8 0, .int .u8 0, .int .u8 0, .int .u8 0, .int .u8 0, .int .u8 0, .int .u8 0, .int .u8 0, .int .u8 0, .int .u8 0, .int .u8 0, .int .u8 0, .int .u8 0, .int .u8 0, .int .u8 0, .int .u8 0, .int .u8 0, .int .u8 0, .int .u8 0, .int .u8 0, .int .u8 0, .int .u8 0, .int .u8 0, .int .u8 0, .int .u8 0, .int .u8 0, .int .u8 0, .int .u8 0, .int .u8 0, .int .u8 0, .int .u8 0, .int .u8 0, .int .u8 0, .int .u8 0, .int .u8 0, .int .u8 0, .int .u8 0, .int .u8 0, .int .u8 0, .int .u8 0, .int .u8 0, .int .u8 0, .int .u8 0, .int .u8 0, .int .u8 0, .int .u8 0, .int .u8 0, .int .u8 0, .int .u8 0, .int .u8 0, .int .u8 0, .int .u8 0, .int .u8 0, .int .u8 0, .int .u8 0, .int .u8 0, .int .u8 0, .int .u8 0, .int .u8 0, .int .u8 0, .int .u8 0, .int .u8 0, .int .u8 0, .int .u8 0, .int .u8 0, .int .u8 0, .int .u8 0, .int .u8 0, .int .u8 0, .int .u8 0, .int .u8 0, .int .u8 0, .int .u8 0, .int .u8 0, .int .u8 0, .int .u8 0, .int .u8 0, .int .u8 0, .int .u8 0, .int .u8 0, .int .u8 0, .int .u8 0, .int .u8 0, .int .u8 0, .int .u8 0, .int .u8 0, .int .u8 0, .int .u8 0, .int .u8 0, .int .u8 0, .int .u8 0, .int .u8 0, .int .u8 0, .int .u8 0, .int .u8 0, .int .u8 0, .int .u8 0, .int .u8 0] : Value), by kernel_rfl, fun F => cells_cast (by kernel_rfl) (z_kBlock_Schedule F)⟩
theorem z_kArr_44_kArr_4_kInt_u8_ (F : Fz) : Kd.rd (kArr 44 (kArr 4 (kInt .u8))) F ((List.replicate 44 ((List.replicate 4 [.int .u8 0]).flatten)).flatten) (List.replicate 44 (List.replicate 4 (0 : Int))) := ⟨by simp, rdAll_rep (K := kArr 4 (kInt .u8)) (⟨by simp, rdAll_rep (K := kInt .u8) rfl 4⟩) 44⟩
theorem ZT118 : ZT Tryd.prog 118 (kArr 44 (kArr 4 (kInt .u8))) (List.replicate 44 (List.replicate 4 (0 : Int))) := ⟨(.agg #[.int .u8 0, .int .u8 0, .int .u8 0, .int .u8 0, .int .u8 0, .int .u8 0, .int .u8 0, .int .u8 0, .int .u8 0, .int .u8 0, .int .u8 0, .int .u8 0, .int .u8 0, .int .u8 0, .int .u8 0, .int .u8 0, .int .u8 0, .int .u8 0, .int .u8 0, .int .u8 0, .int .u8 0, .int .u8 0, .int .u8 0, .int .u8 0, .int .u8 0, .int .u8 0, .int .u8 0, .int .u8 0, .int .u8 0, .int .u8 0, .int .u8 0, .int .u8 0, .int .u8 0, .int .u8 0, .int .u8 0, .int .u8 0, .int .u8 0, .int .u8 0, .int .u8 0, .int .u8 0, .int .u8 0, .int .u8 0, .int .u8 0, .int .u8 0, .int .u8 0, .int .u8 0, .int .u8 0, .int .u8 0, .int .u8 0, .int .u8 0, .int .u8 0, .int .u8 0, .int .u8 0, .int .u8 0, .int .u8 0, .int .u8 0, .int .u8 0, .int .u8 0, .int .u8 0, .int .u8 0, .int .u8 0, .int .u8 0, .int .u8 0, .int .u8 0, .int .u8 0, .int .u8 0, .int .u8 0, .int .u8 0, .int .u8 0, .int .u8 0, .int .u8 0, .int .u8 0, .int .u8 0, .int .u8 0, .int .u8 0, .int .u8 0, .int .u8 0, .int .u8 0, .int .u8 0, .int .u8 0, .int .u8 0, .int .u8 0, .int .u8 0, .int .u8 0, .int .u8 0, .int .u8 0, .int .u8 0, .int .u8 0, .int .u8 0, .int .u8 0, .int .u8 0, .int .u8 0, .int .u8 0, .int .u8 0, .int .u8 0, .int .u8 0, .int .u8 0, .int .u8 0, .int .u8 0, .int .u8 0, .int .u8 0, .int .u8 0, .int .u8 0, .int .u8 0, .int .u8 0, .int .u8 0, .int .u8 0, .int .u8 0, .int .u8 0, .int .u8 0, .int .u8 0, .int .u8 0, .int .u8 0, .int .u8 0, .int .u8 0, .int .u8 0, .int .u8 0, .int .u8 0, .int .u8 0, .int .u8 0, .int .u8 0, .int .u8 0, .int .u8 0, .int .u8 0, .int .u8 0, .int .u8 0, .int .u8 0, .int .u8 0, .int .u8 0, .int .u8 0, .int .u8 0, .int .u8 0, .int .u8 0, .int .u8 0, .int .u8 0, .int .u8 0, .int .u8 0, .int .u8 0, .int .u8 0, .int .u8 0, .int .u8 0, .int .u8 0, .int .u8 0, .int .u8 0, .int .u8 0, .int .u8 0, .int .u8 0, .int .u8 0, .int .u8 0, .int .u8 0, .int .u8 0, .int .u8 0, .int .u8 0, .int .u8 0, .int .u8 0, .int .u8 0, .int .u8 0, .int .u8 0, .int .u8 0, .int .u8 0, .int .u8 0, .int .u8 0, .int .u8 0, .int .u8 0, .int .u8 0, .int .u8 0, .int .u8 0, .int .u8 0, .int .u8 0, .int .u8 0, .int .u8 0, .int .u8 0, .int .u8 0, .int .u8 0, .int .u8 0, .int .u8 0] : Value), by kernel_rfl, fun F => cells_cast (by kernel_rfl) (z_kArr_44_kArr_4_kInt_u8_ F)⟩
theorem sz117_kArr_4_kInt_u8_ : (Tryd.prog.info? 117).map (·.size) = some (Kd.n (kArr 4 (kInt .u8))) := by kernel_rfl
theorem kt117_kArr_4_kInt_u8_ : KT Tryd.prog 117 (kArr 4 (kInt .u8)) := ⟨by kernel_rfl, by kernel_rfl⟩
theorem z_kArr_4_kInt_u8_ (F : Fz) : Kd.rd (kArr 4 (kInt .u8)) F ((List.replicate 4 [.int .u8 0]).flatten) (List.replicate 4 (0 : Int)) := ⟨by simp, rdAll_rep (K := kInt .u8) rfl 4⟩
theorem ZT117 : ZT Tryd.prog 117 (kArr 4 (kInt .u8)) (List.replicate 4 (0 : Int)) := ⟨(.agg #[.int .u8 0, .int .u8 0, .int .u8 0, .int .u8 0] : Value), by kernel_rfl, fun F => cells_cast (by kernel_rfl) (z_kArr_4_kInt_u8_ F)⟩
theorem BTA117 : BTA Tryd.prog 117 4 (kInt .u8) (List.replicate 4 (0 : Int)) := ⟨⟨Tryd.t117, (.agg #[.int .u8 0, .int .u8 0, .int .u8 0, .int .u8 0] : Value), _, Tryd.t5, by kernel_rfl, by kernel_rfl, Tryd.underlying117, by kernel_rfl, by kernel_rfl, by simp, fun F => cells_castA (by kernel_rfl) (z_kArr_4_kInt_u8_ F).2⟩⟩
theorem kt118 : KT Tryd.prog 118 (kArr 44 (kArr 4 (kInt .u8))) := ⟨by kernel_rfl, by kernel_rfl⟩
theorem kt117 : KT Tryd.prog 117 (kArr 4 (kInt .u8)) := ⟨by kernel_rfl, by kernel_rfl⟩
theorem fm91_0 : fldB Tryd.prog 91 0 = some (0, 175 + 1) := by kernel_rfl
theorem uf_Block_Schedule_0 : UpF kBlock_ScheduleF 0 ⟨kArr 11 (kArr 16 (kInt .u8)), Block_Schedule.keys⟩ (fun x y => { x with keys := y }) := ⟨rfl, fun _ _ => rfl, fun _ _ => (fun q hq => by simp at hq)⟩
theorem sz88_kArr_16_kInt_u8_ : (Tryd.prog.info? 88).map (·.size) = some (Kd.n (kArr 16 (kInt .u8))) := by kernel_rfl
theorem kt91 : KT Tryd.prog 91 kBlock_Schedule := ⟨by kernel_rfl, by kernel_rfl⟩
theorem sz91_kBlock_Schedule : (Tryd.prog.info? 91).map (·.size) = some (Kd.n kBlock_Schedule) := by kernel_rfl
theorem z_kArr_256_kInt_u8_ (F : Fz) : Kd.rd (kArr 256 (kInt .u8)) F ((List.replicate 256 [.int .u8 0]).flatten) (List.replicate 256 (0 : Int)) := ⟨by simp, rdAll_rep (K := kInt .u8) rfl 256⟩
theorem ZT94 : ZT Tryd.prog 94 (kArr 256 (kInt .u8)) (List.replicate 256 (0 : Int)) := ⟨(.agg #[.int .u8 0, .int .u8 0, .int .u8 0, .int .u8 0, .int .u8 0, .int .u8 0, .int .u8 0, .int .u8 0, .int .u8 0, .int .u8 0, .int .u8 0, .int .u8 0, .int .u8 0, .int .u8 0, .int .u8 0, .int .u8 0, .int .u8 0, .int .u8 0, .int .u8 0, .int .u8 0, .int .u8 0, .int .u8 0, .int .u8 0, .int .u8 0, .int .u8 0, .int .u8 0, .int .u8 0, .int .u8 0, .int .u8 0, .int .u8 0, .int .u8 0, .int .u8 0, .int .u8 0, .int .u8 0, .int .u8 0, .int .u8 0, .int .u8 0, .int .u8 0, .int .u8 0, .int .u8 0, .int .u8 0, .int .u8 0, .int .u8 0, .int .u8 0, .int .u8 0, .int .u8 0, .int .u8 0, .int .u8 0, .int .u8 0, .int .u8 0, .int .u8 0, .int .u8 0, .int .u8 0, .int .u8 0, .int .u8 0, .int .u8 0, .int .u8 0, .int .u8 0, .int .u8 0, .int .u8 0, .int .u8 0, .int .u8 0, .int .u8 0, .int .u8 0, .int .u8 0, .int .u8 0, .int .u8 0, .int .u8 0, .int .u8 0, .int .u8 0, .int .u8 0, .int .u8 0, .int .u8 0, .int .u8 0, .int .u8 0, .int .u8 0, .int .u8 0, .int .u8 0, .int .u8 0, .int .u8 0, .int .u8 0, .int .u8 0, .int .u8 0, .int .u8 0, .int .u8 0, .int .u8 0, .int .u8 0, .int .u8 0, .int .u8 0, .int .u8 0, .int .u8 0, .int .u8 0, .int .u8 0, .int .u8 0, .int .u8 0, .int .u8 0, .int .u8 0, .int .u8 0, .int .u8 0, .int .u8 0, .int .u8 0, .int .u8 0, .int .u8 0, .int .u8 0, .int .u8 0, .int .u8 0, .int .u8 0, .int .u8 0, .int .u8 0, .int .u8 0, .int .u8 0, .int .u8 0, .int .u8 0, .int .u8 0, .int .u8 0, .int .u8 0, .int .u8 0, .int .u8 0, .int .u8 0, .int .u8 0, .int .u8 0, .int .u8 0, .int .u8 0, .int .u8 0, .int .u8 0, .int .u8 0, .int .u8 0, .int .u8 0, .int .u8 0, .int .u8 0, .int .u8 0, .int .u8 0, .int .u8 0, .int .u8 0, .int .u8 0, .int .u8 0, .int .u8 0, .int .u8 0, .int .u8 0, .int .u8 0, .int .u8 0, .int .u8 0, .int .u8 0, .int .u8 0, .int .u8 0, .int .u8 0, .int .u8 0, .int .u8 0, .int .u8 0, .int .u8 0, .int .u8 0, .int .u8 0, .int .u8 0, .int .u8 0, .int .u8 0, .int .u8 0, .int .u8 0, .int .u8 0, .int .u8 0, .int .u8 0, .int .u8 0, .int .u8 0, .int .u8 0, .int .u8 0, .int .u8 0, .int .u8 0, .int .u8 0, .int .u8 0, .int .u8 0, .int .u8 0, .int .u8 0, .int .u8 0, .int .u8 0, .int .u8 0, .int .u8 0, .int .u8 0, .int .u8 0, .int .u8 0, .int .u8 0, .int .u8 0, .int .u8 0, .int .u8 0, .int .u8 0, .int .u8 0, .int .u8 0, .int .u8 0, .int .u8 0, .int .u8 0, .int .u8 0, .int .u8 0, .int .u8 0, .int .u8 0, .int .u8 0, .int .u8 0, .int .u8 0, .int .u8 0, .int .u8 0, .int .u8 0, .int .u8 0, .int .u8 0, .int .u8 0, .int .u8 0, .int .u8 0, .int .u8 0, .int .u8 0, .int .u8 0, .int .u8 0, .int .u8 0, .int .u8 0, .int .u8 0, .int .u8 0, .int .u8 0, .int .u8 0, .int .u8 0, .int .u8 0, .int .u8 0, .int .u8 0, .int .u8 0, .int .u8 0, .int .u8 0, .int .u8 0, .int .u8 0, .int .u8 0, .int .u8 0, .int .u8 0, .int .u8 0, .int .u8 0, .int .u8 0, .int .u8 0, .int .u8 0, .int .u8 0, .int .u8 0, .int .u8 0, .int .u8 0, .int .u8 0, .int .u8 0, .int .u8 0, .int .u8 0, .int .u8 0, .int .u8 0, .int .u8 0, .int .u8 0, .int .u8 0, .int .u8 0, .int .u8 0, .int .u8 0, .int .u8 0, .int .u8 0, .int .u8 0, .int .u8 0, .int .u8 0, .int .u8 0, .int .u8 0, .int .u8 0, .int .u8 0, .int .u8 0] : Value), by kernel_rfl, fun F => cells_cast (by kernel_rfl) (z_kArr_256_kInt_u8_ F)⟩
theorem kt44_kArr_16_kInt_u8_ : KT Tryd.prog 44 (kArr 16 (kInt .u8)) := ⟨by kernel_rfl, by kernel_rfl⟩
theorem fb91_0 : fldB Tryd.prog 91 0 = some (offF kBlock_ScheduleF 0, 175 + 1) := by kernel_rfl
theorem sz88 : (Tryd.prog.info? 88).map (·.size) = some (Kd.n (kArr 16 (kInt .u8))) := by kernel_rfl
theorem kt88 : KT Tryd.prog 88 (kArr 16 (kInt .u8)) := ⟨by kernel_rfl, by kernel_rfl⟩
theorem ZT88 : ZT Tryd.prog 88 (kArr 16 (kInt .u8)) (List.replicate 16 (0 : Int)) := ⟨(.agg #[.int .u8 0, .int .u8 0, .int .u8 0, .int .u8 0, .int .u8 0, .int .u8 0, .int .u8 0, .int .u8 0, .int .u8 0, .int .u8 0, .int .u8 0, .int .u8 0, .int .u8 0, .int .u8 0, .int .u8 0, .int .u8 0] : Value), by kernel_rfl, fun F => cells_cast (by kernel_rfl) (z_kArr_16_kInt_u8_ F)⟩
theorem kt88_kArr_16_kInt_u8_ : KT Tryd.prog 88 (kArr 16 (kInt .u8)) := ⟨by kernel_rfl, by kernel_rfl⟩
theorem fb66_2 : fldB Tryd.prog 66 2 = some (offF kApi_OnionKeysF 2, 31 + 1) := by kernel_rfl
theorem fm46_0 : fldB Tryd.prog 46 0 = some (0, 0 + 1) := by kernel_rfl
theorem uf_Api_Peeled_0 : UpF kApi_PeeledF 0 ⟨kSl (kInt .u8), Api_Peeled.Cell⟩ (fun x y => { x with Cell := y }) := ⟨rfl, fun _ _ => rfl, fun _ _ => (by intro q hq; simp only [List.mem_cons, List.not_mem_nil, or_false] at hq; rcases hq with rfl <;> rfl)⟩
theorem sz22_kSl_kInt_u8_ : (Tryd.prog.info? 22).map (·.size) = some (Kd.n (kSl (kInt .u8))) := by kernel_rfl
theorem fm37_1 : fldB Tryd.prog 37 1 = some (1, 0 + 1) := by kernel_rfl
theorem uf_Api_Report_1 : UpF kApi_ReportF 1 ⟨kInt .i64, Api_Report.Malformed⟩ (fun x y => { x with Malformed := y }) := ⟨rfl, fun _ _ => rfl, fun _ _ => ⟨rfl, (by intro q hq; simp only [List.mem_cons, List.not_mem_nil, or_false] at hq; rcases hq with rfl | rfl | rfl <;> rfl)⟩⟩
theorem kt3_kInt_i64 : KT Tryd.prog 3 (kInt .i64) := ⟨by kernel_rfl, by kernel_rfl⟩
theorem sz3_kInt_i64 : (Tryd.prog.info? 3).map (·.size) = some (Kd.n (kInt .i64)) := by kernel_rfl
theorem fb46_1 : fldB Tryd.prog 46 1 = some (offF kApi_PeeledF 1, 15 + 1) := by kernel_rfl
theorem key44 : KeyK Tryd.prog 44 (kArr 16 (kInt .u8)) := KeyK.ints Tryd.underlying44 Tryd.underlying5 kt5
theorem ZV3 : ZV Tryd.prog 3 (kInt .i64) (0 : Int) := ⟨(.int .i64 0 : Value), by kernel_rfl, fun F => val_int.2 rfl⟩
theorem kt27 : KT Tryd.prog 27 kApi_Window := ⟨by kernel_rfl, by kernel_rfl⟩
theorem fb27_1 : fldB Tryd.prog 27 1 = some (offF kApi_WindowF 1, 0 + 1) := by kernel_rfl
theorem kt25 : KT Tryd.prog 25 (kSl kApi_Epoch) := ⟨by kernel_rfl, by kernel_rfl⟩
theorem sz79 : (Tryd.prog.info? 79).map (·.size) = some (Kd.n kApi_Epoch) := by kernel_rfl
theorem kt79 : KT Tryd.prog 79 kApi_Epoch := ⟨by kernel_rfl, by kernel_rfl⟩
theorem fb79_1 : fldB Tryd.prog 79 1 = some (offF kApi_EpochF 1, 0 + 1) := by kernel_rfl
theorem kt77 : KT Tryd.prog 77 (kSl (kArr 16 (kInt .u8))) := ⟨by kernel_rfl, by kernel_rfl⟩
theorem sz44 : (Tryd.prog.info? 44).map (·.size) = some (Kd.n (kArr 16 (kInt .u8))) := by kernel_rfl
theorem eqk5 : EqK Tryd.prog 5 (kInt .u8) 1 := EqK.int Tryd.underlying5
theorem eqk44 : EqK Tryd.prog 44 (kArr 16 (kInt .u8)) 2 := EqK.arr eqk5 kt5 Tryd.underlying44
theorem eqg44 : Tryd.prog.eqGuardType Tryd.prog.depth 44 = false := by kernel_rfl
theorem fm37_2 : fldB Tryd.prog 37 2 = some (2, 0 + 1) := by kernel_rfl
theorem uf_Api_Report_2 : UpF kApi_ReportF 2 ⟨kInt .i64, Api_Report.Replays⟩ (fun x y => { x with Replays := y }) := ⟨rfl, fun _ _ => rfl, fun _ _ => ⟨rfl, ⟨rfl, (by intro q hq; simp only [List.mem_cons, List.not_mem_nil, or_false] at hq; rcases hq with rfl | rfl <;> rfl)⟩⟩⟩
theorem ET46 : ET Tryd.prog 46 kApi_Peeled (⟨[], (List.replicate 16 (0 : Int))⟩ : Api_Peeled) := ⟨⟨Tryd.t46, (.agg #[.slice none 0 0, .int .u8 0, .int .u8 0, .int .u8 0, .int .u8 0, .int .u8 0, .int .u8 0, .int .u8 0, .int .u8 0, .int .u8 0, .int .u8 0, .int .u8 0, .int .u8 0, .int .u8 0, .int .u8 0, .int .u8 0, .int .u8 0] : Value), by kernel_rfl, by kernel_rfl, by kernel_rfl, by decide, fun F => cells_cast (by kernel_rfl) (z_kApi_Peeled F)⟩⟩
theorem AT46 : AT Tryd.prog 46 kApi_Peeled (⟨[], (List.replicate 16 (0 : Int))⟩ : Api_Peeled) 40 := ⟨⟨Tryd.t46, (.agg #[.slice none 0 0, .int .u8 0, .int .u8 0, .int .u8 0, .int .u8 0, .int .u8 0, .int .u8 0, .int .u8 0, .int .u8 0, .int .u8 0, .int .u8 0, .int .u8 0, .int .u8 0, .int .u8 0, .int .u8 0, .int .u8 0, .int .u8 0] : Value), by kernel_rfl, by kernel_rfl, by kernel_rfl, by kernel_rfl, by decide, by decide, fun F => cells_cast (by kernel_rfl) (z_kApi_Peeled F)⟩⟩
theorem runj_5 {P : Program} {ops : Array Oper} {rest : List Oper} {Q : Exit → Act → World → Prop} {F0 : Fz} {n : Nat} {E : List (Nat × SV)} {L : List Res} {o0 o1 o2 o3 o4 : Oper} (d : Nat) (e : Bool) (k : Under F0 n ((d, .raw (.bool e)) :: E) L (wpList P ops Q rest)) (h : Under F0 n ((d, .raw (.bool e)) :: E) L (wpList P ops Q rest) → Under F0 n E L (wpList P ops Q (o0 :: o1 :: o2 :: o3 :: o4 :: rest))) : Under F0 n E L (wpList P ops Q (o0 :: o1 :: o2 :: o3 :: o4 :: rest)) := h k
theorem runj_5q {P : Program} {ops : Array Oper} {rest : List Oper} {C : World → Prop} {Qa : Act → Prop} {F0 : Fz} {n : Nat} {E : List (Nat × SV)} {o0 o1 o2 o3 o4 : Oper} (d : Nat) (e : Bool) (k : UnderQ F0 n ((d, .raw (.bool e)) :: E) (wpQuiet P ops C Qa rest)) (h : UnderQ F0 n ((d, .raw (.bool e)) :: E) (wpQuiet P ops C Qa rest) → UnderQ F0 n E (wpQuiet P ops C Qa (o0 :: o1 :: o2 :: o3 :: o4 :: rest))) : UnderQ F0 n E (wpQuiet P ops C Qa (o0 :: o1 :: o2 :: o3 :: o4 :: rest)) := h k
theorem fm37_0 : fldB Tryd.prog 37 0 = some (0, 0 + 1) := by kernel_rfl
theorem uf_Api_Report_0 : UpF kApi_ReportF 0 ⟨kInt .i64, Api_Report.In⟩ (fun x y => { x with In := y }) := ⟨rfl, fun _ _ => rfl, fun _ _ => (by intro q hq; simp only [List.mem_cons, List.not_mem_nil, or_false] at hq; rcases hq with rfl | rfl | rfl | rfl <;> rfl)⟩
theorem fb34_2 : fldB Tryd.prog 34 2 = some (offF kChurnlaw21_BatchF 2, 3 + 1) := by kernel_rfl
theorem fb34_0 : fldB Tryd.prog 34 0 = some (offF kChurnlaw21_BatchF 0, 10 + 1) := by kernel_rfl
theorem fb34_1 : fldB Tryd.prog 34 1 = some (offF kChurnlaw21_BatchF 1, 1 + 1) := by kernel_rfl
theorem kt32 : KT Tryd.prog 32 kApi_Batch := ⟨by kernel_rfl, by kernel_rfl⟩
theorem BTA98 : BTA Tryd.prog 98 8 (kInt .u32) (List.replicate 8 (0 : Int)) := ⟨⟨Tryd.t98, (.agg #[.int .u32 0, .int .u32 0, .int .u32 0, .int .u32 0, .int .u32 0, .int .u32 0, .int .u32 0, .int .u32 0] : Value), _, Tryd.t97, by kernel_rfl, by kernel_rfl, Tryd.underlying98, by kernel_rfl, by kernel_rfl, by simp, fun F => cells_castA (by kernel_rfl) (z_kArr_8_kInt_u32_ F).2⟩⟩
theorem ZT98 : ZT Tryd.prog 98 (kArr 8 (kInt .u32)) (List.replicate 8 (0 : Int)) := ⟨(.agg #[.int .u32 0, .int .u32 0, .int .u32 0, .int .u32 0, .int .u32 0, .int .u32 0, .int .u32 0, .int .u32 0] : Value), by kernel_rfl, fun F => cells_cast (by kernel_rfl) (z_kArr_8_kInt_u32_ F)⟩
theorem sz98_kArr_8_kInt_u32_ : (Tryd.prog.info? 98).map (·.size) = some (Kd.n (kArr 8 (kInt .u32))) := by kernel_rfl
theorem BTA136 : BTA Tryd.prog 136 64 (kInt .u32) (List.replicate 64 (0 : Int)) := ⟨⟨Tryd.t136, (.agg #[.int .u32 0, .int .u32 0, .int .u32 0, .int .u32 0, .int .u32 0, .int .u32 0, .int .u32 0, .int .u32 0, .int .u32 0, .int .u32 0, .int .u32 0, .int .u32 0, .int .u32 0, .int .u32 0, .int .u32 0, .int .u32 0, .int .u32 0, .int .u32 0, .int .u32 0, .int .u32 0, .int .u32 0, .int .u32 0, .int .u32 0, .int .u32 0, .int .u32 0, .int .u32 0, .int .u32 0, .int .u32 0, .int .u32 0, .int .u32 0, .int .u32 0, .int .u32 0, .int .u32 0, .int .u32 0, .int .u32 0, .int .u32 0, .int .u32 0, .int .u32 0, .int .u32 0, .int .u32 0, .int .u32 0, .int .u32 0, .int .u32 0, .int .u32 0, .int .u32 0, .int .u32 0, .int .u32 0, .int .u32 0, .int .u32 0, .int .u32 0, .int .u32 0, .int .u32 0, .int .u32 0, .int .u32 0, .int .u32 0, .int .u32 0, .int .u32 0, .int .u32 0, .int .u32 0, .int .u32 0, .int .u32 0, .int .u32 0, .int .u32 0, .int .u32 0] : Value), _, Tryd.t97, by kernel_rfl, by kernel_rfl, Tryd.underlying136, by kernel_rfl, by kernel_rfl, by simp, fun F => cells_castA (by kernel_rfl) (z_kArr_64_kInt_u32_ F).2⟩⟩
theorem sz136_kArr_64_kInt_u32_ : (Tryd.prog.info? 136).map (·.size) = some (Kd.n (kArr 64 (kInt .u32))) := by kernel_rfl
theorem kt136 : KT Tryd.prog 136 (kArr 64 (kInt .u32)) := ⟨by kernel_rfl, by kernel_rfl⟩
theorem kt98_kArr_8_kInt_u32_ : KT Tryd.prog 98 (kArr 8 (kInt .u32)) := ⟨by kernel_rfl, by kernel_rfl⟩
theorem kt98 : KT Tryd.prog 98 (kArr 8 (kInt .u32)) := ⟨by kernel_rfl, by kernel_rfl⟩
theorem fm66_0 : fldB Tryd.prog 66 0 = some (0, 15 + 1) := by kernel_rfl
theorem uf_Api_OnionKeys_0 : UpF kApi_OnionKeysF 0 ⟨kArr 16 (kInt .u8), Api_OnionKeys.Box⟩ (fun x y => { x with Box := y }) := ⟨rfl, fun _ _ => rfl, fun _ _ => (by intro q hq; simp only [List.mem_cons, List.not_mem_nil, or_false] at hq; rcases hq with rfl | rfl <;> rfl)⟩
theorem fm66_1 : fldB Tryd.prog 66 1 = some (16, 31 + 1) := by kernel_rfl
theorem uf_Api_OnionKeys_1 : UpF kApi_OnionKeysF 1 ⟨kArr 32 (kInt .u8), Api_OnionKeys.Mac⟩ (fun x y => { x with Mac := y }) := ⟨rfl, fun _ _ => rfl, fun _ _ => ⟨rfl, (by intro q hq; simp only [List.mem_cons, List.not_mem_nil, or_false] at hq; rcases hq with rfl <;> rfl)⟩⟩
theorem fm66_2 : fldB Tryd.prog 66 2 = some (48, 31 + 1) := by kernel_rfl
theorem uf_Api_OnionKeys_2 : UpF kApi_OnionKeysF 2 ⟨kArr 32 (kInt .u8), Api_OnionKeys.Replay⟩ (fun x y => { x with Replay := y }) := ⟨rfl, fun _ _ => rfl, fun _ _ => ⟨rfl, ⟨rfl, (fun q hq => by simp at hq)⟩⟩⟩
theorem z_kArr_176_kInt_u8_ (F : Fz) : Kd.rd (kArr 176 (kInt .u8)) F ((List.replicate 176 [.int .u8 0]).flatten) (List.replicate 176 (0 : Int)) := ⟨by simp, rdAll_rep (K := kInt .u8) rfl 176⟩
theorem ZT131 : ZT Tryd.prog 131 (kArr 176 (kInt .u8)) (List.replicate 176 (0 : Int)) := ⟨(.agg #[.int .u8 0, .int .u8 0, .int .u8 0, .int .u8 0, .int .u8 0, .int .u8 0, .int .u8 0, .int .u8 0, .int .u8 0, .int .u8 0, .int .u8 0, .int .u8 0, .int .u8 0, .int .u8 0, .int .u8 0, .int .u8 0, .int .u8 0, .int .u8 0, .int .u8 0, .int .u8 0, .int .u8 0, .int .u8 0, .int .u8 0, .int .u8 0, .int .u8 0, .int .u8 0, .int .u8 0, .int .u8 0, .int .u8 0, .int .u8 0, .int .u8 0, .int .u8 0, .int .u8 0, .int .u8 0, .int .u8 0, .int .u8 0, .int .u8 0, .int .u8 0, .int .u8 0, .int .u8 0, .int .u8 0, .int .u8 0, .int .u8 0, .int .u8 0, .int .u8 0, .int .u8 0, .int .u8 0, .int .u8 0, .int .u8 0, .int .u8 0, .int .u8 0, .int .u8 0, .int .u8 0, .int .u8 0, .int .u8 0, .int .u8 0, .int .u8 0, .int .u8 0, .int .u8 0, .int .u8 0, .int .u8 0, .int .u8 0, .int .u8 0, .int .u8 0, .int .u8 0, .int .u8 0, .int .u8 0, .int .u8 0, .int .u8 0, .int .u8 0, .int .u8 0, .int .u8 0, .int .u8 0, .int .u8 0, .int .u8 0, .int .u8 0, .int .u8 0, .int .u8 0, .int .u8 0, .int .u8 0, .int .u8 0, .int .u8 0, .int .u8 0, .int .u8 0, .int .u8 0, .int .u8 0, .int .u8 0, .int .u8 0, .int .u8 0, .int .u8 0, .int .u8 0, .int .u8 0, .int .u8 0, .int .u8 0, .int .u8 0, .int .u8 0, .int .u8 0, .int .u8 0, .int .u8 0, .int .u8 0, .int .u8 0, .int .u8 0, .int .u8 0, .int .u8 0, .int .u8 0, .int .u8 0, .int .u8 0, .int .u8 0, .int .u8 0, .int .u8 0, .int .u8 0, .int .u8 0, .int .u8 0, .int .u8 0, .int .u8 0, .int .u8 0, .int .u8 0, .int .u8 0, .int .u8 0, .int .u8 0, .int .u8 0, .int .u8 0, .int .u8 0, .int .u8 0, .int .u8 0, .int .u8 0, .int .u8 0, .int .u8 0, .int .u8 0, .int .u8 0, .int .u8 0, .int .u8 0, .int .u8 0, .int .u8 0, .int .u8 0, .int .u8 0, .int .u8 0, .int .u8 0, .int .u8 0, .int .u8 0, .int .u8 0, .int .u8 0, .int .u8 0, .int .u8 0, .int .u8 0, .int .u8 0, .int .u8 0, .int .u8 0, .int .u8 0, .int .u8 0, .int .u8 0, .int .u8 0, .int .u8 0, .int .u8 0, .int .u8 0, .int .u8 0, .int .u8 0, .int .u8 0, .int .u8 0, .int .u8 0, .int .u8 0, .int .u8 0, .int .u8 0, .int .u8 0, .int .u8 0, .int .u8 0, .int .u8 0, .int .u8 0, .int .u8 0, .int .u8 0, .int .u8 0, .int .u8 0, .int .u8 0, .int .u8 0, .int .u8 0, .int .u8 0] : Value), by kernel_rfl, fun F => cells_cast (by kernel_rfl) (z_kArr_176_kInt_u8_ F)⟩
abbrev str0 : ByteArray := ⟨#[99, 124, 119, 123, 242, 107, 111, 197, 48, 1, 103, 43, 254, 215, 171, 118, 202, 130, 201, 125, 250, 89, 71, 240, 173, 212, 162, 175, 156, 164, 114, 192, 183, 253, 147, 38, 54, 63, 247, 204, 52, 165, 229, 241, 113, 216, 49, 21, 4, 199, 35, 195, 24, 150, 5, 154, 7, 18, 128, 226, 235, 39, 178, 117, 9, 131, 44, 26, 27, 110, 90, 160, 82, 59, 214, 179, 41, 227, 47, 132, 83, 209, 0, 237, 32, 252, 177, 91, 106, 203, 190, 57, 74, 76, 88, 207, 208, 239, 170, 251, 67, 77, 51, 133, 69, 249, 2, 127, 80, 60, 159, 168, 81, 163, 64, 143, 146, 157, 56, 245, 188, 182, 218, 33, 16, 255, 243, 210, 205, 12, 19, 236, 95, 151, 68, 23, 196, 167, 126, 61, 100, 93, 25, 115, 96, 129, 79, 220, 34, 42, 144, 136, 70, 238, 184, 20, 222, 94, 11, 219, 224, 50, 58, 10, 73, 6, 36, 92, 194, 211, 172, 98, 145, 149, 228, 121, 231, 200, 55, 109, 141, 213, 78, 169, 108, 86, 244, 234, 101, 122, 174, 8, 186, 120, 37, 46, 28, 166, 180, 198, 232, 221, 116, 31, 75, 189, 139, 138, 112, 62, 181, 102, 72, 3, 246, 14, 97, 53, 87, 185, 134, 193, 29, 158, 225, 248, 152, 17, 105, 217, 142, 148, 155, 30, 135, 233, 206, 85, 40, 223, 140, 161, 137, 13, 191, 230, 66, 104, 65, 153, 45, 15, 176, 84, 187, 22]⟩
theorem str0_rd : rdOf (.raw (.string str0)) kStr [99, 124, 119, 123, 242, 107, 111, 197, 48, 1, 103, 43, 254, 215, 171, 118, 202, 130, 201, 125, 250, 89, 71, 240, 173, 212, 162, 175, 156, 164, 114, 192, 183, 253, 147, 38, 54, 63, 247, 204, 52, 165, 229, 241, 113, 216, 49, 21, 4, 199, 35, 195, 24, 150, 5, 154, 7, 18, 128, 226, 235, 39, 178, 117, 9, 131, 44, 26, 27, 110, 90, 160, 82, 59, 214, 179, 41, 227, 47, 132, 83, 209, 0, 237, 32, 252, 177, 91, 106, 203, 190, 57, 74, 76, 88, 207, 208, 239, 170, 251, 67, 77, 51, 133, 69, 249, 2, 127, 80, 60, 159, 168, 81, 163, 64, 143, 146, 157, 56, 245, 188, 182, 218, 33, 16, 255, 243, 210, 205, 12, 19, 236, 95, 151, 68, 23, 196, 167, 126, 61, 100, 93, 25, 115, 96, 129, 79, 220, 34, 42, 144, 136, 70, 238, 184, 20, 222, 94, 11, 219, 224, 50, 58, 10, 73, 6, 36, 92, 194, 211, 172, 98, 145, 149, 228, 121, 231, 200, 55, 109, 141, 213, 78, 169, 108, 86, 244, 234, 101, 122, 174, 8, 186, 120, 37, 46, 28, 166, 180, 198, 232, 221, 116, 31, 75, 189, 139, 138, 112, 62, 181, 102, 72, 3, 246, 14, 97, 53, 87, 185, 134, 193, 29, 158, 225, 248, 152, 17, 105, 217, 142, 148, 155, 30, 135, 233, 206, 85, 40, 223, 140, 161, 137, 13, 191, 230, 66, 104, 65, 153, 45, 15, 176, 84, 187, 22] := rdS (by kernel_rfl)
def str0_l : List Int := [99, 124, 119, 123, 242, 107, 111, 197, 48, 1, 103, 43, 254, 215, 171, 118, 202, 130, 201, 125, 250, 89, 71, 240, 173, 212, 162, 175, 156, 164, 114, 192, 183, 253, 147, 38, 54, 63, 247, 204, 52, 165, 229, 241, 113, 216, 49, 21, 4, 199, 35, 195, 24, 150, 5, 154, 7, 18, 128, 226, 235, 39, 178, 117, 9, 131, 44, 26, 27, 110, 90, 160, 82, 59, 214, 179, 41, 227, 47, 132, 83, 209, 0, 237, 32, 252, 177, 91, 106, 203, 190, 57, 74, 76, 88, 207, 208, 239, 170, 251, 67, 77, 51, 133, 69, 249, 2, 127, 80, 60, 159, 168, 81, 163, 64, 143, 146, 157, 56, 245, 188, 182, 218, 33, 16, 255, 243, 210, 205, 12, 19, 236, 95, 151, 68, 23, 196, 167, 126, 61, 100, 93, 25, 115, 96, 129, 79, 220, 34, 42, 144, 136, 70, 238, 184, 20, 222, 94, 11, 219, 224, 50, 58, 10, 73, 6, 36, 92, 194, 211, 172, 98, 145, 149, 228, 121, 231, 200, 55, 109, 141, 213, 78, 169, 108, 86, 244, 234, 101, 122, 174, 8, 186, 120, 37, 46, 28, 166, 180, 198, 232, 221, 116, 31, 75, 189, 139, 138, 112, 62, 181, 102, 72, 3, 246, 14, 97, 53, 87, 185, 134, 193, 29, 158, 225, 248, 152, 17, 105, 217, 142, 148, 155, 30, 135, 233, 206, 85, 40, 223, 140, 161, 137, 13, 191, 230, 66, 104, 65, 153, 45, 15, 176, 84, 187, 22]
theorem kt131 : KT Tryd.prog 131 (kArr 176 (kInt .u8)) := ⟨by kernel_rfl, by kernel_rfl⟩
theorem sz131_kArr_176_kInt_u8_ : (Tryd.prog.info? 131).map (·.size) = some (Kd.n (kArr 176 (kInt .u8))) := by kernel_rfl
theorem fm46_1 : fldB Tryd.prog 46 1 = some (1, 15 + 1) := by kernel_rfl
theorem uf_Api_Peeled_1 : UpF kApi_PeeledF 1 ⟨kArr 16 (kInt .u8), Api_Peeled.Replay⟩ (fun x y => { x with Replay := y }) := ⟨rfl, fun _ _ => rfl, fun _ _ => ⟨rfl, (fun q hq => by simp at hq)⟩⟩
theorem sz3 : (Tryd.prog.info? 3).map (·.size) = some (Kd.n (kInt .i64)) := by kernel_rfl
theorem sz46 : (Tryd.prog.info? 46).map (·.size) = some (Kd.n kApi_Peeled) := by kernel_rfl
theorem runj_9 {P : Program} {ops : Array Oper} {rest : List Oper} {Q : Exit → Act → World → Prop} {F0 : Fz} {n : Nat} {E : List (Nat × SV)} {L : List Res} {o0 o1 o2 o3 o4 o5 o6 o7 o8 : Oper} (d : Nat) (e : Bool) (k : Under F0 n ((d, .raw (.bool e)) :: E) L (wpList P ops Q rest)) (h : Under F0 n ((d, .raw (.bool e)) :: E) L (wpList P ops Q rest) → Under F0 n E L (wpList P ops Q (o0 :: o1 :: o2 :: o3 :: o4 :: o5 :: o6 :: o7 :: o8 :: rest))) : Under F0 n E L (wpList P ops Q (o0 :: o1 :: o2 :: o3 :: o4 :: o5 :: o6 :: o7 :: o8 :: rest)) := h k
theorem runj_9q {P : Program} {ops : Array Oper} {rest : List Oper} {C : World → Prop} {Qa : Act → Prop} {F0 : Fz} {n : Nat} {E : List (Nat × SV)} {o0 o1 o2 o3 o4 o5 o6 o7 o8 : Oper} (d : Nat) (e : Bool) (k : UnderQ F0 n ((d, .raw (.bool e)) :: E) (wpQuiet P ops C Qa rest)) (h : UnderQ F0 n ((d, .raw (.bool e)) :: E) (wpQuiet P ops C Qa rest) → UnderQ F0 n E (wpQuiet P ops C Qa (o0 :: o1 :: o2 :: o3 :: o4 :: o5 :: o6 :: o7 :: o8 :: rest))) : UnderQ F0 n E (wpQuiet P ops C Qa (o0 :: o1 :: o2 :: o3 :: o4 :: o5 :: o6 :: o7 :: o8 :: rest)) := h k
theorem z_kInt_i64 (F : Fz) : Kd.rd (kInt .i64) F [.int .i64 0] (0 : Int) := rfl
theorem ET3 : ET Tryd.prog 3 (kInt .i64) (0 : Int) := ⟨⟨Tryd.t3, (.int .i64 0 : Value), by kernel_rfl, by kernel_rfl, by kernel_rfl, by decide, fun F => cells_cast (by kernel_rfl) (z_kInt_i64 F)⟩⟩
theorem AT3 : AT Tryd.prog 3 (kInt .i64) (0 : Int) 8 := ⟨⟨Tryd.t3, (.int .i64 0 : Value), by kernel_rfl, by kernel_rfl, by kernel_rfl, by kernel_rfl, by decide, by decide, fun F => cells_cast (by kernel_rfl) (z_kInt_i64 F)⟩⟩
theorem eqk3 : EqK Tryd.prog 3 (kInt .i64) 1 := EqK.int Tryd.underlying3
instance beq_Api_Report : BEq Api_Report := ⟨fun a b => a.In == b.In && (a.Malformed == b.Malformed && (a.Replays == b.Replays && (a.Noise == b.Noise && (a.Out == b.Out && (true)))))⟩
theorem eqk37 : EqK Tryd.prog 37 (kApi_Report) 2 := EqK.st Tryd.underlying37 (by kernel_rfl) ⟨by decide, rfl, kt3, _, EqK.up eqk3 rfl, _, fun _ _ => rfl, ⟨by decide, rfl, kt3, _, EqK.up eqk3 rfl, _, fun _ _ => rfl, ⟨by decide, rfl, kt3, _, EqK.up eqk3 rfl, _, fun _ _ => rfl, ⟨by decide, rfl, kt3, _, EqK.up eqk3 rfl, _, fun _ _ => rfl, ⟨by decide, rfl, kt3, _, EqK.up eqk3 rfl, _, fun _ _ => rfl, fun _ _ => rfl⟩⟩⟩⟩⟩
theorem eqg37 : Tryd.prog.eqGuardType Tryd.prog.depth 37 = false := by kernel_rfl
theorem fb46_0 : fldB Tryd.prog 46 0 = some (offF kApi_PeeledF 0, 0 + 1) := by kernel_rfl
theorem runj_12 {P : Program} {ops : Array Oper} {rest : List Oper} {Q : Exit → Act → World → Prop} {F0 : Fz} {n : Nat} {E : List (Nat × SV)} {L : List Res} {o0 o1 o2 o3 o4 o5 o6 o7 o8 o9 o10 o11 : Oper} (d : Nat) (e : Bool) (k : Under F0 n ((d, .raw (.bool e)) :: E) L (wpList P ops Q rest)) (h : Under F0 n ((d, .raw (.bool e)) :: E) L (wpList P ops Q rest) → Under F0 n E L (wpList P ops Q (o0 :: o1 :: o2 :: o3 :: o4 :: o5 :: o6 :: o7 :: o8 :: o9 :: o10 :: o11 :: rest))) : Under F0 n E L (wpList P ops Q (o0 :: o1 :: o2 :: o3 :: o4 :: o5 :: o6 :: o7 :: o8 :: o9 :: o10 :: o11 :: rest)) := h k
theorem runj_12q {P : Program} {ops : Array Oper} {rest : List Oper} {C : World → Prop} {Qa : Act → Prop} {F0 : Fz} {n : Nat} {E : List (Nat × SV)} {o0 o1 o2 o3 o4 o5 o6 o7 o8 o9 o10 o11 : Oper} (d : Nat) (e : Bool) (k : UnderQ F0 n ((d, .raw (.bool e)) :: E) (wpQuiet P ops C Qa rest)) (h : UnderQ F0 n ((d, .raw (.bool e)) :: E) (wpQuiet P ops C Qa rest) → UnderQ F0 n E (wpQuiet P ops C Qa (o0 :: o1 :: o2 :: o3 :: o4 :: o5 :: o6 :: o7 :: o8 :: o9 :: o10 :: o11 :: rest))) : UnderQ F0 n E (wpQuiet P ops C Qa (o0 :: o1 :: o2 :: o3 :: o4 :: o5 :: o6 :: o7 :: o8 :: o9 :: o10 :: o11 :: rest)) := h k
theorem rw5 : RdW Tryd.prog 5 (kInt .u8) (gInt .u8) bOne := rw_int Tryd.underlying5
theorem cof5 : Tryd.prog.cellsOf 5 = 1 := by kernel_rfl
theorem rw22 : RdW Tryd.prog 22 (kSl (kInt .u8)) (gSl (gInt .u8)) (bSl bOne) := rw_sl (K := kInt .u8) Tryd.underlying22 cof5 (by decide) rw5
theorem rw3 : RdW Tryd.prog 3 (kInt .i64) (gInt .i64) bOne := rw_int Tryd.underlying3
theorem cof22 : Tryd.prog.cellsOf 22 = 1 := by kernel_rfl
theorem cof3 : Tryd.prog.cellsOf 3 = 1 := by kernel_rfl
theorem cof24 : Tryd.prog.cellsOf 24 = 11 := by kernel_rfl
def g_Api_Config (x : Api_Config) : Prop := (gSl (gInt .u8)) x.Master ∧ (gInt .i64) x.Left ∧ (gInt .i64) x.Span ∧ (gInt .i64) x.Room ∧ (gInt .i64) x.Num ∧ (gInt .i64) x.Den ∧ (gInt .i64) x.Noise ∧ (gInt .i64) x.Chunks ∧ (gInt .i64) x.Workers ∧ (gInt .i64) x.Cap ∧ (gInt .i64) x.Shards ∧ True
def b_Api_Config (x : Api_Config) : Nat := (bSl bOne) x.Master + (bOne x.Left + (bOne x.Span + (bOne x.Room + (bOne x.Num + (bOne x.Den + (bOne x.Noise + (bOne x.Chunks + (bOne x.Workers + (bOne x.Cap + (bOne x.Shards + 0))))))))))
theorem rw24 : RdW Tryd.prog 24 kApi_Config g_Api_Config b_Api_Config := by
  intro H enc W _ B BA hB fuel cs x h
  obtain ⟨hl, ds, hx, hf0⟩ := trod_st Tryd.underlying24 h
  obtain ⟨d0, ds0, e0, ⟨n0, p0, t0⟩, hf1⟩ := FsRd.cons hf0
  subst e0
  obtain ⟨y0, r0, g0, b0⟩ := rw22 hB t0
  obtain ⟨d1, ds1, e1, ⟨n1, p1, t1⟩, hf2⟩ := FsRd.cons hf1
  subst e1
  obtain ⟨y1, r1, g1, b1⟩ := rw3 hB t1
  obtain ⟨d2, ds2, e2, ⟨n2, p2, t2⟩, hf3⟩ := FsRd.cons hf2
  subst e2
  obtain ⟨y2, r2, g2, b2⟩ := rw3 hB t2
  obtain ⟨d3, ds3, e3, ⟨n3, p3, t3⟩, hf4⟩ := FsRd.cons hf3
  subst e3
  obtain ⟨y3, r3, g3, b3⟩ := rw3 hB t3
  obtain ⟨d4, ds4, e4, ⟨n4, p4, t4⟩, hf5⟩ := FsRd.cons hf4
  subst e4
  obtain ⟨y4, r4, g4, b4⟩ := rw3 hB t4
  obtain ⟨d5, ds5, e5, ⟨n5, p5, t5⟩, hf6⟩ := FsRd.cons hf5
  subst e5
  obtain ⟨y5, r5, g5, b5⟩ := rw3 hB t5
  obtain ⟨d6, ds6, e6, ⟨n6, p6, t6⟩, hf7⟩ := FsRd.cons hf6
  subst e6
  obtain ⟨y6, r6, g6, b6⟩ := rw3 hB t6
  obtain ⟨d7, ds7, e7, ⟨n7, p7, t7⟩, hf8⟩ := FsRd.cons hf7
  subst e7
  obtain ⟨y7, r7, g7, b7⟩ := rw3 hB t7
  obtain ⟨d8, ds8, e8, ⟨n8, p8, t8⟩, hf9⟩ := FsRd.cons hf8
  subst e8
  obtain ⟨y8, r8, g8, b8⟩ := rw3 hB t8
  obtain ⟨d9, ds9, e9, ⟨n9, p9, t9⟩, hf10⟩ := FsRd.cons hf9
  subst e9
  obtain ⟨y9, r9, g9, b9⟩ := rw3 hB t9
  obtain ⟨d10, ds10, e10, ⟨n10, p10, t10⟩, hf11⟩ := FsRd.cons hf10
  subst e10
  obtain ⟨y10, r10, g10, b10⟩ := rw3 hB t10
  have hnil := FsRd.nil hf11
  subst hnil
  refine ⟨⟨y0, y1, y2, y3, y4, y5, y6, y7, y8, y9, y10⟩, rdF_start (rdF_step cof22 r0 (rdF_step cof3 r1 (rdF_step cof3 r2 (rdF_step cof3 r3 (rdF_step cof3 r4 (rdF_step cof3 r5 (rdF_step cof3 r6 (rdF_step cof3 r7 (rdF_step cof3 r8 (rdF_step cof3 r9 (rdF_step cof3 r10 (rdF_end (hl.trans cof24) rfl)))))))))))), ⟨g0, g1, g2, g3, g4, g5, g6, g7, g8, g9, g10, trivial⟩, ?_⟩
  have := hB.agg [d0, d1, d2, d3, d4, d5, d6, d7, d8, d9, d10]
  rw [hx]
  dsimp only at b0 b1 b2 b3 b4 b5 b6 b7 b8 b9 b10
  simp only [hB.cons, hB.nil] at this
  simp only [b_Api_Config]; omega
theorem rw2 : RdW Tryd.prog 2 (kInt .i64) (gInt .i64) bOne := rw_int Tryd.underlying2
theorem cof44 : Tryd.prog.cellsOf 44 = 16 := by kernel_rfl
theorem rw44 : RdW Tryd.prog 44 (kArr 16 (kInt .u8)) (gArr 16 (gInt .u8)) (bArr bOne) := rw_arr (K := kInt .u8) Tryd.underlying44 cof44 cof5 rw5
theorem rw77 : RdW Tryd.prog 77 (kSl (kArr 16 (kInt .u8))) (gSl (gArr 16 (gInt .u8))) (bSl (bArr bOne)) := rw_sl (K := kArr 16 (kInt .u8)) Tryd.underlying77 cof44 (by decide) rw44
theorem cof2 : Tryd.prog.cellsOf 2 = 1 := by kernel_rfl
theorem cof77 : Tryd.prog.cellsOf 77 = 1 := by kernel_rfl
theorem cof79 : Tryd.prog.cellsOf 79 = 2 := by kernel_rfl
def g_Api_Epoch (x : Api_Epoch) : Prop := (gInt .i64) x.Number ∧ (gSl (gArr 16 (gInt .u8))) x.Tags ∧ True
def b_Api_Epoch (x : Api_Epoch) : Nat := bOne x.Number + ((bSl (bArr bOne)) x.Tags + 0)
theorem rw79 : RdW Tryd.prog 79 kApi_Epoch g_Api_Epoch b_Api_Epoch := by
  intro H enc W _ B BA hB fuel cs x h
  obtain ⟨hl, ds, hx, hf0⟩ := trod_st Tryd.underlying79 h
  obtain ⟨d0, ds0, e0, ⟨n0, p0, t0⟩, hf1⟩ := FsRd.cons hf0
  subst e0
  obtain ⟨y0, r0, g0, b0⟩ := rw2 hB t0
  obtain ⟨d1, ds1, e1, ⟨n1, p1, t1⟩, hf2⟩ := FsRd.cons hf1
  subst e1
  obtain ⟨y1, r1, g1, b1⟩ := rw77 hB t1
  have hnil := FsRd.nil hf2
  subst hnil
  refine ⟨⟨y0, y1⟩, rdF_start (rdF_step cof2 r0 (rdF_step cof77 r1 (rdF_end (hl.trans cof79) rfl))), ⟨g0, g1, trivial⟩, ?_⟩
  have := hB.agg [d0, d1]
  rw [hx]
  dsimp only at b0 b1
  simp only [hB.cons, hB.nil] at this
  simp only [b_Api_Epoch]; omega
theorem rw25 : RdW Tryd.prog 25 (kSl kApi_Epoch) (gSl g_Api_Epoch) (bSl b_Api_Epoch) := rw_sl (K := kApi_Epoch) Tryd.underlying25 cof79 (by decide) rw79
theorem cof25 : Tryd.prog.cellsOf 25 = 1 := by kernel_rfl
theorem cof27 : Tryd.prog.cellsOf 27 = 2 := by kernel_rfl
def g_Api_Window (x : Api_Window) : Prop := (gInt .i64) x.Newest ∧ (gSl g_Api_Epoch) x.Epochs ∧ True
def b_Api_Window (x : Api_Window) : Nat := bOne x.Newest + ((bSl b_Api_Epoch) x.Epochs + 0)
theorem rw27 : RdW Tryd.prog 27 kApi_Window g_Api_Window b_Api_Window := by
  intro H enc W _ B BA hB fuel cs x h
  obtain ⟨hl, ds, hx, hf0⟩ := trod_st Tryd.underlying27 h
  obtain ⟨d0, ds0, e0, ⟨n0, p0, t0⟩, hf1⟩ := FsRd.cons hf0
  subst e0
  obtain ⟨y0, r0, g0, b0⟩ := rw2 hB t0
  obtain ⟨d1, ds1, e1, ⟨n1, p1, t1⟩, hf2⟩ := FsRd.cons hf1
  subst e1
  obtain ⟨y1, r1, g1, b1⟩ := rw25 hB t1
  have hnil := FsRd.nil hf2
  subst hnil
  refine ⟨⟨y0, y1⟩, rdF_start (rdF_step cof2 r0 (rdF_step cof25 r1 (rdF_end (hl.trans cof27) rfl))), ⟨g0, g1, trivial⟩, ?_⟩
  have := hB.agg [d0, d1]
  rw [hx]
  dsimp only at b0 b1
  simp only [hB.cons, hB.nil] at this
  simp only [b_Api_Window]; omega
theorem cof29 : Tryd.prog.cellsOf 29 = 3 := by kernel_rfl
def g_Api_Header (x : Api_Header) : Prop := (gInt .i64) x.Round ∧ (gInt .i64) x.Epoch ∧ (gInt .i64) x.Left ∧ True
def b_Api_Header (x : Api_Header) : Nat := bOne x.Round + (bOne x.Epoch + (bOne x.Left + 0))
theorem rw29 : RdW Tryd.prog 29 kApi_Header g_Api_Header b_Api_Header := by
  intro H enc W _ B BA hB fuel cs x h
  obtain ⟨hl, ds, hx, hf0⟩ := trod_st Tryd.underlying29 h
  obtain ⟨d0, ds0, e0, ⟨n0, p0, t0⟩, hf1⟩ := FsRd.cons hf0
  subst e0
  obtain ⟨y0, r0, g0, b0⟩ := rw2 hB t0
  obtain ⟨d1, ds1, e1, ⟨n1, p1, t1⟩, hf2⟩ := FsRd.cons hf1
  subst e1
  obtain ⟨y1, r1, g1, b1⟩ := rw2 hB t1
  obtain ⟨d2, ds2, e2, ⟨n2, p2, t2⟩, hf3⟩ := FsRd.cons hf2
  subst e2
  obtain ⟨y2, r2, g2, b2⟩ := rw3 hB t2
  have hnil := FsRd.nil hf3
  subst hnil
  refine ⟨⟨y0, y1, y2⟩, rdF_start (rdF_step cof2 r0 (rdF_step cof2 r1 (rdF_step cof3 r2 (rdF_end (hl.trans cof29) rfl)))), ⟨g0, g1, g2, trivial⟩, ?_⟩
  have := hB.agg [d0, d1, d2]
  rw [hx]
  dsimp only at b0 b1 b2
  simp only [hB.cons, hB.nil] at this
  simp only [b_Api_Header]; omega
theorem rw30 : RdW Tryd.prog 30 (kSl (kSl (kInt .u8))) (gSl (gSl (gInt .u8))) (bSl (bSl bOne)) := rw_sl (K := kSl (kInt .u8)) Tryd.underlying30 cof22 (by decide) rw22
theorem cof30 : Tryd.prog.cellsOf 30 = 1 := by kernel_rfl
theorem cof32 : Tryd.prog.cellsOf 32 = 4 := by kernel_rfl
def g_Api_Batch (x : Api_Batch) : Prop := g_Api_Header x.Header ∧ (gSl (gSl (gInt .u8))) x.Cells ∧ True
def b_Api_Batch (x : Api_Batch) : Nat := b_Api_Header x.Header + ((bSl (bSl bOne)) x.Cells + 0)
theorem rw32 : RdW Tryd.prog 32 kApi_Batch g_Api_Batch b_Api_Batch := by
  intro H enc W _ B BA hB fuel cs x h
  obtain ⟨hl, ds, hx, hf0⟩ := trod_st Tryd.underlying32 h
  obtain ⟨d0, ds0, e0, ⟨n0, p0, t0⟩, hf1⟩ := FsRd.cons hf0
  subst e0
  obtain ⟨y0, r0, g0, b0⟩ := rw29 hB t0
  obtain ⟨d1, ds1, e1, ⟨n1, p1, t1⟩, hf2⟩ := FsRd.cons hf1
  subst e1
  obtain ⟨y1, r1, g1, b1⟩ := rw30 hB t1
  have hnil := FsRd.nil hf2
  subst hnil
  refine ⟨⟨y0, y1⟩, rdF_start (rdF_step cof29 r0 (rdF_step cof30 r1 (rdF_end (hl.trans cof32) rfl))), ⟨g0, g1, trivial⟩, ?_⟩
  have := hB.agg [d0, d1]
  rw [hx]
  dsimp only at b0 b1
  simp only [hB.cons, hB.nil] at this
  simp only [b_Api_Batch]; omega
theorem cof34 : Tryd.prog.cellsOf 34 = 17 := by kernel_rfl
def g_Churnlaw21_Batch (x : Churnlaw21_Batch) : Prop := g_Api_Config x.C ∧ g_Api_Window x.W ∧ g_Api_Batch x.B ∧ True
def b_Churnlaw21_Batch (x : Churnlaw21_Batch) : Nat := b_Api_Config x.C + (b_Api_Window x.W + (b_Api_Batch x.B + 0))
theorem rw34 : RdW Tryd.prog 34 kChurnlaw21_Batch g_Churnlaw21_Batch b_Churnlaw21_Batch := by
  intro H enc W _ B BA hB fuel cs x h
  obtain ⟨hl, ds, hx, hf0⟩ := trod_st Tryd.underlying34 h
  obtain ⟨d0, ds0, e0, ⟨n0, p0, t0⟩, hf1⟩ := FsRd.cons hf0
  subst e0
  obtain ⟨y0, r0, g0, b0⟩ := rw24 hB t0
  obtain ⟨d1, ds1, e1, ⟨n1, p1, t1⟩, hf2⟩ := FsRd.cons hf1
  subst e1
  obtain ⟨y1, r1, g1, b1⟩ := rw27 hB t1
  obtain ⟨d2, ds2, e2, ⟨n2, p2, t2⟩, hf3⟩ := FsRd.cons hf2
  subst e2
  obtain ⟨y2, r2, g2, b2⟩ := rw32 hB t2
  have hnil := FsRd.nil hf3
  subst hnil
  refine ⟨⟨y0, y1, y2⟩, rdF_start (rdF_step cof24 r0 (rdF_step cof27 r1 (rdF_step cof32 r2 (rdF_end (hl.trans cof34) rfl)))), ⟨g0, g1, g2, trivial⟩, ?_⟩
  have := hB.agg [d0, d1, d2]
  rw [hx]
  dsimp only at b0 b1 b2
  simp only [hB.cons, hB.nil] at this
  simp only [b_Churnlaw21_Batch]; omega
theorem kt34 : KT Tryd.prog 34 kChurnlaw21_Batch := ⟨by kernel_rfl, by kernel_rfl⟩
abbrev K0 := (kArr 64 (kInt .u32))
abbrev K1 := (kArr 176 (kInt .u8))
abbrev K2 := (kArr 8 (kInt .u32))
abbrev K3 := (kArr 32 (kInt .u8))
abbrev K4 := (kArr 16 (kInt .u8))
abbrev K5 := (kArr 4 (kInt .u8))
abbrev K6 := (kSl (kInt .u8))
abbrev K7 := (kInt .u32)
abbrev K8 := (kInt .u8)
end Go.Proofs.YtgllljocmpbooaaDoor

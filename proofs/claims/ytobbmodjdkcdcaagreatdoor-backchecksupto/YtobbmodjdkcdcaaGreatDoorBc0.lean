/- PRINTED BY gen2.py (of this repo): functions of the program in Lean, and that the machine follows them. -/
import Derived.Test.YtobbmodjdkcdcaaGreatDoorSimD
import Derived.Test.YtobbmodjdkcdcaaGreatDoorRows
import Derived.Test.YtobbmodjdkcdcaaGreatDoorLawSrt
set_option linter.unusedVariables false
set_option linter.unusedSimpArgs false
set_option maxRecDepth 20000
namespace Go.Proofs.YtobbmodjdkcdcaaGreatDoor
open Go Go.Sim Go.ChangeShapes Go.WideShapes Go.ChangeAt Go.RowKit
structure Api_Header where
  Round : Int
  Epoch : Int
  Left : Int
abbrev kApi_HeaderF : List (Fld Api_Header) := [⟨kInt .i64, Api_Header.Round⟩, ⟨kInt .i64, Api_Header.Epoch⟩, ⟨kInt .i64, Api_Header.Left⟩]
abbrev kApi_Header : Kd Api_Header := kSt kApi_HeaderF
structure Api_Batch where
  Header : Api_Header
  Cells : List (List Int)
abbrev kApi_BatchF : List (Fld Api_Batch) := [⟨kApi_Header, Api_Batch.Header⟩, ⟨kSl (kSl (kInt .u8)), Api_Batch.Cells⟩]
abbrev kApi_Batch : Kd Api_Batch := kSt kApi_BatchF
structure Api_Memory where
  Header : Api_Header
  Count : Int
  From : List Int
  Nonces : List (List Int)
abbrev kApi_MemoryF : List (Fld Api_Memory) := [⟨kApi_Header, Api_Memory.Header⟩, ⟨kInt .i64, Api_Memory.Count⟩, ⟨kSl (kInt .i64), Api_Memory.From⟩, ⟨kSl (kArr 16 (kInt .u8)), Api_Memory.Nonces⟩]
abbrev kApi_Memory : Kd Api_Memory := kSt kApi_MemoryF
structure Api_Parts where
  Noise : List Int
  Braid : List Int
  Chunks : List (List Int)
abbrev kApi_PartsF : List (Fld Api_Parts) := [⟨kSl (kInt .u8), Api_Parts.Noise⟩, ⟨kSl (kInt .u8), Api_Parts.Braid⟩, ⟨kSl (kSl (kInt .u8)), Api_Parts.Chunks⟩]
abbrev kApi_Parts : Kd Api_Parts := kSt kApi_PartsF
structure Api_Epoch where
  Number : Int
  Tags : List (List Int)
abbrev kApi_EpochF : List (Fld Api_Epoch) := [⟨kInt .i64, Api_Epoch.Number⟩, ⟨kSl (kArr 16 (kInt .u8)), Api_Epoch.Tags⟩]
abbrev kApi_Epoch : Kd Api_Epoch := kSt kApi_EpochF
structure Api_Window where
  Newest : Int
  Epochs : List Api_Epoch
abbrev kApi_WindowF : List (Fld Api_Window) := [⟨kInt .i64, Api_Window.Newest⟩, ⟨kSl kApi_Epoch, Api_Window.Epochs⟩]
abbrev kApi_Window : Kd Api_Window := kSt kApi_WindowF
structure Api_Config where
  Master : List Int
  Left : Int
  Span : Int
  Room : Int
  Num : Int
  Den : Int
  Noise : Int
  Chunks : Int
  Workers : Int
  Cap : Int
  Shards : Int
abbrev kApi_ConfigF : List (Fld Api_Config) := [⟨kSl (kInt .u8), Api_Config.Master⟩, ⟨kInt .i64, Api_Config.Left⟩, ⟨kInt .i64, Api_Config.Span⟩, ⟨kInt .i64, Api_Config.Room⟩, ⟨kInt .i64, Api_Config.Num⟩, ⟨kInt .i64, Api_Config.Den⟩, ⟨kInt .i64, Api_Config.Noise⟩, ⟨kInt .i64, Api_Config.Chunks⟩, ⟨kInt .i64, Api_Config.Workers⟩, ⟨kInt .i64, Api_Config.Cap⟩, ⟨kInt .i64, Api_Config.Shards⟩]
abbrev kApi_Config : Kd Api_Config := kSt kApi_ConfigF
structure Api_State where
  Next : Int
  Window : Api_Window
abbrev kApi_StateF : List (Fld Api_State) := [⟨kInt .i64, Api_State.Next⟩, ⟨kApi_Window, Api_State.Window⟩]
abbrev kApi_State : Kd Api_State := kSt kApi_StateF
structure Api_Report where
  In : Int
  Malformed : Int
  Replays : Int
  Noise : Int
  Out : Int
abbrev kApi_ReportF : List (Fld Api_Report) := [⟨kInt .i64, Api_Report.In⟩, ⟨kInt .i64, Api_Report.Malformed⟩, ⟨kInt .i64, Api_Report.Replays⟩, ⟨kInt .i64, Api_Report.Noise⟩, ⟨kInt .i64, Api_Report.Out⟩]
abbrev kApi_Report : Kd Api_Report := kSt kApi_ReportF
structure Api_Outcome where
  Out : List Int
  State : Api_State
  Report : Api_Report
  Err : Int
  At : Int
abbrev kApi_OutcomeF : List (Fld Api_Outcome) := [⟨kSl (kInt .u8), Api_Outcome.Out⟩, ⟨kApi_State, Api_Outcome.State⟩, ⟨kApi_Report, Api_Outcome.Report⟩, ⟨kInt .i64, Api_Outcome.Err⟩, ⟨kInt .i64, Api_Outcome.At⟩]
abbrev kApi_Outcome : Kd Api_Outcome := kSt kApi_OutcomeF
structure Frame_sum where
  a : Int
  b : Int
abbrev kFrame_sumF : List (Fld Frame_sum) := [⟨kInt .u32, Frame_sum.a⟩, ⟨kInt .u32, Frame_sum.b⟩]
abbrev kFrame_sum : Kd Frame_sum := kSt kFrame_sumF
structure Frame_Feed where
  field : List Int
  at_ : Int
  stage : Int
  left : Int
  header : Api_Header
  sum : Frame_sum
  err : Int
  place : Int
abbrev kFrame_FeedF : List (Fld Frame_Feed) := [⟨kSl (kInt .u8), Frame_Feed.field⟩, ⟨kInt .i64, Frame_Feed.at_⟩, ⟨kInt .i64, Frame_Feed.stage⟩, ⟨kInt .i64, Frame_Feed.left⟩, ⟨kApi_Header, Frame_Feed.header⟩, ⟨kFrame_sum, Frame_Feed.sum⟩, ⟨kInt .i64, Frame_Feed.err⟩, ⟨kInt .i64, Frame_Feed.place⟩]
abbrev kFrame_Feed : Kd Frame_Feed := kSt kFrame_FeedF
structure Frame_Feed_r0 where
  field : Value
  at_ : Int
  stage : Int
  left : Int
  header : Api_Header
  sum : Frame_sum
  err : Int
  place : Int
abbrev kFrame_Feed_r0F : List (Fld Frame_Feed_r0) := [⟨kRaw, Frame_Feed_r0.field⟩, ⟨kInt .i64, Frame_Feed_r0.at_⟩, ⟨kInt .i64, Frame_Feed_r0.stage⟩, ⟨kInt .i64, Frame_Feed_r0.left⟩, ⟨kApi_Header, Frame_Feed_r0.header⟩, ⟨kFrame_sum, Frame_Feed_r0.sum⟩, ⟨kInt .i64, Frame_Feed_r0.err⟩, ⟨kInt .i64, Frame_Feed_r0.place⟩]
abbrev kFrame_Feed_r0 : Kd Frame_Feed_r0 := kSt kFrame_Feed_r0F
structure Api_Window_r1 where
  Newest : Int
  Epochs : Value
abbrev kApi_Window_r1F : List (Fld Api_Window_r1) := [⟨kInt .i64, Api_Window_r1.Newest⟩, ⟨kRaw, Api_Window_r1.Epochs⟩]
abbrev kApi_Window_r1 : Kd Api_Window_r1 := kSt kApi_Window_r1F
structure Api_State_r1x1 where
  Next : Int
  Window : Api_Window_r1
abbrev kApi_State_r1x1F : List (Fld Api_State_r1x1) := [⟨kInt .i64, Api_State_r1x1.Next⟩, ⟨kApi_Window_r1, Api_State_r1x1.Window⟩]
abbrev kApi_State_r1x1 : Kd Api_State_r1x1 := kSt kApi_State_r1x1F
structure Api_Peeled where
  Cell : List Int
  Replay : List Int
abbrev kApi_PeeledF : List (Fld Api_Peeled) := [⟨kSl (kInt .u8), Api_Peeled.Cell⟩, ⟨kArr 16 (kInt .u8), Api_Peeled.Replay⟩]
abbrev kApi_Peeled : Kd Api_Peeled := kSt kApi_PeeledF
structure Hash_Hash where
  words : List Int
  tail : List Int
  n : Int
abbrev kHash_HashF : List (Fld Hash_Hash) := [⟨kArr 8 (kInt .u32), Hash_Hash.words⟩, ⟨kArr 64 (kInt .u8), Hash_Hash.tail⟩, ⟨kInt .u64, Hash_Hash.n⟩]
abbrev kHash_Hash : Kd Hash_Hash := kSt kHash_HashF
structure Api_Parts_r2 where
  Noise : List Int
  Braid : List Int
  Chunks : Value
abbrev kApi_Parts_r2F : List (Fld Api_Parts_r2) := [⟨kSl (kInt .u8), Api_Parts_r2.Noise⟩, ⟨kSl (kInt .u8), Api_Parts_r2.Braid⟩, ⟨kRaw, Api_Parts_r2.Chunks⟩]
abbrev kApi_Parts_r2 : Kd Api_Parts_r2 := kSt kApi_Parts_r2F
structure Block_Schedule where
  keys : List (List Int)
abbrev kBlock_ScheduleF : List (Fld Block_Schedule) := [⟨kArr 11 (kArr 16 (kInt .u8)), Block_Schedule.keys⟩]
abbrev kBlock_Schedule : Kd Block_Schedule := kSt kBlock_ScheduleF
structure Riffle_cut where
  parts : Api_Parts
  sizes : List Int
  starts : List Int
abbrev kRiffle_cutF : List (Fld Riffle_cut) := [⟨kApi_Parts, Riffle_cut.parts⟩, ⟨kSl (kInt .i64), Riffle_cut.sizes⟩, ⟨kSl (kInt .i64), Riffle_cut.starts⟩]
abbrev kRiffle_cut : Kd Riffle_cut := kSt kRiffle_cutF
structure Riffle_cut_r2 where
  parts : Api_Parts
  sizes : List Int
  starts : Value
abbrev kRiffle_cut_r2F : List (Fld Riffle_cut_r2) := [⟨kApi_Parts, Riffle_cut_r2.parts⟩, ⟨kSl (kInt .i64), Riffle_cut_r2.sizes⟩, ⟨kRaw, Riffle_cut_r2.starts⟩]
abbrev kRiffle_cut_r2 : Kd Riffle_cut_r2 := kSt kRiffle_cut_r2F
structure Tape_Tape where
  bytes : List Int
  used : Int
abbrev kTape_TapeF : List (Fld Tape_Tape) := [⟨kStr, Tape_Tape.bytes⟩, ⟨kInt .i64, Tape_Tape.used⟩]
abbrev kTape_Tape : Kd Tape_Tape := kSt kTape_TapeF
structure Api_Epoch_r1 where
  Number : Int
  Tags : Value
abbrev kApi_Epoch_r1F : List (Fld Api_Epoch_r1) := [⟨kInt .i64, Api_Epoch_r1.Number⟩, ⟨kRaw, Api_Epoch_r1.Tags⟩]
abbrev kApi_Epoch_r1 : Kd Api_Epoch_r1 := kSt kApi_Epoch_r1F
structure Api_Memory_r2_3 where
  Header : Api_Header
  Count : Int
  From : Value
  Nonces : Value
abbrev kApi_Memory_r2_3F : List (Fld Api_Memory_r2_3) := [⟨kApi_Header, Api_Memory_r2_3.Header⟩, ⟨kInt .i64, Api_Memory_r2_3.Count⟩, ⟨kRaw, Api_Memory_r2_3.From⟩, ⟨kRaw, Api_Memory_r2_3.Nonces⟩]
abbrev kApi_Memory_r2_3 : Kd Api_Memory_r2_3 := kSt kApi_Memory_r2_3F
structure Api_Memory_r3 where
  Header : Api_Header
  Count : Int
  From : List Int
  Nonces : Value
abbrev kApi_Memory_r3F : List (Fld Api_Memory_r3) := [⟨kApi_Header, Api_Memory_r3.Header⟩, ⟨kInt .i64, Api_Memory_r3.Count⟩, ⟨kSl (kInt .i64), Api_Memory_r3.From⟩, ⟨kRaw, Api_Memory_r3.Nonces⟩]
abbrev kApi_Memory_r3 : Kd Api_Memory_r3 := kSt kApi_Memory_r3F
structure Api_Batch_r1 where
  Header : Api_Header
  Cells : Value
abbrev kApi_Batch_r1F : List (Fld Api_Batch_r1) := [⟨kApi_Header, Api_Batch_r1.Header⟩, ⟨kRaw, Api_Batch_r1.Cells⟩]
abbrev kApi_Batch_r1 : Kd Api_Batch_r1 := kSt kApi_Batch_r1F
structure Api_OnionKeys where
  Box : List Int
  Mac : List Int
  Replay : List Int
abbrev kApi_OnionKeysF : List (Fld Api_OnionKeys) := [⟨kArr 16 (kInt .u8), Api_OnionKeys.Box⟩, ⟨kArr 32 (kInt .u8), Api_OnionKeys.Mac⟩, ⟨kArr 32 (kInt .u8), Api_OnionKeys.Replay⟩]
abbrev kApi_OnionKeys : Kd Api_OnionKeys := kSt kApi_OnionKeysF
theorem z_kApi_Config (F : Fz) : Kd.rd kApi_Config F ([.slice none 0 0] ++ [.int .i64 0] ++ [.int .i64 0] ++ [.int .i64 0] ++ [.int .i64 0] ++ [.int .i64 0] ++ [.int .i64 0] ++ [.int .i64 0] ++ [.int .i64 0] ++ [.int .i64 0] ++ [.int .i64 0] ++ []) (⟨[], (0 : Int), (0 : Int), (0 : Int), (0 : Int), (0 : Int), (0 : Int), (0 : Int), (0 : Int), (0 : Int), (0 : Int)⟩ : Api_Config) := ⟨[.slice none 0 0], _, rfl, ⟨none, 0, rfl, Nat.le_refl _, .inl rfl⟩, ⟨[.int .i64 0], _, rfl, rfl, ⟨[.int .i64 0], _, rfl, rfl, ⟨[.int .i64 0], _, rfl, rfl, ⟨[.int .i64 0], _, rfl, rfl, ⟨[.int .i64 0], _, rfl, rfl, ⟨[.int .i64 0], _, rfl, rfl, ⟨[.int .i64 0], _, rfl, rfl, ⟨[.int .i64 0], _, rfl, rfl, ⟨[.int .i64 0], _, rfl, rfl, ⟨[.int .i64 0], _, rfl, rfl, rfl⟩⟩⟩⟩⟩⟩⟩⟩⟩⟩⟩
theorem ZT24 : ZT Tryz.prog 24 kApi_Config (⟨[], (0 : Int), (0 : Int), (0 : Int), (0 : Int), (0 : Int), (0 : Int), (0 : Int), (0 : Int), (0 : Int), (0 : Int)⟩ : Api_Config) := ⟨(.agg (List.replicate 1 (.slice none 0 0 : Value) ++ List.replicate 10 (.int .i64 0 : Value)).toArray : Value), by kernel_rfl, fun F => cells_cast (by kernel_rfl) (z_kApi_Config F)⟩
theorem z_kInt_u8 (F : Fz) : Kd.rd (kInt .u8) F [.int .u8 0] (0 : Int) := rfl
theorem AT5 : AT Tryz.prog 5 (kInt .u8) (0 : Int) 1 := ⟨⟨Tryz.t5, (.int .u8 0 : Value), by kernel_rfl, by kernel_rfl, by kernel_rfl, by kernel_rfl, by decide, by decide, fun F => cells_cast (by kernel_rfl) (z_kInt_u8 F)⟩⟩
theorem BT24 : BT Tryz.prog 24 kApi_ConfigF (⟨[], (0 : Int), (0 : Int), (0 : Int), (0 : Int), (0 : Int), (0 : Int), (0 : Int), (0 : Int), (0 : Int), (0 : Int)⟩ : Api_Config) := ⟨⟨Tryz.t24, (.agg (List.replicate 1 (.slice none 0 0 : Value) ++ List.replicate 10 (.int .i64 0 : Value)).toArray : Value), _, [(0, 1), (1, 1), (2, 1), (3, 1), (4, 1), (5, 1), (6, 1), (7, 1), (8, 1), (9, 1), (10, 1)], by kernel_rfl, by kernel_rfl, Tryz.underlying24, by kernel_rfl, fun i f h => match i, f, h with
    | 0, f, h => by cases h; rfl
    | 1, f, h => by cases h; rfl
    | 2, f, h => by cases h; rfl
    | 3, f, h => by cases h; rfl
    | 4, f, h => by cases h; rfl
    | 5, f, h => by cases h; rfl
    | 6, f, h => by cases h; rfl
    | 7, f, h => by cases h; rfl
    | 8, f, h => by cases h; rfl
    | 9, f, h => by cases h; rfl
    | 10, f, h => by cases h; rfl
    | (_ + 11), f, h => by simp [kApi_ConfigF] at h, fun F => cells_castF (by kernel_rfl) (z_kApi_Config F)⟩⟩
theorem sz24k : (Tryz.prog.info? 24).map (·.size) = some (Kd.n kApi_Config) := by kernel_rfl
theorem kt24 : KT Tryz.prog 24 kApi_Config := ⟨by kernel_rfl, by kernel_rfl⟩
theorem z_kApi_State (F : Fz) : Kd.rd kApi_State F ([.int .i64 0] ++ ([.int .i64 0] ++ [.slice none 0 0] ++ []) ++ []) (⟨(0 : Int), (⟨(0 : Int), []⟩ : Api_Window)⟩ : Api_State) := ⟨[.int .i64 0], _, rfl, rfl, ⟨([.int .i64 0] ++ [.slice none 0 0] ++ []), _, rfl, ⟨[.int .i64 0], _, rfl, rfl, ⟨[.slice none 0 0], _, rfl, ⟨none, 0, rfl, Nat.le_refl _, .inl rfl⟩, rfl⟩⟩, rfl⟩⟩
theorem BT29 : BT Tryz.prog 29 kApi_StateF (⟨(0 : Int), (⟨(0 : Int), []⟩ : Api_Window)⟩ : Api_State) := ⟨⟨Tryz.t29, (.agg #[.int .i64 0, .int .i64 0, .slice none 0 0] : Value), _, [(0, 1), (1, 2)], by kernel_rfl, by kernel_rfl, Tryz.underlying29, by kernel_rfl, fun i f h => match i, f, h with
    | 0, f, h => by cases h; rfl
    | 1, f, h => by cases h; rfl
    | (_ + 2), f, h => by simp [kApi_StateF] at h, fun F => cells_castF (by kernel_rfl) (z_kApi_State F)⟩⟩
theorem ET5 : ET Tryz.prog 5 (kInt .u8) (0 : Int) := ⟨⟨Tryz.t5, (.int .u8 0 : Value), by kernel_rfl, by kernel_rfl, by kernel_rfl, by decide, fun F => cells_cast (by kernel_rfl) (z_kInt_u8 F)⟩⟩
theorem z_kApi_Outcome (F : Fz) : Kd.rd kApi_Outcome F ([.slice none 0 0] ++ ([.int .i64 0] ++ ([.int .i64 0] ++ [.slice none 0 0] ++ []) ++ []) ++ ([.int .i64 0] ++ [.int .i64 0] ++ [.int .i64 0] ++ [.int .i64 0] ++ [.int .i64 0] ++ []) ++ [.int .i64 0] ++ [.int .i64 0] ++ []) (⟨[], (⟨(0 : Int), (⟨(0 : Int), []⟩ : Api_Window)⟩ : Api_State), (⟨(0 : Int), (0 : Int), (0 : Int), (0 : Int), (0 : Int)⟩ : Api_Report), (0 : Int), (0 : Int)⟩ : Api_Outcome) := ⟨[.slice none 0 0], _, rfl, ⟨none, 0, rfl, Nat.le_refl _, .inl rfl⟩, ⟨([.int .i64 0] ++ ([.int .i64 0] ++ [.slice none 0 0] ++ []) ++ []), _, rfl, ⟨[.int .i64 0], _, rfl, rfl, ⟨([.int .i64 0] ++ [.slice none 0 0] ++ []), _, rfl, ⟨[.int .i64 0], _, rfl, rfl, ⟨[.slice none 0 0], _, rfl, ⟨none, 0, rfl, Nat.le_refl _, .inl rfl⟩, rfl⟩⟩, rfl⟩⟩, ⟨([.int .i64 0] ++ [.int .i64 0] ++ [.int .i64 0] ++ [.int .i64 0] ++ [.int .i64 0] ++ []), _, rfl, ⟨[.int .i64 0], _, rfl, rfl, ⟨[.int .i64 0], _, rfl, rfl, ⟨[.int .i64 0], _, rfl, rfl, ⟨[.int .i64 0], _, rfl, rfl, ⟨[.int .i64 0], _, rfl, rfl, rfl⟩⟩⟩⟩⟩, ⟨[.int .i64 0], _, rfl, rfl, ⟨[.int .i64 0], _, rfl, rfl, rfl⟩⟩⟩⟩⟩
theorem ZT37 : ZT Tryz.prog 37 kApi_Outcome (⟨[], (⟨(0 : Int), (⟨(0 : Int), []⟩ : Api_Window)⟩ : Api_State), (⟨(0 : Int), (0 : Int), (0 : Int), (0 : Int), (0 : Int)⟩ : Api_Report), (0 : Int), (0 : Int)⟩ : Api_Outcome) := ⟨(.agg (List.replicate 1 (.slice none 0 0 : Value) ++ List.replicate 2 (.int .i64 0 : Value) ++ List.replicate 1 (.slice none 0 0 : Value) ++ List.replicate 7 (.int .i64 0 : Value)).toArray : Value), by kernel_rfl, fun F => cells_cast (by kernel_rfl) (z_kApi_Outcome F)⟩
theorem z_kApi_Memory (F : Fz) : Kd.rd kApi_Memory F (([.int .i64 0] ++ [.int .i64 0] ++ [.int .i64 0] ++ []) ++ [.int .i64 0] ++ [.slice none 0 0] ++ [.slice none 0 0] ++ []) (⟨(⟨(0 : Int), (0 : Int), (0 : Int)⟩ : Api_Header), (0 : Int), [], []⟩ : Api_Memory) := ⟨([.int .i64 0] ++ [.int .i64 0] ++ [.int .i64 0] ++ []), _, rfl, ⟨[.int .i64 0], _, rfl, rfl, ⟨[.int .i64 0], _, rfl, rfl, ⟨[.int .i64 0], _, rfl, rfl, rfl⟩⟩⟩, ⟨[.int .i64 0], _, rfl, rfl, ⟨[.slice none 0 0], _, rfl, ⟨none, 0, rfl, Nat.le_refl _, .inl rfl⟩, ⟨[.slice none 0 0], _, rfl, ⟨none, 0, rfl, Nat.le_refl _, .inl rfl⟩, rfl⟩⟩⟩⟩
theorem ZT87 : ZT Tryz.prog 87 kApi_Memory (⟨(⟨(0 : Int), (0 : Int), (0 : Int)⟩ : Api_Header), (0 : Int), [], []⟩ : Api_Memory) := ⟨(.agg #[.int .i64 0, .int .i64 0, .int .i64 0, .int .i64 0, .slice none 0 0, .slice none 0 0] : Value), by kernel_rfl, fun F => cells_cast (by kernel_rfl) (z_kApi_Memory F)⟩
theorem kt29 : KT Tryz.prog 29 kApi_State := ⟨by kernel_rfl, by kernel_rfl⟩
theorem z_kApi_Batch (F : Fz) : Kd.rd kApi_Batch F (([.int .i64 0] ++ [.int .i64 0] ++ [.int .i64 0] ++ []) ++ [.slice none 0 0] ++ []) (⟨(⟨(0 : Int), (0 : Int), (0 : Int)⟩ : Api_Header), []⟩ : Api_Batch) := ⟨([.int .i64 0] ++ [.int .i64 0] ++ [.int .i64 0] ++ []), _, rfl, ⟨[.int .i64 0], _, rfl, rfl, ⟨[.int .i64 0], _, rfl, rfl, ⟨[.int .i64 0], _, rfl, rfl, rfl⟩⟩⟩, ⟨[.slice none 0 0], _, rfl, ⟨none, 0, rfl, Nat.le_refl _, .inl rfl⟩, rfl⟩⟩
theorem ZT46 : ZT Tryz.prog 46 kApi_Batch (⟨(⟨(0 : Int), (0 : Int), (0 : Int)⟩ : Api_Header), []⟩ : Api_Batch) := ⟨(.agg #[.int .i64 0, .int .i64 0, .int .i64 0, .slice none 0 0] : Value), by kernel_rfl, fun F => cells_cast (by kernel_rfl) (z_kApi_Batch F)⟩
theorem z_kApi_Window (F : Fz) : Kd.rd kApi_Window F ([.int .i64 0] ++ [.slice none 0 0] ++ []) (⟨(0 : Int), []⟩ : Api_Window) := ⟨[.int .i64 0], _, rfl, rfl, ⟨[.slice none 0 0], _, rfl, ⟨none, 0, rfl, Nat.le_refl _, .inl rfl⟩, rfl⟩⟩
theorem ZT27 : ZT Tryz.prog 27 kApi_Window (⟨(0 : Int), []⟩ : Api_Window) := ⟨(.agg #[.int .i64 0, .slice none 0 0] : Value), by kernel_rfl, fun F => cells_cast (by kernel_rfl) (z_kApi_Window F)⟩
theorem fb24k : fldB Tryz.prog 24 0 = some (offF kApi_ConfigF 0, 0 + 1) := by kernel_rfl
theorem kt22 : KT Tryz.prog 22 (kSl (kInt .u8)) := ⟨by kernel_rfl, by kernel_rfl⟩
theorem fb24k1 : fldB Tryz.prog 24 1 = some (offF kApi_ConfigF 1, 0 + 1) := by kernel_rfl
theorem kt3 : KT Tryz.prog 3 (kInt .i64) := ⟨by kernel_rfl, by kernel_rfl⟩
theorem runj_4 {P : Program} {ops : Array Oper} {rest : List Oper} {Q : Exit → Act → World → Prop} {F0 : Fz} {n : Nat} {E : List (Nat × SV)} {L : List Res} {o0 o1 o2 o3 : Oper} (d : Nat) (e : Bool) (k : Under F0 n ((d, .raw (.bool e)) :: E) L (wpList P ops Q rest)) (h : Under F0 n ((d, .raw (.bool e)) :: E) L (wpList P ops Q rest) → Under F0 n E L (wpList P ops Q (o0 :: o1 :: o2 :: o3 :: rest))) : Under F0 n E L (wpList P ops Q (o0 :: o1 :: o2 :: o3 :: rest)) := h k
theorem runj_4q {P : Program} {ops : Array Oper} {rest : List Oper} {C : World → Prop} {Qa : Act → Prop} {F0 : Fz} {n : Nat} {E : List (Nat × SV)} {o0 o1 o2 o3 : Oper} (d : Nat) (e : Bool) (k : UnderQ F0 n ((d, .raw (.bool e)) :: E) (wpQuiet P ops C Qa rest)) (h : UnderQ F0 n ((d, .raw (.bool e)) :: E) (wpQuiet P ops C Qa rest) → UnderQ F0 n E (wpQuiet P ops C Qa (o0 :: o1 :: o2 :: o3 :: rest))) : UnderQ F0 n E (wpQuiet P ops C Qa (o0 :: o1 :: o2 :: o3 :: rest)) := h k
theorem fb24k2 : fldB Tryz.prog 24 2 = some (offF kApi_ConfigF 2, 0 + 1) := by kernel_rfl
theorem fb24k3 : fldB Tryz.prog 24 3 = some (offF kApi_ConfigF 3, 0 + 1) := by kernel_rfl
theorem fb24k4 : fldB Tryz.prog 24 5 = some (offF kApi_ConfigF 5, 0 + 1) := by kernel_rfl
theorem fb24k5 : fldB Tryz.prog 24 4 = some (offF kApi_ConfigF 4, 0 + 1) := by kernel_rfl
theorem fb24k6 : fldB Tryz.prog 24 6 = some (offF kApi_ConfigF 6, 0 + 1) := by kernel_rfl
theorem fb24k7 : fldB Tryz.prog 24 7 = some (offF kApi_ConfigF 7, 0 + 1) := by kernel_rfl
theorem fb24k8 : fldB Tryz.prog 24 8 = some (offF kApi_ConfigF 8, 0 + 1) := by kernel_rfl
theorem fb24k9 : fldB Tryz.prog 24 9 = some (offF kApi_ConfigF 9, 0 + 1) := by kernel_rfl
theorem fb24k10 : fldB Tryz.prog 24 10 = some (offF kApi_ConfigF 10, 0 + 1) := by kernel_rfl
theorem runj_6 {P : Program} {ops : Array Oper} {rest : List Oper} {Q : Exit → Act → World → Prop} {F0 : Fz} {n : Nat} {E : List (Nat × SV)} {L : List Res} {o0 o1 o2 o3 o4 o5 : Oper} (d : Nat) (e : Bool) (k : Under F0 n ((d, .raw (.bool e)) :: E) L (wpList P ops Q rest)) (h : Under F0 n ((d, .raw (.bool e)) :: E) L (wpList P ops Q rest) → Under F0 n E L (wpList P ops Q (o0 :: o1 :: o2 :: o3 :: o4 :: o5 :: rest))) : Under F0 n E L (wpList P ops Q (o0 :: o1 :: o2 :: o3 :: o4 :: o5 :: rest)) := h k
theorem runj_6q {P : Program} {ops : Array Oper} {rest : List Oper} {C : World → Prop} {Qa : Act → Prop} {F0 : Fz} {n : Nat} {E : List (Nat × SV)} {o0 o1 o2 o3 o4 o5 : Oper} (d : Nat) (e : Bool) (k : UnderQ F0 n ((d, .raw (.bool e)) :: E) (wpQuiet P ops C Qa rest)) (h : UnderQ F0 n ((d, .raw (.bool e)) :: E) (wpQuiet P ops C Qa rest) → UnderQ F0 n E (wpQuiet P ops C Qa (o0 :: o1 :: o2 :: o3 :: o4 :: o5 :: rest))) : UnderQ F0 n E (wpQuiet P ops C Qa (o0 :: o1 :: o2 :: o3 :: o4 :: o5 :: rest)) := h k
theorem fb29k : fldB Tryz.prog 29 0 = some (offF kApi_StateF 0, 0 + 1) := by kernel_rfl
theorem kt2 : KT Tryz.prog 2 (kInt .i64) := ⟨by kernel_rfl, by kernel_rfl⟩
theorem fb29k1 : fldB Tryz.prog 29 1 = some (offF kApi_StateF 1, 1 + 1) := by kernel_rfl
theorem kt27 : KT Tryz.prog 27 kApi_Window := ⟨by kernel_rfl, by kernel_rfl⟩
theorem fb27k : fldB Tryz.prog 27 0 = some (offF kApi_WindowF 0, 0 + 1) := by kernel_rfl
theorem fb27k1 : fldB Tryz.prog 27 1 = some (offF kApi_WindowF 1, 0 + 1) := by kernel_rfl
theorem kt25 : KT Tryz.prog 25 (kSl kApi_Epoch) := ⟨by kernel_rfl, by kernel_rfl⟩
theorem sz152 : (Tryz.prog.info? 152).map (·.size) = some (Kd.n kApi_Epoch) := by kernel_rfl
theorem kt152 : KT Tryz.prog 152 kApi_Epoch := ⟨by kernel_rfl, by kernel_rfl⟩
theorem z_kApi_Epoch (F : Fz) : Kd.rd kApi_Epoch F ([.int .i64 0] ++ [.slice none 0 0] ++ []) (⟨(0 : Int), []⟩ : Api_Epoch) := ⟨[.int .i64 0], _, rfl, rfl, ⟨[.slice none 0 0], _, rfl, ⟨none, 0, rfl, Nat.le_refl _, .inl rfl⟩, rfl⟩⟩
theorem ZT152 : ZT Tryz.prog 152 kApi_Epoch (⟨(0 : Int), []⟩ : Api_Epoch) := ⟨(.agg #[.int .i64 0, .slice none 0 0] : Value), by kernel_rfl, fun F => cells_cast (by kernel_rfl) (z_kApi_Epoch F)⟩
theorem sz152k : (Tryz.prog.info? 152).map (·.size) = some (Kd.n kApi_Epoch) := by kernel_rfl
theorem fb152k : fldB Tryz.prog 152 1 = some (offF kApi_EpochF 1, 0 + 1) := by kernel_rfl
theorem kt85 : KT Tryz.prog 85 (kSl (kArr 16 (kInt .u8))) := ⟨by kernel_rfl, by kernel_rfl⟩
theorem sz64 : (Tryz.prog.info? 64).map (·.size) = some (Kd.n (kArr 16 (kInt .u8))) := by kernel_rfl
theorem kt64 : KT Tryz.prog 64 (kArr 16 (kInt .u8)) := ⟨by kernel_rfl, by kernel_rfl⟩
theorem z_kArr_16_kInt_u8_ (F : Fz) : Kd.rd (kArr 16 (kInt .u8)) F ((List.replicate 16 [.int .u8 0]).flatten) (List.replicate 16 (0 : Int)) := ⟨by simp, rdAll_rep (K := kInt .u8) rfl 16⟩
theorem ZT64 : ZT Tryz.prog 64 (kArr 16 (kInt .u8)) (List.replicate 16 (0 : Int)) := ⟨(.agg (List.replicate 16 (.int .u8 0 : Value)).toArray : Value), by kernel_rfl, fun F => cells_cast (by kernel_rfl) (z_kArr_16_kInt_u8_ F)⟩
theorem sz64k : (Tryz.prog.info? 64).map (·.size) = some (Kd.n (kArr 16 (kInt .u8))) := by kernel_rfl
theorem kt5 : KT Tryz.prog 5 (kInt .u8) := ⟨by kernel_rfl, by kernel_rfl⟩
theorem key64 : KeyK Tryz.prog 64 (kArr 16 (kInt .u8)) := KeyK.ints Tryz.underlying64 Tryz.underlying5 kt5
theorem fb152k1 : fldB Tryz.prog 152 0 = some (offF kApi_EpochF 0, 0 + 1) := by kernel_rfl
theorem runj_11 {P : Program} {ops : Array Oper} {rest : List Oper} {Q : Exit → Act → World → Prop} {F0 : Fz} {n : Nat} {E : List (Nat × SV)} {L : List Res} {o0 o1 o2 o3 o4 o5 o6 o7 o8 o9 o10 : Oper} (d : Nat) (e : Bool) (k : Under F0 n ((d, .raw (.bool e)) :: E) L (wpList P ops Q rest)) (h : Under F0 n ((d, .raw (.bool e)) :: E) L (wpList P ops Q rest) → Under F0 n E L (wpList P ops Q (o0 :: o1 :: o2 :: o3 :: o4 :: o5 :: o6 :: o7 :: o8 :: o9 :: o10 :: rest))) : Under F0 n E L (wpList P ops Q (o0 :: o1 :: o2 :: o3 :: o4 :: o5 :: o6 :: o7 :: o8 :: o9 :: o10 :: rest)) := h k
theorem runj_11q {P : Program} {ops : Array Oper} {rest : List Oper} {C : World → Prop} {Qa : Act → Prop} {F0 : Fz} {n : Nat} {E : List (Nat × SV)} {o0 o1 o2 o3 o4 o5 o6 o7 o8 o9 o10 : Oper} (d : Nat) (e : Bool) (k : UnderQ F0 n ((d, .raw (.bool e)) :: E) (wpQuiet P ops C Qa rest)) (h : UnderQ F0 n ((d, .raw (.bool e)) :: E) (wpQuiet P ops C Qa rest) → UnderQ F0 n E (wpQuiet P ops C Qa (o0 :: o1 :: o2 :: o3 :: o4 :: o5 :: o6 :: o7 :: o8 :: o9 :: o10 :: rest))) : UnderQ F0 n E (wpQuiet P ops C Qa (o0 :: o1 :: o2 :: o3 :: o4 :: o5 :: o6 :: o7 :: o8 :: o9 :: o10 :: rest)) := h k
theorem runj_5 {P : Program} {ops : Array Oper} {rest : List Oper} {Q : Exit → Act → World → Prop} {F0 : Fz} {n : Nat} {E : List (Nat × SV)} {L : List Res} {o0 o1 o2 o3 o4 : Oper} (d : Nat) (e : Bool) (k : Under F0 n ((d, .raw (.bool e)) :: E) L (wpList P ops Q rest)) (h : Under F0 n ((d, .raw (.bool e)) :: E) L (wpList P ops Q rest) → Under F0 n E L (wpList P ops Q (o0 :: o1 :: o2 :: o3 :: o4 :: rest))) : Under F0 n E L (wpList P ops Q (o0 :: o1 :: o2 :: o3 :: o4 :: rest)) := h k
theorem runj_5q {P : Program} {ops : Array Oper} {rest : List Oper} {C : World → Prop} {Qa : Act → Prop} {F0 : Fz} {n : Nat} {E : List (Nat × SV)} {o0 o1 o2 o3 o4 : Oper} (d : Nat) (e : Bool) (k : UnderQ F0 n ((d, .raw (.bool e)) :: E) (wpQuiet P ops C Qa rest)) (h : UnderQ F0 n ((d, .raw (.bool e)) :: E) (wpQuiet P ops C Qa rest) → UnderQ F0 n E (wpQuiet P ops C Qa (o0 :: o1 :: o2 :: o3 :: o4 :: rest))) : UnderQ F0 n E (wpQuiet P ops C Qa (o0 :: o1 :: o2 :: o3 :: o4 :: rest)) := h k
theorem runj_15 {P : Program} {ops : Array Oper} {rest : List Oper} {Q : Exit → Act → World → Prop} {F0 : Fz} {n : Nat} {E : List (Nat × SV)} {L : List Res} {o0 o1 o2 o3 o4 o5 o6 o7 o8 o9 o10 o11 o12 o13 o14 : Oper} (d : Nat) (e : Bool) (k : Under F0 n ((d, .raw (.bool e)) :: E) L (wpList P ops Q rest)) (h : Under F0 n ((d, .raw (.bool e)) :: E) L (wpList P ops Q rest) → Under F0 n E L (wpList P ops Q (o0 :: o1 :: o2 :: o3 :: o4 :: o5 :: o6 :: o7 :: o8 :: o9 :: o10 :: o11 :: o12 :: o13 :: o14 :: rest))) : Under F0 n E L (wpList P ops Q (o0 :: o1 :: o2 :: o3 :: o4 :: o5 :: o6 :: o7 :: o8 :: o9 :: o10 :: o11 :: o12 :: o13 :: o14 :: rest)) := h k
theorem runj_15q {P : Program} {ops : Array Oper} {rest : List Oper} {C : World → Prop} {Qa : Act → Prop} {F0 : Fz} {n : Nat} {E : List (Nat × SV)} {o0 o1 o2 o3 o4 o5 o6 o7 o8 o9 o10 o11 o12 o13 o14 : Oper} (d : Nat) (e : Bool) (k : UnderQ F0 n ((d, .raw (.bool e)) :: E) (wpQuiet P ops C Qa rest)) (h : UnderQ F0 n ((d, .raw (.bool e)) :: E) (wpQuiet P ops C Qa rest) → UnderQ F0 n E (wpQuiet P ops C Qa (o0 :: o1 :: o2 :: o3 :: o4 :: o5 :: o6 :: o7 :: o8 :: o9 :: o10 :: o11 :: o12 :: o13 :: o14 :: rest))) : UnderQ F0 n E (wpQuiet P ops C Qa (o0 :: o1 :: o2 :: o3 :: o4 :: o5 :: o6 :: o7 :: o8 :: o9 :: o10 :: o11 :: o12 :: o13 :: o14 :: rest)) := h k
theorem runj_8 {P : Program} {ops : Array Oper} {rest : List Oper} {Q : Exit → Act → World → Prop} {F0 : Fz} {n : Nat} {E : List (Nat × SV)} {L : List Res} {o0 o1 o2 o3 o4 o5 o6 o7 : Oper} (d : Nat) (e : Bool) (k : Under F0 n ((d, .raw (.bool e)) :: E) L (wpList P ops Q rest)) (h : Under F0 n ((d, .raw (.bool e)) :: E) L (wpList P ops Q rest) → Under F0 n E L (wpList P ops Q (o0 :: o1 :: o2 :: o3 :: o4 :: o5 :: o6 :: o7 :: rest))) : Under F0 n E L (wpList P ops Q (o0 :: o1 :: o2 :: o3 :: o4 :: o5 :: o6 :: o7 :: rest)) := h k
theorem runj_8q {P : Program} {ops : Array Oper} {rest : List Oper} {C : World → Prop} {Qa : Act → Prop} {F0 : Fz} {n : Nat} {E : List (Nat × SV)} {o0 o1 o2 o3 o4 o5 o6 o7 : Oper} (d : Nat) (e : Bool) (k : UnderQ F0 n ((d, .raw (.bool e)) :: E) (wpQuiet P ops C Qa rest)) (h : UnderQ F0 n ((d, .raw (.bool e)) :: E) (wpQuiet P ops C Qa rest) → UnderQ F0 n E (wpQuiet P ops C Qa (o0 :: o1 :: o2 :: o3 :: o4 :: o5 :: o6 :: o7 :: rest))) : UnderQ F0 n E (wpQuiet P ops C Qa (o0 :: o1 :: o2 :: o3 :: o4 :: o5 :: o6 :: o7 :: rest)) := h k
theorem sz5 : (Tryz.prog.info? 5).map (·.size) = some (Kd.n (kInt .u8)) := by kernel_rfl
theorem nx230 : Extern.findNext Tryz.f230 = none := by kernel_rfl
theorem fd230 : Extern.find Tryz.f230 = some Extern.BytealgCompare.compare := by kernel_rfl
theorem nb230 : Tryz.f230.body.isNone = true := by kernel_rfl
theorem nn230 : (Tryz.f230.name == "runtime.NumGoroutine") = false := by kernel_rfl
theorem runj_3 {P : Program} {ops : Array Oper} {rest : List Oper} {Q : Exit → Act → World → Prop} {F0 : Fz} {n : Nat} {E : List (Nat × SV)} {L : List Res} {o0 o1 o2 : Oper} (d : Nat) (e : Bool) (k : Under F0 n ((d, .raw (.bool e)) :: E) L (wpList P ops Q rest)) (h : Under F0 n ((d, .raw (.bool e)) :: E) L (wpList P ops Q rest) → Under F0 n E L (wpList P ops Q (o0 :: o1 :: o2 :: rest))) : Under F0 n E L (wpList P ops Q (o0 :: o1 :: o2 :: rest)) := h k
theorem runj_3q {P : Program} {ops : Array Oper} {rest : List Oper} {C : World → Prop} {Qa : Act → Prop} {F0 : Fz} {n : Nat} {E : List (Nat × SV)} {o0 o1 o2 : Oper} (d : Nat) (e : Bool) (k : UnderQ F0 n ((d, .raw (.bool e)) :: E) (wpQuiet P ops C Qa rest)) (h : UnderQ F0 n ((d, .raw (.bool e)) :: E) (wpQuiet P ops C Qa rest) → UnderQ F0 n E (wpQuiet P ops C Qa (o0 :: o1 :: o2 :: rest))) : UnderQ F0 n E (wpQuiet P ops C Qa (o0 :: o1 :: o2 :: rest)) := h k
theorem runj_9 {P : Program} {ops : Array Oper} {rest : List Oper} {Q : Exit → Act → World → Prop} {F0 : Fz} {n : Nat} {E : List (Nat × SV)} {L : List Res} {o0 o1 o2 o3 o4 o5 o6 o7 o8 : Oper} (d : Nat) (e : Bool) (k : Under F0 n ((d, .raw (.bool e)) :: E) L (wpList P ops Q rest)) (h : Under F0 n ((d, .raw (.bool e)) :: E) L (wpList P ops Q rest) → Under F0 n E L (wpList P ops Q (o0 :: o1 :: o2 :: o3 :: o4 :: o5 :: o6 :: o7 :: o8 :: rest))) : Under F0 n E L (wpList P ops Q (o0 :: o1 :: o2 :: o3 :: o4 :: o5 :: o6 :: o7 :: o8 :: rest)) := h k
theorem runj_9q {P : Program} {ops : Array Oper} {rest : List Oper} {C : World → Prop} {Qa : Act → Prop} {F0 : Fz} {n : Nat} {E : List (Nat × SV)} {o0 o1 o2 o3 o4 o5 o6 o7 o8 : Oper} (d : Nat) (e : Bool) (k : UnderQ F0 n ((d, .raw (.bool e)) :: E) (wpQuiet P ops C Qa rest)) (h : UnderQ F0 n ((d, .raw (.bool e)) :: E) (wpQuiet P ops C Qa rest) → UnderQ F0 n E (wpQuiet P ops C Qa (o0 :: o1 :: o2 :: o3 :: o4 :: o5 :: o6 :: o7 :: o8 :: rest))) : UnderQ F0 n E (wpQuiet P ops C Qa (o0 :: o1 :: o2 :: o3 :: o4 :: o5 :: o6 :: o7 :: o8 :: rest)) := h k
theorem kt46 : KT Tryz.prog 46 kApi_Batch := ⟨by kernel_rfl, by kernel_rfl⟩
theorem BT27 : BT Tryz.prog 27 kApi_WindowF (⟨(0 : Int), []⟩ : Api_Window) := ⟨⟨Tryz.t27, (.agg #[.int .i64 0, .slice none 0 0] : Value), _, [(0, 1), (1, 1)], by kernel_rfl, by kernel_rfl, Tryz.underlying27, by kernel_rfl, fun i f h => match i, f, h with
    | 0, f, h => by cases h; rfl
    | 1, f, h => by cases h; rfl
    | (_ + 2), f, h => by simp [kApi_WindowF] at h, fun F => cells_castF (by kernel_rfl) (z_kApi_Window F)⟩⟩
theorem sz46k : (Tryz.prog.info? 46).map (·.size) = some (Kd.n kApi_Batch) := by kernel_rfl
theorem sz27k : (Tryz.prog.info? 27).map (·.size) = some (Kd.n kApi_Window) := by kernel_rfl
theorem z_kFrame_sum (F : Fz) : Kd.rd kFrame_sum F ([.int .u32 0] ++ [.int .u32 0] ++ []) (⟨(0 : Int), (0 : Int)⟩ : Frame_sum) := ⟨[.int .u32 0], _, rfl, rfl, ⟨[.int .u32 0], _, rfl, rfl, rfl⟩⟩
theorem BT144 : BT Tryz.prog 144 kFrame_sumF (⟨(0 : Int), (0 : Int)⟩ : Frame_sum) := ⟨⟨Tryz.t144, (.agg #[.int .u32 0, .int .u32 0] : Value), _, [(0, 1), (1, 1)], by kernel_rfl, by kernel_rfl, Tryz.underlying144, by kernel_rfl, fun i f h => match i, f, h with
    | 0, f, h => by cases h; rfl
    | 1, f, h => by cases h; rfl
    | (_ + 2), f, h => by simp [kFrame_sumF] at h, fun F => cells_castF (by kernel_rfl) (z_kFrame_sum F)⟩⟩
theorem z_kFrame_Feed_r0 (F : Fz) : Kd.rd kFrame_Feed_r0 F ([.slice none 0 0] ++ [.int .i64 0] ++ [.int .i64 0] ++ [.int .i64 0] ++ ([.int .i64 0] ++ [.int .i64 0] ++ [.int .i64 0] ++ []) ++ ([.int .u32 0] ++ [.int .u32 0] ++ []) ++ [.int .i64 0] ++ [.int .i64 0] ++ []) (⟨(.slice none 0 0), (0 : Int), (0 : Int), (0 : Int), (⟨(0 : Int), (0 : Int), (0 : Int)⟩ : Api_Header), (⟨(0 : Int), (0 : Int)⟩ : Frame_sum), (0 : Int), (0 : Int)⟩ : Frame_Feed_r0) := ⟨[.slice none 0 0], _, rfl, ⟨rfl, rfl⟩, ⟨[.int .i64 0], _, rfl, rfl, ⟨[.int .i64 0], _, rfl, rfl, ⟨[.int .i64 0], _, rfl, rfl, ⟨([.int .i64 0] ++ [.int .i64 0] ++ [.int .i64 0] ++ []), _, rfl, ⟨[.int .i64 0], _, rfl, rfl, ⟨[.int .i64 0], _, rfl, rfl, ⟨[.int .i64 0], _, rfl, rfl, rfl⟩⟩⟩, ⟨([.int .u32 0] ++ [.int .u32 0] ++ []), _, rfl, ⟨[.int .u32 0], _, rfl, rfl, ⟨[.int .u32 0], _, rfl, rfl, rfl⟩⟩, ⟨[.int .i64 0], _, rfl, rfl, ⟨[.int .i64 0], _, rfl, rfl, rfl⟩⟩⟩⟩⟩⟩⟩⟩
theorem BT146_Frame_Feed_r0 : BT Tryz.prog 146 kFrame_Feed_r0F (⟨(.slice none 0 0), (0 : Int), (0 : Int), (0 : Int), (⟨(0 : Int), (0 : Int), (0 : Int)⟩ : Api_Header), (⟨(0 : Int), (0 : Int)⟩ : Frame_sum), (0 : Int), (0 : Int)⟩ : Frame_Feed_r0) := ⟨⟨Tryz.t146, (.agg (List.replicate 1 (.slice none 0 0 : Value) ++ List.replicate 6 (.int .i64 0 : Value) ++ List.replicate 2 (.int .u32 0 : Value) ++ List.replicate 2 (.int .i64 0 : Value)).toArray : Value), _, [(0, 1), (1, 1), (2, 1), (3, 1), (4, 3), (7, 2), (9, 1), (10, 1)], by kernel_rfl, by kernel_rfl, Tryz.underlying146, by kernel_rfl, fun i f h => match i, f, h with
    | 0, f, h => by cases h; rfl
    | 1, f, h => by cases h; rfl
    | 2, f, h => by cases h; rfl
    | 3, f, h => by cases h; rfl
    | 4, f, h => by cases h; rfl
    | 5, f, h => by cases h; rfl
    | 6, f, h => by cases h; rfl
    | 7, f, h => by cases h; rfl
    | (_ + 8), f, h => by simp [kFrame_Feed_r0F] at h, fun F => cells_castF (by kernel_rfl) (z_kFrame_Feed_r0 F)⟩⟩
theorem fm146_6 : fldB Tryz.prog 146 6 = some (9, 0 + 1) := by kernel_rfl
theorem uf_Frame_Feed_r0_6 : UpF kFrame_Feed_r0F 6 ⟨kInt .i64, Frame_Feed_r0.err⟩ (fun x y => { x with err := y }) := ⟨rfl, fun _ _ => rfl, fun _ _ => ⟨rfl, ⟨rfl, ⟨rfl, ⟨rfl, ⟨rfl, ⟨rfl, (by intro q hq; simp only [List.mem_cons, List.not_mem_nil, or_false] at hq; rcases hq with rfl <;> rfl)⟩⟩⟩⟩⟩⟩⟩
theorem kt35k : KT Tryz.prog 35 (kInt .i64) := ⟨by kernel_rfl, by kernel_rfl⟩
theorem z_kArr_10_kInt_i64_ (F : Fz) : Kd.rd (kArr 10 (kInt .i64)) F ((List.replicate 10 [.int .i64 0]).flatten) (List.replicate 10 (0 : Int)) := ⟨by simp, rdAll_rep (K := kInt .i64) rfl 10⟩
theorem BTA273 : BTA Tryz.prog 273 10 (kInt .i64) (List.replicate 10 (0 : Int)) := ⟨⟨Tryz.t273, (.agg (List.replicate 10 (.int .i64 0 : Value)).toArray : Value), _, Tryz.t3, by kernel_rfl, by kernel_rfl, Tryz.underlying273, by kernel_rfl, by kernel_rfl, by simp, fun F => cells_castA (by kernel_rfl) (z_kArr_10_kInt_i64_ F).2⟩⟩
theorem fm146_2 : fldB Tryz.prog 146 2 = some (2, 0 + 1) := by kernel_rfl
theorem uf_Frame_Feed_r0_2 : UpF kFrame_Feed_r0F 2 ⟨kInt .i64, Frame_Feed_r0.stage⟩ (fun x y => { x with stage := y }) := ⟨rfl, fun _ _ => rfl, fun _ _ => ⟨rfl, ⟨rfl, (by intro q hq; simp only [List.mem_cons, List.not_mem_nil, or_false] at hq; rcases hq with rfl | rfl | rfl | rfl | rfl <;> rfl)⟩⟩⟩
theorem kt3k : KT Tryz.prog 3 (kInt .i64) := ⟨by kernel_rfl, by kernel_rfl⟩
theorem fm146_0 : fldB Tryz.prog 146 0 = some (0, 0 + 1) := by kernel_rfl
theorem uf_Frame_Feed_r0_0 : UpF kFrame_Feed_r0F 0 ⟨kRaw, Frame_Feed_r0.field⟩ (fun x y => { x with field := y }) := ⟨rfl, fun _ _ => rfl, fun _ _ => (by intro q hq; simp only [List.mem_cons, List.not_mem_nil, or_false] at hq; rcases hq with rfl | rfl | rfl | rfl | rfl | rfl | rfl <;> rfl)⟩
theorem kt22k : KT Tryz.prog 22 kRaw := ⟨by kernel_rfl, by kernel_rfl⟩
theorem sz22k : (Tryz.prog.info? 22).map (·.size) = some (Kd.n kRaw) := by kernel_rfl
theorem fm146_1 : fldB Tryz.prog 146 1 = some (1, 0 + 1) := by kernel_rfl
theorem uf_Frame_Feed_r0_1 : UpF kFrame_Feed_r0F 1 ⟨kInt .i64, Frame_Feed_r0.at_⟩ (fun x y => { x with at_ := y }) := ⟨rfl, fun _ _ => rfl, fun _ _ => ⟨rfl, (by intro q hq; simp only [List.mem_cons, List.not_mem_nil, or_false] at hq; rcases hq with rfl | rfl | rfl | rfl | rfl | rfl <;> rfl)⟩⟩
theorem sz3k : (Tryz.prog.info? 3).map (·.size) = some (Kd.n (kInt .i64)) := by kernel_rfl
theorem z_kSl_kInt_u8_ (F : Fz) : Kd.rd (kSl (kInt .u8)) F [.slice none 0 0] [] := ⟨none, 0, rfl, Nat.le_refl _, .inl rfl⟩
theorem ET22 : ET Tryz.prog 22 (kSl (kInt .u8)) [] := ⟨⟨Tryz.t22, (.slice none 0 0 : Value), by kernel_rfl, by kernel_rfl, by kernel_rfl, by decide, fun F => cells_cast (by kernel_rfl) (z_kSl_kInt_u8_ F)⟩⟩
theorem AT22 : AT Tryz.prog 22 (kSl (kInt .u8)) [] 24 := ⟨⟨Tryz.t22, (.slice none 0 0 : Value), by kernel_rfl, by kernel_rfl, by kernel_rfl, by kernel_rfl, by decide, by decide, fun F => cells_cast (by kernel_rfl) (z_kSl_kInt_u8_ F)⟩⟩
theorem fm146_5 : fldB Tryz.prog 146 5 = some (7, 1 + 1) := by kernel_rfl
theorem uf_Frame_Feed_r0_5 : UpF kFrame_Feed_r0F 5 ⟨kFrame_sum, Frame_Feed_r0.sum⟩ (fun x y => { x with sum := y }) := ⟨rfl, fun _ _ => rfl, fun _ _ => ⟨rfl, ⟨rfl, ⟨rfl, ⟨rfl, ⟨rfl, (by intro q hq; simp only [List.mem_cons, List.not_mem_nil, or_false] at hq; rcases hq with rfl | rfl <;> rfl)⟩⟩⟩⟩⟩⟩
theorem kt144k : KT Tryz.prog 144 kFrame_sum := ⟨by kernel_rfl, by kernel_rfl⟩
theorem fb144k : fldB Tryz.prog 144 1 = some (offF kFrame_sumF 1, 0 + 1) := by kernel_rfl
theorem kt142 : KT Tryz.prog 142 (kInt .u32) := ⟨by kernel_rfl, by kernel_rfl⟩
theorem fb144k1 : fldB Tryz.prog 144 0 = some (offF kFrame_sumF 0, 0 + 1) := by kernel_rfl
theorem ZT144 : ZT Tryz.prog 144 kFrame_sum (⟨(0 : Int), (0 : Int)⟩ : Frame_sum) := ⟨(.agg #[.int .u32 0, .int .u32 0] : Value), by kernel_rfl, fun F => cells_cast (by kernel_rfl) (z_kFrame_sum F)⟩
theorem fm144_0 : fldB Tryz.prog 144 0 = some (0, 0 + 1) := by kernel_rfl
theorem uf_Frame_sum_0 : UpF kFrame_sumF 0 ⟨kInt .u32, Frame_sum.a⟩ (fun x y => { x with a := y }) := ⟨rfl, fun _ _ => rfl, fun _ _ => (by intro q hq; simp only [List.mem_cons, List.not_mem_nil, or_false] at hq; rcases hq with rfl <;> rfl)⟩
theorem kt142k : KT Tryz.prog 142 (kInt .u32) := ⟨by kernel_rfl, by kernel_rfl⟩
theorem sz142k : (Tryz.prog.info? 142).map (·.size) = some (Kd.n (kInt .u32)) := by kernel_rfl
theorem fm144_1 : fldB Tryz.prog 144 1 = some (1, 0 + 1) := by kernel_rfl
theorem uf_Frame_sum_1 : UpF kFrame_sumF 1 ⟨kInt .u32, Frame_sum.b⟩ (fun x y => { x with b := y }) := ⟨rfl, fun _ _ => rfl, fun _ _ => ⟨rfl, (fun q hq => by simp at hq)⟩⟩
theorem kt144 : KT Tryz.prog 144 kFrame_sum := ⟨by kernel_rfl, by kernel_rfl⟩
theorem sz144k : (Tryz.prog.info? 144).map (·.size) = some (Kd.n kFrame_sum) := by kernel_rfl
abbrev str0 : ByteArray := ⟨#[67, 72, 82, 78]⟩
theorem str0_rd : rdOf (.raw (.string str0)) kStr [67, 72, 82, 78] := rdS (by kernel_rfl)
theorem sz5k : (Tryz.prog.info? 5).map (·.size) = some (Kd.n (kInt .u8)) := by kernel_rfl
theorem kt5k : KT Tryz.prog 5 (kInt .u8) := ⟨by kernel_rfl, by kernel_rfl⟩
theorem fm146_4 : fldB Tryz.prog 146 4 = some (4, 2 + 1) := by kernel_rfl
theorem fm43_2 : fldB Tryz.prog 43 2 = some (2, 0 + 1) := by kernel_rfl
theorem uf_Frame_Feed_r0_4 : UpF kFrame_Feed_r0F 4 ⟨kApi_Header, Frame_Feed_r0.header⟩ (fun x y => { x with header := y }) := ⟨rfl, fun _ _ => rfl, fun _ _ => ⟨rfl, ⟨rfl, ⟨rfl, ⟨rfl, (by intro q hq; simp only [List.mem_cons, List.not_mem_nil, or_false] at hq; rcases hq with rfl | rfl | rfl <;> rfl)⟩⟩⟩⟩⟩
theorem uf_Api_Header_2 : UpF kApi_HeaderF 2 ⟨kInt .i64, Api_Header.Left⟩ (fun x y => { x with Left := y }) := ⟨rfl, fun _ _ => rfl, fun _ _ => ⟨rfl, ⟨rfl, (fun q hq => by simp at hq)⟩⟩⟩
theorem fm146_3 : fldB Tryz.prog 146 3 = some (3, 0 + 1) := by kernel_rfl
theorem uf_Frame_Feed_r0_3 : UpF kFrame_Feed_r0F 3 ⟨kInt .i64, Frame_Feed_r0.left⟩ (fun x y => { x with left := y }) := ⟨rfl, fun _ _ => rfl, fun _ _ => ⟨rfl, ⟨rfl, ⟨rfl, (by intro q hq; simp only [List.mem_cons, List.not_mem_nil, or_false] at hq; rcases hq with rfl | rfl | rfl | rfl <;> rfl)⟩⟩⟩⟩
theorem fm43_0 : fldB Tryz.prog 43 0 = some (0, 0 + 1) := by kernel_rfl
theorem uf_Api_Header_0 : UpF kApi_HeaderF 0 ⟨kInt .i64, Api_Header.Round⟩ (fun x y => { x with Round := y }) := ⟨rfl, fun _ _ => rfl, fun _ _ => (by intro q hq; simp only [List.mem_cons, List.not_mem_nil, or_false] at hq; rcases hq with rfl | rfl <;> rfl)⟩
theorem sz2k : (Tryz.prog.info? 2).map (·.size) = some (Kd.n (kInt .i64)) := by kernel_rfl
theorem fm43_1 : fldB Tryz.prog 43 1 = some (1, 0 + 1) := by kernel_rfl
theorem uf_Api_Header_1 : UpF kApi_HeaderF 1 ⟨kInt .i64, Api_Header.Epoch⟩ (fun x y => { x with Epoch := y }) := ⟨rfl, fun _ _ => rfl, fun _ _ => ⟨rfl, (by intro q hq; simp only [List.mem_cons, List.not_mem_nil, or_false] at hq; rcases hq with rfl <;> rfl)⟩⟩
theorem sz35k : (Tryz.prog.info? 35).map (·.size) = some (Kd.n (kInt .i64)) := by kernel_rfl
theorem fm146_7 : fldB Tryz.prog 146 7 = some (10, 0 + 1) := by kernel_rfl
theorem uf_Frame_Feed_r0_7 : UpF kFrame_Feed_r0F 7 ⟨kInt .i64, Frame_Feed_r0.place⟩ (fun x y => { x with place := y }) := ⟨rfl, fun _ _ => rfl, fun _ _ => ⟨rfl, ⟨rfl, ⟨rfl, ⟨rfl, ⟨rfl, ⟨rfl, ⟨rfl, (fun q hq => by simp at hq)⟩⟩⟩⟩⟩⟩⟩⟩
theorem kt43k : KT Tryz.prog 43 kApi_Header := ⟨by kernel_rfl, by kernel_rfl⟩
theorem BT46 : BT Tryz.prog 46 kApi_BatchF (⟨(⟨(0 : Int), (0 : Int), (0 : Int)⟩ : Api_Header), []⟩ : Api_Batch) := ⟨⟨Tryz.t46, (.agg #[.int .i64 0, .int .i64 0, .int .i64 0, .slice none 0 0] : Value), _, [(0, 3), (3, 1)], by kernel_rfl, by kernel_rfl, Tryz.underlying46, by kernel_rfl, fun i f h => match i, f, h with
    | 0, f, h => by cases h; rfl
    | 1, f, h => by cases h; rfl
    | (_ + 2), f, h => by simp [kApi_BatchF] at h, fun F => cells_castF (by kernel_rfl) (z_kApi_Batch F)⟩⟩
theorem fb46k : fldB Tryz.prog 46 0 = some (offF kApi_BatchF 0, 2 + 1) := by kernel_rfl
theorem fb43k : fldB Tryz.prog 43 2 = some (offF kApi_HeaderF 2, 0 + 1) := by kernel_rfl
theorem fb43k1 : fldB Tryz.prog 43 0 = some (offF kApi_HeaderF 0, 0 + 1) := by kernel_rfl
theorem fb43k2 : fldB Tryz.prog 43 1 = some (offF kApi_HeaderF 1, 0 + 1) := by kernel_rfl
theorem z_kApi_Window_r1 (F : Fz) : Kd.rd kApi_Window_r1 F ([.int .i64 0] ++ [.slice none 0 0] ++ []) (⟨(0 : Int), (.slice none 0 0)⟩ : Api_Window_r1) := ⟨[.int .i64 0], _, rfl, rfl, ⟨[.slice none 0 0], _, rfl, ⟨rfl, rfl⟩, rfl⟩⟩
theorem BT27_Api_Window_r1 : BT Tryz.prog 27 kApi_Window_r1F (⟨(0 : Int), (.slice none 0 0)⟩ : Api_Window_r1) := ⟨⟨Tryz.t27, (.agg #[.int .i64 0, .slice none 0 0] : Value), _, [(0, 1), (1, 1)], by kernel_rfl, by kernel_rfl, Tryz.underlying27, by kernel_rfl, fun i f h => match i, f, h with
    | 0, f, h => by cases h; rfl
    | 1, f, h => by cases h; rfl
    | (_ + 2), f, h => by simp [kApi_Window_r1F] at h, fun F => cells_castF (by kernel_rfl) (z_kApi_Window_r1 F)⟩⟩
theorem ZT27k : ZT Tryz.prog 27 kApi_Window_r1 (⟨(0 : Int), (.slice none 0 0)⟩ : Api_Window_r1) := ⟨(.agg #[.int .i64 0, .slice none 0 0] : Value), by kernel_rfl, fun F => cells_cast (by kernel_rfl) (z_kApi_Window_r1 F)⟩
theorem sz27k1 : (Tryz.prog.info? 27).map (·.size) = some (Kd.n kApi_Window_r1) := by kernel_rfl
theorem fm27_0 : fldB Tryz.prog 27 0 = some (0, 0 + 1) := by kernel_rfl
theorem uf_Api_Window_r1_0 : UpF kApi_Window_r1F 0 ⟨kInt .i64, Api_Window_r1.Newest⟩ (fun x y => { x with Newest := y }) := ⟨rfl, fun _ _ => rfl, fun _ _ => (by intro q hq; simp only [List.mem_cons, List.not_mem_nil, or_false] at hq; rcases hq with rfl <;> rfl)⟩
theorem kt2k : KT Tryz.prog 2 (kInt .i64) := ⟨by kernel_rfl, by kernel_rfl⟩
theorem fm27_1 : fldB Tryz.prog 27 1 = some (1, 0 + 1) := by kernel_rfl
theorem uf_Api_Window_r1_1 : UpF kApi_Window_r1F 1 ⟨kRaw, Api_Window_r1.Epochs⟩ (fun x y => { x with Epochs := y }) := ⟨rfl, fun _ _ => rfl, fun _ _ => ⟨rfl, (fun q hq => by simp at hq)⟩⟩
theorem kt25k : KT Tryz.prog 25 kRaw := ⟨by kernel_rfl, by kernel_rfl⟩
theorem ET64 : ET Tryz.prog 64 (kArr 16 (kInt .u8)) (List.replicate 16 (0 : Int)) := ⟨⟨Tryz.t64, (.agg (List.replicate 16 (.int .u8 0 : Value)).toArray : Value), by kernel_rfl, by kernel_rfl, by kernel_rfl, by decide, fun F => cells_cast (by kernel_rfl) (z_kArr_16_kInt_u8_ F)⟩⟩
theorem AT64 : AT Tryz.prog 64 (kArr 16 (kInt .u8)) (List.replicate 16 (0 : Int)) 16 := ⟨⟨Tryz.t64, (.agg (List.replicate 16 (.int .u8 0 : Value)).toArray : Value), by kernel_rfl, by kernel_rfl, by kernel_rfl, by kernel_rfl, by decide, by decide, fun F => cells_cast (by kernel_rfl) (z_kArr_16_kInt_u8_ F)⟩⟩
theorem BT152 : BT Tryz.prog 152 kApi_EpochF (⟨(0 : Int), []⟩ : Api_Epoch) := ⟨⟨Tryz.t152, (.agg #[.int .i64 0, .slice none 0 0] : Value), _, [(0, 1), (1, 1)], by kernel_rfl, by kernel_rfl, Tryz.underlying152, by kernel_rfl, fun i f h => match i, f, h with
    | 0, f, h => by cases h; rfl
    | 1, f, h => by cases h; rfl
    | (_ + 2), f, h => by simp [kApi_EpochF] at h, fun F => cells_castF (by kernel_rfl) (z_kApi_Epoch F)⟩⟩
theorem ET152 : ET Tryz.prog 152 kApi_Epoch (⟨(0 : Int), []⟩ : Api_Epoch) := ⟨⟨Tryz.t152, (.agg #[.int .i64 0, .slice none 0 0] : Value), by kernel_rfl, by kernel_rfl, by kernel_rfl, by decide, fun F => cells_cast (by kernel_rfl) (z_kApi_Epoch F)⟩⟩
theorem AT152 : AT Tryz.prog 152 kApi_Epoch (⟨(0 : Int), []⟩ : Api_Epoch) 32 := ⟨⟨Tryz.t152, (.agg #[.int .i64 0, .slice none 0 0] : Value), by kernel_rfl, by kernel_rfl, by kernel_rfl, by kernel_rfl, by decide, by decide, fun F => cells_cast (by kernel_rfl) (z_kApi_Epoch F)⟩⟩
theorem sz25k : (Tryz.prog.info? 25).map (·.size) = some (Kd.n kRaw) := by kernel_rfl
theorem ZT29 : ZT Tryz.prog 29 kApi_State (⟨(0 : Int), (⟨(0 : Int), []⟩ : Api_Window)⟩ : Api_State) := ⟨(.agg #[.int .i64 0, .int .i64 0, .slice none 0 0] : Value), by kernel_rfl, fun F => cells_cast (by kernel_rfl) (z_kApi_State F)⟩
theorem fm29_1 : fldB Tryz.prog 29 1 = some (1, 1 + 1) := by kernel_rfl
theorem uf_Api_State_1 : UpF kApi_StateF 1 ⟨kApi_Window, Api_State.Window⟩ (fun x y => { x with Window := y }) := ⟨rfl, fun _ _ => rfl, fun _ _ => ⟨rfl, (fun q hq => by simp at hq)⟩⟩
theorem uf_Api_Window_1 : UpF kApi_WindowF 1 ⟨kSl kApi_Epoch, Api_Window.Epochs⟩ (fun x y => { x with Epochs := y }) := ⟨rfl, fun _ _ => rfl, fun _ _ => ⟨rfl, (fun q hq => by simp at hq)⟩⟩
theorem kt25k1 : KT Tryz.prog 25 (kSl kApi_Epoch) := ⟨by kernel_rfl, by kernel_rfl⟩
theorem uf_Api_State_r1x1_1 : UpF kApi_State_r1x1F 1 ⟨kApi_Window_r1, Api_State_r1x1.Window⟩ (fun x y => { x with Window := y }) := ⟨rfl, fun _ _ => rfl, fun _ _ => ⟨rfl, (fun q hq => by simp at hq)⟩⟩
theorem fm152_1 : fldB Tryz.prog 152 1 = some (1, 0 + 1) := by kernel_rfl
theorem uf_Api_Epoch_1 : UpF kApi_EpochF 1 ⟨kSl (kArr 16 (kInt .u8)), Api_Epoch.Tags⟩ (fun x y => { x with Tags := y }) := ⟨rfl, fun _ _ => rfl, fun _ _ => ⟨rfl, (fun q hq => by simp at hq)⟩⟩
theorem kt85k : KT Tryz.prog 85 (kSl (kArr 16 (kInt .u8))) := ⟨by kernel_rfl, by kernel_rfl⟩
theorem sz85k : (Tryz.prog.info? 85).map (·.size) = some (Kd.n (kSl (kArr 16 (kInt .u8)))) := by kernel_rfl
theorem sz29k : (Tryz.prog.info? 29).map (·.size) = some (Kd.n kApi_State) := by kernel_rfl
theorem BT37 : BT Tryz.prog 37 kApi_OutcomeF (⟨[], (⟨(0 : Int), (⟨(0 : Int), []⟩ : Api_Window)⟩ : Api_State), (⟨(0 : Int), (0 : Int), (0 : Int), (0 : Int), (0 : Int)⟩ : Api_Report), (0 : Int), (0 : Int)⟩ : Api_Outcome) := ⟨⟨Tryz.t37, (.agg (List.replicate 1 (.slice none 0 0 : Value) ++ List.replicate 2 (.int .i64 0 : Value) ++ List.replicate 1 (.slice none 0 0 : Value) ++ List.replicate 7 (.int .i64 0 : Value)).toArray : Value), _, [(0, 1), (1, 3), (4, 5), (9, 1), (10, 1)], by kernel_rfl, by kernel_rfl, Tryz.underlying37, by kernel_rfl, fun i f h => match i, f, h with
    | 0, f, h => by cases h; rfl
    | 1, f, h => by cases h; rfl
    | 2, f, h => by cases h; rfl
    | 3, f, h => by cases h; rfl
    | 4, f, h => by cases h; rfl
    | (_ + 5), f, h => by simp [kApi_OutcomeF] at h, fun F => cells_castF (by kernel_rfl) (z_kApi_Outcome F)⟩⟩
theorem sz37k : (Tryz.prog.info? 37).map (·.size) = some (Kd.n kApi_Outcome) := by kernel_rfl
theorem kt37 : KT Tryz.prog 37 kApi_Outcome := ⟨by kernel_rfl, by kernel_rfl⟩
theorem kt27k : KT Tryz.prog 27 kApi_Window := ⟨by kernel_rfl, by kernel_rfl⟩
theorem z_kApi_Report (F : Fz) : Kd.rd kApi_Report F ([.int .i64 0] ++ [.int .i64 0] ++ [.int .i64 0] ++ [.int .i64 0] ++ [.int .i64 0] ++ []) (⟨(0 : Int), (0 : Int), (0 : Int), (0 : Int), (0 : Int)⟩ : Api_Report) := ⟨[.int .i64 0], _, rfl, rfl, ⟨[.int .i64 0], _, rfl, rfl, ⟨[.int .i64 0], _, rfl, rfl, ⟨[.int .i64 0], _, rfl, rfl, ⟨[.int .i64 0], _, rfl, rfl, rfl⟩⟩⟩⟩⟩
theorem ZT34 : ZT Tryz.prog 34 kApi_Report (⟨(0 : Int), (0 : Int), (0 : Int), (0 : Int), (0 : Int)⟩ : Api_Report) := ⟨(.agg #[.int .i64 0, .int .i64 0, .int .i64 0, .int .i64 0, .int .i64 0] : Value), by kernel_rfl, fun F => cells_cast (by kernel_rfl) (z_kApi_Report F)⟩
theorem BT34 : BT Tryz.prog 34 kApi_ReportF (⟨(0 : Int), (0 : Int), (0 : Int), (0 : Int), (0 : Int)⟩ : Api_Report) := ⟨⟨Tryz.t34, (.agg #[.int .i64 0, .int .i64 0, .int .i64 0, .int .i64 0, .int .i64 0] : Value), _, [(0, 1), (1, 1), (2, 1), (3, 1), (4, 1)], by kernel_rfl, by kernel_rfl, Tryz.underlying34, by kernel_rfl, fun i f h => match i, f, h with
    | 0, f, h => by cases h; rfl
    | 1, f, h => by cases h; rfl
    | 2, f, h => by cases h; rfl
    | 3, f, h => by cases h; rfl
    | 4, f, h => by cases h; rfl
    | (_ + 5), f, h => by simp [kApi_ReportF] at h, fun F => cells_castF (by kernel_rfl) (z_kApi_Report F)⟩⟩
theorem sz34k : (Tryz.prog.info? 34).map (·.size) = some (Kd.n kApi_Report) := by kernel_rfl
theorem kt34 : KT Tryz.prog 34 kApi_Report := ⟨by kernel_rfl, by kernel_rfl⟩
theorem z_kArr_32_kInt_u8_ (F : Fz) : Kd.rd (kArr 32 (kInt .u8)) F ((List.replicate 32 [.int .u8 0]).flatten) (List.replicate 32 (0 : Int)) := ⟨by simp, rdAll_rep (K := kInt .u8) rfl 32⟩
theorem ZT179 : ZT Tryz.prog 179 (kArr 32 (kInt .u8)) (List.replicate 32 (0 : Int)) := ⟨(.agg (List.replicate 32 (.int .u8 0 : Value)).toArray : Value), by kernel_rfl, fun F => cells_cast (by kernel_rfl) (z_kArr_32_kInt_u8_ F)⟩
theorem z_kHash_Hash (F : Fz) : Kd.rd kHash_Hash F ((List.replicate 8 [.int .u32 0]).flatten ++ (List.replicate 64 [.int .u8 0]).flatten ++ [.int .u64 0] ++ []) (⟨(List.replicate 8 (0 : Int)), (List.replicate 64 (0 : Int)), (0 : Int)⟩ : Hash_Hash) := ⟨(List.replicate 8 [.int .u32 0]).flatten, _, rfl, ⟨by simp, rdAll_rep (K := kInt .u32) rfl 8⟩, ⟨(List.replicate 64 [.int .u8 0]).flatten, _, rfl, ⟨by simp, rdAll_rep (K := kInt .u8) rfl 64⟩, ⟨[.int .u64 0], _, rfl, rfl, rfl⟩⟩⟩
theorem ZT253 : ZT Tryz.prog 253 kHash_Hash (⟨(List.replicate 8 (0 : Int)), (List.replicate 64 (0 : Int)), (0 : Int)⟩ : Hash_Hash) := ⟨(.agg (List.replicate 8 (.int .u32 0 : Value) ++ List.replicate 64 (.int .u8 0 : Value) ++ List.replicate 1 (.int .u64 0 : Value)).toArray : Value), by kernel_rfl, fun F => cells_cast (by kernel_rfl) (z_kHash_Hash F)⟩
theorem z_kArr_64_kInt_u8_ (F : Fz) : Kd.rd (kArr 64 (kInt .u8)) F ((List.replicate 64 [.int .u8 0]).flatten) (List.replicate 64 (0 : Int)) := ⟨by simp, rdAll_rep (K := kInt .u8) rfl 64⟩
theorem ZT251 : ZT Tryz.prog 251 (kArr 64 (kInt .u8)) (List.replicate 64 (0 : Int)) := ⟨(.agg (List.replicate 64 (.int .u8 0 : Value)).toArray : Value), by kernel_rfl, fun F => cells_cast (by kernel_rfl) (z_kArr_64_kInt_u8_ F)⟩
theorem BT253 : BT Tryz.prog 253 kHash_HashF (⟨(List.replicate 8 (0 : Int)), (List.replicate 64 (0 : Int)), (0 : Int)⟩ : Hash_Hash) := ⟨⟨Tryz.t253, (.agg (List.replicate 8 (.int .u32 0 : Value) ++ List.replicate 64 (.int .u8 0 : Value) ++ List.replicate 1 (.int .u64 0 : Value)).toArray : Value), _, [(0, 8), (8, 64), (72, 1)], by kernel_rfl, by kernel_rfl, Tryz.underlying253, by kernel_rfl, fun i f h => match i, f, h with
    | 0, f, h => by cases h; rfl
    | 1, f, h => by cases h; rfl
    | 2, f, h => by cases h; rfl
    | (_ + 3), f, h => by simp [kHash_HashF] at h, fun F => cells_castF (by kernel_rfl) (z_kHash_Hash F)⟩⟩
theorem sz253k : (Tryz.prog.info? 253).map (·.size) = some (Kd.n kHash_Hash) := by kernel_rfl
theorem kt253 : KT Tryz.prog 253 kHash_Hash := ⟨by kernel_rfl, by kernel_rfl⟩
theorem fm253_2 : fldB Tryz.prog 253 2 = some (72, 0 + 1) := by kernel_rfl
theorem uf_Hash_Hash_2 : UpF kHash_HashF 2 ⟨kInt .u64, Hash_Hash.n⟩ (fun x y => { x with n := y }) := ⟨rfl, fun _ _ => rfl, fun _ _ => ⟨rfl, ⟨rfl, (fun q hq => by simp at hq)⟩⟩⟩
theorem kt71k : KT Tryz.prog 71 (kInt .u64) := ⟨by kernel_rfl, by kernel_rfl⟩
theorem z_kArr_8_kInt_u32_ (F : Fz) : Kd.rd (kArr 8 (kInt .u32)) F ((List.replicate 8 [.int .u32 0]).flatten) (List.replicate 8 (0 : Int)) := ⟨by simp, rdAll_rep (K := kInt .u32) rfl 8⟩
theorem ZT250 : ZT Tryz.prog 250 (kArr 8 (kInt .u32)) (List.replicate 8 (0 : Int)) := ⟨(.agg (List.replicate 8 (.int .u32 0 : Value)).toArray : Value), by kernel_rfl, fun F => cells_cast (by kernel_rfl) (z_kArr_8_kInt_u32_ F)⟩
theorem BTA250 : BTA Tryz.prog 250 8 (kInt .u32) (List.replicate 8 (0 : Int)) := ⟨⟨Tryz.t250, (.agg (List.replicate 8 (.int .u32 0 : Value)).toArray : Value), _, Tryz.t142, by kernel_rfl, by kernel_rfl, Tryz.underlying250, by kernel_rfl, by kernel_rfl, by simp, fun F => cells_castA (by kernel_rfl) (z_kArr_8_kInt_u32_ F).2⟩⟩
theorem sz250k : (Tryz.prog.info? 250).map (·.size) = some (Kd.n (kArr 8 (kInt .u32))) := by kernel_rfl
theorem kt250 : KT Tryz.prog 250 (kArr 8 (kInt .u32)) := ⟨by kernel_rfl, by kernel_rfl⟩
theorem fm253_0 : fldB Tryz.prog 253 0 = some (0, 7 + 1) := by kernel_rfl
theorem uf_Hash_Hash_0 : UpF kHash_HashF 0 ⟨kArr 8 (kInt .u32), Hash_Hash.words⟩ (fun x y => { x with words := y }) := ⟨rfl, fun _ _ => rfl, fun _ _ => (by intro q hq; simp only [List.mem_cons, List.not_mem_nil, or_false] at hq; rcases hq with rfl | rfl <;> rfl)⟩
theorem fm253_1 : fldB Tryz.prog 253 1 = some (8, 63 + 1) := by kernel_rfl
theorem uf_Hash_Hash_1 : UpF kHash_HashF 1 ⟨kArr 64 (kInt .u8), Hash_Hash.tail⟩ (fun x y => { x with tail := y }) := ⟨rfl, fun _ _ => rfl, fun _ _ => ⟨rfl, (by intro q hq; simp only [List.mem_cons, List.not_mem_nil, or_false] at hq; rcases hq with rfl <;> rfl)⟩⟩
theorem sz71k : (Tryz.prog.info? 71).map (·.size) = some (Kd.n (kInt .u64)) := by kernel_rfl
theorem kt250k : KT Tryz.prog 250 (kArr 8 (kInt .u32)) := ⟨by kernel_rfl, by kernel_rfl⟩
theorem kt251k : KT Tryz.prog 251 (kArr 64 (kInt .u8)) := ⟨by kernel_rfl, by kernel_rfl⟩
theorem z_kArr_64_kInt_u32_ (F : Fz) : Kd.rd (kArr 64 (kInt .u32)) F ((List.replicate 64 [.int .u32 0]).flatten) (List.replicate 64 (0 : Int)) := ⟨by simp, rdAll_rep (K := kInt .u32) rfl 64⟩
theorem ZT319 : ZT Tryz.prog 319 (kArr 64 (kInt .u32)) (List.replicate 64 (0 : Int)) := ⟨(.agg (List.replicate 64 (.int .u32 0 : Value)).toArray : Value), by kernel_rfl, fun F => cells_cast (by kernel_rfl) (z_kArr_64_kInt_u32_ F)⟩
def glob0 : List Int := [1116352408, 1899447441, 3049323471, 3921009573, 961987163, 1508970993, 2453635748, 2870763221, 3624381080, 310598401, 607225278, 1426881987, 1925078388, 2162078206, 2614888103, 3248222580, 3835390401, 4022224774, 264347078, 604807628, 770255983, 1249150122, 1555081692, 1996064986, 2554220882, 2821834349, 2952996808, 3210313671, 3336571891, 3584528711, 113926993, 338241895, 666307205, 773529912, 1294757372, 1396182291, 1695183700, 1986661051, 2177026350, 2456956037, 2730485921, 2820302411, 3259730800, 3345764771, 3516065817, 3600352804, 4094571909, 275423344, 430227734, 506948616, 659060556, 883997877, 958139571, 1322822218, 1537002063, 1747873779, 1955562222, 2024104815, 2227730452, 2361852424, 2428436474, 2756734187, 3204031479, 3329325298]
theorem sz142 : (Tryz.prog.info? 142).map (·.size) = some (Kd.n (kInt .u32)) := by kernel_rfl
theorem kt253k : KT Tryz.prog 253 kHash_Hash := ⟨by kernel_rfl, by kernel_rfl⟩
theorem fb253k : fldB Tryz.prog 253 0 = some (offF kHash_HashF 0, 7 + 1) := by kernel_rfl
theorem kt179 : KT Tryz.prog 179 (kArr 32 (kInt .u8)) := ⟨by kernel_rfl, by kernel_rfl⟩
theorem sz179k : (Tryz.prog.info? 179).map (·.size) = some (Kd.n (kArr 32 (kInt .u8))) := by kernel_rfl
theorem fb46k1 : fldB Tryz.prog 46 1 = some (offF kApi_BatchF 1, 0 + 1) := by kernel_rfl
theorem kt44 : KT Tryz.prog 44 (kSl (kSl (kInt .u8))) := ⟨by kernel_rfl, by kernel_rfl⟩
theorem sz22 : (Tryz.prog.info? 22).map (·.size) = some (Kd.n (kSl (kInt .u8))) := by kernel_rfl
theorem z_kApi_Parts (F : Fz) : Kd.rd kApi_Parts F ([.slice none 0 0] ++ [.slice none 0 0] ++ [.slice none 0 0] ++ []) (⟨[], [], []⟩ : Api_Parts) := ⟨[.slice none 0 0], _, rfl, ⟨none, 0, rfl, Nat.le_refl _, .inl rfl⟩, ⟨[.slice none 0 0], _, rfl, ⟨none, 0, rfl, Nat.le_refl _, .inl rfl⟩, ⟨[.slice none 0 0], _, rfl, ⟨none, 0, rfl, Nat.le_refl _, .inl rfl⟩, rfl⟩⟩⟩
theorem ZT51 : ZT Tryz.prog 51 kApi_Parts (⟨[], [], []⟩ : Api_Parts) := ⟨(.agg #[.slice none 0 0, .slice none 0 0, .slice none 0 0] : Value), by kernel_rfl, fun F => cells_cast (by kernel_rfl) (z_kApi_Parts F)⟩
theorem BT51 : BT Tryz.prog 51 kApi_PartsF (⟨[], [], []⟩ : Api_Parts) := ⟨⟨Tryz.t51, (.agg #[.slice none 0 0, .slice none 0 0, .slice none 0 0] : Value), _, [(0, 1), (1, 1), (2, 1)], by kernel_rfl, by kernel_rfl, Tryz.underlying51, by kernel_rfl, fun i f h => match i, f, h with
    | 0, f, h => by cases h; rfl
    | 1, f, h => by cases h; rfl
    | 2, f, h => by cases h; rfl
    | (_ + 3), f, h => by simp [kApi_PartsF] at h, fun F => cells_castF (by kernel_rfl) (z_kApi_Parts F)⟩⟩
theorem sz51k : (Tryz.prog.info? 51).map (·.size) = some (Kd.n kApi_Parts) := by kernel_rfl
theorem kt51 : KT Tryz.prog 51 kApi_Parts := ⟨by kernel_rfl, by kernel_rfl⟩
theorem z_kApi_Parts_r2 (F : Fz) : Kd.rd kApi_Parts_r2 F ([.slice none 0 0] ++ [.slice none 0 0] ++ [.slice none 0 0] ++ []) (⟨[], [], (.slice none 0 0)⟩ : Api_Parts_r2) := ⟨[.slice none 0 0], _, rfl, ⟨none, 0, rfl, Nat.le_refl _, .inl rfl⟩, ⟨[.slice none 0 0], _, rfl, ⟨none, 0, rfl, Nat.le_refl _, .inl rfl⟩, ⟨[.slice none 0 0], _, rfl, ⟨rfl, rfl⟩, rfl⟩⟩⟩
theorem BT51_Api_Parts_r2 : BT Tryz.prog 51 kApi_Parts_r2F (⟨[], [], (.slice none 0 0)⟩ : Api_Parts_r2) := ⟨⟨Tryz.t51, (.agg #[.slice none 0 0, .slice none 0 0, .slice none 0 0] : Value), _, [(0, 1), (1, 1), (2, 1)], by kernel_rfl, by kernel_rfl, Tryz.underlying51, by kernel_rfl, fun i f h => match i, f, h with
    | 0, f, h => by cases h; rfl
    | 1, f, h => by cases h; rfl
    | 2, f, h => by cases h; rfl
    | (_ + 3), f, h => by simp [kApi_Parts_r2F] at h, fun F => cells_castF (by kernel_rfl) (z_kApi_Parts_r2 F)⟩⟩
theorem ZT51k : ZT Tryz.prog 51 kApi_Parts_r2 (⟨[], [], (.slice none 0 0)⟩ : Api_Parts_r2) := ⟨(.agg #[.slice none 0 0, .slice none 0 0, .slice none 0 0] : Value), by kernel_rfl, fun F => cells_cast (by kernel_rfl) (z_kApi_Parts_r2 F)⟩
theorem sz51k1 : (Tryz.prog.info? 51).map (·.size) = some (Kd.n kApi_Parts_r2) := by kernel_rfl
theorem fm51_2 : fldB Tryz.prog 51 2 = some (2, 0 + 1) := by kernel_rfl
theorem uf_Api_Parts_r2_2 : UpF kApi_Parts_r2F 2 ⟨kRaw, Api_Parts_r2.Chunks⟩ (fun x y => { x with Chunks := y }) := ⟨rfl, fun _ _ => rfl, fun _ _ => ⟨rfl, ⟨rfl, (fun q hq => by simp at hq)⟩⟩⟩
theorem kt44k : KT Tryz.prog 44 kRaw := ⟨by kernel_rfl, by kernel_rfl⟩
theorem sz44k : (Tryz.prog.info? 44).map (·.size) = some (Kd.n kRaw) := by kernel_rfl
theorem fb51k : fldB Tryz.prog 51 0 = some (offF kApi_PartsF 0, 0 + 1) := by kernel_rfl
theorem z_kInt_i64 (F : Fz) : Kd.rd (kInt .i64) F [.int .i64 0] (0 : Int) := rfl
theorem AT3 : AT Tryz.prog 3 (kInt .i64) (0 : Int) 8 := ⟨⟨Tryz.t3, (.int .i64 0 : Value), by kernel_rfl, by kernel_rfl, by kernel_rfl, by kernel_rfl, by decide, by decide, fun F => cells_cast (by kernel_rfl) (z_kInt_i64 F)⟩⟩
theorem ET3 : ET Tryz.prog 3 (kInt .i64) (0 : Int) := ⟨⟨Tryz.t3, (.int .i64 0 : Value), by kernel_rfl, by kernel_rfl, by kernel_rfl, by decide, fun F => cells_cast (by kernel_rfl) (z_kInt_i64 F)⟩⟩
theorem sz3 : (Tryz.prog.info? 3).map (·.size) = some (Kd.n (kInt .i64)) := by kernel_rfl
theorem BTA64 : BTA Tryz.prog 64 16 (kInt .u8) (List.replicate 16 (0 : Int)) := ⟨⟨Tryz.t64, (.agg (List.replicate 16 (.int .u8 0 : Value)).toArray : Value), _, Tryz.t5, by kernel_rfl, by kernel_rfl, Tryz.underlying64, by kernel_rfl, by kernel_rfl, by simp, fun F => cells_castA (by kernel_rfl) (z_kArr_16_kInt_u8_ F).2⟩⟩
theorem z_kBlock_Schedule (F : Fz) : Kd.rd kBlock_Schedule F ((List.replicate 11 ((List.replicate 16 [.int .u8 0]).flatten)).flatten ++ []) (⟨(List.replicate 11 (List.replicate 16 (0 : Int)))⟩ : Block_Schedule) := ⟨(List.replicate 11 ((List.replicate 16 [.int .u8 0]).flatten)).flatten, _, rfl, ⟨by simp, rdAll_rep (K := kArr 16 (kInt .u8)) (⟨by simp, rdAll_rep (K := kInt .u8) rfl 16⟩) 11⟩, rfl⟩
theorem ZT243 : ZT Tryz.prog 243 kBlock_Schedule (⟨(List.replicate 11 (List.replicate 16 (0 : Int)))⟩ : Block_Schedule) := ⟨(.agg (List.replicate 176 (.int .u8 0 : Value)).toArray : Value), by kernel_rfl, fun F => cells_cast (by kernel_rfl) (z_kBlock_Schedule F)⟩
theorem z_kArr_44_kArr_4_kInt_u8_ (F : Fz) : Kd.rd (kArr 44 (kArr 4 (kInt .u8))) F ((List.replicate 44 ((List.replicate 4 [.int .u8 0]).flatten)).flatten) (List.replicate 44 (List.replicate 4 (0 : Int))) := ⟨by simp, rdAll_rep (K := kArr 4 (kInt .u8)) (⟨by simp, rdAll_rep (K := kInt .u8) rfl 4⟩) 44⟩
theorem ZT284 : ZT Tryz.prog 284 (kArr 44 (kArr 4 (kInt .u8))) (List.replicate 44 (List.replicate 4 (0 : Int))) := ⟨(.agg (List.replicate 176 (.int .u8 0 : Value)).toArray : Value), by kernel_rfl, fun F => cells_cast (by kernel_rfl) (z_kArr_44_kArr_4_kInt_u8_ F)⟩
theorem sz283k : (Tryz.prog.info? 283).map (·.size) = some (Kd.n (kArr 4 (kInt .u8))) := by kernel_rfl
theorem kt283k : KT Tryz.prog 283 (kArr 4 (kInt .u8)) := ⟨by kernel_rfl, by kernel_rfl⟩
theorem z_kArr_4_kInt_u8_ (F : Fz) : Kd.rd (kArr 4 (kInt .u8)) F ((List.replicate 4 [.int .u8 0]).flatten) (List.replicate 4 (0 : Int)) := ⟨by simp, rdAll_rep (K := kInt .u8) rfl 4⟩
theorem ZT283 : ZT Tryz.prog 283 (kArr 4 (kInt .u8)) (List.replicate 4 (0 : Int)) := ⟨(.agg #[.int .u8 0, .int .u8 0, .int .u8 0, .int .u8 0] : Value), by kernel_rfl, fun F => cells_cast (by kernel_rfl) (z_kArr_4_kInt_u8_ F)⟩
theorem BTA283 : BTA Tryz.prog 283 4 (kInt .u8) (List.replicate 4 (0 : Int)) := ⟨⟨Tryz.t283, (.agg #[.int .u8 0, .int .u8 0, .int .u8 0, .int .u8 0] : Value), _, Tryz.t5, by kernel_rfl, by kernel_rfl, Tryz.underlying283, by kernel_rfl, by kernel_rfl, by simp, fun F => cells_castA (by kernel_rfl) (z_kArr_4_kInt_u8_ F).2⟩⟩
theorem kt284 : KT Tryz.prog 284 (kArr 44 (kArr 4 (kInt .u8))) := ⟨by kernel_rfl, by kernel_rfl⟩
theorem kt283 : KT Tryz.prog 283 (kArr 4 (kInt .u8)) := ⟨by kernel_rfl, by kernel_rfl⟩
theorem fm243_0 : fldB Tryz.prog 243 0 = some (0, 175 + 1) := by kernel_rfl
theorem uf_Block_Schedule_0 : UpF kBlock_ScheduleF 0 ⟨kArr 11 (kArr 16 (kInt .u8)), Block_Schedule.keys⟩ (fun x y => { x with keys := y }) := ⟨rfl, fun _ _ => rfl, fun _ _ => (fun q hq => by simp at hq)⟩
theorem sz240k : (Tryz.prog.info? 240).map (·.size) = some (Kd.n (kArr 16 (kInt .u8))) := by kernel_rfl
theorem kt243 : KT Tryz.prog 243 kBlock_Schedule := ⟨by kernel_rfl, by kernel_rfl⟩
theorem sz243k : (Tryz.prog.info? 243).map (·.size) = some (Kd.n kBlock_Schedule) := by kernel_rfl
theorem z_kArr_256_kInt_u8_ (F : Fz) : Kd.rd (kArr 256 (kInt .u8)) F ((List.replicate 256 [.int .u8 0]).flatten) (List.replicate 256 (0 : Int)) := ⟨by simp, rdAll_rep (K := kInt .u8) rfl 256⟩
theorem ZT246 : ZT Tryz.prog 246 (kArr 256 (kInt .u8)) (List.replicate 256 (0 : Int)) := ⟨(.agg (List.replicate 256 (.int .u8 0 : Value)).toArray : Value), by kernel_rfl, fun F => cells_cast (by kernel_rfl) (z_kArr_256_kInt_u8_ F)⟩
theorem kt64k : KT Tryz.prog 64 (kArr 16 (kInt .u8)) := ⟨by kernel_rfl, by kernel_rfl⟩
theorem fb243k : fldB Tryz.prog 243 0 = some (offF kBlock_ScheduleF 0, 175 + 1) := by kernel_rfl
theorem sz240 : (Tryz.prog.info? 240).map (·.size) = some (Kd.n (kArr 16 (kInt .u8))) := by kernel_rfl
theorem kt240 : KT Tryz.prog 240 (kArr 16 (kInt .u8)) := ⟨by kernel_rfl, by kernel_rfl⟩
theorem ZT240 : ZT Tryz.prog 240 (kArr 16 (kInt .u8)) (List.replicate 16 (0 : Int)) := ⟨(.agg (List.replicate 16 (.int .u8 0 : Value)).toArray : Value), by kernel_rfl, fun F => cells_cast (by kernel_rfl) (z_kArr_16_kInt_u8_ F)⟩
theorem kt240k : KT Tryz.prog 240 (kArr 16 (kInt .u8)) := ⟨by kernel_rfl, by kernel_rfl⟩
theorem sz66 : (Tryz.prog.info? 66).map (·.size) = some (Kd.n kApi_Peeled) := by kernel_rfl
theorem kt66 : KT Tryz.prog 66 kApi_Peeled := ⟨by kernel_rfl, by kernel_rfl⟩
theorem z_kApi_Peeled (F : Fz) : Kd.rd kApi_Peeled F ([.slice none 0 0] ++ (List.replicate 16 [.int .u8 0]).flatten ++ []) (⟨[], (List.replicate 16 (0 : Int))⟩ : Api_Peeled) := ⟨[.slice none 0 0], _, rfl, ⟨none, 0, rfl, Nat.le_refl _, .inl rfl⟩, ⟨(List.replicate 16 [.int .u8 0]).flatten, _, rfl, ⟨by simp, rdAll_rep (K := kInt .u8) rfl 16⟩, rfl⟩⟩
theorem ZT66 : ZT Tryz.prog 66 kApi_Peeled (⟨[], (List.replicate 16 (0 : Int))⟩ : Api_Peeled) := ⟨(.agg (List.replicate 1 (.slice none 0 0 : Value) ++ List.replicate 16 (.int .u8 0 : Value)).toArray : Value), by kernel_rfl, fun F => cells_cast (by kernel_rfl) (z_kApi_Peeled F)⟩
theorem sz66k : (Tryz.prog.info? 66).map (·.size) = some (Kd.n kApi_Peeled) := by kernel_rfl
theorem fb66k : fldB Tryz.prog 66 0 = some (offF kApi_PeeledF 0, 0 + 1) := by kernel_rfl
theorem z_kRiffle_cut_r2 (F : Fz) : Kd.rd kRiffle_cut_r2 F (([.slice none 0 0] ++ [.slice none 0 0] ++ [.slice none 0 0] ++ []) ++ [.slice none 0 0] ++ [.slice none 0 0] ++ []) (⟨(⟨[], [], []⟩ : Api_Parts), [], (.slice none 0 0)⟩ : Riffle_cut_r2) := ⟨([.slice none 0 0] ++ [.slice none 0 0] ++ [.slice none 0 0] ++ []), _, rfl, ⟨[.slice none 0 0], _, rfl, ⟨none, 0, rfl, Nat.le_refl _, .inl rfl⟩, ⟨[.slice none 0 0], _, rfl, ⟨none, 0, rfl, Nat.le_refl _, .inl rfl⟩, ⟨[.slice none 0 0], _, rfl, ⟨none, 0, rfl, Nat.le_refl _, .inl rfl⟩, rfl⟩⟩⟩, ⟨[.slice none 0 0], _, rfl, ⟨none, 0, rfl, Nat.le_refl _, .inl rfl⟩, ⟨[.slice none 0 0], _, rfl, ⟨rfl, rfl⟩, rfl⟩⟩⟩
theorem ZT163k : ZT Tryz.prog 163 kRiffle_cut_r2 (⟨(⟨[], [], []⟩ : Api_Parts), [], (.slice none 0 0)⟩ : Riffle_cut_r2) := ⟨(.agg #[.slice none 0 0, .slice none 0 0, .slice none 0 0, .slice none 0 0, .slice none 0 0] : Value), by kernel_rfl, fun F => cells_cast (by kernel_rfl) (z_kRiffle_cut_r2 F)⟩
theorem fm163_1 : fldB Tryz.prog 163 1 = some (3, 0 + 1) := by kernel_rfl
theorem uf_Riffle_cut_r2_1 : UpF kRiffle_cut_r2F 1 ⟨kSl (kInt .i64), Riffle_cut_r2.sizes⟩ (fun x y => { x with sizes := y }) := ⟨rfl, fun _ _ => rfl, fun _ _ => ⟨rfl, (by intro q hq; simp only [List.mem_cons, List.not_mem_nil, or_false] at hq; rcases hq with rfl <;> rfl)⟩⟩
theorem sz68k : (Tryz.prog.info? 68).map (·.size) = some (Kd.n (kSl (kInt .i64))) := by kernel_rfl
theorem BT163_Riffle_cut_r2 : BT Tryz.prog 163 kRiffle_cut_r2F (⟨(⟨[], [], []⟩ : Api_Parts), [], (.slice none 0 0)⟩ : Riffle_cut_r2) := ⟨⟨Tryz.t163, (.agg #[.slice none 0 0, .slice none 0 0, .slice none 0 0, .slice none 0 0, .slice none 0 0] : Value), _, [(0, 3), (3, 1), (4, 1)], by kernel_rfl, by kernel_rfl, Tryz.underlying163, by kernel_rfl, fun i f h => match i, f, h with
    | 0, f, h => by cases h; rfl
    | 1, f, h => by cases h; rfl
    | 2, f, h => by cases h; rfl
    | (_ + 3), f, h => by simp [kRiffle_cut_r2F] at h, fun F => cells_castF (by kernel_rfl) (z_kRiffle_cut_r2 F)⟩⟩
theorem sz163k : (Tryz.prog.info? 163).map (·.size) = some (Kd.n kRiffle_cut_r2) := by kernel_rfl
theorem kt163 : KT Tryz.prog 163 kRiffle_cut := ⟨by kernel_rfl, by kernel_rfl⟩
theorem fm163_0 : fldB Tryz.prog 163 0 = some (0, 2 + 1) := by kernel_rfl
theorem uf_Riffle_cut_r2_0 : UpF kRiffle_cut_r2F 0 ⟨kApi_Parts, Riffle_cut_r2.parts⟩ (fun x y => { x with parts := y }) := ⟨rfl, fun _ _ => rfl, fun _ _ => (by intro q hq; simp only [List.mem_cons, List.not_mem_nil, or_false] at hq; rcases hq with rfl | rfl <;> rfl)⟩
theorem fm51_1 : fldB Tryz.prog 51 1 = some (1, 0 + 1) := by kernel_rfl
theorem uf_Api_Parts_1 : UpF kApi_PartsF 1 ⟨kSl (kInt .u8), Api_Parts.Braid⟩ (fun x y => { x with Braid := y }) := ⟨rfl, fun _ _ => rfl, fun _ _ => ⟨rfl, (by intro q hq; simp only [List.mem_cons, List.not_mem_nil, or_false] at hq; rcases hq with rfl <;> rfl)⟩⟩
theorem kt22k1 : KT Tryz.prog 22 (kSl (kInt .u8)) := ⟨by kernel_rfl, by kernel_rfl⟩
theorem z_kRaw (F : Fz) : Kd.rd kRaw F [.slice none 0 0] (.slice none 0 0) := ⟨rfl, rfl⟩
theorem ZT68k : ZT Tryz.prog 68 kRaw (.slice none 0 0) := ⟨(.slice none 0 0 : Value), by kernel_rfl, fun F => cells_cast (by kernel_rfl) (z_kRaw F)⟩
theorem sz68k1 : (Tryz.prog.info? 68).map (·.size) = some (Kd.n kRaw) := by kernel_rfl
theorem z_kTape_Tape (F : Fz) : Kd.rd kTape_Tape F ([.string ByteArray.empty] ++ [.int .i64 0] ++ []) (⟨[], (0 : Int)⟩ : Tape_Tape) := ⟨[.string ByteArray.empty], _, rfl, ⟨_, rfl, rfl⟩, ⟨[.int .i64 0], _, rfl, rfl, rfl⟩⟩
theorem ZT312 : ZT Tryz.prog 312 kTape_Tape (⟨[], (0 : Int)⟩ : Tape_Tape) := ⟨(.agg #[.string ByteArray.empty, .int .i64 0] : Value), by kernel_rfl, fun F => cells_cast (by kernel_rfl) (z_kTape_Tape F)⟩
theorem BT312 : BT Tryz.prog 312 kTape_TapeF (⟨[], (0 : Int)⟩ : Tape_Tape) := ⟨⟨Tryz.t312, (.agg #[.string ByteArray.empty, .int .i64 0] : Value), _, [(0, 1), (1, 1)], by kernel_rfl, by kernel_rfl, Tryz.underlying312, by kernel_rfl, fun i f h => match i, f, h with
    | 0, f, h => by cases h; rfl
    | 1, f, h => by cases h; rfl
    | (_ + 2), f, h => by simp [kTape_TapeF] at h, fun F => cells_castF (by kernel_rfl) (z_kTape_Tape F)⟩⟩
theorem sz312k : (Tryz.prog.info? 312).map (·.size) = some (Kd.n kTape_Tape) := by kernel_rfl
theorem kt312 : KT Tryz.prog 312 kTape_Tape := ⟨by kernel_rfl, by kernel_rfl⟩
theorem kt312k : KT Tryz.prog 312 kTape_Tape := ⟨by kernel_rfl, by kernel_rfl⟩
theorem fb312k : fldB Tryz.prog 312 0 = some (offF kTape_TapeF 0, 0 + 1) := by kernel_rfl
theorem kt9 : KT Tryz.prog 9 kStr := ⟨by kernel_rfl, by kernel_rfl⟩
theorem fb312k1 : fldB Tryz.prog 312 1 = some (offF kTape_TapeF 1, 0 + 1) := by kernel_rfl
theorem kt68k : KT Tryz.prog 68 kRaw := ⟨by kernel_rfl, by kernel_rfl⟩
theorem kt68k1 : KT Tryz.prog 68 (kSl (kInt .i64)) := ⟨by kernel_rfl, by kernel_rfl⟩
theorem fm163_2 : fldB Tryz.prog 163 2 = some (4, 0 + 1) := by kernel_rfl
theorem uf_Riffle_cut_r2_2 : UpF kRiffle_cut_r2F 2 ⟨kRaw, Riffle_cut_r2.starts⟩ (fun x y => { x with starts := y }) := ⟨rfl, fun _ _ => rfl, fun _ _ => ⟨rfl, ⟨rfl, (fun q hq => by simp at hq)⟩⟩⟩
theorem uf_Api_Parts_2 : UpF kApi_PartsF 2 ⟨kSl (kSl (kInt .u8)), Api_Parts.Chunks⟩ (fun x y => { x with Chunks := y }) := ⟨rfl, fun _ _ => rfl, fun _ _ => ⟨rfl, ⟨rfl, (fun q hq => by simp at hq)⟩⟩⟩
theorem kt44k1 : KT Tryz.prog 44 (kSl (kSl (kInt .u8))) := ⟨by kernel_rfl, by kernel_rfl⟩
theorem z_kSl_kInt_i64_ (F : Fz) : Kd.rd (kSl (kInt .i64)) F [.slice none 0 0] [] := ⟨none, 0, rfl, Nat.le_refl _, .inl rfl⟩
theorem ET68 : ET Tryz.prog 68 (kSl (kInt .i64)) [] := ⟨⟨Tryz.t68, (.slice none 0 0 : Value), by kernel_rfl, by kernel_rfl, by kernel_rfl, by decide, fun F => cells_cast (by kernel_rfl) (z_kSl_kInt_i64_ F)⟩⟩
theorem AT68 : AT Tryz.prog 68 (kSl (kInt .i64)) [] 24 := ⟨⟨Tryz.t68, (.slice none 0 0 : Value), by kernel_rfl, by kernel_rfl, by kernel_rfl, by kernel_rfl, by decide, by decide, fun F => cells_cast (by kernel_rfl) (z_kSl_kInt_i64_ F)⟩⟩
abbrev mk_row68 : (List Int) → Value → Value := fun _ q => q
abbrev tg_row68 : (List Int) → (List Int) := fun x => x
theorem frR_row68 : Free kRaw := Free.raw
theorem frT_row68 : Free (kInt .i64) := Free.int
theorem cvm_row68 : ∀ F x q, (kSl (kInt .i64)).val F q (tg_row68 x) → ∀ cs, kRaw.rd F cs (mk_row68 x q) → (kSl (kInt .i64)).rd F cs x := fun F x q hv => cv_raw hv
theorem AT68k : AT Tryz.prog 68 kRaw (.slice none 0 0) 24 := ⟨⟨Tryz.t68, (.slice none 0 0 : Value), by kernel_rfl, by kernel_rfl, by kernel_rfl, by kernel_rfl, by decide, by decide, fun F => cells_cast (by kernel_rfl) (z_kRaw F)⟩⟩
theorem sz68 : (Tryz.prog.info? 68).map (·.size) = some (Kd.n (kSl (kInt .i64))) := by kernel_rfl
theorem kt68 : KT Tryz.prog 68 (kSl (kInt .i64)) := ⟨by kernel_rfl, by kernel_rfl⟩
theorem kt163k : KT Tryz.prog 163 kRiffle_cut := ⟨by kernel_rfl, by kernel_rfl⟩
theorem sz163k1 : (Tryz.prog.info? 163).map (·.size) = some (Kd.n kRiffle_cut) := by kernel_rfl
theorem z_kRiffle_cut (F : Fz) : Kd.rd kRiffle_cut F (([.slice none 0 0] ++ [.slice none 0 0] ++ [.slice none 0 0] ++ []) ++ [.slice none 0 0] ++ [.slice none 0 0] ++ []) (⟨(⟨[], [], []⟩ : Api_Parts), [], []⟩ : Riffle_cut) := ⟨([.slice none 0 0] ++ [.slice none 0 0] ++ [.slice none 0 0] ++ []), _, rfl, ⟨[.slice none 0 0], _, rfl, ⟨none, 0, rfl, Nat.le_refl _, .inl rfl⟩, ⟨[.slice none 0 0], _, rfl, ⟨none, 0, rfl, Nat.le_refl _, .inl rfl⟩, ⟨[.slice none 0 0], _, rfl, ⟨none, 0, rfl, Nat.le_refl _, .inl rfl⟩, rfl⟩⟩⟩, ⟨[.slice none 0 0], _, rfl, ⟨none, 0, rfl, Nat.le_refl _, .inl rfl⟩, ⟨[.slice none 0 0], _, rfl, ⟨none, 0, rfl, Nat.le_refl _, .inl rfl⟩, rfl⟩⟩⟩
theorem ZT163 : ZT Tryz.prog 163 kRiffle_cut (⟨(⟨[], [], []⟩ : Api_Parts), [], []⟩ : Riffle_cut) := ⟨(.agg #[.slice none 0 0, .slice none 0 0, .slice none 0 0, .slice none 0 0, .slice none 0 0] : Value), by kernel_rfl, fun F => cells_cast (by kernel_rfl) (z_kRiffle_cut F)⟩
theorem fb163k : fldB Tryz.prog 163 1 = some (offF kRiffle_cutF 1, 0 + 1) := by kernel_rfl
theorem fb163k1 : fldB Tryz.prog 163 2 = some (offF kRiffle_cutF 2, 0 + 1) := by kernel_rfl
theorem z_kBool (F : Fz) : Kd.rd kBool F [.bool false] false := rfl
theorem AT4 : AT Tryz.prog 4 kBool false 1 := ⟨⟨Tryz.t4, (.bool false : Value), by kernel_rfl, by kernel_rfl, by kernel_rfl, by kernel_rfl, by decide, by decide, fun F => cells_cast (by kernel_rfl) (z_kBool F)⟩⟩
theorem sz4k : (Tryz.prog.info? 4).map (·.size) = some (Kd.n kBool) := by kernel_rfl
theorem kt4k : KT Tryz.prog 4 kBool := ⟨by kernel_rfl, by kernel_rfl⟩
theorem fb66k1 : fldB Tryz.prog 66 1 = some (offF kApi_PeeledF 1, 15 + 1) := by kernel_rfl
theorem fm152_0 : fldB Tryz.prog 152 0 = some (0, 0 + 1) := by kernel_rfl
theorem uf_Api_Epoch_0 : UpF kApi_EpochF 0 ⟨kInt .i64, Api_Epoch.Number⟩ (fun x y => { x with Number := y }) := ⟨rfl, fun _ _ => rfl, fun _ _ => (by intro q hq; simp only [List.mem_cons, List.not_mem_nil, or_false] at hq; rcases hq with rfl <;> rfl)⟩
abbrev mk_Api_Epoch : Api_Epoch → Value → Api_Epoch_r1 := fun x q => ⟨x.Number, q⟩
abbrev tg_Api_Epoch : Api_Epoch → List (List Int) := fun x => x.Tags
theorem frR_Api_Epoch : Free (kApi_Epoch_r1) := Free.st2 Free.int Free.raw
theorem frT_Api_Epoch : Free (kArr 16 (kInt .u8)) := Free.arr Free.int
theorem cvm_Api_Epoch : ∀ F x q, (kSl (kArr 16 (kInt .u8))).val F q (tg_Api_Epoch x) → ∀ cs, (kApi_Epoch_r1).rd F cs (mk_Api_Epoch x q) → (kApi_Epoch).rd F cs x := fun F x q hv cs h => rdF_cv (fs' := kApi_Epoch_r1F) (fs := kApi_EpochF) (x' := mk_Api_Epoch x q) (x := x) ⟨fun _ h => h, cv_raw hv, trivial⟩ h
theorem z_kApi_Epoch_r1 (F : Fz) : Kd.rd kApi_Epoch_r1 F ([.int .i64 0] ++ [.slice none 0 0] ++ []) (⟨(0 : Int), (.slice none 0 0)⟩ : Api_Epoch_r1) := ⟨[.int .i64 0], _, rfl, rfl, ⟨[.slice none 0 0], _, rfl, ⟨rfl, rfl⟩, rfl⟩⟩
theorem BT152_Api_Epoch_r1 : BT Tryz.prog 152 kApi_Epoch_r1F (⟨(0 : Int), (.slice none 0 0)⟩ : Api_Epoch_r1) := ⟨⟨Tryz.t152, (.agg #[.int .i64 0, .slice none 0 0] : Value), _, [(0, 1), (1, 1)], by kernel_rfl, by kernel_rfl, Tryz.underlying152, by kernel_rfl, fun i f h => match i, f, h with
    | 0, f, h => by cases h; rfl
    | 1, f, h => by cases h; rfl
    | (_ + 2), f, h => by simp [kApi_Epoch_r1F] at h, fun F => cells_castF (by kernel_rfl) (z_kApi_Epoch_r1 F)⟩⟩
theorem ET152k : ET Tryz.prog 152 kApi_Epoch_r1 (⟨(0 : Int), (.slice none 0 0)⟩ : Api_Epoch_r1) := ⟨⟨Tryz.t152, (.agg #[.int .i64 0, .slice none 0 0] : Value), by kernel_rfl, by kernel_rfl, by kernel_rfl, by decide, fun F => cells_cast (by kernel_rfl) (z_kApi_Epoch_r1 F)⟩⟩
theorem AT152k : AT Tryz.prog 152 kApi_Epoch_r1 (⟨(0 : Int), (.slice none 0 0)⟩ : Api_Epoch_r1) 32 := ⟨⟨Tryz.t152, (.agg #[.int .i64 0, .slice none 0 0] : Value), by kernel_rfl, by kernel_rfl, by kernel_rfl, by kernel_rfl, by decide, by decide, fun F => cells_cast (by kernel_rfl) (z_kApi_Epoch_r1 F)⟩⟩
theorem sz152k1 : (Tryz.prog.info? 152).map (·.size) = some (Kd.n kApi_Epoch_r1) := by kernel_rfl
theorem kt152k : KT Tryz.prog 152 kApi_Epoch_r1 := ⟨by kernel_rfl, by kernel_rfl⟩
theorem ZT152k : ZT Tryz.prog 152 kApi_Epoch_r1 (⟨(0 : Int), (.slice none 0 0)⟩ : Api_Epoch_r1) := ⟨(.agg #[.int .i64 0, .slice none 0 0] : Value), by kernel_rfl, fun F => cells_cast (by kernel_rfl) (z_kApi_Epoch_r1 F)⟩
theorem uf_Api_Epoch_r1_1 : UpF kApi_Epoch_r1F 1 ⟨kRaw, Api_Epoch_r1.Tags⟩ (fun x y => { x with Tags := y }) := ⟨rfl, fun _ _ => rfl, fun _ _ => ⟨rfl, (fun q hq => by simp at hq)⟩⟩
theorem kt85k1 : KT Tryz.prog 85 kRaw := ⟨by kernel_rfl, by kernel_rfl⟩
theorem z_kApi_Header (F : Fz) : Kd.rd kApi_Header F ([.int .i64 0] ++ [.int .i64 0] ++ [.int .i64 0] ++ []) (⟨(0 : Int), (0 : Int), (0 : Int)⟩ : Api_Header) := ⟨[.int .i64 0], _, rfl, rfl, ⟨[.int .i64 0], _, rfl, rfl, ⟨[.int .i64 0], _, rfl, rfl, rfl⟩⟩⟩
theorem BT43 : BT Tryz.prog 43 kApi_HeaderF (⟨(0 : Int), (0 : Int), (0 : Int)⟩ : Api_Header) := ⟨⟨Tryz.t43, (.agg #[.int .i64 0, .int .i64 0, .int .i64 0] : Value), _, [(0, 1), (1, 1), (2, 1)], by kernel_rfl, by kernel_rfl, Tryz.underlying43, by kernel_rfl, fun i f h => match i, f, h with
    | 0, f, h => by cases h; rfl
    | 1, f, h => by cases h; rfl
    | 2, f, h => by cases h; rfl
    | (_ + 3), f, h => by simp [kApi_HeaderF] at h, fun F => cells_castF (by kernel_rfl) (z_kApi_Header F)⟩⟩
theorem kt43 : KT Tryz.prog 43 kApi_Header := ⟨by kernel_rfl, by kernel_rfl⟩
theorem fm34_3 : fldB Tryz.prog 34 3 = some (3, 0 + 1) := by kernel_rfl
theorem uf_Api_Report_3 : UpF kApi_ReportF 3 ⟨kInt .i64, Api_Report.Noise⟩ (fun x y => { x with Noise := y }) := ⟨rfl, fun _ _ => rfl, fun _ _ => ⟨rfl, ⟨rfl, ⟨rfl, (by intro q hq; simp only [List.mem_cons, List.not_mem_nil, or_false] at hq; rcases hq with rfl <;> rfl)⟩⟩⟩⟩
theorem fm34_4 : fldB Tryz.prog 34 4 = some (4, 0 + 1) := by kernel_rfl
theorem uf_Api_Report_4 : UpF kApi_ReportF 4 ⟨kInt .i64, Api_Report.Out⟩ (fun x y => { x with Out := y }) := ⟨rfl, fun _ _ => rfl, fun _ _ => ⟨rfl, ⟨rfl, ⟨rfl, ⟨rfl, (fun q hq => by simp at hq)⟩⟩⟩⟩⟩
theorem fb37k : fldB Tryz.prog 37 3 = some (offF kApi_OutcomeF 3, 0 + 1) := by kernel_rfl
theorem kt35 : KT Tryz.prog 35 (kInt .i64) := ⟨by kernel_rfl, by kernel_rfl⟩
theorem BT87 : BT Tryz.prog 87 kApi_MemoryF (⟨(⟨(0 : Int), (0 : Int), (0 : Int)⟩ : Api_Header), (0 : Int), [], []⟩ : Api_Memory) := ⟨⟨Tryz.t87, (.agg #[.int .i64 0, .int .i64 0, .int .i64 0, .int .i64 0, .slice none 0 0, .slice none 0 0] : Value), _, [(0, 3), (3, 1), (4, 1), (5, 1)], by kernel_rfl, by kernel_rfl, Tryz.underlying87, by kernel_rfl, fun i f h => match i, f, h with
    | 0, f, h => by cases h; rfl
    | 1, f, h => by cases h; rfl
    | 2, f, h => by cases h; rfl
    | 3, f, h => by cases h; rfl
    | (_ + 4), f, h => by simp [kApi_MemoryF] at h, fun F => cells_castF (by kernel_rfl) (z_kApi_Memory F)⟩⟩
theorem sz87k : (Tryz.prog.info? 87).map (·.size) = some (Kd.n kApi_Memory) := by kernel_rfl
theorem kt87 : KT Tryz.prog 87 kApi_Memory := ⟨by kernel_rfl, by kernel_rfl⟩
theorem fb37k1 : fldB Tryz.prog 37 2 = some (offF kApi_OutcomeF 2, 4 + 1) := by kernel_rfl
theorem fb34k : fldB Tryz.prog 34 3 = some (offF kApi_ReportF 3, 0 + 1) := by kernel_rfl
theorem z_kApi_Memory_r2_3 (F : Fz) : Kd.rd kApi_Memory_r2_3 F (([.int .i64 0] ++ [.int .i64 0] ++ [.int .i64 0] ++ []) ++ [.int .i64 0] ++ [.slice none 0 0] ++ [.slice none 0 0] ++ []) (⟨(⟨(0 : Int), (0 : Int), (0 : Int)⟩ : Api_Header), (0 : Int), (.slice none 0 0), (.slice none 0 0)⟩ : Api_Memory_r2_3) := ⟨([.int .i64 0] ++ [.int .i64 0] ++ [.int .i64 0] ++ []), _, rfl, ⟨[.int .i64 0], _, rfl, rfl, ⟨[.int .i64 0], _, rfl, rfl, ⟨[.int .i64 0], _, rfl, rfl, rfl⟩⟩⟩, ⟨[.int .i64 0], _, rfl, rfl, ⟨[.slice none 0 0], _, rfl, ⟨rfl, rfl⟩, ⟨[.slice none 0 0], _, rfl, ⟨rfl, rfl⟩, rfl⟩⟩⟩⟩
theorem BT87_Api_Memory_r2_3 : BT Tryz.prog 87 kApi_Memory_r2_3F (⟨(⟨(0 : Int), (0 : Int), (0 : Int)⟩ : Api_Header), (0 : Int), (.slice none 0 0), (.slice none 0 0)⟩ : Api_Memory_r2_3) := ⟨⟨Tryz.t87, (.agg #[.int .i64 0, .int .i64 0, .int .i64 0, .int .i64 0, .slice none 0 0, .slice none 0 0] : Value), _, [(0, 3), (3, 1), (4, 1), (5, 1)], by kernel_rfl, by kernel_rfl, Tryz.underlying87, by kernel_rfl, fun i f h => match i, f, h with
    | 0, f, h => by cases h; rfl
    | 1, f, h => by cases h; rfl
    | 2, f, h => by cases h; rfl
    | 3, f, h => by cases h; rfl
    | (_ + 4), f, h => by simp [kApi_Memory_r2_3F] at h, fun F => cells_castF (by kernel_rfl) (z_kApi_Memory_r2_3 F)⟩⟩
theorem ZT87k : ZT Tryz.prog 87 kApi_Memory_r2_3 (⟨(⟨(0 : Int), (0 : Int), (0 : Int)⟩ : Api_Header), (0 : Int), (.slice none 0 0), (.slice none 0 0)⟩ : Api_Memory_r2_3) := ⟨(.agg #[.int .i64 0, .int .i64 0, .int .i64 0, .int .i64 0, .slice none 0 0, .slice none 0 0] : Value), by kernel_rfl, fun F => cells_cast (by kernel_rfl) (z_kApi_Memory_r2_3 F)⟩
theorem sz87k1 : (Tryz.prog.info? 87).map (·.size) = some (Kd.n kApi_Memory_r2_3) := by kernel_rfl
theorem fm87_0 : fldB Tryz.prog 87 0 = some (0, 2 + 1) := by kernel_rfl
theorem uf_Api_Memory_r2_3_0 : UpF kApi_Memory_r2_3F 0 ⟨kApi_Header, Api_Memory_r2_3.Header⟩ (fun x y => { x with Header := y }) := ⟨rfl, fun _ _ => rfl, fun _ _ => (by intro q hq; simp only [List.mem_cons, List.not_mem_nil, or_false] at hq; rcases hq with rfl | rfl | rfl <;> rfl)⟩
theorem fm87_3 : fldB Tryz.prog 87 3 = some (5, 0 + 1) := by kernel_rfl
theorem uf_Api_Memory_r2_3_3 : UpF kApi_Memory_r2_3F 3 ⟨kRaw, Api_Memory_r2_3.Nonces⟩ (fun x y => { x with Nonces := y }) := ⟨rfl, fun _ _ => rfl, fun _ _ => ⟨rfl, ⟨rfl, ⟨rfl, (fun q hq => by simp at hq)⟩⟩⟩⟩
theorem fm87_2 : fldB Tryz.prog 87 2 = some (4, 0 + 1) := by kernel_rfl
theorem uf_Api_Memory_r2_3_2 : UpF kApi_Memory_r2_3F 2 ⟨kRaw, Api_Memory_r2_3.From⟩ (fun x y => { x with From := y }) := ⟨rfl, fun _ _ => rfl, fun _ _ => ⟨rfl, ⟨rfl, (by intro q hq; simp only [List.mem_cons, List.not_mem_nil, or_false] at hq; rcases hq with rfl <;> rfl)⟩⟩⟩
theorem fb37k2 : fldB Tryz.prog 37 0 = some (offF kApi_OutcomeF 0, 0 + 1) := by kernel_rfl
abbrev str1 : ByteArray := ⟨#[67, 72, 82, 78, 1, 1, 0, 0, 0, 0, 0, 0, 0, 0, 0, 7, 0, 0, 0, 0, 0, 0, 0, 1, 26, 177, 1, 54]⟩
theorem str1_rd : rdOf (.raw (.string str1)) kStr [67, 72, 82, 78, 1, 1, 0, 0, 0, 0, 0, 0, 0, 0, 0, 7, 0, 0, 0, 0, 0, 0, 0, 1, 26, 177, 1, 54] := rdS (by kernel_rfl)
theorem fb87k : fldB Tryz.prog 87 1 = some (offF kApi_MemoryF 1, 0 + 1) := by kernel_rfl
theorem fb87k1 : fldB Tryz.prog 87 0 = some (offF kApi_MemoryF 0, 2 + 1) := by kernel_rfl
theorem ZT43 : ZT Tryz.prog 43 kApi_Header (⟨(0 : Int), (0 : Int), (0 : Int)⟩ : Api_Header) := ⟨(.agg #[.int .i64 0, .int .i64 0, .int .i64 0] : Value), by kernel_rfl, fun F => cells_cast (by kernel_rfl) (z_kApi_Header F)⟩
theorem sz43k : (Tryz.prog.info? 43).map (·.size) = some (Kd.n kApi_Header) := by kernel_rfl
theorem fb87k2 : fldB Tryz.prog 87 2 = some (offF kApi_MemoryF 2, 0 + 1) := by kernel_rfl
theorem fb87k3 : fldB Tryz.prog 87 3 = some (offF kApi_MemoryF 3, 0 + 1) := by kernel_rfl
theorem runj_7 {P : Program} {ops : Array Oper} {rest : List Oper} {Q : Exit → Act → World → Prop} {F0 : Fz} {n : Nat} {E : List (Nat × SV)} {L : List Res} {o0 o1 o2 o3 o4 o5 o6 : Oper} (d : Nat) (e : Bool) (k : Under F0 n ((d, .raw (.bool e)) :: E) L (wpList P ops Q rest)) (h : Under F0 n ((d, .raw (.bool e)) :: E) L (wpList P ops Q rest) → Under F0 n E L (wpList P ops Q (o0 :: o1 :: o2 :: o3 :: o4 :: o5 :: o6 :: rest))) : Under F0 n E L (wpList P ops Q (o0 :: o1 :: o2 :: o3 :: o4 :: o5 :: o6 :: rest)) := h k
theorem runj_7q {P : Program} {ops : Array Oper} {rest : List Oper} {C : World → Prop} {Qa : Act → Prop} {F0 : Fz} {n : Nat} {E : List (Nat × SV)} {o0 o1 o2 o3 o4 o5 o6 : Oper} (d : Nat) (e : Bool) (k : UnderQ F0 n ((d, .raw (.bool e)) :: E) (wpQuiet P ops C Qa rest)) (h : UnderQ F0 n ((d, .raw (.bool e)) :: E) (wpQuiet P ops C Qa rest) → UnderQ F0 n E (wpQuiet P ops C Qa (o0 :: o1 :: o2 :: o3 :: o4 :: o5 :: o6 :: rest))) : UnderQ F0 n E (wpQuiet P ops C Qa (o0 :: o1 :: o2 :: o3 :: o4 :: o5 :: o6 :: rest)) := h k
theorem z_kApi_Batch_r1 (F : Fz) : Kd.rd kApi_Batch_r1 F (([.int .i64 0] ++ [.int .i64 0] ++ [.int .i64 0] ++ []) ++ [.slice none 0 0] ++ []) (⟨(⟨(0 : Int), (0 : Int), (0 : Int)⟩ : Api_Header), (.slice none 0 0)⟩ : Api_Batch_r1) := ⟨([.int .i64 0] ++ [.int .i64 0] ++ [.int .i64 0] ++ []), _, rfl, ⟨[.int .i64 0], _, rfl, rfl, ⟨[.int .i64 0], _, rfl, rfl, ⟨[.int .i64 0], _, rfl, rfl, rfl⟩⟩⟩, ⟨[.slice none 0 0], _, rfl, ⟨rfl, rfl⟩, rfl⟩⟩
theorem BT46_Api_Batch_r1 : BT Tryz.prog 46 kApi_Batch_r1F (⟨(⟨(0 : Int), (0 : Int), (0 : Int)⟩ : Api_Header), (.slice none 0 0)⟩ : Api_Batch_r1) := ⟨⟨Tryz.t46, (.agg #[.int .i64 0, .int .i64 0, .int .i64 0, .slice none 0 0] : Value), _, [(0, 3), (3, 1)], by kernel_rfl, by kernel_rfl, Tryz.underlying46, by kernel_rfl, fun i f h => match i, f, h with
    | 0, f, h => by cases h; rfl
    | 1, f, h => by cases h; rfl
    | (_ + 2), f, h => by simp [kApi_Batch_r1F] at h, fun F => cells_castF (by kernel_rfl) (z_kApi_Batch_r1 F)⟩⟩
theorem ZT46k : ZT Tryz.prog 46 kApi_Batch_r1 (⟨(⟨(0 : Int), (0 : Int), (0 : Int)⟩ : Api_Header), (.slice none 0 0)⟩ : Api_Batch_r1) := ⟨(.agg #[.int .i64 0, .int .i64 0, .int .i64 0, .slice none 0 0] : Value), by kernel_rfl, fun F => cells_cast (by kernel_rfl) (z_kApi_Batch_r1 F)⟩
theorem sz46k1 : (Tryz.prog.info? 46).map (·.size) = some (Kd.n kApi_Batch_r1) := by kernel_rfl
theorem fm46_0 : fldB Tryz.prog 46 0 = some (0, 2 + 1) := by kernel_rfl
theorem uf_Api_Batch_r1_0 : UpF kApi_Batch_r1F 0 ⟨kApi_Header, Api_Batch_r1.Header⟩ (fun x y => { x with Header := y }) := ⟨rfl, fun _ _ => rfl, fun _ _ => (by intro q hq; simp only [List.mem_cons, List.not_mem_nil, or_false] at hq; rcases hq with rfl <;> rfl)⟩
theorem fm46_1 : fldB Tryz.prog 46 1 = some (3, 0 + 1) := by kernel_rfl
theorem uf_Api_Batch_r1_1 : UpF kApi_Batch_r1F 1 ⟨kRaw, Api_Batch_r1.Cells⟩ (fun x y => { x with Cells := y }) := ⟨rfl, fun _ _ => rfl, fun _ _ => ⟨rfl, (fun q hq => by simp at hq)⟩⟩
theorem sz22k1 : (Tryz.prog.info? 22).map (·.size) = some (Kd.n (kSl (kInt .u8))) := by kernel_rfl
theorem z_kApi_OnionKeys (F : Fz) : Kd.rd kApi_OnionKeys F ((List.replicate 16 [.int .u8 0]).flatten ++ (List.replicate 32 [.int .u8 0]).flatten ++ (List.replicate 32 [.int .u8 0]).flatten ++ []) (⟨(List.replicate 16 (0 : Int)), (List.replicate 32 (0 : Int)), (List.replicate 32 (0 : Int))⟩ : Api_OnionKeys) := ⟨(List.replicate 16 [.int .u8 0]).flatten, _, rfl, ⟨by simp, rdAll_rep (K := kInt .u8) rfl 16⟩, ⟨(List.replicate 32 [.int .u8 0]).flatten, _, rfl, ⟨by simp, rdAll_rep (K := kInt .u8) rfl 32⟩, ⟨(List.replicate 32 [.int .u8 0]).flatten, _, rfl, ⟨by simp, rdAll_rep (K := kInt .u8) rfl 32⟩, rfl⟩⟩⟩
theorem ZT181 : ZT Tryz.prog 181 kApi_OnionKeys (⟨(List.replicate 16 (0 : Int)), (List.replicate 32 (0 : Int)), (List.replicate 32 (0 : Int))⟩ : Api_OnionKeys) := ⟨(.agg (List.replicate 80 (.int .u8 0 : Value)).toArray : Value), by kernel_rfl, fun F => cells_cast (by kernel_rfl) (z_kApi_OnionKeys F)⟩
theorem BT181 : BT Tryz.prog 181 kApi_OnionKeysF (⟨(List.replicate 16 (0 : Int)), (List.replicate 32 (0 : Int)), (List.replicate 32 (0 : Int))⟩ : Api_OnionKeys) := ⟨⟨Tryz.t181, (.agg (List.replicate 80 (.int .u8 0 : Value)).toArray : Value), _, [(0, 16), (16, 32), (48, 32)], by kernel_rfl, by kernel_rfl, Tryz.underlying181, by kernel_rfl, fun i f h => match i, f, h with
    | 0, f, h => by cases h; rfl
    | 1, f, h => by cases h; rfl
    | 2, f, h => by cases h; rfl
    | (_ + 3), f, h => by simp [kApi_OnionKeysF] at h, fun F => cells_castF (by kernel_rfl) (z_kApi_OnionKeys F)⟩⟩
theorem sz181k : (Tryz.prog.info? 181).map (·.size) = some (Kd.n kApi_OnionKeys) := by kernel_rfl
theorem kt181 : KT Tryz.prog 181 kApi_OnionKeys := ⟨by kernel_rfl, by kernel_rfl⟩
theorem fb181k : fldB Tryz.prog 181 0 = some (offF kApi_OnionKeysF 0, 15 + 1) := by kernel_rfl
theorem fb181k1 : fldB Tryz.prog 181 1 = some (offF kApi_OnionKeysF 1, 31 + 1) := by kernel_rfl
abbrev str2 : ByteArray := ⟨#[67, 72, 82, 78, 1, 2, 0, 0, 0, 0, 0, 0, 0, 0, 0, 7, 0, 0, 0, 0, 0, 0, 0, 1, 26, 196, 1, 55]⟩
theorem str2_rd : rdOf (.raw (.string str2)) kStr [67, 72, 82, 78, 1, 2, 0, 0, 0, 0, 0, 0, 0, 0, 0, 7, 0, 0, 0, 0, 0, 0, 0, 1, 26, 196, 1, 55] := rdS (by kernel_rfl)
theorem runj_12 {P : Program} {ops : Array Oper} {rest : List Oper} {Q : Exit → Act → World → Prop} {F0 : Fz} {n : Nat} {E : List (Nat × SV)} {L : List Res} {o0 o1 o2 o3 o4 o5 o6 o7 o8 o9 o10 o11 : Oper} (d : Nat) (e : Bool) (k : Under F0 n ((d, .raw (.bool e)) :: E) L (wpList P ops Q rest)) (h : Under F0 n ((d, .raw (.bool e)) :: E) L (wpList P ops Q rest) → Under F0 n E L (wpList P ops Q (o0 :: o1 :: o2 :: o3 :: o4 :: o5 :: o6 :: o7 :: o8 :: o9 :: o10 :: o11 :: rest))) : Under F0 n E L (wpList P ops Q (o0 :: o1 :: o2 :: o3 :: o4 :: o5 :: o6 :: o7 :: o8 :: o9 :: o10 :: o11 :: rest)) := h k
theorem runj_12q {P : Program} {ops : Array Oper} {rest : List Oper} {C : World → Prop} {Qa : Act → Prop} {F0 : Fz} {n : Nat} {E : List (Nat × SV)} {o0 o1 o2 o3 o4 o5 o6 o7 o8 o9 o10 o11 : Oper} (d : Nat) (e : Bool) (k : UnderQ F0 n ((d, .raw (.bool e)) :: E) (wpQuiet P ops C Qa rest)) (h : UnderQ F0 n ((d, .raw (.bool e)) :: E) (wpQuiet P ops C Qa rest) → UnderQ F0 n E (wpQuiet P ops C Qa (o0 :: o1 :: o2 :: o3 :: o4 :: o5 :: o6 :: o7 :: o8 :: o9 :: o10 :: o11 :: rest))) : UnderQ F0 n E (wpQuiet P ops C Qa (o0 :: o1 :: o2 :: o3 :: o4 :: o5 :: o6 :: o7 :: o8 :: o9 :: o10 :: o11 :: rest)) := h k
theorem rw2 : RdW Tryz.prog 2 (kInt .i64) (gInt .i64) bOne := rw_int Tryz.underlying2
theorem rw3 : RdW Tryz.prog 3 (kInt .i64) (gInt .i64) bOne := rw_int Tryz.underlying3
theorem cof2 : Tryz.prog.cellsOf 2 = 1 := by kernel_rfl
theorem cof3 : Tryz.prog.cellsOf 3 = 1 := by kernel_rfl
theorem cof43 : Tryz.prog.cellsOf 43 = 3 := by kernel_rfl
def g_Api_Header (x : Api_Header) : Prop := (gInt .i64) x.Round ∧ (gInt .i64) x.Epoch ∧ (gInt .i64) x.Left ∧ True
def b_Api_Header (x : Api_Header) : Nat := bOne x.Round + (bOne x.Epoch + (bOne x.Left + 0))
theorem rw43 : RdW Tryz.prog 43 kApi_Header g_Api_Header b_Api_Header := by
  intro H enc W _ B BA hB fuel cs x h
  obtain ⟨hl, ds, hx, hf0⟩ := trod_st Tryz.underlying43 h
  obtain ⟨d0, ds0, e0, ⟨n0, p0, t0⟩, hf1⟩ := FsRd.cons hf0
  subst e0
  obtain ⟨y0, r0, g0, b0⟩ := rw2 hB t0
  obtain ⟨d1, ds1, e1, ⟨n1, p1, t1⟩, hf2⟩ := FsRd.cons hf1
  subst e1
  obtain ⟨y1, r1, g1, b1⟩ := rw2 hB t1
  obtain ⟨d2, ds2, e2, ⟨n2, p2, t2⟩, hf3⟩ := FsRd.cons hf2
  subst e2
  obtain ⟨y2, r2, g2, b2⟩ := rw3 hB t2
  have hnil := FsRd.nil hf3
  subst hnil
  refine ⟨⟨y0, y1, y2⟩, rdF_start (rdF_step cof2 r0 (rdF_step cof2 r1 (rdF_step cof3 r2 (rdF_end (hl.trans cof43) rfl)))), ⟨g0, g1, g2, trivial⟩, ?_⟩
  have := hB.agg [d0, d1, d2]
  rw [hx]
  dsimp only at b0 b1 b2
  simp only [hB.cons, hB.nil] at this
  simp only [b_Api_Header]; omega
theorem rw68 : RdW Tryz.prog 68 (kSl (kInt .i64)) (gSl (gInt .i64)) (bSl bOne) := rw_sl (K := kInt .i64) Tryz.underlying68 cof3 (by decide) rw3
theorem rw5 : RdW Tryz.prog 5 (kInt .u8) (gInt .u8) bOne := rw_int Tryz.underlying5
theorem cof64 : Tryz.prog.cellsOf 64 = 16 := by kernel_rfl
theorem cof5 : Tryz.prog.cellsOf 5 = 1 := by kernel_rfl
theorem rw64 : RdW Tryz.prog 64 (kArr 16 (kInt .u8)) (gArr 16 (gInt .u8)) (bArr bOne) := rw_arr (K := kInt .u8) Tryz.underlying64 cof64 cof5 rw5
theorem rw85 : RdW Tryz.prog 85 (kSl (kArr 16 (kInt .u8))) (gSl (gArr 16 (gInt .u8))) (bSl (bArr bOne)) := rw_sl (K := kArr 16 (kInt .u8)) Tryz.underlying85 cof64 (by decide) rw64
theorem cof68 : Tryz.prog.cellsOf 68 = 1 := by kernel_rfl
theorem cof85 : Tryz.prog.cellsOf 85 = 1 := by kernel_rfl
theorem cof87 : Tryz.prog.cellsOf 87 = 6 := by kernel_rfl
def g_Api_Memory (x : Api_Memory) : Prop := g_Api_Header x.Header ∧ (gInt .i64) x.Count ∧ (gSl (gInt .i64)) x.From ∧ (gSl (gArr 16 (gInt .u8))) x.Nonces ∧ True
def b_Api_Memory (x : Api_Memory) : Nat := b_Api_Header x.Header + (bOne x.Count + ((bSl bOne) x.From + ((bSl (bArr bOne)) x.Nonces + 0)))
theorem rw87 : RdW Tryz.prog 87 kApi_Memory g_Api_Memory b_Api_Memory := by
  intro H enc W _ B BA hB fuel cs x h
  obtain ⟨hl, ds, hx, hf0⟩ := trod_st Tryz.underlying87 h
  obtain ⟨d0, ds0, e0, ⟨n0, p0, t0⟩, hf1⟩ := FsRd.cons hf0
  subst e0
  obtain ⟨y0, r0, g0, b0⟩ := rw43 hB t0
  obtain ⟨d1, ds1, e1, ⟨n1, p1, t1⟩, hf2⟩ := FsRd.cons hf1
  subst e1
  obtain ⟨y1, r1, g1, b1⟩ := rw3 hB t1
  obtain ⟨d2, ds2, e2, ⟨n2, p2, t2⟩, hf3⟩ := FsRd.cons hf2
  subst e2
  obtain ⟨y2, r2, g2, b2⟩ := rw68 hB t2
  obtain ⟨d3, ds3, e3, ⟨n3, p3, t3⟩, hf4⟩ := FsRd.cons hf3
  subst e3
  obtain ⟨y3, r3, g3, b3⟩ := rw85 hB t3
  have hnil := FsRd.nil hf4
  subst hnil
  refine ⟨⟨y0, y1, y2, y3⟩, rdF_start (rdF_step cof43 r0 (rdF_step cof3 r1 (rdF_step cof68 r2 (rdF_step cof85 r3 (rdF_end (hl.trans cof87) rfl))))), ⟨g0, g1, g2, g3, trivial⟩, ?_⟩
  have := hB.agg [d0, d1, d2, d3]
  rw [hx]
  dsimp only at b0 b1 b2 b3
  simp only [hB.cons, hB.nil] at this
  simp only [b_Api_Memory]; omega
abbrev K0 := (kSl (kArr 16 (kInt .u8)))
abbrev K1 := (kSl (kSl (kInt .u8)))
abbrev K2 := (kArr 16 (kInt .u8))
abbrev K3 := (kArr 8 (kInt .u32))
abbrev K4 := (kArr 32 (kInt .u8))
abbrev K5 := (kArr 4 (kInt .u8))
abbrev K6 := (kSl (kInt .i64))
abbrev K7 := (kSl (kInt .u8))
abbrev K8 := (kInt .i64)
abbrev K9 := (kInt .u32)
abbrev K10 := (kInt .u8)
end Go.Proofs.YtobbmodjdkcdcaaGreatDoor

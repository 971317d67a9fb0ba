/- PRINTED BY gen2.py (of this repo): functions of the program in Lean, and that the machine follows them. -/
import Derived.Test.YtghaoenkfacmcaaGreatSim28
import Derived.Test.YtghaoenkfacmcaaGreatSim27
import Derived.Test.YtghaoenkfacmcaaGreatRows
set_option linter.unusedVariables false
set_option linter.unusedSimpArgs false
set_option maxRecDepth 20000
namespace Go.Proofs.YtghaoenkfacmcaaGreat
open Go Go.Sim Go.ChangeShapes Go.WideShapes Go.ChangeAt Go.RowKit
structure Churnlaw24_Step where
  Kind : Int
  Engine : Int
  Raw : List Int
  Tape : List Int
  Script : List Int
abbrev kChurnlaw24_StepF : List (Fld Churnlaw24_Step) := [⟨kInt .i64, Churnlaw24_Step.Kind⟩, ⟨kInt .i64, Churnlaw24_Step.Engine⟩, ⟨kSl (kInt .u8), Churnlaw24_Step.Raw⟩, ⟨kSl (kInt .u8), Churnlaw24_Step.Tape⟩, ⟨kSl (kInt .i64), Churnlaw24_Step.Script⟩]
abbrev kChurnlaw24_Step : Kd Churnlaw24_Step := kSt kChurnlaw24_StepF
structure Api_Epoch where
  Number : Int
  Tags : List (List Int)
abbrev kApi_EpochF : List (Fld Api_Epoch) := [⟨kInt .i64, Api_Epoch.Number⟩, ⟨kSl (kArr 16 (kInt .u8)), Api_Epoch.Tags⟩]
abbrev kApi_Epoch : Kd Api_Epoch := kSt kApi_EpochF
structure Api_Window where
  Newest : Int
  Epochs : List Api_Epoch
abbrev kApi_WindowF : List (Fld Api_Window) := [⟨kInt .i64, Api_Window.Newest⟩, ⟨kSl kApi_Epoch, Api_Window.Epochs⟩]
abbrev kApi_Window : Kd Api_Window := kSt kApi_WindowF
structure Api_State where
  Next : Int
  Window : Api_Window
abbrev kApi_StateF : List (Fld Api_State) := [⟨kInt .i64, Api_State.Next⟩, ⟨kApi_Window, Api_State.Window⟩]
abbrev kApi_State : Kd Api_State := kSt kApi_StateF
structure Api_Report where
  In : Int
  Malformed : Int
  Replays : Int
  Noise : Int
  Out : Int
abbrev kApi_ReportF : List (Fld Api_Report) := [⟨kInt .i64, Api_Report.In⟩, ⟨kInt .i64, Api_Report.Malformed⟩, ⟨kInt .i64, Api_Report.Replays⟩, ⟨kInt .i64, Api_Report.Noise⟩, ⟨kInt .i64, Api_Report.Out⟩]
abbrev kApi_Report : Kd Api_Report := kSt kApi_ReportF
structure Api_Outcome where
  Out : List Int
  State : Api_State
  Report : Api_Report
  Err : Int
  At : Int
abbrev kApi_OutcomeF : List (Fld Api_Outcome) := [⟨kSl (kInt .u8), Api_Outcome.Out⟩, ⟨kApi_State, Api_Outcome.State⟩, ⟨kApi_Report, Api_Outcome.Report⟩, ⟨kInt .i64, Api_Outcome.Err⟩, ⟨kInt .i64, Api_Outcome.At⟩]
abbrev kApi_Outcome : Kd Api_Outcome := kSt kApi_OutcomeF
structure Api_Config where
  Master : List Int
  Left : Int
  Span : Int
  Room : Int
  Num : Int
  Den : Int
  Noise : Int
  Chunks : Int
  Workers : Int
  Cap : Int
  Shards : Int
abbrev kApi_ConfigF : List (Fld Api_Config) := [⟨kSl (kInt .u8), Api_Config.Master⟩, ⟨kInt .i64, Api_Config.Left⟩, ⟨kInt .i64, Api_Config.Span⟩, ⟨kInt .i64, Api_Config.Room⟩, ⟨kInt .i64, Api_Config.Num⟩, ⟨kInt .i64, Api_Config.Den⟩, ⟨kInt .i64, Api_Config.Noise⟩, ⟨kInt .i64, Api_Config.Chunks⟩, ⟨kInt .i64, Api_Config.Workers⟩, ⟨kInt .i64, Api_Config.Cap⟩, ⟨kInt .i64, Api_Config.Shards⟩]
abbrev kApi_Config : Kd Api_Config := kSt kApi_ConfigF
structure Churnref24_Server where
  Live : Bool
  C : Api_Config
  S : Api_State
  Held : List Int
abbrev kChurnref24_ServerF : List (Fld Churnref24_Server) := [⟨kBool, Churnref24_Server.Live⟩, ⟨kApi_Config, Churnref24_Server.C⟩, ⟨kApi_State, Churnref24_Server.S⟩, ⟨kSl (kInt .u8), Churnref24_Server.Held⟩]
abbrev kChurnref24_Server : Kd Churnref24_Server := kSt kChurnref24_ServerF
theorem z_kInt_u8 (F : Fz) : Kd.rd (kInt .u8) F [.int .u8 0] 0 := rfl
theorem ET5 : ET Tryz.prog 5 (kInt .u8) 0 := ⟨⟨Tryz.t5, (.int .u8 0 : Value), by kernel_rfl, by kernel_rfl, by kernel_rfl, by decide, fun F => cells_cast (by kernel_rfl) (z_kInt_u8 F)⟩⟩
theorem z_kApi_Outcome (F : Fz) : Kd.rd kApi_Outcome F ([.slice none 0 0] ++ ([.int .i64 0] ++ ([.int .i64 0] ++ [.slice none 0 0] ++ []) ++ []) ++ ([.int .i64 0] ++ [.int .i64 0] ++ [.int .i64 0] ++ [.int .i64 0] ++ [.int .i64 0] ++ []) ++ [.int .i64 0] ++ [.int .i64 0] ++ []) (⟨[], (⟨0, (⟨0, []⟩ : Api_Window)⟩ : Api_State), (⟨0, 0, 0, 0, 0⟩ : Api_Report), 0, 0⟩ : Api_Outcome) := ⟨[.slice none 0 0], _, rfl, ⟨none, 0, rfl, Nat.le_refl _, .inl rfl⟩, ⟨([.int .i64 0] ++ ([.int .i64 0] ++ [.slice none 0 0] ++ []) ++ []), _, rfl, ⟨[.int .i64 0], _, rfl, rfl, ⟨([.int .i64 0] ++ [.slice none 0 0] ++ []), _, rfl, ⟨[.int .i64 0], _, rfl, rfl, ⟨[.slice none 0 0], _, rfl, ⟨none, 0, rfl, Nat.le_refl _, .inl rfl⟩, rfl⟩⟩, rfl⟩⟩, ⟨([.int .i64 0] ++ [.int .i64 0] ++ [.int .i64 0] ++ [.int .i64 0] ++ [.int .i64 0] ++ []), _, rfl, ⟨[.int .i64 0], _, rfl, rfl, ⟨[.int .i64 0], _, rfl, rfl, ⟨[.int .i64 0], _, rfl, rfl, ⟨[.int .i64 0], _, rfl, rfl, ⟨[.int .i64 0], _, rfl, rfl, rfl⟩⟩⟩⟩⟩, ⟨[.int .i64 0], _, rfl, rfl, ⟨[.int .i64 0], _, rfl, rfl, rfl⟩⟩⟩⟩⟩
theorem ZT49 : ZT Tryz.prog 49 kApi_Outcome (⟨[], (⟨0, (⟨0, []⟩ : Api_Window)⟩ : Api_State), (⟨0, 0, 0, 0, 0⟩ : Api_Report), 0, 0⟩ : Api_Outcome) := ⟨(.agg #[.slice none 0 0, .int .i64 0, .int .i64 0, .slice none 0 0, .int .i64 0, .int .i64 0, .int .i64 0, .int .i64 0, .int .i64 0, .int .i64 0, .int .i64 0] : Value), by kernel_rfl, fun F => cells_cast (by kernel_rfl) (z_kApi_Outcome F)⟩
theorem BT49 : BT Tryz.prog 49 kApi_OutcomeF (⟨[], (⟨0, (⟨0, []⟩ : Api_Window)⟩ : Api_State), (⟨0, 0, 0, 0, 0⟩ : Api_Report), 0, 0⟩ : Api_Outcome) := ⟨⟨Tryz.t49, (.agg #[.slice none 0 0, .int .i64 0, .int .i64 0, .slice none 0 0, .int .i64 0, .int .i64 0, .int .i64 0, .int .i64 0, .int .i64 0, .int .i64 0, .int .i64 0] : Value), _, [(0, 1), (1, 3), (4, 5), (9, 1), (10, 1)], by kernel_rfl, by kernel_rfl, Tryz.underlying49, by kernel_rfl, fun i f h => match i, f, h with
    | 0, f, h => by cases h; rfl
    | 1, f, h => by cases h; rfl
    | 2, f, h => by cases h; rfl
    | 3, f, h => by cases h; rfl
    | 4, f, h => by cases h; rfl
    | (_ + 5), f, h => by simp [kApi_OutcomeF] at h, fun F => cells_castF (by kernel_rfl) (z_kApi_Outcome F)⟩⟩
theorem sz49_kApi_Outcome : (Tryz.prog.info? 49).map (·.size) = some (Kd.n kApi_Outcome) := by kernel_rfl
theorem kt49 : KT Tryz.prog 49 kApi_Outcome := ⟨by kernel_rfl, by kernel_rfl⟩
theorem fb49_3 : fldB Tryz.prog 49 3 = some (offF kApi_OutcomeF 3, 0 + 1) := by kernel_rfl
theorem kt37 : KT Tryz.prog 37 (kInt .i64) := ⟨by kernel_rfl, by kernel_rfl⟩
theorem fb49_0 : fldB Tryz.prog 49 0 = some (offF kApi_OutcomeF 0, 0 + 1) := by kernel_rfl
theorem kt26 : KT Tryz.prog 26 (kSl (kInt .u8)) := ⟨by kernel_rfl, by kernel_rfl⟩
theorem z_kApi_State (F : Fz) : Kd.rd kApi_State F ([.int .i64 0] ++ ([.int .i64 0] ++ [.slice none 0 0] ++ []) ++ []) (⟨0, (⟨0, []⟩ : Api_Window)⟩ : Api_State) := ⟨[.int .i64 0], _, rfl, rfl, ⟨([.int .i64 0] ++ [.slice none 0 0] ++ []), _, rfl, ⟨[.int .i64 0], _, rfl, rfl, ⟨[.slice none 0 0], _, rfl, ⟨none, 0, rfl, Nat.le_refl _, .inl rfl⟩, rfl⟩⟩, rfl⟩⟩
theorem ZT33 : ZT Tryz.prog 33 kApi_State (⟨0, (⟨0, []⟩ : Api_Window)⟩ : Api_State) := ⟨(.agg #[.int .i64 0, .int .i64 0, .slice none 0 0] : Value), by kernel_rfl, fun F => cells_cast (by kernel_rfl) (z_kApi_State F)⟩
theorem BT33 : BT Tryz.prog 33 kApi_StateF (⟨0, (⟨0, []⟩ : Api_Window)⟩ : Api_State) := ⟨⟨Tryz.t33, (.agg #[.int .i64 0, .int .i64 0, .slice none 0 0] : Value), _, [(0, 1), (1, 2)], by kernel_rfl, by kernel_rfl, Tryz.underlying33, by kernel_rfl, fun i f h => match i, f, h with
    | 0, f, h => by cases h; rfl
    | 1, f, h => by cases h; rfl
    | (_ + 2), f, h => by simp [kApi_StateF] at h, fun F => cells_castF (by kernel_rfl) (z_kApi_State F)⟩⟩
theorem sz33_kApi_State : (Tryz.prog.info? 33).map (·.size) = some (Kd.n kApi_State) := by kernel_rfl
theorem kt33 : KT Tryz.prog 33 kApi_State := ⟨by kernel_rfl, by kernel_rfl⟩
theorem fb33_0 : fldB Tryz.prog 33 0 = some (offF kApi_StateF 0, 0 + 1) := by kernel_rfl
theorem kt2 : KT Tryz.prog 2 (kInt .i64) := ⟨by kernel_rfl, by kernel_rfl⟩
theorem runj_5 {P : Program} {ops : Array Oper} {rest : List Oper} {Q : Exit → Act → World → Prop} {F0 : Fz} {n : Nat} {E : List (Nat × SV)} {L : List Res} {o0 o1 o2 o3 o4 : Oper} (d : Nat) (e : Bool) (k : Under F0 n ((d, .raw (.bool e)) :: E) L (wpList P ops Q rest)) (h : Under F0 n ((d, .raw (.bool e)) :: E) L (wpList P ops Q rest) → Under F0 n E L (wpList P ops Q (o0 :: o1 :: o2 :: o3 :: o4 :: rest))) : Under F0 n E L (wpList P ops Q (o0 :: o1 :: o2 :: o3 :: o4 :: rest)) := h k
theorem runj_5q {P : Program} {ops : Array Oper} {rest : List Oper} {C : World → Prop} {Qa : Act → Prop} {F0 : Fz} {n : Nat} {E : List (Nat × SV)} {o0 o1 o2 o3 o4 : Oper} (d : Nat) (e : Bool) (k : UnderQ F0 n ((d, .raw (.bool e)) :: E) (wpQuiet P ops C Qa rest)) (h : UnderQ F0 n ((d, .raw (.bool e)) :: E) (wpQuiet P ops C Qa rest) → UnderQ F0 n E (wpQuiet P ops C Qa (o0 :: o1 :: o2 :: o3 :: o4 :: rest))) : UnderQ F0 n E (wpQuiet P ops C Qa (o0 :: o1 :: o2 :: o3 :: o4 :: rest)) := h k
theorem runj_4 {P : Program} {ops : Array Oper} {rest : List Oper} {Q : Exit → Act → World → Prop} {F0 : Fz} {n : Nat} {E : List (Nat × SV)} {L : List Res} {o0 o1 o2 o3 : Oper} (d : Nat) (e : Bool) (k : Under F0 n ((d, .raw (.bool e)) :: E) L (wpList P ops Q rest)) (h : Under F0 n ((d, .raw (.bool e)) :: E) L (wpList P ops Q rest) → Under F0 n E L (wpList P ops Q (o0 :: o1 :: o2 :: o3 :: rest))) : Under F0 n E L (wpList P ops Q (o0 :: o1 :: o2 :: o3 :: rest)) := h k
theorem runj_4q {P : Program} {ops : Array Oper} {rest : List Oper} {C : World → Prop} {Qa : Act → Prop} {F0 : Fz} {n : Nat} {E : List (Nat × SV)} {o0 o1 o2 o3 : Oper} (d : Nat) (e : Bool) (k : UnderQ F0 n ((d, .raw (.bool e)) :: E) (wpQuiet P ops C Qa rest)) (h : UnderQ F0 n ((d, .raw (.bool e)) :: E) (wpQuiet P ops C Qa rest) → UnderQ F0 n E (wpQuiet P ops C Qa (o0 :: o1 :: o2 :: o3 :: rest))) : UnderQ F0 n E (wpQuiet P ops C Qa (o0 :: o1 :: o2 :: o3 :: rest)) := h k
theorem z_kChurnref24_Server (F : Fz) : Kd.rd kChurnref24_Server F ([.bool false] ++ ([.slice none 0 0] ++ [.int .i64 0] ++ [.int .i64 0] ++ [.int .i64 0] ++ [.int .i64 0] ++ [.int .i64 0] ++ [.int .i64 0] ++ [.int .i64 0] ++ [.int .i64 0] ++ [.int .i64 0] ++ [.int .i64 0] ++ []) ++ ([.int .i64 0] ++ ([.int .i64 0] ++ [.slice none 0 0] ++ []) ++ []) ++ [.slice none 0 0] ++ []) (⟨false, (⟨[], 0, 0, 0, 0, 0, 0, 0, 0, 0, 0⟩ : Api_Config), (⟨0, (⟨0, []⟩ : Api_Window)⟩ : Api_State), []⟩ : Churnref24_Server) := ⟨[.bool false], _, rfl, rfl, ⟨([.slice none 0 0] ++ [.int .i64 0] ++ [.int .i64 0] ++ [.int .i64 0] ++ [.int .i64 0] ++ [.int .i64 0] ++ [.int .i64 0] ++ [.int .i64 0] ++ [.int .i64 0] ++ [.int .i64 0] ++ [.int .i64 0] ++ []), _, rfl, ⟨[.slice none 0 0], _, rfl, ⟨none, 0, rfl, Nat.le_refl _, .inl rfl⟩, ⟨[.int .i64 0], _, rfl, rfl, ⟨[.int .i64 0], _, rfl, rfl, ⟨[.int .i64 0], _, rfl, rfl, ⟨[.int .i64 0], _, rfl, rfl, ⟨[.int .i64 0], _, rfl, rfl, ⟨[.int .i64 0], _, rfl, rfl, ⟨[.int .i64 0], _, rfl, rfl, ⟨[.int .i64 0], _, rfl, rfl, ⟨[.int .i64 0], _, rfl, rfl, ⟨[.int .i64 0], _, rfl, rfl, rfl⟩⟩⟩⟩⟩⟩⟩⟩⟩⟩⟩, ⟨([.int .i64 0] ++ ([.int .i64 0] ++ [.slice none 0 0] ++ []) ++ []), _, rfl, ⟨[.int .i64 0], _, rfl, rfl, ⟨([.int .i64 0] ++ [.slice none 0 0] ++ []), _, rfl, ⟨[.int .i64 0], _, rfl, rfl, ⟨[.slice none 0 0], _, rfl, ⟨none, 0, rfl, Nat.le_refl _, .inl rfl⟩, rfl⟩⟩, rfl⟩⟩, ⟨[.slice none 0 0], _, rfl, ⟨none, 0, rfl, Nat.le_refl _, .inl rfl⟩, rfl⟩⟩⟩⟩
theorem BT35 : BT Tryz.prog 35 kChurnref24_ServerF (⟨false, (⟨[], 0, 0, 0, 0, 0, 0, 0, 0, 0, 0⟩ : Api_Config), (⟨0, (⟨0, []⟩ : Api_Window)⟩ : Api_State), []⟩ : Churnref24_Server) := ⟨⟨Tryz.t35, (.agg #[.bool false, .slice none 0 0, .int .i64 0, .int .i64 0, .int .i64 0, .int .i64 0, .int .i64 0, .int .i64 0, .int .i64 0, .int .i64 0, .int .i64 0, .int .i64 0, .int .i64 0, .int .i64 0, .slice none 0 0, .slice none 0 0] : Value), _, [(0, 1), (1, 11), (12, 3), (15, 1)], by kernel_rfl, by kernel_rfl, Tryz.underlying35, by kernel_rfl, fun i f h => match i, f, h with
    | 0, f, h => by cases h; rfl
    | 1, f, h => by cases h; rfl
    | 2, f, h => by cases h; rfl
    | 3, f, h => by cases h; rfl
    | (_ + 4), f, h => by simp [kChurnref24_ServerF] at h, fun F => cells_castF (by kernel_rfl) (z_kChurnref24_Server F)⟩⟩
theorem sz54 : (Tryz.prog.info? 54).map (·.size) = some (Kd.n kChurnlaw24_Step) := by kernel_rfl
theorem kt54 : KT Tryz.prog 54 kChurnlaw24_Step := ⟨by kernel_rfl, by kernel_rfl⟩
theorem z_kChurnlaw24_Step (F : Fz) : Kd.rd kChurnlaw24_Step F ([.int .i64 0] ++ [.int .i64 0] ++ [.slice none 0 0] ++ [.slice none 0 0] ++ [.slice none 0 0] ++ []) (⟨0, 0, [], [], []⟩ : Churnlaw24_Step) := ⟨[.int .i64 0], _, rfl, rfl, ⟨[.int .i64 0], _, rfl, rfl, ⟨[.slice none 0 0], _, rfl, ⟨none, 0, rfl, Nat.le_refl _, .inl rfl⟩, ⟨[.slice none 0 0], _, rfl, ⟨none, 0, rfl, Nat.le_refl _, .inl rfl⟩, ⟨[.slice none 0 0], _, rfl, ⟨none, 0, rfl, Nat.le_refl _, .inl rfl⟩, rfl⟩⟩⟩⟩⟩
theorem ZT54 : ZT Tryz.prog 54 kChurnlaw24_Step (⟨0, 0, [], [], []⟩ : Churnlaw24_Step) := ⟨(.agg #[.int .i64 0, .int .i64 0, .slice none 0 0, .slice none 0 0, .slice none 0 0] : Value), by kernel_rfl, fun F => cells_cast (by kernel_rfl) (z_kChurnlaw24_Step F)⟩
theorem sz54_kChurnlaw24_Step : (Tryz.prog.info? 54).map (·.size) = some (Kd.n kChurnlaw24_Step) := by kernel_rfl
theorem fb54_0 : fldB Tryz.prog 54 0 = some (offF kChurnlaw24_StepF 0, 0 + 1) := by kernel_rfl
theorem kt3 : KT Tryz.prog 3 (kInt .i64) := ⟨by kernel_rfl, by kernel_rfl⟩
theorem kt35_kChurnref24_Server : KT Tryz.prog 35 kChurnref24_Server := ⟨by kernel_rfl, by kernel_rfl⟩
theorem fb54_1 : fldB Tryz.prog 54 1 = some (offF kChurnlaw24_StepF 1, 0 + 1) := by kernel_rfl
theorem fb54_2 : fldB Tryz.prog 54 2 = some (offF kChurnlaw24_StepF 2, 0 + 1) := by kernel_rfl
theorem fb54_3 : fldB Tryz.prog 54 3 = some (offF kChurnlaw24_StepF 3, 0 + 1) := by kernel_rfl
theorem ZT35 : ZT Tryz.prog 35 kChurnref24_Server (⟨false, (⟨[], 0, 0, 0, 0, 0, 0, 0, 0, 0, 0⟩ : Api_Config), (⟨0, (⟨0, []⟩ : Api_Window)⟩ : Api_State), []⟩ : Churnref24_Server) := ⟨(.agg #[.bool false, .slice none 0 0, .int .i64 0, .int .i64 0, .int .i64 0, .int .i64 0, .int .i64 0, .int .i64 0, .int .i64 0, .int .i64 0, .int .i64 0, .int .i64 0, .int .i64 0, .int .i64 0, .slice none 0 0, .slice none 0 0] : Value), by kernel_rfl, fun F => cells_cast (by kernel_rfl) (z_kChurnref24_Server F)⟩
theorem fm35_0 : fldB Tryz.prog 35 0 = some (0, 0 + 1) := by kernel_rfl
theorem uf_Churnref24_Server_0 : UpF kChurnref24_ServerF 0 ⟨kBool, Churnref24_Server.Live⟩ (fun x y => { x with Live := y }) := ⟨rfl, fun _ _ => rfl, fun _ _ => (by intro q hq; simp only [List.mem_cons, List.not_mem_nil, or_false] at hq; rcases hq with rfl | rfl | rfl <;> rfl)⟩
theorem kt4_kBool : KT Tryz.prog 4 kBool := ⟨by kernel_rfl, by kernel_rfl⟩
theorem kt35 : KT Tryz.prog 35 kChurnref24_Server := ⟨by kernel_rfl, by kernel_rfl⟩
theorem sz35_kChurnref24_Server : (Tryz.prog.info? 35).map (·.size) = some (Kd.n kChurnref24_Server) := by kernel_rfl
theorem fb35_2 : fldB Tryz.prog 35 2 = some (offF kChurnref24_ServerF 2, 2 + 1) := by kernel_rfl
theorem fm35_1 : fldB Tryz.prog 35 1 = some (1, 10 + 1) := by kernel_rfl
theorem uf_Churnref24_Server_1 : UpF kChurnref24_ServerF 1 ⟨kApi_Config, Churnref24_Server.C⟩ (fun x y => { x with C := y }) := ⟨rfl, fun _ _ => rfl, fun _ _ => ⟨rfl, (by intro q hq; simp only [List.mem_cons, List.not_mem_nil, or_false] at hq; rcases hq with rfl | rfl <;> rfl)⟩⟩
theorem kt28_kApi_Config : KT Tryz.prog 28 kApi_Config := ⟨by kernel_rfl, by kernel_rfl⟩
theorem fm35_2 : fldB Tryz.prog 35 2 = some (12, 2 + 1) := by kernel_rfl
theorem uf_Churnref24_Server_2 : UpF kChurnref24_ServerF 2 ⟨kApi_State, Churnref24_Server.S⟩ (fun x y => { x with S := y }) := ⟨rfl, fun _ _ => rfl, fun _ _ => ⟨rfl, ⟨rfl, (by intro q hq; simp only [List.mem_cons, List.not_mem_nil, or_false] at hq; rcases hq with rfl <;> rfl)⟩⟩⟩
theorem kt33_kApi_State : KT Tryz.prog 33 kApi_State := ⟨by kernel_rfl, by kernel_rfl⟩
theorem runj_3 {P : Program} {ops : Array Oper} {rest : List Oper} {Q : Exit → Act → World → Prop} {F0 : Fz} {n : Nat} {E : List (Nat × SV)} {L : List Res} {o0 o1 o2 : Oper} (d : Nat) (e : Bool) (k : Under F0 n ((d, .raw (.bool e)) :: E) L (wpList P ops Q rest)) (h : Under F0 n ((d, .raw (.bool e)) :: E) L (wpList P ops Q rest) → Under F0 n E L (wpList P ops Q (o0 :: o1 :: o2 :: rest))) : Under F0 n E L (wpList P ops Q (o0 :: o1 :: o2 :: rest)) := h k
theorem runj_3q {P : Program} {ops : Array Oper} {rest : List Oper} {C : World → Prop} {Qa : Act → Prop} {F0 : Fz} {n : Nat} {E : List (Nat × SV)} {o0 o1 o2 : Oper} (d : Nat) (e : Bool) (k : UnderQ F0 n ((d, .raw (.bool e)) :: E) (wpQuiet P ops C Qa rest)) (h : UnderQ F0 n ((d, .raw (.bool e)) :: E) (wpQuiet P ops C Qa rest) → UnderQ F0 n E (wpQuiet P ops C Qa (o0 :: o1 :: o2 :: rest))) : UnderQ F0 n E (wpQuiet P ops C Qa (o0 :: o1 :: o2 :: rest)) := h k
theorem fb54_4 : fldB Tryz.prog 54 4 = some (offF kChurnlaw24_StepF 4, 0 + 1) := by kernel_rfl
theorem kt52 : KT Tryz.prog 52 (kSl (kInt .i64)) := ⟨by kernel_rfl, by kernel_rfl⟩
theorem fm35_3 : fldB Tryz.prog 35 3 = some (15, 0 + 1) := by kernel_rfl
theorem uf_Churnref24_Server_3 : UpF kChurnref24_ServerF 3 ⟨kSl (kInt .u8), Churnref24_Server.Held⟩ (fun x y => { x with Held := y }) := ⟨rfl, fun _ _ => rfl, fun _ _ => ⟨rfl, ⟨rfl, ⟨rfl, (fun q hq => by simp at hq)⟩⟩⟩⟩
theorem kt26_kSl_kInt_u8_ : KT Tryz.prog 26 (kSl (kInt .u8)) := ⟨by kernel_rfl, by kernel_rfl⟩
theorem AT5 : AT Tryz.prog 5 (kInt .u8) 0 1 := ⟨⟨Tryz.t5, (.int .u8 0 : Value), by kernel_rfl, by kernel_rfl, by kernel_rfl, by kernel_rfl, by decide, by decide, fun F => cells_cast (by kernel_rfl) (z_kInt_u8 F)⟩⟩
theorem sz26_kSl_kInt_u8_ : (Tryz.prog.info? 26).map (·.size) = some (Kd.n (kSl (kInt .u8))) := by kernel_rfl
theorem fb35_3 : fldB Tryz.prog 35 3 = some (offF kChurnref24_ServerF 3, 0 + 1) := by kernel_rfl
theorem fb33_1 : fldB Tryz.prog 33 1 = some (offF kApi_StateF 1, 1 + 1) := by kernel_rfl
theorem fb31_0 : fldB Tryz.prog 31 0 = some (offF kApi_WindowF 0, 0 + 1) := by kernel_rfl
theorem fb31_1 : fldB Tryz.prog 31 1 = some (offF kApi_WindowF 1, 0 + 1) := by kernel_rfl
theorem kt29 : KT Tryz.prog 29 (kSl kApi_Epoch) := ⟨by kernel_rfl, by kernel_rfl⟩
theorem sz70 : (Tryz.prog.info? 70).map (·.size) = some (Kd.n kApi_Epoch) := by kernel_rfl
theorem kt70 : KT Tryz.prog 70 kApi_Epoch := ⟨by kernel_rfl, by kernel_rfl⟩
theorem fb70_0 : fldB Tryz.prog 70 0 = some (offF kApi_EpochF 0, 0 + 1) := by kernel_rfl
theorem fb70_1 : fldB Tryz.prog 70 1 = some (offF kApi_EpochF 1, 0 + 1) := by kernel_rfl
theorem kt68 : KT Tryz.prog 68 (kSl (kArr 16 (kInt .u8))) := ⟨by kernel_rfl, by kernel_rfl⟩
theorem sz82 : (Tryz.prog.info? 82).map (·.size) = some (Kd.n (kArr 16 (kInt .u8))) := by kernel_rfl
theorem kt82 : KT Tryz.prog 82 (kArr 16 (kInt .u8)) := ⟨by kernel_rfl, by kernel_rfl⟩
theorem eqk5 : EqK Tryz.prog 5 (kInt .u8) 1 := EqK.int Tryz.underlying5
theorem kt5 : KT Tryz.prog 5 (kInt .u8) := ⟨by kernel_rfl, by kernel_rfl⟩
theorem eqk82 : EqK Tryz.prog 82 (kArr 16 (kInt .u8)) 2 := EqK.arr eqk5 kt5 Tryz.underlying82
theorem eqg82 : Tryz.prog.eqGuardType Tryz.prog.depth 82 = false := by kernel_rfl
theorem runj_8 {P : Program} {ops : Array Oper} {rest : List Oper} {Q : Exit → Act → World → Prop} {F0 : Fz} {n : Nat} {E : List (Nat × SV)} {L : List Res} {o0 o1 o2 o3 o4 o5 o6 o7 : Oper} (d : Nat) (e : Bool) (k : Under F0 n ((d, .raw (.bool e)) :: E) L (wpList P ops Q rest)) (h : Under F0 n ((d, .raw (.bool e)) :: E) L (wpList P ops Q rest) → Under F0 n E L (wpList P ops Q (o0 :: o1 :: o2 :: o3 :: o4 :: o5 :: o6 :: o7 :: rest))) : Under F0 n E L (wpList P ops Q (o0 :: o1 :: o2 :: o3 :: o4 :: o5 :: o6 :: o7 :: rest)) := h k
theorem runj_8q {P : Program} {ops : Array Oper} {rest : List Oper} {C : World → Prop} {Qa : Act → Prop} {F0 : Fz} {n : Nat} {E : List (Nat × SV)} {o0 o1 o2 o3 o4 o5 o6 o7 : Oper} (d : Nat) (e : Bool) (k : UnderQ F0 n ((d, .raw (.bool e)) :: E) (wpQuiet P ops C Qa rest)) (h : UnderQ F0 n ((d, .raw (.bool e)) :: E) (wpQuiet P ops C Qa rest) → UnderQ F0 n E (wpQuiet P ops C Qa (o0 :: o1 :: o2 :: o3 :: o4 :: o5 :: o6 :: o7 :: rest))) : UnderQ F0 n E (wpQuiet P ops C Qa (o0 :: o1 :: o2 :: o3 :: o4 :: o5 :: o6 :: o7 :: rest)) := h k
theorem runj_10 {P : Program} {ops : Array Oper} {rest : List Oper} {Q : Exit → Act → World → Prop} {F0 : Fz} {n : Nat} {E : List (Nat × SV)} {L : List Res} {o0 o1 o2 o3 o4 o5 o6 o7 o8 o9 : Oper} (d : Nat) (e : Bool) (k : Under F0 n ((d, .raw (.bool e)) :: E) L (wpList P ops Q rest)) (h : Under F0 n ((d, .raw (.bool e)) :: E) L (wpList P ops Q rest) → Under F0 n E L (wpList P ops Q (o0 :: o1 :: o2 :: o3 :: o4 :: o5 :: o6 :: o7 :: o8 :: o9 :: rest))) : Under F0 n E L (wpList P ops Q (o0 :: o1 :: o2 :: o3 :: o4 :: o5 :: o6 :: o7 :: o8 :: o9 :: rest)) := h k
theorem runj_10q {P : Program} {ops : Array Oper} {rest : List Oper} {C : World → Prop} {Qa : Act → Prop} {F0 : Fz} {n : Nat} {E : List (Nat × SV)} {o0 o1 o2 o3 o4 o5 o6 o7 o8 o9 : Oper} (d : Nat) (e : Bool) (k : UnderQ F0 n ((d, .raw (.bool e)) :: E) (wpQuiet P ops C Qa rest)) (h : UnderQ F0 n ((d, .raw (.bool e)) :: E) (wpQuiet P ops C Qa rest) → UnderQ F0 n E (wpQuiet P ops C Qa (o0 :: o1 :: o2 :: o3 :: o4 :: o5 :: o6 :: o7 :: o8 :: o9 :: rest))) : UnderQ F0 n E (wpQuiet P ops C Qa (o0 :: o1 :: o2 :: o3 :: o4 :: o5 :: o6 :: o7 :: o8 :: o9 :: rest)) := h k
theorem fb49_2 : fldB Tryz.prog 49 2 = some (offF kApi_OutcomeF 2, 4 + 1) := by kernel_rfl
theorem kt47 : KT Tryz.prog 47 kApi_Report := ⟨by kernel_rfl, by kernel_rfl⟩
theorem eqk3 : EqK Tryz.prog 3 (kInt .i64) 1 := EqK.int Tryz.underlying3
instance beq_Api_Report : BEq Api_Report := ⟨fun a b => a.In == b.In && (a.Malformed == b.Malformed && (a.Replays == b.Replays && (a.Noise == b.Noise && (a.Out == b.Out && (true)))))⟩
theorem eqk47 : EqK Tryz.prog 47 (kApi_Report) 2 := EqK.st Tryz.underlying47 (by kernel_rfl) ⟨by decide, rfl, kt3, _, EqK.up eqk3 rfl, _, fun _ _ => rfl, ⟨by decide, rfl, kt3, _, EqK.up eqk3 rfl, _, fun _ _ => rfl, ⟨by decide, rfl, kt3, _, EqK.up eqk3 rfl, _, fun _ _ => rfl, ⟨by decide, rfl, kt3, _, EqK.up eqk3 rfl, _, fun _ _ => rfl, ⟨by decide, rfl, kt3, _, EqK.up eqk3 rfl, _, fun _ _ => rfl, fun _ _ => rfl⟩⟩⟩⟩⟩
theorem eqg47 : Tryz.prog.eqGuardType Tryz.prog.depth 47 = false := by kernel_rfl
theorem fb49_4 : fldB Tryz.prog 49 4 = some (offF kApi_OutcomeF 4, 0 + 1) := by kernel_rfl
theorem fb49_1 : fldB Tryz.prog 49 1 = some (offF kApi_OutcomeF 1, 2 + 1) := by kernel_rfl
theorem runj_6 {P : Program} {ops : Array Oper} {rest : List Oper} {Q : Exit → Act → World → Prop} {F0 : Fz} {n : Nat} {E : List (Nat × SV)} {L : List Res} {o0 o1 o2 o3 o4 o5 : Oper} (d : Nat) (e : Bool) (k : Under F0 n ((d, .raw (.bool e)) :: E) L (wpList P ops Q rest)) (h : Under F0 n ((d, .raw (.bool e)) :: E) L (wpList P ops Q rest) → Under F0 n E L (wpList P ops Q (o0 :: o1 :: o2 :: o3 :: o4 :: o5 :: rest))) : Under F0 n E L (wpList P ops Q (o0 :: o1 :: o2 :: o3 :: o4 :: o5 :: rest)) := h k
theorem runj_6q {P : Program} {ops : Array Oper} {rest : List Oper} {C : World → Prop} {Qa : Act → Prop} {F0 : Fz} {n : Nat} {E : List (Nat × SV)} {o0 o1 o2 o3 o4 o5 : Oper} (d : Nat) (e : Bool) (k : UnderQ F0 n ((d, .raw (.bool e)) :: E) (wpQuiet P ops C Qa rest)) (h : UnderQ F0 n ((d, .raw (.bool e)) :: E) (wpQuiet P ops C Qa rest) → UnderQ F0 n E (wpQuiet P ops C Qa (o0 :: o1 :: o2 :: o3 :: o4 :: o5 :: rest))) : UnderQ F0 n E (wpQuiet P ops C Qa (o0 :: o1 :: o2 :: o3 :: o4 :: o5 :: rest)) := h k
theorem rw3 : RdW Tryz.prog 3 (kInt .i64) (gInt .i64) bOne := rw_int Tryz.underlying3
theorem rw5 : RdW Tryz.prog 5 (kInt .u8) (gInt .u8) bOne := rw_int Tryz.underlying5
theorem cof5 : Tryz.prog.cellsOf 5 = 1 := by kernel_rfl
theorem rw26 : RdW Tryz.prog 26 (kSl (kInt .u8)) (gSl (gInt .u8)) (bSl bOne) := rw_sl (K := kInt .u8) Tryz.underlying26 cof5 (by decide) rw5
theorem cof3 : Tryz.prog.cellsOf 3 = 1 := by kernel_rfl
theorem rw52 : RdW Tryz.prog 52 (kSl (kInt .i64)) (gSl (gInt .i64)) (bSl bOne) := rw_sl (K := kInt .i64) Tryz.underlying52 cof3 (by decide) rw3
theorem cof26 : Tryz.prog.cellsOf 26 = 1 := by kernel_rfl
theorem cof52 : Tryz.prog.cellsOf 52 = 1 := by kernel_rfl
theorem cof54 : Tryz.prog.cellsOf 54 = 5 := by kernel_rfl
def g_Churnlaw24_Step (x : Churnlaw24_Step) : Prop := (gInt .i64) x.Kind ∧ (gInt .i64) x.Engine ∧ (gSl (gInt .u8)) x.Raw ∧ (gSl (gInt .u8)) x.Tape ∧ (gSl (gInt .i64)) x.Script ∧ True
def b_Churnlaw24_Step (x : Churnlaw24_Step) : Nat := bOne x.Kind + (bOne x.Engine + ((bSl bOne) x.Raw + ((bSl bOne) x.Tape + ((bSl bOne) x.Script + 0))))
theorem rw54 : RdW Tryz.prog 54 kChurnlaw24_Step g_Churnlaw24_Step b_Churnlaw24_Step := by
  intro H enc W B BA hB fuel cs x h
  obtain ⟨hl, ds, hx, hf0⟩ := trod_st Tryz.underlying54 h
  obtain ⟨d0, ds0, e0, ⟨n0, p0, t0⟩, hf1⟩ := FsRd.cons hf0
  subst e0
  obtain ⟨y0, r0, g0, b0⟩ := rw3 hB t0
  obtain ⟨d1, ds1, e1, ⟨n1, p1, t1⟩, hf2⟩ := FsRd.cons hf1
  subst e1
  obtain ⟨y1, r1, g1, b1⟩ := rw3 hB t1
  obtain ⟨d2, ds2, e2, ⟨n2, p2, t2⟩, hf3⟩ := FsRd.cons hf2
  subst e2
  obtain ⟨y2, r2, g2, b2⟩ := rw26 hB t2
  obtain ⟨d3, ds3, e3, ⟨n3, p3, t3⟩, hf4⟩ := FsRd.cons hf3
  subst e3
  obtain ⟨y3, r3, g3, b3⟩ := rw26 hB t3
  obtain ⟨d4, ds4, e4, ⟨n4, p4, t4⟩, hf5⟩ := FsRd.cons hf4
  subst e4
  obtain ⟨y4, r4, g4, b4⟩ := rw52 hB t4
  have hnil := FsRd.nil hf5
  subst hnil
  refine ⟨⟨y0, y1, y2, y3, y4⟩, rdF_start (rdF_step cof3 r0 (rdF_step cof3 r1 (rdF_step cof26 r2 (rdF_step cof26 r3 (rdF_step cof52 r4 (rdF_end (hl.trans cof54) rfl)))))), ⟨g0, g1, g2, g3, g4, trivial⟩, ?_⟩
  have := hB.agg [d0, d1, d2, d3, d4]
  rw [hx]
  dsimp only at b0 b1 b2 b3 b4
  simp only [hB.cons, hB.nil] at this
  simp only [b_Churnlaw24_Step]; omega
theorem rw22 : RdW Tryz.prog 22 (kSl kChurnlaw24_Step) (gSl g_Churnlaw24_Step) (bSl b_Churnlaw24_Step) := rw_sl (K := kChurnlaw24_Step) Tryz.underlying22 cof54 (by decide) rw54
theorem kt22 : KT Tryz.prog 22 (kSl kChurnlaw24_Step) := ⟨by kernel_rfl, by kernel_rfl⟩
/-- (*churn/server.Server).Put -/
noncomputable def f_server_Server_Put_nv (a0 : List Int) : Option Unit :=
  some ()
theorem f_server_Server_Put_nv_ok {a0 : List Int} {r0 : Unit} (hF : f_server_Server_Put_nv a0 = some r0) (L : List Res) : Ok Tryz.prog 12 [SV.raw (.pointer none), SV.val (kSl (kInt .u8)) a0] (L) (SV.tup []) (L) := by
  unfold f_server_Server_Put_nv at hF
  refine Ok.intro 15 [(0, .raw (.pointer none)), (1, .val (kSl (kInt .u8)) a0)] Tryz.func12 rfl rfl rfl rfl (fun F0 => ?_)
  refine Under.seq ?_
  refine Under.region ?_
  refine Under.ov (OpV.move rfl) rfl ?_
  refine Under.ov (OpV.ptrNil Tryz.underlying24 (.inr rfl) rfl) rfl ?_
  refine Under.nil ?_
  refine Under.tN ?_
  refine Under.condF rfl ?_
  refine Under.code_skip ?_
  have e1 := Option.some.inj hF
  subst e1
  exact Under.rets Tryz.results12 .nil rfl rfl
/-- (*churn/server.Server).Round -/
noncomputable def f_server_Server_Round_nvvvv (a0 : Int) (a1 : List Int) (a2 : List Int) (a3 : List Int) : Option Api_Outcome :=
  some (⟨[], (⟨0, (⟨0, []⟩ : Api_Window)⟩ : Api_State), (⟨0, 0, 0, 0, 0⟩ : Api_Report), 210, 0⟩ : Api_Outcome)
theorem f_server_Server_Round_nvvvv_ok {a0 : Int} {a1 : List Int} {a2 : List Int} {a3 : List Int} {r0 : Api_Outcome} (hF : f_server_Server_Round_nvvvv a0 a1 a2 a3 = some r0) (L : List Res) : Ok Tryz.prog 13 [SV.raw (.pointer none), SV.raw (.int .i64 a0), SV.val (kSl (kInt .u8)) a1, SV.val (kSl (kInt .u8)) a2, SV.val (kSl (kInt .i64)) a3] (L) (SV.val kApi_Outcome r0) (L) := by
  unfold f_server_Server_Round_nvvvv at hF
  refine Ok.intro 58 [(0, .raw (.pointer none)), (1, .raw (.int .i64 a0)), (2, .val (kSl (kInt .u8)) a1), (3, .val (kSl (kInt .u8)) a2), (4, .val (kSl (kInt .i64)) a3)] Tryz.func13 rfl rfl rfl rfl (fun F0 => ?_)
  refine Under.seq ?_
  refine Under.region ?_
  refine Under.al ZT49 rfl fun b1 => ?_
  refine Under.nil ?_
  refine Under.tN ?_
  refine Under.seq ?_
  refine Under.seq ?_
  refine Under.region ?_
  refine Under.ov (OpV.move rfl) rfl ?_
  refine Under.ov (OpV.ptrNil Tryz.underlying24 (.inl rfl) rfl) rfl ?_
  refine Under.nil ?_
  refine Under.tN ?_
  refine Under.condT rfl ?_
  refine Under.seq ?_
  refine Under.region ?_
  refine Under.ov (OpV.bst BT49 (Bld.cons (x' := (⟨[], (⟨0, (⟨0, []⟩ : Api_Window)⟩ : Api_State), (⟨0, 0, 0, 0, 0⟩ : Api_Report), 210, 0⟩ : Api_Outcome)) rfl rfl rdI ⟨rfl, ⟨rfl, ⟨rfl, (by intro q hq; simp only [List.mem_cons, List.not_mem_nil, or_false] at hq; rcases hq with rfl <;> rfl)⟩⟩⟩ (Bld.nil _))) rfl ?_
  refine Under.stP (x' := (⟨[], (⟨0, (⟨0, []⟩ : Api_Window)⟩ : Api_State), (⟨0, 0, 0, 0, 0⟩ : Api_Report), 210, 0⟩ : Api_Outcome)) .box .id sz49_kApi_Outcome rfl rfl rdV rfl ?_
  refine Under.nil ?_
  refine Under.frz (t := 10) rfl ?_
  refine Under.tN ?_
  refine Under.retc ?_
  refine Under.tR ?_
  have e2 := Option.some.inj hF
  subst e2
  exact Under.rets Tryz.results13 (.ce rfl kt49 .nil) rfl rfl
/-- (*churn/server.Server).Finish -/
noncomputable def f_server_Server_Finish_nv (a0 : List Int) : Option Api_Outcome :=
  some (⟨[], (⟨0, (⟨0, []⟩ : Api_Window)⟩ : Api_State), (⟨0, 0, 0, 0, 0⟩ : Api_Report), 210, 0⟩ : Api_Outcome)
theorem f_server_Server_Finish_nv_ok {a0 : List Int} {r0 : Api_Outcome} (hF : f_server_Server_Finish_nv a0 = some r0) (L : List Res) : Ok Tryz.prog 14 [SV.raw (.pointer none), SV.val (kSl (kInt .u8)) a0] (L) (SV.val kApi_Outcome r0) (L) := by
  unfold f_server_Server_Finish_nv at hF
  refine Ok.intro 20 [(0, .raw (.pointer none)), (1, .val (kSl (kInt .u8)) a0)] Tryz.func14 rfl rfl rfl rfl (fun F0 => ?_)
  refine Under.seq ?_
  refine Under.region ?_
  refine Under.al ZT49 rfl fun b1 => ?_
  refine Under.nil ?_
  refine Under.tN ?_
  refine Under.seq ?_
  refine Under.seq ?_
  refine Under.region ?_
  refine Under.ov (OpV.move rfl) rfl ?_
  refine Under.ov (OpV.ptrNil Tryz.underlying24 (.inl rfl) rfl) rfl ?_
  refine Under.nil ?_
  refine Under.tN ?_
  refine Under.condT rfl ?_
  refine Under.seq ?_
  refine Under.region ?_
  refine Under.ov (OpV.bst BT49 (Bld.cons (x' := (⟨[], (⟨0, (⟨0, []⟩ : Api_Window)⟩ : Api_State), (⟨0, 0, 0, 0, 0⟩ : Api_Report), 210, 0⟩ : Api_Outcome)) rfl rfl rdI ⟨rfl, ⟨rfl, ⟨rfl, (by intro q hq; simp only [List.mem_cons, List.not_mem_nil, or_false] at hq; rcases hq with rfl <;> rfl)⟩⟩⟩ (Bld.nil _))) rfl ?_
  refine Under.stP (x' := (⟨[], (⟨0, (⟨0, []⟩ : Api_Window)⟩ : Api_State), (⟨0, 0, 0, 0, 0⟩ : Api_Report), 210, 0⟩ : Api_Outcome)) .box .id sz49_kApi_Outcome rfl rfl rdV rfl ?_
  refine Under.nil ?_
  refine Under.frz (t := 4) rfl ?_
  refine Under.tN ?_
  refine Under.retc ?_
  refine Under.tR ?_
  have e2 := Option.some.inj hF
  subst e2
  exact Under.rets Tryz.results14 (.ce rfl kt49 .nil) rfl rfl
/-- (*churn/server.Server).State -/
noncomputable def f_server_Server_State_n  : Option Api_State :=
  some (⟨0, (⟨0, []⟩ : Api_Window)⟩ : Api_State)
theorem f_server_Server_State_n_ok  {r0 : Api_State} (hF : f_server_Server_State_n = some r0) (L : List Res) : Ok Tryz.prog 10 [SV.raw (.pointer none)] (L) (SV.val kApi_State r0) (L) := by
  unfold f_server_Server_State_n at hF
  refine Ok.intro 11 [(0, .raw (.pointer none))] Tryz.func10 rfl rfl rfl rfl (fun F0 => ?_)
  refine Under.seq ?_
  refine Under.region ?_
  refine Under.al ZT33 rfl fun b1 => ?_
  refine Under.nil ?_
  refine Under.tN ?_
  refine Under.seq ?_
  refine Under.seq ?_
  refine Under.region ?_
  refine Under.ov (OpV.move rfl) rfl ?_
  refine Under.ov (OpV.ptrNil Tryz.underlying24 (.inl rfl) rfl) rfl ?_
  refine Under.nil ?_
  refine Under.tN ?_
  refine Under.condT rfl ?_
  refine Under.seq ?_
  refine Under.region ?_
  refine Under.ov (OpV.bst BT33 (Bld.nil _)) rfl ?_
  refine Under.stP (x' := (⟨0, (⟨0, []⟩ : Api_Window)⟩ : Api_State)) .box .id sz33_kApi_State rfl rfl rdV rfl ?_
  refine Under.nil ?_
  refine Under.frz (t := 2) rfl ?_
  refine Under.tN ?_
  refine Under.retc ?_
  refine Under.tR ?_
  have e2 := Option.some.inj hF
  subst e2
  exact Under.rets Tryz.results10 (.ce rfl kt33 .nil) rfl rfl
/-- churn/churnlaw24.awake -/
noncomputable def f_churnlaw24_awake  : Option Bool :=
  (f_server_Server_Put_nv [1]).bind fun y1 =>
  (f_server_Server_Round_nvvvv 0 [] [] []).bind fun y3 =>
  (f_server_Server_Finish_nv []).bind fun y6 =>
  ((bif ((y3.Err == 210) && (y6.Err == 210)) && ((y3.Out.length : Int) == 0) then
    (f_server_Server_State_n).bind fun y18 =>
    some (y18.Next == 0)
  else
    some false
    : Option Bool)).bind fun x17 =>
  some x17
theorem f_churnlaw24_awake_ok  {r0 : Bool} (hF : f_churnlaw24_awake = some r0) (L : List Res) : Ok Tryz.prog 5 [] (L) (SV.raw (.bool r0)) (L) := by
  unfold f_churnlaw24_awake at hF
  refine Ok.intro 31 [] Tryz.func5 rfl rfl rfl rfl (fun F0 => ?_)
  refine Under.seq ?_
  refine Under.region ?_
  refine Under.ov (OpV.asg rfl) rfl ?_
  refine Under.nil ?_
  refine Under.tN ?_
  refine Under.seq ?_
  refine Under.region ?_
  refine Under.ov (OpV.asg rfl) rfl ?_
  refine Under.nil ?_
  refine Under.tN ?_
  refine Under.seq ?_
  refine Under.region ?_
  refine Under.ov (OpV.move rfl) rfl ?_
  refine Under.bsF (ys := [1]) Tryz.underlying26 ET5 (BldA.cons rfl rfl rdI (BldA.nil _)) rfl rfl ?_
  obtain ⟨y1, h2, hF⟩ := bsome hF
  refine Under.call Tryz.call12 rfl rfl (f_server_Server_Put_nv_ok h2 _) rfl ?_
  refine Under.nil ?_
  refine Under.tN ?_
  refine Under.seq ?_
  refine Under.region ?_
  refine Under.ov (OpV.move rfl) rfl ?_
  obtain ⟨y3, h4, hF⟩ := bsome hF
  refine Under.call Tryz.call13 rfl rfl (Ok.cv (.sm (.sm (.rd rdN (.rd rdN (.rd rdN .nil))))) (f_server_Server_Round_nvvvv_ok h4 _)) rfl ?_
  refine Under.al ZT49 rfl fun b5 => ?_
  refine Under.stP (x' := y3) .box .id sz49_kApi_Outcome rfl rfl rdV rfl ?_
  refine Under.nil ?_
  refine Under.frz (t := 2) rfl ?_
  refine Under.tN ?_
  refine Under.seq ?_
  refine Under.region ?_
  refine Under.ov (OpV.move rfl) rfl ?_
  obtain ⟨y6, h7, hF⟩ := bsome hF
  refine Under.call Tryz.call14 rfl rfl (Ok.cv (.sm (.rd rdN .nil)) (f_server_Server_Finish_nv_ok h7 _)) rfl ?_
  refine Under.al ZT49 rfl fun b8 => ?_
  refine Under.stP (x' := y6) .box .id sz49_kApi_Outcome rfl rfl rdV rfl ?_
  refine Under.nil ?_
  refine Under.frz (t := 3) rfl ?_
  refine Under.tN ?_
  refine Under.seq ?_
  refine Under.region ?_
  refine Under.ov (OpV.fd fb49_3 rfl rfl) rfl ?_
  refine Under.ov (OpV.ldI kt37 rfl) rfl ?_
  refine Under.ov (OpV.bin rfl rfl rfl) rfl ?_
  refine Under.ov (OpV.move rfl) rfl ?_
  refine runj_4 18 ((y3.Err == 210) && (y6.Err == 210)) ?_ (fun k => ?_)
  · refine Under.ov (OpV.move rfl) rfl ?_
    refine runj_5 24 (((y3.Err == 210) && (y6.Err == 210)) && ((y3.Out.length : Int) == 0)) ?_ (fun k => ?_)
    · refine Under.ov (OpV.move rfl) rfl ?_
      obtain ⟨x17, h16, hF⟩ := bsome hF
      refine runj_5 30 x17 ?_ (fun k => ?_)
      · refine Under.ov (OpV.asg rfl) rfl ?_
        refine Under.nil ?_
        refine Under.tN ?_
        refine Under.retc ?_
        have e20 := Option.some.inj hF
        subst e20
        exact Under.rets Tryz.results5 (.tm rfl .nil) rfl rfl
      · refine Under.byc (t := 25) rfl (fun c15 => ?_) (fun c15 => ?_)
        · replace h16 := ctrue c15 h16
          refine Under.goc c15 rfl rfl ?_
          refine Under.ov (OpV.move rfl) rfl ?_
          obtain ⟨y18, h19, h16⟩ := bsome h16
          refine Under.goc c15 rfl rfl ?_
          refine Under.call Tryz.call10 rfl rfl (f_server_Server_State_n_ok h19 _) rfl ?_
          refine Under.goc c15 rfl rfl ?_
          refine Under.ov (OpV.fdVI fb33_0 kt2 rfl rfl ⟨_, _, Tryz.underlying33, rfl, rfl⟩) rfl ?_
          refine Under.goc c15 rfl rfl ?_
          refine Under.ov (OpV.bin rfl rfl rfl) rfl ?_
          refine Under.ov (OpV.pick rfl (fun e => rfl) (fun e => absurd (e.symm.trans c15) (by decide))) rfl ?_
          exact Under.rfin 4 (congrArg (fun b => SV.raw (.bool b)) (Option.some.inj h16)) rfl k
        · replace h16 := cfalse c15 h16
          refine Under.skc c15 rfl rfl rfl ?_
          refine Under.skc c15 rfl rfl rfl ?_
          refine Under.skc c15 rfl rfl rfl ?_
          refine Under.skc c15 rfl rfl rfl ?_
          refine Under.ov (OpV.pick rfl (fun e => absurd (e.symm.trans c15) (by decide)) (fun e => rfl)) rfl ?_
          exact Under.rfin 4 (congrArg (fun b => SV.raw (.bool b)) (Option.some.inj h16)) rfl k
    · refine Under.byc (t := 19) rfl (fun c12 => ?_) (fun c12 => ?_)
      · refine Under.goc c12 rfl rfl ?_
        refine Under.ov (OpV.fd fb49_0 rfl rfl) rfl ?_
        refine Under.goc c12 rfl rfl ?_
        refine Under.ov (OpV.ld kt26 rfl) rfl ?_
        refine Under.goc c12 rfl rfl ?_
        refine Under.ov (OpV.len Tryz.underlying26 rfl rdV) rfl ?_
        refine Under.goc c12 rfl rfl ?_
        refine Under.ov (OpV.bin rfl rfl rfl) rfl ?_
        refine Under.ov (OpV.pick rfl (fun e => rfl) (fun e => absurd (e.symm.trans c12) (by decide))) rfl ?_
        exact Under.rfin 4 (and_t c12) rfl k
      · refine Under.skc c12 rfl rfl rfl ?_
        refine Under.skc c12 rfl rfl rfl ?_
        refine Under.skc c12 rfl rfl rfl ?_
        refine Under.skc c12 rfl rfl rfl ?_
        refine Under.ov (OpV.pick rfl (fun e => absurd (e.symm.trans c12) (by decide)) (fun e => rfl)) rfl ?_
        exact Under.rfin 4 (and_f (e := (y3.Out.length : Int) == 0) c12) rfl k
  · refine Under.byc (t := 14) rfl (fun c9 => ?_) (fun c9 => ?_)
    · refine Under.goc c9 rfl rfl ?_
      refine Under.ov (OpV.fd fb49_3 rfl rfl) rfl ?_
      refine Under.goc c9 rfl rfl ?_
      refine Under.ov (OpV.ldI kt37 rfl) rfl ?_
      refine Under.goc c9 rfl rfl ?_
      refine Under.ov (OpV.bin rfl rfl rfl) rfl ?_
      refine Under.ov (OpV.pick rfl (fun e => rfl) (fun e => absurd (e.symm.trans c9) (by decide))) rfl ?_
      exact Under.rfin 3 (and_t c9) rfl k
    · refine Under.skc c9 rfl rfl rfl ?_
      refine Under.skc c9 rfl rfl rfl ?_
      refine Under.skc c9 rfl rfl rfl ?_
      refine Under.ov (OpV.pick rfl (fun e => absurd (e.symm.trans c9) (by decide)) (fun e => rfl)) rfl ?_
      exact Under.rfin 3 (and_f (e := y6.Err == 210) c9) rfl k
/-- churn/churnref24.Round -/
noncomputable def f_churnref24_Round (a0 : Churnref24_Server) (a1 : Int) (a2 : List Int) (a3 : List Int) : Option (Api_Outcome × Churnref24_Server) :=
  bif !a0.Live then
    some ((⟨[], (⟨0, (⟨0, []⟩ : Api_Window)⟩ : Api_State), (⟨0, 0, 0, 0, 0⟩ : Api_Report), 210, 0⟩ : Api_Outcome), a0)
  else
    bif (decide (a1 < 0)) || (decide (a1 > 2)) then
      some ((⟨[], a0.S, (⟨0, 0, 0, 0, 0⟩ : Api_Report), 2, 0⟩ : Api_Outcome), a0)
    else
      none
theorem f_churnref24_Round_ok {a0 : Churnref24_Server} {a1 : Int} {a2 : List Int} {a3 : List Int} {r0 : (Api_Outcome × Churnref24_Server)} (hF : f_churnref24_Round a0 a1 a2 a3 = some r0) (L : List Res) : Ok Tryz.prog 15 [SV.val kChurnref24_Server a0, SV.raw (.int .i64 a1), SV.val (kSl (kInt .u8)) a2, SV.val (kSl (kInt .u8)) a3] (L) (SV.tup [SV.val kApi_Outcome r0.1, SV.val kChurnref24_Server r0.2]) (L) := by
  unfold f_churnref24_Round at hF
  refine Ok.intro 41 [(0, .val kChurnref24_Server a0), (1, .raw (.int .i64 a1)), (2, .val (kSl (kInt .u8)) a2), (3, .val (kSl (kInt .u8)) a3)] Tryz.func15 rfl rfl rfl rfl (fun F0 => ?_)
  refine Under.seq ?_
  refine Under.region ?_
  refine Under.bx (K := kChurnref24_Server) rfl rdV rfl fun b1 => ?_
  refine Under.al ZT49 rfl fun b2 => ?_
  refine Under.al ZT35 rfl fun b3 => ?_
  refine Under.nil ?_
  refine Under.tN ?_
  refine Under.seq ?_
  refine Under.seq ?_
  refine Under.region ?_
  refine Under.ov (OpV.fdM fm35_0 rfl) rfl ?_
  refine Under.fo2 ?_
  refine Under.ldP .box (.fld .id uf_Churnref24_Server_0) kt4_kBool rfl rfl ?_
  refine Under.rawB (t := 12) rfl ?_
  refine Under.ov (OpV.not rfl) rfl ?_
  refine Under.nil ?_
  refine Under.tN ?_
  refine Under.ite hF rfl (fun hF => ?_) (fun hF => ?_)
  · refine Under.frz (t := 4) rfl ?_
    refine Under.seq ?_
    refine Under.phases rfl ?_
    refine Under.fo1 ?_
    refine Under.fo1 ?_
    refine Under.grpA (L := L) [0, 1, 2] [[], [4], [8, 14]] [.v (.val kApi_Outcome (⟨[], (⟨0, (⟨0, []⟩ : Api_Window)⟩ : Api_State), (⟨0, 0, 0, 0, 0⟩ : Api_Report), 210, 0⟩ : Api_Outcome)), .v (.val kChurnref24_Server a0), .sx 0] [] [((.box kApi_Outcome b2 49 (⟨[], (⟨0, (⟨0, []⟩ : Api_Window)⟩ : Api_State), (⟨0, 0, 0, 0, 0⟩ : Api_Report), 0, 0⟩ : Api_Outcome)), (.box kApi_Outcome b2 49 (⟨[], (⟨0, (⟨0, []⟩ : Api_Window)⟩ : Api_State), (⟨0, 0, 0, 0, 0⟩ : Api_Report), 210, 0⟩ : Api_Outcome)), 2)] (fun T : List Res => (.box kChurnref24_Server b3 35 (⟨false, (⟨[], 0, 0, 0, 0, 0, 0, 0, 0, 0, 0⟩ : Api_Config), (⟨0, (⟨0, []⟩ : Api_Window)⟩ : Api_State), []⟩ : Churnref24_Server)) :: T) lf1 rfl (by kernel_rfl) (ItsOk.of rfl rfl) (by kernel_rfl) rfl (fun F hF0 => ?_)
    refine Aq.v (fun G T hG => ?_) ?_
    · refine Under.ov (OpV.bst BT49 (Bld.cons (x' := (⟨[], (⟨0, (⟨0, []⟩ : Api_Window)⟩ : Api_State), (⟨0, 0, 0, 0, 0⟩ : Api_Report), 210, 0⟩ : Api_Outcome)) rfl rfl rdI ⟨rfl, ⟨rfl, ⟨rfl, (by intro q hq; simp only [List.mem_cons, List.not_mem_nil, or_false] at hq; rcases hq with rfl <;> rfl)⟩⟩⟩ (Bld.nil _))) rfl ?_
      exact Zq.done rfl
    refine Aq.v (fun G T hG => ?_) ?_
    · refine Under.ov (OpV.ld kt35 rfl) rfl ?_
      exact Zq.done rfl
    refine Aq.sx rfl (fun G T hG => ?_) ?_
    · refine Under.stP (x' := (⟨[], (⟨0, (⟨0, []⟩ : Api_Window)⟩ : Api_State), (⟨0, 0, 0, 0, 0⟩ : Api_Report), 210, 0⟩ : Api_Outcome)) .box .id sz49_kApi_Outcome rfl rfl rdV rfl ?_
      exact Aq.std
    refine Aq.nil ?_
    refine Under.le hF0 ?_
    refine Under.p1 3 rfl rfl ?_
    refine Under.stP (x' := a0) .box .id sz35_kChurnref24_Server rfl rfl rdV rfl ?_
    refine Under.pn ?_
    refine Under.pdone rfl ?_
    refine Under.frz (t := 9) rfl ?_
    refine Under.frz (t := 8) rfl ?_
    refine Under.tN ?_
    refine Under.retc ?_
    refine Under.tR ?_
    have e4 := Option.some.inj hF
    subst e4
    exact Under.rets Tryz.results15 (.ce rfl kt49 (.ce rfl kt35 .nil)) rfl rfl
  · refine Under.code_skip ?_
    refine Under.tN ?_
    refine Under.seq ?_
    refine Under.seq ?_
    refine Under.region ?_
    refine Under.ov (OpV.move rfl) rfl ?_
    refine Under.ov (OpV.bin rfl rfl rfl) rfl ?_
    refine Under.ov (OpV.move rfl) rfl ?_
    refine runj_3 21 ((decide (a1 < 0)) || (decide (a1 > 2))) ?_ (fun k => ?_)
    · refine Under.nil ?_
      refine Under.tN ?_
      refine Under.ite hF rfl (fun hF => ?_) (fun hF => ?_)
      · refine Under.frz (t := 4) rfl ?_
        refine Under.seq ?_
        refine Under.phases rfl ?_
        refine Under.fo1 ?_
        refine Under.fo1 ?_
        refine Under.grpA (L := L) [0, 1, 2, 3, 4] [[4], [22], [23], [4], [8, 24]] [.v (.ptr kApi_State a0.S), .v (.val kApi_State a0.S), .v (.val kApi_Outcome (⟨[], a0.S, (⟨0, 0, 0, 0, 0⟩ : Api_Report), 2, 0⟩ : Api_Outcome)), .v (.val kChurnref24_Server a0), .sx 0] [] [((.box kApi_Outcome b2 49 (⟨[], (⟨0, (⟨0, []⟩ : Api_Window)⟩ : Api_State), (⟨0, 0, 0, 0, 0⟩ : Api_Report), 0, 0⟩ : Api_Outcome)), (.box kApi_Outcome b2 49 (⟨[], a0.S, (⟨0, 0, 0, 0, 0⟩ : Api_Report), 2, 0⟩ : Api_Outcome)), 4)] (fun T : List Res => (.box kChurnref24_Server b3 35 (⟨false, (⟨[], 0, 0, 0, 0, 0, 0, 0, 0, 0, 0⟩ : Api_Config), (⟨0, (⟨0, []⟩ : Api_Window)⟩ : Api_State), []⟩ : Churnref24_Server)) :: T) lf1 rfl (by kernel_rfl) (ItsOk.of rfl rfl) (by kernel_rfl) rfl (fun F hF0 => ?_)
        refine Aq.v (fun G T hG => ?_) ?_
        · refine Under.ov (OpV.fd fb35_2 rfl rfl) rfl ?_
          exact Zq.done rfl
        refine Aq.v (fun G T hG => ?_) ?_
        · refine Under.ov (OpV.ld kt33 rfl) rfl ?_
          exact Zq.done rfl
        refine Aq.v (fun G T hG => ?_) ?_
        · refine Under.ov (OpV.bst BT49 (Bld.cons (x' := (⟨[], a0.S, (⟨0, 0, 0, 0, 0⟩ : Api_Report), 0, 0⟩ : Api_Outcome)) rfl rfl rdV ⟨rfl, (by intro q hq; simp only [List.mem_cons, List.not_mem_nil, or_false] at hq; rcases hq with rfl | rfl | rfl <;> rfl)⟩ (Bld.cons (x' := (⟨[], a0.S, (⟨0, 0, 0, 0, 0⟩ : Api_Report), 2, 0⟩ : Api_Outcome)) rfl rfl rdI ⟨rfl, ⟨rfl, ⟨rfl, (by intro q hq; simp only [List.mem_cons, List.not_mem_nil, or_false] at hq; rcases hq with rfl <;> rfl)⟩⟩⟩ (Bld.nil _)))) rfl ?_
          exact Zq.done rfl
        refine Aq.v (fun G T hG => ?_) ?_
        · refine Under.ov (OpV.ld kt35 rfl) rfl ?_
          exact Zq.done rfl
        refine Aq.sx rfl (fun G T hG => ?_) ?_
        · refine Under.stP (x' := (⟨[], a0.S, (⟨0, 0, 0, 0, 0⟩ : Api_Report), 2, 0⟩ : Api_Outcome)) .box .id sz49_kApi_Outcome rfl rfl rdV rfl ?_
          exact Aq.std
        refine Aq.nil ?_
        refine Under.le hF0 ?_
        refine Under.p1 5 rfl rfl ?_
        refine Under.stP (x' := a0) .box .id sz35_kChurnref24_Server rfl rfl rdV rfl ?_
        refine Under.pn ?_
        refine Under.pdone rfl ?_
        refine Under.frz (t := 9) rfl ?_
        refine Under.frz (t := 8) rfl ?_
        refine Under.tN ?_
        refine Under.retc ?_
        refine Under.tR ?_
        have e8 := Option.some.inj hF
        subst e8
        exact Under.rets Tryz.results15 (.ce rfl kt49 (.ce rfl kt35 .nil)) rfl rfl
      · refine Under.code_skip ?_
        refine Under.tN ?_
        refine Under.seq ?_
        refine Under.region ?_
        refine Under.ov (OpV.fdM fm35_1 rfl) rfl ?_
        refine Under.ldP .box (.fld .id uf_Churnref24_Server_1) kt28_kApi_Config rfl rfl ?_
        refine Under.ov (OpV.fdM fm35_2 rfl) rfl ?_
        refine Under.ldP .box (.fld .id uf_Churnref24_Server_2) kt33_kApi_State rfl rfl ?_
        refine Under.ov (OpV.move rfl) rfl ?_
        refine Under.ov (OpV.move rfl) rfl ?_
        cases hF
    · refine Under.byc (t := 18) rfl (fun c5 => ?_) (fun c5 => ?_)
      · refine Under.skc c5 rfl rfl rfl ?_
        refine Under.skc c5 rfl rfl rfl ?_
        refine Under.ov (OpV.pick rfl (fun e => rfl) (fun e => absurd (e.symm.trans c5) (by decide))) rfl ?_
        exact Under.rfin 2 (or_t (e := decide (a1 > 2)) c5) rfl k
      · refine Under.goc c5 rfl rfl ?_
        refine Under.ov (OpV.move rfl) rfl ?_
        refine Under.goc c5 rfl rfl ?_
        refine Under.ov (OpV.bin rfl rfl rfl) rfl ?_
        refine Under.ov (OpV.pick rfl (fun e => absurd (e.symm.trans c5) (by decide)) (fun e => rfl)) rfl ?_
        exact Under.rfin 2 (or_f c5) rfl k
/-- churn/churnref24.Put -/
noncomputable def f_churnref24_Put (a0 : Churnref24_Server) (a1 : List Int) : Option Churnref24_Server :=
  bif !a0.Live then
    some a0
  else
    bif mkB 0 (IntKind.wrap .i64 ((a0.Held.length : Int) + (a1.length : Int))) then
    (app (List.replicate (Int.toNat 0) 0) a0.Held).bind fun z7 =>
    (app z7 a1).bind fun z10 =>
    some ({ a0 with Held := z10 } : Churnref24_Server)
    else none
theorem f_churnref24_Put_ok {a0 : Churnref24_Server} {a1 : List Int} {r0 : Churnref24_Server} (hF : f_churnref24_Put a0 a1 = some r0) (L : List Res) : Ok Tryz.prog 16 [SV.val kChurnref24_Server a0, SV.val (kSl (kInt .u8)) a1] (L) (SV.val kChurnref24_Server r0) (L) := by
  unfold f_churnref24_Put at hF
  refine Ok.intro 27 [(0, .val kChurnref24_Server a0), (1, .val (kSl (kInt .u8)) a1)] Tryz.func16 rfl rfl rfl rfl (fun F0 => ?_)
  refine Under.seq ?_
  refine Under.region ?_
  refine Under.bx (K := kChurnref24_Server) rfl rdV rfl fun b1 => ?_
  refine Under.al ZT35 rfl fun b2 => ?_
  refine Under.nil ?_
  refine Under.tN ?_
  refine Under.seq ?_
  refine Under.seq ?_
  refine Under.region ?_
  refine Under.ov (OpV.fdM fm35_0 rfl) rfl ?_
  refine Under.fo1 ?_
  refine Under.ldP .box (.fld .id uf_Churnref24_Server_0) kt4_kBool rfl rfl ?_
  refine Under.rawB (t := 7) rfl ?_
  refine Under.ov (OpV.not rfl) rfl ?_
  refine Under.nil ?_
  refine Under.tN ?_
  refine Under.ite hF rfl (fun hF => ?_) (fun hF => ?_)
  · refine Under.frz (t := 2) rfl ?_
    refine Under.seq ?_
    refine Under.region ?_
    refine Under.ov (OpV.ld kt35 rfl) rfl ?_
    refine Under.stP (x' := a0) .box .id sz35_kChurnref24_Server rfl rfl rdV rfl ?_
    refine Under.nil ?_
    refine Under.frz (t := 4) rfl ?_
    refine Under.tN ?_
    refine Under.retc ?_
    refine Under.tR ?_
    have e3 := Option.some.inj hF
    subst e3
    exact Under.rets Tryz.results16 (.ce rfl kt35 .nil) rfl rfl
  · refine Under.code_skip ?_
    refine Under.tN ?_
    refine Under.seq ?_
    refine Under.region ?_
    refine Under.ov (OpV.fdM fm35_3 rfl) rfl ?_
    refine Under.ldP .box (.fld .id uf_Churnref24_Server_3) kt26_kSl_kInt_u8_ rfl rfl ?_
    refine Under.ov (OpV.len Tryz.underlying26 rfl rdV) rfl ?_
    refine Under.ov (OpV.move rfl) rfl ?_
    refine Under.ov (OpV.len Tryz.underlying26 rfl rdV) rfl ?_
    refine Under.ov (OpV.bin rfl rfl rfl) rfl ?_
    obtain ⟨h5, hF⟩ := gsome hF
    refine Under.mk h5 Tryz.underlying26 AT5 rfl rfl rfl fun v4 => ?_
    refine Under.ov (OpV.asg rfl) rfl ?_
    refine Under.nil ?_
    refine Under.tN ?_
    refine Under.seq ?_
    refine Under.region ?_
    refine Under.ov (OpV.move rfl) rfl ?_
    refine Under.ov (OpV.fdM fm35_3 rfl) rfl ?_
    refine Under.fo1 ?_
    refine Under.ldP .box (.fld .id uf_Churnref24_Server_3) kt26_kSl_kInt_u8_ rfl rfl ?_
    obtain ⟨z7, h8, hF⟩ := bsome hF
    refine Under.fo1 ?_
    refine Under.app h8 Tryz.underlying26 AT5 rfl rfl rdV rfl fun v9 => ?_
    refine Under.ov (OpV.asg rfl) rfl ?_
    refine Under.nil ?_
    refine Under.tN ?_
    refine Under.seq ?_
    refine Under.region ?_
    refine Under.ov (OpV.move rfl) rfl ?_
    refine Under.ov (OpV.move rfl) rfl ?_
    obtain ⟨z10, h11, hF⟩ := bsome hF
    refine Under.app h11 Tryz.underlying26 AT5 rfl rfl rdV rfl fun v12 => ?_
    refine Under.ov (OpV.asg rfl) rfl ?_
    refine Under.nil ?_
    refine Under.frzO (t := 5) rfl ?_
    refine Under.tN ?_
    refine Under.seq ?_
    refine Under.region ?_
    refine Under.ov (OpV.move rfl) rfl ?_
    refine Under.ov (OpV.fdM fm35_3 rfl) rfl ?_
    refine Under.stP (x' := ({ a0 with Held := z10 } : Churnref24_Server)) .box (.fld .id uf_Churnref24_Server_3) sz26_kSl_kInt_u8_ rfl rfl rdV rfl ?_
    refine Under.nil ?_
    refine Under.frz (t := 2) rfl ?_
    refine Under.tN ?_
    refine Under.seq ?_
    refine Under.region ?_
    refine Under.ov (OpV.ld kt35 rfl) rfl ?_
    refine Under.stP (x' := ({ a0 with Held := z10 } : Churnref24_Server)) .box .id sz35_kChurnref24_Server rfl rfl rdV rfl ?_
    refine Under.nil ?_
    refine Under.frz (t := 4) rfl ?_
    refine Under.tN ?_
    refine Under.retc ?_
    have e13 := Option.some.inj hF
    subst e13
    exact Under.rets Tryz.results16 (.ce rfl kt35 .nil) rfl rfl
/-- churn/churnref24.Finish -/
noncomputable def f_churnref24_Finish (a0 : Churnref24_Server) (a1 : List Int) : Option (Api_Outcome × Churnref24_Server) :=
  (f_churnref24_Round a0 1 a0.Held a1).bind fun y3 =>
  some (y3.1, ({ y3.2 with Held := [] } : Churnref24_Server))
theorem f_churnref24_Finish_ok {a0 : Churnref24_Server} {a1 : List Int} {r0 : (Api_Outcome × Churnref24_Server)} (hF : f_churnref24_Finish a0 a1 = some r0) (L : List Res) : Ok Tryz.prog 17 [SV.val kChurnref24_Server a0, SV.val (kSl (kInt .u8)) a1] (L) (SV.tup [SV.val kApi_Outcome r0.1, SV.val kChurnref24_Server r0.2]) (L) := by
  unfold f_churnref24_Finish at hF
  refine Ok.intro 19 [(0, .val kChurnref24_Server a0), (1, .val (kSl (kInt .u8)) a1)] Tryz.func17 rfl rfl rfl rfl (fun F0 => ?_)
  refine Under.seq ?_
  refine Under.region ?_
  refine Under.bxF (K := kChurnref24_Server) rfl rdV rfl ?_
  refine Under.al ZT49 rfl fun b1 => ?_
  refine Under.al ZT35 rfl fun b2 => ?_
  refine Under.nil ?_
  refine Under.tN ?_
  refine Under.seq ?_
  refine Under.region ?_
  refine Under.ov (OpV.ld kt35 rfl) rfl ?_
  refine Under.ov (OpV.fd fb35_3 rfl rfl) rfl ?_
  refine Under.ov (OpV.ld kt26 rfl) rfl ?_
  refine Under.ov (OpV.move rfl) rfl ?_
  obtain ⟨y3, h4, hF⟩ := bsome hF
  refine Under.call Tryz.call15 rfl rfl (f_churnref24_Round_ok h4 _) rfl ?_
  refine Under.ov (OpV.move rfl) rfl ?_
  refine Under.ov (OpV.extr rfl rfl) rfl ?_
  refine Under.ov (OpV.extr rfl rfl) rfl ?_
  refine Under.al ZT49 rfl fun b5 => ?_
  refine Under.al ZT35 rfl fun b6 => ?_
  refine Under.fo1 ?_
  refine Under.stP (x' := y3.1) .box .id sz49_kApi_Outcome rfl rfl rdV rfl ?_
  refine Under.fo1 ?_
  refine Under.stP (x' := y3.2) .box .id sz35_kChurnref24_Server rfl rfl rdV rfl ?_
  refine Under.nil ?_
  refine Under.fo1 ?_
  refine Under.frz (t := 6) rfl ?_
  refine Under.tN ?_
  refine Under.seq ?_
  refine Under.region ?_
  refine Under.ov (OpV.fdM fm35_3 rfl) rfl ?_
  refine Under.stP (x' := ({ y3.2 with Held := [] } : Churnref24_Server)) .box (.fld .id uf_Churnref24_Server_3) sz26_kSl_kInt_u8_ rfl rfl rdN rfl ?_
  refine Under.nil ?_
  refine Under.frz (t := 7) rfl ?_
  refine Under.tN ?_
  refine Under.seq ?_
  refine Under.phases rfl ?_
  refine Under.fo1 ?_
  refine Under.fo1 ?_
  refine Under.grpA (L := L) [0, 1, 2] [[6], [7], [4, 17]] [.v (.val kApi_Outcome y3.1), .v (.val kChurnref24_Server ({ y3.2 with Held := [] } : Churnref24_Server)), .sx 0] [] [((.box kApi_Outcome b1 49 (⟨[], (⟨0, (⟨0, []⟩ : Api_Window)⟩ : Api_State), (⟨0, 0, 0, 0, 0⟩ : Api_Report), 0, 0⟩ : Api_Outcome)), (.box kApi_Outcome b1 49 y3.1), 2)] (fun T : List Res => (.box kChurnref24_Server b2 35 (⟨false, (⟨[], 0, 0, 0, 0, 0, 0, 0, 0, 0, 0⟩ : Api_Config), (⟨0, (⟨0, []⟩ : Api_Window)⟩ : Api_State), []⟩ : Churnref24_Server)) :: T) lf1 rfl (by kernel_rfl) (ItsOk.of rfl rfl) (by kernel_rfl) rfl (fun F hF0 => ?_)
  refine Aq.v (fun G T hG => ?_) ?_
  · refine Under.ov (OpV.ld kt49 rfl) rfl ?_
    exact Zq.done rfl
  refine Aq.v (fun G T hG => ?_) ?_
  · refine Under.ov (OpV.ld kt35 rfl) rfl ?_
    exact Zq.done rfl
  refine Aq.sx rfl (fun G T hG => ?_) ?_
  · refine Under.stP (x' := y3.1) .box .id sz49_kApi_Outcome rfl rfl rdV rfl ?_
    exact Aq.std
  refine Aq.nil ?_
  refine Under.le hF0 ?_
  refine Under.p1 3 rfl rfl ?_
  refine Under.stP (x' := ({ y3.2 with Held := [] } : Churnref24_Server)) .box .id sz35_kChurnref24_Server rfl rfl rdV rfl ?_
  refine Under.pn ?_
  refine Under.pdone rfl ?_
  refine Under.frz (t := 5) rfl ?_
  refine Under.frz (t := 4) rfl ?_
  refine Under.tN ?_
  refine Under.retc ?_
  have e7 := Option.some.inj hF
  subst e7
  exact Under.rets Tryz.results17 (.ce rfl kt49 (.ce rfl kt35 .nil)) rfl rfl
/-- churn/churnref24.sameEpoch -/
noncomputable def f_churnref24_sameEpoch (a0 : Api_Epoch) (a1 : Api_Epoch) : Option Bool :=
  bif (a0.Number != a1.Number) || ((a0.Tags.length : Int) != (a1.Tags.length : Int)) then
    some false
  else
    (((Loop.run (S := Int) (R := (Unit ⊕ Bool)) (fun x45 =>
        bif decide (x45 < (a0.Tags.length : Int)) then
          (idx a0.Tags x45).bind fun x55 =>
          (idx a1.Tags x45).bind fun x57 =>
          bif x55 != x57 then
            some (.done (.inr false))
          else
            some (.next (IntKind.wrap .i64 (x45 + 1)))
        else
          some (.done (.inl ()))) 0).bind fun r52 => match r52 with
      | .inl _ =>
        some (.inr ())
      | .inr z =>
        some (.inl z)
      : Option (Bool ⊕ Unit))).bind fun r32 => match r32 with
      | .inl z =>
        some z
      | .inr _ =>
        some true
theorem f_churnref24_sameEpoch_ok {a0 : Api_Epoch} {a1 : Api_Epoch} {r0 : Bool} (hF : f_churnref24_sameEpoch a0 a1 = some r0) (L : List Res) : Ok Tryz.prog 24 [SV.val kApi_Epoch a0, SV.val kApi_Epoch a1] (L) (SV.raw (.bool r0)) (L) := by
  unfold f_churnref24_sameEpoch at hF
  refine Ok.intro 38 [(0, .val kApi_Epoch a0), (1, .val kApi_Epoch a1)] Tryz.func24 rfl rfl rfl rfl (fun F0 => ?_)
  refine Under.seq ?_
  refine Under.region ?_
  refine Under.bxF (K := kApi_Epoch) rfl rdV rfl ?_
  refine Under.bxF (K := kApi_Epoch) rfl rdV rfl ?_
  refine Under.ov (OpV.asg rfl) rfl ?_
  refine Under.nil ?_
  refine Under.tN ?_
  refine Under.seq ?_
  refine Under.seq ?_
  refine Under.region ?_
  refine Under.ov (OpV.fd fb70_0 rfl rfl) rfl ?_
  refine Under.ov (OpV.ldI kt2 rfl) rfl ?_
  refine Under.ov (OpV.fd fb70_0 rfl rfl) rfl ?_
  refine Under.ov (OpV.ldI kt2 rfl) rfl ?_
  refine Under.ov (OpV.bin rfl rfl rfl) rfl ?_
  refine Under.ov (OpV.move rfl) rfl ?_
  refine runj_8 19 ((a0.Number != a1.Number) || ((a0.Tags.length : Int) != (a1.Tags.length : Int))) ?_ (fun k => ?_)
  · refine Under.nil ?_
    refine Under.tN ?_
    refine Under.ite hF rfl (fun hF => ?_) (fun hF => ?_)
    · refine Under.seq ?_
      refine Under.region ?_
      refine Under.ov (OpV.asg rfl) rfl ?_
      refine Under.nil ?_
      refine Under.tN ?_
      refine Under.retc ?_
      refine Under.tR ?_
      have e4 := Option.some.inj hF
      subst e4
      exact Under.rets Tryz.results24 (.tm rfl .nil) rfl rfl
    · refine Under.code_skip ?_
      refine Under.tN ?_
      obtain ⟨r32, h33, hF⟩ := bsome hF
      refine Under.seq ?_
      refine Under.after (fun X => ∀ (_ : Unit), r32 = (.inr ()) → Under F0 38 [] (L) X) ?_ ?_
      · intro _ h67
        replace h67 := h67.symm
        subst h67
        refine Under.seq ?_
        refine Under.region ?_
        refine Under.ov (OpV.asg rfl) rfl ?_
        refine Under.nil ?_
        refine Under.tN ?_
        refine Under.retc ?_
        have e35 := Option.some.inj hF
        subst e35
        exact Under.rets Tryz.results24 (.tm rfl .nil) rfl rfl
      · intro K k34
        refine Under.seq ?_
        refine Under.region ?_
        refine Under.ov (OpV.fd fb70_1 rfl rfl) rfl ?_
        refine Under.ov (OpV.ld kt68 rfl) rfl ?_
        refine Under.ov (OpV.len Tryz.underlying68 rfl rdV) rfl ?_
        refine Under.ov (OpV.move rfl) rfl ?_
        refine Under.nil ?_
        refine Under.tN ?_
        refine Under.block ?_
        obtain ⟨r52, h53, h33⟩ := bsome h33
        refine Under.loop (S := Int) (C := Unit) () (fun (x64 : Int) (q65 : Unit) => [(2, .ptr kApi_Epoch a0), (3, .ptr kApi_Epoch a1), (22, .raw (.int .i64 (a0.Tags.length : Int))), (23, .raw (.int .i64 x64))]) (fun (x64 : Int) (q65 : Unit) => L) h53 (sub_cons rfl (sub_cons rfl (sub_cons rfl (sub_cons rfl (sub_nil _))))) rfl (fun x64 q65 o54 h50 d51 => ?_)
        refine Under.seq ?_
        refine Under.region ?_
        refine Under.ov (OpV.bin rfl rfl rfl) rfl ?_
        refine Under.nil ?_
        refine Under.tN ?_
        refine Under.seq ?_
        refine Under.ite h50 rfl (fun h50 => ?_) (fun h50 => ?_)
        · refine Under.code_skip ?_
          refine Under.tN ?_
          refine Under.seq ?_
          refine Under.block ?_
          refine Under.seq ?_
          refine Under.region ?_
          refine Under.ov (OpV.move rfl) rfl ?_
          refine Under.ov (OpV.asg rfl) rfl ?_
          refine Under.nil ?_
          refine Under.tN ?_
          refine Under.seq ?_
          refine Under.draw rfl (by kernel_rfl) fun F hF0 => ?_
          refine UnderQ.ov (OpV.fd fb70_1 rfl rfl) rfl ?_
          refine UnderQ.ov (OpV.ld kt68 rfl) rfl ?_
          refine UnderQ.ov (OpV.move rfl) rfl ?_
          obtain ⟨x55, h56, h50⟩ := bsome h50
          refine UnderQ.ov (OpV.ixS h56 Tryz.underlying68 sz82 rfl rdV rfl) rfl ?_
          refine UnderQ.ov (OpV.ld kt82 rfl) rfl ?_
          refine UnderQ.ov (OpV.fd fb70_1 rfl rfl) rfl ?_
          refine UnderQ.ov (OpV.ld kt68 rfl) rfl ?_
          refine UnderQ.ov (OpV.move rfl) rfl ?_
          obtain ⟨x57, h58, h50⟩ := bsome h50
          refine UnderQ.ov (OpV.ixS h58 Tryz.underlying68 sz82 rfl rdV rfl) rfl ?_
          refine UnderQ.ov (OpV.ld kt82 rfl) rfl ?_
          refine UnderQ.ov (OpV.neK eqk82 eqg82 rfl rfl rfl rdV rfl rdV) rfl ?_
          refine UnderQ.nil hF0 ?_
          refine Under.tN ?_
          refine Under.ite h50 rfl (fun h50 => ?_) (fun h50 => ?_)
          · refine Under.seq ?_
            refine Under.region ?_
            refine Under.ov (OpV.asg rfl) rfl ?_
            refine Under.nil ?_
            refine Under.tN ?_
            refine Under.retc ?_
            refine Under.bR ?_
            refine Under.tR ?_
            have e59 := done_eq h50 d51
            subst e59
            refine Under.tR ?_
            refine Under.bR ?_
            refine Under.tR ?_
            have e60 := Option.some.inj h33
            subst e60
            have e61 := Option.some.inj hF
            subst e61
            exact Under.rets Tryz.results24 (.tm rfl .nil) rfl rfl
          · refine Under.code_skip ?_
            refine Under.bN ?_
            refine Under.tN ?_
            refine Under.region ?_
            refine Under.ov (OpV.bin rfl rfl rfl) rfl ?_
            refine Under.ov (OpV.move rfl) rfl ?_
            refine Under.nil ?_
            exact Under.next _ () h50 (sub_cons rfl (sub_cons rfl (sub_cons rfl (sub_cons rfl (sub_nil _))))) rfl
        · refine Under.exit ?_
          refine Under.tE ?_
          have e62 := done_eq h50 d51
          subst e62
          refine Under.tE ?_
          refine Under.bH ?_
          refine Under.tN ?_
          exact Under.weak (k34 () (Option.some.inj h33).symm) (sub_nil _)
  · refine Under.byc (t := 11) rfl (fun c1 => ?_) (fun c1 => ?_)
    · refine Under.skc c1 rfl rfl rfl ?_
      refine Under.skc c1 rfl rfl rfl ?_
      refine Under.skc c1 rfl rfl rfl ?_
      refine Under.skc c1 rfl rfl rfl ?_
      refine Under.skc c1 rfl rfl rfl ?_
      refine Under.skc c1 rfl rfl rfl ?_
      refine Under.skc c1 rfl rfl rfl ?_
      refine Under.ov (OpV.pick rfl (fun e => rfl) (fun e => absurd (e.symm.trans c1) (by decide))) rfl ?_
      exact Under.rfin 7 (or_t (e := (a0.Tags.length : Int) != (a1.Tags.length : Int)) c1) rfl k
    · refine Under.goc c1 rfl rfl ?_
      refine Under.ov (OpV.fd fb70_1 rfl rfl) rfl ?_
      refine Under.goc c1 rfl rfl ?_
      refine Under.ov (OpV.ld kt68 rfl) rfl ?_
      refine Under.goc c1 rfl rfl ?_
      refine Under.ov (OpV.len Tryz.underlying68 rfl rdV) rfl ?_
      refine Under.goc c1 rfl rfl ?_
      refine Under.ov (OpV.fd fb70_1 rfl rfl) rfl ?_
      refine Under.goc c1 rfl rfl ?_
      refine Under.ov (OpV.ld kt68 rfl) rfl ?_
      refine Under.goc c1 rfl rfl ?_
      refine Under.ov (OpV.len Tryz.underlying68 rfl rdV) rfl ?_
      refine Under.goc c1 rfl rfl ?_
      refine Under.ov (OpV.bin rfl rfl rfl) rfl ?_
      refine Under.ov (OpV.pick rfl (fun e => absurd (e.symm.trans c1) (by decide)) (fun e => rfl)) rfl ?_
      exact Under.rfin 7 (or_f c1) rfl k
/-- churn/churnref24.SameState -/
noncomputable def f_churnref24_SameState (a0 : Api_State) (a1 : Api_State) : Option Bool :=
  bif ((a0.Next != a1.Next) || (a0.Window.Newest != a1.Window.Newest)) || ((a0.Window.Epochs.length : Int) != (a1.Window.Epochs.length : Int)) then
    some false
  else
    (((Loop.run (S := Int) (R := (Unit ⊕ Bool)) (fun x60 =>
        bif decide (x60 < (a0.Window.Epochs.length : Int)) then
          (idx a0.Window.Epochs x60).bind fun x72 =>
          (idx a1.Window.Epochs x60).bind fun x74 =>
          (f_churnref24_sameEpoch x72 x74).bind fun y76 =>
          bif !y76 then
            some (.done (.inr false))
          else
            some (.next (IntKind.wrap .i64 (x60 + 1)))
        else
          some (.done (.inl ()))) 0).bind fun r69 => match r69 with
      | .inl _ =>
        some (.inr ())
      | .inr z =>
        some (.inl z)
      : Option (Bool ⊕ Unit))).bind fun r43 => match r43 with
      | .inl z =>
        some z
      | .inr _ =>
        some true
theorem f_churnref24_SameState_ok {a0 : Api_State} {a1 : Api_State} {r0 : Bool} (hF : f_churnref24_SameState a0 a1 = some r0) (L : List Res) : Ok Tryz.prog 9 [SV.val kApi_State a0, SV.val kApi_State a1] (L) (SV.raw (.bool r0)) (L) := by
  unfold f_churnref24_SameState at hF
  refine Ok.intro 53 [(0, .val kApi_State a0), (1, .val kApi_State a1)] Tryz.func9 rfl rfl rfl rfl (fun F0 => ?_)
  refine Under.seq ?_
  refine Under.region ?_
  refine Under.bxF (K := kApi_State) rfl rdV rfl ?_
  refine Under.bxF (K := kApi_State) rfl rdV rfl ?_
  refine Under.ov (OpV.asg rfl) rfl ?_
  refine Under.nil ?_
  refine Under.tN ?_
  refine Under.seq ?_
  refine Under.seq ?_
  refine Under.region ?_
  refine Under.ov (OpV.fd fb33_0 rfl rfl) rfl ?_
  refine Under.ov (OpV.ldI kt2 rfl) rfl ?_
  refine Under.ov (OpV.fd fb33_0 rfl rfl) rfl ?_
  refine Under.ov (OpV.ldI kt2 rfl) rfl ?_
  refine Under.ov (OpV.bin rfl rfl rfl) rfl ?_
  refine Under.ov (OpV.move rfl) rfl ?_
  refine runj_8 19 ((a0.Next != a1.Next) || (a0.Window.Newest != a1.Window.Newest)) ?_ (fun k => ?_)
  · refine Under.ov (OpV.move rfl) rfl ?_
    refine runj_10 30 (((a0.Next != a1.Next) || (a0.Window.Newest != a1.Window.Newest)) || ((a0.Window.Epochs.length : Int) != (a1.Window.Epochs.length : Int))) ?_ (fun k => ?_)
    · refine Under.nil ?_
      refine Under.tN ?_
      refine Under.ite hF rfl (fun hF => ?_) (fun hF => ?_)
      · refine Under.seq ?_
        refine Under.region ?_
        refine Under.ov (OpV.asg rfl) rfl ?_
        refine Under.nil ?_
        refine Under.tN ?_
        refine Under.retc ?_
        refine Under.tR ?_
        have e7 := Option.some.inj hF
        subst e7
        exact Under.rets Tryz.results9 (.tm rfl .nil) rfl rfl
      · refine Under.code_skip ?_
        refine Under.tN ?_
        obtain ⟨r43, h44, hF⟩ := bsome hF
        refine Under.seq ?_
        refine Under.after (fun X => ∀ (_ : Unit), r43 = (.inr ()) → Under F0 53 [] (L) X) ?_ ?_
        · intro _ h86
          replace h86 := h86.symm
          subst h86
          refine Under.seq ?_
          refine Under.region ?_
          refine Under.ov (OpV.asg rfl) rfl ?_
          refine Under.nil ?_
          refine Under.tN ?_
          refine Under.retc ?_
          have e46 := Option.some.inj hF
          subst e46
          exact Under.rets Tryz.results9 (.tm rfl .nil) rfl rfl
        · intro K k45
          refine Under.seq ?_
          refine Under.region ?_
          refine Under.ov (OpV.fd fb33_1 rfl rfl) rfl ?_
          refine Under.ov (OpV.fd fb31_1 rfl rfl) rfl ?_
          refine Under.ov (OpV.ld kt29 rfl) rfl ?_
          refine Under.ov (OpV.len Tryz.underlying29 rfl rdV) rfl ?_
          refine Under.ov (OpV.move rfl) rfl ?_
          refine Under.nil ?_
          refine Under.tN ?_
          refine Under.block ?_
          obtain ⟨r69, h70, h44⟩ := bsome h44
          refine Under.loop (S := Int) (C := Unit) () (fun (x83 : Int) (q84 : Unit) => [(2, .ptr kApi_State a0), (3, .ptr kApi_State a1), (34, .raw (.int .i64 (a0.Window.Epochs.length : Int))), (35, .raw (.int .i64 x83))]) (fun (x83 : Int) (q84 : Unit) => L) h70 (sub_cons rfl (sub_cons rfl (sub_cons rfl (sub_cons rfl (sub_nil _))))) rfl (fun x83 q84 o71 h67 d68 => ?_)
          refine Under.seq ?_
          refine Under.region ?_
          refine Under.ov (OpV.bin rfl rfl rfl) rfl ?_
          refine Under.nil ?_
          refine Under.tN ?_
          refine Under.seq ?_
          refine Under.ite h67 rfl (fun h67 => ?_) (fun h67 => ?_)
          · refine Under.code_skip ?_
            refine Under.tN ?_
            refine Under.seq ?_
            refine Under.block ?_
            refine Under.seq ?_
            refine Under.region ?_
            refine Under.ov (OpV.move rfl) rfl ?_
            refine Under.ov (OpV.asg rfl) rfl ?_
            refine Under.nil ?_
            refine Under.tN ?_
            refine Under.seq ?_
            refine Under.draw rfl (by kernel_rfl) fun F hF0 => ?_
            refine UnderQ.ov (OpV.fd fb33_1 rfl rfl) rfl ?_
            refine UnderQ.ov (OpV.fd fb31_1 rfl rfl) rfl ?_
            refine UnderQ.ov (OpV.ld kt29 rfl) rfl ?_
            refine UnderQ.ov (OpV.move rfl) rfl ?_
            obtain ⟨x72, h73, h67⟩ := bsome h67
            refine UnderQ.ov (OpV.ixS h73 Tryz.underlying29 sz70 rfl rdV rfl) rfl ?_
            refine UnderQ.ov (OpV.ld kt70 rfl) rfl ?_
            refine UnderQ.ov (OpV.fd fb33_1 rfl rfl) rfl ?_
            refine UnderQ.ov (OpV.fd fb31_1 rfl rfl) rfl ?_
            refine UnderQ.ov (OpV.ld kt29 rfl) rfl ?_
            refine UnderQ.ov (OpV.move rfl) rfl ?_
            obtain ⟨x74, h75, h67⟩ := bsome h67
            refine UnderQ.ov (OpV.ixS h75 Tryz.underlying29 sz70 rfl rdV rfl) rfl ?_
            refine UnderQ.ov (OpV.ld kt70 rfl) rfl ?_
            obtain ⟨y76, h77, h67⟩ := bsome h67
            refine UnderQ.ov (OpV.call Tryz.call24 rfl rfl (fun L => (f_churnref24_sameEpoch_ok h77 L))) rfl ?_
            refine UnderQ.ov (OpV.not rfl) rfl ?_
            refine UnderQ.nil hF0 ?_
            refine Under.tN ?_
            refine Under.ite h67 rfl (fun h67 => ?_) (fun h67 => ?_)
            · refine Under.seq ?_
              refine Under.region ?_
              refine Under.ov (OpV.asg rfl) rfl ?_
              refine Under.nil ?_
              refine Under.tN ?_
              refine Under.retc ?_
              refine Under.bR ?_
              refine Under.tR ?_
              have e78 := done_eq h67 d68
              subst e78
              refine Under.tR ?_
              refine Under.bR ?_
              refine Under.tR ?_
              have e79 := Option.some.inj h44
              subst e79
              have e80 := Option.some.inj hF
              subst e80
              exact Under.rets Tryz.results9 (.tm rfl .nil) rfl rfl
            · refine Under.code_skip ?_
              refine Under.bN ?_
              refine Under.tN ?_
              refine Under.region ?_
              refine Under.ov (OpV.bin rfl rfl rfl) rfl ?_
              refine Under.ov (OpV.move rfl) rfl ?_
              refine Under.nil ?_
              exact Under.next _ () h67 (sub_cons rfl (sub_cons rfl (sub_cons rfl (sub_cons rfl (sub_nil _))))) rfl
          · refine Under.exit ?_
            refine Under.tE ?_
            have e81 := done_eq h67 d68
            subst e81
            refine Under.tE ?_
            refine Under.bH ?_
            refine Under.tN ?_
            exact Under.weak (k45 () (Option.some.inj h44).symm) (sub_nil _)
    · refine Under.byc (t := 20) rfl (fun c4 => ?_) (fun c4 => ?_)
      · refine Under.skc c4 rfl rfl rfl ?_
        refine Under.skc c4 rfl rfl rfl ?_
        refine Under.skc c4 rfl rfl rfl ?_
        refine Under.skc c4 rfl rfl rfl ?_
        refine Under.skc c4 rfl rfl rfl ?_
        refine Under.skc c4 rfl rfl rfl ?_
        refine Under.skc c4 rfl rfl rfl ?_
        refine Under.skc c4 rfl rfl rfl ?_
        refine Under.skc c4 rfl rfl rfl ?_
        refine Under.ov (OpV.pick rfl (fun e => rfl) (fun e => absurd (e.symm.trans c4) (by decide))) rfl ?_
        exact Under.rfin 9 (or_t (e := (a0.Window.Epochs.length : Int) != (a1.Window.Epochs.length : Int)) c4) rfl k
      · refine Under.goc c4 rfl rfl ?_
        refine Under.ov (OpV.fd fb33_1 rfl rfl) rfl ?_
        refine Under.goc c4 rfl rfl ?_
        refine Under.ov (OpV.fd fb31_1 rfl rfl) rfl ?_
        refine Under.goc c4 rfl rfl ?_
        refine Under.ov (OpV.ld kt29 rfl) rfl ?_
        refine Under.goc c4 rfl rfl ?_
        refine Under.ov (OpV.len Tryz.underlying29 rfl rdV) rfl ?_
        refine Under.goc c4 rfl rfl ?_
        refine Under.ov (OpV.fd fb33_1 rfl rfl) rfl ?_
        refine Under.goc c4 rfl rfl ?_
        refine Under.ov (OpV.fd fb31_1 rfl rfl) rfl ?_
        refine Under.goc c4 rfl rfl ?_
        refine Under.ov (OpV.ld kt29 rfl) rfl ?_
        refine Under.goc c4 rfl rfl ?_
        refine Under.ov (OpV.len Tryz.underlying29 rfl rdV) rfl ?_
        refine Under.goc c4 rfl rfl ?_
        refine Under.ov (OpV.bin rfl rfl rfl) rfl ?_
        refine Under.ov (OpV.pick rfl (fun e => absurd (e.symm.trans c4) (by decide)) (fun e => rfl)) rfl ?_
        exact Under.rfin 9 (or_f c4) rfl k
  · refine Under.byc (t := 11) rfl (fun c1 => ?_) (fun c1 => ?_)
    · refine Under.skc c1 rfl rfl rfl ?_
      refine Under.skc c1 rfl rfl rfl ?_
      refine Under.skc c1 rfl rfl rfl ?_
      refine Under.skc c1 rfl rfl rfl ?_
      refine Under.skc c1 rfl rfl rfl ?_
      refine Under.skc c1 rfl rfl rfl ?_
      refine Under.skc c1 rfl rfl rfl ?_
      refine Under.ov (OpV.pick rfl (fun e => rfl) (fun e => absurd (e.symm.trans c1) (by decide))) rfl ?_
      exact Under.rfin 7 (or_t (e := a0.Window.Newest != a1.Window.Newest) c1) rfl k
    · refine Under.goc c1 rfl rfl ?_
      refine Under.ov (OpV.fd fb33_1 rfl rfl) rfl ?_
      refine Under.goc c1 rfl rfl ?_
      refine Under.ov (OpV.fd fb31_0 rfl rfl) rfl ?_
      refine Under.goc c1 rfl rfl ?_
      refine Under.ov (OpV.ldI kt2 rfl) rfl ?_
      refine Under.goc c1 rfl rfl ?_
      refine Under.ov (OpV.fd fb33_1 rfl rfl) rfl ?_
      refine Under.goc c1 rfl rfl ?_
      refine Under.ov (OpV.fd fb31_0 rfl rfl) rfl ?_
      refine Under.goc c1 rfl rfl ?_
      refine Under.ov (OpV.ldI kt2 rfl) rfl ?_
      refine Under.goc c1 rfl rfl ?_
      refine Under.ov (OpV.bin rfl rfl rfl) rfl ?_
      refine Under.ov (OpV.pick rfl (fun e => absurd (e.symm.trans c1) (by decide)) (fun e => rfl)) rfl ?_
      exact Under.rfin 7 (or_f c1) rfl k
/-- churn/churnref24.SameOutcome -/
noncomputable def f_churnref24_SameOutcome (a0 : Api_Outcome) (a1 : Api_Outcome) : Option Bool :=
  ((bif ((((strB a0.Out) == (strB a1.Out)) && (a0.Report == a1.Report)) && (a0.Err == a1.Err)) && (a0.At == a1.At) then
    (f_churnref24_SameState a0.State a1.State).bind fun y13 =>
    some y13
  else
    some false
    : Option Bool)).bind fun x12 =>
  some x12
theorem f_churnref24_SameOutcome_ok {a0 : Api_Outcome} {a1 : Api_Outcome} {r0 : Bool} (hF : f_churnref24_SameOutcome a0 a1 = some r0) (L : List Res) : Ok Tryz.prog 18 [SV.val kApi_Outcome a0, SV.val kApi_Outcome a1] (L) (SV.raw (.bool r0)) (L) := by
  unfold f_churnref24_SameOutcome at hF
  refine Ok.intro 40 [(0, .val kApi_Outcome a0), (1, .val kApi_Outcome a1)] Tryz.func18 rfl rfl rfl rfl (fun F0 => ?_)
  refine Under.seq ?_
  refine Under.region ?_
  refine Under.bxF (K := kApi_Outcome) rfl rdV rfl ?_
  refine Under.bxF (K := kApi_Outcome) rfl rdV rfl ?_
  refine Under.ov (OpV.asg rfl) rfl ?_
  refine Under.nil ?_
  refine Under.tN ?_
  refine Under.seq ?_
  refine Under.region ?_
  refine Under.ov (OpV.fd fb49_0 rfl rfl) rfl ?_
  refine Under.ov (OpV.ld kt26 rfl) rfl ?_
  refine Under.ov (OpV.b2s Tryz.underlying26 Tryz.underlying5 Tryz.underlying9 rfl rdV) rfl ?_
  refine Under.ov (OpV.fd fb49_0 rfl rfl) rfl ?_
  refine Under.ov (OpV.ld kt26 rfl) rfl ?_
  refine Under.ov (OpV.b2s Tryz.underlying26 Tryz.underlying5 Tryz.underlying9 rfl rdV) rfl ?_
  refine Under.ov (OpV.eqS Tryz.underlying9 rfl rdV rfl rdV (.inl rfl)) rfl ?_
  refine Under.ov (OpV.move rfl) rfl ?_
  refine runj_6 18 (((strB a0.Out) == (strB a1.Out)) && (a0.Report == a1.Report)) ?_ (fun k => ?_)
  · refine Under.ov (OpV.move rfl) rfl ?_
    refine runj_6 25 ((((strB a0.Out) == (strB a1.Out)) && (a0.Report == a1.Report)) && (a0.Err == a1.Err)) ?_ (fun k => ?_)
    · refine Under.ov (OpV.move rfl) rfl ?_
      refine runj_6 32 (((((strB a0.Out) == (strB a1.Out)) && (a0.Report == a1.Report)) && (a0.Err == a1.Err)) && (a0.At == a1.At)) ?_ (fun k => ?_)
      · refine Under.ov (OpV.move rfl) rfl ?_
        obtain ⟨x12, h11, hF⟩ := bsome hF
        refine runj_6 39 x12 ?_ (fun k => ?_)
        · refine Under.ov (OpV.asg rfl) rfl ?_
          refine Under.nil ?_
          refine Under.tN ?_
          refine Under.retc ?_
          have e15 := Option.some.inj hF
          subst e15
          exact Under.rets Tryz.results18 (.tm rfl .nil) rfl rfl
        · refine Under.byc (t := 33) rfl (fun c10 => ?_) (fun c10 => ?_)
          · replace h11 := ctrue c10 h11
            refine Under.goc c10 rfl rfl ?_
            refine Under.ov (OpV.fd fb49_1 rfl rfl) rfl ?_
            refine Under.goc c10 rfl rfl ?_
            refine Under.ov (OpV.ld kt33 rfl) rfl ?_
            refine Under.goc c10 rfl rfl ?_
            refine Under.ov (OpV.fd fb49_1 rfl rfl) rfl ?_
            refine Under.goc c10 rfl rfl ?_
            refine Under.ov (OpV.ld kt33 rfl) rfl ?_
            obtain ⟨y13, h14, h11⟩ := bsome h11
            refine Under.goc c10 rfl rfl ?_
            refine Under.call Tryz.call9 rfl rfl (f_churnref24_SameState_ok h14 _) rfl ?_
            refine Under.ov (OpV.pick rfl (fun e => rfl) (fun e => absurd (e.symm.trans c10) (by decide))) rfl ?_
            exact Under.rfin 5 (congrArg (fun b => SV.raw (.bool b)) (Option.some.inj h11)) rfl k
          · replace h11 := cfalse c10 h11
            refine Under.skc c10 rfl rfl rfl ?_
            refine Under.skc c10 rfl rfl rfl ?_
            refine Under.skc c10 rfl rfl rfl ?_
            refine Under.skc c10 rfl rfl rfl ?_
            refine Under.skc c10 rfl rfl rfl ?_
            refine Under.ov (OpV.pick rfl (fun e => absurd (e.symm.trans c10) (by decide)) (fun e => rfl)) rfl ?_
            exact Under.rfin 5 (congrArg (fun b => SV.raw (.bool b)) (Option.some.inj h11)) rfl k
      · refine Under.byc (t := 26) rfl (fun c7 => ?_) (fun c7 => ?_)
        · refine Under.goc c7 rfl rfl ?_
          refine Under.ov (OpV.fd fb49_4 rfl rfl) rfl ?_
          refine Under.goc c7 rfl rfl ?_
          refine Under.ov (OpV.ldI kt3 rfl) rfl ?_
          refine Under.goc c7 rfl rfl ?_
          refine Under.ov (OpV.fd fb49_4 rfl rfl) rfl ?_
          refine Under.goc c7 rfl rfl ?_
          refine Under.ov (OpV.ldI kt3 rfl) rfl ?_
          refine Under.goc c7 rfl rfl ?_
          refine Under.ov (OpV.bin rfl rfl rfl) rfl ?_
          refine Under.ov (OpV.pick rfl (fun e => rfl) (fun e => absurd (e.symm.trans c7) (by decide))) rfl ?_
          exact Under.rfin 5 (and_t c7) rfl k
        · refine Under.skc c7 rfl rfl rfl ?_
          refine Under.skc c7 rfl rfl rfl ?_
          refine Under.skc c7 rfl rfl rfl ?_
          refine Under.skc c7 rfl rfl rfl ?_
          refine Under.skc c7 rfl rfl rfl ?_
          refine Under.ov (OpV.pick rfl (fun e => absurd (e.symm.trans c7) (by decide)) (fun e => rfl)) rfl ?_
          exact Under.rfin 5 (and_f (e := a0.At == a1.At) c7) rfl k
    · refine Under.byc (t := 19) rfl (fun c4 => ?_) (fun c4 => ?_)
      · refine Under.goc c4 rfl rfl ?_
        refine Under.ov (OpV.fd fb49_3 rfl rfl) rfl ?_
        refine Under.goc c4 rfl rfl ?_
        refine Under.ov (OpV.ldI kt37 rfl) rfl ?_
        refine Under.goc c4 rfl rfl ?_
        refine Under.ov (OpV.fd fb49_3 rfl rfl) rfl ?_
        refine Under.goc c4 rfl rfl ?_
        refine Under.ov (OpV.ldI kt37 rfl) rfl ?_
        refine Under.goc c4 rfl rfl ?_
        refine Under.ov (OpV.bin rfl rfl rfl) rfl ?_
        refine Under.ov (OpV.pick rfl (fun e => rfl) (fun e => absurd (e.symm.trans c4) (by decide))) rfl ?_
        exact Under.rfin 5 (and_t c4) rfl k
      · refine Under.skc c4 rfl rfl rfl ?_
        refine Under.skc c4 rfl rfl rfl ?_
        refine Under.skc c4 rfl rfl rfl ?_
        refine Under.skc c4 rfl rfl rfl ?_
        refine Under.skc c4 rfl rfl rfl ?_
        refine Under.ov (OpV.pick rfl (fun e => absurd (e.symm.trans c4) (by decide)) (fun e => rfl)) rfl ?_
        exact Under.rfin 5 (and_f (e := a0.Err == a1.Err) c4) rfl k
  · refine Under.byc (t := 12) rfl (fun c1 => ?_) (fun c1 => ?_)
    · refine Under.goc c1 rfl rfl ?_
      refine Under.ov (OpV.fd fb49_2 rfl rfl) rfl ?_
      refine Under.goc c1 rfl rfl ?_
      refine Under.ov (OpV.ld kt47 rfl) rfl ?_
      refine Under.goc c1 rfl rfl ?_
      refine Under.ov (OpV.fd fb49_2 rfl rfl) rfl ?_
      refine Under.goc c1 rfl rfl ?_
      refine Under.ov (OpV.ld kt47 rfl) rfl ?_
      refine Under.goc c1 rfl rfl ?_
      refine Under.ov (OpV.eqK eqk47 eqg47 rfl rfl rfl rdV rfl rdV) rfl ?_
      refine Under.ov (OpV.pick rfl (fun e => rfl) (fun e => absurd (e.symm.trans c1) (by decide))) rfl ?_
      exact Under.rfin 5 (and_t c1) rfl k
    · refine Under.skc c1 rfl rfl rfl ?_
      refine Under.skc c1 rfl rfl rfl ?_
      refine Under.skc c1 rfl rfl rfl ?_
      refine Under.skc c1 rfl rfl rfl ?_
      refine Under.skc c1 rfl rfl rfl ?_
      refine Under.ov (OpV.pick rfl (fun e => absurd (e.symm.trans c1) (by decide)) (fun e => rfl)) rfl ?_
      exact Under.rfin 5 (and_f (e := a0.Report == a1.Report) c1) rfl k
/-- churn/churnlaw24.played -/
noncomputable def f_churnlaw24_played_nvv (a0 : Churnref24_Server) (a1 : List Churnlaw24_Step) : Option Bool :=
  (((Loop.run (S := (Int × Churnref24_Server)) (R := (Unit ⊕ Bool)) (fun (x730, x731) =>
      bif decide (x730 < (a1.length : Int)) then
        (((idx a1 x730).bind fun x912 =>
        ((bif x912.Kind == 1 then
          (f_churnref24_Round x731 x912.Engine x912.Raw x912.Tape).bind fun y948 =>
          (f_server_Server_Round_nvvvv x912.Engine x912.Raw x912.Tape x912.Script).bind fun y950 =>
          some (.inr (.inr (y950, y948.1, y948.2)))
        else
          bif x912.Kind == 2 then
            (f_churnref24_Put x731 x912.Raw).bind fun y953 =>
            (f_server_Server_Put_nv x912.Raw).bind fun y955 =>
            some (.inl y953)
          else
            bif x912.Kind == 3 then
              (f_churnref24_Finish x731 x912.Tape).bind fun y959 =>
              (f_server_Server_Finish_nv x912.Tape).bind fun y961 =>
              some (.inr (.inr (y961, y959.1, y959.2)))
            else
              bif x912.Kind == 4 then
                (f_server_Server_State_n).bind fun y964 =>
                (f_churnref24_SameState y964 x731.S).bind fun y966 =>
                bif !y966 then
                  some (.inr (.inl false))
                else
                  some (.inl x731)
              else
                some (.inl x731)
          : Option (Churnref24_Server ⊕ (Bool ⊕ (Api_Outcome × Api_Outcome × Churnref24_Server))))).bind fun r937 => match r937 with
          | .inl x933 =>
            some (.inr x933)
          | .inr (.inl z) =>
            some (.inl z)
          | .inr (.inr (x934, x935, x936)) =>
            (f_churnref24_SameOutcome x934 x935).bind fun y940 =>
            bif !y940 then
              some (.inl false)
            else
              some (.inr x936)
          : Option (Bool ⊕ Churnref24_Server))).bind fun r909 => match r909 with
          | .inl z =>
            some (.done (.inr z))
          | .inr x908 =>
            some (.next (IntKind.wrap .i64 (x730 + 1), x908))
      else
        some (.done (.inl ()))) (0, a0)).bind fun r852 => match r852 with
    | .inl _ =>
      some (.inr ())
    | .inr z =>
      some (.inl z)
    : Option (Bool ⊕ Unit))).bind fun r488 => match r488 with
    | .inl z =>
      some z
    | .inr _ =>
      some true
theorem f_churnlaw24_played_nvv_ok {a0 : Churnref24_Server} {a1 : List Churnlaw24_Step} {r0 : Bool} (hF : f_churnlaw24_played_nvv a0 a1 = some r0) (L : List Res) : Ok Tryz.prog 6 [SV.raw (.pointer none), SV.val kChurnref24_Server a0, SV.val (kSl kChurnlaw24_Step) a1] (L) (SV.raw (.bool r0)) (L) := by
  unfold f_churnlaw24_played_nvv at hF
  refine Ok.intro 78 [(0, .raw (.pointer none)), (1, .val kChurnref24_Server a0), (2, .val (kSl kChurnlaw24_Step) a1)] Tryz.func6 rfl rfl rfl rfl (fun F0 => ?_)
  refine Under.seq ?_
  refine Under.region ?_
  refine Under.bx (K := kChurnref24_Server) rfl rdV rfl fun b1 => ?_
  refine Under.ov (OpV.asg rfl) rfl ?_
  refine Under.nil ?_
  refine Under.tN ?_
  obtain ⟨r488, h489, hF⟩ := bsome hF
  refine Under.seq ?_
  refine Under.after (fun X => ∀ (_ : Unit), r488 = (.inr ()) → Under F0 78 [] (L) X) ?_ ?_
  · intro _ h984
    replace h984 := h984.symm
    subst h984
    refine Under.seq ?_
    refine Under.region ?_
    refine Under.ov (OpV.asg rfl) rfl ?_
    refine Under.nil ?_
    refine Under.tN ?_
    refine Under.retc ?_
    have e491 := Option.some.inj hF
    subst e491
    exact Under.rets Tryz.results6 (.tm rfl .nil) rfl rfl
  · intro K k490
    refine Under.seq ?_
    refine Under.region ?_
    refine Under.ov (OpV.move rfl) rfl ?_
    refine Under.ov (OpV.len Tryz.underlying22 rfl rdV) rfl ?_
    refine Under.ov (OpV.move rfl) rfl ?_
    refine Under.nil ?_
    refine Under.tN ?_
    refine Under.block ?_
    obtain ⟨r852, h853, h489⟩ := bsome h489
    refine Under.loop (S := (Int × Churnref24_Server)) (C := Unit) () (fun (x981 : (Int × Churnref24_Server)) (q982 : Unit) => [(0, .raw (.pointer none)), (4, .raw (.pointer (some ⟨b1, 0, none⟩))), (11, .val (kSl kChurnlaw24_Step) a1), (12, .raw (.int .i64 (a1.length : Int))), (13, .raw (.int .i64 x981.1))]) (fun (x981 : (Int × Churnref24_Server)) (q982 : Unit) => (.box kChurnref24_Server b1 35 x981.2) :: L) h853 (sub_cons rfl (sub_cons rfl (sub_cons rfl (sub_cons rfl (sub_cons rfl (sub_nil _)))))) rfl (fun x981 q982 o854 h850 d851 => ?_)
    obtain ⟨x730, x731⟩ := x981
    dsimp only at h850 ⊢
    refine Under.seq ?_
    refine Under.region ?_
    refine Under.ov (OpV.bin rfl rfl rfl) rfl ?_
    refine Under.nil ?_
    refine Under.tN ?_
    refine Under.seq ?_
    refine Under.ite h850 rfl (fun h850 => ?_) (fun h850 => ?_)
    · refine Under.code_skip ?_
      refine Under.tN ?_
      obtain ⟨r909, h910, h850⟩ := bsome h850
      refine Under.seq ?_
      refine Under.after (fun X => ∀ (x908 : Churnref24_Server), r909 = (.inr x908) → Under F0 78 [(0, .raw (.pointer none)), (4, .raw (.pointer (some ⟨b1, 0, none⟩))), (11, .val (kSl kChurnlaw24_Step) a1), (12, .raw (.int .i64 (a1.length : Int))), (13, .raw (.int .i64 x730))] ((.box kChurnref24_Server b1 35 x908) :: L) X) ?_ ?_
      · intro x908 h978
        replace h978 := h978.symm
        subst h978
        refine Under.region ?_
        refine Under.ov (OpV.bin rfl rfl rfl) rfl ?_
        refine Under.ov (OpV.move rfl) rfl ?_
        refine Under.nil ?_
        exact Under.next _ () h850 (sub_cons rfl (sub_cons rfl (sub_cons rfl (sub_cons rfl (sub_cons rfl (sub_nil _)))))) rfl
      · intro K k911
        refine Under.block ?_
        refine Under.seq ?_
        refine Under.region ?_
        obtain ⟨x912, h913, h910⟩ := bsome h910
        refine Under.ov (OpV.ixS h913 Tryz.underlying22 sz54 rfl rdV rfl) rfl ?_
        refine Under.ov (OpV.ld kt54 rfl) rfl ?_
        refine Under.al ZT54 rfl fun b914 => ?_
        refine Under.stP (x' := x912) .box .id sz54_kChurnlaw24_Step rfl rfl rdV rfl ?_
        refine Under.nil ?_
        refine Under.frz (t := 8) rfl ?_
        refine Under.tN ?_
        refine Under.seq ?_
        refine Under.region ?_
        refine Under.al ZT49 rfl fun b915 => ?_
        refine Under.al ZT49 rfl fun b916 => ?_
        refine Under.nil ?_
        refine Under.tN ?_
        obtain ⟨r937, h938, h910⟩ := bsome h910
        refine Under.seq ?_
        refine Under.after (fun X => ∀ (x934 : Api_Outcome) (x935 : Api_Outcome) (x936 : Churnref24_Server), r937 = (.inr (.inr (x934, x935, x936))) → Under F0 78 [(0, .raw (.pointer none)), (4, .raw (.pointer (some ⟨b1, 0, none⟩))), (9, .ptr kApi_Outcome x934), (10, .ptr kApi_Outcome x935), (11, .val (kSl kChurnlaw24_Step) a1), (12, .raw (.int .i64 (a1.length : Int))), (13, .raw (.int .i64 x730))] ((.box kChurnref24_Server b1 35 x936) :: L) X) ?_ ?_
        · intro x934 x935 x936 h977
          replace h977 := h977.symm
          subst h977
          refine Under.seq ?_
          refine Under.region ?_
          refine Under.ov (OpV.ld kt49 rfl) rfl ?_
          refine Under.ov (OpV.ld kt49 rfl) rfl ?_
          obtain ⟨y940, h941, h910⟩ := bsome h910
          refine Under.call Tryz.call18 rfl rfl (f_churnref24_SameOutcome_ok h941 _) rfl ?_
          refine Under.ov (OpV.not rfl) rfl ?_
          refine Under.nil ?_
          refine Under.tN ?_
          refine Under.ite h910 rfl (fun h910 => ?_) (fun h910 => ?_)
          · refine Under.dropr ?_
            refine Under.seq ?_
            refine Under.region ?_
            refine Under.ov (OpV.asg rfl) rfl ?_
            refine Under.nil ?_
            refine Under.tN ?_
            refine Under.retc ?_
            refine Under.bR ?_
            refine Under.tR ?_
            have e942 := Option.some.inj h910
            subst e942
            have e943 := done_eq h850 d851
            subst e943
            refine Under.tR ?_
            refine Under.bR ?_
            refine Under.tR ?_
            have e944 := Option.some.inj h489
            subst e944
            have e945 := Option.some.inj hF
            subst e945
            exact Under.rets Tryz.results6 (.tm rfl .nil) rfl rfl
          · refine Under.code_skip ?_
            refine Under.bN ?_
            refine Under.tN ?_
            exact Under.weak (k911 _ (Option.some.inj h910).symm) (sub_cons rfl (sub_cons rfl (sub_cons rfl (sub_cons rfl (sub_cons rfl (sub_nil _))))))
        · intro K k939
          refine Under.seq ?_
          refine Under.region ?_
          refine Under.ov (OpV.fd fb54_0 rfl rfl) rfl ?_
          refine Under.ov (OpV.ldI kt3 rfl) rfl ?_
          refine Under.nil ?_
          refine Under.tN ?_
          refine Under.block ?_
          refine Under.seq ?_
          refine Under.region ?_
          refine Under.ov (OpV.bin rfl rfl rfl) rfl ?_
          refine Under.ov (OpV.asg rfl) rfl ?_
          refine Under.nil ?_
          refine Under.tN ?_
          refine Under.ite h938 rfl (fun h938 => ?_) (fun h938 => ?_)
          · refine Under.seq ?_
            refine Under.region ?_
            refine Under.fo2 ?_
            refine Under.ldP .box .id kt35_kChurnref24_Server rfl rfl ?_
            refine Under.ov (OpV.fd fb54_1 rfl rfl) rfl ?_
            refine Under.ov (OpV.ldI kt3 rfl) rfl ?_
            refine Under.ov (OpV.fd fb54_2 rfl rfl) rfl ?_
            refine Under.ov (OpV.ld kt26 rfl) rfl ?_
            refine Under.ov (OpV.fd fb54_3 rfl rfl) rfl ?_
            refine Under.ov (OpV.ld kt26 rfl) rfl ?_
            obtain ⟨y948, h949, h938⟩ := bsome h938
            refine Under.call Tryz.call15 rfl rfl (f_churnref24_Round_ok h949 _) rfl ?_
            refine Under.ov (OpV.move rfl) rfl ?_
            refine Under.ov (OpV.extr rfl rfl) rfl ?_
            refine Under.ov (OpV.extr rfl rfl) rfl ?_
            refine Under.fo1 ?_
            refine Under.stP (x' := y948.1) .box .id sz49_kApi_Outcome rfl rfl rdV rfl ?_
            refine Under.fo1 ?_
            refine Under.stP (x' := y948.2) .box .id sz35_kChurnref24_Server rfl rfl rdV rfl ?_
            refine Under.nil ?_
            refine Under.fo1 ?_
            refine Under.frz (t := 10) rfl ?_
            refine Under.tN ?_
            refine Under.region ?_
            refine Under.ov (OpV.move rfl) rfl ?_
            refine Under.ov (OpV.fd fb54_1 rfl rfl) rfl ?_
            refine Under.ov (OpV.ldI kt3 rfl) rfl ?_
            refine Under.ov (OpV.fd fb54_2 rfl rfl) rfl ?_
            refine Under.ov (OpV.ld kt26 rfl) rfl ?_
            refine Under.ov (OpV.fd fb54_3 rfl rfl) rfl ?_
            refine Under.ov (OpV.ld kt26 rfl) rfl ?_
            refine Under.ov (OpV.fd fb54_4 rfl rfl) rfl ?_
            refine Under.ov (OpV.ld kt52 rfl) rfl ?_
            obtain ⟨y950, h951, h938⟩ := bsome h938
            refine Under.call Tryz.call13 rfl rfl (f_server_Server_Round_nvvvv_ok h951 _) rfl ?_
            refine Under.fo1 ?_
            refine Under.stP (x' := y950) .box .id sz49_kApi_Outcome rfl rfl rdV rfl ?_
            refine Under.nil ?_
            refine Under.frz (t := 9) rfl ?_
            refine Under.bN ?_
            refine Under.tN ?_
            exact Under.weak (k939 _ _ _ (Option.some.inj h938).symm) (sub_cons rfl (sub_cons rfl (sub_cons rfl (sub_cons rfl (sub_cons rfl (sub_cons rfl (sub_cons rfl (sub_nil _))))))))
          · refine Under.seq ?_
            refine Under.region ?_
            refine Under.ov (OpV.bin rfl rfl rfl) rfl ?_
            refine Under.ov (OpV.asg rfl) rfl ?_
            refine Under.nil ?_
            refine Under.tN ?_
            refine Under.ite h938 rfl (fun h938 => ?_) (fun h938 => ?_)
            · refine Under.dropr ?_
              refine Under.dropr ?_
              refine Under.seq ?_
              refine Under.region ?_
              refine Under.ldP .box .id kt35_kChurnref24_Server rfl rfl ?_
              refine Under.ov (OpV.fd fb54_2 rfl rfl) rfl ?_
              refine Under.ov (OpV.ld kt26 rfl) rfl ?_
              obtain ⟨y953, h954, h938⟩ := bsome h938
              refine Under.call Tryz.call16 rfl rfl (f_churnref24_Put_ok h954 _) rfl ?_
              refine Under.stP (x' := y953) .box .id sz35_kChurnref24_Server rfl rfl rdV rfl ?_
              refine Under.nil ?_
              refine Under.tN ?_
              refine Under.seq ?_
              refine Under.region ?_
              refine Under.ov (OpV.move rfl) rfl ?_
              refine Under.ov (OpV.fd fb54_2 rfl rfl) rfl ?_
              refine Under.ov (OpV.ld kt26 rfl) rfl ?_
              obtain ⟨y955, h956, h938⟩ := bsome h938
              refine Under.call Tryz.call12 rfl rfl (f_server_Server_Put_nv_ok h956 _) rfl ?_
              refine Under.nil ?_
              refine Under.tN ?_
              refine Under.exit ?_
              refine Under.bM rfl ?_
              have e957 := Option.some.inj h938
              subst e957
              refine Under.tE ?_
              refine Under.bH ?_
              refine Under.tN ?_
              exact Under.weak (k911 _ (Option.some.inj h910).symm) (sub_cons rfl (sub_cons rfl (sub_cons rfl (sub_cons rfl (sub_cons rfl (sub_nil _))))))
            · refine Under.seq ?_
              refine Under.region ?_
              refine Under.ov (OpV.bin rfl rfl rfl) rfl ?_
              refine Under.ov (OpV.asg rfl) rfl ?_
              refine Under.nil ?_
              refine Under.tN ?_
              refine Under.ite h938 rfl (fun h938 => ?_) (fun h938 => ?_)
              · refine Under.seq ?_
                refine Under.region ?_
                refine Under.fo2 ?_
                refine Under.ldP .box .id kt35_kChurnref24_Server rfl rfl ?_
                refine Under.ov (OpV.fd fb54_3 rfl rfl) rfl ?_
                refine Under.ov (OpV.ld kt26 rfl) rfl ?_
                obtain ⟨y959, h960, h938⟩ := bsome h938
                refine Under.call Tryz.call17 rfl rfl (f_churnref24_Finish_ok h960 _) rfl ?_
                refine Under.ov (OpV.move rfl) rfl ?_
                refine Under.ov (OpV.extr rfl rfl) rfl ?_
                refine Under.ov (OpV.extr rfl rfl) rfl ?_
                refine Under.fo1 ?_
                refine Under.stP (x' := y959.1) .box .id sz49_kApi_Outcome rfl rfl rdV rfl ?_
                refine Under.fo1 ?_
                refine Under.stP (x' := y959.2) .box .id sz35_kChurnref24_Server rfl rfl rdV rfl ?_
                refine Under.nil ?_
                refine Under.fo1 ?_
                refine Under.frz (t := 10) rfl ?_
                refine Under.tN ?_
                refine Under.region ?_
                refine Under.ov (OpV.move rfl) rfl ?_
                refine Under.ov (OpV.fd fb54_3 rfl rfl) rfl ?_
                refine Under.ov (OpV.ld kt26 rfl) rfl ?_
                obtain ⟨y961, h962, h938⟩ := bsome h938
                refine Under.call Tryz.call14 rfl rfl (f_server_Server_Finish_nv_ok h962 _) rfl ?_
                refine Under.fo1 ?_
                refine Under.stP (x' := y961) .box .id sz49_kApi_Outcome rfl rfl rdV rfl ?_
                refine Under.nil ?_
                refine Under.frz (t := 9) rfl ?_
                refine Under.bN ?_
                refine Under.tN ?_
                exact Under.weak (k939 _ _ _ (Option.some.inj h938).symm) (sub_cons rfl (sub_cons rfl (sub_cons rfl (sub_cons rfl (sub_cons rfl (sub_cons rfl (sub_cons rfl (sub_nil _))))))))
              · refine Under.dropr ?_
                refine Under.dropr ?_
                refine Under.seq ?_
                refine Under.region ?_
                refine Under.ov (OpV.bin rfl rfl rfl) rfl ?_
                refine Under.ov (OpV.asg rfl) rfl ?_
                refine Under.nil ?_
                refine Under.tN ?_
                refine Under.ite h938 rfl (fun h938 => ?_) (fun h938 => ?_)
                · refine Under.seq ?_
                  refine Under.seq ?_
                  refine Under.phases rfl ?_
                  obtain ⟨y964, h965, h938⟩ := bsome h938
                  refine Under.grpA (L := L) [0, 1, 2, 3] [[0], [67], [4], [69]] [.v (.raw (.pointer none)), .v (.val kApi_State y964), .v (.raw (.pointer (some ⟨b1, 0 + 12, none⟩))), .v (.val kApi_State x731.S)] [] [] (fun T : List Res => (.box kChurnref24_Server b1 35 x731) :: T) lf1 rfl (by kernel_rfl) (ItsOk.of rfl rfl) (by kernel_rfl) rfl (fun F hF0 => ?_)
                  refine Aq.v (fun G T hG => ?_) ?_
                  · refine Under.ov (OpV.move rfl) rfl ?_
                    exact Zq.done rfl
                  refine Aq.v (fun G T hG => ?_) ?_
                  · refine Under.call Tryz.call10 rfl rfl (f_server_Server_State_n_ok h965 _) rfl ?_
                    exact Zq.done rfl
                  refine Aq.v (fun G T hG => ?_) ?_
                  · refine Under.ov (OpV.fdM fm35_2 rfl) rfl ?_
                    exact Zq.done rfl
                  refine Aq.v (fun G T hG => ?_) ?_
                  · refine Under.ldP .box (.fld .id uf_Churnref24_Server_2) kt33_kApi_State rfl rfl ?_
                    exact Zq.done rfl
                  refine Aq.nil ?_
                  refine Under.le hF0 ?_
                  obtain ⟨y966, h967, h938⟩ := bsome h938
                  refine Under.p1 4 rfl rfl ?_
                  refine Under.call Tryz.call9 rfl rfl (f_churnref24_SameState_ok h967 _) rfl ?_
                  refine Under.pn ?_
                  refine Under.p1 5 rfl rfl ?_
                  refine Under.ov (OpV.not rfl) rfl ?_
                  refine Under.pn ?_
                  refine Under.pdone rfl ?_
                  refine Under.tN ?_
                  refine Under.ite h938 rfl (fun h938 => ?_) (fun h938 => ?_)
                  · refine Under.dropr ?_
                    refine Under.seq ?_
                    refine Under.region ?_
                    refine Under.ov (OpV.asg rfl) rfl ?_
                    refine Under.nil ?_
                    refine Under.tN ?_
                    refine Under.retc ?_
                    refine Under.tR ?_
                    refine Under.bR ?_
                    refine Under.tR ?_
                    have e968 := Option.some.inj h938
                    subst e968
                    refine Under.bR ?_
                    refine Under.tR ?_
                    have e969 := Option.some.inj h910
                    subst e969
                    have e970 := done_eq h850 d851
                    subst e970
                    refine Under.tR ?_
                    refine Under.bR ?_
                    refine Under.tR ?_
                    have e971 := Option.some.inj h489
                    subst e971
                    have e972 := Option.some.inj hF
                    subst e972
                    exact Under.rets Tryz.results6 (.tm rfl .nil) rfl rfl
                  · refine Under.code_skip ?_
                    refine Under.tN ?_
                    refine Under.exit ?_
                    refine Under.bM rfl ?_
                    have e973 := Option.some.inj h938
                    subst e973
                    refine Under.tE ?_
                    refine Under.bH ?_
                    refine Under.tN ?_
                    exact Under.weak (k911 _ (Option.some.inj h910).symm) (sub_cons rfl (sub_cons rfl (sub_cons rfl (sub_cons rfl (sub_cons rfl (sub_nil _))))))
                · refine Under.exit ?_
                  refine Under.bM rfl ?_
                  have e975 := Option.some.inj h938
                  subst e975
                  refine Under.tE ?_
                  refine Under.bH ?_
                  refine Under.tN ?_
                  exact Under.weak (k911 _ (Option.some.inj h910).symm) (sub_cons rfl (sub_cons rfl (sub_cons rfl (sub_cons rfl (sub_cons rfl (sub_nil _))))))
    · refine Under.dropr ?_
      refine Under.exit ?_
      refine Under.tE ?_
      have e979 := done_eq h850 d851
      subst e979
      refine Under.tE ?_
      refine Under.bH ?_
      refine Under.tN ?_
      exact Under.weak (k490 () (Option.some.inj h489).symm) (sub_nil _)
/-- churn/churnlaw24.ServerNil -/
noncomputable def f_churnlaw24_ServerNil (a0 : List Churnlaw24_Step) : Option Bool :=
  (f_churnlaw24_awake).bind fun y1 =>
  bif !y1 then
    some false
  else
    (f_churnlaw24_played_nvv (⟨false, (⟨[], 0, 0, 0, 0, 0, 0, 0, 0, 0, 0⟩ : Api_Config), (⟨0, (⟨0, []⟩ : Api_Window)⟩ : Api_State), []⟩ : Churnref24_Server) a0).bind fun y4 =>
    some y4
theorem f_churnlaw24_ServerNil_ok {a0 : List Churnlaw24_Step} {r0 : Bool} (hF : f_churnlaw24_ServerNil a0 = some r0) (L : List Res) : Ok Tryz.prog 3 [SV.val (kSl kChurnlaw24_Step) a0] (L) (SV.raw (.bool r0)) (L) := by
  unfold f_churnlaw24_ServerNil at hF
  refine Ok.intro 10 [(0, .val (kSl kChurnlaw24_Step) a0)] Tryz.func3 rfl rfl rfl rfl (fun F0 => ?_)
  refine Under.seq ?_
  refine Under.region ?_
  refine Under.ov (OpV.asg rfl) rfl ?_
  refine Under.nil ?_
  refine Under.tN ?_
  refine Under.seq ?_
  refine Under.seq ?_
  refine Under.region ?_
  obtain ⟨y1, h2, hF⟩ := bsome hF
  refine Under.call Tryz.call5 rfl rfl (f_churnlaw24_awake_ok h2 _) rfl ?_
  refine Under.ov (OpV.not rfl) rfl ?_
  refine Under.nil ?_
  refine Under.tN ?_
  refine Under.ite hF rfl (fun hF => ?_) (fun hF => ?_)
  · refine Under.seq ?_
    refine Under.region ?_
    refine Under.ov (OpV.asg rfl) rfl ?_
    refine Under.nil ?_
    refine Under.tN ?_
    refine Under.retc ?_
    refine Under.tR ?_
    have e3 := Option.some.inj hF
    subst e3
    exact Under.rets Tryz.results3 (.tm rfl .nil) rfl rfl
  · refine Under.code_skip ?_
    refine Under.tN ?_
    refine Under.seq ?_
    refine Under.region ?_
    refine Under.ov (OpV.asg rfl) rfl ?_
    refine Under.nil ?_
    refine Under.tN ?_
    refine Under.seq ?_
    refine Under.region ?_
    refine Under.ov (OpV.move rfl) rfl ?_
    refine Under.ov (OpV.bst BT35 (Bld.nil _)) rfl ?_
    refine Under.ov (OpV.move rfl) rfl ?_
    obtain ⟨y4, h5, hF⟩ := bsome hF
    refine Under.call Tryz.call6 rfl rfl (f_churnlaw24_played_nvv_ok h5 _) rfl ?_
    refine Under.ov (OpV.asg rfl) rfl ?_
    refine Under.nil ?_
    refine Under.tN ?_
    refine Under.retc ?_
    have e6 := Option.some.inj hF
    subst e6
    exact Under.rets Tryz.results3 (.tm rfl .nil) rfl rfl
end Go.Proofs.YtghaoenkfacmcaaGreat

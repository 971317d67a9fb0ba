/- PRINTED BY gen2.py (of this repo): functions of the program in Lean, and that the machine follows them. -/
import Derived.Test.YtgllljocmpbooaaSimC
import Derived.Test.YtgllljocmpbooaaRows
import Derived.Test.YtgllljocmpbooaaLawSrt
set_option linter.unusedVariables false
set_option linter.unusedSimpArgs false
set_option maxRecDepth 20000
namespace Go.Proofs.Ytgllljocmpbooaa
open Go Go.Sim Go.ChangeShapes Go.WideShapes Go.ChangeAt Go.RowKit
structure Api_Epoch where
  Number : Int
  Tags : List (List Int)
abbrev kApi_EpochF : List (Fld Api_Epoch) := [⟨kInt .i64, Api_Epoch.Number⟩, ⟨kSl (kArr 16 (kInt .u8)), Api_Epoch.Tags⟩]
abbrev kApi_Epoch : Kd Api_Epoch := kSt kApi_EpochF
structure Api_Window where
  Newest : Int
  Epochs : List Api_Epoch
abbrev kApi_WindowF : List (Fld Api_Window) := [⟨kInt .i64, Api_Window.Newest⟩, ⟨kSl kApi_Epoch, Api_Window.Epochs⟩]
abbrev kApi_Window : Kd Api_Window := kSt kApi_WindowF
structure Api_Window_r1 where
  Newest : Int
  Epochs : Value
abbrev kApi_Window_r1F : List (Fld Api_Window_r1) := [⟨kInt .i64, Api_Window_r1.Newest⟩, ⟨kRaw, Api_Window_r1.Epochs⟩]
abbrev kApi_Window_r1 : Kd Api_Window_r1 := kSt kApi_Window_r1F
structure Api_Epoch_r1 where
  Number : Int
  Tags : Value
abbrev kApi_Epoch_r1F : List (Fld Api_Epoch_r1) := [⟨kInt .i64, Api_Epoch_r1.Number⟩, ⟨kRaw, Api_Epoch_r1.Tags⟩]
abbrev kApi_Epoch_r1 : Kd Api_Epoch_r1 := kSt kApi_Epoch_r1F
structure Churnlaw16_Look where
  W : Api_Window
  Span : Int
  Room : Int
  Tags : List (List Int)
abbrev kChurnlaw16_LookF : List (Fld Churnlaw16_Look) := [⟨kApi_Window, Churnlaw16_Look.W⟩, ⟨kInt .i64, Churnlaw16_Look.Span⟩, ⟨kInt .i64, Churnlaw16_Look.Room⟩, ⟨kSl (kArr 16 (kInt .u8)), Churnlaw16_Look.Tags⟩]
abbrev kChurnlaw16_Look : Kd Churnlaw16_Look := kSt kChurnlaw16_LookF
structure Churnlaw16_Job where
  W : Api_Window
  Span : Int
  Room : Int
  Epoch : Int
  Tags : List (List Int)
  More : List (List Int)
abbrev kChurnlaw16_JobF : List (Fld Churnlaw16_Job) := [⟨kApi_Window, Churnlaw16_Job.W⟩, ⟨kInt .i64, Churnlaw16_Job.Span⟩, ⟨kInt .i64, Churnlaw16_Job.Room⟩, ⟨kInt .i64, Churnlaw16_Job.Epoch⟩, ⟨kSl (kArr 16 (kInt .u8)), Churnlaw16_Job.Tags⟩, ⟨kSl (kArr 16 (kInt .u8)), Churnlaw16_Job.More⟩]
abbrev kChurnlaw16_Job : Kd Churnlaw16_Job := kSt kChurnlaw16_JobF
structure Churnlaw16_Step where
  Put : Bool
  Epoch : Int
  Tags : List (List Int)
abbrev kChurnlaw16_StepF : List (Fld Churnlaw16_Step) := [⟨kBool, Churnlaw16_Step.Put⟩, ⟨kInt .i64, Churnlaw16_Step.Epoch⟩, ⟨kSl (kArr 16 (kInt .u8)), Churnlaw16_Step.Tags⟩]
abbrev kChurnlaw16_Step : Kd Churnlaw16_Step := kSt kChurnlaw16_StepF
theorem z_kApi_Window (F : Fz) : Kd.rd kApi_Window F ([.int .i64 0] ++ [.slice none 0 0] ++ []) (⟨0, []⟩ : Api_Window) := ⟨[.int .i64 0], _, rfl, rfl, ⟨[.slice none 0 0], _, rfl, ⟨none, 0, rfl, Nat.le_refl _, .inl rfl⟩, rfl⟩⟩
theorem ZT27 : ZT Try.prog 27 kApi_Window (⟨0, []⟩ : Api_Window) := ⟨(.agg #[.int .i64 0, .slice none 0 0] : Value), by kernel_rfl, fun F => cells_cast (by kernel_rfl) (z_kApi_Window F)⟩
theorem z_kArr_16_kInt_u8_ (F : Fz) : Kd.rd (kArr 16 (kInt .u8)) F ((List.replicate 16 [.int .u8 0]).flatten) (List.replicate 16 0) := ⟨by simp, rdAll_rep (K := kInt .u8) rfl 16⟩
theorem ZT43 : ZT Try.prog 43 (kArr 16 (kInt .u8)) (List.replicate 16 0) := ⟨(.agg #[.int .u8 0, .int .u8 0, .int .u8 0, .int .u8 0, .int .u8 0, .int .u8 0, .int .u8 0, .int .u8 0, .int .u8 0, .int .u8 0, .int .u8 0, .int .u8 0, .int .u8 0, .int .u8 0, .int .u8 0, .int .u8 0] : Value), by kernel_rfl, fun F => cells_cast (by kernel_rfl) (z_kArr_16_kInt_u8_ F)⟩
theorem sz5_kInt_u8 : (Try.prog.info? 5).map (·.size) = some (Kd.n (kInt .u8)) := by kernel_rfl
theorem kt43 : KT Try.prog 43 (kArr 16 (kInt .u8)) := ⟨by kernel_rfl, by kernel_rfl⟩
theorem sz43_kArr_16_kInt_u8_ : (Try.prog.info? 43).map (·.size) = some (Kd.n (kArr 16 (kInt .u8))) := by kernel_rfl
theorem ET43 : ET Try.prog 43 (kArr 16 (kInt .u8)) (List.replicate 16 0) := ⟨⟨Try.t43, (.agg #[.int .u8 0, .int .u8 0, .int .u8 0, .int .u8 0, .int .u8 0, .int .u8 0, .int .u8 0, .int .u8 0, .int .u8 0, .int .u8 0, .int .u8 0, .int .u8 0, .int .u8 0, .int .u8 0, .int .u8 0, .int .u8 0] : Value), by kernel_rfl, by kernel_rfl, by kernel_rfl, by decide, fun F => cells_cast (by kernel_rfl) (z_kArr_16_kInt_u8_ F)⟩⟩
theorem z_kApi_Epoch (F : Fz) : Kd.rd kApi_Epoch F ([.int .i64 0] ++ [.slice none 0 0] ++ []) (⟨0, []⟩ : Api_Epoch) := ⟨[.int .i64 0], _, rfl, rfl, ⟨[.slice none 0 0], _, rfl, ⟨none, 0, rfl, Nat.le_refl _, .inl rfl⟩, rfl⟩⟩
theorem BT61 : BT Try.prog 61 kApi_EpochF (⟨0, []⟩ : Api_Epoch) := ⟨⟨Try.t61, (.agg #[.int .i64 0, .slice none 0 0] : Value), _, [(0, 1), (1, 1)], by kernel_rfl, by kernel_rfl, Try.underlying61, by kernel_rfl, fun i f h => match i, f, h with
    | 0, f, h => by cases h; rfl
    | 1, f, h => by cases h; rfl
    | (_ + 2), f, h => by simp [kApi_EpochF] at h, fun F => cells_castF (by kernel_rfl) (z_kApi_Epoch F)⟩⟩
theorem ET61 : ET Try.prog 61 kApi_Epoch (⟨0, []⟩ : Api_Epoch) := ⟨⟨Try.t61, (.agg #[.int .i64 0, .slice none 0 0] : Value), by kernel_rfl, by kernel_rfl, by kernel_rfl, by decide, fun F => cells_cast (by kernel_rfl) (z_kApi_Epoch F)⟩⟩
theorem BT27 : BT Try.prog 27 kApi_WindowF (⟨0, []⟩ : Api_Window) := ⟨⟨Try.t27, (.agg #[.int .i64 0, .slice none 0 0] : Value), _, [(0, 1), (1, 1)], by kernel_rfl, by kernel_rfl, Try.underlying27, by kernel_rfl, fun i f h => match i, f, h with
    | 0, f, h => by cases h; rfl
    | 1, f, h => by cases h; rfl
    | (_ + 2), f, h => by simp [kApi_WindowF] at h, fun F => cells_castF (by kernel_rfl) (z_kApi_Window F)⟩⟩
theorem sz27_kApi_Window : (Try.prog.info? 27).map (·.size) = some (Kd.n kApi_Window) := by kernel_rfl
theorem kt27 : KT Try.prog 27 kApi_Window := ⟨by kernel_rfl, by kernel_rfl⟩
theorem fb27_0 : fldB Try.prog 27 0 = some (offF kApi_WindowF 0, 0 + 1) := by kernel_rfl
theorem kt2 : KT Try.prog 2 (kInt .i64) := ⟨by kernel_rfl, by kernel_rfl⟩
theorem runj_4 {P : Program} {ops : Array Oper} {rest : List Oper} {Q : Exit → Act → World → Prop} {F0 : Fz} {n : Nat} {E : List (Nat × SV)} {L : List Res} {o0 o1 o2 o3 : Oper} (d : Nat) (e : Bool) (k : Under F0 n ((d, .raw (.bool e)) :: E) L (wpList P ops Q rest)) (h : Under F0 n ((d, .raw (.bool e)) :: E) L (wpList P ops Q rest) → Under F0 n E L (wpList P ops Q (o0 :: o1 :: o2 :: o3 :: rest))) : Under F0 n E L (wpList P ops Q (o0 :: o1 :: o2 :: o3 :: rest)) := h k
theorem runj_4q {P : Program} {ops : Array Oper} {rest : List Oper} {C : World → Prop} {Qa : Act → Prop} {F0 : Fz} {n : Nat} {E : List (Nat × SV)} {o0 o1 o2 o3 : Oper} (d : Nat) (e : Bool) (k : UnderQ F0 n ((d, .raw (.bool e)) :: E) (wpQuiet P ops C Qa rest)) (h : UnderQ F0 n ((d, .raw (.bool e)) :: E) (wpQuiet P ops C Qa rest) → UnderQ F0 n E (wpQuiet P ops C Qa (o0 :: o1 :: o2 :: o3 :: rest))) : UnderQ F0 n E (wpQuiet P ops C Qa (o0 :: o1 :: o2 :: o3 :: rest)) := h k
theorem z_kApi_Window_r1 (F : Fz) : Kd.rd kApi_Window_r1 F ([.int .i64 0] ++ [.slice none 0 0] ++ []) (⟨0, (.slice none 0 0)⟩ : Api_Window_r1) := ⟨[.int .i64 0], _, rfl, rfl, ⟨[.slice none 0 0], _, rfl, ⟨rfl, rfl⟩, rfl⟩⟩
theorem BT27_Api_Window_r1 : BT Try.prog 27 kApi_Window_r1F (⟨0, (.slice none 0 0)⟩ : Api_Window_r1) := ⟨⟨Try.t27, (.agg #[.int .i64 0, .slice none 0 0] : Value), _, [(0, 1), (1, 1)], by kernel_rfl, by kernel_rfl, Try.underlying27, by kernel_rfl, fun i f h => match i, f, h with
    | 0, f, h => by cases h; rfl
    | 1, f, h => by cases h; rfl
    | (_ + 2), f, h => by simp [kApi_Window_r1F] at h, fun F => cells_castF (by kernel_rfl) (z_kApi_Window_r1 F)⟩⟩
theorem ZT27_Api_Window_r1 : ZT Try.prog 27 kApi_Window_r1 (⟨0, (.slice none 0 0)⟩ : Api_Window_r1) := ⟨(.agg #[.int .i64 0, .slice none 0 0] : Value), by kernel_rfl, fun F => cells_cast (by kernel_rfl) (z_kApi_Window_r1 F)⟩
theorem sz27_kApi_Window_r1 : (Try.prog.info? 27).map (·.size) = some (Kd.n kApi_Window_r1) := by kernel_rfl
theorem fb27_1 : fldB Try.prog 27 1 = some (offF kApi_WindowF 1, 0 + 1) := by kernel_rfl
theorem kt25 : KT Try.prog 25 (kSl kApi_Epoch) := ⟨by kernel_rfl, by kernel_rfl⟩
theorem sz61 : (Try.prog.info? 61).map (·.size) = some (Kd.n kApi_Epoch) := by kernel_rfl
theorem kt61 : KT Try.prog 61 kApi_Epoch := ⟨by kernel_rfl, by kernel_rfl⟩
theorem ZT61 : ZT Try.prog 61 kApi_Epoch (⟨0, []⟩ : Api_Epoch) := ⟨(.agg #[.int .i64 0, .slice none 0 0] : Value), by kernel_rfl, fun F => cells_cast (by kernel_rfl) (z_kApi_Epoch F)⟩
theorem sz61_kApi_Epoch : (Try.prog.info? 61).map (·.size) = some (Kd.n kApi_Epoch) := by kernel_rfl
theorem fb61_0 : fldB Try.prog 61 0 = some (offF kApi_EpochF 0, 0 + 1) := by kernel_rfl
theorem fm27_0 : fldB Try.prog 27 0 = some (0, 0 + 1) := by kernel_rfl
theorem uf_Api_Window_r1_0 : UpF kApi_Window_r1F 0 ⟨kInt .i64, Api_Window_r1.Newest⟩ (fun x y => { x with Newest := y }) := ⟨rfl, fun _ _ => rfl, fun _ _ => (by intro q hq; simp only [List.mem_cons, List.not_mem_nil, or_false] at hq; rcases hq with rfl <;> rfl)⟩
theorem kt2_kInt_i64 : KT Try.prog 2 (kInt .i64) := ⟨by kernel_rfl, by kernel_rfl⟩
theorem fm27_1 : fldB Try.prog 27 1 = some (1, 0 + 1) := by kernel_rfl
theorem uf_Api_Window_r1_1 : UpF kApi_Window_r1F 1 ⟨kRaw, Api_Window_r1.Epochs⟩ (fun x y => { x with Epochs := y }) := ⟨rfl, fun _ _ => rfl, fun _ _ => ⟨rfl, (fun q hq => by simp at hq)⟩⟩
theorem kt25_kRaw : KT Try.prog 25 kRaw := ⟨by kernel_rfl, by kernel_rfl⟩
theorem fb61_1 : fldB Try.prog 61 1 = some (offF kApi_EpochF 1, 0 + 1) := by kernel_rfl
theorem kt36 : KT Try.prog 36 (kSl (kArr 16 (kInt .u8))) := ⟨by kernel_rfl, by kernel_rfl⟩
theorem AT43 : AT Try.prog 43 (kArr 16 (kInt .u8)) (List.replicate 16 0) 16 := ⟨⟨Try.t43, (.agg #[.int .u8 0, .int .u8 0, .int .u8 0, .int .u8 0, .int .u8 0, .int .u8 0, .int .u8 0, .int .u8 0, .int .u8 0, .int .u8 0, .int .u8 0, .int .u8 0, .int .u8 0, .int .u8 0, .int .u8 0, .int .u8 0] : Value), by kernel_rfl, by kernel_rfl, by kernel_rfl, by kernel_rfl, by decide, by decide, fun F => cells_cast (by kernel_rfl) (z_kArr_16_kInt_u8_ F)⟩⟩
theorem AT61 : AT Try.prog 61 kApi_Epoch (⟨0, []⟩ : Api_Epoch) 32 := ⟨⟨Try.t61, (.agg #[.int .i64 0, .slice none 0 0] : Value), by kernel_rfl, by kernel_rfl, by kernel_rfl, by kernel_rfl, by decide, by decide, fun F => cells_cast (by kernel_rfl) (z_kApi_Epoch F)⟩⟩
theorem sz25_kRaw : (Try.prog.info? 25).map (·.size) = some (Kd.n kRaw) := by kernel_rfl
theorem runj_5 {P : Program} {ops : Array Oper} {rest : List Oper} {Q : Exit → Act → World → Prop} {F0 : Fz} {n : Nat} {E : List (Nat × SV)} {L : List Res} {o0 o1 o2 o3 o4 : Oper} (d : Nat) (e : Bool) (k : Under F0 n ((d, .raw (.bool e)) :: E) L (wpList P ops Q rest)) (h : Under F0 n ((d, .raw (.bool e)) :: E) L (wpList P ops Q rest) → Under F0 n E L (wpList P ops Q (o0 :: o1 :: o2 :: o3 :: o4 :: rest))) : Under F0 n E L (wpList P ops Q (o0 :: o1 :: o2 :: o3 :: o4 :: rest)) := h k
theorem runj_5q {P : Program} {ops : Array Oper} {rest : List Oper} {C : World → Prop} {Qa : Act → Prop} {F0 : Fz} {n : Nat} {E : List (Nat × SV)} {o0 o1 o2 o3 o4 : Oper} (d : Nat) (e : Bool) (k : UnderQ F0 n ((d, .raw (.bool e)) :: E) (wpQuiet P ops C Qa rest)) (h : UnderQ F0 n ((d, .raw (.bool e)) :: E) (wpQuiet P ops C Qa rest) → UnderQ F0 n E (wpQuiet P ops C Qa (o0 :: o1 :: o2 :: o3 :: o4 :: rest))) : UnderQ F0 n E (wpQuiet P ops C Qa (o0 :: o1 :: o2 :: o3 :: o4 :: rest)) := h k
theorem runj_3 {P : Program} {ops : Array Oper} {rest : List Oper} {Q : Exit → Act → World → Prop} {F0 : Fz} {n : Nat} {E : List (Nat × SV)} {L : List Res} {o0 o1 o2 : Oper} (d : Nat) (e : Bool) (k : Under F0 n ((d, .raw (.bool e)) :: E) L (wpList P ops Q rest)) (h : Under F0 n ((d, .raw (.bool e)) :: E) L (wpList P ops Q rest) → Under F0 n E L (wpList P ops Q (o0 :: o1 :: o2 :: rest))) : Under F0 n E L (wpList P ops Q (o0 :: o1 :: o2 :: rest)) := h k
theorem runj_3q {P : Program} {ops : Array Oper} {rest : List Oper} {C : World → Prop} {Qa : Act → Prop} {F0 : Fz} {n : Nat} {E : List (Nat × SV)} {o0 o1 o2 : Oper} (d : Nat) (e : Bool) (k : UnderQ F0 n ((d, .raw (.bool e)) :: E) (wpQuiet P ops C Qa rest)) (h : UnderQ F0 n ((d, .raw (.bool e)) :: E) (wpQuiet P ops C Qa rest) → UnderQ F0 n E (wpQuiet P ops C Qa (o0 :: o1 :: o2 :: rest))) : UnderQ F0 n E (wpQuiet P ops C Qa (o0 :: o1 :: o2 :: rest)) := h k
theorem sz43 : (Try.prog.info? 43).map (·.size) = some (Kd.n (kArr 16 (kInt .u8))) := by kernel_rfl
theorem kt5 : KT Try.prog 5 (kInt .u8) := ⟨by kernel_rfl, by kernel_rfl⟩
theorem key43 : KeyK Try.prog 43 (kArr 16 (kInt .u8)) := KeyK.ints Try.underlying43 Try.underlying5 kt5
theorem runj_6 {P : Program} {ops : Array Oper} {rest : List Oper} {Q : Exit → Act → World → Prop} {F0 : Fz} {n : Nat} {E : List (Nat × SV)} {L : List Res} {o0 o1 o2 o3 o4 o5 : Oper} (d : Nat) (e : Bool) (k : Under F0 n ((d, .raw (.bool e)) :: E) L (wpList P ops Q rest)) (h : Under F0 n ((d, .raw (.bool e)) :: E) L (wpList P ops Q rest) → Under F0 n E L (wpList P ops Q (o0 :: o1 :: o2 :: o3 :: o4 :: o5 :: rest))) : Under F0 n E L (wpList P ops Q (o0 :: o1 :: o2 :: o3 :: o4 :: o5 :: rest)) := h k
theorem runj_6q {P : Program} {ops : Array Oper} {rest : List Oper} {C : World → Prop} {Qa : Act → Prop} {F0 : Fz} {n : Nat} {E : List (Nat × SV)} {o0 o1 o2 o3 o4 o5 : Oper} (d : Nat) (e : Bool) (k : UnderQ F0 n ((d, .raw (.bool e)) :: E) (wpQuiet P ops C Qa rest)) (h : UnderQ F0 n ((d, .raw (.bool e)) :: E) (wpQuiet P ops C Qa rest) → UnderQ F0 n E (wpQuiet P ops C Qa (o0 :: o1 :: o2 :: o3 :: o4 :: o5 :: rest))) : UnderQ F0 n E (wpQuiet P ops C Qa (o0 :: o1 :: o2 :: o3 :: o4 :: o5 :: rest)) := h k
theorem runj_11 {P : Program} {ops : Array Oper} {rest : List Oper} {Q : Exit → Act → World → Prop} {F0 : Fz} {n : Nat} {E : List (Nat × SV)} {L : List Res} {o0 o1 o2 o3 o4 o5 o6 o7 o8 o9 o10 : Oper} (d : Nat) (e : Bool) (k : Under F0 n ((d, .raw (.bool e)) :: E) L (wpList P ops Q rest)) (h : Under F0 n ((d, .raw (.bool e)) :: E) L (wpList P ops Q rest) → Under F0 n E L (wpList P ops Q (o0 :: o1 :: o2 :: o3 :: o4 :: o5 :: o6 :: o7 :: o8 :: o9 :: o10 :: rest))) : Under F0 n E L (wpList P ops Q (o0 :: o1 :: o2 :: o3 :: o4 :: o5 :: o6 :: o7 :: o8 :: o9 :: o10 :: rest)) := h k
theorem runj_11q {P : Program} {ops : Array Oper} {rest : List Oper} {C : World → Prop} {Qa : Act → Prop} {F0 : Fz} {n : Nat} {E : List (Nat × SV)} {o0 o1 o2 o3 o4 o5 o6 o7 o8 o9 o10 : Oper} (d : Nat) (e : Bool) (k : UnderQ F0 n ((d, .raw (.bool e)) :: E) (wpQuiet P ops C Qa rest)) (h : UnderQ F0 n ((d, .raw (.bool e)) :: E) (wpQuiet P ops C Qa rest) → UnderQ F0 n E (wpQuiet P ops C Qa (o0 :: o1 :: o2 :: o3 :: o4 :: o5 :: o6 :: o7 :: o8 :: o9 :: o10 :: rest))) : UnderQ F0 n E (wpQuiet P ops C Qa (o0 :: o1 :: o2 :: o3 :: o4 :: o5 :: o6 :: o7 :: o8 :: o9 :: o10 :: rest)) := h k
theorem runj_15 {P : Program} {ops : Array Oper} {rest : List Oper} {Q : Exit → Act → World → Prop} {F0 : Fz} {n : Nat} {E : List (Nat × SV)} {L : List Res} {o0 o1 o2 o3 o4 o5 o6 o7 o8 o9 o10 o11 o12 o13 o14 : Oper} (d : Nat) (e : Bool) (k : Under F0 n ((d, .raw (.bool e)) :: E) L (wpList P ops Q rest)) (h : Under F0 n ((d, .raw (.bool e)) :: E) L (wpList P ops Q rest) → Under F0 n E L (wpList P ops Q (o0 :: o1 :: o2 :: o3 :: o4 :: o5 :: o6 :: o7 :: o8 :: o9 :: o10 :: o11 :: o12 :: o13 :: o14 :: rest))) : Under F0 n E L (wpList P ops Q (o0 :: o1 :: o2 :: o3 :: o4 :: o5 :: o6 :: o7 :: o8 :: o9 :: o10 :: o11 :: o12 :: o13 :: o14 :: rest)) := h k
theorem runj_15q {P : Program} {ops : Array Oper} {rest : List Oper} {C : World → Prop} {Qa : Act → Prop} {F0 : Fz} {n : Nat} {E : List (Nat × SV)} {o0 o1 o2 o3 o4 o5 o6 o7 o8 o9 o10 o11 o12 o13 o14 : Oper} (d : Nat) (e : Bool) (k : UnderQ F0 n ((d, .raw (.bool e)) :: E) (wpQuiet P ops C Qa rest)) (h : UnderQ F0 n ((d, .raw (.bool e)) :: E) (wpQuiet P ops C Qa rest) → UnderQ F0 n E (wpQuiet P ops C Qa (o0 :: o1 :: o2 :: o3 :: o4 :: o5 :: o6 :: o7 :: o8 :: o9 :: o10 :: o11 :: o12 :: o13 :: o14 :: rest))) : UnderQ F0 n E (wpQuiet P ops C Qa (o0 :: o1 :: o2 :: o3 :: o4 :: o5 :: o6 :: o7 :: o8 :: o9 :: o10 :: o11 :: o12 :: o13 :: o14 :: rest)) := h k
theorem runj_8 {P : Program} {ops : Array Oper} {rest : List Oper} {Q : Exit → Act → World → Prop} {F0 : Fz} {n : Nat} {E : List (Nat × SV)} {L : List Res} {o0 o1 o2 o3 o4 o5 o6 o7 : Oper} (d : Nat) (e : Bool) (k : Under F0 n ((d, .raw (.bool e)) :: E) L (wpList P ops Q rest)) (h : Under F0 n ((d, .raw (.bool e)) :: E) L (wpList P ops Q rest) → Under F0 n E L (wpList P ops Q (o0 :: o1 :: o2 :: o3 :: o4 :: o5 :: o6 :: o7 :: rest))) : Under F0 n E L (wpList P ops Q (o0 :: o1 :: o2 :: o3 :: o4 :: o5 :: o6 :: o7 :: rest)) := h k
theorem runj_8q {P : Program} {ops : Array Oper} {rest : List Oper} {C : World → Prop} {Qa : Act → Prop} {F0 : Fz} {n : Nat} {E : List (Nat × SV)} {o0 o1 o2 o3 o4 o5 o6 o7 : Oper} (d : Nat) (e : Bool) (k : UnderQ F0 n ((d, .raw (.bool e)) :: E) (wpQuiet P ops C Qa rest)) (h : UnderQ F0 n ((d, .raw (.bool e)) :: E) (wpQuiet P ops C Qa rest) → UnderQ F0 n E (wpQuiet P ops C Qa (o0 :: o1 :: o2 :: o3 :: o4 :: o5 :: o6 :: o7 :: rest))) : UnderQ F0 n E (wpQuiet P ops C Qa (o0 :: o1 :: o2 :: o3 :: o4 :: o5 :: o6 :: o7 :: rest)) := h k
theorem sz5 : (Try.prog.info? 5).map (·.size) = some (Kd.n (kInt .u8)) := by kernel_rfl
theorem nx55 : Extern.findNext Try.f55 = none := by kernel_rfl
theorem fd55 : Extern.find Try.f55 = some Extern.BytealgCompare.compare := by kernel_rfl
theorem nb55 : Try.f55.body.isNone = true := by kernel_rfl
theorem nn55 : (Try.f55.name == "runtime.NumGoroutine") = false := by kernel_rfl
theorem fm61_0 : fldB Try.prog 61 0 = some (0, 0 + 1) := by kernel_rfl
theorem uf_Api_Epoch_0 : UpF kApi_EpochF 0 ⟨kInt .i64, Api_Epoch.Number⟩ (fun x y => { x with Number := y }) := ⟨rfl, fun _ _ => rfl, fun _ _ => (by intro q hq; simp only [List.mem_cons, List.not_mem_nil, or_false] at hq; rcases hq with rfl <;> rfl)⟩
abbrev mk_Api_Epoch : Api_Epoch → Value → Api_Epoch_r1 := fun x q => ⟨x.Number, q⟩
abbrev tg_Api_Epoch : Api_Epoch → List (List Int) := fun x => x.Tags
theorem frR_Api_Epoch : Free (kApi_Epoch_r1) := Free.st2 Free.int Free.raw
theorem frT_Api_Epoch : Free (kArr 16 (kInt .u8)) := Free.arr Free.int
theorem cvm_Api_Epoch : ∀ F x q, (kSl (kArr 16 (kInt .u8))).val F q (tg_Api_Epoch x) → ∀ cs, (kApi_Epoch_r1).rd F cs (mk_Api_Epoch x q) → (kApi_Epoch).rd F cs x := fun F x q hv cs h => rdF_cv (fs' := kApi_Epoch_r1F) (fs := kApi_EpochF) (x' := mk_Api_Epoch x q) (x := x) ⟨fun _ h => h, cv_raw hv, trivial⟩ h
theorem z_kApi_Epoch_r1 (F : Fz) : Kd.rd kApi_Epoch_r1 F ([.int .i64 0] ++ [.slice none 0 0] ++ []) (⟨0, (.slice none 0 0)⟩ : Api_Epoch_r1) := ⟨[.int .i64 0], _, rfl, rfl, ⟨[.slice none 0 0], _, rfl, ⟨rfl, rfl⟩, rfl⟩⟩
theorem BT61_Api_Epoch_r1 : BT Try.prog 61 kApi_Epoch_r1F (⟨0, (.slice none 0 0)⟩ : Api_Epoch_r1) := ⟨⟨Try.t61, (.agg #[.int .i64 0, .slice none 0 0] : Value), _, [(0, 1), (1, 1)], by kernel_rfl, by kernel_rfl, Try.underlying61, by kernel_rfl, fun i f h => match i, f, h with
    | 0, f, h => by cases h; rfl
    | 1, f, h => by cases h; rfl
    | (_ + 2), f, h => by simp [kApi_Epoch_r1F] at h, fun F => cells_castF (by kernel_rfl) (z_kApi_Epoch_r1 F)⟩⟩
theorem ET61_Api_Epoch_r1 : ET Try.prog 61 kApi_Epoch_r1 (⟨0, (.slice none 0 0)⟩ : Api_Epoch_r1) := ⟨⟨Try.t61, (.agg #[.int .i64 0, .slice none 0 0] : Value), by kernel_rfl, by kernel_rfl, by kernel_rfl, by decide, fun F => cells_cast (by kernel_rfl) (z_kApi_Epoch_r1 F)⟩⟩
theorem AT61_Api_Epoch_r1 : AT Try.prog 61 kApi_Epoch_r1 (⟨0, (.slice none 0 0)⟩ : Api_Epoch_r1) 32 := ⟨⟨Try.t61, (.agg #[.int .i64 0, .slice none 0 0] : Value), by kernel_rfl, by kernel_rfl, by kernel_rfl, by kernel_rfl, by decide, by decide, fun F => cells_cast (by kernel_rfl) (z_kApi_Epoch_r1 F)⟩⟩
theorem fm61_1 : fldB Try.prog 61 1 = some (1, 0 + 1) := by kernel_rfl
theorem uf_Api_Epoch_1 : UpF kApi_EpochF 1 ⟨kSl (kArr 16 (kInt .u8)), Api_Epoch.Tags⟩ (fun x y => { x with Tags := y }) := ⟨rfl, fun _ _ => rfl, fun _ _ => ⟨rfl, (fun q hq => by simp at hq)⟩⟩
theorem kt36_kSl_kArr_16_kInt_u8_ : KT Try.prog 36 (kSl (kArr 16 (kInt .u8))) := ⟨by kernel_rfl, by kernel_rfl⟩
theorem sz36_kSl_kArr_16_kInt_u8_ : (Try.prog.info? 36).map (·.size) = some (Kd.n (kSl (kArr 16 (kInt .u8)))) := by kernel_rfl
theorem sz61_kApi_Epoch_r1 : (Try.prog.info? 61).map (·.size) = some (Kd.n kApi_Epoch_r1) := by kernel_rfl
theorem kt61_kApi_Epoch_r1 : KT Try.prog 61 kApi_Epoch_r1 := ⟨by kernel_rfl, by kernel_rfl⟩
theorem ZT61_Api_Epoch_r1 : ZT Try.prog 61 kApi_Epoch_r1 (⟨0, (.slice none 0 0)⟩ : Api_Epoch_r1) := ⟨(.agg #[.int .i64 0, .slice none 0 0] : Value), by kernel_rfl, fun F => cells_cast (by kernel_rfl) (z_kApi_Epoch_r1 F)⟩
theorem uf_Api_Epoch_r1_1 : UpF kApi_Epoch_r1F 1 ⟨kRaw, Api_Epoch_r1.Tags⟩ (fun x y => { x with Tags := y }) := ⟨rfl, fun _ _ => rfl, fun _ _ => ⟨rfl, (fun q hq => by simp at hq)⟩⟩
theorem kt36_kRaw : KT Try.prog 36 kRaw := ⟨by kernel_rfl, by kernel_rfl⟩
theorem eqk5 : EqK Try.prog 5 (kInt .u8) 1 := EqK.int Try.underlying5
theorem eqk43 : EqK Try.prog 43 (kArr 16 (kInt .u8)) 2 := EqK.arr eqk5 kt5 Try.underlying43
theorem eqg43 : Try.prog.eqGuardType Try.prog.depth 43 = false := by kernel_rfl
theorem runj_7 {P : Program} {ops : Array Oper} {rest : List Oper} {Q : Exit → Act → World → Prop} {F0 : Fz} {n : Nat} {E : List (Nat × SV)} {L : List Res} {o0 o1 o2 o3 o4 o5 o6 : Oper} (d : Nat) (e : Bool) (k : Under F0 n ((d, .raw (.bool e)) :: E) L (wpList P ops Q rest)) (h : Under F0 n ((d, .raw (.bool e)) :: E) L (wpList P ops Q rest) → Under F0 n E L (wpList P ops Q (o0 :: o1 :: o2 :: o3 :: o4 :: o5 :: o6 :: rest))) : Under F0 n E L (wpList P ops Q (o0 :: o1 :: o2 :: o3 :: o4 :: o5 :: o6 :: rest)) := h k
theorem runj_7q {P : Program} {ops : Array Oper} {rest : List Oper} {C : World → Prop} {Qa : Act → Prop} {F0 : Fz} {n : Nat} {E : List (Nat × SV)} {o0 o1 o2 o3 o4 o5 o6 : Oper} (d : Nat) (e : Bool) (k : UnderQ F0 n ((d, .raw (.bool e)) :: E) (wpQuiet P ops C Qa rest)) (h : UnderQ F0 n ((d, .raw (.bool e)) :: E) (wpQuiet P ops C Qa rest) → UnderQ F0 n E (wpQuiet P ops C Qa (o0 :: o1 :: o2 :: o3 :: o4 :: o5 :: o6 :: rest))) : UnderQ F0 n E (wpQuiet P ops C Qa (o0 :: o1 :: o2 :: o3 :: o4 :: o5 :: o6 :: rest)) := h k
theorem fb38_0 : fldB Try.prog 38 0 = some (offF kChurnlaw16_LookF 0, 1 + 1) := by kernel_rfl
theorem fb38_1 : fldB Try.prog 38 1 = some (offF kChurnlaw16_LookF 1, 0 + 1) := by kernel_rfl
theorem kt3 : KT Try.prog 3 (kInt .i64) := ⟨by kernel_rfl, by kernel_rfl⟩
theorem fb38_2 : fldB Try.prog 38 2 = some (offF kChurnlaw16_LookF 2, 0 + 1) := by kernel_rfl
theorem fb38_3 : fldB Try.prog 38 3 = some (offF kChurnlaw16_LookF 3, 0 + 1) := by kernel_rfl
theorem runj_17 {P : Program} {ops : Array Oper} {rest : List Oper} {Q : Exit → Act → World → Prop} {F0 : Fz} {n : Nat} {E : List (Nat × SV)} {L : List Res} {o0 o1 o2 o3 o4 o5 o6 o7 o8 o9 o10 o11 o12 o13 o14 o15 o16 : Oper} (d : Nat) (e : Bool) (k : Under F0 n ((d, .raw (.bool e)) :: E) L (wpList P ops Q rest)) (h : Under F0 n ((d, .raw (.bool e)) :: E) L (wpList P ops Q rest) → Under F0 n E L (wpList P ops Q (o0 :: o1 :: o2 :: o3 :: o4 :: o5 :: o6 :: o7 :: o8 :: o9 :: o10 :: o11 :: o12 :: o13 :: o14 :: o15 :: o16 :: rest))) : Under F0 n E L (wpList P ops Q (o0 :: o1 :: o2 :: o3 :: o4 :: o5 :: o6 :: o7 :: o8 :: o9 :: o10 :: o11 :: o12 :: o13 :: o14 :: o15 :: o16 :: rest)) := h k
theorem runj_17q {P : Program} {ops : Array Oper} {rest : List Oper} {C : World → Prop} {Qa : Act → Prop} {F0 : Fz} {n : Nat} {E : List (Nat × SV)} {o0 o1 o2 o3 o4 o5 o6 o7 o8 o9 o10 o11 o12 o13 o14 o15 o16 : Oper} (d : Nat) (e : Bool) (k : UnderQ F0 n ((d, .raw (.bool e)) :: E) (wpQuiet P ops C Qa rest)) (h : UnderQ F0 n ((d, .raw (.bool e)) :: E) (wpQuiet P ops C Qa rest) → UnderQ F0 n E (wpQuiet P ops C Qa (o0 :: o1 :: o2 :: o3 :: o4 :: o5 :: o6 :: o7 :: o8 :: o9 :: o10 :: o11 :: o12 :: o13 :: o14 :: o15 :: o16 :: rest))) : UnderQ F0 n E (wpQuiet P ops C Qa (o0 :: o1 :: o2 :: o3 :: o4 :: o5 :: o6 :: o7 :: o8 :: o9 :: o10 :: o11 :: o12 :: o13 :: o14 :: o15 :: o16 :: rest)) := h k
theorem runj_10 {P : Program} {ops : Array Oper} {rest : List Oper} {Q : Exit → Act → World → Prop} {F0 : Fz} {n : Nat} {E : List (Nat × SV)} {L : List Res} {o0 o1 o2 o3 o4 o5 o6 o7 o8 o9 : Oper} (d : Nat) (e : Bool) (k : Under F0 n ((d, .raw (.bool e)) :: E) L (wpList P ops Q rest)) (h : Under F0 n ((d, .raw (.bool e)) :: E) L (wpList P ops Q rest) → Under F0 n E L (wpList P ops Q (o0 :: o1 :: o2 :: o3 :: o4 :: o5 :: o6 :: o7 :: o8 :: o9 :: rest))) : Under F0 n E L (wpList P ops Q (o0 :: o1 :: o2 :: o3 :: o4 :: o5 :: o6 :: o7 :: o8 :: o9 :: rest)) := h k
theorem runj_10q {P : Program} {ops : Array Oper} {rest : List Oper} {C : World → Prop} {Qa : Act → Prop} {F0 : Fz} {n : Nat} {E : List (Nat × SV)} {o0 o1 o2 o3 o4 o5 o6 o7 o8 o9 : Oper} (d : Nat) (e : Bool) (k : UnderQ F0 n ((d, .raw (.bool e)) :: E) (wpQuiet P ops C Qa rest)) (h : UnderQ F0 n ((d, .raw (.bool e)) :: E) (wpQuiet P ops C Qa rest) → UnderQ F0 n E (wpQuiet P ops C Qa (o0 :: o1 :: o2 :: o3 :: o4 :: o5 :: o6 :: o7 :: o8 :: o9 :: rest))) : UnderQ F0 n E (wpQuiet P ops C Qa (o0 :: o1 :: o2 :: o3 :: o4 :: o5 :: o6 :: o7 :: o8 :: o9 :: rest)) := h k
theorem fb52_0 : fldB Try.prog 52 0 = some (offF kChurnlaw16_JobF 0, 1 + 1) := by kernel_rfl
theorem fb52_3 : fldB Try.prog 52 3 = some (offF kChurnlaw16_JobF 3, 0 + 1) := by kernel_rfl
theorem fb52_4 : fldB Try.prog 52 4 = some (offF kChurnlaw16_JobF 4, 0 + 1) := by kernel_rfl
theorem fb52_2 : fldB Try.prog 52 2 = some (offF kChurnlaw16_JobF 2, 0 + 1) := by kernel_rfl
theorem kt27_kApi_Window : KT Try.prog 27 kApi_Window := ⟨by kernel_rfl, by kernel_rfl⟩
theorem uf_Api_Window_0 : UpF kApi_WindowF 0 ⟨kInt .i64, Api_Window.Newest⟩ (fun x y => { x with Newest := y }) := ⟨rfl, fun _ _ => rfl, fun _ _ => (by intro q hq; simp only [List.mem_cons, List.not_mem_nil, or_false] at hq; rcases hq with rfl <;> rfl)⟩
theorem runj_9 {P : Program} {ops : Array Oper} {rest : List Oper} {Q : Exit → Act → World → Prop} {F0 : Fz} {n : Nat} {E : List (Nat × SV)} {L : List Res} {o0 o1 o2 o3 o4 o5 o6 o7 o8 : Oper} (d : Nat) (e : Bool) (k : Under F0 n ((d, .raw (.bool e)) :: E) L (wpList P ops Q rest)) (h : Under F0 n ((d, .raw (.bool e)) :: E) L (wpList P ops Q rest) → Under F0 n E L (wpList P ops Q (o0 :: o1 :: o2 :: o3 :: o4 :: o5 :: o6 :: o7 :: o8 :: rest))) : Under F0 n E L (wpList P ops Q (o0 :: o1 :: o2 :: o3 :: o4 :: o5 :: o6 :: o7 :: o8 :: rest)) := h k
theorem runj_9q {P : Program} {ops : Array Oper} {rest : List Oper} {C : World → Prop} {Qa : Act → Prop} {F0 : Fz} {n : Nat} {E : List (Nat × SV)} {o0 o1 o2 o3 o4 o5 o6 o7 o8 : Oper} (d : Nat) (e : Bool) (k : UnderQ F0 n ((d, .raw (.bool e)) :: E) (wpQuiet P ops C Qa rest)) (h : UnderQ F0 n ((d, .raw (.bool e)) :: E) (wpQuiet P ops C Qa rest) → UnderQ F0 n E (wpQuiet P ops C Qa (o0 :: o1 :: o2 :: o3 :: o4 :: o5 :: o6 :: o7 :: o8 :: rest))) : UnderQ F0 n E (wpQuiet P ops C Qa (o0 :: o1 :: o2 :: o3 :: o4 :: o5 :: o6 :: o7 :: o8 :: rest)) := h k
theorem runj_16 {P : Program} {ops : Array Oper} {rest : List Oper} {Q : Exit → Act → World → Prop} {F0 : Fz} {n : Nat} {E : List (Nat × SV)} {L : List Res} {o0 o1 o2 o3 o4 o5 o6 o7 o8 o9 o10 o11 o12 o13 o14 o15 : Oper} (d : Nat) (e : Bool) (k : Under F0 n ((d, .raw (.bool e)) :: E) L (wpList P ops Q rest)) (h : Under F0 n ((d, .raw (.bool e)) :: E) L (wpList P ops Q rest) → Under F0 n E L (wpList P ops Q (o0 :: o1 :: o2 :: o3 :: o4 :: o5 :: o6 :: o7 :: o8 :: o9 :: o10 :: o11 :: o12 :: o13 :: o14 :: o15 :: rest))) : Under F0 n E L (wpList P ops Q (o0 :: o1 :: o2 :: o3 :: o4 :: o5 :: o6 :: o7 :: o8 :: o9 :: o10 :: o11 :: o12 :: o13 :: o14 :: o15 :: rest)) := h k
theorem runj_16q {P : Program} {ops : Array Oper} {rest : List Oper} {C : World → Prop} {Qa : Act → Prop} {F0 : Fz} {n : Nat} {E : List (Nat × SV)} {o0 o1 o2 o3 o4 o5 o6 o7 o8 o9 o10 o11 o12 o13 o14 o15 : Oper} (d : Nat) (e : Bool) (k : UnderQ F0 n ((d, .raw (.bool e)) :: E) (wpQuiet P ops C Qa rest)) (h : UnderQ F0 n ((d, .raw (.bool e)) :: E) (wpQuiet P ops C Qa rest) → UnderQ F0 n E (wpQuiet P ops C Qa (o0 :: o1 :: o2 :: o3 :: o4 :: o5 :: o6 :: o7 :: o8 :: o9 :: o10 :: o11 :: o12 :: o13 :: o14 :: o15 :: rest))) : UnderQ F0 n E (wpQuiet P ops C Qa (o0 :: o1 :: o2 :: o3 :: o4 :: o5 :: o6 :: o7 :: o8 :: o9 :: o10 :: o11 :: o12 :: o13 :: o14 :: o15 :: rest)) := h k
theorem sz58 : (Try.prog.info? 58).map (·.size) = some (Kd.n kChurnlaw16_Step) := by kernel_rfl
theorem kt58 : KT Try.prog 58 kChurnlaw16_Step := ⟨by kernel_rfl, by kernel_rfl⟩
theorem z_kChurnlaw16_Step (F : Fz) : Kd.rd kChurnlaw16_Step F ([.bool false] ++ [.int .i64 0] ++ [.slice none 0 0] ++ []) (⟨false, 0, []⟩ : Churnlaw16_Step) := ⟨[.bool false], _, rfl, rfl, ⟨[.int .i64 0], _, rfl, rfl, ⟨[.slice none 0 0], _, rfl, ⟨none, 0, rfl, Nat.le_refl _, .inl rfl⟩, rfl⟩⟩⟩
theorem ZT58 : ZT Try.prog 58 kChurnlaw16_Step (⟨false, 0, []⟩ : Churnlaw16_Step) := ⟨(.agg #[.bool false, .int .i64 0, .slice none 0 0] : Value), by kernel_rfl, fun F => cells_cast (by kernel_rfl) (z_kChurnlaw16_Step F)⟩
theorem sz58_kChurnlaw16_Step : (Try.prog.info? 58).map (·.size) = some (Kd.n kChurnlaw16_Step) := by kernel_rfl
theorem fb58_1 : fldB Try.prog 58 1 = some (offF kChurnlaw16_StepF 1, 0 + 1) := by kernel_rfl
theorem fb58_0 : fldB Try.prog 58 0 = some (offF kChurnlaw16_StepF 0, 0 + 1) := by kernel_rfl
theorem kt4 : KT Try.prog 4 kBool := ⟨by kernel_rfl, by kernel_rfl⟩
theorem fb58_2 : fldB Try.prog 58 2 = some (offF kChurnlaw16_StepF 2, 0 + 1) := by kernel_rfl
theorem fb52_1 : fldB Try.prog 52 1 = some (offF kChurnlaw16_JobF 1, 0 + 1) := by kernel_rfl
theorem fb52_5 : fldB Try.prog 52 5 = some (offF kChurnlaw16_JobF 5, 0 + 1) := by kernel_rfl
theorem rw2 : RdW Try.prog 2 (kInt .i64) (gInt .i64) bOne := rw_int Try.underlying2
theorem rw5 : RdW Try.prog 5 (kInt .u8) (gInt .u8) bOne := rw_int Try.underlying5
theorem cof43 : Try.prog.cellsOf 43 = 16 := by kernel_rfl
theorem cof5 : Try.prog.cellsOf 5 = 1 := by kernel_rfl
theorem rw43 : RdW Try.prog 43 (kArr 16 (kInt .u8)) (gArr 16 (gInt .u8)) (bArr bOne) := rw_arr (K := kInt .u8) Try.underlying43 cof43 cof5 rw5
theorem rw36 : RdW Try.prog 36 (kSl (kArr 16 (kInt .u8))) (gSl (gArr 16 (gInt .u8))) (bSl (bArr bOne)) := rw_sl (K := kArr 16 (kInt .u8)) Try.underlying36 cof43 (by decide) rw43
theorem cof2 : Try.prog.cellsOf 2 = 1 := by kernel_rfl
theorem cof36 : Try.prog.cellsOf 36 = 1 := by kernel_rfl
theorem cof61 : Try.prog.cellsOf 61 = 2 := by kernel_rfl
def g_Api_Epoch (x : Api_Epoch) : Prop := (gInt .i64) x.Number ∧ (gSl (gArr 16 (gInt .u8))) x.Tags ∧ True
def b_Api_Epoch (x : Api_Epoch) : Nat := bOne x.Number + ((bSl (bArr bOne)) x.Tags + 0)
theorem rw61 : RdW Try.prog 61 kApi_Epoch g_Api_Epoch b_Api_Epoch := by
  intro H enc W _ B BA hB fuel cs x h
  obtain ⟨hl, ds, hx, hf0⟩ := trod_st Try.underlying61 h
  obtain ⟨d0, ds0, e0, ⟨n0, p0, t0⟩, hf1⟩ := FsRd.cons hf0
  subst e0
  obtain ⟨y0, r0, g0, b0⟩ := rw2 hB t0
  obtain ⟨d1, ds1, e1, ⟨n1, p1, t1⟩, hf2⟩ := FsRd.cons hf1
  subst e1
  obtain ⟨y1, r1, g1, b1⟩ := rw36 hB t1
  have hnil := FsRd.nil hf2
  subst hnil
  refine ⟨⟨y0, y1⟩, rdF_start (rdF_step cof2 r0 (rdF_step cof36 r1 (rdF_end (hl.trans cof61) rfl))), ⟨g0, g1, trivial⟩, ?_⟩
  have := hB.agg [d0, d1]
  rw [hx]
  dsimp only at b0 b1
  simp only [hB.cons, hB.nil] at this
  simp only [b_Api_Epoch]; omega
theorem rw25 : RdW Try.prog 25 (kSl kApi_Epoch) (gSl g_Api_Epoch) (bSl b_Api_Epoch) := rw_sl (K := kApi_Epoch) Try.underlying25 cof61 (by decide) rw61
theorem cof25 : Try.prog.cellsOf 25 = 1 := by kernel_rfl
theorem cof27 : Try.prog.cellsOf 27 = 2 := by kernel_rfl
def g_Api_Window (x : Api_Window) : Prop := (gInt .i64) x.Newest ∧ (gSl g_Api_Epoch) x.Epochs ∧ True
def b_Api_Window (x : Api_Window) : Nat := bOne x.Newest + ((bSl b_Api_Epoch) x.Epochs + 0)
theorem rw27 : RdW Try.prog 27 kApi_Window g_Api_Window b_Api_Window := by
  intro H enc W _ B BA hB fuel cs x h
  obtain ⟨hl, ds, hx, hf0⟩ := trod_st Try.underlying27 h
  obtain ⟨d0, ds0, e0, ⟨n0, p0, t0⟩, hf1⟩ := FsRd.cons hf0
  subst e0
  obtain ⟨y0, r0, g0, b0⟩ := rw2 hB t0
  obtain ⟨d1, ds1, e1, ⟨n1, p1, t1⟩, hf2⟩ := FsRd.cons hf1
  subst e1
  obtain ⟨y1, r1, g1, b1⟩ := rw25 hB t1
  have hnil := FsRd.nil hf2
  subst hnil
  refine ⟨⟨y0, y1⟩, rdF_start (rdF_step cof2 r0 (rdF_step cof25 r1 (rdF_end (hl.trans cof27) rfl))), ⟨g0, g1, trivial⟩, ?_⟩
  have := hB.agg [d0, d1]
  rw [hx]
  dsimp only at b0 b1
  simp only [hB.cons, hB.nil] at this
  simp only [b_Api_Window]; omega
theorem rw3 : RdW Try.prog 3 (kInt .i64) (gInt .i64) bOne := rw_int Try.underlying3
theorem cof3 : Try.prog.cellsOf 3 = 1 := by kernel_rfl
theorem cof38 : Try.prog.cellsOf 38 = 5 := by kernel_rfl
def g_Churnlaw16_Look (x : Churnlaw16_Look) : Prop := g_Api_Window x.W ∧ (gInt .i64) x.Span ∧ (gInt .i64) x.Room ∧ (gSl (gArr 16 (gInt .u8))) x.Tags ∧ True
def b_Churnlaw16_Look (x : Churnlaw16_Look) : Nat := b_Api_Window x.W + (bOne x.Span + (bOne x.Room + ((bSl (bArr bOne)) x.Tags + 0)))
theorem rw38 : RdW Try.prog 38 kChurnlaw16_Look g_Churnlaw16_Look b_Churnlaw16_Look := by
  intro H enc W _ B BA hB fuel cs x h
  obtain ⟨hl, ds, hx, hf0⟩ := trod_st Try.underlying38 h
  obtain ⟨d0, ds0, e0, ⟨n0, p0, t0⟩, hf1⟩ := FsRd.cons hf0
  subst e0
  obtain ⟨y0, r0, g0, b0⟩ := rw27 hB t0
  obtain ⟨d1, ds1, e1, ⟨n1, p1, t1⟩, hf2⟩ := FsRd.cons hf1
  subst e1
  obtain ⟨y1, r1, g1, b1⟩ := rw3 hB t1
  obtain ⟨d2, ds2, e2, ⟨n2, p2, t2⟩, hf3⟩ := FsRd.cons hf2
  subst e2
  obtain ⟨y2, r2, g2, b2⟩ := rw3 hB t2
  obtain ⟨d3, ds3, e3, ⟨n3, p3, t3⟩, hf4⟩ := FsRd.cons hf3
  subst e3
  obtain ⟨y3, r3, g3, b3⟩ := rw36 hB t3
  have hnil := FsRd.nil hf4
  subst hnil
  refine ⟨⟨y0, y1, y2, y3⟩, rdF_start (rdF_step cof27 r0 (rdF_step cof3 r1 (rdF_step cof3 r2 (rdF_step cof36 r3 (rdF_end (hl.trans cof38) rfl))))), ⟨g0, g1, g2, g3, trivial⟩, ?_⟩
  have := hB.agg [d0, d1, d2, d3]
  rw [hx]
  dsimp only at b0 b1 b2 b3
  simp only [hB.cons, hB.nil] at this
  simp only [b_Churnlaw16_Look]; omega
theorem kt38 : KT Try.prog 38 kChurnlaw16_Look := ⟨by kernel_rfl, by kernel_rfl⟩
theorem cof52 : Try.prog.cellsOf 52 = 7 := by kernel_rfl
def g_Churnlaw16_Job (x : Churnlaw16_Job) : Prop := g_Api_Window x.W ∧ (gInt .i64) x.Span ∧ (gInt .i64) x.Room ∧ (gInt .i64) x.Epoch ∧ (gSl (gArr 16 (gInt .u8))) x.Tags ∧ (gSl (gArr 16 (gInt .u8))) x.More ∧ True
def b_Churnlaw16_Job (x : Churnlaw16_Job) : Nat := b_Api_Window x.W + (bOne x.Span + (bOne x.Room + (bOne x.Epoch + ((bSl (bArr bOne)) x.Tags + ((bSl (bArr bOne)) x.More + 0)))))
theorem rw52 : RdW Try.prog 52 kChurnlaw16_Job g_Churnlaw16_Job b_Churnlaw16_Job := by
  intro H enc W _ B BA hB fuel cs x h
  obtain ⟨hl, ds, hx, hf0⟩ := trod_st Try.underlying52 h
  obtain ⟨d0, ds0, e0, ⟨n0, p0, t0⟩, hf1⟩ := FsRd.cons hf0
  subst e0
  obtain ⟨y0, r0, g0, b0⟩ := rw27 hB t0
  obtain ⟨d1, ds1, e1, ⟨n1, p1, t1⟩, hf2⟩ := FsRd.cons hf1
  subst e1
  obtain ⟨y1, r1, g1, b1⟩ := rw3 hB t1
  obtain ⟨d2, ds2, e2, ⟨n2, p2, t2⟩, hf3⟩ := FsRd.cons hf2
  subst e2
  obtain ⟨y2, r2, g2, b2⟩ := rw3 hB t2
  obtain ⟨d3, ds3, e3, ⟨n3, p3, t3⟩, hf4⟩ := FsRd.cons hf3
  subst e3
  obtain ⟨y3, r3, g3, b3⟩ := rw2 hB t3
  obtain ⟨d4, ds4, e4, ⟨n4, p4, t4⟩, hf5⟩ := FsRd.cons hf4
  subst e4
  obtain ⟨y4, r4, g4, b4⟩ := rw36 hB t4
  obtain ⟨d5, ds5, e5, ⟨n5, p5, t5⟩, hf6⟩ := FsRd.cons hf5
  subst e5
  obtain ⟨y5, r5, g5, b5⟩ := rw36 hB t5
  have hnil := FsRd.nil hf6
  subst hnil
  refine ⟨⟨y0, y1, y2, y3, y4, y5⟩, rdF_start (rdF_step cof27 r0 (rdF_step cof3 r1 (rdF_step cof3 r2 (rdF_step cof2 r3 (rdF_step cof36 r4 (rdF_step cof36 r5 (rdF_end (hl.trans cof52) rfl))))))), ⟨g0, g1, g2, g3, g4, g5, trivial⟩, ?_⟩
  have := hB.agg [d0, d1, d2, d3, d4, d5]
  rw [hx]
  dsimp only at b0 b1 b2 b3 b4 b5
  simp only [hB.cons, hB.nil] at this
  simp only [b_Churnlaw16_Job]; omega
theorem kt52 : KT Try.prog 52 kChurnlaw16_Job := ⟨by kernel_rfl, by kernel_rfl⟩
theorem rw4 : RdW Try.prog 4 kBool gAny bOne := rw_bool Try.underlying4
theorem cof4 : Try.prog.cellsOf 4 = 1 := by kernel_rfl
theorem cof58 : Try.prog.cellsOf 58 = 3 := by kernel_rfl
def g_Churnlaw16_Step (x : Churnlaw16_Step) : Prop := gAny x.Put ∧ (gInt .i64) x.Epoch ∧ (gSl (gArr 16 (gInt .u8))) x.Tags ∧ True
def b_Churnlaw16_Step (x : Churnlaw16_Step) : Nat := bOne x.Put + (bOne x.Epoch + ((bSl (bArr bOne)) x.Tags + 0))
theorem rw58 : RdW Try.prog 58 kChurnlaw16_Step g_Churnlaw16_Step b_Churnlaw16_Step := by
  intro H enc W _ B BA hB fuel cs x h
  obtain ⟨hl, ds, hx, hf0⟩ := trod_st Try.underlying58 h
  obtain ⟨d0, ds0, e0, ⟨n0, p0, t0⟩, hf1⟩ := FsRd.cons hf0
  subst e0
  obtain ⟨y0, r0, g0, b0⟩ := rw4 hB t0
  obtain ⟨d1, ds1, e1, ⟨n1, p1, t1⟩, hf2⟩ := FsRd.cons hf1
  subst e1
  obtain ⟨y1, r1, g1, b1⟩ := rw2 hB t1
  obtain ⟨d2, ds2, e2, ⟨n2, p2, t2⟩, hf3⟩ := FsRd.cons hf2
  subst e2
  obtain ⟨y2, r2, g2, b2⟩ := rw36 hB t2
  have hnil := FsRd.nil hf3
  subst hnil
  refine ⟨⟨y0, y1, y2⟩, rdF_start (rdF_step cof4 r0 (rdF_step cof2 r1 (rdF_step cof36 r2 (rdF_end (hl.trans cof58) rfl)))), ⟨g0, g1, g2, trivial⟩, ?_⟩
  have := hB.agg [d0, d1, d2]
  rw [hx]
  dsimp only at b0 b1 b2
  simp only [hB.cons, hB.nil] at this
  simp only [b_Churnlaw16_Step]; omega
theorem rw56 : RdW Try.prog 56 (kSl kChurnlaw16_Step) (gSl g_Churnlaw16_Step) (bSl b_Churnlaw16_Step) := rw_sl (K := kChurnlaw16_Step) Try.underlying56 cof58 (by decide) rw58
theorem kt56 : KT Try.prog 56 (kSl kChurnlaw16_Step) := ⟨by kernel_rfl, by kernel_rfl⟩
abbrev K0 := (kSl (kArr 16 (kInt .u8)))
abbrev K1 := (kArr 16 (kInt .u8))
abbrev K2 := (kInt .u8)
end Go.Proofs.Ytgllljocmpbooaa

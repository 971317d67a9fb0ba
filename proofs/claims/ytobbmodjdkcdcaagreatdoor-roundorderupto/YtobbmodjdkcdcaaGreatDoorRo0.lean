import Derived.Test.YtobbmodjdkcdcaaGreatDoorSimD
import Derived.Test.YtobbmodjdkcdcaaGreatDoorRows
import Derived.Test.YtobbmodjdkcdcaaGreatDoorLawSrt
set_option linter.unusedVariables false
set_option linter.unusedSimpArgs false
set_option maxRecDepth 20000
namespace Go.Proofs.YtobbmodjdkcdcaaGreatDoor
open Go Go.Sim Go.ChangeShapes Go.WideShapes Go.ChangeAt Go.RowKit
set_option linter.unusedSectionVars false
variable [Fu]
structure aE where
 Noise : List Int
 Braid : List Int
 Chunks : List (List Int)
abbrev ea : List (Fld aE) := [⟨kSl (kInt .u8), aE.Noise⟩, ⟨kSl (kInt .u8), aE.Braid⟩, ⟨kSl (kSl (kInt .u8)), aE.Chunks⟩]
abbrev cw : Kd aE := kSt ea
structure ab where
 Number : Int
 Tags : List (List Int)
abbrev dM : List (Fld ab) := [⟨kInt .i64, ab.Number⟩, ⟨kSl (kArr 16 (kInt .u8)), ab.Tags⟩]
abbrev aB : Kd ab := kSt dM
structure aa where
 Newest : Int
 Epochs : List ab
abbrev ci : List (Fld aa) := [⟨kInt .i64, aa.Newest⟩, ⟨kSl aB, aa.Epochs⟩]
abbrev ae : Kd aa := kSt ci
structure ar where
 Master : List Int
 Left : Int
 Span : Int
 Room : Int
 Num : Int
 Den : Int
 Noise : Int
 Chunks : Int
 Workers : Int
 Cap : Int
 Shards : Int
abbrev bu : List (Fld ar) := [⟨kSl (kInt .u8), ar.Master⟩, ⟨kInt .i64, ar.Left⟩, ⟨kInt .i64, ar.Span⟩, ⟨kInt .i64, ar.Room⟩, ⟨kInt .i64, ar.Num⟩, ⟨kInt .i64, ar.Den⟩, ⟨kInt .i64, ar.Noise⟩, ⟨kInt .i64, ar.Chunks⟩, ⟨kInt .i64, ar.Workers⟩, ⟨kInt .i64, ar.Cap⟩, ⟨kInt .i64, ar.Shards⟩]
abbrev aP : Kd ar := kSt bu
structure aC where
 Next : Int
 Window : aa
abbrev eb : List (Fld aC) := [⟨kInt .i64, aC.Next⟩, ⟨ae, aC.Window⟩]
abbrev aT : Kd aC := kSt eb
structure bi where
 C : ar
 S : aC
 Raw : List Int
 Tape : List Int
abbrev dy : List (Fld bi) := [⟨aP, bi.C⟩, ⟨aT, bi.S⟩, ⟨kSl (kInt .u8), bi.Raw⟩, ⟨kSl (kInt .u8), bi.Tape⟩]
abbrev cZ : Kd bi := kSt dy
structure ah where
 In : Int
 Malformed : Int
 Replays : Int
 Noise : Int
 Out : Int
abbrev cj : List (Fld ah) := [⟨kInt .i64, ah.In⟩, ⟨kInt .i64, ah.Malformed⟩, ⟨kInt .i64, ah.Replays⟩, ⟨kInt .i64, ah.Noise⟩, ⟨kInt .i64, ah.Out⟩]
abbrev bg : Kd ah := kSt cj
structure aK where
 Out : List Int
 State : aC
 Report : ah
 Err : Int
 At : Int
abbrev cW : List (Fld aK) := [⟨kSl (kInt .u8), aK.Out⟩, ⟨aT, aK.State⟩, ⟨bg, aK.Report⟩, ⟨kInt .i64, aK.Err⟩, ⟨kInt .i64, aK.At⟩]
abbrev cd : Kd aK := kSt cW
structure ac where
 Round : Int
 Epoch : Int
 Left : Int
abbrev cN : List (Fld ac) := [⟨kInt .i64, ac.Round⟩, ⟨kInt .i64, ac.Epoch⟩, ⟨kInt .i64, ac.Left⟩]
abbrev cK : Kd ac := kSt cN
structure aH where
 Header : ac
 Cells : List (List Int)
abbrev gl : List (Fld aH) := [⟨cK, aH.Header⟩, ⟨kSl (kSl (kInt .u8)), aH.Cells⟩]
abbrev bj : Kd aH := kSt gl
structure av where
 a : Int
 b : Int
abbrev ee : List (Fld av) := [⟨kInt .u32, av.a⟩, ⟨kInt .u32, av.b⟩]
abbrev bK : Kd av := kSt ee
structure az where
 field : List Int
 at_ : Int
 stage : Int
 left : Int
 header : ac
 sum : av
 err : Int
 place : Int
abbrev my : List (Fld az) := [⟨kSl (kInt .u8), az.field⟩, ⟨kInt .i64, az.at_⟩, ⟨kInt .i64, az.stage⟩, ⟨kInt .i64, az.left⟩, ⟨cK, az.header⟩, ⟨bK, az.sum⟩, ⟨kInt .i64, az.err⟩, ⟨kInt .i64, az.place⟩]
abbrev xF : Kd az := kSt my
structure af where
 field : Value
 at_ : Int
 stage : Int
 left : Int
 header : ac
 sum : av
 err : Int
 place : Int
abbrev br : List (Fld af) := [⟨kRaw, af.field⟩, ⟨kInt .i64, af.at_⟩, ⟨kInt .i64, af.stage⟩, ⟨kInt .i64, af.left⟩, ⟨cK, af.header⟩, ⟨bK, af.sum⟩, ⟨kInt .i64, af.err⟩, ⟨kInt .i64, af.place⟩]
abbrev aM : Kd af := kSt br
structure aq where
 Newest : Int
 Epochs : Value
abbrev cy : List (Fld aq) := [⟨kInt .i64, aq.Newest⟩, ⟨kRaw, aq.Epochs⟩]
abbrev aR : Kd aq := kSt cy
structure cu where
 Next : Int
 Window : aq
abbrev fW : List (Fld cu) := [⟨kInt .i64, cu.Next⟩, ⟨aR, cu.Window⟩]
abbrev kU : Kd cu := kSt fW
structure ak where
 Cell : List Int
 Replay : List Int
abbrev eM : List (Fld ak) := [⟨kSl (kInt .u8), ak.Cell⟩, ⟨kArr 16 (kInt .u8), ak.Replay⟩]
abbrev aQ : Kd ak := kSt eM
structure ao where
 words : List Int
 tail : List Int
 n : Int
abbrev ef : List (Fld ao) := [⟨kArr 8 (kInt .u32), ao.words⟩, ⟨kArr 64 (kInt .u8), ao.tail⟩, ⟨kInt .u64, ao.n⟩]
abbrev aZ : Kd ao := kSt ef
structure aL where
 Box : List Int
 Mac : List Int
 Replay : List Int
abbrev da : List (Fld aL) := [⟨kArr 16 (kInt .u8), aL.Box⟩, ⟨kArr 32 (kInt .u8), aL.Mac⟩, ⟨kArr 32 (kInt .u8), aL.Replay⟩]
abbrev cQ : Kd aL := kSt da
structure aD where
 keys : List (List Int)
abbrev fX : List (Fld aD) := [⟨kArr 11 (kArr 16 (kInt .u8)), aD.keys⟩]
abbrev an : Kd aD := kSt fX
structure bc where
 Noise : List Int
 Braid : List Int
 Chunks : Value
abbrev fy : List (Fld bc) := [⟨kSl (kInt .u8), bc.Noise⟩, ⟨kSl (kInt .u8), bc.Braid⟩, ⟨kRaw, bc.Chunks⟩]
abbrev dk : Kd bc := kSt fy
structure aW where
 parts : aE
 sizes : List Int
 starts : List Int
abbrev cO : List (Fld aW) := [⟨cw, aW.parts⟩, ⟨kSl (kInt .i64), aW.sizes⟩, ⟨kSl (kInt .i64), aW.starts⟩]
abbrev eg : Kd aW := kSt cO
structure aN where
 parts : aE
 sizes : List Int
 starts : Value
abbrev db : List (Fld aN) := [⟨cw, aN.parts⟩, ⟨kSl (kInt .i64), aN.sizes⟩, ⟨kRaw, aN.starts⟩]
abbrev eh : Kd aN := kSt db
structure aF where
 bytes : List Int
 used : Int
abbrev gm : List (Fld aF) := [⟨kStr, aF.bytes⟩, ⟨kInt .i64, aF.used⟩]
abbrev a9 : Kd aF := kSt gm
structure am where
 Number : Int
 Tags : Value
abbrev ei : List (Fld am) := [⟨kInt .i64, am.Number⟩, ⟨kRaw, am.Tags⟩]
abbrev au : Kd am := kSt ei
abbrev str0 : ByteArray := ⟨#[67, 72, 82, 78, 1, 2, 0, 0, 0, 0, 0, 0, 0, 0, 0, 7, 0, 0, 0, 0, 0, 0, 0, 1, 26, 196, 1, 55]⟩
theorem vT : rdOf (.raw (.string str0)) kStr [67, 72, 82, 78, 1, 2, 0, 0, 0, 0, 0, 0, 0, 0, 0, 7, 0, 0, 0, 0, 0, 0, 0, 1, 26, 196, 1, 55] := rdS (by kernel_rfl)
abbrev str1 : ByteArray := ⟨#[67, 72, 82, 78, 1, 1, 0, 0, 0, 0, 0, 0, 0, 0, 0, 7, 0, 0, 0, 0, 0, 0, 0, 1, 26, 177, 1, 54]⟩
theorem vU : rdOf (.raw (.string str1)) kStr [67, 72, 82, 78, 1, 1, 0, 0, 0, 0, 0, 0, 0, 0, 0, 7, 0, 0, 0, 0, 0, 0, 0, 1, 26, 177, 1, 54] := rdS (by kernel_rfl)
theorem jH (F : Fz) : Kd.rd aP F ([.slice none 0 0] ++ [.int .i64 0] ++ [.int .i64 0] ++ [.int .i64 0] ++ [.int .i64 0] ++ [.int .i64 0] ++ [.int .i64 0] ++ [.int .i64 0] ++ [.int .i64 0] ++ [.int .i64 0] ++ [.int .i64 0] ++ []) (⟨[], (0 : Int), (0 : Int), (0 : Int), (0 : Int), (0 : Int), (0 : Int), (0 : Int), (0 : Int), (0 : Int), (0 : Int)⟩ : ar) := ⟨[.slice none 0 0], _, rfl, ⟨none, 0, rfl, Nat.le_refl _, .inl rfl⟩, ⟨[.int .i64 0], _, rfl, rfl, ⟨[.int .i64 0], _, rfl, rfl, ⟨[.int .i64 0], _, rfl, rfl, ⟨[.int .i64 0], _, rfl, rfl, ⟨[.int .i64 0], _, rfl, rfl, ⟨[.int .i64 0], _, rfl, rfl, ⟨[.int .i64 0], _, rfl, rfl, ⟨[.int .i64 0], _, rfl, rfl, ⟨[.int .i64 0], _, rfl, rfl, ⟨[.int .i64 0], _, rfl, rfl, rfl⟩⟩⟩⟩⟩⟩⟩⟩⟩⟩⟩
theorem ZT24 : ZT Tryz.prog 24 aP (⟨[], (0 : Int), (0 : Int), (0 : Int), (0 : Int), (0 : Int), (0 : Int), (0 : Int), (0 : Int), (0 : Int), (0 : Int)⟩ : ar) := ⟨(.agg (List.replicate 1 (.slice none 0 0 : Value) ++ List.replicate 10 (.int .i64 0 : Value)).toArray : Value), by kernel_rfl, fun F => aA (by kernel_rfl) (jH F)⟩
theorem l9 (F : Fz) : Kd.rd (kInt .u8) F [.int .u8 0] (0 : Int) := rfl
theorem AT5 : AT Tryz.prog 5 (kInt .u8) (0 : Int) 1 := ⟨⟨Tryz.t5, (.int .u8 0 : Value), by kernel_rfl, by kernel_rfl, by kernel_rfl, by kernel_rfl, by decide, by decide, fun F => aA (by kernel_rfl) (l9 F)⟩⟩
theorem BT24 : BT Tryz.prog 24 bu (⟨[], (0 : Int), (0 : Int), (0 : Int), (0 : Int), (0 : Int), (0 : Int), (0 : Int), (0 : Int), (0 : Int), (0 : Int)⟩ : ar) := ⟨⟨Tryz.t24, (.agg (List.replicate 1 (.slice none 0 0 : Value) ++ List.replicate 10 (.int .i64 0 : Value)).toArray : Value), _, [(0, 1), (1, 1), (2, 1), (3, 1), (4, 1), (5, 1), (6, 1), (7, 1), (8, 1), (9, 1), (10, 1)], by kernel_rfl, by kernel_rfl, Tryz.underlying24, by kernel_rfl, fun i f h => match i, f, h with
 | 0, f, h => by cases h; rfl
 | 1, f, h => by cases h; rfl
 | 2, f, h => by cases h; rfl
 | 3, f, h => by cases h; rfl
 | 4, f, h => by cases h; rfl
 | 5, f, h => by cases h; rfl
 | 6, f, h => by cases h; rfl
 | 7, f, h => by cases h; rfl
 | 8, f, h => by cases h; rfl
 | 9, f, h => by cases h; rfl
 | 10, f, h => by cases h; rfl
 | (_ + 11), f, h => by simp [bu] at h, fun F => bf (by kernel_rfl) (jH F)⟩⟩
theorem sz24k : (Tryz.prog.info? 24).map (·.size) = some (Kd.n aP) := by kernel_rfl
theorem kt24 : KT Tryz.prog 24 aP := ⟨by kernel_rfl, by kernel_rfl⟩
theorem j9 (F : Fz) : Kd.rd aT F ([.int .i64 0] ++ ([.int .i64 0] ++ [.slice none 0 0] ++ []) ++ []) (⟨(0 : Int), (⟨(0 : Int), []⟩ : aa)⟩ : aC) := ⟨[.int .i64 0], _, rfl, rfl, ⟨([.int .i64 0] ++ [.slice none 0 0] ++ []), _, rfl, ⟨[.int .i64 0], _, rfl, rfl, ⟨[.slice none 0 0], _, rfl, ⟨none, 0, rfl, Nat.le_refl _, .inl rfl⟩, rfl⟩⟩, rfl⟩⟩
theorem BT29 : BT Tryz.prog 29 eb (⟨(0 : Int), (⟨(0 : Int), []⟩ : aa)⟩ : aC) := ⟨⟨Tryz.t29, (.agg #[.int .i64 0, .int .i64 0, .slice none 0 0] : Value), _, [(0, 1), (1, 2)], by kernel_rfl, by kernel_rfl, Tryz.underlying29, by kernel_rfl, fun i f h => match i, f, h with
 | 0, f, h => by cases h; rfl
 | 1, f, h => by cases h; rfl
 | (_ + 2), f, h => by simp [eb] at h, fun F => bf (by kernel_rfl) (j9 F)⟩⟩
theorem ji (F : Fz) : Kd.rd cd F ([.slice none 0 0] ++ ([.int .i64 0] ++ ([.int .i64 0] ++ [.slice none 0 0] ++ []) ++ []) ++ ([.int .i64 0] ++ [.int .i64 0] ++ [.int .i64 0] ++ [.int .i64 0] ++ [.int .i64 0] ++ []) ++ [.int .i64 0] ++ [.int .i64 0] ++ []) (⟨[], (⟨(0 : Int), (⟨(0 : Int), []⟩ : aa)⟩ : aC), (⟨(0 : Int), (0 : Int), (0 : Int), (0 : Int), (0 : Int)⟩ : ah), (0 : Int), (0 : Int)⟩ : aK) := ⟨[.slice none 0 0], _, rfl, ⟨none, 0, rfl, Nat.le_refl _, .inl rfl⟩, ⟨([.int .i64 0] ++ ([.int .i64 0] ++ [.slice none 0 0] ++ []) ++ []), _, rfl, ⟨[.int .i64 0], _, rfl, rfl, ⟨([.int .i64 0] ++ [.slice none 0 0] ++ []), _, rfl, ⟨[.int .i64 0], _, rfl, rfl, ⟨[.slice none 0 0], _, rfl, ⟨none, 0, rfl, Nat.le_refl _, .inl rfl⟩, rfl⟩⟩, rfl⟩⟩, ⟨([.int .i64 0] ++ [.int .i64 0] ++ [.int .i64 0] ++ [.int .i64 0] ++ [.int .i64 0] ++ []), _, rfl, ⟨[.int .i64 0], _, rfl, rfl, ⟨[.int .i64 0], _, rfl, rfl, ⟨[.int .i64 0], _, rfl, rfl, ⟨[.int .i64 0], _, rfl, rfl, ⟨[.int .i64 0], _, rfl, rfl, rfl⟩⟩⟩⟩⟩, ⟨[.int .i64 0], _, rfl, rfl, ⟨[.int .i64 0], _, rfl, rfl, rfl⟩⟩⟩⟩⟩
theorem ZT37 : ZT Tryz.prog 37 cd (⟨[], (⟨(0 : Int), (⟨(0 : Int), []⟩ : aa)⟩ : aC), (⟨(0 : Int), (0 : Int), (0 : Int), (0 : Int), (0 : Int)⟩ : ah), (0 : Int), (0 : Int)⟩ : aK) := ⟨(.agg (List.replicate 1 (.slice none 0 0 : Value) ++ List.replicate 2 (.int .i64 0 : Value) ++ List.replicate 1 (.slice none 0 0 : Value) ++ List.replicate 7 (.int .i64 0 : Value)).toArray : Value), by kernel_rfl, fun F => aA (by kernel_rfl) (ji F)⟩
theorem kt29 : KT Tryz.prog 29 aT := ⟨by kernel_rfl, by kernel_rfl⟩
theorem ka (F : Fz) : Kd.rd bj F (([.int .i64 0] ++ [.int .i64 0] ++ [.int .i64 0] ++ []) ++ [.slice none 0 0] ++ []) (⟨(⟨(0 : Int), (0 : Int), (0 : Int)⟩ : ac), []⟩ : aH) := ⟨([.int .i64 0] ++ [.int .i64 0] ++ [.int .i64 0] ++ []), _, rfl, ⟨[.int .i64 0], _, rfl, rfl, ⟨[.int .i64 0], _, rfl, rfl, ⟨[.int .i64 0], _, rfl, rfl, rfl⟩⟩⟩, ⟨[.slice none 0 0], _, rfl, ⟨none, 0, rfl, Nat.le_refl _, .inl rfl⟩, rfl⟩⟩
theorem ZT46 : ZT Tryz.prog 46 bj (⟨(⟨(0 : Int), (0 : Int), (0 : Int)⟩ : ac), []⟩ : aH) := ⟨(.agg #[.int .i64 0, .int .i64 0, .int .i64 0, .slice none 0 0] : Value), by kernel_rfl, fun F => aA (by kernel_rfl) (ka F)⟩
theorem jI (F : Fz) : Kd.rd ae F ([.int .i64 0] ++ [.slice none 0 0] ++ []) (⟨(0 : Int), []⟩ : aa) := ⟨[.int .i64 0], _, rfl, rfl, ⟨[.slice none 0 0], _, rfl, ⟨none, 0, rfl, Nat.le_refl _, .inl rfl⟩, rfl⟩⟩
theorem ZT27 : ZT Tryz.prog 27 ae (⟨(0 : Int), []⟩ : aa) := ⟨(.agg #[.int .i64 0, .slice none 0 0] : Value), by kernel_rfl, fun F => aA (by kernel_rfl) (jI F)⟩
theorem fb24k : fldB Tryz.prog 24 0 = some (offF bu 0, 0 + 1) := by kernel_rfl
theorem kt22 : KT Tryz.prog 22 (kSl (kInt .u8)) := ⟨by kernel_rfl, by kernel_rfl⟩
theorem fb24k1 : fldB Tryz.prog 24 1 = some (offF bu 1, 0 + 1) := by kernel_rfl
theorem kt3 : KT Tryz.prog 3 (kInt .i64) := ⟨by kernel_rfl, by kernel_rfl⟩
theorem cz {P : Program} {ops : Array Oper} {rest : List Oper} {Q : Exit → Act → World → Prop} {F0 : Fz} {n : Nat} {E : List (Nat × SV)} {L : List Res} {o0 o1 o2 o3 : Oper} (d : Nat) (e : Bool) (k : Under F0 n ((d, .raw (.bool e)) :: E) L (wpList P ops Q rest)) (h : Under F0 n ((d, .raw (.bool e)) :: E) L (wpList P ops Q rest) → Under F0 n E L (wpList P ops Q (o0 :: o1 :: o2 :: o3 :: rest))) : Under F0 n E L (wpList P ops Q (o0 :: o1 :: o2 :: o3 :: rest)) := h k
theorem vV {P : Program} {ops : Array Oper} {rest : List Oper} {C : World → Prop} {Qa : Act → Prop} {F0 : Fz} {n : Nat} {E : List (Nat × SV)} {o0 o1 o2 o3 : Oper} (d : Nat) (e : Bool) (k : aI F0 n ((d, .raw (.bool e)) :: E) (wpQuiet P ops C Qa rest)) (h : aI F0 n ((d, .raw (.bool e)) :: E) (wpQuiet P ops C Qa rest) → aI F0 n E (wpQuiet P ops C Qa (o0 :: o1 :: o2 :: o3 :: rest))) : aI F0 n E (wpQuiet P ops C Qa (o0 :: o1 :: o2 :: o3 :: rest)) := h k
theorem fb24k2 : fldB Tryz.prog 24 2 = some (offF bu 2, 0 + 1) := by kernel_rfl
theorem fb24k3 : fldB Tryz.prog 24 3 = some (offF bu 3, 0 + 1) := by kernel_rfl
theorem fb24k4 : fldB Tryz.prog 24 5 = some (offF bu 5, 0 + 1) := by kernel_rfl
theorem fb24k5 : fldB Tryz.prog 24 4 = some (offF bu 4, 0 + 1) := by kernel_rfl
theorem fb24k6 : fldB Tryz.prog 24 6 = some (offF bu 6, 0 + 1) := by kernel_rfl
theorem fb24k7 : fldB Tryz.prog 24 7 = some (offF bu 7, 0 + 1) := by kernel_rfl
theorem fb24k8 : fldB Tryz.prog 24 8 = some (offF bu 8, 0 + 1) := by kernel_rfl
theorem fb24k9 : fldB Tryz.prog 24 9 = some (offF bu 9, 0 + 1) := by kernel_rfl
theorem fb24k10 : fldB Tryz.prog 24 10 = some (offF bu 10, 0 + 1) := by kernel_rfl
theorem iM {P : Program} {ops : Array Oper} {rest : List Oper} {Q : Exit → Act → World → Prop} {F0 : Fz} {n : Nat} {E : List (Nat × SV)} {L : List Res} {o0 o1 o2 o3 o4 o5 : Oper} (d : Nat) (e : Bool) (k : Under F0 n ((d, .raw (.bool e)) :: E) L (wpList P ops Q rest)) (h : Under F0 n ((d, .raw (.bool e)) :: E) L (wpList P ops Q rest) → Under F0 n E L (wpList P ops Q (o0 :: o1 :: o2 :: o3 :: o4 :: o5 :: rest))) : Under F0 n E L (wpList P ops Q (o0 :: o1 :: o2 :: o3 :: o4 :: o5 :: rest)) := h k
theorem Cc {P : Program} {ops : Array Oper} {rest : List Oper} {C : World → Prop} {Qa : Act → Prop} {F0 : Fz} {n : Nat} {E : List (Nat × SV)} {o0 o1 o2 o3 o4 o5 : Oper} (d : Nat) (e : Bool) (k : aI F0 n ((d, .raw (.bool e)) :: E) (wpQuiet P ops C Qa rest)) (h : aI F0 n ((d, .raw (.bool e)) :: E) (wpQuiet P ops C Qa rest) → aI F0 n E (wpQuiet P ops C Qa (o0 :: o1 :: o2 :: o3 :: o4 :: o5 :: rest))) : aI F0 n E (wpQuiet P ops C Qa (o0 :: o1 :: o2 :: o3 :: o4 :: o5 :: rest)) := h k
theorem fb29k : fldB Tryz.prog 29 0 = some (offF eb 0, 0 + 1) := by kernel_rfl
theorem kt2 : KT Tryz.prog 2 (kInt .i64) := ⟨by kernel_rfl, by kernel_rfl⟩
theorem fb29k1 : fldB Tryz.prog 29 1 = some (offF eb 1, 1 + 1) := by kernel_rfl
theorem kt27 : KT Tryz.prog 27 ae := ⟨by kernel_rfl, by kernel_rfl⟩
theorem fb27k : fldB Tryz.prog 27 0 = some (offF ci 0, 0 + 1) := by kernel_rfl
theorem fb27k1 : fldB Tryz.prog 27 1 = some (offF ci 1, 0 + 1) := by kernel_rfl
theorem kt25 : KT Tryz.prog 25 (kSl aB) := ⟨by kernel_rfl, by kernel_rfl⟩
theorem sz152 : (Tryz.prog.info? 152).map (·.size) = some (Kd.n aB) := by kernel_rfl
theorem kt152 : KT Tryz.prog 152 aB := ⟨by kernel_rfl, by kernel_rfl⟩
theorem gz (F : Fz) : Kd.rd aB F ([.int .i64 0] ++ [.slice none 0 0] ++ []) (⟨(0 : Int), []⟩ : ab) := ⟨[.int .i64 0], _, rfl, rfl, ⟨[.slice none 0 0], _, rfl, ⟨none, 0, rfl, Nat.le_refl _, .inl rfl⟩, rfl⟩⟩
theorem ZT152 : ZT Tryz.prog 152 aB (⟨(0 : Int), []⟩ : ab) := ⟨(.agg #[.int .i64 0, .slice none 0 0] : Value), by kernel_rfl, fun F => aA (by kernel_rfl) (gz F)⟩
theorem sz152k : (Tryz.prog.info? 152).map (·.size) = some (Kd.n aB) := by kernel_rfl
theorem fb152k : fldB Tryz.prog 152 1 = some (offF dM 1, 0 + 1) := by kernel_rfl
theorem kt85 : KT Tryz.prog 85 (kSl (kArr 16 (kInt .u8))) := ⟨by kernel_rfl, by kernel_rfl⟩
theorem sz64 : (Tryz.prog.info? 64).map (·.size) = some (Kd.n (kArr 16 (kInt .u8))) := by kernel_rfl
theorem kt64 : KT Tryz.prog 64 (kArr 16 (kInt .u8)) := ⟨by kernel_rfl, by kernel_rfl⟩
theorem cR (F : Fz) : Kd.rd (kArr 16 (kInt .u8)) F ((List.replicate 16 [.int .u8 0]).flatten) (List.replicate 16 (0 : Int)) := ⟨by simp, bP (K := kInt .u8) rfl 16⟩
theorem ZT64 : ZT Tryz.prog 64 (kArr 16 (kInt .u8)) (List.replicate 16 (0 : Int)) := ⟨(.agg (List.replicate 16 (.int .u8 0 : Value)).toArray : Value), by kernel_rfl, fun F => aA (by kernel_rfl) (cR F)⟩
theorem sz64k : (Tryz.prog.info? 64).map (·.size) = some (Kd.n (kArr 16 (kInt .u8))) := by kernel_rfl
theorem kt5 : KT Tryz.prog 5 (kInt .u8) := ⟨by kernel_rfl, by kernel_rfl⟩
theorem key64 : KeyK Tryz.prog 64 (kArr 16 (kInt .u8)) := KeyK.ints Tryz.underlying64 Tryz.underlying5 kt5
theorem fb152k1 : fldB Tryz.prog 152 0 = some (offF dM 0, 0 + 1) := by kernel_rfl
theorem Cd {P : Program} {ops : Array Oper} {rest : List Oper} {Q : Exit → Act → World → Prop} {F0 : Fz} {n : Nat} {E : List (Nat × SV)} {L : List Res} {o0 o1 o2 o3 o4 o5 o6 o7 o8 o9 o10 : Oper} (d : Nat) (e : Bool) (k : Under F0 n ((d, .raw (.bool e)) :: E) L (wpList P ops Q rest)) (h : Under F0 n ((d, .raw (.bool e)) :: E) L (wpList P ops Q rest) → Under F0 n E L (wpList P ops Q (o0 :: o1 :: o2 :: o3 :: o4 :: o5 :: o6 :: o7 :: o8 :: o9 :: o10 :: rest))) : Under F0 n E L (wpList P ops Q (o0 :: o1 :: o2 :: o3 :: o4 :: o5 :: o6 :: o7 :: o8 :: o9 :: o10 :: rest)) := h k
theorem tz {P : Program} {ops : Array Oper} {rest : List Oper} {C : World → Prop} {Qa : Act → Prop} {F0 : Fz} {n : Nat} {E : List (Nat × SV)} {o0 o1 o2 o3 o4 o5 o6 o7 o8 o9 o10 : Oper} (d : Nat) (e : Bool) (k : aI F0 n ((d, .raw (.bool e)) :: E) (wpQuiet P ops C Qa rest)) (h : aI F0 n ((d, .raw (.bool e)) :: E) (wpQuiet P ops C Qa rest) → aI F0 n E (wpQuiet P ops C Qa (o0 :: o1 :: o2 :: o3 :: o4 :: o5 :: o6 :: o7 :: o8 :: o9 :: o10 :: rest))) : aI F0 n E (wpQuiet P ops C Qa (o0 :: o1 :: o2 :: o3 :: o4 :: o5 :: o6 :: o7 :: o8 :: o9 :: o10 :: rest)) := h k
theorem kc {P : Program} {ops : Array Oper} {rest : List Oper} {Q : Exit → Act → World → Prop} {F0 : Fz} {n : Nat} {E : List (Nat × SV)} {L : List Res} {o0 o1 o2 o3 o4 : Oper} (d : Nat) (e : Bool) (k : Under F0 n ((d, .raw (.bool e)) :: E) L (wpList P ops Q rest)) (h : Under F0 n ((d, .raw (.bool e)) :: E) L (wpList P ops Q rest) → Under F0 n E L (wpList P ops Q (o0 :: o1 :: o2 :: o3 :: o4 :: rest))) : Under F0 n E L (wpList P ops Q (o0 :: o1 :: o2 :: o3 :: o4 :: rest)) := h k
theorem pP {P : Program} {ops : Array Oper} {rest : List Oper} {C : World → Prop} {Qa : Act → Prop} {F0 : Fz} {n : Nat} {E : List (Nat × SV)} {o0 o1 o2 o3 o4 : Oper} (d : Nat) (e : Bool) (k : aI F0 n ((d, .raw (.bool e)) :: E) (wpQuiet P ops C Qa rest)) (h : aI F0 n ((d, .raw (.bool e)) :: E) (wpQuiet P ops C Qa rest) → aI F0 n E (wpQuiet P ops C Qa (o0 :: o1 :: o2 :: o3 :: o4 :: rest))) : aI F0 n E (wpQuiet P ops C Qa (o0 :: o1 :: o2 :: o3 :: o4 :: rest)) := h k
theorem Ce {P : Program} {ops : Array Oper} {rest : List Oper} {Q : Exit → Act → World → Prop} {F0 : Fz} {n : Nat} {E : List (Nat × SV)} {L : List Res} {o0 o1 o2 o3 o4 o5 o6 o7 o8 o9 o10 o11 o12 o13 o14 : Oper} (d : Nat) (e : Bool) (k : Under F0 n ((d, .raw (.bool e)) :: E) L (wpList P ops Q rest)) (h : Under F0 n ((d, .raw (.bool e)) :: E) L (wpList P ops Q rest) → Under F0 n E L (wpList P ops Q (o0 :: o1 :: o2 :: o3 :: o4 :: o5 :: o6 :: o7 :: o8 :: o9 :: o10 :: o11 :: o12 :: o13 :: o14 :: rest))) : Under F0 n E L (wpList P ops Q (o0 :: o1 :: o2 :: o3 :: o4 :: o5 :: o6 :: o7 :: o8 :: o9 :: o10 :: o11 :: o12 :: o13 :: o14 :: rest)) := h k
theorem tF {P : Program} {ops : Array Oper} {rest : List Oper} {C : World → Prop} {Qa : Act → Prop} {F0 : Fz} {n : Nat} {E : List (Nat × SV)} {o0 o1 o2 o3 o4 o5 o6 o7 o8 o9 o10 o11 o12 o13 o14 : Oper} (d : Nat) (e : Bool) (k : aI F0 n ((d, .raw (.bool e)) :: E) (wpQuiet P ops C Qa rest)) (h : aI F0 n ((d, .raw (.bool e)) :: E) (wpQuiet P ops C Qa rest) → aI F0 n E (wpQuiet P ops C Qa (o0 :: o1 :: o2 :: o3 :: o4 :: o5 :: o6 :: o7 :: o8 :: o9 :: o10 :: o11 :: o12 :: o13 :: o14 :: rest))) : aI F0 n E (wpQuiet P ops C Qa (o0 :: o1 :: o2 :: o3 :: o4 :: o5 :: o6 :: o7 :: o8 :: o9 :: o10 :: o11 :: o12 :: o13 :: o14 :: rest)) := h k
theorem yp {P : Program} {ops : Array Oper} {rest : List Oper} {Q : Exit → Act → World → Prop} {F0 : Fz} {n : Nat} {E : List (Nat × SV)} {L : List Res} {o0 o1 o2 o3 o4 o5 o6 o7 : Oper} (d : Nat) (e : Bool) (k : Under F0 n ((d, .raw (.bool e)) :: E) L (wpList P ops Q rest)) (h : Under F0 n ((d, .raw (.bool e)) :: E) L (wpList P ops Q rest) → Under F0 n E L (wpList P ops Q (o0 :: o1 :: o2 :: o3 :: o4 :: o5 :: o6 :: o7 :: rest))) : Under F0 n E L (wpList P ops Q (o0 :: o1 :: o2 :: o3 :: o4 :: o5 :: o6 :: o7 :: rest)) := h k
theorem pQ {P : Program} {ops : Array Oper} {rest : List Oper} {C : World → Prop} {Qa : Act → Prop} {F0 : Fz} {n : Nat} {E : List (Nat × SV)} {o0 o1 o2 o3 o4 o5 o6 o7 : Oper} (d : Nat) (e : Bool) (k : aI F0 n ((d, .raw (.bool e)) :: E) (wpQuiet P ops C Qa rest)) (h : aI F0 n ((d, .raw (.bool e)) :: E) (wpQuiet P ops C Qa rest) → aI F0 n E (wpQuiet P ops C Qa (o0 :: o1 :: o2 :: o3 :: o4 :: o5 :: o6 :: o7 :: rest))) : aI F0 n E (wpQuiet P ops C Qa (o0 :: o1 :: o2 :: o3 :: o4 :: o5 :: o6 :: o7 :: rest)) := h k
theorem sz5 : (Tryz.prog.info? 5).map (·.size) = some (Kd.n (kInt .u8)) := by kernel_rfl
theorem nx230 : Extern.findNext Tryz.f230 = none := by kernel_rfl
theorem fd230 : Extern.find Tryz.f230 = some Extern.BytealgCompare.compare := by kernel_rfl
theorem nb230 : Tryz.f230.body.isNone = true := by kernel_rfl
theorem nn230 : (Tryz.f230.name == "runtime.NumGoroutine") = false := by kernel_rfl
theorem cl {P : Program} {ops : Array Oper} {rest : List Oper} {Q : Exit → Act → World → Prop} {F0 : Fz} {n : Nat} {E : List (Nat × SV)} {L : List Res} {o0 o1 o2 : Oper} (d : Nat) (e : Bool) (k : Under F0 n ((d, .raw (.bool e)) :: E) L (wpList P ops Q rest)) (h : Under F0 n ((d, .raw (.bool e)) :: E) L (wpList P ops Q rest) → Under F0 n E L (wpList P ops Q (o0 :: o1 :: o2 :: rest))) : Under F0 n E L (wpList P ops Q (o0 :: o1 :: o2 :: rest)) := h k
theorem vW {P : Program} {ops : Array Oper} {rest : List Oper} {C : World → Prop} {Qa : Act → Prop} {F0 : Fz} {n : Nat} {E : List (Nat × SV)} {o0 o1 o2 : Oper} (d : Nat) (e : Bool) (k : aI F0 n ((d, .raw (.bool e)) :: E) (wpQuiet P ops C Qa rest)) (h : aI F0 n ((d, .raw (.bool e)) :: E) (wpQuiet P ops C Qa rest) → aI F0 n E (wpQuiet P ops C Qa (o0 :: o1 :: o2 :: rest))) : aI F0 n E (wpQuiet P ops C Qa (o0 :: o1 :: o2 :: rest)) := h k
theorem yq {P : Program} {ops : Array Oper} {rest : List Oper} {Q : Exit → Act → World → Prop} {F0 : Fz} {n : Nat} {E : List (Nat × SV)} {L : List Res} {o0 o1 o2 o3 o4 o5 o6 o7 o8 : Oper} (d : Nat) (e : Bool) (k : Under F0 n ((d, .raw (.bool e)) :: E) L (wpList P ops Q rest)) (h : Under F0 n ((d, .raw (.bool e)) :: E) L (wpList P ops Q rest) → Under F0 n E L (wpList P ops Q (o0 :: o1 :: o2 :: o3 :: o4 :: o5 :: o6 :: o7 :: o8 :: rest))) : Under F0 n E L (wpList P ops Q (o0 :: o1 :: o2 :: o3 :: o4 :: o5 :: o6 :: o7 :: o8 :: rest)) := h k
theorem zr {P : Program} {ops : Array Oper} {rest : List Oper} {C : World → Prop} {Qa : Act → Prop} {F0 : Fz} {n : Nat} {E : List (Nat × SV)} {o0 o1 o2 o3 o4 o5 o6 o7 o8 : Oper} (d : Nat) (e : Bool) (k : aI F0 n ((d, .raw (.bool e)) :: E) (wpQuiet P ops C Qa rest)) (h : aI F0 n ((d, .raw (.bool e)) :: E) (wpQuiet P ops C Qa rest) → aI F0 n E (wpQuiet P ops C Qa (o0 :: o1 :: o2 :: o3 :: o4 :: o5 :: o6 :: o7 :: o8 :: rest))) : aI F0 n E (wpQuiet P ops C Qa (o0 :: o1 :: o2 :: o3 :: o4 :: o5 :: o6 :: o7 :: o8 :: rest)) := h k
theorem kt46 : KT Tryz.prog 46 bj := ⟨by kernel_rfl, by kernel_rfl⟩
theorem BT27 : BT Tryz.prog 27 ci (⟨(0 : Int), []⟩ : aa) := ⟨⟨Tryz.t27, (.agg #[.int .i64 0, .slice none 0 0] : Value), _, [(0, 1), (1, 1)], by kernel_rfl, by kernel_rfl, Tryz.underlying27, by kernel_rfl, fun i f h => match i, f, h with
 | 0, f, h => by cases h; rfl
 | 1, f, h => by cases h; rfl
 | (_ + 2), f, h => by simp [ci] at h, fun F => bf (by kernel_rfl) (jI F)⟩⟩
theorem sz46k : (Tryz.prog.info? 46).map (·.size) = some (Kd.n bj) := by kernel_rfl
theorem sz27k : (Tryz.prog.info? 27).map (·.size) = some (Kd.n ae) := by kernel_rfl
theorem kd (F : Fz) : Kd.rd bK F ([.int .u32 0] ++ [.int .u32 0] ++ []) (⟨(0 : Int), (0 : Int)⟩ : av) := ⟨[.int .u32 0], _, rfl, rfl, ⟨[.int .u32 0], _, rfl, rfl, rfl⟩⟩
theorem BT144 : BT Tryz.prog 144 ee (⟨(0 : Int), (0 : Int)⟩ : av) := ⟨⟨Tryz.t144, (.agg #[.int .u32 0, .int .u32 0] : Value), _, [(0, 1), (1, 1)], by kernel_rfl, by kernel_rfl, Tryz.underlying144, by kernel_rfl, fun i f h => match i, f, h with
 | 0, f, h => by cases h; rfl
 | 1, f, h => by cases h; rfl
 | (_ + 2), f, h => by simp [ee] at h, fun F => bf (by kernel_rfl) (kd F)⟩⟩
theorem ky (F : Fz) : Kd.rd aM F ([.slice none 0 0] ++ [.int .i64 0] ++ [.int .i64 0] ++ [.int .i64 0] ++ ([.int .i64 0] ++ [.int .i64 0] ++ [.int .i64 0] ++ []) ++ ([.int .u32 0] ++ [.int .u32 0] ++ []) ++ [.int .i64 0] ++ [.int .i64 0] ++ []) (⟨(.slice none 0 0), (0 : Int), (0 : Int), (0 : Int), (⟨(0 : Int), (0 : Int), (0 : Int)⟩ : ac), (⟨(0 : Int), (0 : Int)⟩ : av), (0 : Int), (0 : Int)⟩ : af) := ⟨[.slice none 0 0], _, rfl, ⟨rfl, rfl⟩, ⟨[.int .i64 0], _, rfl, rfl, ⟨[.int .i64 0], _, rfl, rfl, ⟨[.int .i64 0], _, rfl, rfl, ⟨([.int .i64 0] ++ [.int .i64 0] ++ [.int .i64 0] ++ []), _, rfl, ⟨[.int .i64 0], _, rfl, rfl, ⟨[.int .i64 0], _, rfl, rfl, ⟨[.int .i64 0], _, rfl, rfl, rfl⟩⟩⟩, ⟨([.int .u32 0] ++ [.int .u32 0] ++ []), _, rfl, ⟨[.int .u32 0], _, rfl, rfl, ⟨[.int .u32 0], _, rfl, rfl, rfl⟩⟩, ⟨[.int .i64 0], _, rfl, rfl, ⟨[.int .i64 0], _, rfl, rfl, rfl⟩⟩⟩⟩⟩⟩⟩⟩
theorem jB : BT Tryz.prog 146 br (⟨(.slice none 0 0), (0 : Int), (0 : Int), (0 : Int), (⟨(0 : Int), (0 : Int), (0 : Int)⟩ : ac), (⟨(0 : Int), (0 : Int)⟩ : av), (0 : Int), (0 : Int)⟩ : af) := ⟨⟨Tryz.t146, (.agg (List.replicate 1 (.slice none 0 0 : Value) ++ List.replicate 6 (.int .i64 0 : Value) ++ List.replicate 2 (.int .u32 0 : Value) ++ List.replicate 2 (.int .i64 0 : Value)).toArray : Value), _, [(0, 1), (1, 1), (2, 1), (3, 1), (4, 3), (7, 2), (9, 1), (10, 1)], by kernel_rfl, by kernel_rfl, Tryz.underlying146, by kernel_rfl, fun i f h => match i, f, h with
 | 0, f, h => by cases h; rfl
 | 1, f, h => by cases h; rfl
 | 2, f, h => by cases h; rfl
 | 3, f, h => by cases h; rfl
 | 4, f, h => by cases h; rfl
 | 5, f, h => by cases h; rfl
 | 6, f, h => by cases h; rfl
 | 7, f, h => by cases h; rfl
 | (_ + 8), f, h => by simp [br] at h, fun F => bf (by kernel_rfl) (ky F)⟩⟩
theorem jr : fldB Tryz.prog 146 6 = some (9, 0 + 1) := by kernel_rfl
theorem cn : UpF br 6 ⟨kInt .i64, af.err⟩ (fun x y => { x with err := y }) := ⟨rfl, fun _ _ => rfl, fun _ _ => ⟨rfl, ⟨rfl, ⟨rfl, ⟨rfl, ⟨rfl, ⟨rfl, (by intro q hq; simp only [List.mem_cons, List.not_mem_nil, or_false] at hq; rcases hq with rfl <;> rfl)⟩⟩⟩⟩⟩⟩⟩
theorem kt35k : KT Tryz.prog 35 (kInt .i64) := ⟨by kernel_rfl, by kernel_rfl⟩
theorem jC (F : Fz) : Kd.rd (kArr 10 (kInt .i64)) F ((List.replicate 10 [.int .i64 0]).flatten) (List.replicate 10 (0 : Int)) := ⟨by simp, bP (K := kInt .i64) rfl 10⟩
theorem BTA273 : BTA Tryz.prog 273 10 (kInt .i64) (List.replicate 10 (0 : Int)) := ⟨⟨Tryz.t273, (.agg (List.replicate 10 (.int .i64 0 : Value)).toArray : Value), _, Tryz.t3, by kernel_rfl, by kernel_rfl, Tryz.underlying273, by kernel_rfl, by kernel_rfl, by simp, fun F => iQ (by kernel_rfl) (jC F).2⟩⟩
theorem eT : fldB Tryz.prog 146 2 = some (2, 0 + 1) := by kernel_rfl
theorem aX : UpF br 2 ⟨kInt .i64, af.stage⟩ (fun x y => { x with stage := y }) := ⟨rfl, fun _ _ => rfl, fun _ _ => ⟨rfl, ⟨rfl, (by intro q hq; simp only [List.mem_cons, List.not_mem_nil, or_false] at hq; rcases hq with rfl | rfl | rfl | rfl | rfl <;> rfl)⟩⟩⟩
theorem kt3k : KT Tryz.prog 3 (kInt .i64) := ⟨by kernel_rfl, by kernel_rfl⟩
theorem f8 : fldB Tryz.prog 146 0 = some (0, 0 + 1) := by kernel_rfl
theorem be : UpF br 0 ⟨kRaw, af.field⟩ (fun x y => { x with field := y }) := ⟨rfl, fun _ _ => rfl, fun _ _ => (by intro q hq; simp only [List.mem_cons, List.not_mem_nil, or_false] at hq; rcases hq with rfl | rfl | rfl | rfl | rfl | rfl | rfl <;> rfl)⟩
theorem kt22k : KT Tryz.prog 22 kRaw := ⟨by kernel_rfl, by kernel_rfl⟩
theorem sz22k : (Tryz.prog.info? 22).map (·.size) = some (Kd.n kRaw) := by kernel_rfl
theorem js : fldB Tryz.prog 146 1 = some (1, 0 + 1) := by kernel_rfl
theorem cp : UpF br 1 ⟨kInt .i64, af.at_⟩ (fun x y => { x with at_ := y }) := ⟨rfl, fun _ _ => rfl, fun _ _ => ⟨rfl, (by intro q hq; simp only [List.mem_cons, List.not_mem_nil, or_false] at hq; rcases hq with rfl | rfl | rfl | rfl | rfl | rfl <;> rfl)⟩⟩
theorem sz3k : (Tryz.prog.info? 3).map (·.size) = some (Kd.n (kInt .i64)) := by kernel_rfl
theorem ET5 : ET Tryz.prog 5 (kInt .u8) (0 : Int) := ⟨⟨Tryz.t5, (.int .u8 0 : Value), by kernel_rfl, by kernel_rfl, by kernel_rfl, by decide, fun F => aA (by kernel_rfl) (l9 F)⟩⟩
theorem jj (F : Fz) : Kd.rd (kSl (kInt .u8)) F [.slice none 0 0] [] := ⟨none, 0, rfl, Nat.le_refl _, .inl rfl⟩
theorem ET22 : ET Tryz.prog 22 (kSl (kInt .u8)) [] := ⟨⟨Tryz.t22, (.slice none 0 0 : Value), by kernel_rfl, by kernel_rfl, by kernel_rfl, by decide, fun F => aA (by kernel_rfl) (jj F)⟩⟩
theorem AT22 : AT Tryz.prog 22 (kSl (kInt .u8)) [] 24 := ⟨⟨Tryz.t22, (.slice none 0 0 : Value), by kernel_rfl, by kernel_rfl, by kernel_rfl, by kernel_rfl, by decide, by decide, fun F => aA (by kernel_rfl) (jj F)⟩⟩
theorem mz : fldB Tryz.prog 146 5 = some (7, 1 + 1) := by kernel_rfl
theorem fb : UpF br 5 ⟨bK, af.sum⟩ (fun x y => { x with sum := y }) := ⟨rfl, fun _ _ => rfl, fun _ _ => ⟨rfl, ⟨rfl, ⟨rfl, ⟨rfl, ⟨rfl, (by intro q hq; simp only [List.mem_cons, List.not_mem_nil, or_false] at hq; rcases hq with rfl | rfl <;> rfl)⟩⟩⟩⟩⟩⟩
theorem kt144k : KT Tryz.prog 144 bK := ⟨by kernel_rfl, by kernel_rfl⟩
theorem fb144k : fldB Tryz.prog 144 1 = some (offF ee 1, 0 + 1) := by kernel_rfl
theorem kt142 : KT Tryz.prog 142 (kInt .u32) := ⟨by kernel_rfl, by kernel_rfl⟩
theorem fb144k1 : fldB Tryz.prog 144 0 = some (offF ee 0, 0 + 1) := by kernel_rfl
theorem ZT144 : ZT Tryz.prog 144 bK (⟨(0 : Int), (0 : Int)⟩ : av) := ⟨(.agg #[.int .u32 0, .int .u32 0] : Value), by kernel_rfl, fun F => aA (by kernel_rfl) (kd F)⟩
theorem mF : fldB Tryz.prog 144 0 = some (0, 0 + 1) := by kernel_rfl
theorem hZ : UpF ee 0 ⟨kInt .u32, av.a⟩ (fun x y => { x with a := y }) := ⟨rfl, fun _ _ => rfl, fun _ _ => (by intro q hq; simp only [List.mem_cons, List.not_mem_nil, or_false] at hq; rcases hq with rfl <;> rfl)⟩
theorem kt142k : KT Tryz.prog 142 (kInt .u32) := ⟨by kernel_rfl, by kernel_rfl⟩
theorem sz142k : (Tryz.prog.info? 142).map (·.size) = some (Kd.n (kInt .u32)) := by kernel_rfl
theorem pR : fldB Tryz.prog 144 1 = some (1, 0 + 1) := by kernel_rfl
theorem jk : UpF ee 1 ⟨kInt .u32, av.b⟩ (fun x y => { x with b := y }) := ⟨rfl, fun _ _ => rfl, fun _ _ => ⟨rfl, (fun q hq => by simp at hq)⟩⟩
theorem kt144 : KT Tryz.prog 144 bK := ⟨by kernel_rfl, by kernel_rfl⟩
theorem sz144k : (Tryz.prog.info? 144).map (·.size) = some (Kd.n bK) := by kernel_rfl
abbrev str2 : ByteArray := ⟨#[67, 72, 82, 78]⟩
theorem pS : rdOf (.raw (.string str2)) kStr [67, 72, 82, 78] := rdS (by kernel_rfl)
theorem sz5k : (Tryz.prog.info? 5).map (·.size) = some (Kd.n (kInt .u8)) := by kernel_rfl
theorem kt5k : KT Tryz.prog 5 (kInt .u8) := ⟨by kernel_rfl, by kernel_rfl⟩
theorem ke : fldB Tryz.prog 146 4 = some (4, 2 + 1) := by kernel_rfl
theorem oT : fldB Tryz.prog 43 2 = some (2, 0 + 1) := by kernel_rfl
theorem cS : UpF br 4 ⟨cK, af.header⟩ (fun x y => { x with header := y }) := ⟨rfl, fun _ _ => rfl, fun _ _ => ⟨rfl, ⟨rfl, ⟨rfl, ⟨rfl, (by intro q hq; simp only [List.mem_cons, List.not_mem_nil, or_false] at hq; rcases hq with rfl | rfl | rfl <;> rfl)⟩⟩⟩⟩⟩
theorem gt : UpF cN 2 ⟨kInt .i64, ac.Left⟩ (fun x y => { x with Left := y }) := ⟨rfl, fun _ _ => rfl, fun _ _ => ⟨rfl, ⟨rfl, (fun q hq => by simp at hq)⟩⟩⟩
theorem kg : fldB Tryz.prog 146 3 = some (3, 0 + 1) := by kernel_rfl
theorem cT : UpF br 3 ⟨kInt .i64, af.left⟩ (fun x y => { x with left := y }) := ⟨rfl, fun _ _ => rfl, fun _ _ => ⟨rfl, ⟨rfl, ⟨rfl, (by intro q hq; simp only [List.mem_cons, List.not_mem_nil, or_false] at hq; rcases hq with rfl | rfl | rfl | rfl <;> rfl)⟩⟩⟩⟩
theorem yr : fldB Tryz.prog 43 0 = some (0, 0 + 1) := by kernel_rfl
theorem kV : UpF cN 0 ⟨kInt .i64, ac.Round⟩ (fun x y => { x with Round := y }) := ⟨rfl, fun _ _ => rfl, fun _ _ => (by intro q hq; simp only [List.mem_cons, List.not_mem_nil, or_false] at hq; rcases hq with rfl | rfl <;> rfl)⟩
theorem sz2k : (Tryz.prog.info? 2).map (·.size) = some (Kd.n (kInt .i64)) := by kernel_rfl
theorem yt : fldB Tryz.prog 43 1 = some (1, 0 + 1) := by kernel_rfl
theorem kW : UpF cN 1 ⟨kInt .i64, ac.Epoch⟩ (fun x y => { x with Epoch := y }) := ⟨rfl, fun _ _ => rfl, fun _ _ => ⟨rfl, (by intro q hq; simp only [List.mem_cons, List.not_mem_nil, or_false] at hq; rcases hq with rfl <;> rfl)⟩⟩
theorem sz35k : (Tryz.prog.info? 35).map (·.size) = some (Kd.n (kInt .i64)) := by kernel_rfl
theorem mK : fldB Tryz.prog 146 7 = some (10, 0 + 1) := by kernel_rfl
theorem fc : UpF br 7 ⟨kInt .i64, af.place⟩ (fun x y => { x with place := y }) := ⟨rfl, fun _ _ => rfl, fun _ _ => ⟨rfl, ⟨rfl, ⟨rfl, ⟨rfl, ⟨rfl, ⟨rfl, ⟨rfl, (fun q hq => by simp at hq)⟩⟩⟩⟩⟩⟩⟩⟩
theorem kt43k : KT Tryz.prog 43 cK := ⟨by kernel_rfl, by kernel_rfl⟩
theorem BT46 : BT Tryz.prog 46 gl (⟨(⟨(0 : Int), (0 : Int), (0 : Int)⟩ : ac), []⟩ : aH) := ⟨⟨Tryz.t46, (.agg #[.int .i64 0, .int .i64 0, .int .i64 0, .slice none 0 0] : Value), _, [(0, 3), (3, 1)], by kernel_rfl, by kernel_rfl, Tryz.underlying46, by kernel_rfl, fun i f h => match i, f, h with
 | 0, f, h => by cases h; rfl
 | 1, f, h => by cases h; rfl
 | (_ + 2), f, h => by simp [gl] at h, fun F => bf (by kernel_rfl) (ka F)⟩⟩
theorem fb46k : fldB Tryz.prog 46 0 = some (offF gl 0, 2 + 1) := by kernel_rfl
theorem fb43k : fldB Tryz.prog 43 2 = some (offF cN 2, 0 + 1) := by kernel_rfl
theorem fb43k1 : fldB Tryz.prog 43 0 = some (offF cN 0, 0 + 1) := by kernel_rfl
theorem fb43k2 : fldB Tryz.prog 43 1 = some (offF cN 1, 0 + 1) := by kernel_rfl
theorem iN (F : Fz) : Kd.rd aR F ([.int .i64 0] ++ [.slice none 0 0] ++ []) (⟨(0 : Int), (.slice none 0 0)⟩ : aq) := ⟨[.int .i64 0], _, rfl, rfl, ⟨[.slice none 0 0], _, rfl, ⟨rfl, rfl⟩, rfl⟩⟩
theorem ia : BT Tryz.prog 27 cy (⟨(0 : Int), (.slice none 0 0)⟩ : aq) := ⟨⟨Tryz.t27, (.agg #[.int .i64 0, .slice none 0 0] : Value), _, [(0, 1), (1, 1)], by kernel_rfl, by kernel_rfl, Tryz.underlying27, by kernel_rfl, fun i f h => match i, f, h with
 | 0, f, h => by cases h; rfl
 | 1, f, h => by cases h; rfl
 | (_ + 2), f, h => by simp [cy] at h, fun F => bf (by kernel_rfl) (iN F)⟩⟩
theorem ZT27k : ZT Tryz.prog 27 aR (⟨(0 : Int), (.slice none 0 0)⟩ : aq) := ⟨(.agg #[.int .i64 0, .slice none 0 0] : Value), by kernel_rfl, fun F => aA (by kernel_rfl) (iN F)⟩
theorem sz27k1 : (Tryz.prog.info? 27).map (·.size) = some (Kd.n aR) := by kernel_rfl
theorem yu : fldB Tryz.prog 27 0 = some (0, 0 + 1) := by kernel_rfl
theorem jP : UpF cy 0 ⟨kInt .i64, aq.Newest⟩ (fun x y => { x with Newest := y }) := ⟨rfl, fun _ _ => rfl, fun _ _ => (by intro q hq; simp only [List.mem_cons, List.not_mem_nil, or_false] at hq; rcases hq with rfl <;> rfl)⟩
theorem kt2k : KT Tryz.prog 2 (kInt .i64) := ⟨by kernel_rfl, by kernel_rfl⟩
theorem dm : fldB Tryz.prog 27 1 = some (1, 0 + 1) := by kernel_rfl
theorem aG : UpF cy 1 ⟨kRaw, aq.Epochs⟩ (fun x y => { x with Epochs := y }) := ⟨rfl, fun _ _ => rfl, fun _ _ => ⟨rfl, (fun q hq => by simp at hq)⟩⟩
theorem kt25k : KT Tryz.prog 25 kRaw := ⟨by kernel_rfl, by kernel_rfl⟩
theorem ET64 : ET Tryz.prog 64 (kArr 16 (kInt .u8)) (List.replicate 16 (0 : Int)) := ⟨⟨Tryz.t64, (.agg (List.replicate 16 (.int .u8 0 : Value)).toArray : Value), by kernel_rfl, by kernel_rfl, by kernel_rfl, by decide, fun F => aA (by kernel_rfl) (cR F)⟩⟩
theorem AT64 : AT Tryz.prog 64 (kArr 16 (kInt .u8)) (List.replicate 16 (0 : Int)) 16 := ⟨⟨Tryz.t64, (.agg (List.replicate 16 (.int .u8 0 : Value)).toArray : Value), by kernel_rfl, by kernel_rfl, by kernel_rfl, by kernel_rfl, by decide, by decide, fun F => aA (by kernel_rfl) (cR F)⟩⟩
theorem BT152 : BT Tryz.prog 152 dM (⟨(0 : Int), []⟩ : ab) := ⟨⟨Tryz.t152, (.agg #[.int .i64 0, .slice none 0 0] : Value), _, [(0, 1), (1, 1)], by kernel_rfl, by kernel_rfl, Tryz.underlying152, by kernel_rfl, fun i f h => match i, f, h with
 | 0, f, h => by cases h; rfl
 | 1, f, h => by cases h; rfl
 | (_ + 2), f, h => by simp [dM] at h, fun F => bf (by kernel_rfl) (gz F)⟩⟩
theorem ET152 : ET Tryz.prog 152 aB (⟨(0 : Int), []⟩ : ab) := ⟨⟨Tryz.t152, (.agg #[.int .i64 0, .slice none 0 0] : Value), by kernel_rfl, by kernel_rfl, by kernel_rfl, by decide, fun F => aA (by kernel_rfl) (gz F)⟩⟩
theorem AT152 : AT Tryz.prog 152 aB (⟨(0 : Int), []⟩ : ab) 32 := ⟨⟨Tryz.t152, (.agg #[.int .i64 0, .slice none 0 0] : Value), by kernel_rfl, by kernel_rfl, by kernel_rfl, by kernel_rfl, by decide, by decide, fun F => aA (by kernel_rfl) (gz F)⟩⟩
theorem sz25k : (Tryz.prog.info? 25).map (·.size) = some (Kd.n kRaw) := by kernel_rfl
theorem ZT29 : ZT Tryz.prog 29 aT (⟨(0 : Int), (⟨(0 : Int), []⟩ : aa)⟩ : aC) := ⟨(.agg #[.int .i64 0, .int .i64 0, .slice none 0 0] : Value), by kernel_rfl, fun F => aA (by kernel_rfl) (j9 F)⟩
theorem lA : fldB Tryz.prog 29 1 = some (1, 1 + 1) := by kernel_rfl
theorem lB : UpF eb 1 ⟨ae, aC.Window⟩ (fun x y => { x with Window := y }) := ⟨rfl, fun _ _ => rfl, fun _ _ => ⟨rfl, (fun q hq => by simp at hq)⟩⟩
theorem kX : UpF ci 1 ⟨kSl aB, aa.Epochs⟩ (fun x y => { x with Epochs := y }) := ⟨rfl, fun _ _ => rfl, fun _ _ => ⟨rfl, (fun q hq => by simp at hq)⟩⟩
theorem kt25k1 : KT Tryz.prog 25 (kSl aB) := ⟨by kernel_rfl, by kernel_rfl⟩
theorem du : UpF fW 1 ⟨aR, cu.Window⟩ (fun x y => { x with Window := y }) := ⟨rfl, fun _ _ => rfl, fun _ _ => ⟨rfl, (fun q hq => by simp at hq)⟩⟩
theorem jt : fldB Tryz.prog 152 1 = some (1, 0 + 1) := by kernel_rfl
theorem fA : UpF dM 1 ⟨kSl (kArr 16 (kInt .u8)), ab.Tags⟩ (fun x y => { x with Tags := y }) := ⟨rfl, fun _ _ => rfl, fun _ _ => ⟨rfl, (fun q hq => by simp at hq)⟩⟩
theorem kt85k : KT Tryz.prog 85 (kSl (kArr 16 (kInt .u8))) := ⟨by kernel_rfl, by kernel_rfl⟩
theorem sz85k : (Tryz.prog.info? 85).map (·.size) = some (Kd.n (kSl (kArr 16 (kInt .u8)))) := by kernel_rfl
theorem sz29k : (Tryz.prog.info? 29).map (·.size) = some (Kd.n aT) := by kernel_rfl
theorem BT37 : BT Tryz.prog 37 cW (⟨[], (⟨(0 : Int), (⟨(0 : Int), []⟩ : aa)⟩ : aC), (⟨(0 : Int), (0 : Int), (0 : Int), (0 : Int), (0 : Int)⟩ : ah), (0 : Int), (0 : Int)⟩ : aK) := ⟨⟨Tryz.t37, (.agg (List.replicate 1 (.slice none 0 0 : Value) ++ List.replicate 2 (.int .i64 0 : Value) ++ List.replicate 1 (.slice none 0 0 : Value) ++ List.replicate 7 (.int .i64 0 : Value)).toArray : Value), _, [(0, 1), (1, 3), (4, 5), (9, 1), (10, 1)], by kernel_rfl, by kernel_rfl, Tryz.underlying37, by kernel_rfl, fun i f h => match i, f, h with
 | 0, f, h => by cases h; rfl
 | 1, f, h => by cases h; rfl
 | 2, f, h => by cases h; rfl
 | 3, f, h => by cases h; rfl
 | 4, f, h => by cases h; rfl
 | (_ + 5), f, h => by simp [cW] at h, fun F => bf (by kernel_rfl) (ji F)⟩⟩
theorem sz37k : (Tryz.prog.info? 37).map (·.size) = some (Kd.n cd) := by kernel_rfl
theorem kt37 : KT Tryz.prog 37 cd := ⟨by kernel_rfl, by kernel_rfl⟩
theorem kt27k : KT Tryz.prog 27 ae := ⟨by kernel_rfl, by kernel_rfl⟩
theorem jJ (F : Fz) : Kd.rd bg F ([.int .i64 0] ++ [.int .i64 0] ++ [.int .i64 0] ++ [.int .i64 0] ++ [.int .i64 0] ++ []) (⟨(0 : Int), (0 : Int), (0 : Int), (0 : Int), (0 : Int)⟩ : ah) := ⟨[.int .i64 0], _, rfl, rfl, ⟨[.int .i64 0], _, rfl, rfl, ⟨[.int .i64 0], _, rfl, rfl, ⟨[.int .i64 0], _, rfl, rfl, ⟨[.int .i64 0], _, rfl, rfl, rfl⟩⟩⟩⟩⟩
theorem ZT34 : ZT Tryz.prog 34 bg (⟨(0 : Int), (0 : Int), (0 : Int), (0 : Int), (0 : Int)⟩ : ah) := ⟨(.agg #[.int .i64 0, .int .i64 0, .int .i64 0, .int .i64 0, .int .i64 0] : Value), by kernel_rfl, fun F => aA (by kernel_rfl) (jJ F)⟩
theorem BT34 : BT Tryz.prog 34 cj (⟨(0 : Int), (0 : Int), (0 : Int), (0 : Int), (0 : Int)⟩ : ah) := ⟨⟨Tryz.t34, (.agg #[.int .i64 0, .int .i64 0, .int .i64 0, .int .i64 0, .int .i64 0] : Value), _, [(0, 1), (1, 1), (2, 1), (3, 1), (4, 1)], by kernel_rfl, by kernel_rfl, Tryz.underlying34, by kernel_rfl, fun i f h => match i, f, h with
 | 0, f, h => by cases h; rfl
 | 1, f, h => by cases h; rfl
 | 2, f, h => by cases h; rfl
 | 3, f, h => by cases h; rfl
 | 4, f, h => by cases h; rfl
 | (_ + 5), f, h => by simp [cj] at h, fun F => bf (by kernel_rfl) (jJ F)⟩⟩
theorem sz34k : (Tryz.prog.info? 34).map (·.size) = some (Kd.n bg) := by kernel_rfl
theorem kt34 : KT Tryz.prog 34 bg := ⟨by kernel_rfl, by kernel_rfl⟩
theorem jQ (F : Fz) : Kd.rd (kArr 32 (kInt .u8)) F ((List.replicate 32 [.int .u8 0]).flatten) (List.replicate 32 (0 : Int)) := ⟨by simp, bP (K := kInt .u8) rfl 32⟩
theorem ZT179 : ZT Tryz.prog 179 (kArr 32 (kInt .u8)) (List.replicate 32 (0 : Int)) := ⟨(.agg (List.replicate 32 (.int .u8 0 : Value)).toArray : Value), by kernel_rfl, fun F => aA (by kernel_rfl) (jQ F)⟩
theorem kh (F : Fz) : Kd.rd aZ F ((List.replicate 8 [.int .u32 0]).flatten ++ (List.replicate 64 [.int .u8 0]).flatten ++ [.int .u64 0] ++ []) (⟨(List.replicate 8 (0 : Int)), (List.replicate 64 (0 : Int)), (0 : Int)⟩ : ao) := ⟨(List.replicate 8 [.int .u32 0]).flatten, _, rfl, ⟨by simp, bP (K := kInt .u32) rfl 8⟩, ⟨(List.replicate 64 [.int .u8 0]).flatten, _, rfl, ⟨by simp, bP (K := kInt .u8) rfl 64⟩, ⟨[.int .u64 0], _, rfl, rfl, rfl⟩⟩⟩
theorem ZT253 : ZT Tryz.prog 253 aZ (⟨(List.replicate 8 (0 : Int)), (List.replicate 64 (0 : Int)), (0 : Int)⟩ : ao) := ⟨(.agg (List.replicate 8 (.int .u32 0 : Value) ++ List.replicate 64 (.int .u8 0 : Value) ++ List.replicate 1 (.int .u64 0 : Value)).toArray : Value), by kernel_rfl, fun F => aA (by kernel_rfl) (kh F)⟩
theorem jR (F : Fz) : Kd.rd (kArr 64 (kInt .u8)) F ((List.replicate 64 [.int .u8 0]).flatten) (List.replicate 64 (0 : Int)) := ⟨by simp, bP (K := kInt .u8) rfl 64⟩
theorem ZT251 : ZT Tryz.prog 251 (kArr 64 (kInt .u8)) (List.replicate 64 (0 : Int)) := ⟨(.agg (List.replicate 64 (.int .u8 0 : Value)).toArray : Value), by kernel_rfl, fun F => aA (by kernel_rfl) (jR F)⟩
theorem BT253 : BT Tryz.prog 253 ef (⟨(List.replicate 8 (0 : Int)), (List.replicate 64 (0 : Int)), (0 : Int)⟩ : ao) := ⟨⟨Tryz.t253, (.agg (List.replicate 8 (.int .u32 0 : Value) ++ List.replicate 64 (.int .u8 0 : Value) ++ List.replicate 1 (.int .u64 0 : Value)).toArray : Value), _, [(0, 8), (8, 64), (72, 1)], by kernel_rfl, by kernel_rfl, Tryz.underlying253, by kernel_rfl, fun i f h => match i, f, h with
 | 0, f, h => by cases h; rfl
 | 1, f, h => by cases h; rfl
 | 2, f, h => by cases h; rfl
 | (_ + 3), f, h => by simp [ef] at h, fun F => bf (by kernel_rfl) (kh F)⟩⟩
theorem sz253k : (Tryz.prog.info? 253).map (·.size) = some (Kd.n aZ) := by kernel_rfl
theorem kt253 : KT Tryz.prog 253 aZ := ⟨by kernel_rfl, by kernel_rfl⟩
theorem ju : fldB Tryz.prog 253 2 = some (72, 0 + 1) := by kernel_rfl
theorem dz : UpF ef 2 ⟨kInt .u64, ao.n⟩ (fun x y => { x with n := y }) := ⟨rfl, fun _ _ => rfl, fun _ _ => ⟨rfl, ⟨rfl, (fun q hq => by simp at hq)⟩⟩⟩
theorem kt71k : KT Tryz.prog 71 (kInt .u64) := ⟨by kernel_rfl, by kernel_rfl⟩
theorem ib (F : Fz) : Kd.rd (kArr 8 (kInt .u32)) F ((List.replicate 8 [.int .u32 0]).flatten) (List.replicate 8 (0 : Int)) := ⟨by simp, bP (K := kInt .u32) rfl 8⟩
theorem ZT250 : ZT Tryz.prog 250 (kArr 8 (kInt .u32)) (List.replicate 8 (0 : Int)) := ⟨(.agg (List.replicate 8 (.int .u32 0 : Value)).toArray : Value), by kernel_rfl, fun F => aA (by kernel_rfl) (ib F)⟩
theorem BTA250 : BTA Tryz.prog 250 8 (kInt .u32) (List.replicate 8 (0 : Int)) := ⟨⟨Tryz.t250, (.agg (List.replicate 8 (.int .u32 0 : Value)).toArray : Value), _, Tryz.t142, by kernel_rfl, by kernel_rfl, Tryz.underlying250, by kernel_rfl, by kernel_rfl, by simp, fun F => iQ (by kernel_rfl) (ib F).2⟩⟩
theorem sz250k : (Tryz.prog.info? 250).map (·.size) = some (Kd.n (kArr 8 (kInt .u32))) := by kernel_rfl
theorem kt250 : KT Tryz.prog 250 (kArr 8 (kInt .u32)) := ⟨by kernel_rfl, by kernel_rfl⟩
theorem mL : fldB Tryz.prog 253 0 = some (0, 7 + 1) := by kernel_rfl
theorem ic : UpF ef 0 ⟨kArr 8 (kInt .u32), ao.words⟩ (fun x y => { x with words := y }) := ⟨rfl, fun _ _ => rfl, fun _ _ => (by intro q hq; simp only [List.mem_cons, List.not_mem_nil, or_false] at hq; rcases hq with rfl | rfl <;> rfl)⟩
theorem pU : fldB Tryz.prog 253 1 = some (8, 63 + 1) := by kernel_rfl
theorem jl : UpF ef 1 ⟨kArr 64 (kInt .u8), ao.tail⟩ (fun x y => { x with tail := y }) := ⟨rfl, fun _ _ => rfl, fun _ _ => ⟨rfl, (by intro q hq; simp only [List.mem_cons, List.not_mem_nil, or_false] at hq; rcases hq with rfl <;> rfl)⟩⟩
theorem sz71k : (Tryz.prog.info? 71).map (·.size) = some (Kd.n (kInt .u64)) := by kernel_rfl
theorem kt250k : KT Tryz.prog 250 (kArr 8 (kInt .u32)) := ⟨by kernel_rfl, by kernel_rfl⟩
theorem kt251k : KT Tryz.prog 251 (kArr 64 (kInt .u8)) := ⟨by kernel_rfl, by kernel_rfl⟩
theorem jD (F : Fz) : Kd.rd (kArr 64 (kInt .u32)) F ((List.replicate 64 [.int .u32 0]).flatten) (List.replicate 64 (0 : Int)) := ⟨by simp, bP (K := kInt .u32) rfl 64⟩
theorem ZT319 : ZT Tryz.prog 319 (kArr 64 (kInt .u32)) (List.replicate 64 (0 : Int)) := ⟨(.agg (List.replicate 64 (.int .u32 0 : Value)).toArray : Value), by kernel_rfl, fun F => aA (by kernel_rfl) (jD F)⟩
def glob0 : List Int := [1116352408, 1899447441, 3049323471, 3921009573, 961987163, 1508970993, 2453635748, 2870763221, 3624381080, 310598401, 607225278, 1426881987, 1925078388, 2162078206, 2614888103, 3248222580, 3835390401, 4022224774, 264347078, 604807628, 770255983, 1249150122, 1555081692, 1996064986, 2554220882, 2821834349, 2952996808, 3210313671, 3336571891, 3584528711, 113926993, 338241895, 666307205, 773529912, 1294757372, 1396182291, 1695183700, 1986661051, 2177026350, 2456956037, 2730485921, 2820302411, 3259730800, 3345764771, 3516065817, 3600352804, 4094571909, 275423344, 430227734, 506948616, 659060556, 883997877, 958139571, 1322822218, 1537002063, 1747873779, 1955562222, 2024104815, 2227730452, 2361852424, 2428436474, 2756734187, 3204031479, 3329325298]
theorem sz142 : (Tryz.prog.info? 142).map (·.size) = some (Kd.n (kInt .u32)) := by kernel_rfl
theorem kt253k : KT Tryz.prog 253 aZ := ⟨by kernel_rfl, by kernel_rfl⟩
theorem fb253k : fldB Tryz.prog 253 0 = some (offF ef 0, 7 + 1) := by kernel_rfl
theorem kt179 : KT Tryz.prog 179 (kArr 32 (kInt .u8)) := ⟨by kernel_rfl, by kernel_rfl⟩
theorem sz179k : (Tryz.prog.info? 179).map (·.size) = some (Kd.n (kArr 32 (kInt .u8))) := by kernel_rfl
theorem fb46k1 : fldB Tryz.prog 46 1 = some (offF gl 1, 0 + 1) := by kernel_rfl
theorem kt44 : KT Tryz.prog 44 (kSl (kSl (kInt .u8))) := ⟨by kernel_rfl, by kernel_rfl⟩
theorem sz22 : (Tryz.prog.info? 22).map (·.size) = some (Kd.n (kSl (kInt .u8))) := by kernel_rfl
theorem f9 (F : Fz) : Kd.rd aQ F ([.slice none 0 0] ++ (List.replicate 16 [.int .u8 0]).flatten ++ []) (⟨[], (List.replicate 16 (0 : Int))⟩ : ak) := ⟨[.slice none 0 0], _, rfl, ⟨none, 0, rfl, Nat.le_refl _, .inl rfl⟩, ⟨(List.replicate 16 [.int .u8 0]).flatten, _, rfl, ⟨by simp, bP (K := kInt .u8) rfl 16⟩, rfl⟩⟩
theorem ZT66 : ZT Tryz.prog 66 aQ (⟨[], (List.replicate 16 (0 : Int))⟩ : ak) := ⟨(.agg (List.replicate 1 (.slice none 0 0 : Value) ++ List.replicate 16 (.int .u8 0 : Value)).toArray : Value), by kernel_rfl, fun F => aA (by kernel_rfl) (f9 F)⟩
theorem BT66 : BT Tryz.prog 66 eM (⟨[], (List.replicate 16 (0 : Int))⟩ : ak) := ⟨⟨Tryz.t66, (.agg (List.replicate 1 (.slice none 0 0 : Value) ++ List.replicate 16 (.int .u8 0 : Value)).toArray : Value), _, [(0, 1), (1, 16)], by kernel_rfl, by kernel_rfl, Tryz.underlying66, by kernel_rfl, fun i f h => match i, f, h with
 | 0, f, h => by cases h; rfl
 | 1, f, h => by cases h; rfl
 | (_ + 2), f, h => by simp [eM] at h, fun F => bf (by kernel_rfl) (f9 F)⟩⟩
theorem sz66k : (Tryz.prog.info? 66).map (·.size) = some (Kd.n aQ) := by kernel_rfl
theorem kt66 : KT Tryz.prog 66 aQ := ⟨by kernel_rfl, by kernel_rfl⟩
theorem iO (F : Fz) : Kd.rd cQ F ((List.replicate 16 [.int .u8 0]).flatten ++ (List.replicate 32 [.int .u8 0]).flatten ++ (List.replicate 32 [.int .u8 0]).flatten ++ []) (⟨(List.replicate 16 (0 : Int)), (List.replicate 32 (0 : Int)), (List.replicate 32 (0 : Int))⟩ : aL) := ⟨(List.replicate 16 [.int .u8 0]).flatten, _, rfl, ⟨by simp, bP (K := kInt .u8) rfl 16⟩, ⟨(List.replicate 32 [.int .u8 0]).flatten, _, rfl, ⟨by simp, bP (K := kInt .u8) rfl 32⟩, ⟨(List.replicate 32 [.int .u8 0]).flatten, _, rfl, ⟨by simp, bP (K := kInt .u8) rfl 32⟩, rfl⟩⟩⟩
theorem ZT181 : ZT Tryz.prog 181 cQ (⟨(List.replicate 16 (0 : Int)), (List.replicate 32 (0 : Int)), (List.replicate 32 (0 : Int))⟩ : aL) := ⟨(.agg (List.replicate 80 (.int .u8 0 : Value)).toArray : Value), by kernel_rfl, fun F => aA (by kernel_rfl) (iO F)⟩
theorem BT181 : BT Tryz.prog 181 da (⟨(List.replicate 16 (0 : Int)), (List.replicate 32 (0 : Int)), (List.replicate 32 (0 : Int))⟩ : aL) := ⟨⟨Tryz.t181, (.agg (List.replicate 80 (.int .u8 0 : Value)).toArray : Value), _, [(0, 16), (16, 32), (48, 32)], by kernel_rfl, by kernel_rfl, Tryz.underlying181, by kernel_rfl, fun i f h => match i, f, h with
 | 0, f, h => by cases h; rfl
 | 1, f, h => by cases h; rfl
 | 2, f, h => by cases h; rfl
 | (_ + 3), f, h => by simp [da] at h, fun F => bf (by kernel_rfl) (iO F)⟩⟩
theorem sz181k : (Tryz.prog.info? 181).map (·.size) = some (Kd.n cQ) := by kernel_rfl
theorem kt181 : KT Tryz.prog 181 cQ := ⟨by kernel_rfl, by kernel_rfl⟩
theorem fb181k : fldB Tryz.prog 181 1 = some (offF da 1, 31 + 1) := by kernel_rfl
theorem fb181k1 : fldB Tryz.prog 181 0 = some (offF da 0, 15 + 1) := by kernel_rfl
theorem BTA64 : BTA Tryz.prog 64 16 (kInt .u8) (List.replicate 16 (0 : Int)) := ⟨⟨Tryz.t64, (.agg (List.replicate 16 (.int .u8 0 : Value)).toArray : Value), _, Tryz.t5, by kernel_rfl, by kernel_rfl, Tryz.underlying64, by kernel_rfl, by kernel_rfl, by simp, fun F => iQ (by kernel_rfl) (cR F).2⟩⟩
theorem ki (F : Fz) : Kd.rd an F ((List.replicate 11 ((List.replicate 16 [.int .u8 0]).flatten)).flatten ++ []) (⟨(List.replicate 11 (List.replicate 16 (0 : Int)))⟩ : aD) := ⟨(List.replicate 11 ((List.replicate 16 [.int .u8 0]).flatten)).flatten, _, rfl, ⟨by simp, bP (K := kArr 16 (kInt .u8)) (⟨by simp, bP (K := kInt .u8) rfl 16⟩) 11⟩, rfl⟩
theorem ZT243 : ZT Tryz.prog 243 an (⟨(List.replicate 11 (List.replicate 16 (0 : Int)))⟩ : aD) := ⟨(.agg (List.replicate 176 (.int .u8 0 : Value)).toArray : Value), by kernel_rfl, fun F => aA (by kernel_rfl) (ki F)⟩
theorem io (F : Fz) : Kd.rd (kArr 44 (kArr 4 (kInt .u8))) F ((List.replicate 44 ((List.replicate 4 [.int .u8 0]).flatten)).flatten) (List.replicate 44 (List.replicate 4 (0 : Int))) := ⟨by simp, bP (K := kArr 4 (kInt .u8)) (⟨by simp, bP (K := kInt .u8) rfl 4⟩) 44⟩
theorem ZT284 : ZT Tryz.prog 284 (kArr 44 (kArr 4 (kInt .u8))) (List.replicate 44 (List.replicate 4 (0 : Int))) := ⟨(.agg (List.replicate 176 (.int .u8 0 : Value)).toArray : Value), by kernel_rfl, fun F => aA (by kernel_rfl) (io F)⟩
theorem sz283k : (Tryz.prog.info? 283).map (·.size) = some (Kd.n (kArr 4 (kInt .u8))) := by kernel_rfl
theorem kt283k : KT Tryz.prog 283 (kArr 4 (kInt .u8)) := ⟨by kernel_rfl, by kernel_rfl⟩
theorem ir (F : Fz) : Kd.rd (kArr 4 (kInt .u8)) F ((List.replicate 4 [.int .u8 0]).flatten) (List.replicate 4 (0 : Int)) := ⟨by simp, bP (K := kInt .u8) rfl 4⟩
theorem ZT283 : ZT Tryz.prog 283 (kArr 4 (kInt .u8)) (List.replicate 4 (0 : Int)) := ⟨(.agg #[.int .u8 0, .int .u8 0, .int .u8 0, .int .u8 0] : Value), by kernel_rfl, fun F => aA (by kernel_rfl) (ir F)⟩
theorem BTA283 : BTA Tryz.prog 283 4 (kInt .u8) (List.replicate 4 (0 : Int)) := ⟨⟨Tryz.t283, (.agg #[.int .u8 0, .int .u8 0, .int .u8 0, .int .u8 0] : Value), _, Tryz.t5, by kernel_rfl, by kernel_rfl, Tryz.underlying283, by kernel_rfl, by kernel_rfl, by simp, fun F => iQ (by kernel_rfl) (ir F).2⟩⟩
theorem kt284 : KT Tryz.prog 284 (kArr 44 (kArr 4 (kInt .u8))) := ⟨by kernel_rfl, by kernel_rfl⟩
theorem kt283 : KT Tryz.prog 283 (kArr 4 (kInt .u8)) := ⟨by kernel_rfl, by kernel_rfl⟩
theorem vX : fldB Tryz.prog 243 0 = some (0, 175 + 1) := by kernel_rfl
theorem gw : UpF fX 0 ⟨kArr 11 (kArr 16 (kInt .u8)), aD.keys⟩ (fun x y => { x with keys := y }) := ⟨rfl, fun _ _ => rfl, fun _ _ => (fun q hq => by simp at hq)⟩
theorem sz240k : (Tryz.prog.info? 240).map (·.size) = some (Kd.n (kArr 16 (kInt .u8))) := by kernel_rfl
theorem kt243 : KT Tryz.prog 243 an := ⟨by kernel_rfl, by kernel_rfl⟩
theorem sz243k : (Tryz.prog.info? 243).map (·.size) = some (Kd.n an) := by kernel_rfl
theorem jE (F : Fz) : Kd.rd (kArr 256 (kInt .u8)) F ((List.replicate 256 [.int .u8 0]).flatten) (List.replicate 256 (0 : Int)) := ⟨by simp, bP (K := kInt .u8) rfl 256⟩
theorem ZT246 : ZT Tryz.prog 246 (kArr 256 (kInt .u8)) (List.replicate 256 (0 : Int)) := ⟨(.agg (List.replicate 256 (.int .u8 0 : Value)).toArray : Value), by kernel_rfl, fun F => aA (by kernel_rfl) (jE F)⟩
theorem kt64k : KT Tryz.prog 64 (kArr 16 (kInt .u8)) := ⟨by kernel_rfl, by kernel_rfl⟩
theorem fb243k : fldB Tryz.prog 243 0 = some (offF fX 0, 175 + 1) := by kernel_rfl
theorem sz240 : (Tryz.prog.info? 240).map (·.size) = some (Kd.n (kArr 16 (kInt .u8))) := by kernel_rfl
theorem kt240 : KT Tryz.prog 240 (kArr 16 (kInt .u8)) := ⟨by kernel_rfl, by kernel_rfl⟩
theorem ZT240 : ZT Tryz.prog 240 (kArr 16 (kInt .u8)) (List.replicate 16 (0 : Int)) := ⟨(.agg (List.replicate 16 (.int .u8 0 : Value)).toArray : Value), by kernel_rfl, fun F => aA (by kernel_rfl) (cR F)⟩
theorem kt240k : KT Tryz.prog 240 (kArr 16 (kInt .u8)) := ⟨by kernel_rfl, by kernel_rfl⟩
theorem fb181k2 : fldB Tryz.prog 181 2 = some (offF da 2, 31 + 1) := by kernel_rfl
theorem tK : fldB Tryz.prog 66 0 = some (0, 0 + 1) := by kernel_rfl
theorem iY : UpF eM 0 ⟨kSl (kInt .u8), ak.Cell⟩ (fun x y => { x with Cell := y }) := ⟨rfl, fun _ _ => rfl, fun _ _ => (by intro q hq; simp only [List.mem_cons, List.not_mem_nil, or_false] at hq; rcases hq with rfl <;> rfl)⟩
theorem sz22k1 : (Tryz.prog.info? 22).map (·.size) = some (Kd.n (kSl (kInt .u8))) := by kernel_rfl
theorem tL : fldB Tryz.prog 34 1 = some (1, 0 + 1) := by kernel_rfl
theorem iZ : UpF cj 1 ⟨kInt .i64, ah.Malformed⟩ (fun x y => { x with Malformed := y }) := ⟨rfl, fun _ _ => rfl, fun _ _ => ⟨rfl, (by intro q hq; simp only [List.mem_cons, List.not_mem_nil, or_false] at hq; rcases hq with rfl | rfl | rfl <;> rfl)⟩⟩
theorem fb66k : fldB Tryz.prog 66 1 = some (offF eM 1, 15 + 1) := by kernel_rfl
theorem ZV3 : ZV Tryz.prog 3 (kInt .i64) (0 : Int) := ⟨(.int .i64 0 : Value), by kernel_rfl, fun F => lF.2 rfl⟩
theorem eqk5 : EqK Tryz.prog 5 (kInt .u8) 1 := EqK.int Tryz.underlying5
theorem eqk64 : EqK Tryz.prog 64 (kArr 16 (kInt .u8)) 2 := EqK.arr eqk5 kt5 Tryz.underlying64
theorem eqg64 : Tryz.prog.eqGuardType Tryz.prog.depth 64 = false := by kernel_rfl
theorem tM : fldB Tryz.prog 34 2 = some (2, 0 + 1) := by kernel_rfl
theorem i8 : UpF cj 2 ⟨kInt .i64, ah.Replays⟩ (fun x y => { x with Replays := y }) := ⟨rfl, fun _ _ => rfl, fun _ _ => ⟨rfl, ⟨rfl, (by intro q hq; simp only [List.mem_cons, List.not_mem_nil, or_false] at hq; rcases hq with rfl | rfl <;> rfl)⟩⟩⟩
theorem ET66 : ET Tryz.prog 66 aQ (⟨[], (List.replicate 16 (0 : Int))⟩ : ak) := ⟨⟨Tryz.t66, (.agg (List.replicate 1 (.slice none 0 0 : Value) ++ List.replicate 16 (.int .u8 0 : Value)).toArray : Value), by kernel_rfl, by kernel_rfl, by kernel_rfl, by decide, fun F => aA (by kernel_rfl) (f9 F)⟩⟩
theorem AT66 : AT Tryz.prog 66 aQ (⟨[], (List.replicate 16 (0 : Int))⟩ : ak) 40 := ⟨⟨Tryz.t66, (.agg (List.replicate 1 (.slice none 0 0 : Value) ++ List.replicate 16 (.int .u8 0 : Value)).toArray : Value), by kernel_rfl, by kernel_rfl, by kernel_rfl, by kernel_rfl, by decide, by decide, fun F => aA (by kernel_rfl) (f9 F)⟩⟩
theorem kj (F : Fz) : Kd.rd cw F ([.slice none 0 0] ++ [.slice none 0 0] ++ [.slice none 0 0] ++ []) (⟨[], [], []⟩ : aE) := ⟨[.slice none 0 0], _, rfl, ⟨none, 0, rfl, Nat.le_refl _, .inl rfl⟩, ⟨[.slice none 0 0], _, rfl, ⟨none, 0, rfl, Nat.le_refl _, .inl rfl⟩, ⟨[.slice none 0 0], _, rfl, ⟨none, 0, rfl, Nat.le_refl _, .inl rfl⟩, rfl⟩⟩⟩
theorem ZT51 : ZT Tryz.prog 51 cw (⟨[], [], []⟩ : aE) := ⟨(.agg #[.slice none 0 0, .slice none 0 0, .slice none 0 0] : Value), by kernel_rfl, fun F => aA (by kernel_rfl) (kj F)⟩
theorem BT51 : BT Tryz.prog 51 ea (⟨[], [], []⟩ : aE) := ⟨⟨Tryz.t51, (.agg #[.slice none 0 0, .slice none 0 0, .slice none 0 0] : Value), _, [(0, 1), (1, 1), (2, 1)], by kernel_rfl, by kernel_rfl, Tryz.underlying51, by kernel_rfl, fun i f h => match i, f, h with
 | 0, f, h => by cases h; rfl
 | 1, f, h => by cases h; rfl
 | 2, f, h => by cases h; rfl
 | (_ + 3), f, h => by simp [ea] at h, fun F => bf (by kernel_rfl) (kj F)⟩⟩
theorem sz51k : (Tryz.prog.info? 51).map (·.size) = some (Kd.n cw) := by kernel_rfl
theorem kt51 : KT Tryz.prog 51 cw := ⟨by kernel_rfl, by kernel_rfl⟩
theorem i9 (F : Fz) : Kd.rd dk F ([.slice none 0 0] ++ [.slice none 0 0] ++ [.slice none 0 0] ++ []) (⟨[], [], (.slice none 0 0)⟩ : bc) := ⟨[.slice none 0 0], _, rfl, ⟨none, 0, rfl, Nat.le_refl _, .inl rfl⟩, ⟨[.slice none 0 0], _, rfl, ⟨none, 0, rfl, Nat.le_refl _, .inl rfl⟩, ⟨[.slice none 0 0], _, rfl, ⟨rfl, rfl⟩, rfl⟩⟩⟩
theorem kl : BT Tryz.prog 51 fy (⟨[], [], (.slice none 0 0)⟩ : bc) := ⟨⟨Tryz.t51, (.agg #[.slice none 0 0, .slice none 0 0, .slice none 0 0] : Value), _, [(0, 1), (1, 1), (2, 1)], by kernel_rfl, by kernel_rfl, Tryz.underlying51, by kernel_rfl, fun i f h => match i, f, h with
 | 0, f, h => by cases h; rfl
 | 1, f, h => by cases h; rfl
 | 2, f, h => by cases h; rfl
 | (_ + 3), f, h => by simp [fy] at h, fun F => bf (by kernel_rfl) (i9 F)⟩⟩
theorem ZT51k : ZT Tryz.prog 51 dk (⟨[], [], (.slice none 0 0)⟩ : bc) := ⟨(.agg #[.slice none 0 0, .slice none 0 0, .slice none 0 0] : Value), by kernel_rfl, fun F => aA (by kernel_rfl) (i9 F)⟩
theorem sz51k1 : (Tryz.prog.info? 51).map (·.size) = some (Kd.n dk) := by kernel_rfl
theorem oU : fldB Tryz.prog 51 2 = some (2, 0 + 1) := by kernel_rfl
theorem iu : UpF fy 2 ⟨kRaw, bc.Chunks⟩ (fun x y => { x with Chunks := y }) := ⟨rfl, fun _ _ => rfl, fun _ _ => ⟨rfl, ⟨rfl, (fun q hq => by simp at hq)⟩⟩⟩
theorem kt44k : KT Tryz.prog 44 kRaw := ⟨by kernel_rfl, by kernel_rfl⟩
theorem sz44k : (Tryz.prog.info? 44).map (·.size) = some (Kd.n kRaw) := by kernel_rfl
theorem fb51k : fldB Tryz.prog 51 0 = some (offF ea 0, 0 + 1) := by kernel_rfl
theorem lC (F : Fz) : Kd.rd (kInt .i64) F [.int .i64 0] (0 : Int) := rfl
theorem AT3 : AT Tryz.prog 3 (kInt .i64) (0 : Int) 8 := ⟨⟨Tryz.t3, (.int .i64 0 : Value), by kernel_rfl, by kernel_rfl, by kernel_rfl, by kernel_rfl, by decide, by decide, fun F => aA (by kernel_rfl) (lC F)⟩⟩
theorem ET3 : ET Tryz.prog 3 (kInt .i64) (0 : Int) := ⟨⟨Tryz.t3, (.int .i64 0 : Value), by kernel_rfl, by kernel_rfl, by kernel_rfl, by decide, fun F => aA (by kernel_rfl) (lC F)⟩⟩
theorem sz3 : (Tryz.prog.info? 3).map (·.size) = some (Kd.n (kInt .i64)) := by kernel_rfl
theorem sz66 : (Tryz.prog.info? 66).map (·.size) = some (Kd.n aQ) := by kernel_rfl
theorem fb66k1 : fldB Tryz.prog 66 0 = some (offF eM 0, 0 + 1) := by kernel_rfl
theorem iP (F : Fz) : Kd.rd eh F (([.slice none 0 0] ++ [.slice none 0 0] ++ [.slice none 0 0] ++ []) ++ [.slice none 0 0] ++ [.slice none 0 0] ++ []) (⟨(⟨[], [], []⟩ : aE), [], (.slice none 0 0)⟩ : aN) := ⟨([.slice none 0 0] ++ [.slice none 0 0] ++ [.slice none 0 0] ++ []), _, rfl, ⟨[.slice none 0 0], _, rfl, ⟨none, 0, rfl, Nat.le_refl _, .inl rfl⟩, ⟨[.slice none 0 0], _, rfl, ⟨none, 0, rfl, Nat.le_refl _, .inl rfl⟩, ⟨[.slice none 0 0], _, rfl, ⟨none, 0, rfl, Nat.le_refl _, .inl rfl⟩, rfl⟩⟩⟩, ⟨[.slice none 0 0], _, rfl, ⟨none, 0, rfl, Nat.le_refl _, .inl rfl⟩, ⟨[.slice none 0 0], _, rfl, ⟨rfl, rfl⟩, rfl⟩⟩⟩
theorem ZT163k : ZT Tryz.prog 163 eh (⟨(⟨[], [], []⟩ : aE), [], (.slice none 0 0)⟩ : aN) := ⟨(.agg #[.slice none 0 0, .slice none 0 0, .slice none 0 0, .slice none 0 0, .slice none 0 0] : Value), by kernel_rfl, fun F => aA (by kernel_rfl) (iP F)⟩
theorem mM : fldB Tryz.prog 163 1 = some (3, 0 + 1) := by kernel_rfl
theorem fe : UpF db 1 ⟨kSl (kInt .i64), aN.sizes⟩ (fun x y => { x with sizes := y }) := ⟨rfl, fun _ _ => rfl, fun _ _ => ⟨rfl, (by intro q hq; simp only [List.mem_cons, List.not_mem_nil, or_false] at hq; rcases hq with rfl <;> rfl)⟩⟩
theorem sz68k : (Tryz.prog.info? 68).map (·.size) = some (Kd.n (kSl (kInt .i64))) := by kernel_rfl
theorem cL : BT Tryz.prog 163 db (⟨(⟨[], [], []⟩ : aE), [], (.slice none 0 0)⟩ : aN) := ⟨⟨Tryz.t163, (.agg #[.slice none 0 0, .slice none 0 0, .slice none 0 0, .slice none 0 0, .slice none 0 0] : Value), _, [(0, 3), (3, 1), (4, 1)], by kernel_rfl, by kernel_rfl, Tryz.underlying163, by kernel_rfl, fun i f h => match i, f, h with
 | 0, f, h => by cases h; rfl
 | 1, f, h => by cases h; rfl
 | 2, f, h => by cases h; rfl
 | (_ + 3), f, h => by simp [db] at h, fun F => bf (by kernel_rfl) (iP F)⟩⟩
theorem sz163k : (Tryz.prog.info? 163).map (·.size) = some (Kd.n eh) := by kernel_rfl
theorem kt163 : KT Tryz.prog 163 eg := ⟨by kernel_rfl, by kernel_rfl⟩
theorem mN : fldB Tryz.prog 163 0 = some (0, 2 + 1) := by kernel_rfl
theorem fg : UpF db 0 ⟨cw, aN.parts⟩ (fun x y => { x with parts := y }) := ⟨rfl, fun _ _ => rfl, fun _ _ => (by intro q hq; simp only [List.mem_cons, List.not_mem_nil, or_false] at hq; rcases hq with rfl | rfl <;> rfl)⟩
theorem yv : fldB Tryz.prog 51 1 = some (1, 0 + 1) := by kernel_rfl
theorem lD : UpF ea 1 ⟨kSl (kInt .u8), aE.Braid⟩ (fun x y => { x with Braid := y }) := ⟨rfl, fun _ _ => rfl, fun _ _ => ⟨rfl, (by intro q hq; simp only [List.mem_cons, List.not_mem_nil, or_false] at hq; rcases hq with rfl <;> rfl)⟩⟩
theorem kt22k1 : KT Tryz.prog 22 (kSl (kInt .u8)) := ⟨by kernel_rfl, by kernel_rfl⟩
theorem tO (F : Fz) : Kd.rd kRaw F [.slice none 0 0] (.slice none 0 0) := ⟨rfl, rfl⟩
theorem ZT68k : ZT Tryz.prog 68 kRaw (.slice none 0 0) := ⟨(.slice none 0 0 : Value), by kernel_rfl, fun F => aA (by kernel_rfl) (tO F)⟩
theorem sz68k1 : (Tryz.prog.info? 68).map (·.size) = some (Kd.n kRaw) := by kernel_rfl
theorem km (F : Fz) : Kd.rd a9 F ([.string ByteArray.empty] ++ [.int .i64 0] ++ []) (⟨[], (0 : Int)⟩ : aF) := ⟨[.string ByteArray.empty], _, rfl, ⟨_, rfl, rfl⟩, ⟨[.int .i64 0], _, rfl, rfl, rfl⟩⟩
theorem ZT312 : ZT Tryz.prog 312 a9 (⟨[], (0 : Int)⟩ : aF) := ⟨(.agg #[.string ByteArray.empty, .int .i64 0] : Value), by kernel_rfl, fun F => aA (by kernel_rfl) (km F)⟩
theorem BT312 : BT Tryz.prog 312 gm (⟨[], (0 : Int)⟩ : aF) := ⟨⟨Tryz.t312, (.agg #[.string ByteArray.empty, .int .i64 0] : Value), _, [(0, 1), (1, 1)], by kernel_rfl, by kernel_rfl, Tryz.underlying312, by kernel_rfl, fun i f h => match i, f, h with
 | 0, f, h => by cases h; rfl
 | 1, f, h => by cases h; rfl
 | (_ + 2), f, h => by simp [gm] at h, fun F => bf (by kernel_rfl) (km F)⟩⟩
theorem sz312k : (Tryz.prog.info? 312).map (·.size) = some (Kd.n a9) := by kernel_rfl
theorem kt312 : KT Tryz.prog 312 a9 := ⟨by kernel_rfl, by kernel_rfl⟩
theorem kt312k : KT Tryz.prog 312 a9 := ⟨by kernel_rfl, by kernel_rfl⟩
theorem fb312k : fldB Tryz.prog 312 0 = some (offF gm 0, 0 + 1) := by kernel_rfl
theorem kt9 : KT Tryz.prog 9 kStr := ⟨by kernel_rfl, by kernel_rfl⟩
theorem fb312k1 : fldB Tryz.prog 312 1 = some (offF gm 1, 0 + 1) := by kernel_rfl
theorem kt68k : KT Tryz.prog 68 kRaw := ⟨by kernel_rfl, by kernel_rfl⟩
theorem kt68k1 : KT Tryz.prog 68 (kSl (kInt .i64)) := ⟨by kernel_rfl, by kernel_rfl⟩
theorem pV : fldB Tryz.prog 163 2 = some (4, 0 + 1) := by kernel_rfl
theorem ig : UpF db 2 ⟨kRaw, aN.starts⟩ (fun x y => { x with starts := y }) := ⟨rfl, fun _ _ => rfl, fun _ _ => ⟨rfl, ⟨rfl, (fun q hq => by simp at hq)⟩⟩⟩
theorem lE : UpF ea 2 ⟨kSl (kSl (kInt .u8)), aE.Chunks⟩ (fun x y => { x with Chunks := y }) := ⟨rfl, fun _ _ => rfl, fun _ _ => ⟨rfl, ⟨rfl, (fun q hq => by simp at hq)⟩⟩⟩
theorem kt44k1 : KT Tryz.prog 44 (kSl (kSl (kInt .u8))) := ⟨by kernel_rfl, by kernel_rfl⟩
theorem ja (F : Fz) : Kd.rd (kSl (kInt .i64)) F [.slice none 0 0] [] := ⟨none, 0, rfl, Nat.le_refl _, .inl rfl⟩
theorem ET68 : ET Tryz.prog 68 (kSl (kInt .i64)) [] := ⟨⟨Tryz.t68, (.slice none 0 0 : Value), by kernel_rfl, by kernel_rfl, by kernel_rfl, by decide, fun F => aA (by kernel_rfl) (ja F)⟩⟩
theorem AT68 : AT Tryz.prog 68 (kSl (kInt .i64)) [] 24 := ⟨⟨Tryz.t68, (.slice none 0 0 : Value), by kernel_rfl, by kernel_rfl, by kernel_rfl, by kernel_rfl, by decide, by decide, fun F => aA (by kernel_rfl) (ja F)⟩⟩
abbrev jm : (List Int) → Value → Value := fun _ q => q
abbrev jn : (List Int) → (List Int) := fun x => x
theorem qw : Free kRaw := Free.raw
theorem ma : Free (kInt .i64) := Free.int
theorem qx : ∀ F x q, (kSl (kInt .i64)).val F q (jn x) → ∀ cs, kRaw.rd F cs (jm x q) → (kSl (kInt .i64)).rd F cs x := fun F x q hv => jx hv
theorem AT68k : AT Tryz.prog 68 kRaw (.slice none 0 0) 24 := ⟨⟨Tryz.t68, (.slice none 0 0 : Value), by kernel_rfl, by kernel_rfl, by kernel_rfl, by kernel_rfl, by decide, by decide, fun F => aA (by kernel_rfl) (tO F)⟩⟩
theorem sz68 : (Tryz.prog.info? 68).map (·.size) = some (Kd.n (kSl (kInt .i64))) := by kernel_rfl
theorem kt68 : KT Tryz.prog 68 (kSl (kInt .i64)) := ⟨by kernel_rfl, by kernel_rfl⟩
theorem kt163k : KT Tryz.prog 163 eg := ⟨by kernel_rfl, by kernel_rfl⟩
theorem sz163k1 : (Tryz.prog.info? 163).map (·.size) = some (Kd.n eg) := by kernel_rfl
theorem lT (F : Fz) : Kd.rd eg F (([.slice none 0 0] ++ [.slice none 0 0] ++ [.slice none 0 0] ++ []) ++ [.slice none 0 0] ++ [.slice none 0 0] ++ []) (⟨(⟨[], [], []⟩ : aE), [], []⟩ : aW) := ⟨([.slice none 0 0] ++ [.slice none 0 0] ++ [.slice none 0 0] ++ []), _, rfl, ⟨[.slice none 0 0], _, rfl, ⟨none, 0, rfl, Nat.le_refl _, .inl rfl⟩, ⟨[.slice none 0 0], _, rfl, ⟨none, 0, rfl, Nat.le_refl _, .inl rfl⟩, ⟨[.slice none 0 0], _, rfl, ⟨none, 0, rfl, Nat.le_refl _, .inl rfl⟩, rfl⟩⟩⟩, ⟨[.slice none 0 0], _, rfl, ⟨none, 0, rfl, Nat.le_refl _, .inl rfl⟩, ⟨[.slice none 0 0], _, rfl, ⟨none, 0, rfl, Nat.le_refl _, .inl rfl⟩, rfl⟩⟩⟩
theorem ZT163 : ZT Tryz.prog 163 eg (⟨(⟨[], [], []⟩ : aE), [], []⟩ : aW) := ⟨(.agg #[.slice none 0 0, .slice none 0 0, .slice none 0 0, .slice none 0 0, .slice none 0 0] : Value), by kernel_rfl, fun F => aA (by kernel_rfl) (lT F)⟩
theorem fb163k : fldB Tryz.prog 163 1 = some (offF cO 1, 0 + 1) := by kernel_rfl
theorem fb163k1 : fldB Tryz.prog 163 2 = some (offF cO 2, 0 + 1) := by kernel_rfl
theorem vY (F : Fz) : Kd.rd la F [.bool false] false := rfl
theorem AT4 : AT Tryz.prog 4 la false 1 := ⟨⟨Tryz.t4, (.bool false : Value), by kernel_rfl, by kernel_rfl, by kernel_rfl, by kernel_rfl, by decide, by decide, fun F => aA (by kernel_rfl) (vY F)⟩⟩
theorem sz4k : (Tryz.prog.info? 4).map (·.size) = some (Kd.n la) := by kernel_rfl
theorem kt4k : KT Tryz.prog 4 la := ⟨by kernel_rfl, by kernel_rfl⟩
theorem pW : fldB Tryz.prog 152 0 = some (0, 0 + 1) := by kernel_rfl
theorem jo : UpF dM 0 ⟨kInt .i64, ab.Number⟩ (fun x y => { x with Number := y }) := ⟨rfl, fun _ _ => rfl, fun _ _ => (by intro q hq; simp only [List.mem_cons, List.not_mem_nil, or_false] at hq; rcases hq with rfl <;> rfl)⟩
abbrev bv : ab → Value → am := fun x q => ⟨x.Number, q⟩
abbrev bQ : ab → List (List Int) := fun x => x.Tags
theorem aU : Free (au) := Free.st2 Free.int Free.raw
theorem aV : Free (kArr 16 (kInt .u8)) := Free.arr Free.int
theorem jK : ∀ F x q, (kSl (kArr 16 (kInt .u8))).val F q (bQ x) → ∀ cs, (au).rd F cs (bv x q) → (aB).rd F cs x := fun F x q hv cs h => og (fs' := ei) (fs := dM) (x' := bv x q) (x := x) ⟨fun _ h => h, jx hv, trivial⟩ h
theorem eU (F : Fz) : Kd.rd au F ([.int .i64 0] ++ [.slice none 0 0] ++ []) (⟨(0 : Int), (.slice none 0 0)⟩ : am) := ⟨[.int .i64 0], _, rfl, rfl, ⟨[.slice none 0 0], _, rfl, ⟨rfl, rfl⟩, rfl⟩⟩
theorem cq : BT Tryz.prog 152 ei (⟨(0 : Int), (.slice none 0 0)⟩ : am) := ⟨⟨Tryz.t152, (.agg #[.int .i64 0, .slice none 0 0] : Value), _, [(0, 1), (1, 1)], by kernel_rfl, by kernel_rfl, Tryz.underlying152, by kernel_rfl, fun i f h => match i, f, h with
 | 0, f, h => by cases h; rfl
 | 1, f, h => by cases h; rfl
 | (_ + 2), f, h => by simp [ei] at h, fun F => bf (by kernel_rfl) (eU F)⟩⟩
theorem ET152k : ET Tryz.prog 152 au (⟨(0 : Int), (.slice none 0 0)⟩ : am) := ⟨⟨Tryz.t152, (.agg #[.int .i64 0, .slice none 0 0] : Value), by kernel_rfl, by kernel_rfl, by kernel_rfl, by decide, fun F => aA (by kernel_rfl) (eU F)⟩⟩
theorem AT152k : AT Tryz.prog 152 au (⟨(0 : Int), (.slice none 0 0)⟩ : am) 32 := ⟨⟨Tryz.t152, (.agg #[.int .i64 0, .slice none 0 0] : Value), by kernel_rfl, by kernel_rfl, by kernel_rfl, by kernel_rfl, by decide, by decide, fun F => aA (by kernel_rfl) (eU F)⟩⟩
theorem sz152k1 : (Tryz.prog.info? 152).map (·.size) = some (Kd.n au) := by kernel_rfl
theorem kt152k : KT Tryz.prog 152 au := ⟨by kernel_rfl, by kernel_rfl⟩
theorem ZT152k : ZT Tryz.prog 152 au (⟨(0 : Int), (.slice none 0 0)⟩ : am) := ⟨(.agg #[.int .i64 0, .slice none 0 0] : Value), by kernel_rfl, fun F => aA (by kernel_rfl) (eU F)⟩
theorem iw : UpF ei 1 ⟨kRaw, am.Tags⟩ (fun x y => { x with Tags := y }) := ⟨rfl, fun _ _ => rfl, fun _ _ => ⟨rfl, (fun q hq => by simp at hq)⟩⟩
theorem kt85k1 : KT Tryz.prog 85 kRaw := ⟨by kernel_rfl, by kernel_rfl⟩
theorem kO (F : Fz) : Kd.rd cK F ([.int .i64 0] ++ [.int .i64 0] ++ [.int .i64 0] ++ []) (⟨(0 : Int), (0 : Int), (0 : Int)⟩ : ac) := ⟨[.int .i64 0], _, rfl, rfl, ⟨[.int .i64 0], _, rfl, rfl, ⟨[.int .i64 0], _, rfl, rfl, rfl⟩⟩⟩
theorem BT43 : BT Tryz.prog 43 cN (⟨(0 : Int), (0 : Int), (0 : Int)⟩ : ac) := ⟨⟨Tryz.t43, (.agg #[.int .i64 0, .int .i64 0, .int .i64 0] : Value), _, [(0, 1), (1, 1), (2, 1)], by kernel_rfl, by kernel_rfl, Tryz.underlying43, by kernel_rfl, fun i f h => match i, f, h with
 | 0, f, h => by cases h; rfl
 | 1, f, h => by cases h; rfl
 | 2, f, h => by cases h; rfl
 | (_ + 3), f, h => by simp [cN] at h, fun F => bf (by kernel_rfl) (kO F)⟩⟩
theorem kt43 : KT Tryz.prog 43 cK := ⟨by kernel_rfl, by kernel_rfl⟩
theorem yw : fldB Tryz.prog 34 3 = some (3, 0 + 1) := by kernel_rfl
theorem kY : UpF cj 3 ⟨kInt .i64, ah.Noise⟩ (fun x y => { x with Noise := y }) := ⟨rfl, fun _ _ => rfl, fun _ _ => ⟨rfl, ⟨rfl, ⟨rfl, (by intro q hq; simp only [List.mem_cons, List.not_mem_nil, or_false] at hq; rcases hq with rfl <;> rfl)⟩⟩⟩⟩
theorem yx : fldB Tryz.prog 34 4 = some (4, 0 + 1) := by kernel_rfl
theorem kZ : UpF cj 4 ⟨kInt .i64, ah.Out⟩ (fun x y => { x with Out := y }) := ⟨rfl, fun _ _ => rfl, fun _ _ => ⟨rfl, ⟨rfl, ⟨rfl, ⟨rfl, (fun q hq => by simp at hq)⟩⟩⟩⟩⟩
theorem fb37k : fldB Tryz.prog 37 3 = some (offF cW 3, 0 + 1) := by kernel_rfl
theorem kt35 : KT Tryz.prog 35 (kInt .i64) := ⟨by kernel_rfl, by kernel_rfl⟩
theorem fb37k1 : fldB Tryz.prog 37 0 = some (offF cW 0, 0 + 1) := by kernel_rfl
theorem fb37k2 : fldB Tryz.prog 37 1 = some (offF cW 1, 2 + 1) := by kernel_rfl
theorem fb31k : fldB Tryz.prog 31 0 = some (offF dy 0, 10 + 1) := by kernel_rfl
theorem fb31k1 : fldB Tryz.prog 31 1 = some (offF dy 1, 2 + 1) := by kernel_rfl
theorem fb31k2 : fldB Tryz.prog 31 2 = some (offF dy 2, 0 + 1) := by kernel_rfl
theorem fb31k3 : fldB Tryz.prog 31 3 = some (offF dy 3, 0 + 1) := by kernel_rfl
theorem fb37k3 : fldB Tryz.prog 37 2 = some (offF cW 2, 4 + 1) := by kernel_rfl
theorem fb34k : fldB Tryz.prog 34 3 = some (offF cj 3, 0 + 1) := by kernel_rfl
theorem fb34k1 : fldB Tryz.prog 34 2 = some (offF cj 2, 0 + 1) := by kernel_rfl
theorem fb34k2 : fldB Tryz.prog 34 1 = some (offF cj 1, 0 + 1) := by kernel_rfl
theorem Cy {P : Program} {ops : Array Oper} {rest : List Oper} {Q : Exit → Act → World → Prop} {F0 : Fz} {n : Nat} {E : List (Nat × SV)} {L : List Res} {o0 o1 o2 o3 o4 o5 o6 o7 o8 o9 o10 o11 o12 o13 o14 o15 : Oper} (d : Nat) (e : Bool) (k : Under F0 n ((d, .raw (.bool e)) :: E) L (wpList P ops Q rest)) (h : Under F0 n ((d, .raw (.bool e)) :: E) L (wpList P ops Q rest) → Under F0 n E L (wpList P ops Q (o0 :: o1 :: o2 :: o3 :: o4 :: o5 :: o6 :: o7 :: o8 :: o9 :: o10 :: o11 :: o12 :: o13 :: o14 :: o15 :: rest))) : Under F0 n E L (wpList P ops Q (o0 :: o1 :: o2 :: o3 :: o4 :: o5 :: o6 :: o7 :: o8 :: o9 :: o10 :: o11 :: o12 :: o13 :: o14 :: o15 :: rest)) := h k
theorem BC {P : Program} {ops : Array Oper} {rest : List Oper} {C : World → Prop} {Qa : Act → Prop} {F0 : Fz} {n : Nat} {E : List (Nat × SV)} {o0 o1 o2 o3 o4 o5 o6 o7 o8 o9 o10 o11 o12 o13 o14 o15 : Oper} (d : Nat) (e : Bool) (k : aI F0 n ((d, .raw (.bool e)) :: E) (wpQuiet P ops C Qa rest)) (h : aI F0 n ((d, .raw (.bool e)) :: E) (wpQuiet P ops C Qa rest) → aI F0 n E (wpQuiet P ops C Qa (o0 :: o1 :: o2 :: o3 :: o4 :: o5 :: o6 :: o7 :: o8 :: o9 :: o10 :: o11 :: o12 :: o13 :: o14 :: o15 :: rest))) : aI F0 n E (wpQuiet P ops C Qa (o0 :: o1 :: o2 :: o3 :: o4 :: o5 :: o6 :: o7 :: o8 :: o9 :: o10 :: o11 :: o12 :: o13 :: o14 :: o15 :: rest)) := h k
theorem qy {P : Program} {ops : Array Oper} {rest : List Oper} {Q : Exit → Act → World → Prop} {F0 : Fz} {n : Nat} {E : List (Nat × SV)} {L : List Res} {o0 o1 o2 o3 o4 o5 o6 : Oper} (d : Nat) (e : Bool) (k : Under F0 n ((d, .raw (.bool e)) :: E) L (wpList P ops Q rest)) (h : Under F0 n ((d, .raw (.bool e)) :: E) L (wpList P ops Q rest) → Under F0 n E L (wpList P ops Q (o0 :: o1 :: o2 :: o3 :: o4 :: o5 :: o6 :: rest))) : Under F0 n E L (wpList P ops Q (o0 :: o1 :: o2 :: o3 :: o4 :: o5 :: o6 :: rest)) := h k
theorem ru {P : Program} {ops : Array Oper} {rest : List Oper} {C : World → Prop} {Qa : Act → Prop} {F0 : Fz} {n : Nat} {E : List (Nat × SV)} {o0 o1 o2 o3 o4 o5 o6 : Oper} (d : Nat) (e : Bool) (k : aI F0 n ((d, .raw (.bool e)) :: E) (wpQuiet P ops C Qa rest)) (h : aI F0 n ((d, .raw (.bool e)) :: E) (wpQuiet P ops C Qa rest) → aI F0 n E (wpQuiet P ops C Qa (o0 :: o1 :: o2 :: o3 :: o4 :: o5 :: o6 :: rest))) : aI F0 n E (wpQuiet P ops C Qa (o0 :: o1 :: o2 :: o3 :: o4 :: o5 :: o6 :: rest)) := h k
theorem rw5 : RdW Tryz.prog 5 (kInt .u8) (gInt .u8) bOne := qa Tryz.underlying5
theorem cof5 : Tryz.prog.cellsOf 5 = 1 := by kernel_rfl
theorem rw22 : RdW Tryz.prog 22 (kSl (kInt .u8)) (gSl (gInt .u8)) (bSl bOne) := ud (K := kInt .u8) Tryz.underlying22 cof5 (by decide) rw5
theorem rw3 : RdW Tryz.prog 3 (kInt .i64) (gInt .i64) bOne := qa Tryz.underlying3
theorem cof22 : Tryz.prog.cellsOf 22 = 1 := by kernel_rfl
theorem cof3 : Tryz.prog.cellsOf 3 = 1 := by kernel_rfl
theorem cof24 : Tryz.prog.cellsOf 24 = 11 := by kernel_rfl
def kn (x : ar) : Prop := (gSl (gInt .u8)) x.Master ∧ (gInt .i64) x.Left ∧ (gInt .i64) x.Span ∧ (gInt .i64) x.Room ∧ (gInt .i64) x.Num ∧ (gInt .i64) x.Den ∧ (gInt .i64) x.Noise ∧ (gInt .i64) x.Chunks ∧ (gInt .i64) x.Workers ∧ (gInt .i64) x.Cap ∧ (gInt .i64) x.Shards ∧ True
def iU (x : ar) : Nat := (bSl bOne) x.Master + (bOne x.Left + (bOne x.Span + (bOne x.Room + (bOne x.Num + (bOne x.Den + (bOne x.Noise + (bOne x.Chunks + (bOne x.Workers + (bOne x.Cap + (bOne x.Shards + 0))))))))))
theorem rw24 : RdW Tryz.prog 24 aP kn iU := by
 intro H enc W _ B BA hB fuel cs x h
 obtain ⟨hl, ds, hx, hf0⟩ := kK Tryz.underlying24 h
 obtain ⟨d0, ds0, e0, ⟨n0, p0, t0⟩, hf1⟩ := FsRd.cons hf0
 subst e0
 obtain ⟨y0, r0, g0, b0⟩ := rw22 hB t0
 obtain ⟨d1, ds1, e1, ⟨n1, p1, t1⟩, hf2⟩ := FsRd.cons hf1
 subst e1
 obtain ⟨y1, r1, g1, b1⟩ := rw3 hB t1
 obtain ⟨d2, ds2, e2, ⟨n2, p2, t2⟩, hf3⟩ := FsRd.cons hf2
 subst e2
 obtain ⟨y2, r2, g2, b2⟩ := rw3 hB t2
 obtain ⟨d3, ds3, e3, ⟨n3, p3, t3⟩, hf4⟩ := FsRd.cons hf3
 subst e3
 obtain ⟨y3, r3, g3, b3⟩ := rw3 hB t3
 obtain ⟨d4, ds4, e4, ⟨n4, p4, t4⟩, hf5⟩ := FsRd.cons hf4
 subst e4
 obtain ⟨y4, r4, g4, b4⟩ := rw3 hB t4
 obtain ⟨d5, ds5, e5, ⟨n5, p5, t5⟩, hf6⟩ := FsRd.cons hf5
 subst e5
 obtain ⟨y5, r5, g5, b5⟩ := rw3 hB t5
 obtain ⟨d6, ds6, e6, ⟨n6, p6, t6⟩, hf7⟩ := FsRd.cons hf6
 subst e6
 obtain ⟨y6, r6, g6, b6⟩ := rw3 hB t6
 obtain ⟨d7, ds7, e7, ⟨n7, p7, t7⟩, hf8⟩ := FsRd.cons hf7
 subst e7
 obtain ⟨y7, r7, g7, b7⟩ := rw3 hB t7
 obtain ⟨d8, ds8, e8, ⟨n8, p8, t8⟩, hf9⟩ := FsRd.cons hf8
 subst e8
 obtain ⟨y8, r8, g8, b8⟩ := rw3 hB t8
 obtain ⟨d9, ds9, e9, ⟨n9, p9, t9⟩, hf10⟩ := FsRd.cons hf9
 subst e9
 obtain ⟨y9, r9, g9, b9⟩ := rw3 hB t9
 obtain ⟨d10, ds10, e10, ⟨n10, p10, t10⟩, hf11⟩ := FsRd.cons hf10
 subst e10
 obtain ⟨y10, r10, g10, b10⟩ := rw3 hB t10
 have hnil := FsRd.nil hf11
 subst hnil
 refine ⟨⟨y0, y1, y2, y3, y4, y5, y6, y7, y8, y9, y10⟩, jb (bW cof22 r0 (bW cof3 r1 (bW cof3 r2 (bW cof3 r3 (bW cof3 r4 (bW cof3 r5 (bW cof3 r6 (bW cof3 r7 (bW cof3 r8 (bW cof3 r9 (bW cof3 r10 (kL (hl.trans cof24) rfl)))))))))))), ⟨g0, g1, g2, g3, g4, g5, g6, g7, g8, g9, g10, trivial⟩, ?_⟩
 have := hB.agg [d0, d1, d2, d3, d4, d5, d6, d7, d8, d9, d10]
 rw [hx]
 dsimp only at b0 b1 b2 b3 b4 b5 b6 b7 b8 b9 b10
 simp only [hB.cons, hB.nil] at this
 simp only [iU]; omega
theorem rw2 : RdW Tryz.prog 2 (kInt .i64) (gInt .i64) bOne := qa Tryz.underlying2
theorem cof64 : Tryz.prog.cellsOf 64 = 16 := by kernel_rfl
theorem rw64 : RdW Tryz.prog 64 (kArr 16 (kInt .u8)) (gArr 16 (gInt .u8)) (bArr bOne) := AE (K := kInt .u8) Tryz.underlying64 cof64 cof5 rw5
theorem rw85 : RdW Tryz.prog 85 (kSl (kArr 16 (kInt .u8))) (gSl (gArr 16 (gInt .u8))) (bSl (bArr bOne)) := ud (K := kArr 16 (kInt .u8)) Tryz.underlying85 cof64 (by decide) rw64
theorem cof2 : Tryz.prog.cellsOf 2 = 1 := by kernel_rfl
theorem cof85 : Tryz.prog.cellsOf 85 = 1 := by kernel_rfl
theorem cof152 : Tryz.prog.cellsOf 152 = 2 := by kernel_rfl
def iR (x : ab) : Prop := (gInt .i64) x.Number ∧ (gSl (gArr 16 (gInt .u8))) x.Tags ∧ True
def fi (x : ab) : Nat := bOne x.Number + ((bSl (bArr bOne)) x.Tags + 0)
theorem rw152 : RdW Tryz.prog 152 aB iR fi := by
 intro H enc W _ B BA hB fuel cs x h
 obtain ⟨hl, ds, hx, hf0⟩ := kK Tryz.underlying152 h
 obtain ⟨d0, ds0, e0, ⟨n0, p0, t0⟩, hf1⟩ := FsRd.cons hf0
 subst e0
 obtain ⟨y0, r0, g0, b0⟩ := rw2 hB t0
 obtain ⟨d1, ds1, e1, ⟨n1, p1, t1⟩, hf2⟩ := FsRd.cons hf1
 subst e1
 obtain ⟨y1, r1, g1, b1⟩ := rw85 hB t1
 have hnil := FsRd.nil hf2
 subst hnil
 refine ⟨⟨y0, y1⟩, jb (bW cof2 r0 (bW cof85 r1 (kL (hl.trans cof152) rfl))), ⟨g0, g1, trivial⟩, ?_⟩
 have := hB.agg [d0, d1]
 rw [hx]
 dsimp only at b0 b1
 simp only [hB.cons, hB.nil] at this
 simp only [fi]; omega
theorem rw25 : RdW Tryz.prog 25 (kSl aB) (gSl iR) (bSl fi) := ud (K := aB) Tryz.underlying25 cof152 (by decide) rw152
theorem cof25 : Tryz.prog.cellsOf 25 = 1 := by kernel_rfl
theorem cof27 : Tryz.prog.cellsOf 27 = 2 := by kernel_rfl
def jv (x : aa) : Prop := (gInt .i64) x.Newest ∧ (gSl iR) x.Epochs ∧ True
def fB (x : aa) : Nat := bOne x.Newest + ((bSl fi) x.Epochs + 0)
theorem rw27 : RdW Tryz.prog 27 ae jv fB := by
 intro H enc W _ B BA hB fuel cs x h
 obtain ⟨hl, ds, hx, hf0⟩ := kK Tryz.underlying27 h
 obtain ⟨d0, ds0, e0, ⟨n0, p0, t0⟩, hf1⟩ := FsRd.cons hf0
 subst e0
 obtain ⟨y0, r0, g0, b0⟩ := rw2 hB t0
 obtain ⟨d1, ds1, e1, ⟨n1, p1, t1⟩, hf2⟩ := FsRd.cons hf1
 subst e1
 obtain ⟨y1, r1, g1, b1⟩ := rw25 hB t1
 have hnil := FsRd.nil hf2
 subst hnil
 refine ⟨⟨y0, y1⟩, jb (bW cof2 r0 (bW cof25 r1 (kL (hl.trans cof27) rfl))), ⟨g0, g1, trivial⟩, ?_⟩
 have := hB.agg [d0, d1]
 rw [hx]
 dsimp only at b0 b1
 simp only [hB.cons, hB.nil] at this
 simp only [fB]; omega
theorem cof29 : Tryz.prog.cellsOf 29 = 3 := by kernel_rfl
def kS (x : aC) : Prop := (gInt .i64) x.Next ∧ jv x.Window ∧ True
def iy (x : aC) : Nat := bOne x.Next + (fB x.Window + 0)
theorem rw29 : RdW Tryz.prog 29 aT kS iy := by
 intro H enc W _ B BA hB fuel cs x h
 obtain ⟨hl, ds, hx, hf0⟩ := kK Tryz.underlying29 h
 obtain ⟨d0, ds0, e0, ⟨n0, p0, t0⟩, hf1⟩ := FsRd.cons hf0
 subst e0
 obtain ⟨y0, r0, g0, b0⟩ := rw2 hB t0
 obtain ⟨d1, ds1, e1, ⟨n1, p1, t1⟩, hf2⟩ := FsRd.cons hf1
 subst e1
 obtain ⟨y1, r1, g1, b1⟩ := rw27 hB t1
 have hnil := FsRd.nil hf2
 subst hnil
 refine ⟨⟨y0, y1⟩, jb (bW cof2 r0 (bW cof27 r1 (kL (hl.trans cof29) rfl))), ⟨g0, g1, trivial⟩, ?_⟩
 have := hB.agg [d0, d1]
 rw [hx]
 dsimp only at b0 b1
 simp only [hB.cons, hB.nil] at this
 simp only [iy]; omega
theorem cof31 : Tryz.prog.cellsOf 31 = 16 := by kernel_rfl
def fY (x : bi) : Prop := kn x.C ∧ kS x.S ∧ (gSl (gInt .u8)) x.Raw ∧ (gSl (gInt .u8)) x.Tape ∧ True
def dF (x : bi) : Nat := iU x.C + (iy x.S + ((bSl bOne) x.Raw + ((bSl bOne) x.Tape + 0)))
theorem rw31 : RdW Tryz.prog 31 cZ fY dF := by
 intro H enc W _ B BA hB fuel cs x h
 obtain ⟨hl, ds, hx, hf0⟩ := kK Tryz.underlying31 h
 obtain ⟨d0, ds0, e0, ⟨n0, p0, t0⟩, hf1⟩ := FsRd.cons hf0
 subst e0
 obtain ⟨y0, r0, g0, b0⟩ := rw24 hB t0
 obtain ⟨d1, ds1, e1, ⟨n1, p1, t1⟩, hf2⟩ := FsRd.cons hf1
 subst e1
 obtain ⟨y1, r1, g1, b1⟩ := rw29 hB t1
 obtain ⟨d2, ds2, e2, ⟨n2, p2, t2⟩, hf3⟩ := FsRd.cons hf2
 subst e2
 obtain ⟨y2, r2, g2, b2⟩ := rw22 hB t2
 obtain ⟨d3, ds3, e3, ⟨n3, p3, t3⟩, hf4⟩ := FsRd.cons hf3
 subst e3
 obtain ⟨y3, r3, g3, b3⟩ := rw22 hB t3
 have hnil := FsRd.nil hf4
 subst hnil
 refine ⟨⟨y0, y1, y2, y3⟩, jb (bW cof24 r0 (bW cof29 r1 (bW cof22 r2 (bW cof22 r3 (kL (hl.trans cof31) rfl))))), ⟨g0, g1, g2, g3, trivial⟩, ?_⟩
 have := hB.agg [d0, d1, d2, d3]
 rw [hx]
 dsimp only at b0 b1 b2 b3
 simp only [hB.cons, hB.nil] at this
 simp only [dF]; omega
theorem kt31 : KT Tryz.prog 31 cZ := ⟨by kernel_rfl, by kernel_rfl⟩
abbrev K0 := (kSl (kArr 16 (kInt .u8)))
abbrev K1 := (kSl (kSl (kInt .u8)))
abbrev K2 := (kArr 16 (kInt .u8))
abbrev K3 := (kArr 8 (kInt .u32))
abbrev K4 := (kArr 32 (kInt .u8))
abbrev K5 := (kArr 4 (kInt .u8))
abbrev K6 := (kSl (kInt .i64))
abbrev K7 := (kSl (kInt .u8))
abbrev K8 := (kInt .i64)
abbrev K9 := (kInt .u32)
abbrev K10 := (kInt .u8)
end Go.Proofs.YtobbmodjdkcdcaaGreatDoor

import Derived.Test.YtdkfkpbijdimkaaGreatDoorSimD
import Derived.Test.YtdkfkpbijdimkaaGreatDoorRows
set_option linter.unusedVariables false
set_option linter.unusedSimpArgs false
set_option maxRecDepth 20000
namespace Go.Proofs.YtdkfkpbijdimkaaGreatDoor
open Go Go.Sim Go.ChangeShapes Go.WideShapes Go.ChangeAt Go.RowKit
set_option linter.unusedSectionVars false
variable [Fu]
structure de where
 Round:Int
 Epoch:Int
 Left:Int
abbrev jV:List (Fld de):=[⟨kInt .i64,de.Round⟩,⟨kInt .i64,de.Epoch⟩,⟨kInt .i64,de.Left⟩]
abbrev g6:Kd de:=kSt jV
structure fP where
 Header:de
 Cells:List (List Int)
abbrev kL:List (Fld fP):=[⟨g6,fP.Header⟩,⟨kSl (kSl (kInt .u8)),fP.Cells⟩]
abbrev ow:Kd fP:=kSt kL
structure dN where
 Header:de
 Count:Int
 From:List Int
 Nonces:List (List Int)
abbrev jW:List (Fld dN):=[⟨g6,dN.Header⟩,⟨kInt .i64,dN.Count⟩,⟨kSl (kInt .i64),dN.From⟩,⟨kSl (kArr 16 (kInt .u8)),dN.Nonces⟩]
abbrev n7:Kd dN:=kSt jW
structure e7 where
 Noise:List Int
 Braid:List Int
 Chunks:List (List Int)
abbrev kM:List (Fld e7):=[⟨kSl (kInt .u8),e7.Noise⟩,⟨kSl (kInt .u8),e7.Braid⟩,⟨kSl (kSl (kInt .u8)),e7.Chunks⟩]
abbrev ox:Kd e7:=kSt kM
structure fa where
 Number:Int
 Tags:List (List Int)
abbrev kN:List (Fld fa):=[⟨kInt .i64,fa.Number⟩,⟨kSl (kArr 16 (kInt .u8)),fa.Tags⟩]
abbrev li:Kd fa:=kSt kN
structure ej where
 Newest:Int
 Epochs:List fa
abbrev jX:List (Fld ej):=[⟨kInt .i64,ej.Newest⟩,⟨kSl li,ej.Epochs⟩]
abbrev kO:Kd ej:=kSt jX
structure az where
 Masters:List (List Int)
 Epoch:Int
 Nonces:List (List Int)
 Name:List Int
 Message:List Int
abbrev cm:List (Fld az):=[⟨kSl (kSl (kInt .u8)),az.Masters⟩,⟨kInt .i64,az.Epoch⟩,⟨kSl (kArr 16 (kInt .u8)),az.Nonces⟩,⟨kArr 8 (kInt .u8),az.Name⟩,⟨kSl (kInt .u8),az.Message⟩]
abbrev bY:Kd az:=kSt cm
structure aO where
 Master:List Int
 Left:Int
 Span:Int
 Room:Int
 Num:Int
 Den:Int
 Noise:Int
 Chunks:Int
 Workers:Int
 Cap:Int
 Shards:Int
abbrev jY:List (Fld aO):=[⟨kSl (kInt .u8),aO.Master⟩,⟨kInt .i64,aO.Left⟩,⟨kInt .i64,aO.Span⟩,⟨kInt .i64,aO.Room⟩,⟨kInt .i64,aO.Num⟩,⟨kInt .i64,aO.Den⟩,⟨kInt .i64,aO.Noise⟩,⟨kInt .i64,aO.Chunks⟩,⟨kInt .i64,aO.Workers⟩,⟨kInt .i64,aO.Cap⟩,⟨kInt .i64,aO.Shards⟩]
abbrev g7:Kd aO:=kSt jY
structure fb where
 Next:Int
 Window:ej
abbrev kP:List (Fld fb):=[⟨kInt .i64,fb.Next⟩,⟨kO,fb.Window⟩]
abbrev lj:Kd fb:=kSt kP
structure cP where
 In:Int
 Malformed:Int
 Replays:Int
 Noise:Int
 Out:Int
abbrev jZ:List (Fld cP):=[⟨kInt .i64,cP.In⟩,⟨kInt .i64,cP.Malformed⟩,⟨kInt .i64,cP.Replays⟩,⟨kInt .i64,cP.Noise⟩,⟨kInt .i64,cP.Out⟩]
abbrev kQ:Kd cP:=kSt jZ
structure cf where
 Out:List Int
 State:fb
 Report:cP
 Err:Int
 At:Int
abbrev jc:List (Fld cf):=[⟨kSl (kInt .u8),cf.Out⟩,⟨lj,cf.State⟩,⟨kQ,cf.Report⟩,⟨kInt .i64,cf.Err⟩,⟨kInt .i64,cf.At⟩]
abbrev gu:Kd cf:=kSt jc
structure af where
 words:List Int
 tail:List Int
 n:Int
abbrev cQ:List (Fld af):=[⟨kArr 8 (kInt .u32),af.words⟩,⟨kArr 64 (kInt .u8),af.tail⟩,⟨kInt .u64,af.n⟩]
abbrev aB:Kd af:=kSt cQ
structure ab where
 Cell:List Int
 Replay:List Int
abbrev cV:List (Fld ab):=[⟨kSl (kInt .u8),ab.Cell⟩,⟨kArr 16 (kInt .u8),ab.Replay⟩]
abbrev aK:Kd ab:=kSt cV
structure ae where
 Box:List Int
 Mac:List Int
 Replay:List Int
abbrev aT:List (Fld ae):=[⟨kArr 16 (kInt .u8),ae.Box⟩,⟨kArr 32 (kInt .u8),ae.Mac⟩,⟨kArr 32 (kInt .u8),ae.Replay⟩]
abbrev av:Kd ae:=kSt aT
structure ak where
 keys:List (List Int)
abbrev dO:List (Fld ak):=[⟨kArr 11 (kArr 16 (kInt .u8)),ak.keys⟩]
abbrev ah:Kd ak:=kSt dO
theorem df {P:Program} {ops:Array Oper} {rest:List Oper} {Q:Exit→Act→World→Prop} {F0:Fz} {n:Nat} {E:List (Nat×SV)} {L:List Res} {o0 o1 o2 o3:Oper} (d:Nat) (e:Bool) (k:Under F0 n ((d,.raw (.bool e))::E) L (wpList P ops Q rest)) (h:Under F0 n ((d,.raw (.bool e))::E) L (wpList P ops Q rest)→Under F0 n E L (wpList P ops Q (o0::o1::o2::o3::rest))):Under F0 n E L (wpList P ops Q (o0::o1::o2::o3::rest)):=h k
theorem oP {P:Program} {ops:Array Oper} {rest:List Oper} {C:World→Prop} {Qa:Act→Prop} {F0:Fz} {n:Nat} {E:List (Nat×SV)} {o0 o1 o2 o3:Oper} (d:Nat) (e:Bool) (k:aC F0 n ((d,.raw (.bool e))::E) (wpQuiet P ops C Qa rest)) (h:aC F0 n ((d,.raw (.bool e))::E) (wpQuiet P ops C Qa rest)→aC F0 n E (wpQuiet P ops C Qa (o0::o1::o2::o3::rest))):aC F0 n E (wpQuiet P ops C Qa (o0::o1::o2::o3::rest)):=h k
theorem sz24:(Tryz.prog.info? 24).map (·.size)=some (Kd.n (kSl (kInt .u8))):=by kernel_rfl
theorem kt24:KT Tryz.prog 24 (kSl (kInt .u8)):=⟨by kernel_rfl,by kernel_rfl⟩
theorem jB (F:Fz):Kd.rd (kInt .u8) F [.int .u8 0] (0:Int):=rfl
theorem AT5:AT Tryz.prog 5 (kInt .u8) (0:Int) 1:=⟨⟨Tryz.t5,(.int .u8 0:Value),by kernel_rfl,by kernel_rfl,by kernel_rfl,by kernel_rfl,by decide,by decide,fun F=>aI (by kernel_rfl) (jB F)⟩⟩
theorem sz5k:(Tryz.prog.info? 5).map (·.size)=some (Kd.n (kInt .u8)):=by kernel_rfl
theorem ET5:ET Tryz.prog 5 (kInt .u8) (0:Int):=⟨⟨Tryz.t5,(.int .u8 0:Value),by kernel_rfl,by kernel_rfl,by kernel_rfl,by decide,fun F=>aI (by kernel_rfl) (jB F)⟩⟩
theorem f7 (F:Fz):Kd.rd (kArr 32 (kInt .u8)) F ((List.replicate 32 [.int .u8 0]).flatten) (List.replicate 32 (0:Int)):=⟨by simp,aH (K:=kInt .u8) rfl 32⟩
theorem ZT169:ZT Tryz.prog 169 (kArr 32 (kInt .u8)) (List.replicate 32 (0:Int)):=⟨(.agg (List.replicate 32 (.int .u8 0:Value)).toArray:Value),by kernel_rfl,fun F=>aI (by kernel_rfl) (f7 F)⟩
theorem gv (F:Fz):Kd.rd aB F ((List.replicate 8 [.int .u32 0]).flatten++(List.replicate 64 [.int .u8 0]).flatten++[.int .u64 0]++[]) (⟨(List.replicate 8 (0:Int)),(List.replicate 64 (0:Int)),(0:Int)⟩:af):=⟨(List.replicate 8 [.int .u32 0]).flatten,_,rfl,⟨by simp,aH (K:=kInt .u32) rfl 8⟩,⟨(List.replicate 64 [.int .u8 0]).flatten,_,rfl,⟨by simp,aH (K:=kInt .u8) rfl 64⟩,⟨[.int .u64 0],_,rfl,rfl,rfl⟩⟩⟩
theorem ZT254:ZT Tryz.prog 254 aB (⟨(List.replicate 8 (0:Int)),(List.replicate 64 (0:Int)),(0:Int)⟩:af):=⟨(.agg (List.replicate 8 (.int .u32 0:Value)++List.replicate 64 (.int .u8 0:Value)++List.replicate 1 (.int .u64 0:Value)).toArray:Value),by kernel_rfl,fun F=>aI (by kernel_rfl) (gv F)⟩
theorem f8 (F:Fz):Kd.rd (kArr 64 (kInt .u8)) F ((List.replicate 64 [.int .u8 0]).flatten) (List.replicate 64 (0:Int)):=⟨by simp,aH (K:=kInt .u8) rfl 64⟩
theorem ZT252:ZT Tryz.prog 252 (kArr 64 (kInt .u8)) (List.replicate 64 (0:Int)):=⟨(.agg (List.replicate 64 (.int .u8 0:Value)).toArray:Value),by kernel_rfl,fun F=>aI (by kernel_rfl) (f8 F)⟩
theorem BT254:BT Tryz.prog 254 cQ (⟨(List.replicate 8 (0:Int)),(List.replicate 64 (0:Int)),(0:Int)⟩:af):=⟨⟨Tryz.t254,(.agg (List.replicate 8 (.int .u32 0:Value)++List.replicate 64 (.int .u8 0:Value)++List.replicate 1 (.int .u64 0:Value)).toArray:Value),_,[(0,8),(8,64),(72,1)],by kernel_rfl,by kernel_rfl,Tryz.underlying254,by kernel_rfl,fun i f h=>match i,f,h with
 |0,f,h=>by cases h;rfl
 |1,f,h=>by cases h;rfl
 |2,f,h=>by cases h;rfl
 |(_+3),f,h=>by simp[cQ] at h,fun F=>fG (by kernel_rfl) (gv F)⟩⟩
theorem sz254k:(Tryz.prog.info? 254).map (·.size)=some (Kd.n aB):=by kernel_rfl
theorem kt254:KT Tryz.prog 254 aB:=⟨by kernel_rfl,by kernel_rfl⟩
theorem fQ:fldB Tryz.prog 254 2=some (72,0+1):=by kernel_rfl
theorem cp:UpF cQ 2 ⟨kInt .u64,af.n⟩ (fun x y=>{x with n:=y}):=⟨rfl,fun _ _=>rfl,fun _ _=>⟨rfl,⟨rfl,(fun q hq=>by simp at hq)⟩⟩⟩
theorem kt117k:KT Tryz.prog 117 (kInt .u64):=⟨by kernel_rfl,by kernel_rfl⟩
theorem cL (F:Fz):Kd.rd (kArr 8 (kInt .u32)) F ((List.replicate 8 [.int .u32 0]).flatten) (List.replicate 8 (0:Int)):=⟨by simp,aH (K:=kInt .u32) rfl 8⟩
theorem ZT251:ZT Tryz.prog 251 (kArr 8 (kInt .u32)) (List.replicate 8 (0:Int)):=⟨(.agg (List.replicate 8 (.int .u32 0:Value)).toArray:Value),by kernel_rfl,fun F=>aI (by kernel_rfl) (cL F)⟩
theorem BTA251:BTA Tryz.prog 251 8 (kInt .u32) (List.replicate 8 (0:Int)):=⟨⟨Tryz.t251,(.agg (List.replicate 8 (.int .u32 0:Value)).toArray:Value),_,Tryz.t118,by kernel_rfl,by kernel_rfl,Tryz.underlying251,by kernel_rfl,by kernel_rfl,by simp,fun F=>di (by kernel_rfl) (cL F).2⟩⟩
theorem sz251k:(Tryz.prog.info? 251).map (·.size)=some (Kd.n (kArr 8 (kInt .u32))):=by kernel_rfl
theorem kt251:KT Tryz.prog 251 (kArr 8 (kInt .u32)):=⟨by kernel_rfl,by kernel_rfl⟩
theorem j0:fldB Tryz.prog 254 0=some (0,7+1):=by kernel_rfl
theorem ek:UpF cQ 0 ⟨kArr 8 (kInt .u32),af.words⟩ (fun x y=>{x with words:=y}):=⟨rfl,fun _ _=>rfl,fun _ _=>(by intro q hq;simp only[List.mem_cons,List.not_mem_nil,or_false] at hq;rcases hq with rfl|rfl<;>rfl)⟩
theorem lH:fldB Tryz.prog 254 1=some (8,63+1):=by kernel_rfl
theorem fK:UpF cQ 1 ⟨kArr 64 (kInt .u8),af.tail⟩ (fun x y=>{x with tail:=y}):=⟨rfl,fun _ _=>rfl,fun _ _=>⟨rfl,(by intro q hq;simp only[List.mem_cons,List.not_mem_nil,or_false] at hq;rcases hq with rfl<;>rfl)⟩⟩
theorem sz117k:(Tryz.prog.info? 117).map (·.size)=some (Kd.n (kInt .u64)):=by kernel_rfl
theorem sz5:(Tryz.prog.info? 5).map (·.size)=some (Kd.n (kInt .u8)):=by kernel_rfl
theorem kt251k:KT Tryz.prog 251 (kArr 8 (kInt .u32)):=⟨by kernel_rfl,by kernel_rfl⟩
theorem kt252k:KT Tryz.prog 252 (kArr 64 (kInt .u8)):=⟨by kernel_rfl,by kernel_rfl⟩
theorem d9 (F:Fz):Kd.rd (kArr 64 (kInt .u32)) F ((List.replicate 64 [.int .u32 0]).flatten) (List.replicate 64 (0:Int)):=⟨by simp,aH (K:=kInt .u32) rfl 64⟩
theorem ZT295:ZT Tryz.prog 295 (kArr 64 (kInt .u32)) (List.replicate 64 (0:Int)):=⟨(.agg (List.replicate 64 (.int .u32 0:Value)).toArray:Value),by kernel_rfl,fun F=>aI (by kernel_rfl) (d9 F)⟩
theorem kt5:KT Tryz.prog 5 (kInt .u8):=⟨by kernel_rfl,by kernel_rfl⟩
theorem sz118k:(Tryz.prog.info? 118).map (·.size)=some (Kd.n (kInt .u32)):=by kernel_rfl
theorem kt118k:KT Tryz.prog 118 (kInt .u32):=⟨by kernel_rfl,by kernel_rfl⟩
def glob0:List Int:=[1116352408,1899447441,3049323471,3921009573,961987163,1508970993,2453635748,2870763221,3624381080,310598401,607225278,1426881987,1925078388,2162078206,2614888103,3248222580,3835390401,4022224774,264347078,604807628,770255983,1249150122,1555081692,1996064986,2554220882,2821834349,2952996808,3210313671,3336571891,3584528711,113926993,338241895,666307205,773529912,1294757372,1396182291,1695183700,1986661051,2177026350,2456956037,2730485921,2820302411,3259730800,3345764771,3516065817,3600352804,4094571909,275423344,430227734,506948616,659060556,883997877,958139571,1322822218,1537002063,1747873779,1955562222,2024104815,2227730452,2361852424,2428436474,2756734187,3204031479,3329325298]
theorem sz118:(Tryz.prog.info? 118).map (·.size)=some (Kd.n (kInt .u32)):=by kernel_rfl
theorem kt118:KT Tryz.prog 118 (kInt .u32):=⟨by kernel_rfl,by kernel_rfl⟩
theorem kt254k:KT Tryz.prog 254 aB:=⟨by kernel_rfl,by kernel_rfl⟩
theorem fb254k:fldB Tryz.prog 254 0=some (offF cQ 0,7+1):=by kernel_rfl
theorem kt169:KT Tryz.prog 169 (kArr 32 (kInt .u8)):=⟨by kernel_rfl,by kernel_rfl⟩
theorem sz169k:(Tryz.prog.info? 169).map (·.size)=some (Kd.n (kArr 32 (kInt .u8))):=by kernel_rfl
theorem kt5k:KT Tryz.prog 5 (kInt .u8):=⟨by kernel_rfl,by kernel_rfl⟩
theorem eS {P:Program} {ops:Array Oper} {rest:List Oper} {Q:Exit→Act→World→Prop} {F0:Fz} {n:Nat} {E:List (Nat×SV)} {L:List Res} {o0 o1 o2:Oper} (d:Nat) (e:Bool) (k:Under F0 n ((d,.raw (.bool e))::E) L (wpList P ops Q rest)) (h:Under F0 n ((d,.raw (.bool e))::E) L (wpList P ops Q rest)→Under F0 n E L (wpList P ops Q (o0::o1::o2::rest))):Under F0 n E L (wpList P ops Q (o0::o1::o2::rest)):=h k
theorem oQ {P:Program} {ops:Array Oper} {rest:List Oper} {C:World→Prop} {Qa:Act→Prop} {F0:Fz} {n:Nat} {E:List (Nat×SV)} {o0 o1 o2:Oper} (d:Nat) (e:Bool) (k:aC F0 n ((d,.raw (.bool e))::E) (wpQuiet P ops C Qa rest)) (h:aC F0 n ((d,.raw (.bool e))::E) (wpQuiet P ops C Qa rest)→aC F0 n E (wpQuiet P ops C Qa (o0::o1::o2::rest))):aC F0 n E (wpQuiet P ops C Qa (o0::o1::o2::rest)):=h k
theorem fL (F:Fz):Kd.rd (kSl (kInt .u8)) F [.slice none 0 0] []:=⟨none,0,rfl,Nat.le_refl _,.inl rfl⟩
theorem ET24:ET Tryz.prog 24 (kSl (kInt .u8)) []:=⟨⟨Tryz.t24,(.slice none 0 0:Value),by kernel_rfl,by kernel_rfl,by kernel_rfl,by decide,fun F=>aI (by kernel_rfl) (fL F)⟩⟩
theorem AT24:AT Tryz.prog 24 (kSl (kInt .u8)) [] 24:=⟨⟨Tryz.t24,(.slice none 0 0:Value),by kernel_rfl,by kernel_rfl,by kernel_rfl,by kernel_rfl,by decide,by decide,fun F=>aI (by kernel_rfl) (fL F)⟩⟩
theorem j5 {P:Program} {ops:Array Oper} {rest:List Oper} {Q:Exit→Act→World→Prop} {F0:Fz} {n:Nat} {E:List (Nat×SV)} {L:List Res} {o0 o1 o2 o3 o4 o5:Oper} (d:Nat) (e:Bool) (k:Under F0 n ((d,.raw (.bool e))::E) L (wpList P ops Q rest)) (h:Under F0 n ((d,.raw (.bool e))::E) L (wpList P ops Q rest)→Under F0 n E L (wpList P ops Q (o0::o1::o2::o3::o4::o5::rest))):Under F0 n E L (wpList P ops Q (o0::o1::o2::o3::o4::o5::rest)):=h k
theorem oR {P:Program} {ops:Array Oper} {rest:List Oper} {C:World→Prop} {Qa:Act→Prop} {F0:Fz} {n:Nat} {E:List (Nat×SV)} {o0 o1 o2 o3 o4 o5:Oper} (d:Nat) (e:Bool) (k:aC F0 n ((d,.raw (.bool e))::E) (wpQuiet P ops C Qa rest)) (h:aC F0 n ((d,.raw (.bool e))::E) (wpQuiet P ops C Qa rest)→aC F0 n E (wpQuiet P ops C Qa (o0::o1::o2::o3::o4::o5::rest))):aC F0 n E (wpQuiet P ops C Qa (o0::o1::o2::o3::o4::o5::rest)):=h k
theorem sz108:(Tryz.prog.info? 108).map (·.size)=some (Kd.n (kArr 16 (kInt .u8))):=by kernel_rfl
theorem kt108:KT Tryz.prog 108 (kArr 16 (kInt .u8)):=⟨by kernel_rfl,by kernel_rfl⟩
theorem fT (F:Fz):Kd.rd aK F ([.slice none 0 0]++(List.replicate 16 [.int .u8 0]).flatten++[]) (⟨[],(List.replicate 16 (0:Int))⟩:ab):=⟨[.slice none 0 0],_,rfl,⟨none,0,rfl,Nat.le_refl _,.inl rfl⟩,⟨(List.replicate 16 [.int .u8 0]).flatten,_,rfl,⟨by simp,aH (K:=kInt .u8) rfl 16⟩,rfl⟩⟩
theorem ZT150:ZT Tryz.prog 150 aK (⟨[],(List.replicate 16 (0:Int))⟩:ab):=⟨(.agg (List.replicate 1 (.slice none 0 0:Value)++List.replicate 16 (.int .u8 0:Value)).toArray:Value),by kernel_rfl,fun F=>aI (by kernel_rfl) (fT F)⟩
theorem BT150:BT Tryz.prog 150 cV (⟨[],(List.replicate 16 (0:Int))⟩:ab):=⟨⟨Tryz.t150,(.agg (List.replicate 1 (.slice none 0 0:Value)++List.replicate 16 (.int .u8 0:Value)).toArray:Value),_,[(0,1),(1,16)],by kernel_rfl,by kernel_rfl,Tryz.underlying150,by kernel_rfl,fun i f h=>match i,f,h with
 |0,f,h=>by cases h;rfl
 |1,f,h=>by cases h;rfl
 |(_+2),f,h=>by simp[cV] at h,fun F=>fG (by kernel_rfl) (fT F)⟩⟩
theorem sz150k:(Tryz.prog.info? 150).map (·.size)=some (Kd.n aK):=by kernel_rfl
theorem kt150:KT Tryz.prog 150 aK:=⟨by kernel_rfl,by kernel_rfl⟩
theorem dg (F:Fz):Kd.rd (kArr 16 (kInt .u8)) F ((List.replicate 16 [.int .u8 0]).flatten) (List.replicate 16 (0:Int)):=⟨by simp,aH (K:=kInt .u8) rfl 16⟩
theorem ZT108:ZT Tryz.prog 108 (kArr 16 (kInt .u8)) (List.replicate 16 (0:Int)):=⟨(.agg (List.replicate 16 (.int .u8 0:Value)).toArray:Value),by kernel_rfl,fun F=>aI (by kernel_rfl) (dg F)⟩
theorem sz108k:(Tryz.prog.info? 108).map (·.size)=some (Kd.n (kArr 16 (kInt .u8))):=by kernel_rfl
theorem fc (F:Fz):Kd.rd av F ((List.replicate 16 [.int .u8 0]).flatten++(List.replicate 32 [.int .u8 0]).flatten++(List.replicate 32 [.int .u8 0]).flatten++[]) (⟨(List.replicate 16 (0:Int)),(List.replicate 32 (0:Int)),(List.replicate 32 (0:Int))⟩:ae):=⟨(List.replicate 16 [.int .u8 0]).flatten,_,rfl,⟨by simp,aH (K:=kInt .u8) rfl 16⟩,⟨(List.replicate 32 [.int .u8 0]).flatten,_,rfl,⟨by simp,aH (K:=kInt .u8) rfl 32⟩,⟨(List.replicate 32 [.int .u8 0]).flatten,_,rfl,⟨by simp,aH (K:=kInt .u8) rfl 32⟩,rfl⟩⟩⟩
theorem ZT176:ZT Tryz.prog 176 av (⟨(List.replicate 16 (0:Int)),(List.replicate 32 (0:Int)),(List.replicate 32 (0:Int))⟩:ae):=⟨(.agg (List.replicate 80 (.int .u8 0:Value)).toArray:Value),by kernel_rfl,fun F=>aI (by kernel_rfl) (fc F)⟩
theorem BT176:BT Tryz.prog 176 aT (⟨(List.replicate 16 (0:Int)),(List.replicate 32 (0:Int)),(List.replicate 32 (0:Int))⟩:ae):=⟨⟨Tryz.t176,(.agg (List.replicate 80 (.int .u8 0:Value)).toArray:Value),_,[(0,16),(16,32),(48,32)],by kernel_rfl,by kernel_rfl,Tryz.underlying176,by kernel_rfl,fun i f h=>match i,f,h with
 |0,f,h=>by cases h;rfl
 |1,f,h=>by cases h;rfl
 |2,f,h=>by cases h;rfl
 |(_+3),f,h=>by simp[aT] at h,fun F=>fG (by kernel_rfl) (fc F)⟩⟩
theorem sz176k:(Tryz.prog.info? 176).map (·.size)=some (Kd.n av):=by kernel_rfl
theorem kt176:KT Tryz.prog 176 av:=⟨by kernel_rfl,by kernel_rfl⟩
theorem fb176k:fldB Tryz.prog 176 1=some (offF aT 1,31+1):=by kernel_rfl
theorem fb176k1:fldB Tryz.prog 176 0=some (offF aT 0,15+1):=by kernel_rfl
theorem BTA108:BTA Tryz.prog 108 16 (kInt .u8) (List.replicate 16 (0:Int)):=⟨⟨Tryz.t108,(.agg (List.replicate 16 (.int .u8 0:Value)).toArray:Value),_,Tryz.t5,by kernel_rfl,by kernel_rfl,Tryz.underlying108,by kernel_rfl,by kernel_rfl,by simp,fun F=>di (by kernel_rfl) (dg F).2⟩⟩
theorem gw (F:Fz):Kd.rd ah F ((List.replicate 11 ((List.replicate 16 [.int .u8 0]).flatten)).flatten++[]) (⟨(List.replicate 11 (List.replicate 16 (0:Int)))⟩:ak):=⟨(List.replicate 11 ((List.replicate 16 [.int .u8 0]).flatten)).flatten,_,rfl,⟨by simp,aH (K:=kArr 16 (kInt .u8)) (⟨by simp,aH (K:=kInt .u8) rfl 16⟩) 11⟩,rfl⟩
theorem ZT212:ZT Tryz.prog 212 ah (⟨(List.replicate 11 (List.replicate 16 (0:Int)))⟩:ak):=⟨(.agg (List.replicate 176 (.int .u8 0:Value)).toArray:Value),by kernel_rfl,fun F=>aI (by kernel_rfl) (gw F)⟩
theorem eJ (F:Fz):Kd.rd (kArr 44 (kArr 4 (kInt .u8))) F ((List.replicate 44 ((List.replicate 4 [.int .u8 0]).flatten)).flatten) (List.replicate 44 (List.replicate 4 (0:Int))):=⟨by simp,aH (K:=kArr 4 (kInt .u8)) (⟨by simp,aH (K:=kInt .u8) rfl 4⟩) 44⟩
theorem ZT261:ZT Tryz.prog 261 (kArr 44 (kArr 4 (kInt .u8))) (List.replicate 44 (List.replicate 4 (0:Int))):=⟨(.agg (List.replicate 176 (.int .u8 0:Value)).toArray:Value),by kernel_rfl,fun F=>aI (by kernel_rfl) (eJ F)⟩
theorem sz260k:(Tryz.prog.info? 260).map (·.size)=some (Kd.n (kArr 4 (kInt .u8))):=by kernel_rfl
theorem kt260k:KT Tryz.prog 260 (kArr 4 (kInt .u8)):=⟨by kernel_rfl,by kernel_rfl⟩
theorem eR (F:Fz):Kd.rd (kArr 4 (kInt .u8)) F ((List.replicate 4 [.int .u8 0]).flatten) (List.replicate 4 (0:Int)):=⟨by simp,aH (K:=kInt .u8) rfl 4⟩
theorem ZT260:ZT Tryz.prog 260 (kArr 4 (kInt .u8)) (List.replicate 4 (0:Int)):=⟨(.agg #[.int .u8 0,.int .u8 0,.int .u8 0,.int .u8 0]:Value),by kernel_rfl,fun F=>aI (by kernel_rfl) (eR F)⟩
theorem BTA260:BTA Tryz.prog 260 4 (kInt .u8) (List.replicate 4 (0:Int)):=⟨⟨Tryz.t260,(.agg #[.int .u8 0,.int .u8 0,.int .u8 0,.int .u8 0]:Value),_,Tryz.t5,by kernel_rfl,by kernel_rfl,Tryz.underlying260,by kernel_rfl,by kernel_rfl,by simp,fun F=>di (by kernel_rfl) (eR F).2⟩⟩
theorem kt261:KT Tryz.prog 261 (kArr 44 (kArr 4 (kInt .u8))):=⟨by kernel_rfl,by kernel_rfl⟩
theorem kt260:KT Tryz.prog 260 (kArr 4 (kInt .u8)):=⟨by kernel_rfl,by kernel_rfl⟩
theorem nV:fldB Tryz.prog 212 0=some (0,175+1):=by kernel_rfl
theorem ea:UpF dO 0 ⟨kArr 11 (kArr 16 (kInt .u8)),ak.keys⟩ (fun x y=>{x with keys:=y}):=⟨rfl,fun _ _=>rfl,fun _ _=>(fun q hq=>by simp at hq)⟩
theorem sz209k:(Tryz.prog.info? 209).map (·.size)=some (Kd.n (kArr 16 (kInt .u8))):=by kernel_rfl
theorem kt212:KT Tryz.prog 212 ah:=⟨by kernel_rfl,by kernel_rfl⟩
theorem sz212k:(Tryz.prog.info? 212).map (·.size)=some (Kd.n ah):=by kernel_rfl
theorem fR (F:Fz):Kd.rd (kArr 256 (kInt .u8)) F ((List.replicate 256 [.int .u8 0]).flatten) (List.replicate 256 (0:Int)):=⟨by simp,aH (K:=kInt .u8) rfl 256⟩
theorem ZT215:ZT Tryz.prog 215 (kArr 256 (kInt .u8)) (List.replicate 256 (0:Int)):=⟨(.agg (List.replicate 256 (.int .u8 0:Value)).toArray:Value),by kernel_rfl,fun F=>aI (by kernel_rfl) (fR F)⟩
theorem kt108k:KT Tryz.prog 108 (kArr 16 (kInt .u8)):=⟨by kernel_rfl,by kernel_rfl⟩
theorem fb212k:fldB Tryz.prog 212 0=some (offF dO 0,175+1):=by kernel_rfl
theorem sz209:(Tryz.prog.info? 209).map (·.size)=some (Kd.n (kArr 16 (kInt .u8))):=by kernel_rfl
theorem kt209:KT Tryz.prog 209 (kArr 16 (kInt .u8)):=⟨by kernel_rfl,by kernel_rfl⟩
theorem ZT209:ZT Tryz.prog 209 (kArr 16 (kInt .u8)) (List.replicate 16 (0:Int)):=⟨(.agg (List.replicate 16 (.int .u8 0:Value)).toArray:Value),by kernel_rfl,fun F=>aI (by kernel_rfl) (dg F)⟩
theorem kt209k:KT Tryz.prog 209 (kArr 16 (kInt .u8)):=⟨by kernel_rfl,by kernel_rfl⟩
theorem fb176k2:fldB Tryz.prog 176 2=some (offF aT 2,31+1):=by kernel_rfl
theorem ii:fldB Tryz.prog 150 0=some (0,0+1):=by kernel_rfl
theorem dc:UpF cV 0 ⟨kSl (kInt .u8),ab.Cell⟩ (fun x y=>{x with Cell:=y}):=⟨rfl,fun _ _=>rfl,fun _ _=>(by intro q hq;simp only[List.mem_cons,List.not_mem_nil,or_false] at hq;rcases hq with rfl<;>rfl)⟩
theorem sz24k:(Tryz.prog.info? 24).map (·.size)=some (Kd.n (kSl (kInt .u8))):=by kernel_rfl
theorem fb150k:fldB Tryz.prog 150 0=some (offF cV 0,0+1):=by kernel_rfl
theorem oy {P:Program} {ops:Array Oper} {rest:List Oper} {Q:Exit→Act→World→Prop} {F0:Fz} {n:Nat} {E:List (Nat×SV)} {L:List Res} {o0 o1 o2 o3 o4 o5 o6 o7:Oper} (d:Nat) (e:Bool) (k:Under F0 n ((d,.raw (.bool e))::E) L (wpList P ops Q rest)) (h:Under F0 n ((d,.raw (.bool e))::E) L (wpList P ops Q rest)→Under F0 n E L (wpList P ops Q (o0::o1::o2::o3::o4::o5::o6::o7::rest))):Under F0 n E L (wpList P ops Q (o0::o1::o2::o3::o4::o5::o6::o7::rest)):=h k
theorem oT {P:Program} {ops:Array Oper} {rest:List Oper} {C:World→Prop} {Qa:Act→Prop} {F0:Fz} {n:Nat} {E:List (Nat×SV)} {o0 o1 o2 o3 o4 o5 o6 o7:Oper} (d:Nat) (e:Bool) (k:aC F0 n ((d,.raw (.bool e))::E) (wpQuiet P ops C Qa rest)) (h:aC F0 n ((d,.raw (.bool e))::E) (wpQuiet P ops C Qa rest)→aC F0 n E (wpQuiet P ops C Qa (o0::o1::o2::o3::o4::o5::o6::o7::rest))):aC F0 n E (wpQuiet P ops C Qa (o0::o1::o2::o3::o4::o5::o6::o7::rest)):=h k
theorem gx (F:Fz):Kd.rd (kArr 8 (kInt .u8)) F ((List.replicate 8 [.int .u8 0]).flatten) (List.replicate 8 (0:Int)):=⟨by simp,aH (K:=kInt .u8) rfl 8⟩
theorem BTA44:BTA Tryz.prog 44 8 (kInt .u8) (List.replicate 8 (0:Int)):=⟨⟨Tryz.t44,(.agg (List.replicate 8 (.int .u8 0:Value)).toArray:Value),_,Tryz.t5,by kernel_rfl,by kernel_rfl,Tryz.underlying44,by kernel_rfl,by kernel_rfl,by simp,fun F=>di (by kernel_rfl) (gx F).2⟩⟩
theorem kt44:KT Tryz.prog 44 (kArr 8 (kInt .u8)):=⟨by kernel_rfl,by kernel_rfl⟩
theorem fb46k:fldB Tryz.prog 46 0=some (offF cm 0,0+1):=by kernel_rfl
theorem kt22:KT Tryz.prog 22 (kSl (kSl (kInt .u8))):=⟨by kernel_rfl,by kernel_rfl⟩
theorem fb46k1:fldB Tryz.prog 46 1=some (offF cm 1,0+1):=by kernel_rfl
theorem kt2:KT Tryz.prog 2 (kInt .i64):=⟨by kernel_rfl,by kernel_rfl⟩
theorem fb46k2:fldB Tryz.prog 46 2=some (offF cm 2,0+1):=by kernel_rfl
theorem kt23:KT Tryz.prog 23 (kSl (kArr 16 (kInt .u8))):=⟨by kernel_rfl,by kernel_rfl⟩
theorem BTA250:BTA Tryz.prog 250 8 (kInt .u32) (List.replicate 8 (0:Int)):=⟨⟨Tryz.t250,(.agg (List.replicate 8 (.int .u32 0:Value)).toArray:Value),_,Tryz.t118,by kernel_rfl,by kernel_rfl,Tryz.underlying250,by kernel_rfl,by kernel_rfl,by simp,fun F=>di (by kernel_rfl) (cL F).2⟩⟩
theorem ZT250:ZT Tryz.prog 250 (kArr 8 (kInt .u32)) (List.replicate 8 (0:Int)):=⟨(.agg (List.replicate 8 (.int .u32 0:Value)).toArray:Value),by kernel_rfl,fun F=>aI (by kernel_rfl) (cL F)⟩
theorem sz250k:(Tryz.prog.info? 250).map (·.size)=some (Kd.n (kArr 8 (kInt .u32))):=by kernel_rfl
theorem BTA295:BTA Tryz.prog 295 64 (kInt .u32) (List.replicate 64 (0:Int)):=⟨⟨Tryz.t295,(.agg (List.replicate 64 (.int .u32 0:Value)).toArray:Value),_,Tryz.t118,by kernel_rfl,by kernel_rfl,Tryz.underlying295,by kernel_rfl,by kernel_rfl,by simp,fun F=>di (by kernel_rfl) (d9 F).2⟩⟩
theorem sz295k:(Tryz.prog.info? 295).map (·.size)=some (Kd.n (kArr 64 (kInt .u32))):=by kernel_rfl
theorem kt295:KT Tryz.prog 295 (kArr 64 (kInt .u32)):=⟨by kernel_rfl,by kernel_rfl⟩
theorem kt250k:KT Tryz.prog 250 (kArr 8 (kInt .u32)):=⟨by kernel_rfl,by kernel_rfl⟩
theorem kt250:KT Tryz.prog 250 (kArr 8 (kInt .u32)):=⟨by kernel_rfl,by kernel_rfl⟩
theorem nW:fldB Tryz.prog 176 0=some (0,15+1):=by kernel_rfl
theorem el:UpF aT 0 ⟨kArr 16 (kInt .u8),ae.Box⟩ (fun x y=>{x with Box:=y}):=⟨rfl,fun _ _=>rfl,fun _ _=>(by intro q hq;simp only[List.mem_cons,List.not_mem_nil,or_false] at hq;rcases hq with rfl|rfl<;>rfl)⟩
theorem nX:fldB Tryz.prog 176 1=some (16,31+1):=by kernel_rfl
theorem ep:UpF aT 1 ⟨kArr 32 (kInt .u8),ae.Mac⟩ (fun x y=>{x with Mac:=y}):=⟨rfl,fun _ _=>rfl,fun _ _=>⟨rfl,(by intro q hq;simp only[List.mem_cons,List.not_mem_nil,or_false] at hq;rcases hq with rfl<;>rfl)⟩⟩
theorem nY:fldB Tryz.prog 176 2=some (48,31+1):=by kernel_rfl
theorem et:UpF aT 2 ⟨kArr 32 (kInt .u8),ae.Replay⟩ (fun x y=>{x with Replay:=y}):=⟨rfl,fun _ _=>rfl,fun _ _=>⟨rfl,⟨rfl,(fun q hq=>by simp at hq)⟩⟩⟩
theorem eqk5:EqK Tryz.prog 5 (kInt .u8) 1:=EqK.int Tryz.underlying5
theorem eqk108:EqK Tryz.prog 108 (kArr 16 (kInt .u8)) 2:=EqK.arr eqk5 kt5 Tryz.underlying108
theorem eqg108:Tryz.prog.eqGuardType Tryz.prog.depth 108=false:=by kernel_rfl
theorem fS (F:Fz):Kd.rd (kArr 176 (kInt .u8)) F ((List.replicate 176 [.int .u8 0]).flatten) (List.replicate 176 (0:Int)):=⟨by simp,aH (K:=kInt .u8) rfl 176⟩
theorem ZT247:ZT Tryz.prog 247 (kArr 176 (kInt .u8)) (List.replicate 176 (0:Int)):=⟨(.agg (List.replicate 176 (.int .u8 0:Value)).toArray:Value),by kernel_rfl,fun F=>aI (by kernel_rfl) (fS F)⟩
abbrev str0:ByteArray:=⟨#[99,124,119,123,242,107,111,197,48,1,103,43,254,215,171,118,202,130,201,125,250,89,71,240,173,212,162,175,156,164,114,192,183,253,147,38,54,63,247,204,52,165,229,241,113,216,49,21,4,199,35,195,24,150,5,154,7,18,128,226,235,39,178,117,9,131,44,26,27,110,90,160,82,59,214,179,41,227,47,132,83,209,0,237,32,252,177,91,106,203,190,57,74,76,88,207,208,239,170,251,67,77,51,133,69,249,2,127,80,60,159,168,81,163,64,143,146,157,56,245,188,182,218,33,16,255,243,210,205,12,19,236,95,151,68,23,196,167,126,61,100,93,25,115,96,129,79,220,34,42,144,136,70,238,184,20,222,94,11,219,224,50,58,10,73,6,36,92,194,211,172,98,145,149,228,121,231,200,55,109,141,213,78,169,108,86,244,234,101,122,174,8,186,120,37,46,28,166,180,198,232,221,116,31,75,189,139,138,112,62,181,102,72,3,246,14,97,53,87,185,134,193,29,158,225,248,152,17,105,217,142,148,155,30,135,233,206,85,40,223,140,161,137,13,191,230,66,104,65,153,45,15,176,84,187,22]⟩
theorem gy:rdOf (.raw (.string str0)) kStr [99,124,119,123,242,107,111,197,48,1,103,43,254,215,171,118,202,130,201,125,250,89,71,240,173,212,162,175,156,164,114,192,183,253,147,38,54,63,247,204,52,165,229,241,113,216,49,21,4,199,35,195,24,150,5,154,7,18,128,226,235,39,178,117,9,131,44,26,27,110,90,160,82,59,214,179,41,227,47,132,83,209,0,237,32,252,177,91,106,203,190,57,74,76,88,207,208,239,170,251,67,77,51,133,69,249,2,127,80,60,159,168,81,163,64,143,146,157,56,245,188,182,218,33,16,255,243,210,205,12,19,236,95,151,68,23,196,167,126,61,100,93,25,115,96,129,79,220,34,42,144,136,70,238,184,20,222,94,11,219,224,50,58,10,73,6,36,92,194,211,172,98,145,149,228,121,231,200,55,109,141,213,78,169,108,86,244,234,101,122,174,8,186,120,37,46,28,166,180,198,232,221,116,31,75,189,139,138,112,62,181,102,72,3,246,14,97,53,87,185,134,193,29,158,225,248,152,17,105,217,142,148,155,30,135,233,206,85,40,223,140,161,137,13,191,230,66,104,65,153,45,15,176,84,187,22]:=rdS (by kernel_rfl)
def c6:List Int:=[99,124,119,123,242,107,111,197,48,1,103,43,254,215,171,118,202,130,201,125,250,89,71,240,173,212,162,175,156,164,114,192,183,253,147,38,54,63,247,204,52,165,229,241,113,216,49,21,4,199,35,195,24,150,5,154,7,18,128,226,235,39,178,117,9,131,44,26,27,110,90,160,82,59,214,179,41,227,47,132,83,209,0,237,32,252,177,91,106,203,190,57,74,76,88,207,208,239,170,251,67,77,51,133,69,249,2,127,80,60,159,168,81,163,64,143,146,157,56,245,188,182,218,33,16,255,243,210,205,12,19,236,95,151,68,23,196,167,126,61,100,93,25,115,96,129,79,220,34,42,144,136,70,238,184,20,222,94,11,219,224,50,58,10,73,6,36,92,194,211,172,98,145,149,228,121,231,200,55,109,141,213,78,169,108,86,244,234,101,122,174,8,186,120,37,46,28,166,180,198,232,221,116,31,75,189,139,138,112,62,181,102,72,3,246,14,97,53,87,185,134,193,29,158,225,248,152,17,105,217,142,148,155,30,135,233,206,85,40,223,140,161,137,13,191,230,66,104,65,153,45,15,176,84,187,22]
theorem kt247:KT Tryz.prog 247 (kArr 176 (kInt .u8)):=⟨by kernel_rfl,by kernel_rfl⟩
theorem sz247k:(Tryz.prog.info? 247).map (·.size)=some (Kd.n (kArr 176 (kInt .u8))):=by kernel_rfl
theorem nZ:fldB Tryz.prog 150 1=some (1,15+1):=by kernel_rfl
theorem g9:UpF cV 1 ⟨kArr 16 (kInt .u8),ab.Replay⟩ (fun x y=>{x with Replay:=y}):=⟨rfl,fun _ _=>rfl,fun _ _=>⟨rfl,(fun q hq=>by simp at hq)⟩⟩
theorem oz {P:Program} {ops:Array Oper} {rest:List Oper} {Q:Exit→Act→World→Prop} {F0:Fz} {n:Nat} {E:List (Nat×SV)} {L:List Res} {o0 o1 o2 o3 o4:Oper} (d:Nat) (e:Bool) (k:Under F0 n ((d,.raw (.bool e))::E) L (wpList P ops Q rest)) (h:Under F0 n ((d,.raw (.bool e))::E) L (wpList P ops Q rest)→Under F0 n E L (wpList P ops Q (o0::o1::o2::o3::o4::rest))):Under F0 n E L (wpList P ops Q (o0::o1::o2::o3::o4::rest)):=h k
theorem oU {P:Program} {ops:Array Oper} {rest:List Oper} {C:World→Prop} {Qa:Act→Prop} {F0:Fz} {n:Nat} {E:List (Nat×SV)} {o0 o1 o2 o3 o4:Oper} (d:Nat) (e:Bool) (k:aC F0 n ((d,.raw (.bool e))::E) (wpQuiet P ops C Qa rest)) (h:aC F0 n ((d,.raw (.bool e))::E) (wpQuiet P ops C Qa rest)→aC F0 n E (wpQuiet P ops C Qa (o0::o1::o2::o3::o4::rest))):aC F0 n E (wpQuiet P ops C Qa (o0::o1::o2::o3::o4::rest)):=h k
theorem rw5:RdW Tryz.prog 5 (kInt .u8) (gInt .u8) bOne:=m7 Tryz.underlying5
theorem cof5:Tryz.prog.cellsOf 5=1:=by kernel_rfl
theorem rw24:RdW Tryz.prog 24 (kSl (kInt .u8)) (gSl (gInt .u8)) (bSl bOne):=m8 (K:=kInt .u8) Tryz.underlying24 cof5 (by decide) rw5
theorem cof24:Tryz.prog.cellsOf 24=1:=by kernel_rfl
theorem rw22:RdW Tryz.prog 22 (kSl (kSl (kInt .u8))) (gSl (gSl (gInt .u8))) (bSl (bSl bOne)):=m8 (K:=kSl (kInt .u8)) Tryz.underlying22 cof24 (by decide) rw24
theorem rw2:RdW Tryz.prog 2 (kInt .i64) (gInt .i64) bOne:=m7 Tryz.underlying2
theorem cof108:Tryz.prog.cellsOf 108=16:=by kernel_rfl
theorem rw108:RdW Tryz.prog 108 (kArr 16 (kInt .u8)) (gArr 16 (gInt .u8)) (bArr bOne):=m9 (K:=kInt .u8) Tryz.underlying108 cof108 cof5 rw5
theorem rw23:RdW Tryz.prog 23 (kSl (kArr 16 (kInt .u8))) (gSl (gArr 16 (gInt .u8))) (bSl (bArr bOne)):=m8 (K:=kArr 16 (kInt .u8)) Tryz.underlying23 cof108 (by decide) rw108
theorem cof44:Tryz.prog.cellsOf 44=8:=by kernel_rfl
theorem rw44:RdW Tryz.prog 44 (kArr 8 (kInt .u8)) (gArr 8 (gInt .u8)) (bArr bOne):=m9 (K:=kInt .u8) Tryz.underlying44 cof44 cof5 rw5
theorem cof22:Tryz.prog.cellsOf 22=1:=by kernel_rfl
theorem cof2:Tryz.prog.cellsOf 2=1:=by kernel_rfl
theorem cof23:Tryz.prog.cellsOf 23=1:=by kernel_rfl
theorem cof46:Tryz.prog.cellsOf 46=12:=by kernel_rfl
def c9 (x:az):Prop:=(gSl (gSl (gInt .u8))) x.Masters∧(gInt .i64) x.Epoch∧(gSl (gArr 16 (gInt .u8))) x.Nonces∧(gArr 8 (gInt .u8)) x.Name∧(gSl (gInt .u8)) x.Message∧True
def bK (x:az):Nat:=(bSl (bSl bOne)) x.Masters+(bOne x.Epoch+((bSl (bArr bOne)) x.Nonces+((bArr bOne) x.Name+((bSl bOne) x.Message+0))))
theorem rw46:RdW Tryz.prog 46 bY c9 bK:=by
 intro H enc W _ B BA hB fuel cs x h
 obtain⟨hl,ds,hx,hf0⟩:=nM Tryz.underlying46 h
 obtain⟨d0,ds0,e0,⟨n0,p0,t0⟩,hf1⟩:=FsRd.cons hf0
 subst e0
 obtain⟨y0,r0,g0,b0⟩:=rw22 hB t0
 obtain⟨d1,ds1,e1,⟨n1,p1,t1⟩,hf2⟩:=FsRd.cons hf1
 subst e1
 obtain⟨y1,r1,g1,b1⟩:=rw2 hB t1
 obtain⟨d2,ds2,e2,⟨n2,p2,t2⟩,hf3⟩:=FsRd.cons hf2
 subst e2
 obtain⟨y2,r2,g2,b2⟩:=rw23 hB t2
 obtain⟨d3,ds3,e3,⟨n3,p3,t3⟩,hf4⟩:=FsRd.cons hf3
 subst e3
 obtain⟨y3,r3,g3,b3⟩:=rw44 hB t3
 obtain⟨d4,ds4,e4,⟨n4,p4,t4⟩,hf5⟩:=FsRd.cons hf4
 subst e4
 obtain⟨y4,r4,g4,b4⟩:=rw24 hB t4
 have hnil:=FsRd.nil hf5
 subst hnil
 refine⟨⟨y0,y1,y2,y3,y4⟩,md (fJ cof22 r0 (fJ cof2 r1 (fJ cof23 r2 (fJ cof44 r3 (fJ cof24 r4 (nN (hl.trans cof46) rfl)))))),⟨g0,g1,g2,g3,g4,trivial⟩,?_⟩
 have:=hB.agg [d0,d1,d2,d3,d4]
 rw[hx]
 dsimp only at b0 b1 b2 b3 b4
 simp only[hB.cons,hB.nil] at this
 simp only[bK];omega
theorem kt46:KT Tryz.prog 46 bY:=⟨by kernel_rfl,by kernel_rfl⟩
abbrev K0:=(kSl (kArr 16 (kInt .u8)))
abbrev K1:=(kSl (kSl (kInt .u8)))
abbrev K2:=(kArr 64 (kInt .u32))
abbrev K3:=(kArr 176 (kInt .u8))
abbrev K4:=(kArr 8 (kInt .u32))
abbrev K5:=(kArr 32 (kInt .u8))
abbrev K6:=(kArr 16 (kInt .u8))
abbrev K7:=(kArr 4 (kInt .u8))
abbrev K8:=(kSl (kInt .u8))
abbrev K9:=(kInt .u32)
abbrev K10:=(kInt .u8)
end Go.Proofs.YtdkfkpbijdimkaaGreatDoor

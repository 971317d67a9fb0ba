import Derived.Test.YtdkfkpbijdimkaaGreatDoorSimD
import Derived.Test.YtdkfkpbijdimkaaGreatDoorRows
set_option linter.unusedVariables false
set_option linter.unusedSimpArgs false
set_option maxRecDepth 20000
namespace Go.Proofs.YtdkfkpbijdimkaaGreatDoor
open Go Go.Sim Go.ChangeShapes Go.WideShapes Go.ChangeAt Go.RowKit
set_option linter.unusedSectionVars false
variable [Fu]
structure cW where
 Round:Int
 Epoch:Int
 Left:Int
abbrev jA:List (Fld cW):=[⟨kInt .i64,cW.Round⟩,⟨kInt .i64,cW.Epoch⟩,⟨kInt .i64,cW.Left⟩]
abbrev gJ:Kd cW:=kSt jA
structure fC where
 Header:cW
 Cells:List (List Int)
abbrev ke:List (Fld fC):=[⟨gJ,fC.Header⟩,⟨kSl (kSl (kInt .u8)),fC.Cells⟩]
abbrev nH:Kd fC:=kSt ke
structure dn where
 Header:cW
 Count:Int
 From:List Int
 Nonces:List (List Int)
abbrev jB:List (Fld dn):=[⟨gJ,dn.Header⟩,⟨kInt .i64,dn.Count⟩,⟨kSl (kInt .i64),dn.From⟩,⟨kSl (kArr 16 (kInt .u8)),dn.Nonces⟩]
abbrev ni:Kd dn:=kSt jB
structure eK where
 Noise:List Int
 Braid:List Int
 Chunks:List (List Int)
abbrev kg:List (Fld eK):=[⟨kSl (kInt .u8),eK.Noise⟩,⟨kSl (kInt .u8),eK.Braid⟩,⟨kSl (kSl (kInt .u8)),eK.Chunks⟩]
abbrev nI:Kd eK:=kSt kg
structure eL where
 Number:Int
 Tags:List (List Int)
abbrev kh:List (Fld eL):=[⟨kInt .i64,eL.Number⟩,⟨kSl (kArr 16 (kInt .u8)),eL.Tags⟩]
abbrev kF:Kd eL:=kSt kh
structure dW where
 Newest:Int
 Epochs:List eL
abbrev jC:List (Fld dW):=[⟨kInt .i64,dW.Newest⟩,⟨kSl kF,dW.Epochs⟩]
abbrev ki:Kd dW:=kSt jC
structure ay where
 Masters:List (List Int)
 Epoch:Int
 Nonces:List (List Int)
 Name:List Int
 Message:List Int
abbrev aW:List (Fld ay):=[⟨kSl (kSl (kInt .u8)),ay.Masters⟩,⟨kInt .i64,ay.Epoch⟩,⟨kSl (kArr 16 (kInt .u8)),ay.Nonces⟩,⟨kArr 8 (kInt .u8),ay.Name⟩,⟨kSl (kInt .u8),ay.Message⟩]
abbrev bQ:Kd ay:=kSt aW
structure aL where
 Master:List Int
 Left:Int
 Span:Int
 Room:Int
 Num:Int
 Den:Int
 Noise:Int
 Chunks:Int
 Workers:Int
 Cap:Int
 Shards:Int
abbrev jD:List (Fld aL):=[⟨kSl (kInt .u8),aL.Master⟩,⟨kInt .i64,aL.Left⟩,⟨kInt .i64,aL.Span⟩,⟨kInt .i64,aL.Room⟩,⟨kInt .i64,aL.Num⟩,⟨kInt .i64,aL.Den⟩,⟨kInt .i64,aL.Noise⟩,⟨kInt .i64,aL.Chunks⟩,⟨kInt .i64,aL.Workers⟩,⟨kInt .i64,aL.Cap⟩,⟨kInt .i64,aL.Shards⟩]
abbrev gL:Kd aL:=kSt jD
structure eM where
 Next:Int
 Window:dW
abbrev kj:List (Fld eM):=[⟨kInt .i64,eM.Next⟩,⟨ki,eM.Window⟩]
abbrev kI:Kd eM:=kSt kj
structure cF where
 In:Int
 Malformed:Int
 Replays:Int
 Noise:Int
 Out:Int
abbrev jE:List (Fld cF):=[⟨kInt .i64,cF.In⟩,⟨kInt .i64,cF.Malformed⟩,⟨kInt .i64,cF.Replays⟩,⟨kInt .i64,cF.Noise⟩,⟨kInt .i64,cF.Out⟩]
abbrev kl:Kd cF:=kSt jE
structure bW where
 Out:List Int
 State:eM
 Report:cF
 Err:Int
 At:Int
abbrev iR:List (Fld bW):=[⟨kSl (kInt .u8),bW.Out⟩,⟨kI,bW.State⟩,⟨kl,bW.Report⟩,⟨kInt .i64,bW.Err⟩,⟨kInt .i64,bW.At⟩]
abbrev f9:Kd bW:=kSt iR
structure ae where
 words:List Int
 tail:List Int
 n:Int
abbrev cI:List (Fld ae):=[⟨kArr 8 (kInt .u32),ae.words⟩,⟨kArr 64 (kInt .u8),ae.tail⟩,⟨kInt .u64,ae.n⟩]
abbrev aA:Kd ae:=kSt cI
structure am where
 Cell:List Int
 Replay:List Int
abbrev db:List (Fld am):=[⟨kSl (kInt .u8),am.Cell⟩,⟨kArr 16 (kInt .u8),am.Replay⟩]
abbrev cq:Kd am:=kSt db
structure ab where
 Box:List Int
 Mac:List Int
 Replay:List Int
abbrev aQ:List (Fld ab):=[⟨kArr 16 (kInt .u8),ab.Box⟩,⟨kArr 32 (kInt .u8),ab.Mac⟩,⟨kArr 32 (kInt .u8),ab.Replay⟩]
abbrev az:Kd ab:=kSt aQ
structure aj where
 keys:List (List Int)
abbrev dp:List (Fld aj):=[⟨kArr 11 (kArr 16 (kInt .u8)),aj.keys⟩]
abbrev af:Kd aj:=kSt dp
theorem dX {P:Program} {ops:Array Oper} {rest:List Oper} {Q:Exit→Act→World→Prop} {F0:Fz} {n:Nat} {E:List (Nat×SV)} {L:List Res} {o0 o1 o2 o3:Oper} (d:Nat) (e:Bool) (k:Under F0 n ((d,.raw (.bool e))::E) L (wpList P ops Q rest)) (h:Under F0 n ((d,.raw (.bool e))::E) L (wpList P ops Q rest)→Under F0 n E L (wpList P ops Q (o0::o1::o2::o3::rest))):Under F0 n E L (wpList P ops Q (o0::o1::o2::o3::rest)):=h k
theorem nQ {P:Program} {ops:Array Oper} {rest:List Oper} {C:World→Prop} {Qa:Act→Prop} {F0:Fz} {n:Nat} {E:List (Nat×SV)} {o0 o1 o2 o3:Oper} (d:Nat) (e:Bool) (k:aC F0 n ((d,.raw (.bool e))::E) (wpQuiet P ops C Qa rest)) (h:aC F0 n ((d,.raw (.bool e))::E) (wpQuiet P ops C Qa rest)→aC F0 n E (wpQuiet P ops C Qa (o0::o1::o2::o3::rest))):aC F0 n E (wpQuiet P ops C Qa (o0::o1::o2::o3::rest)):=h k
theorem sz24:(Tryz.prog.info? 24).map (·.size)=some (Kd.n (kSl (kInt .u8))):=by kernel_rfl
theorem kt24:KT Tryz.prog 24 (kSl (kInt .u8)):=⟨by kernel_rfl,by kernel_rfl⟩
theorem ji (F:Fz):Kd.rd (kInt .u8) F [.int .u8 0] (0:Int):=rfl
theorem AT5:AT Tryz.prog 5 (kInt .u8) (0:Int) 1:=⟨⟨Tryz.t5,(.int .u8 0:Value),by kernel_rfl,by kernel_rfl,by kernel_rfl,by kernel_rfl,by decide,by decide,fun F=>aH (by kernel_rfl) (ji F)⟩⟩
theorem sz5k:(Tryz.prog.info? 5).map (·.size)=some (Kd.n (kInt .u8)):=by kernel_rfl
theorem ET5:ET Tryz.prog 5 (kInt .u8) (0:Int):=⟨⟨Tryz.t5,(.int .u8 0:Value),by kernel_rfl,by kernel_rfl,by kernel_rfl,by decide,fun F=>aH (by kernel_rfl) (ji F)⟩⟩
theorem fQ (F:Fz):Kd.rd (kArr 32 (kInt .u8)) F ((List.replicate 32 [.int .u8 0]).flatten) (List.replicate 32 (0:Int)):=⟨by simp,aG (K:=kInt .u8) rfl 32⟩
theorem ZT169:ZT Tryz.prog 169 (kArr 32 (kInt .u8)) (List.replicate 32 (0:Int)):=⟨(.agg (List.replicate 32 (.int .u8 0:Value)).toArray:Value),by kernel_rfl,fun F=>aH (by kernel_rfl) (fQ F)⟩
theorem ga (F:Fz):Kd.rd aA F ((List.replicate 8 [.int .u32 0]).flatten++(List.replicate 64 [.int .u8 0]).flatten++[.int .u64 0]++[]) (⟨(List.replicate 8 (0:Int)),(List.replicate 64 (0:Int)),(0:Int)⟩:ae):=⟨(List.replicate 8 [.int .u32 0]).flatten,_,rfl,⟨by simp,aG (K:=kInt .u32) rfl 8⟩,⟨(List.replicate 64 [.int .u8 0]).flatten,_,rfl,⟨by simp,aG (K:=kInt .u8) rfl 64⟩,⟨[.int .u64 0],_,rfl,rfl,rfl⟩⟩⟩
theorem ZT254:ZT Tryz.prog 254 aA (⟨(List.replicate 8 (0:Int)),(List.replicate 64 (0:Int)),(0:Int)⟩:ae):=⟨(.agg (List.replicate 8 (.int .u32 0:Value)++List.replicate 64 (.int .u8 0:Value)++List.replicate 1 (.int .u64 0:Value)).toArray:Value),by kernel_rfl,fun F=>aH (by kernel_rfl) (ga F)⟩
theorem fR (F:Fz):Kd.rd (kArr 64 (kInt .u8)) F ((List.replicate 64 [.int .u8 0]).flatten) (List.replicate 64 (0:Int)):=⟨by simp,aG (K:=kInt .u8) rfl 64⟩
theorem ZT252:ZT Tryz.prog 252 (kArr 64 (kInt .u8)) (List.replicate 64 (0:Int)):=⟨(.agg (List.replicate 64 (.int .u8 0:Value)).toArray:Value),by kernel_rfl,fun F=>aH (by kernel_rfl) (fR F)⟩
theorem BT254:BT Tryz.prog 254 cI (⟨(List.replicate 8 (0:Int)),(List.replicate 64 (0:Int)),(0:Int)⟩:ae):=⟨⟨Tryz.t254,(.agg (List.replicate 8 (.int .u32 0:Value)++List.replicate 64 (.int .u8 0:Value)++List.replicate 1 (.int .u64 0:Value)).toArray:Value),_,[(0,8),(8,64),(72,1)],by kernel_rfl,by kernel_rfl,Tryz.underlying254,by kernel_rfl,fun i f h=>match i,f,h with
 |0,f,h=>by cases h;rfl
 |1,f,h=>by cases h;rfl
 |2,f,h=>by cases h;rfl
 |(_+3),f,h=>by simp[cI] at h,fun F=>fj (by kernel_rfl) (ga F)⟩⟩
theorem sz254k:(Tryz.prog.info? 254).map (·.size)=some (Kd.n aA):=by kernel_rfl
theorem kt254:KT Tryz.prog 254 aA:=⟨by kernel_rfl,by kernel_rfl⟩
theorem fD:fldB Tryz.prog 254 2=some (72,0+1):=by kernel_rfl
theorem ck:UpF cI 2 ⟨kInt .u64,ae.n⟩ (fun x y=>{x with n:=y}):=⟨rfl,fun _ _=>rfl,fun _ _=>⟨rfl,⟨rfl,(fun q hq=>by simp at hq)⟩⟩⟩
theorem kt117k:KT Tryz.prog 117 (kInt .u64):=⟨by kernel_rfl,by kernel_rfl⟩
theorem cr (F:Fz):Kd.rd (kArr 8 (kInt .u32)) F ((List.replicate 8 [.int .u32 0]).flatten) (List.replicate 8 (0:Int)):=⟨by simp,aG (K:=kInt .u32) rfl 8⟩
theorem ZT251:ZT Tryz.prog 251 (kArr 8 (kInt .u32)) (List.replicate 8 (0:Int)):=⟨(.agg (List.replicate 8 (.int .u32 0:Value)).toArray:Value),by kernel_rfl,fun F=>aH (by kernel_rfl) (cr F)⟩
theorem BTA251:BTA Tryz.prog 251 8 (kInt .u32) (List.replicate 8 (0:Int)):=⟨⟨Tryz.t251,(.agg (List.replicate 8 (.int .u32 0:Value)).toArray:Value),_,Tryz.t118,by kernel_rfl,by kernel_rfl,Tryz.underlying251,by kernel_rfl,by kernel_rfl,by simp,fun F=>cY (by kernel_rfl) (cr F).2⟩⟩
theorem sz251k:(Tryz.prog.info? 251).map (·.size)=some (Kd.n (kArr 8 (kInt .u32))):=by kernel_rfl
theorem kt251:KT Tryz.prog 251 (kArr 8 (kInt .u32)):=⟨by kernel_rfl,by kernel_rfl⟩
theorem jF:fldB Tryz.prog 254 0=some (0,7+1):=by kernel_rfl
theorem dY:UpF cI 0 ⟨kArr 8 (kInt .u32),ae.words⟩ (fun x y=>{x with words:=y}):=⟨rfl,fun _ _=>rfl,fun _ _=>(by intro q hq;simp only[List.mem_cons,List.not_mem_nil,or_false] at hq;rcases hq with rfl|rfl<;>rfl)⟩
theorem kY:fldB Tryz.prog 254 1=some (8,63+1):=by kernel_rfl
theorem fp:UpF cI 1 ⟨kArr 64 (kInt .u8),ae.tail⟩ (fun x y=>{x with tail:=y}):=⟨rfl,fun _ _=>rfl,fun _ _=>⟨rfl,(by intro q hq;simp only[List.mem_cons,List.not_mem_nil,or_false] at hq;rcases hq with rfl<;>rfl)⟩⟩
theorem sz117k:(Tryz.prog.info? 117).map (·.size)=some (Kd.n (kInt .u64)):=by kernel_rfl
theorem sz5:(Tryz.prog.info? 5).map (·.size)=some (Kd.n (kInt .u8)):=by kernel_rfl
theorem kt251k:KT Tryz.prog 251 (kArr 8 (kInt .u32)):=⟨by kernel_rfl,by kernel_rfl⟩
theorem kt252k:KT Tryz.prog 252 (kArr 64 (kInt .u8)):=⟨by kernel_rfl,by kernel_rfl⟩
theorem dO (F:Fz):Kd.rd (kArr 64 (kInt .u32)) F ((List.replicate 64 [.int .u32 0]).flatten) (List.replicate 64 (0:Int)):=⟨by simp,aG (K:=kInt .u32) rfl 64⟩
theorem ZT295:ZT Tryz.prog 295 (kArr 64 (kInt .u32)) (List.replicate 64 (0:Int)):=⟨(.agg (List.replicate 64 (.int .u32 0:Value)).toArray:Value),by kernel_rfl,fun F=>aH (by kernel_rfl) (dO F)⟩
theorem kt5:KT Tryz.prog 5 (kInt .u8):=⟨by kernel_rfl,by kernel_rfl⟩
theorem sz118k:(Tryz.prog.info? 118).map (·.size)=some (Kd.n (kInt .u32)):=by kernel_rfl
theorem kt118k:KT Tryz.prog 118 (kInt .u32):=⟨by kernel_rfl,by kernel_rfl⟩
def glob0:List Int:=[1116352408,1899447441,3049323471,3921009573,961987163,1508970993,2453635748,2870763221,3624381080,310598401,607225278,1426881987,1925078388,2162078206,2614888103,3248222580,3835390401,4022224774,264347078,604807628,770255983,1249150122,1555081692,1996064986,2554220882,2821834349,2952996808,3210313671,3336571891,3584528711,113926993,338241895,666307205,773529912,1294757372,1396182291,1695183700,1986661051,2177026350,2456956037,2730485921,2820302411,3259730800,3345764771,3516065817,3600352804,4094571909,275423344,430227734,506948616,659060556,883997877,958139571,1322822218,1537002063,1747873779,1955562222,2024104815,2227730452,2361852424,2428436474,2756734187,3204031479,3329325298]
theorem sz118:(Tryz.prog.info? 118).map (·.size)=some (Kd.n (kInt .u32)):=by kernel_rfl
theorem kt118:KT Tryz.prog 118 (kInt .u32):=⟨by kernel_rfl,by kernel_rfl⟩
theorem kt254k:KT Tryz.prog 254 aA:=⟨by kernel_rfl,by kernel_rfl⟩
theorem fb254k:fldB Tryz.prog 254 0=some (offF cI 0,7+1):=by kernel_rfl
theorem kt169:KT Tryz.prog 169 (kArr 32 (kInt .u8)):=⟨by kernel_rfl,by kernel_rfl⟩
theorem sz169k:(Tryz.prog.info? 169).map (·.size)=some (Kd.n (kArr 32 (kInt .u8))):=by kernel_rfl
theorem kt5k:KT Tryz.prog 5 (kInt .u8):=⟨by kernel_rfl,by kernel_rfl⟩
theorem ej {P:Program} {ops:Array Oper} {rest:List Oper} {Q:Exit→Act→World→Prop} {F0:Fz} {n:Nat} {E:List (Nat×SV)} {L:List Res} {o0 o1 o2:Oper} (d:Nat) (e:Bool) (k:Under F0 n ((d,.raw (.bool e))::E) L (wpList P ops Q rest)) (h:Under F0 n ((d,.raw (.bool e))::E) L (wpList P ops Q rest)→Under F0 n E L (wpList P ops Q (o0::o1::o2::rest))):Under F0 n E L (wpList P ops Q (o0::o1::o2::rest)):=h k
theorem nR {P:Program} {ops:Array Oper} {rest:List Oper} {C:World→Prop} {Qa:Act→Prop} {F0:Fz} {n:Nat} {E:List (Nat×SV)} {o0 o1 o2:Oper} (d:Nat) (e:Bool) (k:aC F0 n ((d,.raw (.bool e))::E) (wpQuiet P ops C Qa rest)) (h:aC F0 n ((d,.raw (.bool e))::E) (wpQuiet P ops C Qa rest)→aC F0 n E (wpQuiet P ops C Qa (o0::o1::o2::rest))):aC F0 n E (wpQuiet P ops C Qa (o0::o1::o2::rest)):=h k
theorem fq (F:Fz):Kd.rd (kSl (kInt .u8)) F [.slice none 0 0] []:=⟨none,0,rfl,Nat.le_refl _,.inl rfl⟩
theorem ET24:ET Tryz.prog 24 (kSl (kInt .u8)) []:=⟨⟨Tryz.t24,(.slice none 0 0:Value),by kernel_rfl,by kernel_rfl,by kernel_rfl,by decide,fun F=>aH (by kernel_rfl) (fq F)⟩⟩
theorem AT24:AT Tryz.prog 24 (kSl (kInt .u8)) [] 24:=⟨⟨Tryz.t24,(.slice none 0 0:Value),by kernel_rfl,by kernel_rfl,by kernel_rfl,by kernel_rfl,by decide,by decide,fun F=>aH (by kernel_rfl) (fq F)⟩⟩
theorem kJ {P:Program} {ops:Array Oper} {rest:List Oper} {Q:Exit→Act→World→Prop} {F0:Fz} {n:Nat} {E:List (Nat×SV)} {L:List Res} {o0 o1 o2 o3 o4 o5:Oper} (d:Nat) (e:Bool) (k:Under F0 n ((d,.raw (.bool e))::E) L (wpList P ops Q rest)) (h:Under F0 n ((d,.raw (.bool e))::E) L (wpList P ops Q rest)→Under F0 n E L (wpList P ops Q (o0::o1::o2::o3::o4::o5::rest))):Under F0 n E L (wpList P ops Q (o0::o1::o2::o3::o4::o5::rest)):=h k
theorem nS {P:Program} {ops:Array Oper} {rest:List Oper} {C:World→Prop} {Qa:Act→Prop} {F0:Fz} {n:Nat} {E:List (Nat×SV)} {o0 o1 o2 o3 o4 o5:Oper} (d:Nat) (e:Bool) (k:aC F0 n ((d,.raw (.bool e))::E) (wpQuiet P ops C Qa rest)) (h:aC F0 n ((d,.raw (.bool e))::E) (wpQuiet P ops C Qa rest)→aC F0 n E (wpQuiet P ops C Qa (o0::o1::o2::o3::o4::o5::rest))):aC F0 n E (wpQuiet P ops C Qa (o0::o1::o2::o3::o4::o5::rest)):=h k
theorem sz108:(Tryz.prog.info? 108).map (·.size)=some (Kd.n (kArr 16 (kInt .u8))):=by kernel_rfl
theorem kt108:KT Tryz.prog 108 (kArr 16 (kInt .u8)):=⟨by kernel_rfl,by kernel_rfl⟩
theorem fH (F:Fz):Kd.rd cq F ([.slice none 0 0]++(List.replicate 16 [.int .u8 0]).flatten++[]) (⟨[],(List.replicate 16 (0:Int))⟩:am):=⟨[.slice none 0 0],_,rfl,⟨none,0,rfl,Nat.le_refl _,.inl rfl⟩,⟨(List.replicate 16 [.int .u8 0]).flatten,_,rfl,⟨by simp,aG (K:=kInt .u8) rfl 16⟩,rfl⟩⟩
theorem ZT150:ZT Tryz.prog 150 cq (⟨[],(List.replicate 16 (0:Int))⟩:am):=⟨(.agg (List.replicate 1 (.slice none 0 0:Value)++List.replicate 16 (.int .u8 0:Value)).toArray:Value),by kernel_rfl,fun F=>aH (by kernel_rfl) (fH F)⟩
theorem BT150:BT Tryz.prog 150 db (⟨[],(List.replicate 16 (0:Int))⟩:am):=⟨⟨Tryz.t150,(.agg (List.replicate 1 (.slice none 0 0:Value)++List.replicate 16 (.int .u8 0:Value)).toArray:Value),_,[(0,1),(1,16)],by kernel_rfl,by kernel_rfl,Tryz.underlying150,by kernel_rfl,fun i f h=>match i,f,h with
 |0,f,h=>by cases h;rfl
 |1,f,h=>by cases h;rfl
 |(_+2),f,h=>by simp[db] at h,fun F=>fj (by kernel_rfl) (fH F)⟩⟩
theorem sz150k:(Tryz.prog.info? 150).map (·.size)=some (Kd.n cq):=by kernel_rfl
theorem kt150:KT Tryz.prog 150 cq:=⟨by kernel_rfl,by kernel_rfl⟩
theorem cX (F:Fz):Kd.rd (kArr 16 (kInt .u8)) F ((List.replicate 16 [.int .u8 0]).flatten) (List.replicate 16 (0:Int)):=⟨by simp,aG (K:=kInt .u8) rfl 16⟩
theorem ZT108:ZT Tryz.prog 108 (kArr 16 (kInt .u8)) (List.replicate 16 (0:Int)):=⟨(.agg (List.replicate 16 (.int .u8 0:Value)).toArray:Value),by kernel_rfl,fun F=>aH (by kernel_rfl) (cX F)⟩
theorem sz108k:(Tryz.prog.info? 108).map (·.size)=some (Kd.n (kArr 16 (kInt .u8))):=by kernel_rfl
theorem eN (F:Fz):Kd.rd az F ((List.replicate 16 [.int .u8 0]).flatten++(List.replicate 32 [.int .u8 0]).flatten++(List.replicate 32 [.int .u8 0]).flatten++[]) (⟨(List.replicate 16 (0:Int)),(List.replicate 32 (0:Int)),(List.replicate 32 (0:Int))⟩:ab):=⟨(List.replicate 16 [.int .u8 0]).flatten,_,rfl,⟨by simp,aG (K:=kInt .u8) rfl 16⟩,⟨(List.replicate 32 [.int .u8 0]).flatten,_,rfl,⟨by simp,aG (K:=kInt .u8) rfl 32⟩,⟨(List.replicate 32 [.int .u8 0]).flatten,_,rfl,⟨by simp,aG (K:=kInt .u8) rfl 32⟩,rfl⟩⟩⟩
theorem ZT176:ZT Tryz.prog 176 az (⟨(List.replicate 16 (0:Int)),(List.replicate 32 (0:Int)),(List.replicate 32 (0:Int))⟩:ab):=⟨(.agg (List.replicate 80 (.int .u8 0:Value)).toArray:Value),by kernel_rfl,fun F=>aH (by kernel_rfl) (eN F)⟩
theorem BT176:BT Tryz.prog 176 aQ (⟨(List.replicate 16 (0:Int)),(List.replicate 32 (0:Int)),(List.replicate 32 (0:Int))⟩:ab):=⟨⟨Tryz.t176,(.agg (List.replicate 80 (.int .u8 0:Value)).toArray:Value),_,[(0,16),(16,32),(48,32)],by kernel_rfl,by kernel_rfl,Tryz.underlying176,by kernel_rfl,fun i f h=>match i,f,h with
 |0,f,h=>by cases h;rfl
 |1,f,h=>by cases h;rfl
 |2,f,h=>by cases h;rfl
 |(_+3),f,h=>by simp[aQ] at h,fun F=>fj (by kernel_rfl) (eN F)⟩⟩
theorem sz176k:(Tryz.prog.info? 176).map (·.size)=some (Kd.n az):=by kernel_rfl
theorem kt176:KT Tryz.prog 176 az:=⟨by kernel_rfl,by kernel_rfl⟩
theorem fb176k:fldB Tryz.prog 176 1=some (offF aQ 1,31+1):=by kernel_rfl
theorem fb176k1:fldB Tryz.prog 176 0=some (offF aQ 0,15+1):=by kernel_rfl
theorem BTA108:BTA Tryz.prog 108 16 (kInt .u8) (List.replicate 16 (0:Int)):=⟨⟨Tryz.t108,(.agg (List.replicate 16 (.int .u8 0:Value)).toArray:Value),_,Tryz.t5,by kernel_rfl,by kernel_rfl,Tryz.underlying108,by kernel_rfl,by kernel_rfl,by simp,fun F=>cY (by kernel_rfl) (cX F).2⟩⟩
theorem gb (F:Fz):Kd.rd af F ((List.replicate 11 ((List.replicate 16 [.int .u8 0]).flatten)).flatten++[]) (⟨(List.replicate 11 (List.replicate 16 (0:Int)))⟩:aj):=⟨(List.replicate 11 ((List.replicate 16 [.int .u8 0]).flatten)).flatten,_,rfl,⟨by simp,aG (K:=kArr 16 (kInt .u8)) (⟨by simp,aG (K:=kInt .u8) rfl 16⟩) 11⟩,rfl⟩
theorem ZT212:ZT Tryz.prog 212 af (⟨(List.replicate 11 (List.replicate 16 (0:Int)))⟩:aj):=⟨(.agg (List.replicate 176 (.int .u8 0:Value)).toArray:Value),by kernel_rfl,fun F=>aH (by kernel_rfl) (gb F)⟩
theorem ee (F:Fz):Kd.rd (kArr 44 (kArr 4 (kInt .u8))) F ((List.replicate 44 ((List.replicate 4 [.int .u8 0]).flatten)).flatten) (List.replicate 44 (List.replicate 4 (0:Int))):=⟨by simp,aG (K:=kArr 4 (kInt .u8)) (⟨by simp,aG (K:=kInt .u8) rfl 4⟩) 44⟩
theorem ZT261:ZT Tryz.prog 261 (kArr 44 (kArr 4 (kInt .u8))) (List.replicate 44 (List.replicate 4 (0:Int))):=⟨(.agg (List.replicate 176 (.int .u8 0:Value)).toArray:Value),by kernel_rfl,fun F=>aH (by kernel_rfl) (ee F)⟩
theorem sz260k:(Tryz.prog.info? 260).map (·.size)=some (Kd.n (kArr 4 (kInt .u8))):=by kernel_rfl
theorem kt260k:KT Tryz.prog 260 (kArr 4 (kInt .u8)):=⟨by kernel_rfl,by kernel_rfl⟩
theorem ei (F:Fz):Kd.rd (kArr 4 (kInt .u8)) F ((List.replicate 4 [.int .u8 0]).flatten) (List.replicate 4 (0:Int)):=⟨by simp,aG (K:=kInt .u8) rfl 4⟩
theorem ZT260:ZT Tryz.prog 260 (kArr 4 (kInt .u8)) (List.replicate 4 (0:Int)):=⟨(.agg #[.int .u8 0,.int .u8 0,.int .u8 0,.int .u8 0]:Value),by kernel_rfl,fun F=>aH (by kernel_rfl) (ei F)⟩
theorem BTA260:BTA Tryz.prog 260 4 (kInt .u8) (List.replicate 4 (0:Int)):=⟨⟨Tryz.t260,(.agg #[.int .u8 0,.int .u8 0,.int .u8 0,.int .u8 0]:Value),_,Tryz.t5,by kernel_rfl,by kernel_rfl,Tryz.underlying260,by kernel_rfl,by kernel_rfl,by simp,fun F=>cY (by kernel_rfl) (ei F).2⟩⟩
theorem kt261:KT Tryz.prog 261 (kArr 44 (kArr 4 (kInt .u8))):=⟨by kernel_rfl,by kernel_rfl⟩
theorem kt260:KT Tryz.prog 260 (kArr 4 (kInt .u8)):=⟨by kernel_rfl,by kernel_rfl⟩
theorem nb:fldB Tryz.prog 212 0=some (0,175+1):=by kernel_rfl
theorem dP:UpF dp 0 ⟨kArr 11 (kArr 16 (kInt .u8)),aj.keys⟩ (fun x y=>{x with keys:=y}):=⟨rfl,fun _ _=>rfl,fun _ _=>(fun q hq=>by simp at hq)⟩
theorem sz209k:(Tryz.prog.info? 209).map (·.size)=some (Kd.n (kArr 16 (kInt .u8))):=by kernel_rfl
theorem kt212:KT Tryz.prog 212 af:=⟨by kernel_rfl,by kernel_rfl⟩
theorem sz212k:(Tryz.prog.info? 212).map (·.size)=some (Kd.n af):=by kernel_rfl
theorem fE (F:Fz):Kd.rd (kArr 256 (kInt .u8)) F ((List.replicate 256 [.int .u8 0]).flatten) (List.replicate 256 (0:Int)):=⟨by simp,aG (K:=kInt .u8) rfl 256⟩
theorem ZT215:ZT Tryz.prog 215 (kArr 256 (kInt .u8)) (List.replicate 256 (0:Int)):=⟨(.agg (List.replicate 256 (.int .u8 0:Value)).toArray:Value),by kernel_rfl,fun F=>aH (by kernel_rfl) (fE F)⟩
theorem kt108k:KT Tryz.prog 108 (kArr 16 (kInt .u8)):=⟨by kernel_rfl,by kernel_rfl⟩
theorem fb212k:fldB Tryz.prog 212 0=some (offF dp 0,175+1):=by kernel_rfl
theorem sz209:(Tryz.prog.info? 209).map (·.size)=some (Kd.n (kArr 16 (kInt .u8))):=by kernel_rfl
theorem kt209:KT Tryz.prog 209 (kArr 16 (kInt .u8)):=⟨by kernel_rfl,by kernel_rfl⟩
theorem ZT209:ZT Tryz.prog 209 (kArr 16 (kInt .u8)) (List.replicate 16 (0:Int)):=⟨(.agg (List.replicate 16 (.int .u8 0:Value)).toArray:Value),by kernel_rfl,fun F=>aH (by kernel_rfl) (cX F)⟩
theorem kt209k:KT Tryz.prog 209 (kArr 16 (kInt .u8)):=⟨by kernel_rfl,by kernel_rfl⟩
theorem fb176k2:fldB Tryz.prog 176 2=some (offF aQ 2,31+1):=by kernel_rfl
theorem kZ:fldB Tryz.prog 150 0=some (0,0+1):=by kernel_rfl
theorem e6:UpF db 0 ⟨kSl (kInt .u8),am.Cell⟩ (fun x y=>{x with Cell:=y}):=⟨rfl,fun _ _=>rfl,fun _ _=>(by intro q hq;simp only[List.mem_cons,List.not_mem_nil,or_false] at hq;rcases hq with rfl<;>rfl)⟩
theorem sz24k:(Tryz.prog.info? 24).map (·.size)=some (Kd.n (kSl (kInt .u8))):=by kernel_rfl
theorem fb150k:fldB Tryz.prog 150 0=some (offF db 0,0+1):=by kernel_rfl
theorem nJ {P:Program} {ops:Array Oper} {rest:List Oper} {Q:Exit→Act→World→Prop} {F0:Fz} {n:Nat} {E:List (Nat×SV)} {L:List Res} {o0 o1 o2 o3 o4 o5 o6 o7:Oper} (d:Nat) (e:Bool) (k:Under F0 n ((d,.raw (.bool e))::E) L (wpList P ops Q rest)) (h:Under F0 n ((d,.raw (.bool e))::E) L (wpList P ops Q rest)→Under F0 n E L (wpList P ops Q (o0::o1::o2::o3::o4::o5::o6::o7::rest))):Under F0 n E L (wpList P ops Q (o0::o1::o2::o3::o4::o5::o6::o7::rest)):=h k
theorem nT {P:Program} {ops:Array Oper} {rest:List Oper} {C:World→Prop} {Qa:Act→Prop} {F0:Fz} {n:Nat} {E:List (Nat×SV)} {o0 o1 o2 o3 o4 o5 o6 o7:Oper} (d:Nat) (e:Bool) (k:aC F0 n ((d,.raw (.bool e))::E) (wpQuiet P ops C Qa rest)) (h:aC F0 n ((d,.raw (.bool e))::E) (wpQuiet P ops C Qa rest)→aC F0 n E (wpQuiet P ops C Qa (o0::o1::o2::o3::o4::o5::o6::o7::rest))):aC F0 n E (wpQuiet P ops C Qa (o0::o1::o2::o3::o4::o5::o6::o7::rest)):=h k
theorem gd (F:Fz):Kd.rd (kArr 8 (kInt .u8)) F ((List.replicate 8 [.int .u8 0]).flatten) (List.replicate 8 (0:Int)):=⟨by simp,aG (K:=kInt .u8) rfl 8⟩
theorem BTA44:BTA Tryz.prog 44 8 (kInt .u8) (List.replicate 8 (0:Int)):=⟨⟨Tryz.t44,(.agg (List.replicate 8 (.int .u8 0:Value)).toArray:Value),_,Tryz.t5,by kernel_rfl,by kernel_rfl,Tryz.underlying44,by kernel_rfl,by kernel_rfl,by simp,fun F=>cY (by kernel_rfl) (gd F).2⟩⟩
theorem kt44:KT Tryz.prog 44 (kArr 8 (kInt .u8)):=⟨by kernel_rfl,by kernel_rfl⟩
theorem fb46k:fldB Tryz.prog 46 0=some (offF aW 0,0+1):=by kernel_rfl
theorem kt22:KT Tryz.prog 22 (kSl (kSl (kInt .u8))):=⟨by kernel_rfl,by kernel_rfl⟩
theorem fb46k1:fldB Tryz.prog 46 1=some (offF aW 1,0+1):=by kernel_rfl
theorem kt2:KT Tryz.prog 2 (kInt .i64):=⟨by kernel_rfl,by kernel_rfl⟩
theorem fb46k2:fldB Tryz.prog 46 2=some (offF aW 2,0+1):=by kernel_rfl
theorem kt23:KT Tryz.prog 23 (kSl (kArr 16 (kInt .u8))):=⟨by kernel_rfl,by kernel_rfl⟩
theorem fb46k3:fldB Tryz.prog 46 3=some (offF aW 3,7+1):=by kernel_rfl
theorem fb46k4:fldB Tryz.prog 46 4=some (offF aW 4,0+1):=by kernel_rfl
theorem BTA250:BTA Tryz.prog 250 8 (kInt .u32) (List.replicate 8 (0:Int)):=⟨⟨Tryz.t250,(.agg (List.replicate 8 (.int .u32 0:Value)).toArray:Value),_,Tryz.t118,by kernel_rfl,by kernel_rfl,Tryz.underlying250,by kernel_rfl,by kernel_rfl,by simp,fun F=>cY (by kernel_rfl) (cr F).2⟩⟩
theorem ZT250:ZT Tryz.prog 250 (kArr 8 (kInt .u32)) (List.replicate 8 (0:Int)):=⟨(.agg (List.replicate 8 (.int .u32 0:Value)).toArray:Value),by kernel_rfl,fun F=>aH (by kernel_rfl) (cr F)⟩
theorem sz250k:(Tryz.prog.info? 250).map (·.size)=some (Kd.n (kArr 8 (kInt .u32))):=by kernel_rfl
theorem BTA295:BTA Tryz.prog 295 64 (kInt .u32) (List.replicate 64 (0:Int)):=⟨⟨Tryz.t295,(.agg (List.replicate 64 (.int .u32 0:Value)).toArray:Value),_,Tryz.t118,by kernel_rfl,by kernel_rfl,Tryz.underlying295,by kernel_rfl,by kernel_rfl,by simp,fun F=>cY (by kernel_rfl) (dO F).2⟩⟩
theorem sz295k:(Tryz.prog.info? 295).map (·.size)=some (Kd.n (kArr 64 (kInt .u32))):=by kernel_rfl
theorem kt295:KT Tryz.prog 295 (kArr 64 (kInt .u32)):=⟨by kernel_rfl,by kernel_rfl⟩
theorem kt250k:KT Tryz.prog 250 (kArr 8 (kInt .u32)):=⟨by kernel_rfl,by kernel_rfl⟩
theorem kt250:KT Tryz.prog 250 (kArr 8 (kInt .u32)):=⟨by kernel_rfl,by kernel_rfl⟩
theorem nc:fldB Tryz.prog 176 0=some (0,15+1):=by kernel_rfl
theorem dZ:UpF aQ 0 ⟨kArr 16 (kInt .u8),ab.Box⟩ (fun x y=>{x with Box:=y}):=⟨rfl,fun _ _=>rfl,fun _ _=>(by intro q hq;simp only[List.mem_cons,List.not_mem_nil,or_false] at hq;rcases hq with rfl|rfl<;>rfl)⟩
theorem nd:fldB Tryz.prog 176 1=some (16,31+1):=by kernel_rfl
theorem d5:UpF aQ 1 ⟨kArr 32 (kInt .u8),ab.Mac⟩ (fun x y=>{x with Mac:=y}):=⟨rfl,fun _ _=>rfl,fun _ _=>⟨rfl,(by intro q hq;simp only[List.mem_cons,List.not_mem_nil,or_false] at hq;rcases hq with rfl<;>rfl)⟩⟩
theorem ne:fldB Tryz.prog 176 2=some (48,31+1):=by kernel_rfl
theorem d6:UpF aQ 2 ⟨kArr 32 (kInt .u8),ab.Replay⟩ (fun x y=>{x with Replay:=y}):=⟨rfl,fun _ _=>rfl,fun _ _=>⟨rfl,⟨rfl,(fun q hq=>by simp at hq)⟩⟩⟩
theorem fF (F:Fz):Kd.rd (kArr 176 (kInt .u8)) F ((List.replicate 176 [.int .u8 0]).flatten) (List.replicate 176 (0:Int)):=⟨by simp,aG (K:=kInt .u8) rfl 176⟩
theorem ZT247:ZT Tryz.prog 247 (kArr 176 (kInt .u8)) (List.replicate 176 (0:Int)):=⟨(.agg (List.replicate 176 (.int .u8 0:Value)).toArray:Value),by kernel_rfl,fun F=>aH (by kernel_rfl) (fF F)⟩
abbrev str0:ByteArray:=⟨#[99,124,119,123,242,107,111,197,48,1,103,43,254,215,171,118,202,130,201,125,250,89,71,240,173,212,162,175,156,164,114,192,183,253,147,38,54,63,247,204,52,165,229,241,113,216,49,21,4,199,35,195,24,150,5,154,7,18,128,226,235,39,178,117,9,131,44,26,27,110,90,160,82,59,214,179,41,227,47,132,83,209,0,237,32,252,177,91,106,203,190,57,74,76,88,207,208,239,170,251,67,77,51,133,69,249,2,127,80,60,159,168,81,163,64,143,146,157,56,245,188,182,218,33,16,255,243,210,205,12,19,236,95,151,68,23,196,167,126,61,100,93,25,115,96,129,79,220,34,42,144,136,70,238,184,20,222,94,11,219,224,50,58,10,73,6,36,92,194,211,172,98,145,149,228,121,231,200,55,109,141,213,78,169,108,86,244,234,101,122,174,8,186,120,37,46,28,166,180,198,232,221,116,31,75,189,139,138,112,62,181,102,72,3,246,14,97,53,87,185,134,193,29,158,225,248,152,17,105,217,142,148,155,30,135,233,206,85,40,223,140,161,137,13,191,230,66,104,65,153,45,15,176,84,187,22]⟩
theorem ge:rdOf (.raw (.string str0)) kStr [99,124,119,123,242,107,111,197,48,1,103,43,254,215,171,118,202,130,201,125,250,89,71,240,173,212,162,175,156,164,114,192,183,253,147,38,54,63,247,204,52,165,229,241,113,216,49,21,4,199,35,195,24,150,5,154,7,18,128,226,235,39,178,117,9,131,44,26,27,110,90,160,82,59,214,179,41,227,47,132,83,209,0,237,32,252,177,91,106,203,190,57,74,76,88,207,208,239,170,251,67,77,51,133,69,249,2,127,80,60,159,168,81,163,64,143,146,157,56,245,188,182,218,33,16,255,243,210,205,12,19,236,95,151,68,23,196,167,126,61,100,93,25,115,96,129,79,220,34,42,144,136,70,238,184,20,222,94,11,219,224,50,58,10,73,6,36,92,194,211,172,98,145,149,228,121,231,200,55,109,141,213,78,169,108,86,244,234,101,122,174,8,186,120,37,46,28,166,180,198,232,221,116,31,75,189,139,138,112,62,181,102,72,3,246,14,97,53,87,185,134,193,29,158,225,248,152,17,105,217,142,148,155,30,135,233,206,85,40,223,140,161,137,13,191,230,66,104,65,153,45,15,176,84,187,22]:=rdS (by kernel_rfl)
def cS:List Int:=[99,124,119,123,242,107,111,197,48,1,103,43,254,215,171,118,202,130,201,125,250,89,71,240,173,212,162,175,156,164,114,192,183,253,147,38,54,63,247,204,52,165,229,241,113,216,49,21,4,199,35,195,24,150,5,154,7,18,128,226,235,39,178,117,9,131,44,26,27,110,90,160,82,59,214,179,41,227,47,132,83,209,0,237,32,252,177,91,106,203,190,57,74,76,88,207,208,239,170,251,67,77,51,133,69,249,2,127,80,60,159,168,81,163,64,143,146,157,56,245,188,182,218,33,16,255,243,210,205,12,19,236,95,151,68,23,196,167,126,61,100,93,25,115,96,129,79,220,34,42,144,136,70,238,184,20,222,94,11,219,224,50,58,10,73,6,36,92,194,211,172,98,145,149,228,121,231,200,55,109,141,213,78,169,108,86,244,234,101,122,174,8,186,120,37,46,28,166,180,198,232,221,116,31,75,189,139,138,112,62,181,102,72,3,246,14,97,53,87,185,134,193,29,158,225,248,152,17,105,217,142,148,155,30,135,233,206,85,40,223,140,161,137,13,191,230,66,104,65,153,45,15,176,84,187,22]
theorem kt247:KT Tryz.prog 247 (kArr 176 (kInt .u8)):=⟨by kernel_rfl,by kernel_rfl⟩
theorem sz247k:(Tryz.prog.info? 247).map (·.size)=some (Kd.n (kArr 176 (kInt .u8))):=by kernel_rfl
theorem nK {P:Program} {ops:Array Oper} {rest:List Oper} {Q:Exit→Act→World→Prop} {F0:Fz} {n:Nat} {E:List (Nat×SV)} {L:List Res} {o0 o1 o2 o3 o4:Oper} (d:Nat) (e:Bool) (k:Under F0 n ((d,.raw (.bool e))::E) L (wpList P ops Q rest)) (h:Under F0 n ((d,.raw (.bool e))::E) L (wpList P ops Q rest)→Under F0 n E L (wpList P ops Q (o0::o1::o2::o3::o4::rest))):Under F0 n E L (wpList P ops Q (o0::o1::o2::o3::o4::rest)):=h k
theorem nU {P:Program} {ops:Array Oper} {rest:List Oper} {C:World→Prop} {Qa:Act→Prop} {F0:Fz} {n:Nat} {E:List (Nat×SV)} {o0 o1 o2 o3 o4:Oper} (d:Nat) (e:Bool) (k:aC F0 n ((d,.raw (.bool e))::E) (wpQuiet P ops C Qa rest)) (h:aC F0 n ((d,.raw (.bool e))::E) (wpQuiet P ops C Qa rest)→aC F0 n E (wpQuiet P ops C Qa (o0::o1::o2::o3::o4::rest))):aC F0 n E (wpQuiet P ops C Qa (o0::o1::o2::o3::o4::rest)):=h k
theorem rw5:RdW Tryz.prog 5 (kInt .u8) (gInt .u8) bOne:=mn Tryz.underlying5
theorem cof5:Tryz.prog.cellsOf 5=1:=by kernel_rfl
theorem rw24:RdW Tryz.prog 24 (kSl (kInt .u8)) (gSl (gInt .u8)) (bSl bOne):=mo (K:=kInt .u8) Tryz.underlying24 cof5 (by decide) rw5
theorem cof24:Tryz.prog.cellsOf 24=1:=by kernel_rfl
theorem rw22:RdW Tryz.prog 22 (kSl (kSl (kInt .u8))) (gSl (gSl (gInt .u8))) (bSl (bSl bOne)):=mo (K:=kSl (kInt .u8)) Tryz.underlying22 cof24 (by decide) rw24
theorem rw2:RdW Tryz.prog 2 (kInt .i64) (gInt .i64) bOne:=mn Tryz.underlying2
theorem cof108:Tryz.prog.cellsOf 108=16:=by kernel_rfl
theorem rw108:RdW Tryz.prog 108 (kArr 16 (kInt .u8)) (gArr 16 (gInt .u8)) (bArr bOne):=mq (K:=kInt .u8) Tryz.underlying108 cof108 cof5 rw5
theorem rw23:RdW Tryz.prog 23 (kSl (kArr 16 (kInt .u8))) (gSl (gArr 16 (gInt .u8))) (bSl (bArr bOne)):=mo (K:=kArr 16 (kInt .u8)) Tryz.underlying23 cof108 (by decide) rw108
theorem cof44:Tryz.prog.cellsOf 44=8:=by kernel_rfl
theorem rw44:RdW Tryz.prog 44 (kArr 8 (kInt .u8)) (gArr 8 (gInt .u8)) (bArr bOne):=mq (K:=kInt .u8) Tryz.underlying44 cof44 cof5 rw5
theorem cof22:Tryz.prog.cellsOf 22=1:=by kernel_rfl
theorem cof2:Tryz.prog.cellsOf 2=1:=by kernel_rfl
theorem cof23:Tryz.prog.cellsOf 23=1:=by kernel_rfl
theorem cof46:Tryz.prog.cellsOf 46=12:=by kernel_rfl
def cT (x:ay):Prop:=(gSl (gSl (gInt .u8))) x.Masters∧(gInt .i64) x.Epoch∧(gSl (gArr 16 (gInt .u8))) x.Nonces∧(gArr 8 (gInt .u8)) x.Name∧(gSl (gInt .u8)) x.Message∧True
def bt (x:ay):Nat:=(bSl (bSl bOne)) x.Masters+(bOne x.Epoch+((bSl (bArr bOne)) x.Nonces+((bArr bOne) x.Name+((bSl bOne) x.Message+0))))
theorem rw46:RdW Tryz.prog 46 bQ cT bt:=by
 intro H enc W _ B BA hB fuel cs x h
 obtain⟨hl,ds,hx,hf0⟩:=mY Tryz.underlying46 h
 obtain⟨d0,ds0,e0,⟨n0,p0,t0⟩,hf1⟩:=FsRd.cons hf0
 subst e0
 obtain⟨y0,r0,g0,b0⟩:=rw22 hB t0
 obtain⟨d1,ds1,e1,⟨n1,p1,t1⟩,hf2⟩:=FsRd.cons hf1
 subst e1
 obtain⟨y1,r1,g1,b1⟩:=rw2 hB t1
 obtain⟨d2,ds2,e2,⟨n2,p2,t2⟩,hf3⟩:=FsRd.cons hf2
 subst e2
 obtain⟨y2,r2,g2,b2⟩:=rw23 hB t2
 obtain⟨d3,ds3,e3,⟨n3,p3,t3⟩,hf4⟩:=FsRd.cons hf3
 subst e3
 obtain⟨y3,r3,g3,b3⟩:=rw44 hB t3
 obtain⟨d4,ds4,e4,⟨n4,p4,t4⟩,hf5⟩:=FsRd.cons hf4
 subst e4
 obtain⟨y4,r4,g4,b4⟩:=rw24 hB t4
 have hnil:=FsRd.nil hf5
 subst hnil
 refine⟨⟨y0,y1,y2,y3,y4⟩,lF (fo cof22 r0 (fo cof2 r1 (fo cof23 r2 (fo cof44 r3 (fo cof24 r4 (mZ (hl.trans cof46) rfl)))))),⟨g0,g1,g2,g3,g4,trivial⟩,?_⟩
 have:=hB.agg [d0,d1,d2,d3,d4]
 rw[hx]
 dsimp only at b0 b1 b2 b3 b4
 simp only[hB.cons,hB.nil] at this
 simp only[bt];omega
theorem kt46:KT Tryz.prog 46 bQ:=⟨by kernel_rfl,by kernel_rfl⟩
abbrev K0:=(kSl (kArr 16 (kInt .u8)))
abbrev K1:=(kSl (kSl (kInt .u8)))
abbrev K2:=(kArr 64 (kInt .u32))
abbrev K3:=(kArr 176 (kInt .u8))
abbrev K4:=(kArr 8 (kInt .u32))
abbrev K5:=(kArr 32 (kInt .u8))
abbrev K6:=(kArr 16 (kInt .u8))
abbrev K7:=(kArr 4 (kInt .u8))
abbrev K8:=(kSl (kInt .u8))
abbrev K9:=(kInt .u32)
abbrev K10:=(kInt .u8)
end Go.Proofs.YtdkfkpbijdimkaaGreatDoor

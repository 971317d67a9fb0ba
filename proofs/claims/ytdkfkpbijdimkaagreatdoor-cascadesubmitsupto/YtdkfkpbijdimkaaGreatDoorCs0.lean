import Derived.Test.YtdkfkpbijdimkaaGreatDoorSimD
import Derived.Test.YtdkfkpbijdimkaaGreatDoorRows
set_option linter.unusedVariables false
set_option linter.unusedSimpArgs false
set_option maxRecDepth 20000
namespace Go.Proofs.YtdkfkpbijdimkaaGreatDoor
open Go Go.Sim Go.ChangeShapes Go.WideShapes Go.ChangeAt Go.RowKit
set_option linter.unusedSectionVars false
variable [Fu]
structure aE where
 Masters:List (List Int)
 Epoch:Int
 Nonces:List (List Int)
 Payload:List Int
abbrev bS:List (Fld aE):=[⟨kSl (kSl (kInt .u8)),aE.Masters⟩,⟨kInt .i64,aE.Epoch⟩,⟨kSl (kArr 16 (kInt .u8)),aE.Nonces⟩,⟨kSl (kInt .u8),aE.Payload⟩]
abbrev cc:Kd aE:=kSt bS
structure aZ where
 Master:List Int
 Left:Int
 Span:Int
 Room:Int
 Num:Int
 Den:Int
 Noise:Int
 Chunks:Int
 Workers:Int
 Cap:Int
 Shards:Int
abbrev jB:List (Fld aZ):=[⟨kSl (kInt .u8),aZ.Master⟩,⟨kInt .i64,aZ.Left⟩,⟨kInt .i64,aZ.Span⟩,⟨kInt .i64,aZ.Room⟩,⟨kInt .i64,aZ.Num⟩,⟨kInt .i64,aZ.Den⟩,⟨kInt .i64,aZ.Noise⟩,⟨kInt .i64,aZ.Chunks⟩,⟨kInt .i64,aZ.Workers⟩,⟨kInt .i64,aZ.Cap⟩,⟨kInt .i64,aZ.Shards⟩]
abbrev j0:Kd aZ:=kSt jB
structure af where
 words:List Int
 tail:List Int
 n:Int
abbrev cQ:List (Fld af):=[⟨kArr 8 (kInt .u32),af.words⟩,⟨kArr 64 (kInt .u8),af.tail⟩,⟨kInt .u64,af.n⟩]
abbrev aF:Kd af:=kSt cQ
structure ae where
 Box:List Int
 Mac:List Int
 Replay:List Int
abbrev bj:List (Fld ae):=[⟨kArr 16 (kInt .u8),ae.Box⟩,⟨kArr 32 (kInt .u8),ae.Mac⟩,⟨kArr 32 (kInt .u8),ae.Replay⟩]
abbrev aD:Kd ae:=kSt bj
structure ak where
 keys:List (List Int)
abbrev dJ:List (Fld ak):=[⟨kArr 11 (kArr 16 (kInt .u8)),ak.keys⟩]
abbrev ah:Kd ak:=kSt dJ
structure ao where
 Round:Int
 Epoch:Int
 Left:Int
abbrev dq:List (Fld ao):=[⟨kInt .i64,ao.Round⟩,⟨kInt .i64,ao.Epoch⟩,⟨kInt .i64,ao.Left⟩]
abbrev dW:Kd ao:=kSt dq
structure aV where
 Header:ao
 Cells:List (List Int)
abbrev dX:List (Fld aV):=[⟨dW,aV.Header⟩,⟨kSl (kSl (kInt .u8)),aV.Cells⟩]
abbrev dg:Kd aV:=kSt dX
structure aq where
 a:Int
 b:Int
abbrev cR:List (Fld aq):=[⟨kInt .u32,aq.a⟩,⟨kInt .u32,aq.b⟩]
abbrev aT:Kd aq:=kSt cR
structure am where
 field:List Int
 at_:Int
 stage:Int
 left:Int
 header:ao
 sum:aq
 err:Int
 place:Int
abbrev jC:List (Fld am):=[⟨kSl (kInt .u8),am.field⟩,⟨kInt .i64,am.at_⟩,⟨kInt .i64,am.stage⟩,⟨kInt .i64,am.left⟩,⟨dW,am.header⟩,⟨aT,am.sum⟩,⟨kInt .i64,am.err⟩,⟨kInt .i64,am.place⟩]
abbrev nS:Kd am:=kSt jC
structure ab where
 field:Value
 at_:Int
 stage:Int
 left:Int
 header:ao
 sum:aq
 err:Int
 place:Int
abbrev aN:List (Fld ab):=[⟨kRaw,ab.field⟩,⟨kInt .i64,ab.at_⟩,⟨kInt .i64,ab.stage⟩,⟨kInt .i64,ab.left⟩,⟨dW,ab.header⟩,⟨aT,ab.sum⟩,⟨kInt .i64,ab.err⟩,⟨kInt .i64,ab.place⟩]
abbrev az:Kd ab:=kSt aN
structure eV where
 Number:Int
 Tags:List (List Int)
abbrev j5:List (Fld eV):=[⟨kInt .i64,eV.Number⟩,⟨kSl (kArr 16 (kInt .u8)),eV.Tags⟩]
abbrev kO:Kd eV:=kSt j5
structure eF where
 Newest:Int
 Epochs:List eV
abbrev jD:List (Fld eF):=[⟨kInt .i64,eF.Newest⟩,⟨kSl kO,eF.Epochs⟩]
abbrev j6:Kd eF:=kSt jD
structure eW where
 Next:Int
 Window:eF
abbrev j7:List (Fld eW):=[⟨kInt .i64,eW.Next⟩,⟨j6,eW.Window⟩]
abbrev kP:Kd eW:=kSt j7
structure cS where
 In:Int
 Malformed:Int
 Replays:Int
 Noise:Int
 Out:Int
abbrev jE:List (Fld cS):=[⟨kInt .i64,cS.In⟩,⟨kInt .i64,cS.Malformed⟩,⟨kInt .i64,cS.Replays⟩,⟨kInt .i64,cS.Noise⟩,⟨kInt .i64,cS.Out⟩]
abbrev j8:Kd cS:=kSt jE
structure ck where
 Out:List Int
 State:eW
 Report:cS
 Err:Int
 At:Int
abbrev jf:List (Fld ck):=[⟨kSl (kInt .u8),ck.Out⟩,⟨kP,ck.State⟩,⟨j8,ck.Report⟩,⟨kInt .i64,ck.Err⟩,⟨kInt .i64,ck.At⟩]
abbrev ge:Kd ck:=kSt jf
theorem jF {P:Program} {ops:Array Oper} {rest:List Oper} {Q:Exit→Act→World→Prop} {F0:Fz} {n:Nat} {E:List (Nat×SV)} {L:List Res} {o0 o1 o2 o3:Oper} (d:Nat) (e:Bool) (k:Under F0 n ((d,.raw (.bool e))::E) L (wpList P ops Q rest)) (h:Under F0 n ((d,.raw (.bool e))::E) L (wpList P ops Q rest)→Under F0 n E L (wpList P ops Q (o0::o1::o2::o3::rest))):Under F0 n E L (wpList P ops Q (o0::o1::o2::o3::rest)):=h k
theorem ol {P:Program} {ops:Array Oper} {rest:List Oper} {C:World→Prop} {Qa:Act→Prop} {F0:Fz} {n:Nat} {E:List (Nat×SV)} {o0 o1 o2 o3:Oper} (d:Nat) (e:Bool) (k:aJ F0 n ((d,.raw (.bool e))::E) (wpQuiet P ops C Qa rest)) (h:aJ F0 n ((d,.raw (.bool e))::E) (wpQuiet P ops C Qa rest)→aJ F0 n E (wpQuiet P ops C Qa (o0::o1::o2::o3::rest))):aJ F0 n E (wpQuiet P ops C Qa (o0::o1::o2::o3::rest)):=h k
theorem sz24:(Tryz.prog.info? 24).map (·.size)=some (Kd.n (kSl (kInt .u8))):=by kernel_rfl
theorem kt24:KT Tryz.prog 24 (kSl (kInt .u8)):=⟨by kernel_rfl,by kernel_rfl⟩
theorem jh (F:Fz):Kd.rd (kInt .u8) F [.int .u8 0] (0:Int):=rfl
theorem AT5:AT Tryz.prog 5 (kInt .u8) (0:Int) 1:=⟨⟨Tryz.t5,(.int .u8 0:Value),by kernel_rfl,by kernel_rfl,by kernel_rfl,by kernel_rfl,by decide,by decide,fun F=>aK (by kernel_rfl) (jh F)⟩⟩
theorem sz5k:(Tryz.prog.info? 5).map (·.size)=some (Kd.n (kInt .u8)):=by kernel_rfl
theorem ET5:ET Tryz.prog 5 (kInt .u8) (0:Int):=⟨⟨Tryz.t5,(.int .u8 0:Value),by kernel_rfl,by kernel_rfl,by kernel_rfl,by decide,fun F=>aK (by kernel_rfl) (jh F)⟩⟩
theorem fY (F:Fz):Kd.rd (kArr 32 (kInt .u8)) F ((List.replicate 32 [.int .u8 0]).flatten) (List.replicate 32 (0:Int)):=⟨by simp,aP (K:=kInt .u8) rfl 32⟩
theorem ZT169:ZT Tryz.prog 169 (kArr 32 (kInt .u8)) (List.replicate 32 (0:Int)):=⟨(.agg (List.replicate 32 (.int .u8 0:Value)).toArray:Value),by kernel_rfl,fun F=>aK (by kernel_rfl) (fY F)⟩
theorem gf (F:Fz):Kd.rd aF F ((List.replicate 8 [.int .u32 0]).flatten++(List.replicate 64 [.int .u8 0]).flatten++[.int .u64 0]++[]) (⟨(List.replicate 8 (0:Int)),(List.replicate 64 (0:Int)),(0:Int)⟩:af):=⟨(List.replicate 8 [.int .u32 0]).flatten,_,rfl,⟨by simp,aP (K:=kInt .u32) rfl 8⟩,⟨(List.replicate 64 [.int .u8 0]).flatten,_,rfl,⟨by simp,aP (K:=kInt .u8) rfl 64⟩,⟨[.int .u64 0],_,rfl,rfl,rfl⟩⟩⟩
theorem ZT254:ZT Tryz.prog 254 aF (⟨(List.replicate 8 (0:Int)),(List.replicate 64 (0:Int)),(0:Int)⟩:af):=⟨(.agg (List.replicate 8 (.int .u32 0:Value)++List.replicate 64 (.int .u8 0:Value)++List.replicate 1 (.int .u64 0:Value)).toArray:Value),by kernel_rfl,fun F=>aK (by kernel_rfl) (gf F)⟩
theorem fZ (F:Fz):Kd.rd (kArr 64 (kInt .u8)) F ((List.replicate 64 [.int .u8 0]).flatten) (List.replicate 64 (0:Int)):=⟨by simp,aP (K:=kInt .u8) rfl 64⟩
theorem ZT252:ZT Tryz.prog 252 (kArr 64 (kInt .u8)) (List.replicate 64 (0:Int)):=⟨(.agg (List.replicate 64 (.int .u8 0:Value)).toArray:Value),by kernel_rfl,fun F=>aK (by kernel_rfl) (fZ F)⟩
theorem BT254:BT Tryz.prog 254 cQ (⟨(List.replicate 8 (0:Int)),(List.replicate 64 (0:Int)),(0:Int)⟩:af):=⟨⟨Tryz.t254,(.agg (List.replicate 8 (.int .u32 0:Value)++List.replicate 64 (.int .u8 0:Value)++List.replicate 1 (.int .u64 0:Value)).toArray:Value),_,[(0,8),(8,64),(72,1)],by kernel_rfl,by kernel_rfl,Tryz.underlying254,by kernel_rfl,fun i f h=>match i,f,h with
 |0,f,h=>by cases h;rfl
 |1,f,h=>by cases h;rfl
 |2,f,h=>by cases h;rfl
 |(_+3),f,h=>by simp[cQ] at h,fun F=>d9 (by kernel_rfl) (gf F)⟩⟩
theorem sz254k:(Tryz.prog.info? 254).map (·.size)=some (Kd.n aF):=by kernel_rfl
theorem kt254:KT Tryz.prog 254 aF:=⟨by kernel_rfl,by kernel_rfl⟩
theorem fL:fldB Tryz.prog 254 2=some (72,0+1):=by kernel_rfl
theorem cz:UpF cQ 2 ⟨kInt .u64,af.n⟩ (fun x y=>{x with n:=y}):=⟨rfl,fun _ _=>rfl,fun _ _=>⟨rfl,⟨rfl,(fun q hq=>by simp at hq)⟩⟩⟩
theorem kt117k:KT Tryz.prog 117 (kInt .u64):=⟨by kernel_rfl,by kernel_rfl⟩
theorem cL (F:Fz):Kd.rd (kArr 8 (kInt .u32)) F ((List.replicate 8 [.int .u32 0]).flatten) (List.replicate 8 (0:Int)):=⟨by simp,aP (K:=kInt .u32) rfl 8⟩
theorem ZT251:ZT Tryz.prog 251 (kArr 8 (kInt .u32)) (List.replicate 8 (0:Int)):=⟨(.agg (List.replicate 8 (.int .u32 0:Value)).toArray:Value),by kernel_rfl,fun F=>aK (by kernel_rfl) (cL F)⟩
theorem BTA251:BTA Tryz.prog 251 8 (kInt .u32) (List.replicate 8 (0:Int)):=⟨⟨Tryz.t251,(.agg (List.replicate 8 (.int .u32 0:Value)).toArray:Value),_,Tryz.t118,by kernel_rfl,by kernel_rfl,Tryz.underlying251,by kernel_rfl,by kernel_rfl,by simp,fun F=>dp (by kernel_rfl) (cL F).2⟩⟩
theorem sz251k:(Tryz.prog.info? 251).map (·.size)=some (Kd.n (kArr 8 (kInt .u32))):=by kernel_rfl
theorem kt251:KT Tryz.prog 251 (kArr 8 (kInt .u32)):=⟨by kernel_rfl,by kernel_rfl⟩
theorem jG:fldB Tryz.prog 254 0=some (0,7+1):=by kernel_rfl
theorem eI:UpF cQ 0 ⟨kArr 8 (kInt .u32),af.words⟩ (fun x y=>{x with words:=y}):=⟨rfl,fun _ _=>rfl,fun _ _=>(by intro q hq;simp only[List.mem_cons,List.not_mem_nil,or_false] at hq;rcases hq with rfl|rfl<;>rfl)⟩
theorem lh:fldB Tryz.prog 254 1=some (8,63+1):=by kernel_rfl
theorem fv:UpF cQ 1 ⟨kArr 64 (kInt .u8),af.tail⟩ (fun x y=>{x with tail:=y}):=⟨rfl,fun _ _=>rfl,fun _ _=>⟨rfl,(by intro q hq;simp only[List.mem_cons,List.not_mem_nil,or_false] at hq;rcases hq with rfl<;>rfl)⟩⟩
theorem sz117k:(Tryz.prog.info? 117).map (·.size)=some (Kd.n (kInt .u64)):=by kernel_rfl
theorem sz5:(Tryz.prog.info? 5).map (·.size)=some (Kd.n (kInt .u8)):=by kernel_rfl
theorem kt251k:KT Tryz.prog 251 (kArr 8 (kInt .u32)):=⟨by kernel_rfl,by kernel_rfl⟩
theorem kt252k:KT Tryz.prog 252 (kArr 64 (kInt .u8)):=⟨by kernel_rfl,by kernel_rfl⟩
theorem ei (F:Fz):Kd.rd (kArr 64 (kInt .u32)) F ((List.replicate 64 [.int .u32 0]).flatten) (List.replicate 64 (0:Int)):=⟨by simp,aP (K:=kInt .u32) rfl 64⟩
theorem ZT295:ZT Tryz.prog 295 (kArr 64 (kInt .u32)) (List.replicate 64 (0:Int)):=⟨(.agg (List.replicate 64 (.int .u32 0:Value)).toArray:Value),by kernel_rfl,fun F=>aK (by kernel_rfl) (ei F)⟩
theorem kt5:KT Tryz.prog 5 (kInt .u8):=⟨by kernel_rfl,by kernel_rfl⟩
theorem sz118k:(Tryz.prog.info? 118).map (·.size)=some (Kd.n (kInt .u32)):=by kernel_rfl
theorem kt118k:KT Tryz.prog 118 (kInt .u32):=⟨by kernel_rfl,by kernel_rfl⟩
def glob0:List Int:=[1116352408,1899447441,3049323471,3921009573,961987163,1508970993,2453635748,2870763221,3624381080,310598401,607225278,1426881987,1925078388,2162078206,2614888103,3248222580,3835390401,4022224774,264347078,604807628,770255983,1249150122,1555081692,1996064986,2554220882,2821834349,2952996808,3210313671,3336571891,3584528711,113926993,338241895,666307205,773529912,1294757372,1396182291,1695183700,1986661051,2177026350,2456956037,2730485921,2820302411,3259730800,3345764771,3516065817,3600352804,4094571909,275423344,430227734,506948616,659060556,883997877,958139571,1322822218,1537002063,1747873779,1955562222,2024104815,2227730452,2361852424,2428436474,2756734187,3204031479,3329325298]
theorem sz118:(Tryz.prog.info? 118).map (·.size)=some (Kd.n (kInt .u32)):=by kernel_rfl
theorem kt118:KT Tryz.prog 118 (kInt .u32):=⟨by kernel_rfl,by kernel_rfl⟩
theorem kt254k:KT Tryz.prog 254 aF:=⟨by kernel_rfl,by kernel_rfl⟩
theorem fb254k:fldB Tryz.prog 254 0=some (offF cQ 0,7+1):=by kernel_rfl
theorem kt169:KT Tryz.prog 169 (kArr 32 (kInt .u8)):=⟨by kernel_rfl,by kernel_rfl⟩
theorem sz169k:(Tryz.prog.info? 169).map (·.size)=some (Kd.n (kArr 32 (kInt .u8))):=by kernel_rfl
theorem kt5k:KT Tryz.prog 5 (kInt .u8):=⟨by kernel_rfl,by kernel_rfl⟩
theorem fe {P:Program} {ops:Array Oper} {rest:List Oper} {Q:Exit→Act→World→Prop} {F0:Fz} {n:Nat} {E:List (Nat×SV)} {L:List Res} {o0 o1 o2:Oper} (d:Nat) (e:Bool) (k:Under F0 n ((d,.raw (.bool e))::E) L (wpList P ops Q rest)) (h:Under F0 n ((d,.raw (.bool e))::E) L (wpList P ops Q rest)→Under F0 n E L (wpList P ops Q (o0::o1::o2::rest))):Under F0 n E L (wpList P ops Q (o0::o1::o2::rest)):=h k
theorem om {P:Program} {ops:Array Oper} {rest:List Oper} {C:World→Prop} {Qa:Act→Prop} {F0:Fz} {n:Nat} {E:List (Nat×SV)} {o0 o1 o2:Oper} (d:Nat) (e:Bool) (k:aJ F0 n ((d,.raw (.bool e))::E) (wpQuiet P ops C Qa rest)) (h:aJ F0 n ((d,.raw (.bool e))::E) (wpQuiet P ops C Qa rest)→aJ F0 n E (wpQuiet P ops C Qa (o0::o1::o2::rest))):aJ F0 n E (wpQuiet P ops C Qa (o0::o1::o2::rest)):=h k
theorem fw (F:Fz):Kd.rd (kSl (kInt .u8)) F [.slice none 0 0] []:=⟨none,0,rfl,Nat.le_refl _,.inl rfl⟩
theorem ET24:ET Tryz.prog 24 (kSl (kInt .u8)) []:=⟨⟨Tryz.t24,(.slice none 0 0:Value),by kernel_rfl,by kernel_rfl,by kernel_rfl,by decide,fun F=>aK (by kernel_rfl) (fw F)⟩⟩
theorem AT24:AT Tryz.prog 24 (kSl (kInt .u8)) [] 24:=⟨⟨Tryz.t24,(.slice none 0 0:Value),by kernel_rfl,by kernel_rfl,by kernel_rfl,by kernel_rfl,by decide,by decide,fun F=>aK (by kernel_rfl) (fw F)⟩⟩
theorem sz108:(Tryz.prog.info? 108).map (·.size)=some (Kd.n (kArr 16 (kInt .u8))):=by kernel_rfl
theorem kt108:KT Tryz.prog 108 (kArr 16 (kInt .u8)):=⟨by kernel_rfl,by kernel_rfl⟩
theorem eX (F:Fz):Kd.rd aD F ((List.replicate 16 [.int .u8 0]).flatten++(List.replicate 32 [.int .u8 0]).flatten++(List.replicate 32 [.int .u8 0]).flatten++[]) (⟨(List.replicate 16 (0:Int)),(List.replicate 32 (0:Int)),(List.replicate 32 (0:Int))⟩:ae):=⟨(List.replicate 16 [.int .u8 0]).flatten,_,rfl,⟨by simp,aP (K:=kInt .u8) rfl 16⟩,⟨(List.replicate 32 [.int .u8 0]).flatten,_,rfl,⟨by simp,aP (K:=kInt .u8) rfl 32⟩,⟨(List.replicate 32 [.int .u8 0]).flatten,_,rfl,⟨by simp,aP (K:=kInt .u8) rfl 32⟩,rfl⟩⟩⟩
theorem ZT176:ZT Tryz.prog 176 aD (⟨(List.replicate 16 (0:Int)),(List.replicate 32 (0:Int)),(List.replicate 32 (0:Int))⟩:ae):=⟨(.agg (List.replicate 80 (.int .u8 0:Value)).toArray:Value),by kernel_rfl,fun F=>aK (by kernel_rfl) (eX F)⟩
theorem BT176:BT Tryz.prog 176 bj (⟨(List.replicate 16 (0:Int)),(List.replicate 32 (0:Int)),(List.replicate 32 (0:Int))⟩:ae):=⟨⟨Tryz.t176,(.agg (List.replicate 80 (.int .u8 0:Value)).toArray:Value),_,[(0,16),(16,32),(48,32)],by kernel_rfl,by kernel_rfl,Tryz.underlying176,by kernel_rfl,fun i f h=>match i,f,h with
 |0,f,h=>by cases h;rfl
 |1,f,h=>by cases h;rfl
 |2,f,h=>by cases h;rfl
 |(_+3),f,h=>by simp[bj] at h,fun F=>d9 (by kernel_rfl) (eX F)⟩⟩
theorem sz176k:(Tryz.prog.info? 176).map (·.size)=some (Kd.n aD):=by kernel_rfl
theorem kt176:KT Tryz.prog 176 aD:=⟨by kernel_rfl,by kernel_rfl⟩
theorem fb176k:fldB Tryz.prog 176 0=some (offF bj 0,15+1):=by kernel_rfl
theorem dh (F:Fz):Kd.rd (kArr 16 (kInt .u8)) F ((List.replicate 16 [.int .u8 0]).flatten) (List.replicate 16 (0:Int)):=⟨by simp,aP (K:=kInt .u8) rfl 16⟩
theorem BTA108:BTA Tryz.prog 108 16 (kInt .u8) (List.replicate 16 (0:Int)):=⟨⟨Tryz.t108,(.agg (List.replicate 16 (.int .u8 0:Value)).toArray:Value),_,Tryz.t5,by kernel_rfl,by kernel_rfl,Tryz.underlying108,by kernel_rfl,by kernel_rfl,by simp,fun F=>dp (by kernel_rfl) (dh F).2⟩⟩
theorem gg (F:Fz):Kd.rd ah F ((List.replicate 11 ((List.replicate 16 [.int .u8 0]).flatten)).flatten++[]) (⟨(List.replicate 11 (List.replicate 16 (0:Int)))⟩:ak):=⟨(List.replicate 11 ((List.replicate 16 [.int .u8 0]).flatten)).flatten,_,rfl,⟨by simp,aP (K:=kArr 16 (kInt .u8)) (⟨by simp,aP (K:=kInt .u8) rfl 16⟩) 11⟩,rfl⟩
theorem ZT212:ZT Tryz.prog 212 ah (⟨(List.replicate 11 (List.replicate 16 (0:Int)))⟩:ak):=⟨(.agg (List.replicate 176 (.int .u8 0:Value)).toArray:Value),by kernel_rfl,fun F=>aK (by kernel_rfl) (gg F)⟩
theorem eR (F:Fz):Kd.rd (kArr 44 (kArr 4 (kInt .u8))) F ((List.replicate 44 ((List.replicate 4 [.int .u8 0]).flatten)).flatten) (List.replicate 44 (List.replicate 4 (0:Int))):=⟨by simp,aP (K:=kArr 4 (kInt .u8)) (⟨by simp,aP (K:=kInt .u8) rfl 4⟩) 44⟩
theorem ZT261:ZT Tryz.prog 261 (kArr 44 (kArr 4 (kInt .u8))) (List.replicate 44 (List.replicate 4 (0:Int))):=⟨(.agg (List.replicate 176 (.int .u8 0:Value)).toArray:Value),by kernel_rfl,fun F=>aK (by kernel_rfl) (eR F)⟩
theorem sz260k:(Tryz.prog.info? 260).map (·.size)=some (Kd.n (kArr 4 (kInt .u8))):=by kernel_rfl
theorem kt260k:KT Tryz.prog 260 (kArr 4 (kInt .u8)):=⟨by kernel_rfl,by kernel_rfl⟩
theorem eS (F:Fz):Kd.rd (kArr 4 (kInt .u8)) F ((List.replicate 4 [.int .u8 0]).flatten) (List.replicate 4 (0:Int)):=⟨by simp,aP (K:=kInt .u8) rfl 4⟩
theorem ZT260:ZT Tryz.prog 260 (kArr 4 (kInt .u8)) (List.replicate 4 (0:Int)):=⟨(.agg #[.int .u8 0,.int .u8 0,.int .u8 0,.int .u8 0]:Value),by kernel_rfl,fun F=>aK (by kernel_rfl) (eS F)⟩
theorem BTA260:BTA Tryz.prog 260 4 (kInt .u8) (List.replicate 4 (0:Int)):=⟨⟨Tryz.t260,(.agg #[.int .u8 0,.int .u8 0,.int .u8 0,.int .u8 0]:Value),_,Tryz.t5,by kernel_rfl,by kernel_rfl,Tryz.underlying260,by kernel_rfl,by kernel_rfl,by simp,fun F=>dp (by kernel_rfl) (eS F).2⟩⟩
theorem kt261:KT Tryz.prog 261 (kArr 44 (kArr 4 (kInt .u8))):=⟨by kernel_rfl,by kernel_rfl⟩
theorem kt260:KT Tryz.prog 260 (kArr 4 (kInt .u8)):=⟨by kernel_rfl,by kernel_rfl⟩
theorem nb:fldB Tryz.prog 212 0=some (0,175+1):=by kernel_rfl
theorem ej:UpF dJ 0 ⟨kArr 11 (kArr 16 (kInt .u8)),ak.keys⟩ (fun x y=>{x with keys:=y}):=⟨rfl,fun _ _=>rfl,fun _ _=>(fun q hq=>by simp at hq)⟩
theorem sz209k:(Tryz.prog.info? 209).map (·.size)=some (Kd.n (kArr 16 (kInt .u8))):=by kernel_rfl
theorem kt212:KT Tryz.prog 212 ah:=⟨by kernel_rfl,by kernel_rfl⟩
theorem sz212k:(Tryz.prog.info? 212).map (·.size)=some (Kd.n ah):=by kernel_rfl
theorem fS (F:Fz):Kd.rd (kArr 256 (kInt .u8)) F ((List.replicate 256 [.int .u8 0]).flatten) (List.replicate 256 (0:Int)):=⟨by simp,aP (K:=kInt .u8) rfl 256⟩
theorem ZT215:ZT Tryz.prog 215 (kArr 256 (kInt .u8)) (List.replicate 256 (0:Int)):=⟨(.agg (List.replicate 256 (.int .u8 0:Value)).toArray:Value),by kernel_rfl,fun F=>aK (by kernel_rfl) (fS F)⟩
theorem kt108k:KT Tryz.prog 108 (kArr 16 (kInt .u8)):=⟨by kernel_rfl,by kernel_rfl⟩
theorem ZT108:ZT Tryz.prog 108 (kArr 16 (kInt .u8)) (List.replicate 16 (0:Int)):=⟨(.agg (List.replicate 16 (.int .u8 0:Value)).toArray:Value),by kernel_rfl,fun F=>aK (by kernel_rfl) (dh F)⟩
theorem fb212k:fldB Tryz.prog 212 0=some (offF dJ 0,175+1):=by kernel_rfl
theorem sz209:(Tryz.prog.info? 209).map (·.size)=some (Kd.n (kArr 16 (kInt .u8))):=by kernel_rfl
theorem kt209:KT Tryz.prog 209 (kArr 16 (kInt .u8)):=⟨by kernel_rfl,by kernel_rfl⟩
theorem ZT209:ZT Tryz.prog 209 (kArr 16 (kInt .u8)) (List.replicate 16 (0:Int)):=⟨(.agg (List.replicate 16 (.int .u8 0:Value)).toArray:Value),by kernel_rfl,fun F=>aK (by kernel_rfl) (dh F)⟩
theorem kt209k:KT Tryz.prog 209 (kArr 16 (kInt .u8)):=⟨by kernel_rfl,by kernel_rfl⟩
theorem sz108k:(Tryz.prog.info? 108).map (·.size)=some (Kd.n (kArr 16 (kInt .u8))):=by kernel_rfl
theorem fb176k1:fldB Tryz.prog 176 1=some (offF bj 1,31+1):=by kernel_rfl
theorem kQ {P:Program} {ops:Array Oper} {rest:List Oper} {Q:Exit→Act→World→Prop} {F0:Fz} {n:Nat} {E:List (Nat×SV)} {L:List Res} {o0 o1 o2 o3 o4 o5:Oper} (d:Nat) (e:Bool) (k:Under F0 n ((d,.raw (.bool e))::E) L (wpList P ops Q rest)) (h:Under F0 n ((d,.raw (.bool e))::E) L (wpList P ops Q rest)→Under F0 n E L (wpList P ops Q (o0::o1::o2::o3::o4::o5::rest))):Under F0 n E L (wpList P ops Q (o0::o1::o2::o3::o4::o5::rest)):=h k
theorem oo {P:Program} {ops:Array Oper} {rest:List Oper} {C:World→Prop} {Qa:Act→Prop} {F0:Fz} {n:Nat} {E:List (Nat×SV)} {o0 o1 o2 o3 o4 o5:Oper} (d:Nat) (e:Bool) (k:aJ F0 n ((d,.raw (.bool e))::E) (wpQuiet P ops C Qa rest)) (h:aJ F0 n ((d,.raw (.bool e))::E) (wpQuiet P ops C Qa rest)→aJ F0 n E (wpQuiet P ops C Qa (o0::o1::o2::o3::o4::o5::rest))):aJ F0 n E (wpQuiet P ops C Qa (o0::o1::o2::o3::o4::o5::rest)):=h k
theorem gh (F:Fz):Kd.rd dg F (([.int .i64 0]++[.int .i64 0]++[.int .i64 0]++[])++[.slice none 0 0]++[]) (⟨(⟨(0:Int),(0:Int),(0:Int)⟩:ao),[]⟩:aV):=⟨([.int .i64 0]++[.int .i64 0]++[.int .i64 0]++[]),_,rfl,⟨[.int .i64 0],_,rfl,rfl,⟨[.int .i64 0],_,rfl,rfl,⟨[.int .i64 0],_,rfl,rfl,rfl⟩⟩⟩,⟨[.slice none 0 0],_,rfl,⟨none,0,rfl,Nat.le_refl _,.inl rfl⟩,rfl⟩⟩
theorem ZT66:ZT Tryz.prog 66 dg (⟨(⟨(0:Int),(0:Int),(0:Int)⟩:ao),[]⟩:aV):=⟨(.agg #[.int .i64 0,.int .i64 0,.int .i64 0,.slice none 0 0]:Value),by kernel_rfl,fun F=>aK (by kernel_rfl) (gh F)⟩
theorem gi (F:Fz):Kd.rd aT F ([.int .u32 0]++[.int .u32 0]++[]) (⟨(0:Int),(0:Int)⟩:aq):=⟨[.int .u32 0],_,rfl,rfl,⟨[.int .u32 0],_,rfl,rfl,rfl⟩⟩
theorem BT120:BT Tryz.prog 120 cR (⟨(0:Int),(0:Int)⟩:aq):=⟨⟨Tryz.t120,(.agg #[.int .u32 0,.int .u32 0]:Value),_,[(0,1),(1,1)],by kernel_rfl,by kernel_rfl,Tryz.underlying120,by kernel_rfl,fun i f h=>match i,f,h with
 |0,f,h=>by cases h;rfl
 |1,f,h=>by cases h;rfl
 |(_+2),f,h=>by simp[cR] at h,fun F=>d9 (by kernel_rfl) (gi F)⟩⟩
theorem gJ (F:Fz):Kd.rd az F ([.slice none 0 0]++[.int .i64 0]++[.int .i64 0]++[.int .i64 0]++([.int .i64 0]++[.int .i64 0]++[.int .i64 0]++[])++([.int .u32 0]++[.int .u32 0]++[])++[.int .i64 0]++[.int .i64 0]++[]) (⟨(.slice none 0 0),(0:Int),(0:Int),(0:Int),(⟨(0:Int),(0:Int),(0:Int)⟩:ao),(⟨(0:Int),(0:Int)⟩:aq),(0:Int),(0:Int)⟩:ab):=⟨[.slice none 0 0],_,rfl,⟨rfl,rfl⟩,⟨[.int .i64 0],_,rfl,rfl,⟨[.int .i64 0],_,rfl,rfl,⟨[.int .i64 0],_,rfl,rfl,⟨([.int .i64 0]++[.int .i64 0]++[.int .i64 0]++[]),_,rfl,⟨[.int .i64 0],_,rfl,rfl,⟨[.int .i64 0],_,rfl,rfl,⟨[.int .i64 0],_,rfl,rfl,rfl⟩⟩⟩,⟨([.int .u32 0]++[.int .u32 0]++[]),_,rfl,⟨[.int .u32 0],_,rfl,rfl,⟨[.int .u32 0],_,rfl,rfl,rfl⟩⟩,⟨[.int .i64 0],_,rfl,rfl,⟨[.int .i64 0],_,rfl,rfl,rfl⟩⟩⟩⟩⟩⟩⟩⟩
theorem fT:BT Tryz.prog 132 aN (⟨(.slice none 0 0),(0:Int),(0:Int),(0:Int),(⟨(0:Int),(0:Int),(0:Int)⟩:ao),(⟨(0:Int),(0:Int)⟩:aq),(0:Int),(0:Int)⟩:ab):=⟨⟨Tryz.t132,(.agg (List.replicate 1 (.slice none 0 0:Value)++List.replicate 6 (.int .i64 0:Value)++List.replicate 2 (.int .u32 0:Value)++List.replicate 2 (.int .i64 0:Value)).toArray:Value),_,[(0,1),(1,1),(2,1),(3,1),(4,3),(7,2),(9,1),(10,1)],by kernel_rfl,by kernel_rfl,Tryz.underlying132,by kernel_rfl,fun i f h=>match i,f,h with
 |0,f,h=>by cases h;rfl
 |1,f,h=>by cases h;rfl
 |2,f,h=>by cases h;rfl
 |3,f,h=>by cases h;rfl
 |4,f,h=>by cases h;rfl
 |5,f,h=>by cases h;rfl
 |6,f,h=>by cases h;rfl
 |7,f,h=>by cases h;rfl
 |(_+8),f,h=>by simp[aN] at h,fun F=>d9 (by kernel_rfl) (gJ F)⟩⟩
theorem fM:fldB Tryz.prog 132 6=some (9,0+1):=by kernel_rfl
theorem bl:UpF aN 6 ⟨kInt .i64,ab.err⟩ (fun x y=>{x with err:=y}):=⟨rfl,fun _ _=>rfl,fun _ _=>⟨rfl,⟨rfl,⟨rfl,⟨rfl,⟨rfl,⟨rfl,(by intro q hq;simp only[List.mem_cons,List.not_mem_nil,or_false] at hq;rcases hq with rfl<;>rfl)⟩⟩⟩⟩⟩⟩⟩
theorem kt30k:KT Tryz.prog 30 (kInt .i64):=⟨by kernel_rfl,by kernel_rfl⟩
theorem fU (F:Fz):Kd.rd (kArr 10 (kInt .i64)) F ((List.replicate 10 [.int .i64 0]).flatten) (List.replicate 10 (0:Int)):=⟨by simp,aP (K:=kInt .i64) rfl 10⟩
theorem BTA218:BTA Tryz.prog 218 10 (kInt .i64) (List.replicate 10 (0:Int)):=⟨⟨Tryz.t218,(.agg (List.replicate 10 (.int .i64 0:Value)).toArray:Value),_,Tryz.t3,by kernel_rfl,by kernel_rfl,Tryz.underlying218,by kernel_rfl,by kernel_rfl,by simp,fun F=>dp (by kernel_rfl) (fU F).2⟩⟩
theorem df:fldB Tryz.prog 132 2=some (2,0+1):=by kernel_rfl
theorem aC:UpF aN 2 ⟨kInt .i64,ab.stage⟩ (fun x y=>{x with stage:=y}):=⟨rfl,fun _ _=>rfl,fun _ _=>⟨rfl,⟨rfl,(by intro q hq;simp only[List.mem_cons,List.not_mem_nil,or_false] at hq;rcases hq with rfl|rfl|rfl|rfl|rfl<;>rfl)⟩⟩⟩
theorem kt3k:KT Tryz.prog 3 (kInt .i64):=⟨by kernel_rfl,by kernel_rfl⟩
theorem kt3:KT Tryz.prog 3 (kInt .i64):=⟨by kernel_rfl,by kernel_rfl⟩
theorem dS:fldB Tryz.prog 132 0=some (0,0+1):=by kernel_rfl
theorem aH:UpF aN 0 ⟨kRaw,ab.field⟩ (fun x y=>{x with field:=y}):=⟨rfl,fun _ _=>rfl,fun _ _=>(by intro q hq;simp only[List.mem_cons,List.not_mem_nil,or_false] at hq;rcases hq with rfl|rfl|rfl|rfl|rfl|rfl|rfl<;>rfl)⟩
theorem kt24k:KT Tryz.prog 24 kRaw:=⟨by kernel_rfl,by kernel_rfl⟩
theorem sz24k:(Tryz.prog.info? 24).map (·.size)=some (Kd.n kRaw):=by kernel_rfl
theorem fN:fldB Tryz.prog 132 1=some (1,0+1):=by kernel_rfl
theorem bo:UpF aN 1 ⟨kInt .i64,ab.at_⟩ (fun x y=>{x with at_:=y}):=⟨rfl,fun _ _=>rfl,fun _ _=>⟨rfl,(by intro q hq;simp only[List.mem_cons,List.not_mem_nil,or_false] at hq;rcases hq with rfl|rfl|rfl|rfl|rfl|rfl<;>rfl)⟩⟩
theorem sz3k:(Tryz.prog.info? 3).map (·.size)=some (Kd.n (kInt .i64)):=by kernel_rfl
theorem jH:fldB Tryz.prog 132 5=some (7,1+1):=by kernel_rfl
theorem di:UpF aN 5 ⟨aT,ab.sum⟩ (fun x y=>{x with sum:=y}):=⟨rfl,fun _ _=>rfl,fun _ _=>⟨rfl,⟨rfl,⟨rfl,⟨rfl,⟨rfl,(by intro q hq;simp only[List.mem_cons,List.not_mem_nil,or_false] at hq;rcases hq with rfl|rfl<;>rfl)⟩⟩⟩⟩⟩⟩
theorem kt120k:KT Tryz.prog 120 aT:=⟨by kernel_rfl,by kernel_rfl⟩
theorem fb120k:fldB Tryz.prog 120 1=some (offF cR 1,0+1):=by kernel_rfl
theorem fb120k1:fldB Tryz.prog 120 0=some (offF cR 0,0+1):=by kernel_rfl
theorem ZT120:ZT Tryz.prog 120 aT (⟨(0:Int),(0:Int)⟩:aq):=⟨(.agg #[.int .u32 0,.int .u32 0]:Value),by kernel_rfl,fun F=>aK (by kernel_rfl) (gi F)⟩
theorem jI:fldB Tryz.prog 120 0=some (0,0+1):=by kernel_rfl
theorem eJ:UpF cR 0 ⟨kInt .u32,aq.a⟩ (fun x y=>{x with a:=y}):=⟨rfl,fun _ _=>rfl,fun _ _=>(by intro q hq;simp only[List.mem_cons,List.not_mem_nil,or_false] at hq;rcases hq with rfl<;>rfl)⟩
theorem li:fldB Tryz.prog 120 1=some (1,0+1):=by kernel_rfl
theorem fx:UpF cR 1 ⟨kInt .u32,aq.b⟩ (fun x y=>{x with b:=y}):=⟨rfl,fun _ _=>rfl,fun _ _=>⟨rfl,(fun q hq=>by simp at hq)⟩⟩
theorem kt120:KT Tryz.prog 120 aT:=⟨by kernel_rfl,by kernel_rfl⟩
theorem sz120k:(Tryz.prog.info? 120).map (·.size)=some (Kd.n aT):=by kernel_rfl
abbrev str0:ByteArray:=⟨#[67,72,82,78]⟩
theorem nc:rdOf (.raw (.string str0)) kStr [67,72,82,78]:=rdS (by kernel_rfl)
theorem gj:fldB Tryz.prog 132 4=some (4,2+1):=by kernel_rfl
theorem l8:fldB Tryz.prog 35 2=some (2,0+1):=by kernel_rfl
theorem cd:UpF aN 4 ⟨dW,ab.header⟩ (fun x y=>{x with header:=y}):=⟨rfl,fun _ _=>rfl,fun _ _=>⟨rfl,⟨rfl,⟨rfl,⟨rfl,(by intro q hq;simp only[List.mem_cons,List.not_mem_nil,or_false] at hq;rcases hq with rfl|rfl|rfl<;>rfl)⟩⟩⟩⟩⟩
theorem ft:UpF dq 2 ⟨kInt .i64,ao.Left⟩ (fun x y=>{x with Left:=y}):=⟨rfl,fun _ _=>rfl,fun _ _=>⟨rfl,⟨rfl,(fun q hq=>by simp at hq)⟩⟩⟩
theorem gl:fldB Tryz.prog 132 3=some (3,0+1):=by kernel_rfl
theorem cf:UpF aN 3 ⟨kInt .i64,ab.left⟩ (fun x y=>{x with left:=y}):=⟨rfl,fun _ _=>rfl,fun _ _=>⟨rfl,⟨rfl,⟨rfl,(by intro q hq;simp only[List.mem_cons,List.not_mem_nil,or_false] at hq;rcases hq with rfl|rfl|rfl|rfl<;>rfl)⟩⟩⟩⟩
theorem nX:fldB Tryz.prog 35 0=some (0,0+1):=by kernel_rfl
theorem hQ:UpF dq 0 ⟨kInt .i64,ao.Round⟩ (fun x y=>{x with Round:=y}):=⟨rfl,fun _ _=>rfl,fun _ _=>(by intro q hq;simp only[List.mem_cons,List.not_mem_nil,or_false] at hq;rcases hq with rfl|rfl<;>rfl)⟩
theorem sz2k:(Tryz.prog.info? 2).map (·.size)=some (Kd.n (kInt .i64)):=by kernel_rfl
theorem nY:fldB Tryz.prog 35 1=some (1,0+1):=by kernel_rfl
theorem hZ:UpF dq 1 ⟨kInt .i64,ao.Epoch⟩ (fun x y=>{x with Epoch:=y}):=⟨rfl,fun _ _=>rfl,fun _ _=>⟨rfl,(by intro q hq;simp only[List.mem_cons,List.not_mem_nil,or_false] at hq;rcases hq with rfl<;>rfl)⟩⟩
theorem sz30k:(Tryz.prog.info? 30).map (·.size)=some (Kd.n (kInt .i64)):=by kernel_rfl
theorem jJ:fldB Tryz.prog 132 7=some (10,0+1):=by kernel_rfl
theorem dj:UpF aN 7 ⟨kInt .i64,ab.place⟩ (fun x y=>{x with place:=y}):=⟨rfl,fun _ _=>rfl,fun _ _=>⟨rfl,⟨rfl,⟨rfl,⟨rfl,⟨rfl,⟨rfl,⟨rfl,(fun q hq=>by simp at hq)⟩⟩⟩⟩⟩⟩⟩⟩
theorem kt35k:KT Tryz.prog 35 dW:=⟨by kernel_rfl,by kernel_rfl⟩
theorem BT66:BT Tryz.prog 66 dX (⟨(⟨(0:Int),(0:Int),(0:Int)⟩:ao),[]⟩:aV):=⟨⟨Tryz.t66,(.agg #[.int .i64 0,.int .i64 0,.int .i64 0,.slice none 0 0]:Value),_,[(0,3),(3,1)],by kernel_rfl,by kernel_rfl,Tryz.underlying66,by kernel_rfl,fun i f h=>match i,f,h with
 |0,f,h=>by cases h;rfl
 |1,f,h=>by cases h;rfl
 |(_+2),f,h=>by simp[dX] at h,fun F=>d9 (by kernel_rfl) (gh F)⟩⟩
theorem sz66k:(Tryz.prog.info? 66).map (·.size)=some (Kd.n dg):=by kernel_rfl
theorem kt66:KT Tryz.prog 66 dg:=⟨by kernel_rfl,by kernel_rfl⟩
theorem fb66k:fldB Tryz.prog 66 0=some (offF dX 0,2+1):=by kernel_rfl
theorem fb35k:fldB Tryz.prog 35 2=some (offF dq 2,0+1):=by kernel_rfl
theorem fb66k1:fldB Tryz.prog 66 1=some (offF dX 1,0+1):=by kernel_rfl
theorem kt22:KT Tryz.prog 22 (kSl (kSl (kInt .u8))):=⟨by kernel_rfl,by kernel_rfl⟩
theorem l9 {P:Program} {ops:Array Oper} {rest:List Oper} {Q:Exit→Act→World→Prop} {F0:Fz} {n:Nat} {E:List (Nat×SV)} {L:List Res} {o0 o1 o2 o3 o4:Oper} (d:Nat) (e:Bool) (k:Under F0 n ((d,.raw (.bool e))::E) L (wpList P ops Q rest)) (h:Under F0 n ((d,.raw (.bool e))::E) L (wpList P ops Q rest)→Under F0 n E L (wpList P ops Q (o0::o1::o2::o3::o4::rest))):Under F0 n E L (wpList P ops Q (o0::o1::o2::o3::o4::rest)):=h k
theorem ot {P:Program} {ops:Array Oper} {rest:List Oper} {C:World→Prop} {Qa:Act→Prop} {F0:Fz} {n:Nat} {E:List (Nat×SV)} {o0 o1 o2 o3 o4:Oper} (d:Nat) (e:Bool) (k:aJ F0 n ((d,.raw (.bool e))::E) (wpQuiet P ops C Qa rest)) (h:aJ F0 n ((d,.raw (.bool e))::E) (wpQuiet P ops C Qa rest)→aJ F0 n E (wpQuiet P ops C Qa (o0::o1::o2::o3::o4::rest))):aJ F0 n E (wpQuiet P ops C Qa (o0::o1::o2::o3::o4::rest)):=h k
theorem fb26k:fldB Tryz.prog 26 0=some (offF bS 0,0+1):=by kernel_rfl
theorem fb26k1:fldB Tryz.prog 26 1=some (offF bS 1,0+1):=by kernel_rfl
theorem kt2:KT Tryz.prog 2 (kInt .i64):=⟨by kernel_rfl,by kernel_rfl⟩
theorem fb26k2:fldB Tryz.prog 26 2=some (offF bS 2,0+1):=by kernel_rfl
theorem kt23:KT Tryz.prog 23 (kSl (kArr 16 (kInt .u8))):=⟨by kernel_rfl,by kernel_rfl⟩
theorem fb26k3:fldB Tryz.prog 26 3=some (offF bS 3,0+1):=by kernel_rfl
theorem BTA250:BTA Tryz.prog 250 8 (kInt .u32) (List.replicate 8 (0:Int)):=⟨⟨Tryz.t250,(.agg (List.replicate 8 (.int .u32 0:Value)).toArray:Value),_,Tryz.t118,by kernel_rfl,by kernel_rfl,Tryz.underlying250,by kernel_rfl,by kernel_rfl,by simp,fun F=>dp (by kernel_rfl) (cL F).2⟩⟩
theorem ZT250:ZT Tryz.prog 250 (kArr 8 (kInt .u32)) (List.replicate 8 (0:Int)):=⟨(.agg (List.replicate 8 (.int .u32 0:Value)).toArray:Value),by kernel_rfl,fun F=>aK (by kernel_rfl) (cL F)⟩
theorem sz250k:(Tryz.prog.info? 250).map (·.size)=some (Kd.n (kArr 8 (kInt .u32))):=by kernel_rfl
theorem BTA295:BTA Tryz.prog 295 64 (kInt .u32) (List.replicate 64 (0:Int)):=⟨⟨Tryz.t295,(.agg (List.replicate 64 (.int .u32 0:Value)).toArray:Value),_,Tryz.t118,by kernel_rfl,by kernel_rfl,Tryz.underlying295,by kernel_rfl,by kernel_rfl,by simp,fun F=>dp (by kernel_rfl) (ei F).2⟩⟩
theorem sz295k:(Tryz.prog.info? 295).map (·.size)=some (Kd.n (kArr 64 (kInt .u32))):=by kernel_rfl
theorem kt295:KT Tryz.prog 295 (kArr 64 (kInt .u32)):=⟨by kernel_rfl,by kernel_rfl⟩
theorem kt250k:KT Tryz.prog 250 (kArr 8 (kInt .u32)):=⟨by kernel_rfl,by kernel_rfl⟩
theorem kt250:KT Tryz.prog 250 (kArr 8 (kInt .u32)):=⟨by kernel_rfl,by kernel_rfl⟩
theorem nd:fldB Tryz.prog 176 0=some (0,15+1):=by kernel_rfl
theorem eK:UpF bj 0 ⟨kArr 16 (kInt .u8),ae.Box⟩ (fun x y=>{x with Box:=y}):=⟨rfl,fun _ _=>rfl,fun _ _=>(by intro q hq;simp only[List.mem_cons,List.not_mem_nil,or_false] at hq;rcases hq with rfl|rfl<;>rfl)⟩
theorem ne:fldB Tryz.prog 176 1=some (16,31+1):=by kernel_rfl
theorem eL:UpF bj 1 ⟨kArr 32 (kInt .u8),ae.Mac⟩ (fun x y=>{x with Mac:=y}):=⟨rfl,fun _ _=>rfl,fun _ _=>⟨rfl,(by intro q hq;simp only[List.mem_cons,List.not_mem_nil,or_false] at hq;rcases hq with rfl<;>rfl)⟩⟩
theorem nf:fldB Tryz.prog 176 2=some (48,31+1):=by kernel_rfl
theorem eM:UpF bj 2 ⟨kArr 32 (kInt .u8),ae.Replay⟩ (fun x y=>{x with Replay:=y}):=⟨rfl,fun _ _=>rfl,fun _ _=>⟨rfl,⟨rfl,(fun q hq=>by simp at hq)⟩⟩⟩
theorem fV (F:Fz):Kd.rd (kArr 176 (kInt .u8)) F ((List.replicate 176 [.int .u8 0]).flatten) (List.replicate 176 (0:Int)):=⟨by simp,aP (K:=kInt .u8) rfl 176⟩
theorem ZT247:ZT Tryz.prog 247 (kArr 176 (kInt .u8)) (List.replicate 176 (0:Int)):=⟨(.agg (List.replicate 176 (.int .u8 0:Value)).toArray:Value),by kernel_rfl,fun F=>aK (by kernel_rfl) (fV F)⟩
abbrev str1:ByteArray:=⟨#[99,124,119,123,242,107,111,197,48,1,103,43,254,215,171,118,202,130,201,125,250,89,71,240,173,212,162,175,156,164,114,192,183,253,147,38,54,63,247,204,52,165,229,241,113,216,49,21,4,199,35,195,24,150,5,154,7,18,128,226,235,39,178,117,9,131,44,26,27,110,90,160,82,59,214,179,41,227,47,132,83,209,0,237,32,252,177,91,106,203,190,57,74,76,88,207,208,239,170,251,67,77,51,133,69,249,2,127,80,60,159,168,81,163,64,143,146,157,56,245,188,182,218,33,16,255,243,210,205,12,19,236,95,151,68,23,196,167,126,61,100,93,25,115,96,129,79,220,34,42,144,136,70,238,184,20,222,94,11,219,224,50,58,10,73,6,36,92,194,211,172,98,145,149,228,121,231,200,55,109,141,213,78,169,108,86,244,234,101,122,174,8,186,120,37,46,28,166,180,198,232,221,116,31,75,189,139,138,112,62,181,102,72,3,246,14,97,53,87,185,134,193,29,158,225,248,152,17,105,217,142,148,155,30,135,233,206,85,40,223,140,161,137,13,191,230,66,104,65,153,45,15,176,84,187,22]⟩
theorem gm:rdOf (.raw (.string str1)) kStr [99,124,119,123,242,107,111,197,48,1,103,43,254,215,171,118,202,130,201,125,250,89,71,240,173,212,162,175,156,164,114,192,183,253,147,38,54,63,247,204,52,165,229,241,113,216,49,21,4,199,35,195,24,150,5,154,7,18,128,226,235,39,178,117,9,131,44,26,27,110,90,160,82,59,214,179,41,227,47,132,83,209,0,237,32,252,177,91,106,203,190,57,74,76,88,207,208,239,170,251,67,77,51,133,69,249,2,127,80,60,159,168,81,163,64,143,146,157,56,245,188,182,218,33,16,255,243,210,205,12,19,236,95,151,68,23,196,167,126,61,100,93,25,115,96,129,79,220,34,42,144,136,70,238,184,20,222,94,11,219,224,50,58,10,73,6,36,92,194,211,172,98,145,149,228,121,231,200,55,109,141,213,78,169,108,86,244,234,101,122,174,8,186,120,37,46,28,166,180,198,232,221,116,31,75,189,139,138,112,62,181,102,72,3,246,14,97,53,87,185,134,193,29,158,225,248,152,17,105,217,142,148,155,30,135,233,206,85,40,223,140,161,137,13,191,230,66,104,65,153,45,15,176,84,187,22]:=rdS (by kernel_rfl)
def c7:List Int:=[99,124,119,123,242,107,111,197,48,1,103,43,254,215,171,118,202,130,201,125,250,89,71,240,173,212,162,175,156,164,114,192,183,253,147,38,54,63,247,204,52,165,229,241,113,216,49,21,4,199,35,195,24,150,5,154,7,18,128,226,235,39,178,117,9,131,44,26,27,110,90,160,82,59,214,179,41,227,47,132,83,209,0,237,32,252,177,91,106,203,190,57,74,76,88,207,208,239,170,251,67,77,51,133,69,249,2,127,80,60,159,168,81,163,64,143,146,157,56,245,188,182,218,33,16,255,243,210,205,12,19,236,95,151,68,23,196,167,126,61,100,93,25,115,96,129,79,220,34,42,144,136,70,238,184,20,222,94,11,219,224,50,58,10,73,6,36,92,194,211,172,98,145,149,228,121,231,200,55,109,141,213,78,169,108,86,244,234,101,122,174,8,186,120,37,46,28,166,180,198,232,221,116,31,75,189,139,138,112,62,181,102,72,3,246,14,97,53,87,185,134,193,29,158,225,248,152,17,105,217,142,148,155,30,135,233,206,85,40,223,140,161,137,13,191,230,66,104,65,153,45,15,176,84,187,22]
theorem kt247:KT Tryz.prog 247 (kArr 176 (kInt .u8)):=⟨by kernel_rfl,by kernel_rfl⟩
theorem sz247k:(Tryz.prog.info? 247).map (·.size)=some (Kd.n (kArr 176 (kInt .u8))):=by kernel_rfl
theorem rw5:RdW Tryz.prog 5 (kInt .u8) (gInt .u8) bOne:=mU Tryz.underlying5
theorem cof5:Tryz.prog.cellsOf 5=1:=by kernel_rfl
theorem rw24:RdW Tryz.prog 24 (kSl (kInt .u8)) (gSl (gInt .u8)) (bSl bOne):=mV (K:=kInt .u8) Tryz.underlying24 cof5 (by decide) rw5
theorem cof24:Tryz.prog.cellsOf 24=1:=by kernel_rfl
theorem rw22:RdW Tryz.prog 22 (kSl (kSl (kInt .u8))) (gSl (gSl (gInt .u8))) (bSl (bSl bOne)):=mV (K:=kSl (kInt .u8)) Tryz.underlying22 cof24 (by decide) rw24
theorem rw2:RdW Tryz.prog 2 (kInt .i64) (gInt .i64) bOne:=mU Tryz.underlying2
theorem cof108:Tryz.prog.cellsOf 108=16:=by kernel_rfl
theorem rw108:RdW Tryz.prog 108 (kArr 16 (kInt .u8)) (gArr 16 (gInt .u8)) (bArr bOne):=oc (K:=kInt .u8) Tryz.underlying108 cof108 cof5 rw5
theorem rw23:RdW Tryz.prog 23 (kSl (kArr 16 (kInt .u8))) (gSl (gArr 16 (gInt .u8))) (bSl (bArr bOne)):=mV (K:=kArr 16 (kInt .u8)) Tryz.underlying23 cof108 (by decide) rw108
theorem cof22:Tryz.prog.cellsOf 22=1:=by kernel_rfl
theorem cof2:Tryz.prog.cellsOf 2=1:=by kernel_rfl
theorem cof23:Tryz.prog.cellsOf 23=1:=by kernel_rfl
theorem cof26:Tryz.prog.cellsOf 26=4:=by kernel_rfl
def c9 (x:aE):Prop:=(gSl (gSl (gInt .u8))) x.Masters∧(gInt .i64) x.Epoch∧(gSl (gArr 16 (gInt .u8))) x.Nonces∧(gSl (gInt .u8)) x.Payload∧True
def bT (x:aE):Nat:=(bSl (bSl bOne)) x.Masters+(bOne x.Epoch+((bSl (bArr bOne)) x.Nonces+((bSl bOne) x.Payload+0)))
theorem rw26:RdW Tryz.prog 26 cc c9 bT:=by
 intro H enc W _ B BA hB fuel cs x h
 obtain⟨hl,ds,hx,hf0⟩:=nJ Tryz.underlying26 h
 obtain⟨d0,ds0,e0,⟨n0,p0,t0⟩,hf1⟩:=FsRd.cons hf0
 subst e0
 obtain⟨y0,r0,g0,b0⟩:=rw22 hB t0
 obtain⟨d1,ds1,e1,⟨n1,p1,t1⟩,hf2⟩:=FsRd.cons hf1
 subst e1
 obtain⟨y1,r1,g1,b1⟩:=rw2 hB t1
 obtain⟨d2,ds2,e2,⟨n2,p2,t2⟩,hf3⟩:=FsRd.cons hf2
 subst e2
 obtain⟨y2,r2,g2,b2⟩:=rw23 hB t2
 obtain⟨d3,ds3,e3,⟨n3,p3,t3⟩,hf4⟩:=FsRd.cons hf3
 subst e3
 obtain⟨y3,r3,g3,b3⟩:=rw24 hB t3
 have hnil:=FsRd.nil hf4
 subst hnil
 refine⟨⟨y0,y1,y2,y3⟩,lZ (gy cof22 r0 (gy cof2 r1 (gy cof23 r2 (gy cof24 r3 (nK (hl.trans cof26) rfl))))),⟨g0,g1,g2,g3,trivial⟩,?_⟩
 have:=hB.agg [d0,d1,d2,d3]
 rw[hx]
 dsimp only at b0 b1 b2 b3
 simp only[hB.cons,hB.nil] at this
 simp only[bT];omega
theorem kt26:KT Tryz.prog 26 cc:=⟨by kernel_rfl,by kernel_rfl⟩
abbrev K0:=(kSl (kArr 16 (kInt .u8)))
abbrev K1:=(kSl (kSl (kInt .u8)))
abbrev K2:=(kArr 64 (kInt .u32))
abbrev K3:=(kArr 176 (kInt .u8))
abbrev K4:=(kArr 8 (kInt .u32))
abbrev K5:=(kArr 32 (kInt .u8))
abbrev K6:=(kArr 16 (kInt .u8))
abbrev K7:=(kArr 4 (kInt .u8))
abbrev K8:=(kSl (kInt .u8))
abbrev K9:=(kInt .u32)
abbrev K10:=(kInt .u8)
end Go.Proofs.YtdkfkpbijdimkaaGreatDoor

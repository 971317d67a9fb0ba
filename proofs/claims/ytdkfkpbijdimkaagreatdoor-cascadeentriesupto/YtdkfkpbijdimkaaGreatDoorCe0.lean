import Derived.Test.YtdkfkpbijdimkaaGreatDoorSimD
import Derived.Test.YtdkfkpbijdimkaaGreatDoorRows
set_option linter.unusedVariables false
set_option linter.unusedSimpArgs false
set_option maxRecDepth 20000
namespace Go.Proofs.YtdkfkpbijdimkaaGreatDoor
open Go Go.Sim Go.ChangeShapes Go.WideShapes Go.ChangeAt Go.RowKit
set_option linter.unusedSectionVars false
variable [Fu]
structure ae where
 Round:Int
 Epoch:Int
 Left:Int
abbrev bU:List (Fld ae):=[⟨kInt .i64,ae.Round⟩,⟨kInt .i64,ae.Epoch⟩,⟨kInt .i64,ae.Left⟩]
abbrev aM:Kd ae:=kSt bU
structure be where
 Master:List Int
 Left:Int
 Span:Int
 Room:Int
 Num:Int
 Den:Int
 Noise:Int
 Chunks:Int
 Workers:Int
 Cap:Int
 Shards:Int
abbrev jj:List (Fld be):=[⟨kSl (kInt .u8),be.Master⟩,⟨kInt .i64,be.Left⟩,⟨kInt .i64,be.Span⟩,⟨kInt .i64,be.Room⟩,⟨kInt .i64,be.Num⟩,⟨kInt .i64,be.Den⟩,⟨kInt .i64,be.Noise⟩,⟨kInt .i64,be.Chunks⟩,⟨kInt .i64,be.Workers⟩,⟨kInt .i64,be.Cap⟩,⟨kInt .i64,be.Shards⟩]
abbrev jD:Kd be:=kSt jj
structure am where
 words:List Int
 tail:List Int
 n:Int
abbrev cN:List (Fld am):=[⟨kArr 8 (kInt .u32),am.words⟩,⟨kArr 64 (kInt .u8),am.tail⟩,⟨kInt .u64,am.n⟩]
abbrev aG:Kd am:=kSt cN
structure az where
 Box:List Int
 Mac:List Int
 Replay:List Int
abbrev cL:List (Fld az):=[⟨kArr 16 (kInt .u8),az.Box⟩,⟨kArr 32 (kInt .u8),az.Mac⟩,⟨kArr 32 (kInt .u8),az.Replay⟩]
abbrev bY:Kd az:=kSt cL
structure ao where
 keys:List (List Int)
abbrev dy:List (Fld ao):=[⟨kArr 11 (kArr 16 (kInt .u8)),ao.keys⟩]
abbrev aj:Kd ao:=kSt dy
structure aq where
 Header:ae
 Cells:List (List Int)
abbrev dN:List (Fld aq):=[⟨aM,aq.Header⟩,⟨kSl (kSl (kInt .u8)),aq.Cells⟩]
abbrev bf:Kd aq:=kSt dN
structure ah where
 a:Int
 b:Int
abbrev cO:List (Fld ah):=[⟨kInt .u32,ah.a⟩,⟨kInt .u32,ah.b⟩]
abbrev aZ:Kd ah:=kSt cO
structure ak where
 field:List Int
 at_:Int
 stage:Int
 left:Int
 header:ae
 sum:ah
 err:Int
 place:Int
abbrev jk:List (Fld ak):=[⟨kSl (kInt .u8),ak.field⟩,⟨kInt .i64,ak.at_⟩,⟨kInt .i64,ak.stage⟩,⟨kInt .i64,ak.left⟩,⟨aM,ak.header⟩,⟨aZ,ak.sum⟩,⟨kInt .i64,ak.err⟩,⟨kInt .i64,ak.place⟩]
abbrev mz:Kd ak:=kSt jk
structure af where
 field:Value
 at_:Int
 stage:Int
 left:Int
 header:ae
 sum:ah
 err:Int
 place:Int
abbrev aS:List (Fld af):=[⟨kRaw,af.field⟩,⟨kInt .i64,af.at_⟩,⟨kInt .i64,af.stage⟩,⟨kInt .i64,af.left⟩,⟨aM,af.header⟩,⟨aZ,af.sum⟩,⟨kInt .i64,af.err⟩,⟨kInt .i64,af.place⟩]
abbrev ax:Kd af:=kSt aS
structure eP where
 Number:Int
 Tags:List (List Int)
abbrev jE:List (Fld eP):=[⟨kInt .i64,eP.Number⟩,⟨kSl (kArr 16 (kInt .u8)),eP.Tags⟩]
abbrev kI:Kd eP:=kSt jE
structure eb where
 Newest:Int
 Epochs:List eP
abbrev jl:List (Fld eb):=[⟨kInt .i64,eb.Newest⟩,⟨kSl kI,eb.Epochs⟩]
abbrev jF:Kd eb:=kSt jl
structure eQ where
 Next:Int
 Window:eb
abbrev jG:List (Fld eQ):=[⟨kInt .i64,eQ.Next⟩,⟨jF,eQ.Window⟩]
abbrev kJ:Kd eQ:=kSt jG
structure cP where
 In:Int
 Malformed:Int
 Replays:Int
 Noise:Int
 Out:Int
abbrev jm:List (Fld cP):=[⟨kInt .i64,cP.In⟩,⟨kInt .i64,cP.Malformed⟩,⟨kInt .i64,cP.Replays⟩,⟨kInt .i64,cP.Noise⟩,⟨kInt .i64,cP.Out⟩]
abbrev jH:Kd cP:=kSt jm
structure ci where
 Out:List Int
 State:eQ
 Report:cP
 Err:Int
 At:Int
abbrev iT:List (Fld ci):=[⟨kSl (kInt .u8),ci.Out⟩,⟨kJ,ci.State⟩,⟨jH,ci.Report⟩,⟨kInt .i64,ci.Err⟩,⟨kInt .i64,ci.At⟩]
abbrev gl:Kd ci:=kSt iT
structure ab where
 Head:Bool
 Header:ae
 Cells:List (List Int)
 Place:Int
 Err:Int
abbrev aC:List (Fld ab):=[⟨gF,ab.Head⟩,⟨aM,ab.Header⟩,⟨kSl (kSl (kInt .u8)),ab.Cells⟩,⟨kInt .i64,ab.Place⟩,⟨kInt .i64,ab.Err⟩]
abbrev av:Kd ab:=kSt aC
structure ai where
 Head:Bool
 Header:ae
 Cells:Value
 Place:Int
 Err:Int
abbrev ba:List (Fld ai):=[⟨gF,ai.Head⟩,⟨aM,ai.Header⟩,⟨kRaw,ai.Cells⟩,⟨kInt .i64,ai.Place⟩,⟨kInt .i64,ai.Err⟩]
abbrev bt:Kd ai:=kSt ba
theorem dz {P:Program} {ops:Array Oper} {rest:List Oper} {Q:Exit→Act→World→Prop} {F0:Fz} {n:Nat} {E:List (Nat×SV)} {L:List Res} {o0 o1 o2 o3:Oper} (d:Nat) (e:Bool) (k:Under F0 n ((d,.raw (.bool e))::E) L (wpList P ops Q rest)) (h:Under F0 n ((d,.raw (.bool e))::E) L (wpList P ops Q rest)→Under F0 n E L (wpList P ops Q (o0::o1::o2::o3::rest))):Under F0 n E L (wpList P ops Q (o0::o1::o2::o3::rest)):=h k
theorem mY {P:Program} {ops:Array Oper} {rest:List Oper} {C:World→Prop} {Qa:Act→Prop} {F0:Fz} {n:Nat} {E:List (Nat×SV)} {o0 o1 o2 o3:Oper} (d:Nat) (e:Bool) (k:aP F0 n ((d,.raw (.bool e))::E) (wpQuiet P ops C Qa rest)) (h:aP F0 n ((d,.raw (.bool e))::E) (wpQuiet P ops C Qa rest)→aP F0 n E (wpQuiet P ops C Qa (o0::o1::o2::o3::rest))):aP F0 n E (wpQuiet P ops C Qa (o0::o1::o2::o3::rest)):=h k
theorem sz24:(Tryz.prog.info? 24).map (·.size)=some (Kd.n (kSl (kInt .u8))):=by kernel_rfl
theorem kt24:KT Tryz.prog 24 (kSl (kInt .u8)):=⟨by kernel_rfl,by kernel_rfl⟩
theorem iV (F:Fz):Kd.rd (kInt .u8) F [.int .u8 0] (0:Int):=rfl
theorem AT5:AT Tryz.prog 5 (kInt .u8) (0:Int) 1:=⟨⟨Tryz.t5,(.int .u8 0:Value),by kernel_rfl,by kernel_rfl,by kernel_rfl,by kernel_rfl,by decide,by decide,fun F=>aJ (by kernel_rfl) (iV F)⟩⟩
theorem sz5k:(Tryz.prog.info? 5).map (·.size)=some (Kd.n (kInt .u8)):=by kernel_rfl
theorem ET5:ET Tryz.prog 5 (kInt .u8) (0:Int):=⟨⟨Tryz.t5,(.int .u8 0:Value),by kernel_rfl,by kernel_rfl,by kernel_rfl,by decide,fun F=>aJ (by kernel_rfl) (iV F)⟩⟩
theorem fY (F:Fz):Kd.rd (kArr 32 (kInt .u8)) F ((List.replicate 32 [.int .u8 0]).flatten) (List.replicate 32 (0:Int)):=⟨by simp,aY (K:=kInt .u8) rfl 32⟩
theorem ZT169:ZT Tryz.prog 169 (kArr 32 (kInt .u8)) (List.replicate 32 (0:Int)):=⟨(.agg (List.replicate 32 (.int .u8 0:Value)).toArray:Value),by kernel_rfl,fun F=>aJ (by kernel_rfl) (fY F)⟩
theorem gm (F:Fz):Kd.rd aG F ((List.replicate 8 [.int .u32 0]).flatten++(List.replicate 64 [.int .u8 0]).flatten++[.int .u64 0]++[]) (⟨(List.replicate 8 (0:Int)),(List.replicate 64 (0:Int)),(0:Int)⟩:am):=⟨(List.replicate 8 [.int .u32 0]).flatten,_,rfl,⟨by simp,aY (K:=kInt .u32) rfl 8⟩,⟨(List.replicate 64 [.int .u8 0]).flatten,_,rfl,⟨by simp,aY (K:=kInt .u8) rfl 64⟩,⟨[.int .u64 0],_,rfl,rfl,rfl⟩⟩⟩
theorem ZT254:ZT Tryz.prog 254 aG (⟨(List.replicate 8 (0:Int)),(List.replicate 64 (0:Int)),(0:Int)⟩:am):=⟨(.agg (List.replicate 8 (.int .u32 0:Value)++List.replicate 64 (.int .u8 0:Value)++List.replicate 1 (.int .u64 0:Value)).toArray:Value),by kernel_rfl,fun F=>aJ (by kernel_rfl) (gm F)⟩
theorem fZ (F:Fz):Kd.rd (kArr 64 (kInt .u8)) F ((List.replicate 64 [.int .u8 0]).flatten) (List.replicate 64 (0:Int)):=⟨by simp,aY (K:=kInt .u8) rfl 64⟩
theorem ZT252:ZT Tryz.prog 252 (kArr 64 (kInt .u8)) (List.replicate 64 (0:Int)):=⟨(.agg (List.replicate 64 (.int .u8 0:Value)).toArray:Value),by kernel_rfl,fun F=>aJ (by kernel_rfl) (fZ F)⟩
theorem BT254:BT Tryz.prog 254 cN (⟨(List.replicate 8 (0:Int)),(List.replicate 64 (0:Int)),(0:Int)⟩:am):=⟨⟨Tryz.t254,(.agg (List.replicate 8 (.int .u32 0:Value)++List.replicate 64 (.int .u8 0:Value)++List.replicate 1 (.int .u64 0:Value)).toArray:Value),_,[(0,8),(8,64),(72,1)],by kernel_rfl,by kernel_rfl,Tryz.underlying254,by kernel_rfl,fun i f h=>match i,f,h with
 |0,f,h=>by cases h;rfl
 |1,f,h=>by cases h;rfl
 |2,f,h=>by cases h;rfl
 |(_+3),f,h=>by simp[cN] at h,fun F=>dk (by kernel_rfl) (gm F)⟩⟩
theorem sz254k:(Tryz.prog.info? 254).map (·.size)=some (Kd.n aG):=by kernel_rfl
theorem kt254:KT Tryz.prog 254 aG:=⟨by kernel_rfl,by kernel_rfl⟩
theorem fK:fldB Tryz.prog 254 2=some (72,0+1):=by kernel_rfl
theorem cq:UpF cN 2 ⟨kInt .u64,am.n⟩ (fun x y=>{x with n:=y}):=⟨rfl,fun _ _=>rfl,fun _ _=>⟨rfl,⟨rfl,(fun q hq=>by simp at hq)⟩⟩⟩
theorem kt117k:KT Tryz.prog 117 (kInt .u64):=⟨by kernel_rfl,by kernel_rfl⟩
theorem ec (F:Fz):Kd.rd (kArr 8 (kInt .u32)) F ((List.replicate 8 [.int .u32 0]).flatten) (List.replicate 8 (0:Int)):=⟨by simp,aY (K:=kInt .u32) rfl 8⟩
theorem ZT251:ZT Tryz.prog 251 (kArr 8 (kInt .u32)) (List.replicate 8 (0:Int)):=⟨(.agg (List.replicate 8 (.int .u32 0:Value)).toArray:Value),by kernel_rfl,fun F=>aJ (by kernel_rfl) (ec F)⟩
theorem BTA251:BTA Tryz.prog 251 8 (kInt .u32) (List.replicate 8 (0:Int)):=⟨⟨Tryz.t251,(.agg (List.replicate 8 (.int .u32 0:Value)).toArray:Value),_,Tryz.t118,by kernel_rfl,by kernel_rfl,Tryz.underlying251,by kernel_rfl,by kernel_rfl,by simp,fun F=>eK (by kernel_rfl) (ec F).2⟩⟩
theorem sz251k:(Tryz.prog.info? 251).map (·.size)=some (Kd.n (kArr 8 (kInt .u32))):=by kernel_rfl
theorem kt251:KT Tryz.prog 251 (kArr 8 (kInt .u32)):=⟨by kernel_rfl,by kernel_rfl⟩
theorem jn:fldB Tryz.prog 254 0=some (0,7+1):=by kernel_rfl
theorem ed:UpF cN 0 ⟨kArr 8 (kInt .u32),am.words⟩ (fun x y=>{x with words:=y}):=⟨rfl,fun _ _=>rfl,fun _ _=>(by intro q hq;simp only[List.mem_cons,List.not_mem_nil,or_false] at hq;rcases hq with rfl|rfl<;>rfl)⟩
theorem kU:fldB Tryz.prog 254 1=some (8,63+1):=by kernel_rfl
theorem fp:UpF cN 1 ⟨kArr 64 (kInt .u8),am.tail⟩ (fun x y=>{x with tail:=y}):=⟨rfl,fun _ _=>rfl,fun _ _=>⟨rfl,(by intro q hq;simp only[List.mem_cons,List.not_mem_nil,or_false] at hq;rcases hq with rfl<;>rfl)⟩⟩
theorem sz117k:(Tryz.prog.info? 117).map (·.size)=some (Kd.n (kInt .u64)):=by kernel_rfl
theorem sz5:(Tryz.prog.info? 5).map (·.size)=some (Kd.n (kInt .u8)):=by kernel_rfl
theorem kt251k:KT Tryz.prog 251 (kArr 8 (kInt .u32)):=⟨by kernel_rfl,by kernel_rfl⟩
theorem kt252k:KT Tryz.prog 252 (kArr 64 (kInt .u8)):=⟨by kernel_rfl,by kernel_rfl⟩
theorem fR (F:Fz):Kd.rd (kArr 64 (kInt .u32)) F ((List.replicate 64 [.int .u32 0]).flatten) (List.replicate 64 (0:Int)):=⟨by simp,aY (K:=kInt .u32) rfl 64⟩
theorem ZT295:ZT Tryz.prog 295 (kArr 64 (kInt .u32)) (List.replicate 64 (0:Int)):=⟨(.agg (List.replicate 64 (.int .u32 0:Value)).toArray:Value),by kernel_rfl,fun F=>aJ (by kernel_rfl) (fR F)⟩
theorem kt5:KT Tryz.prog 5 (kInt .u8):=⟨by kernel_rfl,by kernel_rfl⟩
theorem sz118k:(Tryz.prog.info? 118).map (·.size)=some (Kd.n (kInt .u32)):=by kernel_rfl
theorem kt118k:KT Tryz.prog 118 (kInt .u32):=⟨by kernel_rfl,by kernel_rfl⟩
def glob0:List Int:=[1116352408,1899447441,3049323471,3921009573,961987163,1508970993,2453635748,2870763221,3624381080,310598401,607225278,1426881987,1925078388,2162078206,2614888103,3248222580,3835390401,4022224774,264347078,604807628,770255983,1249150122,1555081692,1996064986,2554220882,2821834349,2952996808,3210313671,3336571891,3584528711,113926993,338241895,666307205,773529912,1294757372,1396182291,1695183700,1986661051,2177026350,2456956037,2730485921,2820302411,3259730800,3345764771,3516065817,3600352804,4094571909,275423344,430227734,506948616,659060556,883997877,958139571,1322822218,1537002063,1747873779,1955562222,2024104815,2227730452,2361852424,2428436474,2756734187,3204031479,3329325298]
theorem sz118:(Tryz.prog.info? 118).map (·.size)=some (Kd.n (kInt .u32)):=by kernel_rfl
theorem kt118:KT Tryz.prog 118 (kInt .u32):=⟨by kernel_rfl,by kernel_rfl⟩
theorem kt254k:KT Tryz.prog 254 aG:=⟨by kernel_rfl,by kernel_rfl⟩
theorem fb254k:fldB Tryz.prog 254 0=some (offF cN 0,7+1):=by kernel_rfl
theorem kt169:KT Tryz.prog 169 (kArr 32 (kInt .u8)):=⟨by kernel_rfl,by kernel_rfl⟩
theorem sz169k:(Tryz.prog.info? 169).map (·.size)=some (Kd.n (kArr 32 (kInt .u8))):=by kernel_rfl
theorem kt5k:KT Tryz.prog 5 (kInt .u8):=⟨by kernel_rfl,by kernel_rfl⟩
theorem f7 {P:Program} {ops:Array Oper} {rest:List Oper} {Q:Exit→Act→World→Prop} {F0:Fz} {n:Nat} {E:List (Nat×SV)} {L:List Res} {o0 o1 o2:Oper} (d:Nat) (e:Bool) (k:Under F0 n ((d,.raw (.bool e))::E) L (wpList P ops Q rest)) (h:Under F0 n ((d,.raw (.bool e))::E) L (wpList P ops Q rest)→Under F0 n E L (wpList P ops Q (o0::o1::o2::rest))):Under F0 n E L (wpList P ops Q (o0::o1::o2::rest)):=h k
theorem mZ {P:Program} {ops:Array Oper} {rest:List Oper} {C:World→Prop} {Qa:Act→Prop} {F0:Fz} {n:Nat} {E:List (Nat×SV)} {o0 o1 o2:Oper} (d:Nat) (e:Bool) (k:aP F0 n ((d,.raw (.bool e))::E) (wpQuiet P ops C Qa rest)) (h:aP F0 n ((d,.raw (.bool e))::E) (wpQuiet P ops C Qa rest)→aP F0 n E (wpQuiet P ops C Qa (o0::o1::o2::rest))):aP F0 n E (wpQuiet P ops C Qa (o0::o1::o2::rest)):=h k
theorem fq (F:Fz):Kd.rd (kSl (kInt .u8)) F [.slice none 0 0] []:=⟨none,0,rfl,Nat.le_refl _,.inl rfl⟩
theorem ET24:ET Tryz.prog 24 (kSl (kInt .u8)) []:=⟨⟨Tryz.t24,(.slice none 0 0:Value),by kernel_rfl,by kernel_rfl,by kernel_rfl,by decide,fun F=>aJ (by kernel_rfl) (fq F)⟩⟩
theorem AT24:AT Tryz.prog 24 (kSl (kInt .u8)) [] 24:=⟨⟨Tryz.t24,(.slice none 0 0:Value),by kernel_rfl,by kernel_rfl,by kernel_rfl,by kernel_rfl,by decide,by decide,fun F=>aJ (by kernel_rfl) (fq F)⟩⟩
theorem sz108:(Tryz.prog.info? 108).map (·.size)=some (Kd.n (kArr 16 (kInt .u8))):=by kernel_rfl
theorem kt108:KT Tryz.prog 108 (kArr 16 (kInt .u8)):=⟨by kernel_rfl,by kernel_rfl⟩
theorem eR (F:Fz):Kd.rd bY F ((List.replicate 16 [.int .u8 0]).flatten++(List.replicate 32 [.int .u8 0]).flatten++(List.replicate 32 [.int .u8 0]).flatten++[]) (⟨(List.replicate 16 (0:Int)),(List.replicate 32 (0:Int)),(List.replicate 32 (0:Int))⟩:az):=⟨(List.replicate 16 [.int .u8 0]).flatten,_,rfl,⟨by simp,aY (K:=kInt .u8) rfl 16⟩,⟨(List.replicate 32 [.int .u8 0]).flatten,_,rfl,⟨by simp,aY (K:=kInt .u8) rfl 32⟩,⟨(List.replicate 32 [.int .u8 0]).flatten,_,rfl,⟨by simp,aY (K:=kInt .u8) rfl 32⟩,rfl⟩⟩⟩
theorem ZT176:ZT Tryz.prog 176 bY (⟨(List.replicate 16 (0:Int)),(List.replicate 32 (0:Int)),(List.replicate 32 (0:Int))⟩:az):=⟨(.agg (List.replicate 80 (.int .u8 0:Value)).toArray:Value),by kernel_rfl,fun F=>aJ (by kernel_rfl) (eR F)⟩
theorem BT176:BT Tryz.prog 176 cL (⟨(List.replicate 16 (0:Int)),(List.replicate 32 (0:Int)),(List.replicate 32 (0:Int))⟩:az):=⟨⟨Tryz.t176,(.agg (List.replicate 80 (.int .u8 0:Value)).toArray:Value),_,[(0,16),(16,32),(48,32)],by kernel_rfl,by kernel_rfl,Tryz.underlying176,by kernel_rfl,fun i f h=>match i,f,h with
 |0,f,h=>by cases h;rfl
 |1,f,h=>by cases h;rfl
 |2,f,h=>by cases h;rfl
 |(_+3),f,h=>by simp[cL] at h,fun F=>dk (by kernel_rfl) (eR F)⟩⟩
theorem sz176k:(Tryz.prog.info? 176).map (·.size)=some (Kd.n bY):=by kernel_rfl
theorem kt176:KT Tryz.prog 176 bY:=⟨by kernel_rfl,by kernel_rfl⟩
theorem fb176k:fldB Tryz.prog 176 0=some (offF cL 0,15+1):=by kernel_rfl
theorem db (F:Fz):Kd.rd (kArr 16 (kInt .u8)) F ((List.replicate 16 [.int .u8 0]).flatten) (List.replicate 16 (0:Int)):=⟨by simp,aY (K:=kInt .u8) rfl 16⟩
theorem BTA108:BTA Tryz.prog 108 16 (kInt .u8) (List.replicate 16 (0:Int)):=⟨⟨Tryz.t108,(.agg (List.replicate 16 (.int .u8 0:Value)).toArray:Value),_,Tryz.t5,by kernel_rfl,by kernel_rfl,Tryz.underlying108,by kernel_rfl,by kernel_rfl,by simp,fun F=>eK (by kernel_rfl) (db F).2⟩⟩
theorem gn (F:Fz):Kd.rd aj F ((List.replicate 11 ((List.replicate 16 [.int .u8 0]).flatten)).flatten++[]) (⟨(List.replicate 11 (List.replicate 16 (0:Int)))⟩:ao):=⟨(List.replicate 11 ((List.replicate 16 [.int .u8 0]).flatten)).flatten,_,rfl,⟨by simp,aY (K:=kArr 16 (kInt .u8)) (⟨by simp,aY (K:=kInt .u8) rfl 16⟩) 11⟩,rfl⟩
theorem ZT212:ZT Tryz.prog 212 aj (⟨(List.replicate 11 (List.replicate 16 (0:Int)))⟩:ao):=⟨(.agg (List.replicate 176 (.int .u8 0:Value)).toArray:Value),by kernel_rfl,fun F=>aJ (by kernel_rfl) (gn F)⟩
theorem eu (F:Fz):Kd.rd (kArr 44 (kArr 4 (kInt .u8))) F ((List.replicate 44 ((List.replicate 4 [.int .u8 0]).flatten)).flatten) (List.replicate 44 (List.replicate 4 (0:Int))):=⟨by simp,aY (K:=kArr 4 (kInt .u8)) (⟨by simp,aY (K:=kInt .u8) rfl 4⟩) 44⟩
theorem ZT261:ZT Tryz.prog 261 (kArr 44 (kArr 4 (kInt .u8))) (List.replicate 44 (List.replicate 4 (0:Int))):=⟨(.agg (List.replicate 176 (.int .u8 0:Value)).toArray:Value),by kernel_rfl,fun F=>aJ (by kernel_rfl) (eu F)⟩
theorem sz260k:(Tryz.prog.info? 260).map (·.size)=some (Kd.n (kArr 4 (kInt .u8))):=by kernel_rfl
theorem kt260k:KT Tryz.prog 260 (kArr 4 (kInt .u8)):=⟨by kernel_rfl,by kernel_rfl⟩
theorem eH (F:Fz):Kd.rd (kArr 4 (kInt .u8)) F ((List.replicate 4 [.int .u8 0]).flatten) (List.replicate 4 (0:Int)):=⟨by simp,aY (K:=kInt .u8) rfl 4⟩
theorem ZT260:ZT Tryz.prog 260 (kArr 4 (kInt .u8)) (List.replicate 4 (0:Int)):=⟨(.agg #[.int .u8 0,.int .u8 0,.int .u8 0,.int .u8 0]:Value),by kernel_rfl,fun F=>aJ (by kernel_rfl) (eH F)⟩
theorem BTA260:BTA Tryz.prog 260 4 (kInt .u8) (List.replicate 4 (0:Int)):=⟨⟨Tryz.t260,(.agg #[.int .u8 0,.int .u8 0,.int .u8 0,.int .u8 0]:Value),_,Tryz.t5,by kernel_rfl,by kernel_rfl,Tryz.underlying260,by kernel_rfl,by kernel_rfl,by simp,fun F=>eK (by kernel_rfl) (eH F).2⟩⟩
theorem kt261:KT Tryz.prog 261 (kArr 44 (kArr 4 (kInt .u8))):=⟨by kernel_rfl,by kernel_rfl⟩
theorem kt260:KT Tryz.prog 260 (kArr 4 (kInt .u8)):=⟨by kernel_rfl,by kernel_rfl⟩
theorem md:fldB Tryz.prog 212 0=some (0,175+1):=by kernel_rfl
theorem dV:UpF dy 0 ⟨kArr 11 (kArr 16 (kInt .u8)),ao.keys⟩ (fun x y=>{x with keys:=y}):=⟨rfl,fun _ _=>rfl,fun _ _=>(fun q hq=>by simp at hq)⟩
theorem sz209k:(Tryz.prog.info? 209).map (·.size)=some (Kd.n (kArr 16 (kInt .u8))):=by kernel_rfl
theorem kt212:KT Tryz.prog 212 aj:=⟨by kernel_rfl,by kernel_rfl⟩
theorem sz212k:(Tryz.prog.info? 212).map (·.size)=some (Kd.n aj):=by kernel_rfl
theorem fS (F:Fz):Kd.rd (kArr 256 (kInt .u8)) F ((List.replicate 256 [.int .u8 0]).flatten) (List.replicate 256 (0:Int)):=⟨by simp,aY (K:=kInt .u8) rfl 256⟩
theorem ZT215:ZT Tryz.prog 215 (kArr 256 (kInt .u8)) (List.replicate 256 (0:Int)):=⟨(.agg (List.replicate 256 (.int .u8 0:Value)).toArray:Value),by kernel_rfl,fun F=>aJ (by kernel_rfl) (fS F)⟩
theorem kt108k:KT Tryz.prog 108 (kArr 16 (kInt .u8)):=⟨by kernel_rfl,by kernel_rfl⟩
theorem ZT108:ZT Tryz.prog 108 (kArr 16 (kInt .u8)) (List.replicate 16 (0:Int)):=⟨(.agg (List.replicate 16 (.int .u8 0:Value)).toArray:Value),by kernel_rfl,fun F=>aJ (by kernel_rfl) (db F)⟩
theorem fb212k:fldB Tryz.prog 212 0=some (offF dy 0,175+1):=by kernel_rfl
theorem sz209:(Tryz.prog.info? 209).map (·.size)=some (Kd.n (kArr 16 (kInt .u8))):=by kernel_rfl
theorem kt209:KT Tryz.prog 209 (kArr 16 (kInt .u8)):=⟨by kernel_rfl,by kernel_rfl⟩
theorem ZT209:ZT Tryz.prog 209 (kArr 16 (kInt .u8)) (List.replicate 16 (0:Int)):=⟨(.agg (List.replicate 16 (.int .u8 0:Value)).toArray:Value),by kernel_rfl,fun F=>aJ (by kernel_rfl) (db F)⟩
theorem kt209k:KT Tryz.prog 209 (kArr 16 (kInt .u8)):=⟨by kernel_rfl,by kernel_rfl⟩
theorem sz108k:(Tryz.prog.info? 108).map (·.size)=some (Kd.n (kArr 16 (kInt .u8))):=by kernel_rfl
theorem fb176k1:fldB Tryz.prog 176 1=some (offF cL 1,31+1):=by kernel_rfl
theorem kK {P:Program} {ops:Array Oper} {rest:List Oper} {Q:Exit→Act→World→Prop} {F0:Fz} {n:Nat} {E:List (Nat×SV)} {L:List Res} {o0 o1 o2 o3 o4 o5:Oper} (d:Nat) (e:Bool) (k:Under F0 n ((d,.raw (.bool e))::E) L (wpList P ops Q rest)) (h:Under F0 n ((d,.raw (.bool e))::E) L (wpList P ops Q rest)→Under F0 n E L (wpList P ops Q (o0::o1::o2::o3::o4::o5::rest))):Under F0 n E L (wpList P ops Q (o0::o1::o2::o3::o4::o5::rest)):=h k
theorem m0 {P:Program} {ops:Array Oper} {rest:List Oper} {C:World→Prop} {Qa:Act→Prop} {F0:Fz} {n:Nat} {E:List (Nat×SV)} {o0 o1 o2 o3 o4 o5:Oper} (d:Nat) (e:Bool) (k:aP F0 n ((d,.raw (.bool e))::E) (wpQuiet P ops C Qa rest)) (h:aP F0 n ((d,.raw (.bool e))::E) (wpQuiet P ops C Qa rest)→aP F0 n E (wpQuiet P ops C Qa (o0::o1::o2::o3::o4::o5::rest))):aP F0 n E (wpQuiet P ops C Qa (o0::o1::o2::o3::o4::o5::rest)):=h k
theorem gp (F:Fz):Kd.rd bf F (([.int .i64 0]++[.int .i64 0]++[.int .i64 0]++[])++[.slice none 0 0]++[]) (⟨(⟨(0:Int),(0:Int),(0:Int)⟩:ae),[]⟩:aq):=⟨([.int .i64 0]++[.int .i64 0]++[.int .i64 0]++[]),_,rfl,⟨[.int .i64 0],_,rfl,rfl,⟨[.int .i64 0],_,rfl,rfl,⟨[.int .i64 0],_,rfl,rfl,rfl⟩⟩⟩,⟨[.slice none 0 0],_,rfl,⟨none,0,rfl,Nat.le_refl _,.inl rfl⟩,rfl⟩⟩
theorem ZT66:ZT Tryz.prog 66 bf (⟨(⟨(0:Int),(0:Int),(0:Int)⟩:ae),[]⟩:aq):=⟨(.agg #[.int .i64 0,.int .i64 0,.int .i64 0,.slice none 0 0]:Value),by kernel_rfl,fun F=>aJ (by kernel_rfl) (gp F)⟩
theorem gt (F:Fz):Kd.rd aZ F ([.int .u32 0]++[.int .u32 0]++[]) (⟨(0:Int),(0:Int)⟩:ah):=⟨[.int .u32 0],_,rfl,rfl,⟨[.int .u32 0],_,rfl,rfl,rfl⟩⟩
theorem BT120:BT Tryz.prog 120 cO (⟨(0:Int),(0:Int)⟩:ah):=⟨⟨Tryz.t120,(.agg #[.int .u32 0,.int .u32 0]:Value),_,[(0,1),(1,1)],by kernel_rfl,by kernel_rfl,Tryz.underlying120,by kernel_rfl,fun i f h=>match i,f,h with
 |0,f,h=>by cases h;rfl
 |1,f,h=>by cases h;rfl
 |(_+2),f,h=>by simp[cO] at h,fun F=>dk (by kernel_rfl) (gt F)⟩⟩
theorem gN (F:Fz):Kd.rd ax F ([.slice none 0 0]++[.int .i64 0]++[.int .i64 0]++[.int .i64 0]++([.int .i64 0]++[.int .i64 0]++[.int .i64 0]++[])++([.int .u32 0]++[.int .u32 0]++[])++[.int .i64 0]++[.int .i64 0]++[]) (⟨(.slice none 0 0),(0:Int),(0:Int),(0:Int),(⟨(0:Int),(0:Int),(0:Int)⟩:ae),(⟨(0:Int),(0:Int)⟩:ah),(0:Int),(0:Int)⟩:af):=⟨[.slice none 0 0],_,rfl,⟨rfl,rfl⟩,⟨[.int .i64 0],_,rfl,rfl,⟨[.int .i64 0],_,rfl,rfl,⟨[.int .i64 0],_,rfl,rfl,⟨([.int .i64 0]++[.int .i64 0]++[.int .i64 0]++[]),_,rfl,⟨[.int .i64 0],_,rfl,rfl,⟨[.int .i64 0],_,rfl,rfl,⟨[.int .i64 0],_,rfl,rfl,rfl⟩⟩⟩,⟨([.int .u32 0]++[.int .u32 0]++[]),_,rfl,⟨[.int .u32 0],_,rfl,rfl,⟨[.int .u32 0],_,rfl,rfl,rfl⟩⟩,⟨[.int .i64 0],_,rfl,rfl,⟨[.int .i64 0],_,rfl,rfl,rfl⟩⟩⟩⟩⟩⟩⟩⟩
theorem fT:BT Tryz.prog 132 aS (⟨(.slice none 0 0),(0:Int),(0:Int),(0:Int),(⟨(0:Int),(0:Int),(0:Int)⟩:ae),(⟨(0:Int),(0:Int)⟩:ah),(0:Int),(0:Int)⟩:af):=⟨⟨Tryz.t132,(.agg (List.replicate 1 (.slice none 0 0:Value)++List.replicate 6 (.int .i64 0:Value)++List.replicate 2 (.int .u32 0:Value)++List.replicate 2 (.int .i64 0:Value)).toArray:Value),_,[(0,1),(1,1),(2,1),(3,1),(4,3),(7,2),(9,1),(10,1)],by kernel_rfl,by kernel_rfl,Tryz.underlying132,by kernel_rfl,fun i f h=>match i,f,h with
 |0,f,h=>by cases h;rfl
 |1,f,h=>by cases h;rfl
 |2,f,h=>by cases h;rfl
 |3,f,h=>by cases h;rfl
 |4,f,h=>by cases h;rfl
 |5,f,h=>by cases h;rfl
 |6,f,h=>by cases h;rfl
 |7,f,h=>by cases h;rfl
 |(_+8),f,h=>by simp[aS] at h,fun F=>dk (by kernel_rfl) (gN F)⟩⟩
theorem fL:fldB Tryz.prog 132 6=some (9,0+1):=by kernel_rfl
theorem bu:UpF aS 6 ⟨kInt .i64,af.err⟩ (fun x y=>{x with err:=y}):=⟨rfl,fun _ _=>rfl,fun _ _=>⟨rfl,⟨rfl,⟨rfl,⟨rfl,⟨rfl,⟨rfl,(by intro q hq;simp only[List.mem_cons,List.not_mem_nil,or_false] at hq;rcases hq with rfl<;>rfl)⟩⟩⟩⟩⟩⟩⟩
theorem kt30k:KT Tryz.prog 30 (kInt .i64):=⟨by kernel_rfl,by kernel_rfl⟩
theorem fU (F:Fz):Kd.rd (kArr 10 (kInt .i64)) F ((List.replicate 10 [.int .i64 0]).flatten) (List.replicate 10 (0:Int)):=⟨by simp,aY (K:=kInt .i64) rfl 10⟩
theorem BTA218:BTA Tryz.prog 218 10 (kInt .i64) (List.replicate 10 (0:Int)):=⟨⟨Tryz.t218,(.agg (List.replicate 10 (.int .i64 0:Value)).toArray:Value),_,Tryz.t3,by kernel_rfl,by kernel_rfl,Tryz.underlying218,by kernel_rfl,by kernel_rfl,by simp,fun F=>eK (by kernel_rfl) (fU F).2⟩⟩
theorem cZ:fldB Tryz.prog 132 2=some (2,0+1):=by kernel_rfl
theorem aE:UpF aS 2 ⟨kInt .i64,af.stage⟩ (fun x y=>{x with stage:=y}):=⟨rfl,fun _ _=>rfl,fun _ _=>⟨rfl,⟨rfl,(by intro q hq;simp only[List.mem_cons,List.not_mem_nil,or_false] at hq;rcases hq with rfl|rfl|rfl|rfl|rfl<;>rfl)⟩⟩⟩
theorem kt3k:KT Tryz.prog 3 (kInt .i64):=⟨by kernel_rfl,by kernel_rfl⟩
theorem kt3:KT Tryz.prog 3 (kInt .i64):=⟨by kernel_rfl,by kernel_rfl⟩
theorem dM:fldB Tryz.prog 132 0=some (0,0+1):=by kernel_rfl
theorem aK:UpF aS 0 ⟨kRaw,af.field⟩ (fun x y=>{x with field:=y}):=⟨rfl,fun _ _=>rfl,fun _ _=>(by intro q hq;simp only[List.mem_cons,List.not_mem_nil,or_false] at hq;rcases hq with rfl|rfl|rfl|rfl|rfl|rfl|rfl<;>rfl)⟩
theorem kt24k:KT Tryz.prog 24 kRaw:=⟨by kernel_rfl,by kernel_rfl⟩
theorem sz24k:(Tryz.prog.info? 24).map (·.size)=some (Kd.n kRaw):=by kernel_rfl
theorem fM:fldB Tryz.prog 132 1=some (1,0+1):=by kernel_rfl
theorem bv:UpF aS 1 ⟨kInt .i64,af.at_⟩ (fun x y=>{x with at_:=y}):=⟨rfl,fun _ _=>rfl,fun _ _=>⟨rfl,(by intro q hq;simp only[List.mem_cons,List.not_mem_nil,or_false] at hq;rcases hq with rfl|rfl|rfl|rfl|rfl|rfl<;>rfl)⟩⟩
theorem sz3k:(Tryz.prog.info? 3).map (·.size)=some (Kd.n (kInt .i64)):=by kernel_rfl
theorem jo:fldB Tryz.prog 132 5=some (7,1+1):=by kernel_rfl
theorem dc:UpF aS 5 ⟨aZ,af.sum⟩ (fun x y=>{x with sum:=y}):=⟨rfl,fun _ _=>rfl,fun _ _=>⟨rfl,⟨rfl,⟨rfl,⟨rfl,⟨rfl,(by intro q hq;simp only[List.mem_cons,List.not_mem_nil,or_false] at hq;rcases hq with rfl|rfl<;>rfl)⟩⟩⟩⟩⟩⟩
theorem kt120k:KT Tryz.prog 120 aZ:=⟨by kernel_rfl,by kernel_rfl⟩
theorem fb120k:fldB Tryz.prog 120 1=some (offF cO 1,0+1):=by kernel_rfl
theorem fb120k1:fldB Tryz.prog 120 0=some (offF cO 0,0+1):=by kernel_rfl
theorem ZT120:ZT Tryz.prog 120 aZ (⟨(0:Int),(0:Int)⟩:ah):=⟨(.agg #[.int .u32 0,.int .u32 0]:Value),by kernel_rfl,fun F=>aJ (by kernel_rfl) (gt F)⟩
theorem jp:fldB Tryz.prog 120 0=some (0,0+1):=by kernel_rfl
theorem ee:UpF cO 0 ⟨kInt .u32,ah.a⟩ (fun x y=>{x with a:=y}):=⟨rfl,fun _ _=>rfl,fun _ _=>(by intro q hq;simp only[List.mem_cons,List.not_mem_nil,or_false] at hq;rcases hq with rfl<;>rfl)⟩
theorem kV:fldB Tryz.prog 120 1=some (1,0+1):=by kernel_rfl
theorem ft:UpF cO 1 ⟨kInt .u32,ah.b⟩ (fun x y=>{x with b:=y}):=⟨rfl,fun _ _=>rfl,fun _ _=>⟨rfl,(fun q hq=>by simp at hq)⟩⟩
theorem kt120:KT Tryz.prog 120 aZ:=⟨by kernel_rfl,by kernel_rfl⟩
theorem sz120k:(Tryz.prog.info? 120).map (·.size)=some (Kd.n aZ):=by kernel_rfl
abbrev str0:ByteArray:=⟨#[67,72,82,78]⟩
theorem jq:rdOf (.raw (.string str0)) kStr [67,72,82,78]:=rdS (by kernel_rfl)
theorem gu:fldB Tryz.prog 132 4=some (4,2+1):=by kernel_rfl
theorem lH:fldB Tryz.prog 35 2=some (2,0+1):=by kernel_rfl
theorem bZ:UpF aS 4 ⟨aM,af.header⟩ (fun x y=>{x with header:=y}):=⟨rfl,fun _ _=>rfl,fun _ _=>⟨rfl,⟨rfl,⟨rfl,⟨rfl,(by intro q hq;simp only[List.mem_cons,List.not_mem_nil,or_false] at hq;rcases hq with rfl|rfl|rfl<;>rfl)⟩⟩⟩⟩⟩
theorem fm:UpF bU 2 ⟨kInt .i64,ae.Left⟩ (fun x y=>{x with Left:=y}):=⟨rfl,fun _ _=>rfl,fun _ _=>⟨rfl,⟨rfl,(fun q hq=>by simp at hq)⟩⟩⟩
theorem gv:fldB Tryz.prog 132 3=some (3,0+1):=by kernel_rfl
theorem cb:UpF aS 3 ⟨kInt .i64,af.left⟩ (fun x y=>{x with left:=y}):=⟨rfl,fun _ _=>rfl,fun _ _=>⟨rfl,⟨rfl,⟨rfl,(by intro q hq;simp only[List.mem_cons,List.not_mem_nil,or_false] at hq;rcases hq with rfl|rfl|rfl|rfl<;>rfl)⟩⟩⟩⟩
theorem mL:fldB Tryz.prog 35 0=some (0,0+1):=by kernel_rfl
theorem hZ:UpF bU 0 ⟨kInt .i64,ae.Round⟩ (fun x y=>{x with Round:=y}):=⟨rfl,fun _ _=>rfl,fun _ _=>(by intro q hq;simp only[List.mem_cons,List.not_mem_nil,or_false] at hq;rcases hq with rfl|rfl<;>rfl)⟩
theorem sz2k:(Tryz.prog.info? 2).map (·.size)=some (Kd.n (kInt .i64)):=by kernel_rfl
theorem mM:fldB Tryz.prog 35 1=some (1,0+1):=by kernel_rfl
theorem ia:UpF bU 1 ⟨kInt .i64,ae.Epoch⟩ (fun x y=>{x with Epoch:=y}):=⟨rfl,fun _ _=>rfl,fun _ _=>⟨rfl,(by intro q hq;simp only[List.mem_cons,List.not_mem_nil,or_false] at hq;rcases hq with rfl<;>rfl)⟩⟩
theorem sz30k:(Tryz.prog.info? 30).map (·.size)=some (Kd.n (kInt .i64)):=by kernel_rfl
theorem jr:fldB Tryz.prog 132 7=some (10,0+1):=by kernel_rfl
theorem de:UpF aS 7 ⟨kInt .i64,af.place⟩ (fun x y=>{x with place:=y}):=⟨rfl,fun _ _=>rfl,fun _ _=>⟨rfl,⟨rfl,⟨rfl,⟨rfl,⟨rfl,⟨rfl,⟨rfl,(fun q hq=>by simp at hq)⟩⟩⟩⟩⟩⟩⟩⟩
theorem kt35k:KT Tryz.prog 35 aM:=⟨by kernel_rfl,by kernel_rfl⟩
theorem BT66:BT Tryz.prog 66 dN (⟨(⟨(0:Int),(0:Int),(0:Int)⟩:ae),[]⟩:aq):=⟨⟨Tryz.t66,(.agg #[.int .i64 0,.int .i64 0,.int .i64 0,.slice none 0 0]:Value),_,[(0,3),(3,1)],by kernel_rfl,by kernel_rfl,Tryz.underlying66,by kernel_rfl,fun i f h=>match i,f,h with
 |0,f,h=>by cases h;rfl
 |1,f,h=>by cases h;rfl
 |(_+2),f,h=>by simp[dN] at h,fun F=>dk (by kernel_rfl) (gp F)⟩⟩
theorem sz66k:(Tryz.prog.info? 66).map (·.size)=some (Kd.n bf):=by kernel_rfl
theorem kt66:KT Tryz.prog 66 bf:=⟨by kernel_rfl,by kernel_rfl⟩
theorem fb66k:fldB Tryz.prog 66 0=some (offF dN 0,2+1):=by kernel_rfl
theorem fb35k:fldB Tryz.prog 35 2=some (offF bU 2,0+1):=by kernel_rfl
theorem fb66k1:fldB Tryz.prog 66 1=some (offF dN 1,0+1):=by kernel_rfl
theorem kt22:KT Tryz.prog 22 (kSl (kSl (kInt .u8))):=⟨by kernel_rfl,by kernel_rfl⟩
theorem kL {P:Program} {ops:Array Oper} {rest:List Oper} {Q:Exit→Act→World→Prop} {F0:Fz} {n:Nat} {E:List (Nat×SV)} {L:List Res} {o0 o1 o2 o3 o4:Oper} (d:Nat) (e:Bool) (k:Under F0 n ((d,.raw (.bool e))::E) L (wpList P ops Q rest)) (h:Under F0 n ((d,.raw (.bool e))::E) L (wpList P ops Q rest)→Under F0 n E L (wpList P ops Q (o0::o1::o2::o3::o4::rest))):Under F0 n E L (wpList P ops Q (o0::o1::o2::o3::o4::rest)):=h k
theorem m1 {P:Program} {ops:Array Oper} {rest:List Oper} {C:World→Prop} {Qa:Act→Prop} {F0:Fz} {n:Nat} {E:List (Nat×SV)} {o0 o1 o2 o3 o4:Oper} (d:Nat) (e:Bool) (k:aP F0 n ((d,.raw (.bool e))::E) (wpQuiet P ops C Qa rest)) (h:aP F0 n ((d,.raw (.bool e))::E) (wpQuiet P ops C Qa rest)→aP F0 n E (wpQuiet P ops C Qa (o0::o1::o2::o3::o4::rest))):aP F0 n E (wpQuiet P ops C Qa (o0::o1::o2::o3::o4::rest)):=h k
theorem fb35k1:fldB Tryz.prog 35 0=some (offF bU 0,0+1):=by kernel_rfl
theorem kt2:KT Tryz.prog 2 (kInt .i64):=⟨by kernel_rfl,by kernel_rfl⟩
theorem fb35k2:fldB Tryz.prog 35 1=some (offF bU 1,0+1):=by kernel_rfl
theorem fV (F:Fz):Kd.rd aM F ([.int .i64 0]++[.int .i64 0]++[.int .i64 0]++[]) (⟨(0:Int),(0:Int),(0:Int)⟩:ae):=⟨[.int .i64 0],_,rfl,rfl,⟨[.int .i64 0],_,rfl,rfl,⟨[.int .i64 0],_,rfl,rfl,rfl⟩⟩⟩
theorem BT35:BT Tryz.prog 35 bU (⟨(0:Int),(0:Int),(0:Int)⟩:ae):=⟨⟨Tryz.t35,(.agg #[.int .i64 0,.int .i64 0,.int .i64 0]:Value),_,[(0,1),(1,1),(2,1)],by kernel_rfl,by kernel_rfl,Tryz.underlying35,by kernel_rfl,fun i f h=>match i,f,h with
 |0,f,h=>by cases h;rfl
 |1,f,h=>by cases h;rfl
 |2,f,h=>by cases h;rfl
 |(_+3),f,h=>by simp[bU] at h,fun F=>dk (by kernel_rfl) (fV F)⟩⟩
theorem kt35:KT Tryz.prog 35 aM:=⟨by kernel_rfl,by kernel_rfl⟩
theorem ZT35:ZT Tryz.prog 35 aM (⟨(0:Int),(0:Int),(0:Int)⟩:ae):=⟨(.agg #[.int .i64 0,.int .i64 0,.int .i64 0]:Value),by kernel_rfl,fun F=>aJ (by kernel_rfl) (fV F)⟩
theorem sz35k:(Tryz.prog.info? 35).map (·.size)=some (Kd.n aM):=by kernel_rfl
theorem fu (F:Fz):Kd.rd av F ([.bool false]++([.int .i64 0]++[.int .i64 0]++[.int .i64 0]++[])++[.slice none 0 0]++[.int .i64 0]++[.int .i64 0]++[]) (⟨false,(⟨(0:Int),(0:Int),(0:Int)⟩:ae),[],(0:Int),(0:Int)⟩:ab):=⟨[.bool false],_,rfl,rfl,⟨([.int .i64 0]++[.int .i64 0]++[.int .i64 0]++[]),_,rfl,⟨[.int .i64 0],_,rfl,rfl,⟨[.int .i64 0],_,rfl,rfl,⟨[.int .i64 0],_,rfl,rfl,rfl⟩⟩⟩,⟨[.slice none 0 0],_,rfl,⟨none,0,rfl,Nat.le_refl _,.inl rfl⟩,⟨[.int .i64 0],_,rfl,rfl,⟨[.int .i64 0],_,rfl,rfl,rfl⟩⟩⟩⟩⟩
theorem ZT124:ZT Tryz.prog 124 av (⟨false,(⟨(0:Int),(0:Int),(0:Int)⟩:ae),[],(0:Int),(0:Int)⟩:ab):=⟨(.agg #[.bool false,.int .i64 0,.int .i64 0,.int .i64 0,.slice none 0 0,.int .i64 0,.int .i64 0]:Value),by kernel_rfl,fun F=>aJ (by kernel_rfl) (fu F)⟩
theorem eS (F:Fz):Kd.rd bt F ([.bool false]++([.int .i64 0]++[.int .i64 0]++[.int .i64 0]++[])++[.slice none 0 0]++[.int .i64 0]++[.int .i64 0]++[]) (⟨false,(⟨(0:Int),(0:Int),(0:Int)⟩:ae),(.slice none 0 0),(0:Int),(0:Int)⟩:ai):=⟨[.bool false],_,rfl,rfl,⟨([.int .i64 0]++[.int .i64 0]++[.int .i64 0]++[]),_,rfl,⟨[.int .i64 0],_,rfl,rfl,⟨[.int .i64 0],_,rfl,rfl,⟨[.int .i64 0],_,rfl,rfl,rfl⟩⟩⟩,⟨[.slice none 0 0],_,rfl,⟨rfl,rfl⟩,⟨[.int .i64 0],_,rfl,rfl,⟨[.int .i64 0],_,rfl,rfl,rfl⟩⟩⟩⟩⟩
theorem ZT124k:ZT Tryz.prog 124 bt (⟨false,(⟨(0:Int),(0:Int),(0:Int)⟩:ae),(.slice none 0 0),(0:Int),(0:Int)⟩:ai):=⟨(.agg #[.bool false,.int .i64 0,.int .i64 0,.int .i64 0,.slice none 0 0,.int .i64 0,.int .i64 0]:Value),by kernel_rfl,fun F=>aJ (by kernel_rfl) (eS F)⟩
theorem kM (F:Fz):Kd.rd (kInt .i64) F [.int .i64 0] (0:Int):=rfl
theorem ET3:ET Tryz.prog 3 (kInt .i64) (0:Int):=⟨⟨Tryz.t3,(.int .i64 0:Value),by kernel_rfl,by kernel_rfl,by kernel_rfl,by decide,fun F=>aJ (by kernel_rfl) (kM F)⟩⟩
theorem sz3:(Tryz.prog.info? 3).map (·.size)=some (Kd.n (kInt .i64)):=by kernel_rfl
theorem eW:fldB Tryz.prog 124 3=some (5,0+1):=by kernel_rfl
theorem bq:UpF ba 3 ⟨kInt .i64,ai.Place⟩ (fun x y=>{x with Place:=y}):=⟨rfl,fun _ _=>rfl,fun _ _=>⟨rfl,⟨rfl,⟨rfl,(by intro q hq;simp only[List.mem_cons,List.not_mem_nil,or_false] at hq;rcases hq with rfl<;>rfl)⟩⟩⟩⟩
theorem eX:fldB Tryz.prog 124 4=some (6,0+1):=by kernel_rfl
theorem br:UpF ba 4 ⟨kInt .i64,ai.Err⟩ (fun x y=>{x with Err:=y}):=⟨rfl,fun _ _=>rfl,fun _ _=>⟨rfl,⟨rfl,⟨rfl,⟨rfl,(fun q hq=>by simp at hq)⟩⟩⟩⟩⟩
theorem kt124:KT Tryz.prog 124 av:=⟨by kernel_rfl,by kernel_rfl⟩
theorem sz124k:(Tryz.prog.info? 124).map (·.size)=some (Kd.n av):=by kernel_rfl
theorem me:fldB Tryz.prog 124 0=some (0,0+1):=by kernel_rfl
theorem ey:UpF ba 0 ⟨gF,ai.Head⟩ (fun x y=>{x with Head:=y}):=⟨rfl,fun _ _=>rfl,fun _ _=>(by intro q hq;simp only[List.mem_cons,List.not_mem_nil,or_false] at hq;rcases hq with rfl|rfl|rfl|rfl<;>rfl)⟩
theorem sz4k:(Tryz.prog.info? 4).map (·.size)=some (Kd.n gF):=by kernel_rfl
theorem mf:fldB Tryz.prog 124 1=some (1,2+1):=by kernel_rfl
theorem eF:UpF ba 1 ⟨aM,ai.Header⟩ (fun x y=>{x with Header:=y}):=⟨rfl,fun _ _=>rfl,fun _ _=>⟨rfl,(by intro q hq;simp only[List.mem_cons,List.not_mem_nil,or_false] at hq;rcases hq with rfl|rfl|rfl<;>rfl)⟩⟩
theorem kW:fldB Tryz.prog 124 2=some (4,0+1):=by kernel_rfl
theorem cU:UpF ba 2 ⟨kRaw,ai.Cells⟩ (fun x y=>{x with Cells:=y}):=⟨rfl,fun _ _=>rfl,fun _ _=>⟨rfl,⟨rfl,(by intro q hq;simp only[List.mem_cons,List.not_mem_nil,or_false] at hq;rcases hq with rfl|rfl<;>rfl)⟩⟩⟩
theorem kt22k:KT Tryz.prog 22 kRaw:=⟨by kernel_rfl,by kernel_rfl⟩
theorem sz22k:(Tryz.prog.info? 22).map (·.size)=some (Kd.n kRaw):=by kernel_rfl
theorem cz:UpF aC 3 ⟨kInt .i64,ab.Place⟩ (fun x y=>{x with Place:=y}):=⟨rfl,fun _ _=>rfl,fun _ _=>⟨rfl,⟨rfl,⟨rfl,(by intro q hq;simp only[List.mem_cons,List.not_mem_nil,or_false] at hq;rcases hq with rfl<;>rfl)⟩⟩⟩⟩
theorem cF:UpF aC 4 ⟨kInt .i64,ab.Err⟩ (fun x y=>{x with Err:=y}):=⟨rfl,fun _ _=>rfl,fun _ _=>⟨rfl,⟨rfl,⟨rfl,⟨rfl,(fun q hq=>by simp at hq)⟩⟩⟩⟩⟩
theorem fb124k:fldB Tryz.prog 124 4=some (offF aC 4,0+1):=by kernel_rfl
theorem fb124k1:fldB Tryz.prog 124 3=some (offF aC 3,0+1):=by kernel_rfl
theorem fb124k2:fldB Tryz.prog 124 1=some (offF aC 1,2+1):=by kernel_rfl
theorem fb124k3:fldB Tryz.prog 124 2=some (offF aC 2,0+1):=by kernel_rfl
theorem rw2:RdW Tryz.prog 2 (kInt .i64) (gInt .i64) bOne:=kR Tryz.underlying2
theorem rw3:RdW Tryz.prog 3 (kInt .i64) (gInt .i64) bOne:=kR Tryz.underlying3
theorem cof2:Tryz.prog.cellsOf 2=1:=by kernel_rfl
theorem cof3:Tryz.prog.cellsOf 3=1:=by kernel_rfl
theorem cof35:Tryz.prog.cellsOf 35=3:=by kernel_rfl
def eY (x:ae):Prop:=(gInt .i64) x.Round∧(gInt .i64) x.Epoch∧(gInt .i64) x.Left∧True
def dY (x:ae):Nat:=bOne x.Round+(bOne x.Epoch+(bOne x.Left+0))
theorem rw35:RdW Tryz.prog 35 aM eY dY:=by
 intro H enc W _ B BA hB fuel cs x h
 obtain⟨hl,ds,hx,hf0⟩:=mo Tryz.underlying35 h
 obtain⟨d0,ds0,e0,⟨n0,p0,t0⟩,hf1⟩:=FsRd.cons hf0
 subst e0
 obtain⟨y0,r0,g0,b0⟩:=rw2 hB t0
 obtain⟨d1,ds1,e1,⟨n1,p1,t1⟩,hf2⟩:=FsRd.cons hf1
 subst e1
 obtain⟨y1,r1,g1,b1⟩:=rw2 hB t1
 obtain⟨d2,ds2,e2,⟨n2,p2,t2⟩,hf3⟩:=FsRd.cons hf2
 subst e2
 obtain⟨y2,r2,g2,b2⟩:=rw3 hB t2
 have hnil:=FsRd.nil hf3
 subst hnil
 refine⟨⟨y0,y1,y2⟩,lA (iF cof2 r0 (iF cof2 r1 (iF cof3 r2 (mq (hl.trans cof35) rfl)))),⟨g0,g1,g2,trivial⟩,?_⟩
 have:=hB.agg [d0,d1,d2]
 rw[hx]
 dsimp only at b0 b1 b2
 simp only[hB.cons,hB.nil] at this
 simp only[dY];omega
theorem rw5:RdW Tryz.prog 5 (kInt .u8) (gInt .u8) bOne:=kR Tryz.underlying5
theorem cof5:Tryz.prog.cellsOf 5=1:=by kernel_rfl
theorem rw24:RdW Tryz.prog 24 (kSl (kInt .u8)) (gSl (gInt .u8)) (bSl bOne):=mH (K:=kInt .u8) Tryz.underlying24 cof5 (by decide) rw5
theorem cof24:Tryz.prog.cellsOf 24=1:=by kernel_rfl
theorem rw22:RdW Tryz.prog 22 (kSl (kSl (kInt .u8))) (gSl (gSl (gInt .u8))) (bSl (bSl bOne)):=mH (K:=kSl (kInt .u8)) Tryz.underlying22 cof24 (by decide) rw24
abbrev K0:=(kSl (kSl (kInt .u8)))
abbrev K1:=(kArr 8 (kInt .u32))
abbrev K2:=(kArr 32 (kInt .u8))
abbrev K3:=(kArr 16 (kInt .u8))
abbrev K4:=(kArr 4 (kInt .u8))
abbrev K5:=(kSl (kInt .u8))
abbrev K6:=(kInt .u32)
abbrev K7:=(kInt .u8)
end Go.Proofs.YtdkfkpbijdimkaaGreatDoor

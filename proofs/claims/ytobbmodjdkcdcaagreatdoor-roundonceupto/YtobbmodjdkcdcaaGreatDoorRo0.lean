import Derived.Test.YtobbmodjdkcdcaaGreatDoorSimD
import Derived.Test.YtobbmodjdkcdcaaGreatDoorRows
import Derived.Test.YtobbmodjdkcdcaaGreatDoorLawSrt
set_option linter.all false
set_option autoImplicit true
set_option relaxedAutoImplicit true
set_option maxRecDepth 20000
namespace Go.Proofs.YtobbmodjdkcdcaaGreatDoor
open Go Go.Sim Go.ChangeShapes Go.WideShapes Go.ChangeAt Go.RowKit Go.Proofs.Tryz
theorem J:a=a:=rfl
def U2:=underlying2
def U3:=underlying3
def U5:=underlying5
def U9:=underlying9
def U22:=underlying22
def U25:=underlying25
def U44:=underlying44
def U59:=underlying59
def U64:=underlying64
def U68:=underlying68
def U71:=underlying71
def U85:=underlying85
def U106:=underlying106
def U142:=underlying142
def U155:=underlying155
def U164:=underlying164
def U179:=underlying179
def U240:=underlying240
def U241:=underlying241
def U249:=underlying249
def U250:=underlying250
def U251:=underlying251
def U279:=underlying279
def U283:=underlying283
def U284:=underlying284
def U319:=underlying319
variable [Fu]
structure aj where
 Number:Int
 Tags:List (List Int)
abbrev iN:List (Fld aj):=[⟨kInt .i64,aj.Number⟩,⟨kSl (kArr 16 (kInt .u8)),aj.Tags⟩]
abbrev aJ:Kd aj:=kSt iN
instance:ZK aJ (⟨0,[]⟩:aj):=zs
structure ae where
 Newest:Int
 Epochs:List aj
abbrev eQ:List (Fld ae):=[⟨kInt .i64,ae.Newest⟩,⟨kSl aJ,ae.Epochs⟩]
abbrev ak:Kd ae:=kSt eQ
instance:ZK ak (⟨0,[]⟩:ae):=zs
structure aT where
 Noise:List Int
 Braid:List Int
 Chunks:List (List Int)
abbrev jU:List (Fld aT):=[⟨kSl (kInt .u8),aT.Noise⟩,⟨kSl (kInt .u8),aT.Braid⟩,⟨kSl (kSl (kInt .u8)),aT.Chunks⟩]
abbrev fh:Kd aT:=kSt jU
instance:ZK fh (⟨[],[],[]⟩:aT):=zs
structure af where
 Round:Int
 Epoch:Int
 Left:Int
abbrev f8:List (Fld af):=[⟨kInt .i64,af.Round⟩,⟨kInt .i64,af.Epoch⟩,⟨kInt .i64,af.Left⟩]
abbrev cN:Kd af:=kSt f8
instance:ZK cN (⟨0,0,0⟩:af):=zs
structure aA where
 Header:af
 Cells:List (List Int)
abbrev lB:List (Fld aA):=[⟨cN,aA.Header⟩,⟨kSl (kSl (kInt .u8)),aA.Cells⟩]
abbrev bu:Kd aA:=kSt lB
instance:ZK bu (⟨(⟨0,0,0⟩:af),[]⟩:aA):=zs
structure au where
 Master:List Int
 Left:Int
 Span:Int
 Room:Int
 Num:Int
 Den:Int
 Noise:Int
 Chunks:Int
 Workers:Int
 Cap:Int
 Shards:Int
abbrev db:List (Fld au):=[⟨kSl (kInt .u8),au.Master⟩,⟨kInt .i64,au.Left⟩,⟨kInt .i64,au.Span⟩,⟨kInt .i64,au.Room⟩,⟨kInt .i64,au.Num⟩,⟨kInt .i64,au.Den⟩,⟨kInt .i64,au.Noise⟩,⟨kInt .i64,au.Chunks⟩,⟨kInt .i64,au.Workers⟩,⟨kInt .i64,au.Cap⟩,⟨kInt .i64,au.Shards⟩]
abbrev aZ:Kd au:=kSt db
instance:ZK aZ (⟨[],0,0,0,0,0,0,0,0,0,0⟩:au):=zs
structure aO where
 Next:Int
 Window:ae
abbrev jV:List (Fld aO):=[⟨kInt .i64,aO.Next⟩,⟨ak,aO.Window⟩]
abbrev bP:Kd aO:=kSt jV
instance:ZK bP (⟨0,(⟨0,[]⟩:ae)⟩:aO):=zs
structure bV where
 C:au
 S:aO
 Raw:List Int
 Tape:List Int
abbrev gF:List (Fld bV):=[⟨aZ,bV.C⟩,⟨bP,bV.S⟩,⟨kSl (kInt .u8),bV.Raw⟩,⟨kSl (kInt .u8),bV.Tape⟩]
abbrev cZ:Kd bV:=kSt gF
structure av where
 In:Int
 Malformed:Int
 Replays:Int
 Noise:Int
 Out:Int
abbrev dV:List (Fld av):=[⟨kInt .i64,av.In⟩,⟨kInt .i64,av.Malformed⟩,⟨kInt .i64,av.Replays⟩,⟨kInt .i64,av.Noise⟩,⟨kInt .i64,av.Out⟩]
abbrev cr:Kd av:=kSt dV
instance:ZK cr (⟨0,0,0,0,0⟩:av):=zs
structure aX where
 Out:List Int
 State:aO
 Report:av
 Err:Int
 At:Int
abbrev iF:List (Fld aX):=[⟨kSl (kInt .u8),aX.Out⟩,⟨bP,aX.State⟩,⟨cr,aX.Report⟩,⟨kInt .i64,aX.Err⟩,⟨kInt .i64,aX.At⟩]
abbrev cQ:Kd aX:=kSt iF
instance:ZK cQ (⟨[],(⟨0,(⟨0,[]⟩:ae)⟩:aO),(⟨0,0,0,0,0⟩:av),0,0⟩:aX):=zs
structure an where
 a:Int
 b:Int
abbrev jW:List (Fld an):=[⟨kInt .u32,an.a⟩,⟨kInt .u32,an.b⟩]
abbrev cY:Kd an:=kSt jW
instance:ZK cY (⟨0,0⟩:an):=zs
structure aG where
 field:List Int
 at_:Int
 stage:Int
 left:Int
 header:af
 sum:an
 err:Int
 place:Int
abbrev yx:List (Fld aG):=[⟨kSl (kInt .u8),aG.field⟩,⟨kInt .i64,aG.at_⟩,⟨kInt .i64,aG.stage⟩,⟨kInt .i64,aG.left⟩,⟨cN,aG.header⟩,⟨cY,aG.sum⟩,⟨kInt .i64,aG.err⟩,⟨kInt .i64,aG.place⟩]
abbrev FD:Kd aG:=kSt yx
structure ao where
 field:Value
 at_:Int
 stage:Int
 left:Int
 header:af
 sum:an
 err:Int
 place:Int
abbrev da:List (Fld ao):=[⟨kRaw,ao.field⟩,⟨kInt .i64,ao.at_⟩,⟨kInt .i64,ao.stage⟩,⟨kInt .i64,ao.left⟩,⟨cN,ao.header⟩,⟨cY,ao.sum⟩,⟨kInt .i64,ao.err⟩,⟨kInt .i64,ao.place⟩]
abbrev bf:Kd ao:=kSt da
instance:ZK bf (⟨(.slice none 0 0),0,0,0,(⟨0,0,0⟩:af),(⟨0,0⟩:an),0,0⟩:ao):=zs
structure aK where
 Newest:Int
 Epochs:Value
abbrev fX:List (Fld aK):=[⟨kInt .i64,aK.Newest⟩,⟨kRaw,aK.Epochs⟩]
abbrev bw:Kd aK:=kSt fX
instance:ZK bw (⟨0,(.slice none 0 0)⟩:aK):=zs
structure eS where
 Next:Int
 Window:aK
abbrev kR:List (Fld eS):=[⟨kInt .i64,eS.Next⟩,⟨bw,eS.Window⟩]
abbrev tF:Kd eS:=kSt kR
structure ai where
 Cell:List Int
 Replay:List Int
abbrev jg:List (Fld ai):=[⟨kSl (kInt .u8),ai.Cell⟩,⟨kArr 16 (kInt .u8),ai.Replay⟩]
abbrev aM:Kd ai:=kSt jg
instance:ZK aM (⟨[],(List.replicate 16 0)⟩:ai):=zs
structure aE where
 words:List Int
 tail:List Int
 n:Int
abbrev jX:List (Fld aE):=[⟨kArr 8 (kInt .u32),aE.words⟩,⟨kArr 64 (kInt .u8),aE.tail⟩,⟨kInt .u64,aE.n⟩]
abbrev cb:Kd aE:=kSt jX
instance:ZK cb (⟨(List.replicate 8 0),(List.replicate 64 0),0⟩:aE):=zs
structure az where
 Box:List Int
 Mac:List Int
 Replay:List Int
abbrev ee:List (Fld az):=[⟨kArr 16 (kInt .u8),az.Box⟩,⟨kArr 32 (kInt .u8),az.Mac⟩,⟨kArr 32 (kInt .u8),az.Replay⟩]
abbrev bo:Kd az:=kSt ee
instance:ZK bo (⟨(List.replicate 16 0),(List.replicate 32 0),(List.replicate 32 0)⟩:az):=zs
structure aS where
 keys:List (List Int)
abbrev kS:List (Fld aS):=[⟨kArr 11 (kArr 16 (kInt .u8)),aS.keys⟩]
abbrev aI:Kd aS:=kSt kS
instance:ZK aI (⟨(List.replicate 11 (List.replicate 16 0))⟩:aS):=zs
structure cl where
 Noise:List Int
 Braid:List Int
 Chunks:Value
abbrev mi:List (Fld cl):=[⟨kSl (kInt .u8),cl.Noise⟩,⟨kSl (kInt .u8),cl.Braid⟩,⟨kRaw,cl.Chunks⟩]
abbrev gu:Kd cl:=kSt mi
instance:ZK gu (⟨[],[],(.slice none 0 0)⟩:cl):=zs
structure bQ where
 parts:aT
 sizes:List Int
 starts:List Int
abbrev fC:List (Fld bQ):=[⟨fh,bQ.parts⟩,⟨kSl (kInt .i64),bQ.sizes⟩,⟨kSl (kInt .i64),bQ.starts⟩]
abbrev iO:Kd bQ:=kSt fC
instance:ZK iO (⟨(⟨[],[],[]⟩:aT),[],[]⟩:bQ):=zs
structure bj where
 parts:aT
 sizes:List Int
 starts:Value
abbrev iA:List (Fld bj):=[⟨fh,bj.parts⟩,⟨kSl (kInt .i64),bj.sizes⟩,⟨kRaw,bj.starts⟩]
abbrev iP:Kd bj:=kSt iA
instance:ZK iP (⟨(⟨[],[],[]⟩:aT),[],(.slice none 0 0)⟩:bj):=zs
structure aQ where
 bytes:List Int
 used:Int
abbrev mQ:List (Fld aQ):=[⟨kStr,aQ.bytes⟩,⟨kInt .i64,aQ.used⟩]
abbrev cg:Kd aQ:=kSt mQ
instance:ZK cg (⟨[],0⟩:aQ):=zs
structure aD where
 Number:Int
 Tags:Value
abbrev kg:List (Fld aD):=[⟨kInt .i64,aD.Number⟩,⟨kRaw,aD.Tags⟩]
abbrev aN:Kd aD:=kSt kg
instance:ZK aN (⟨0,(.slice none 0 0)⟩:aD):=zs
structure ah where
 Head:Bool
 Header:af
 Cells:List (List Int)
 Place:Int
 Err:Int
abbrev bz:List (Fld ah):=[⟨mW,ah.Head⟩,⟨cN,ah.Header⟩,⟨kSl (kSl (kInt .u8)),ah.Cells⟩,⟨kInt .i64,ah.Place⟩,⟨kInt .i64,ah.Err⟩]
abbrev ba:Kd ah:=kSt bz
instance:ZK ba (⟨false,(⟨0,0,0⟩:af),[],0,0⟩:ah):=zs
structure aC where
 Head:Bool
 Header:af
 Cells:Value
 Place:Int
 Err:Int
abbrev dc:List (Fld aC):=[⟨mW,aC.Head⟩,⟨cN,aC.Header⟩,⟨kRaw,aC.Cells⟩,⟨kInt .i64,aC.Place⟩,⟨kInt .i64,aC.Err⟩]
abbrev el:Kd aC:=kSt dc
instance:ZK el (⟨false,(⟨0,0,0⟩:af),(.slice none 0 0),0,0⟩:aC):=zs
structure dx where
 Header:af
 Cells:Value
abbrev mj:List (Fld dx):=[⟨cN,dx.Header⟩,⟨kRaw,dx.Cells⟩]
abbrev lh:Kd dx:=kSt mj
instance:ZK lh (⟨(⟨0,0,0⟩:af),(.slice none 0 0)⟩:dx):=zs
abbrev str0:ByteArray:=⟨#[67,72,82,78,1,2,0,0,0,0,0,0,0,0,0,7,0,0,0,0,0,0,0,1,26,196,1,55]⟩
theorem Fg:rdOf (.raw (.string str0)) kStr [67,72,82,78,1,2,0,0,0,0,0,0,0,0,0,7,0,0,0,0,0,0,0,1,26,196,1,55]:=rdS kr
abbrev str1:ByteArray:=⟨#[67,72,82,78,1,1,0,0,0,0,0,0,0,0,0,7,0,0,0,0,0,0,0,1,26,177,1,54]⟩
theorem Fh:rdOf (.raw (.string str1)) kStr [67,72,82,78,1,1,0,0,0,0,0,0,0,0,0,7,0,0,0,0,0,0,0,1,26,177,1,54]:=rdS kr
theorem ZT24:ZT prog 24 aZ (⟨[],(0:Int),(0:Int),(0:Int),(0:Int),(0:Int),(0:Int),(0:Int),(0:Int),(0:Int),(0:Int)⟩:au):=zq
theorem AT5:AT prog 5 (kInt .u8) (0:Int) 1:=aq
theorem BT24:BT prog 24 db (⟨[],(0:Int),(0:Int),(0:Int),(0:Int),(0:Int),(0:Int),(0:Int),(0:Int),(0:Int),(0:Int)⟩:au):=bq
theorem sz24k:(prog.info? 24).map (·.size)=some (Kd.n aZ):=kr
theorem kt24:KT prog 24 aZ:=kq
theorem BT29:BT prog 29 jV (⟨(0:Int),(⟨(0:Int),[]⟩:ae)⟩:aO):=bq
theorem ZT37:ZT prog 37 cQ (⟨[],(⟨(0:Int),(⟨(0:Int),[]⟩:ae)⟩:aO),(⟨(0:Int),(0:Int),(0:Int),(0:Int),(0:Int)⟩:av),(0:Int),(0:Int)⟩:aX):=zq
theorem kt29:KT prog 29 bP:=kq
theorem ZT46:ZT prog 46 bu (⟨(⟨(0:Int),(0:Int),(0:Int)⟩:af),[]⟩:aA):=zq
theorem ZT27:ZT prog 27 ak (⟨(0:Int),[]⟩:ae):=zq
theorem fb24k:fldB prog 24 0=some (offF db 0,0+1):=kr
theorem kt22:KT prog 22 (kSl (kInt .u8)):=kq
theorem fb24k1:fldB prog 24 1=some (offF db 1,0+1):=kr
theorem kt3:KT prog 3 (kInt .i64):=kq
theorem ci (d:Nat) (e:Bool) (k:Under F0 n ((d,.raw (.bool e))::E) L (wpList P ops Q rest)) (h:Under F0 n ((d,.raw (.bool e))::E) L (wpList P ops Q rest)→Under F0 n E L (wpList P ops Q (o0::o1::o2::o3::rest))):Under F0 n E L (wpList P ops Q (o0::o1::o2::o3::rest)):=h k
theorem F3 (d:Nat) (e:Bool) (k:aL F0 n ((d,.raw (.bool e))::E) (wpQuiet P ops C Qa rest)) (h:aL F0 n ((d,.raw (.bool e))::E) (wpQuiet P ops C Qa rest)→aL F0 n E (wpQuiet P ops C Qa (o0::o1::o2::o3::rest))):aL F0 n E (wpQuiet P ops C Qa (o0::o1::o2::o3::rest)):=h k
theorem fb24k2:fldB prog 24 2=some (offF db 2,0+1):=kr
theorem fb24k3:fldB prog 24 3=some (offF db 3,0+1):=kr
theorem fb24k4:fldB prog 24 5=some (offF db 5,0+1):=kr
theorem fb24k5:fldB prog 24 4=some (offF db 4,0+1):=kr
theorem fb24k6:fldB prog 24 6=some (offF db 6,0+1):=kr
theorem fb24k7:fldB prog 24 7=some (offF db 7,0+1):=kr
theorem fb24k8:fldB prog 24 8=some (offF db 8,0+1):=kr
theorem fb24k9:fldB prog 24 9=some (offF db 9,0+1):=kr
theorem fb24k10:fldB prog 24 10=some (offF db 10,0+1):=kr
theorem m6 (d:Nat) (e:Bool) (k:Under F0 n ((d,.raw (.bool e))::E) L (wpList P ops Q rest)) (h:Under F0 n ((d,.raw (.bool e))::E) L (wpList P ops Q rest)→Under F0 n E L (wpList P ops Q (o0::o1::o2::o3::o4::o5::rest))):Under F0 n E L (wpList P ops Q (o0::o1::o2::o3::o4::o5::rest)):=h k
theorem F4 (d:Nat) (e:Bool) (k:aL F0 n ((d,.raw (.bool e))::E) (wpQuiet P ops C Qa rest)) (h:aL F0 n ((d,.raw (.bool e))::E) (wpQuiet P ops C Qa rest)→aL F0 n E (wpQuiet P ops C Qa (o0::o1::o2::o3::o4::o5::rest))):aL F0 n E (wpQuiet P ops C Qa (o0::o1::o2::o3::o4::o5::rest)):=h k
theorem fb29k:fldB prog 29 0=some (offF jV 0,0+1):=kr
theorem kt2:KT prog 2 (kInt .i64):=kq
theorem fb29k1:fldB prog 29 1=some (offF jV 1,1+1):=kr
theorem kt27:KT prog 27 ak:=kq
theorem fb27k:fldB prog 27 0=some (offF eQ 0,0+1):=kr
theorem fb27k1:fldB prog 27 1=some (offF eQ 1,0+1):=kr
theorem kt25:KT prog 25 (kSl aJ):=kq
theorem sz152:(prog.info? 152).map (·.size)=some (Kd.n aJ):=kr
theorem kt152:KT prog 152 aJ:=kq
theorem ZT152:ZT prog 152 aJ (⟨(0:Int),[]⟩:aj):=zq
theorem sz152k:(prog.info? 152).map (·.size)=some (Kd.n aJ):=kr
theorem fb152k:fldB prog 152 1=some (offF iN 1,0+1):=kr
theorem kt85:KT prog 85 (kSl (kArr 16 (kInt .u8))):=kq
theorem sz64:(prog.info? 64).map (·.size)=some (Kd.n (kArr 16 (kInt .u8))):=kr
theorem kt64:KT prog 64 (kArr 16 (kInt .u8)):=kq
theorem ZT64:ZT prog 64 (kArr 16 (kInt .u8)) (List.replicate 16 (0:Int)):=zq
theorem sz64k:(prog.info? 64).map (·.size)=some (Kd.n (kArr 16 (kInt .u8))):=kr
theorem kt5:KT prog 5 (kInt .u8):=kq
theorem key64:KeyK prog 64 (kArr 16 (kInt .u8)):=KeyK.ints U64 U5 kt5
theorem fb152k1:fldB prog 152 0=some (offF iN 0,0+1):=kr
theorem F5 (d:Nat) (e:Bool) (k:Under F0 n ((d,.raw (.bool e))::E) L (wpList P ops Q rest)) (h:Under F0 n ((d,.raw (.bool e))::E) L (wpList P ops Q rest)→Under F0 n E L (wpList P ops Q (o0::o1::o2::o3::o4::o5::o6::o7::o8::o9::o10::rest))):Under F0 n E L (wpList P ops Q (o0::o1::o2::o3::o4::o5::o6::o7::o8::o9::o10::rest)):=h k
theorem vK (d:Nat) (e:Bool) (k:aL F0 n ((d,.raw (.bool e))::E) (wpQuiet P ops C Qa rest)) (h:aL F0 n ((d,.raw (.bool e))::E) (wpQuiet P ops C Qa rest)→aL F0 n E (wpQuiet P ops C Qa (o0::o1::o2::o3::o4::o5::o6::o7::o8::o9::o10::rest))):aL F0 n E (wpQuiet P ops C Qa (o0::o1::o2::o3::o4::o5::o6::o7::o8::o9::o10::rest)):=h k
theorem m7 (d:Nat) (e:Bool) (k:Under F0 n ((d,.raw (.bool e))::E) L (wpList P ops Q rest)) (h:Under F0 n ((d,.raw (.bool e))::E) L (wpList P ops Q rest)→Under F0 n E L (wpList P ops Q (o0::o1::o2::o3::o4::rest))):Under F0 n E L (wpList P ops Q (o0::o1::o2::o3::o4::rest)):=h k
theorem Fi (d:Nat) (e:Bool) (k:aL F0 n ((d,.raw (.bool e))::E) (wpQuiet P ops C Qa rest)) (h:aL F0 n ((d,.raw (.bool e))::E) (wpQuiet P ops C Qa rest)→aL F0 n E (wpQuiet P ops C Qa (o0::o1::o2::o3::o4::rest))):aL F0 n E (wpQuiet P ops C Qa (o0::o1::o2::o3::o4::rest)):=h k
theorem F6 (d:Nat) (e:Bool) (k:Under F0 n ((d,.raw (.bool e))::E) L (wpList P ops Q rest)) (h:Under F0 n ((d,.raw (.bool e))::E) L (wpList P ops Q rest)→Under F0 n E L (wpList P ops Q (o0::o1::o2::o3::o4::o5::o6::o7::o8::o9::o10::o11::o12::o13::o14::rest))):Under F0 n E L (wpList P ops Q (o0::o1::o2::o3::o4::o5::o6::o7::o8::o9::o10::o11::o12::o13::o14::rest)):=h k
theorem Ej (d:Nat) (e:Bool) (k:aL F0 n ((d,.raw (.bool e))::E) (wpQuiet P ops C Qa rest)) (h:aL F0 n ((d,.raw (.bool e))::E) (wpQuiet P ops C Qa rest)→aL F0 n E (wpQuiet P ops C Qa (o0::o1::o2::o3::o4::o5::o6::o7::o8::o9::o10::o11::o12::o13::o14::rest))):aL F0 n E (wpQuiet P ops C Qa (o0::o1::o2::o3::o4::o5::o6::o7::o8::o9::o10::o11::o12::o13::o14::rest)):=h k
theorem yy (d:Nat) (e:Bool) (k:Under F0 n ((d,.raw (.bool e))::E) L (wpList P ops Q rest)) (h:Under F0 n ((d,.raw (.bool e))::E) L (wpList P ops Q rest)→Under F0 n E L (wpList P ops Q (o0::o1::o2::o3::o4::o5::o6::o7::rest))):Under F0 n E L (wpList P ops Q (o0::o1::o2::o3::o4::o5::o6::o7::rest)):=h k
theorem Fj (d:Nat) (e:Bool) (k:aL F0 n ((d,.raw (.bool e))::E) (wpQuiet P ops C Qa rest)) (h:aL F0 n ((d,.raw (.bool e))::E) (wpQuiet P ops C Qa rest)→aL F0 n E (wpQuiet P ops C Qa (o0::o1::o2::o3::o4::o5::o6::o7::rest))):aL F0 n E (wpQuiet P ops C Qa (o0::o1::o2::o3::o4::o5::o6::o7::rest)):=h k
theorem sz5:(prog.info? 5).map (·.size)=some (Kd.n (kInt .u8)):=kr
theorem nx230:Extern.findNext Tryz.f230=none:=kr
theorem fd230:Extern.find Tryz.f230=some Extern.BytealgCompare.compare:=kr
theorem nb230:Tryz.f230.body.isNone=true:=kr
theorem nn230 : (Tryz.f230.name == "runtime.NumGoroutine") = false := kr
theorem cM (d:Nat) (e:Bool) (k:Under F0 n ((d,.raw (.bool e))::E) L (wpList P ops Q rest)) (h:Under F0 n ((d,.raw (.bool e))::E) L (wpList P ops Q rest)→Under F0 n E L (wpList P ops Q (o0::o1::o2::rest))):Under F0 n E L (wpList P ops Q (o0::o1::o2::rest)):=h k
theorem F7 (d:Nat) (e:Bool) (k:aL F0 n ((d,.raw (.bool e))::E) (wpQuiet P ops C Qa rest)) (h:aL F0 n ((d,.raw (.bool e))::E) (wpQuiet P ops C Qa rest)→aL F0 n E (wpQuiet P ops C Qa (o0::o1::o2::rest))):aL F0 n E (wpQuiet P ops C Qa (o0::o1::o2::rest)):=h k
theorem By (d:Nat) (e:Bool) (k:Under F0 n ((d,.raw (.bool e))::E) L (wpList P ops Q rest)) (h:Under F0 n ((d,.raw (.bool e))::E) L (wpList P ops Q rest)→Under F0 n E L (wpList P ops Q (o0::o1::o2::o3::o4::o5::o6::o7::o8::rest))):Under F0 n E L (wpList P ops Q (o0::o1::o2::o3::o4::o5::o6::o7::o8::rest)):=h k
theorem F8 (d:Nat) (e:Bool) (k:aL F0 n ((d,.raw (.bool e))::E) (wpQuiet P ops C Qa rest)) (h:aL F0 n ((d,.raw (.bool e))::E) (wpQuiet P ops C Qa rest)→aL F0 n E (wpQuiet P ops C Qa (o0::o1::o2::o3::o4::o5::o6::o7::o8::rest))):aL F0 n E (wpQuiet P ops C Qa (o0::o1::o2::o3::o4::o5::o6::o7::o8::rest)):=h k
theorem kt46:KT prog 46 bu:=kq
theorem BT27:BT prog 27 eQ (⟨(0:Int),[]⟩:ae):=bq
theorem sz46k:(prog.info? 46).map (·.size)=some (Kd.n bu):=kr
theorem sz27k:(prog.info? 27).map (·.size)=some (Kd.n ak):=kr
theorem BT144:BT prog 144 jW (⟨(0:Int),(0:Int)⟩:an):=bq
theorem qm:BT prog 146 da (⟨(.slice none 0 0),(0:Int),(0:Int),(0:Int),(⟨(0:Int),(0:Int),(0:Int)⟩:af),(⟨(0:Int),(0:Int)⟩:an),(0:Int),(0:Int)⟩:ao):=bq
theorem qi:fldB prog 146 6=some (9,0+1):=kr
theorem eF:UpF da 6 ⟨kInt .i64,ao.err⟩ (λx y=>{x with err:=y}):=uq
theorem kt35k:KT prog 35 (kInt .i64):=kq
theorem BTA273:BTA prog 273 10 (kInt .i64) (List.replicate 10 (0:Int)):=baq
theorem jG:fldB prog 146 2=some (2,0+1):=kr
theorem bU:UpF da 2 ⟨kInt .i64,ao.stage⟩ (λx y=>{x with stage:=y}):=uq
theorem kt3k:KT prog 3 (kInt .i64):=kq
theorem li:fldB prog 146 0=some (0,0+1):=kr
theorem cn:UpF da 0 ⟨kRaw,ao.field⟩ (λx y=>{x with field:=y}):=uq
theorem kt22k:KT prog 22 kRaw:=kq
theorem sz22k:(prog.info? 22).map (·.size)=some (Kd.n kRaw):=kr
theorem qj:fldB prog 146 1=some (1,0+1):=kr
theorem eK:UpF da 1 ⟨kInt .i64,ao.at_⟩ (λx y=>{x with at_:=y}):=uq
theorem sz3k:(prog.info? 3).map (·.size)=some (Kd.n (kInt .i64)):=kr
theorem ET5:ET prog 5 (kInt .u8) (0:Int):=eq_q
theorem ET22:ET prog 22 (kSl (kInt .u8)) []:=eq_q
theorem AT22:AT prog 22 (kSl (kInt .u8)) [] 24:=aq
theorem yz:fldB prog 146 5=some (7,1+1):=kr
theorem jK:UpF da 5 ⟨cY,ao.sum⟩ (λx y=>{x with sum:=y}):=uq
theorem kt144k:KT prog 144 cY:=kq
theorem fb144k:fldB prog 144 1=some (offF jW 1,0+1):=kr
theorem kt142:KT prog 142 (kInt .u32):=kq
theorem fb144k1:fldB prog 144 0=some (offF jW 0,0+1):=kr
theorem ZT144:ZT prog 144 cY (⟨(0:Int),(0:Int)⟩:an):=zq
theorem yF:fldB prog 144 0=some (0,0+1):=kr
theorem ml:UpF jW 0 ⟨kInt .u32,an.a⟩ (λx y=>{x with a:=y}):=uq
theorem kt142k:KT prog 142 (kInt .u32):=kq
theorem sz142k:(prog.info? 142).map (·.size)=some (Kd.n (kInt .u32)):=kr
theorem B7:fldB prog 144 1=some (1,0+1):=kr
theorem pK:UpF jW 1 ⟨kInt .u32,an.b⟩ (λx y=>{x with b:=y}):=uq
theorem kt144:KT prog 144 cY:=kq
theorem sz144k:(prog.info? 144).map (·.size)=some (Kd.n cY):=kr
abbrev str2:ByteArray:=⟨#[67,72,82,78]⟩
theorem yK:rdOf (.raw (.string str2)) kStr [67,72,82,78]:=rdS kr
theorem sz5k:(prog.info? 5).map (·.size)=some (Kd.n (kInt .u8)):=kr
theorem kt5k:KT prog 5 (kInt .u8):=kq
theorem rM:fldB prog 146 4=some (4,2+1):=kr
theorem Ek:fldB prog 43 2=some (2,0+1):=kr
theorem fJ:UpF da 4 ⟨cN,ao.header⟩ (λx y=>{x with header:=y}):=uq
theorem oR:UpF f8 2 ⟨kInt .i64,af.Left⟩ (λx y=>{x with Left:=y}):=uq
theorem rN:fldB prog 146 3=some (3,0+1):=kr
theorem fL:UpF da 3 ⟨kInt .i64,ao.left⟩ (λx y=>{x with left:=y}):=uq
theorem vL:fldB prog 43 0=some (0,0+1):=kr
theorem iB:UpF f8 0 ⟨kInt .i64,af.Round⟩ (λx y=>{x with Round:=y}):=uq
theorem sz2k:(prog.info? 2).map (·.size)=some (Kd.n (kInt .i64)):=kr
theorem FN:fldB prog 43 1=some (1,0+1):=kr
theorem tK:UpF f8 1 ⟨kInt .i64,af.Epoch⟩ (λx y=>{x with Epoch:=y}):=uq
theorem sz35k:(prog.info? 35).map (·.size)=some (Kd.n (kInt .i64)):=kr
theorem yL:fldB prog 146 7=some (10,0+1):=kr
theorem jL:UpF da 7 ⟨kInt .i64,ao.place⟩ (λx y=>{x with place:=y}):=uq
theorem kt43k:KT prog 43 cN:=kq
theorem BT46:BT prog 46 lB (⟨(⟨(0:Int),(0:Int),(0:Int)⟩:af),[]⟩:aA):=bq
theorem fb46k:fldB prog 46 0=some (offF lB 0,2+1):=kr
theorem fb43k:fldB prog 43 2=some (offF f8 2,0+1):=kr
theorem fb43k1:fldB prog 43 0=some (offF f8 0,0+1):=kr
theorem fb43k2:fldB prog 43 1=some (offF f8 1,0+1):=kr
theorem mm:BT prog 27 fX (⟨(0:Int),(.slice none 0 0)⟩:aK):=bq
theorem ZT27k:ZT prog 27 bw (⟨(0:Int),(.slice none 0 0)⟩:aK):=zq
theorem sz27k1:(prog.info? 27).map (·.size)=some (Kd.n bw):=kr
theorem FO:fldB prog 27 0=some (0,0+1):=kr
theorem qO:UpF fX 0 ⟨kInt .i64,aK.Newest⟩ (λx y=>{x with Newest:=y}):=uq
theorem kt2k:KT prog 2 (kInt .i64):=kq
theorem gv:fldB prog 27 1=some (1,0+1):=kr
theorem aU:UpF fX 1 ⟨kRaw,aK.Epochs⟩ (λx y=>{x with Epochs:=y}):=uq
theorem kt25k:KT prog 25 kRaw:=kq
theorem ET64:ET prog 64 (kArr 16 (kInt .u8)) (List.replicate 16 (0:Int)):=eq_q
theorem AT64:AT prog 64 (kArr 16 (kInt .u8)) (List.replicate 16 (0:Int)) 16:=aq
theorem BT152:BT prog 152 iN (⟨(0:Int),[]⟩:aj):=bq
theorem ET152:ET prog 152 aJ (⟨(0:Int),[]⟩:aj):=eq_q
theorem AT152:AT prog 152 aJ (⟨(0:Int),[]⟩:aj) 32:=aq
theorem sz25k:(prog.info? 25).map (·.size)=some (Kd.n kRaw):=kr
theorem ZT29:ZT prog 29 bP (⟨(0:Int),(⟨(0:Int),[]⟩:ae)⟩:aO):=zq
theorem vM:fldB prog 29 1=some (1,1+1):=kr
theorem vN:UpF jV 1 ⟨ak,aO.Window⟩ (λx y=>{x with Window:=y}):=uq
theorem tL:UpF eQ 1 ⟨kSl aJ,ae.Epochs⟩ (λx y=>{x with Epochs:=y}):=uq
theorem kt25k1:KT prog 25 (kSl aJ):=kq
theorem gx:UpF kR 1 ⟨bw,eS.Window⟩ (λx y=>{x with Window:=y}):=uq
theorem qk:fldB prog 152 1=some (1,0+1):=kr
theorem kh:UpF iN 1 ⟨kSl (kArr 16 (kInt .u8)),aj.Tags⟩ (λx y=>{x with Tags:=y}):=uq
theorem kt85k:KT prog 85 (kSl (kArr 16 (kInt .u8))):=kq
theorem sz85k:(prog.info? 85).map (·.size)=some (Kd.n (kSl (kArr 16 (kInt .u8)))):=kr
theorem sz29k:(prog.info? 29).map (·.size)=some (Kd.n bP):=kr
theorem BT37:BT prog 37 iF (⟨[],(⟨(0:Int),(⟨(0:Int),[]⟩:ae)⟩:aO),(⟨(0:Int),(0:Int),(0:Int),(0:Int),(0:Int)⟩:av),(0:Int),(0:Int)⟩:aX):=bq
theorem sz37k:(prog.info? 37).map (·.size)=some (Kd.n cQ):=kr
theorem kt37:KT prog 37 cQ:=kq
theorem kt27k:KT prog 27 ak:=kq
theorem ZT34:ZT prog 34 cr (⟨(0:Int),(0:Int),(0:Int),(0:Int),(0:Int)⟩:av):=zq
theorem BT34:BT prog 34 dV (⟨(0:Int),(0:Int),(0:Int),(0:Int),(0:Int)⟩:av):=bq
theorem sz34k:(prog.info? 34).map (·.size)=some (Kd.n cr):=kr
theorem kt34:KT prog 34 cr:=kq
theorem ZT179:ZT prog 179 (kArr 32 (kInt .u8)) (List.replicate 32 (0:Int)):=zq
theorem ZT253:ZT prog 253 cb (⟨(List.replicate 8 (0:Int)),(List.replicate 64 (0:Int)),(0:Int)⟩:aE):=zq
theorem ZT251:ZT prog 251 (kArr 64 (kInt .u8)) (List.replicate 64 (0:Int)):=zq
theorem BT253:BT prog 253 jX (⟨(List.replicate 8 (0:Int)),(List.replicate 64 (0:Int)),(0:Int)⟩:aE):=bq
theorem sz253k:(prog.info? 253).map (·.size)=some (Kd.n cb):=kr
theorem kt253:KT prog 253 cb:=kq
theorem ql:fldB prog 253 2=some (72,0+1):=kr
theorem gK:UpF jX 2 ⟨kInt .u64,aE.n⟩ (λx y=>{x with n:=y}):=uq
theorem kt71k:KT prog 71 (kInt .u64):=kq
theorem ZT250:ZT prog 250 (kArr 8 (kInt .u32)) (List.replicate 8 (0:Int)):=zq
theorem BTA250:BTA prog 250 8 (kInt .u32) (List.replicate 8 (0:Int)):=baq
theorem sz250k:(prog.info? 250).map (·.size)=some (Kd.n (kArr 8 (kInt .u32))):=kr
theorem kt250:KT prog 250 (kArr 8 (kInt .u32)):=kq
theorem yM:fldB prog 253 0=some (0,7+1):=kr
theorem mn:UpF jX 0 ⟨kArr 8 (kInt .u32),aE.words⟩ (λx y=>{x with words:=y}):=uq
theorem B8:fldB prog 253 1=some (8,63+1):=kr
theorem pL:UpF jX 1 ⟨kArr 64 (kInt .u8),aE.tail⟩ (λx y=>{x with tail:=y}):=uq
theorem sz71k:(prog.info? 71).map (·.size)=some (Kd.n (kInt .u64)):=kr
theorem kt250k:KT prog 250 (kArr 8 (kInt .u32)):=kq
theorem kt251k:KT prog 251 (kArr 64 (kInt .u8)):=kq
theorem ZT319:ZT prog 319 (kArr 64 (kInt .u32)) (List.replicate 64 (0:Int)):=zq
def glob0:List Int:=[1116352408,1899447441,3049323471,3921009573,961987163,1508970993,2453635748,2870763221,3624381080,310598401,607225278,1426881987,1925078388,2162078206,2614888103,3248222580,3835390401,4022224774,264347078,604807628,770255983,1249150122,1555081692,1996064986,2554220882,2821834349,2952996808,3210313671,3336571891,3584528711,113926993,338241895,666307205,773529912,1294757372,1396182291,1695183700,1986661051,2177026350,2456956037,2730485921,2820302411,3259730800,3345764771,3516065817,3600352804,4094571909,275423344,430227734,506948616,659060556,883997877,958139571,1322822218,1537002063,1747873779,1955562222,2024104815,2227730452,2361852424,2428436474,2756734187,3204031479,3329325298]
theorem sz142:(prog.info? 142).map (·.size)=some (Kd.n (kInt .u32)):=kr
theorem kt253k:KT prog 253 cb:=kq
theorem fb253k:fldB prog 253 0=some (offF jX 0,7+1):=kr
theorem kt179:KT prog 179 (kArr 32 (kInt .u8)):=kq
theorem sz179k:(prog.info? 179).map (·.size)=some (Kd.n (kArr 32 (kInt .u8))):=kr
theorem fb46k1:fldB prog 46 1=some (offF lB 1,0+1):=kr
theorem kt44:KT prog 44 (kSl (kSl (kInt .u8))):=kq
theorem sz22:(prog.info? 22).map (·.size)=some (Kd.n (kSl (kInt .u8))):=kr
theorem ZT66:ZT prog 66 aM (⟨[],(List.replicate 16 (0:Int))⟩:ai):=zq
theorem BT66:BT prog 66 jg (⟨[],(List.replicate 16 (0:Int))⟩:ai):=bq
theorem sz66k:(prog.info? 66).map (·.size)=some (Kd.n aM):=kr
theorem kt66:KT prog 66 aM:=kq
theorem ZT181:ZT prog 181 bo (⟨(List.replicate 16 (0:Int)),(List.replicate 32 (0:Int)),(List.replicate 32 (0:Int))⟩:az):=zq
theorem BT181:BT prog 181 ee (⟨(List.replicate 16 (0:Int)),(List.replicate 32 (0:Int)),(List.replicate 32 (0:Int))⟩:az):=bq
theorem sz181k:(prog.info? 181).map (·.size)=some (Kd.n bo):=kr
theorem kt181:KT prog 181 bo:=kq
theorem fb181k:fldB prog 181 1=some (offF ee 1,31+1):=kr
theorem fb181k1:fldB prog 181 0=some (offF ee 0,15+1):=kr
theorem BTA64:BTA prog 64 16 (kInt .u8) (List.replicate 16 (0:Int)):=baq
theorem ZT243:ZT prog 243 aI (⟨(List.replicate 11 (List.replicate 16 (0:Int)))⟩:aS):=zq
theorem ZT284:ZT prog 284 (kArr 44 (kArr 4 (kInt .u8))) (List.replicate 44 (List.replicate 4 (0:Int))):=zq
theorem sz283k:(prog.info? 283).map (·.size)=some (Kd.n (kArr 4 (kInt .u8))):=kr
theorem kt283k:KT prog 283 (kArr 4 (kInt .u8)):=kq
theorem ZT283:ZT prog 283 (kArr 4 (kInt .u8)) (List.replicate 4 (0:Int)):=zq
theorem BTA283:BTA prog 283 4 (kInt .u8) (List.replicate 4 (0:Int)):=baq
theorem kt284:KT prog 284 (kArr 44 (kArr 4 (kInt .u8))):=kq
theorem kt283:KT prog 283 (kArr 4 (kInt .u8)):=kq
theorem Fk:fldB prog 243 0=some (0,175+1):=kr
theorem lL:UpF kS 0 ⟨kArr 11 (kArr 16 (kInt .u8)),aS.keys⟩ (λx y=>{x with keys:=y}):=uq
theorem sz240k:(prog.info? 240).map (·.size)=some (Kd.n (kArr 16 (kInt .u8))):=kr
theorem kt243:KT prog 243 aI:=kq
theorem sz243k:(prog.info? 243).map (·.size)=some (Kd.n aI):=kr
theorem ZT246:ZT prog 246 (kArr 256 (kInt .u8)) (List.replicate 256 (0:Int)):=zq
theorem kt64k:KT prog 64 (kArr 16 (kInt .u8)):=kq
theorem fb243k:fldB prog 243 0=some (offF kS 0,175+1):=kr
theorem sz240:(prog.info? 240).map (·.size)=some (Kd.n (kArr 16 (kInt .u8))):=kr
theorem kt240:KT prog 240 (kArr 16 (kInt .u8)):=kq
theorem ZT240:ZT prog 240 (kArr 16 (kInt .u8)) (List.replicate 16 (0:Int)):=zq
theorem kt240k:KT prog 240 (kArr 16 (kInt .u8)):=kq
theorem fb181k2:fldB prog 181 2=some (offF ee 2,31+1):=kr
theorem yN:fldB prog 66 0=some (0,0+1):=kr
theorem jH:UpF jg 0 ⟨kSl (kInt .u8),ai.Cell⟩ (λx y=>{x with Cell:=y}):=uq
theorem sz22k1:(prog.info? 22).map (·.size)=some (Kd.n (kSl (kInt .u8))):=kr
theorem El:fldB prog 34 1=some (1,0+1):=kr
theorem oT:UpF dV 1 ⟨kInt .i64,av.Malformed⟩ (λx y=>{x with Malformed:=y}):=uq
theorem fb66k:fldB prog 66 1=some (offF jg 1,15+1):=kr
theorem ZV3:ZV prog 3 (kInt .i64) (0:Int):=⟨(.int .i64 0:Value),kr,λF=>mX.2 J⟩
theorem eqk5:EqK prog 5 (kInt .u8) 1:=EqK.int U5
theorem eqk64:EqK prog 64 (kArr 16 (kInt .u8)) 2:=EqK.arr eqk5 kt5 U64
theorem eqg64:prog.eqGuardType prog.depth 64=false:=kr
theorem Em:fldB prog 34 2=some (2,0+1):=kr
theorem oU:UpF dV 2 ⟨kInt .i64,av.Replays⟩ (λx y=>{x with Replays:=y}):=uq
theorem ET66:ET prog 66 aM (⟨[],(List.replicate 16 (0:Int))⟩:ai):=eq_q
theorem AT66:AT prog 66 aM (⟨[],(List.replicate 16 (0:Int))⟩:ai) 40:=aq
theorem ZT51:ZT prog 51 fh (⟨[],[],[]⟩:aT):=zq
theorem BT51:BT prog 51 jU (⟨[],[],[]⟩:aT):=bq
theorem sz51k:(prog.info? 51).map (·.size)=some (Kd.n fh):=kr
theorem kt51:KT prog 51 fh:=kq
theorem rO:BT prog 51 mi (⟨[],[],(.slice none 0 0)⟩:cl):=bq
theorem ZT51k:ZT prog 51 gu (⟨[],[],(.slice none 0 0)⟩:cl):=zq
theorem sz51k1:(prog.info? 51).map (·.size)=some (Kd.n gu):=kr
theorem Bz:fldB prog 51 2=some (2,0+1):=kr
theorem mR:UpF mi 2 ⟨kRaw,cl.Chunks⟩ (λx y=>{x with Chunks:=y}):=uq
theorem kt44k:KT prog 44 kRaw:=kq
theorem sz44k:(prog.info? 44).map (·.size)=some (Kd.n kRaw):=kr
theorem fb51k:fldB prog 51 0=some (offF jU 0,0+1):=kr
theorem AT3:AT prog 3 (kInt .i64) (0:Int) 8:=aq
theorem ET3:ET prog 3 (kInt .i64) (0:Int):=eq_q
theorem sz3:(prog.info? 3).map (·.size)=some (Kd.n (kInt .i64)):=kr
theorem sz66:(prog.info? 66).map (·.size)=some (Kd.n aM):=kr
theorem fb66k1:fldB prog 66 0=some (offF jg 0,0+1):=kr
theorem ZT163k:ZT prog 163 iP (⟨(⟨[],[],[]⟩:aT),[],(.slice none 0 0)⟩:bj):=zq
theorem yO:fldB prog 163 1=some (3,0+1):=kr
theorem jM:UpF iA 1 ⟨kSl (kInt .i64),bj.sizes⟩ (λx y=>{x with sizes:=y}):=uq
theorem sz68k:(prog.info? 68).map (·.size)=some (Kd.n (kSl (kInt .i64))):=kr
theorem fq:BT prog 163 iA (⟨(⟨[],[],[]⟩:aT),[],(.slice none 0 0)⟩:bj):=bq
theorem sz163k:(prog.info? 163).map (·.size)=some (Kd.n iP):=kr
theorem kt163:KT prog 163 iO:=kq
theorem yP:fldB prog 163 0=some (0,2+1):=kr
theorem jN:UpF iA 0 ⟨fh,bj.parts⟩ (λx y=>{x with parts:=y}):=uq
theorem FP:fldB prog 51 1=some (1,0+1):=kr
theorem vO:UpF jU 1 ⟨kSl (kInt .u8),aT.Braid⟩ (λx y=>{x with Braid:=y}):=uq
theorem kt22k1:KT prog 22 (kSl (kInt .u8)):=kq
theorem ZT68k:ZT prog 68 kRaw (.slice none 0 0):=zq
theorem sz68k1:(prog.info? 68).map (·.size)=some (Kd.n kRaw):=kr
theorem ZT312:ZT prog 312 cg (⟨[],(0:Int)⟩:aQ):=zq
theorem BT312:BT prog 312 mQ (⟨[],(0:Int)⟩:aQ):=bq
theorem sz312k:(prog.info? 312).map (·.size)=some (Kd.n cg):=kr
theorem kt312:KT prog 312 cg:=kq
theorem kt312k:KT prog 312 cg:=kq
theorem fb312k:fldB prog 312 0=some (offF mQ 0,0+1):=kr
theorem kt9:KT prog 9 kStr:=kq
theorem fb312k1:fldB prog 312 1=some (offF mQ 1,0+1):=kr
theorem kt68k:KT prog 68 kRaw:=kq
theorem kt68k1:KT prog 68 (kSl (kInt .i64)):=kq
theorem B9:fldB prog 163 2=some (4,0+1):=kr
theorem mq:UpF iA 2 ⟨kRaw,bj.starts⟩ (λx y=>{x with starts:=y}):=uq
theorem vP:UpF jU 2 ⟨kSl (kSl (kInt .u8)),aT.Chunks⟩ (λx y=>{x with Chunks:=y}):=uq
theorem kt44k1:KT prog 44 (kSl (kSl (kInt .u8))):=kq
theorem ET68:ET prog 68 (kSl (kInt .i64)) []:=eq_q
theorem AT68:AT prog 68 (kSl (kInt .i64)) [] 24:=aq
abbrev pM:(List Int)→Value→Value:=λ_ q=>q
abbrev pN:(List Int)→(List Int):=λx=>x
theorem Dg:Free kRaw:=Free.raw
theorem xr:Free (kInt .i64):=Free.int
theorem Dh:∀F x q,(kSl (kInt .i64)).val F q (pN x)→∀cs,kRaw.rd F cs (pM x q)→(kSl (kInt .i64)).rd F cs x:=λF x q hv=>lK hv
theorem AT68k:AT prog 68 kRaw (.slice none 0 0) 24:=aq
theorem sz68:(prog.info? 68).map (·.size)=some (Kd.n (kSl (kInt .i64))):=kr
theorem kt68:KT prog 68 (kSl (kInt .i64)):=kq
theorem kt163k:KT prog 163 iO:=kq
theorem sz163k1:(prog.info? 163).map (·.size)=some (Kd.n iO):=kr
theorem ZT163:ZT prog 163 iO (⟨(⟨[],[],[]⟩:aT),[],[]⟩:bQ):=zq
theorem fb163k:fldB prog 163 1=some (offF fC 1,0+1):=kr
theorem fb163k1:fldB prog 163 2=some (offF fC 2,0+1):=kr
theorem AT4:AT prog 4 mW false 1:=aq
theorem sz4k:(prog.info? 4).map (·.size)=some (Kd.n mW):=kr
theorem kt4k:KT prog 4 mW:=kq
theorem Ca:fldB prog 152 0=some (0,0+1):=kr
theorem pO:UpF iN 0 ⟨kInt .i64,aj.Number⟩ (λx y=>{x with Number:=y}):=uq
abbrev cR:aj→Value→aD:=λx q=>⟨x.Number,q⟩
abbrev de:aj→List (List Int):=λx=>x.Tags
theorem bS:Free (aN):=Free.st2 Free.int Free.raw
theorem bT:Free (kArr 16 (kInt .u8)):=Free.arr Free.int
theorem qv:∀F x q,(kSl (kArr 16 (kInt .u8))).val F q (de x)→∀cs,(aN).rd F cs (cR x q)→(aJ).rd F cs x:=λF x q hv cs h=>wd (fs':=kg) (fs:=iN) (x':=cR x q) (x:=x) ⟨λ_ h=>h,lK hv,trivial⟩ h
theorem eL:BT prog 152 kg (⟨(0:Int),(.slice none 0 0)⟩:aD):=bq
theorem ET152k:ET prog 152 aN (⟨(0:Int),(.slice none 0 0)⟩:aD):=eq_q
theorem AT152k:AT prog 152 aN (⟨(0:Int),(.slice none 0 0)⟩:aD) 32:=aq
theorem sz152k1:(prog.info? 152).map (·.size)=some (Kd.n aN):=kr
theorem kt152k:KT prog 152 aN:=kq
theorem ZT152k:ZT prog 152 aN (⟨(0:Int),(.slice none 0 0)⟩:aD):=zq
theorem mS:UpF kg 1 ⟨kRaw,aD.Tags⟩ (λx y=>{x with Tags:=y}):=uq
theorem kt85k1:KT prog 85 kRaw:=kq
theorem BT43:BT prog 43 f8 (⟨(0:Int),(0:Int),(0:Int)⟩:af):=bq
theorem kt43:KT prog 43 cN:=kq
theorem FQ:fldB prog 34 3=some (3,0+1):=kr
theorem tM:UpF dV 3 ⟨kInt .i64,av.Noise⟩ (λx y=>{x with Noise:=y}):=uq
theorem FR:fldB prog 34 4=some (4,0+1):=kr
theorem tO:UpF dV 4 ⟨kInt .i64,av.Out⟩ (λx y=>{x with Out:=y}):=uq
theorem fb37k:fldB prog 37 3=some (offF iF 3,0+1):=kr
theorem kt35:KT prog 35 (kInt .i64):=kq
theorem fb37k1:fldB prog 37 0=some (offF iF 0,0+1):=kr
theorem fb37k2:fldB prog 37 1=some (offF iF 1,2+1):=kr
theorem fb31k:fldB prog 31 0=some (offF gF 0,10+1):=kr
theorem fb31k1:fldB prog 31 1=some (offF gF 1,2+1):=kr
theorem fb31k2:fldB prog 31 2=some (offF gF 2,0+1):=kr
theorem fb31k3:fldB prog 31 3=some (offF gF 3,0+1):=kr
theorem kt31:KT prog 31 cZ:=kq
theorem ZT193:ZT prog 193 ba (⟨false,(⟨(0:Int),(0:Int),(0:Int)⟩:af),[],(0:Int),(0:Int)⟩:ah):=zq
theorem ZT193k:ZT prog 193 el (⟨false,(⟨(0:Int),(0:Int),(0:Int)⟩:af),(.slice none 0 0),(0:Int),(0:Int)⟩:aC):=zq
theorem oh:fldB prog 193 3=some (5,0+1):=kr
theorem eh:UpF dc 3 ⟨kInt .i64,aC.Place⟩ (λx y=>{x with Place:=y}):=uq
theorem oi:fldB prog 193 4=some (6,0+1):=kr
theorem ei:UpF dc 4 ⟨kInt .i64,aC.Err⟩ (λx y=>{x with Err:=y}):=uq
theorem kt193:KT prog 193 ba:=kq
theorem sz193k:(prog.info? 193).map (·.size)=some (Kd.n ba):=kr
theorem Fl:fldB prog 193 0=some (0,0+1):=kr
theorem mz:UpF dc 0 ⟨mW,aC.Head⟩ (λx y=>{x with Head:=y}):=uq
theorem Fm:fldB prog 193 1=some (1,2+1):=kr
theorem mF:UpF dc 1 ⟨cN,aC.Header⟩ (λx y=>{x with Header:=y}):=uq
theorem sz43k:(prog.info? 43).map (·.size)=some (Kd.n cN):=kr
theorem Cb:fldB prog 193 2=some (4,0+1):=kr
theorem jp:UpF dc 2 ⟨kRaw,aC.Cells⟩ (λx y=>{x with Cells:=y}):=uq
theorem im:UpF bz 3 ⟨kInt .i64,ah.Place⟩ (λx y=>{x with Place:=y}):=uq
theorem io:UpF bz 4 ⟨kInt .i64,ah.Err⟩ (λx y=>{x with Err:=y}):=uq
theorem fb193k:fldB prog 193 4=some (offF bz 4,0+1):=kr
theorem fb193k1:fldB prog 193 3=some (offF bz 3,0+1):=kr
theorem fb193k2:fldB prog 193 1=some (offF bz 1,2+1):=kr
theorem fb193k3:fldB prog 193 2=some (offF bz 2,0+1):=kr
theorem F9 (d:Nat) (e:Bool) (k:Under F0 n ((d,.raw (.bool e))::E) L (wpList P ops Q rest)) (h:Under F0 n ((d,.raw (.bool e))::E) L (wpList P ops Q rest)→Under F0 n E L (wpList P ops Q (o0::o1::o2::o3::o4::o5::o6::o7::o8::o9::o10::o11::o12::o13::o14::o15::o16::rest))):Under F0 n E L (wpList P ops Q (o0::o1::o2::o3::o4::o5::o6::o7::o8::o9::o10::o11::o12::o13::o14::o15::o16::rest)):=h k
theorem En (d:Nat) (e:Bool) (k:aL F0 n ((d,.raw (.bool e))::E) (wpQuiet P ops C Qa rest)) (h:aL F0 n ((d,.raw (.bool e))::E) (wpQuiet P ops C Qa rest)→aL F0 n E (wpQuiet P ops C Qa (o0::o1::o2::o3::o4::o5::o6::o7::o8::o9::o10::o11::o12::o13::o14::o15::o16::rest))):aL F0 n E (wpQuiet P ops C Qa (o0::o1::o2::o3::o4::o5::o6::o7::o8::o9::o10::o11::o12::o13::o14::o15::o16::rest)):=h k
theorem Ga (d:Nat) (e:Bool) (k:Under F0 n ((d,.raw (.bool e))::E) L (wpList P ops Q rest)) (h:Under F0 n ((d,.raw (.bool e))::E) L (wpList P ops Q rest)→Under F0 n E L (wpList P ops Q (o0::o1::o2::o3::o4::o5::o6::o7::o8::o9::rest))):Under F0 n E L (wpList P ops Q (o0::o1::o2::o3::o4::o5::o6::o7::o8::o9::rest)):=h k
theorem Eo (d:Nat) (e:Bool) (k:aL F0 n ((d,.raw (.bool e))::E) (wpQuiet P ops C Qa rest)) (h:aL F0 n ((d,.raw (.bool e))::E) (wpQuiet P ops C Qa rest)→aL F0 n E (wpQuiet P ops C Qa (o0::o1::o2::o3::o4::o5::o6::o7::o8::o9::rest))):aL F0 n E (wpQuiet P ops C Qa (o0::o1::o2::o3::o4::o5::o6::o7::o8::o9::rest)):=h k
theorem BTA249:BTA prog 249 8 (kInt .u32) (List.replicate 8 (0:Int)):=baq
theorem ZT249:ZT prog 249 (kArr 8 (kInt .u32)) (List.replicate 8 (0:Int)):=zq
theorem sz249k:(prog.info? 249).map (·.size)=some (Kd.n (kArr 8 (kInt .u32))):=kr
theorem BTA319:BTA prog 319 64 (kInt .u32) (List.replicate 64 (0:Int)):=baq
theorem sz319k:(prog.info? 319).map (·.size)=some (Kd.n (kArr 64 (kInt .u32))):=kr
theorem kt319:KT prog 319 (kArr 64 (kInt .u32)):=kq
theorem kt249k:KT prog 249 (kArr 8 (kInt .u32)):=kq
theorem kt249:KT prog 249 (kArr 8 (kInt .u32)):=kq
theorem Fn:fldB prog 181 0=some (0,15+1):=kr
theorem mr:UpF ee 0 ⟨kArr 16 (kInt .u8),az.Box⟩ (λx y=>{x with Box:=y}):=uq
theorem Fo:fldB prog 181 1=some (16,31+1):=kr
theorem ms:UpF ee 1 ⟨kArr 32 (kInt .u8),az.Mac⟩ (λx y=>{x with Mac:=y}):=uq
theorem Fp:fldB prog 181 2=some (48,31+1):=kr
theorem mt:UpF ee 2 ⟨kArr 32 (kInt .u8),az.Replay⟩ (λx y=>{x with Replay:=y}):=uq
theorem ZT279:ZT prog 279 (kArr 176 (kInt .u8)) (List.replicate 176 (0:Int)):=zq
abbrev str3:ByteArray:=⟨#[99,124,119,123,242,107,111,197,48,1,103,43,254,215,171,118,202,130,201,125,250,89,71,240,173,212,162,175,156,164,114,192,183,253,147,38,54,63,247,204,52,165,229,241,113,216,49,21,4,199,35,195,24,150,5,154,7,18,128,226,235,39,178,117,9,131,44,26,27,110,90,160,82,59,214,179,41,227,47,132,83,209,0,237,32,252,177,91,106,203,190,57,74,76,88,207,208,239,170,251,67,77,51,133,69,249,2,127,80,60,159,168,81,163,64,143,146,157,56,245,188,182,218,33,16,255,243,210,205,12,19,236,95,151,68,23,196,167,126,61,100,93,25,115,96,129,79,220,34,42,144,136,70,238,184,20,222,94,11,219,224,50,58,10,73,6,36,92,194,211,172,98,145,149,228,121,231,200,55,109,141,213,78,169,108,86,244,234,101,122,174,8,186,120,37,46,28,166,180,198,232,221,116,31,75,189,139,138,112,62,181,102,72,3,246,14,97,53,87,185,134,193,29,158,225,248,152,17,105,217,142,148,155,30,135,233,206,85,40,223,140,161,137,13,191,230,66,104,65,153,45,15,176,84,187,22]⟩
theorem rP:rdOf (.raw (.string str3)) kStr [99,124,119,123,242,107,111,197,48,1,103,43,254,215,171,118,202,130,201,125,250,89,71,240,173,212,162,175,156,164,114,192,183,253,147,38,54,63,247,204,52,165,229,241,113,216,49,21,4,199,35,195,24,150,5,154,7,18,128,226,235,39,178,117,9,131,44,26,27,110,90,160,82,59,214,179,41,227,47,132,83,209,0,237,32,252,177,91,106,203,190,57,74,76,88,207,208,239,170,251,67,77,51,133,69,249,2,127,80,60,159,168,81,163,64,143,146,157,56,245,188,182,218,33,16,255,243,210,205,12,19,236,95,151,68,23,196,167,126,61,100,93,25,115,96,129,79,220,34,42,144,136,70,238,184,20,222,94,11,219,224,50,58,10,73,6,36,92,194,211,172,98,145,149,228,121,231,200,55,109,141,213,78,169,108,86,244,234,101,122,174,8,186,120,37,46,28,166,180,198,232,221,116,31,75,189,139,138,112,62,181,102,72,3,246,14,97,53,87,185,134,193,29,158,225,248,152,17,105,217,142,148,155,30,135,233,206,85,40,223,140,161,137,13,191,230,66,104,65,153,45,15,176,84,187,22]:=rdS kr
def js:List Int:=[99,124,119,123,242,107,111,197,48,1,103,43,254,215,171,118,202,130,201,125,250,89,71,240,173,212,162,175,156,164,114,192,183,253,147,38,54,63,247,204,52,165,229,241,113,216,49,21,4,199,35,195,24,150,5,154,7,18,128,226,235,39,178,117,9,131,44,26,27,110,90,160,82,59,214,179,41,227,47,132,83,209,0,237,32,252,177,91,106,203,190,57,74,76,88,207,208,239,170,251,67,77,51,133,69,249,2,127,80,60,159,168,81,163,64,143,146,157,56,245,188,182,218,33,16,255,243,210,205,12,19,236,95,151,68,23,196,167,126,61,100,93,25,115,96,129,79,220,34,42,144,136,70,238,184,20,222,94,11,219,224,50,58,10,73,6,36,92,194,211,172,98,145,149,228,121,231,200,55,109,141,213,78,169,108,86,244,234,101,122,174,8,186,120,37,46,28,166,180,198,232,221,116,31,75,189,139,138,112,62,181,102,72,3,246,14,97,53,87,185,134,193,29,158,225,248,152,17,105,217,142,148,155,30,135,233,206,85,40,223,140,161,137,13,191,230,66,104,65,153,45,15,176,84,187,22]
theorem kt279:KT prog 279 (kArr 176 (kInt .u8)):=kq
theorem sz279k:(prog.info? 279).map (·.size)=some (Kd.n (kArr 176 (kInt .u8))):=kr
theorem Ep:fldB prog 66 1=some (1,15+1):=kr
theorem oV:UpF jg 1 ⟨kArr 16 (kInt .u8),ai.Replay⟩ (λx y=>{x with Replay:=y}):=uq
theorem Er (d:Nat) (e:Bool) (k:Under F0 n ((d,.raw (.bool e))::E) L (wpList P ops Q rest)) (h:Under F0 n ((d,.raw (.bool e))::E) L (wpList P ops Q rest)→Under F0 n E L (wpList P ops Q (o0::o1::o2::o3::o4::o5::o6::rest))):Under F0 n E L (wpList P ops Q (o0::o1::o2::o3::o4::o5::o6::rest)):=h k
theorem Gb (d:Nat) (e:Bool) (k:aL F0 n ((d,.raw (.bool e))::E) (wpQuiet P ops C Qa rest)) (h:aL F0 n ((d,.raw (.bool e))::E) (wpQuiet P ops C Qa rest)→aL F0 n E (wpQuiet P ops C Qa (o0::o1::o2::o3::o4::o5::o6::rest))):aL F0 n E (wpQuiet P ops C Qa (o0::o1::o2::o3::o4::o5::o6::rest)):=h k
theorem ZT43:ZT prog 43 cN (⟨(0:Int),(0:Int),(0:Int)⟩:af):=zq
theorem rQ:BT prog 46 mj (⟨(⟨(0:Int),(0:Int),(0:Int)⟩:af),(.slice none 0 0)⟩:dx):=bq
theorem ZT46k:ZT prog 46 lh (⟨(⟨(0:Int),(0:Int),(0:Int)⟩:af),(.slice none 0 0)⟩:dx):=zq
theorem sz46k1:(prog.info? 46).map (·.size)=some (Kd.n lh):=kr
theorem Et:fldB prog 46 1=some (3,0+1):=kr
theorem mT:UpF mj 1 ⟨kRaw,dx.Cells⟩ (λx y=>{x with Cells:=y}):=uq
theorem fb37k3:fldB prog 37 2=some (offF iF 2,4+1):=kr
theorem fb34k:fldB prog 34 4=some (offF dV 4,0+1):=kr
theorem fb34k1:fldB prog 34 3=some (offF dV 3,0+1):=kr
theorem fb34k2:fldB prog 34 1=some (offF dV 1,0+1):=kr
theorem fb34k3:fldB prog 34 2=some (offF dV 2,0+1):=kr
theorem fb34k4:fldB prog 34 0=some (offF dV 0,0+1):=kr
theorem rw5:RdW prog 5 (kInt .u8) (gInt .u8) bOne:=BD U5
theorem cof5:prog.cellsOf 5=1:=kr
theorem rw22:RdW prog 22 (kSl (kInt .u8)) (gSl (gInt .u8)) (bSl bOne):=EB (K:=kInt .u8) U22 cof5 (by decide) rw5
theorem rw3:RdW prog 3 (kInt .i64) (gInt .i64) bOne:=BD U3
theorem cof22:prog.cellsOf 22=1:=kr
theorem cof3:prog.cellsOf 3=1:=kr
theorem cof24:prog.cellsOf 24=11:=kr
def rR (x:au):Prop:=(gSl (gInt .u8)) x.Master∧(gInt .i64) x.Left∧(gInt .i64) x.Span∧(gInt .i64) x.Room∧(gInt .i64) x.Num∧(gInt .i64) x.Den∧(gInt .i64) x.Noise∧(gInt .i64) x.Chunks∧(gInt .i64) x.Workers∧(gInt .i64) x.Cap∧(gInt .i64) x.Shards∧True
def oj (x:au):Nat:=(bSl bOne) x.Master+(bOne x.Left+(bOne x.Span+(bOne x.Room+(bOne x.Num+(bOne x.Den+(bOne x.Noise+(bOne x.Chunks+(bOne x.Workers+(bOne x.Cap+(bOne x.Shards+0))))))))))
theorem rw24:RdW prog 24 aZ rR oj:=by intro H enc W _ B BA hB fuel cs x h;obtain⟨hl,ds,hx,hf0⟩:=rU underlying24 h;obtain⟨d0,ds0,e0,⟨n0,p0,t0⟩,hf1⟩:=FsRd.cons hf0;subst e0;obtain⟨y0,r0,g0,b0⟩:=rw22 hB t0;obtain⟨d1,ds1,e1,⟨n1,p1,t1⟩,hf2⟩:=FsRd.cons hf1;subst e1;obtain⟨y1,r1,g1,b1⟩:=rw3 hB t1;obtain⟨d2,ds2,e2,⟨n2,p2,t2⟩,hf3⟩:=FsRd.cons hf2;subst e2;obtain⟨y2,r2,g2,b2⟩:=rw3 hB t2;obtain⟨d3,ds3,e3,⟨n3,p3,t3⟩,hf4⟩:=FsRd.cons hf3;subst e3;obtain⟨y3,r3,g3,b3⟩:=rw3 hB t3;obtain⟨d4,ds4,e4,⟨n4,p4,t4⟩,hf5⟩:=FsRd.cons hf4;subst e4;obtain⟨y4,r4,g4,b4⟩:=rw3 hB t4;obtain⟨d5,ds5,e5,⟨n5,p5,t5⟩,hf6⟩:=FsRd.cons hf5;subst e5;obtain⟨y5,r5,g5,b5⟩:=rw3 hB t5;obtain⟨d6,ds6,e6,⟨n6,p6,t6⟩,hf7⟩:=FsRd.cons hf6;subst e6;obtain⟨y6,r6,g6,b6⟩:=rw3 hB t6;obtain⟨d7,ds7,e7,⟨n7,p7,t7⟩,hf8⟩:=FsRd.cons hf7;subst e7;obtain⟨y7,r7,g7,b7⟩:=rw3 hB t7;obtain⟨d8,ds8,e8,⟨n8,p8,t8⟩,hf9⟩:=FsRd.cons hf8;subst e8;obtain⟨y8,r8,g8,b8⟩:=rw3 hB t8;obtain⟨d9,ds9,e9,⟨n9,p9,t9⟩,hf10⟩:=FsRd.cons hf9;subst e9;obtain⟨y9,r9,g9,b9⟩:=rw3 hB t9;obtain⟨d10,ds10,e10,⟨n10,p10,t10⟩,hf11⟩:=FsRd.cons hf10;subst e10;obtain⟨y10,r10,g10,b10⟩:=rw3 hB t10;have hnil:=FsRd.nil hf11;subst hnil;refine⟨⟨y0,y1,y2,y3,y4,y5,y6,y7,y8,y9,y10⟩,nu (dt cof22 r0 (dt cof3 r1 (dt cof3 r2 (dt cof3 r3 (dt cof3 r4 (dt cof3 r5 (dt cof3 r6 (dt cof3 r7 (dt cof3 r8 (dt cof3 r9 (dt cof3 r10 (rV (hl.trans cof24) J)))))))))))),⟨g0,g1,g2,g3,g4,g5,g6,g7,g8,g9,g10,trivial⟩,?_⟩;have:=hB.agg [d0,d1,d2,d3,d4,d5,d6,d7,d8,d9,d10];rw[hx];dsimp only at b0 b1 b2 b3 b4 b5 b6 b7 b8 b9 b10;simp only[hB.cons,hB.nil] at this;simp only[oj];omega
theorem rw2:RdW prog 2 (kInt .i64) (gInt .i64) bOne:=BD U2
theorem cof64:prog.cellsOf 64=16:=kr
theorem rw64:RdW prog 64 (kArr 16 (kInt .u8)) (gArr 16 (gInt .u8)) (bArr bOne):=FV (K:=kInt .u8) U64 cof64 cof5 rw5
theorem rw85:RdW prog 85 (kSl (kArr 16 (kInt .u8))) (gSl (gArr 16 (gInt .u8))) (bSl (bArr bOne)):=EB (K:=kArr 16 (kInt .u8)) U85 cof64 (by decide) rw64
theorem cof2:prog.cellsOf 2=1:=kr
theorem cof85:prog.cellsOf 85=1:=kr
theorem cof152:prog.cellsOf 152=2:=kr
def mU (x:aj):Prop:=(gInt .i64) x.Number∧(gSl (gArr 16 (gInt .u8))) x.Tags∧True
def ic (x:aj):Nat:=bOne x.Number+((bSl (bArr bOne)) x.Tags+0)
theorem rw152:RdW prog 152 aJ mU ic:=by intro H enc W _ B BA hB fuel cs x h;obtain⟨hl,ds,hx,hf0⟩:=rU underlying152 h;obtain⟨d0,ds0,e0,⟨n0,p0,t0⟩,hf1⟩:=FsRd.cons hf0;subst e0;obtain⟨y0,r0,g0,b0⟩:=rw2 hB t0;obtain⟨d1,ds1,e1,⟨n1,p1,t1⟩,hf2⟩:=FsRd.cons hf1;subst e1;obtain⟨y1,r1,g1,b1⟩:=rw85 hB t1;have hnil:=FsRd.nil hf2;subst hnil;refine⟨⟨y0,y1⟩,nu (dt cof2 r0 (dt cof85 r1 (rV (hl.trans cof152) J))),⟨g0,g1,trivial⟩,?_⟩;have:=hB.agg [d0,d1];rw[hx];dsimp only at b0 b1;simp only[hB.cons,hB.nil] at this;simp only[ic];omega
theorem rw25:RdW prog 25 (kSl aJ) (gSl mU) (bSl ic):=EB (K:=aJ) U25 cof152 (by decide) rw152
theorem cof25:prog.cellsOf 25=1:=kr
theorem cof27:prog.cellsOf 27=2:=kr
def om (x:ae):Prop:=(gInt .i64) x.Newest∧(gSl mU) x.Epochs∧True
def jh (x:ae):Nat:=bOne x.Newest+((bSl ic) x.Epochs+0)
theorem rw27:RdW prog 27 ak om jh:=by intro H enc W _ B BA hB fuel cs x h;obtain⟨hl,ds,hx,hf0⟩:=rU underlying27 h;obtain⟨d0,ds0,e0,⟨n0,p0,t0⟩,hf1⟩:=FsRd.cons hf0;subst e0;obtain⟨y0,r0,g0,b0⟩:=rw2 hB t0;obtain⟨d1,ds1,e1,⟨n1,p1,t1⟩,hf2⟩:=FsRd.cons hf1;subst e1;obtain⟨y1,r1,g1,b1⟩:=rw25 hB t1;have hnil:=FsRd.nil hf2;subst hnil;refine⟨⟨y0,y1⟩,nu (dt cof2 r0 (dt cof25 r1 (rV (hl.trans cof27) J))),⟨g0,g1,trivial⟩,?_⟩;have:=hB.agg [d0,d1];rw[hx];dsimp only at b0 b1;simp only[hB.cons,hB.nil] at this;simp only[jh];omega
theorem cof29:prog.cellsOf 29=3:=kr
def th (x:aO):Prop:=(gInt .i64) x.Next∧om x.Window∧True
def mV (x:aO):Nat:=bOne x.Next+(jh x.Window+0)
theorem rw29:RdW prog 29 bP th mV:=by intro H enc W _ B BA hB fuel cs x h;obtain⟨hl,ds,hx,hf0⟩:=rU underlying29 h;obtain⟨d0,ds0,e0,⟨n0,p0,t0⟩,hf1⟩:=FsRd.cons hf0;subst e0;obtain⟨y0,r0,g0,b0⟩:=rw2 hB t0;obtain⟨d1,ds1,e1,⟨n1,p1,t1⟩,hf2⟩:=FsRd.cons hf1;subst e1;obtain⟨y1,r1,g1,b1⟩:=rw27 hB t1;have hnil:=FsRd.nil hf2;subst hnil;refine⟨⟨y0,y1⟩,nu (dt cof2 r0 (dt cof27 r1 (rV (hl.trans cof29) J))),⟨g0,g1,trivial⟩,?_⟩;have:=hB.agg [d0,d1];rw[hx];dsimp only at b0 b1;simp only[hB.cons,hB.nil] at this;simp only[mV];omega
theorem cof31:prog.cellsOf 31=16:=kr
def kT (x:bV):Prop:=rR x.C∧th x.S∧(gSl (gInt .u8)) x.Raw∧(gSl (gInt .u8)) x.Tape∧True
def gL (x:bV):Nat:=oj x.C+(mV x.S+((bSl bOne) x.Raw+((bSl bOne) x.Tape+0)))
theorem rw31:RdW prog 31 cZ kT gL:=by intro H enc W _ B BA hB fuel cs x h;obtain⟨hl,ds,hx,hf0⟩:=rU underlying31 h;obtain⟨d0,ds0,e0,⟨n0,p0,t0⟩,hf1⟩:=FsRd.cons hf0;subst e0;obtain⟨y0,r0,g0,b0⟩:=rw24 hB t0;obtain⟨d1,ds1,e1,⟨n1,p1,t1⟩,hf2⟩:=FsRd.cons hf1;subst e1;obtain⟨y1,r1,g1,b1⟩:=rw29 hB t1;obtain⟨d2,ds2,e2,⟨n2,p2,t2⟩,hf3⟩:=FsRd.cons hf2;subst e2;obtain⟨y2,r2,g2,b2⟩:=rw22 hB t2;obtain⟨d3,ds3,e3,⟨n3,p3,t3⟩,hf4⟩:=FsRd.cons hf3;subst e3;obtain⟨y3,r3,g3,b3⟩:=rw22 hB t3;have hnil:=FsRd.nil hf4;subst hnil;refine⟨⟨y0,y1,y2,y3⟩,nu (dt cof24 r0 (dt cof29 r1 (dt cof22 r2 (dt cof22 r3 (rV (hl.trans cof31) J))))),⟨g0,g1,g2,g3,trivial⟩,?_⟩;have:=hB.agg [d0,d1,d2,d3];rw[hx];dsimp only at b0 b1 b2 b3;simp only[hB.cons,hB.nil] at this;simp only[gL];omega
abbrev K0:=(kSl (kArr 16 (kInt .u8)))
abbrev K1:=(kSl (kSl (kInt .u8)))
abbrev K2:=(kArr 64 (kInt .u32))
abbrev K3:=(kArr 176 (kInt .u8))
abbrev K4:=(kArr 16 (kInt .u8))
abbrev K5:=(kArr 8 (kInt .u32))
abbrev K6:=(kArr 32 (kInt .u8))
abbrev K7:=(kArr 4 (kInt .u8))
abbrev K8:=(kSl (kInt .i64))
abbrev K9:=(kSl (kInt .u8))
abbrev K10:=(kInt .i64)
abbrev K11:=(kInt .u32)
abbrev K12:=(kInt .u8)
end Go.Proofs.YtobbmodjdkcdcaaGreatDoor

import Derived.Test.YtobbmodjdkcdcaaGreatDoorSimD
import Derived.Test.YtobbmodjdkcdcaaGreatDoorRows
import Derived.Test.YtobbmodjdkcdcaaGreatDoorLawSrt
set_option autoImplicit true
set_option relaxedAutoImplicit true
set_option linter.all false
set_option maxRecDepth 20000
namespace Go.Proofs.YtobbmodjdkcdcaaGreatDoor
open Go Go.Sim Go.ChangeShapes Go.WideShapes Go.ChangeAt Go.RowKit Go.Proofs.Tryz
theorem J:a=a:=rfl
def U2:=underlying2
def U3:=underlying3
def U5:=underlying5
def U9:=underlying9
def U22:=underlying22
def U25:=underlying25
def U44:=underlying44
def U59:=underlying59
def U64:=underlying64
def U68:=underlying68
def U71:=underlying71
def U74:=underlying74
def U85:=underlying85
def U106:=underlying106
def U142:=underlying142
def U155:=underlying155
def U164:=underlying164
def U179:=underlying179
def U240:=underlying240
def U241:=underlying241
def U249:=underlying249
def U250:=underlying250
def U251:=underlying251
def U279:=underlying279
def U283:=underlying283
def U284:=underlying284
def U319:=underlying319
variable [Fu]
structure aj where
 Number:Int
 Tags:List (List Int)
abbrev iF:List (Fld aj):=[⟨kInt .i64,aj.Number⟩,⟨kSl (kArr 16 (kInt .u8)),aj.Tags⟩]
abbrev aH:Kd aj:=kSt iF
instance:ZK aH (⟨0,[]⟩:aj):=zs
structure ae where
 Newest:Int
 Epochs:List aj
abbrev eL:List (Fld ae):=[⟨kInt .i64,ae.Newest⟩,⟨kSl aH,ae.Epochs⟩]
abbrev ak:Kd ae:=kSt eL
instance:ZK ak (⟨0,[]⟩:ae):=zs
structure aT where
 Noise:List Int
 Braid:List Int
 Chunks:List (List Int)
abbrev jN:List (Fld aT):=[⟨kSl (kInt .u8),aT.Noise⟩,⟨kSl (kInt .u8),aT.Braid⟩,⟨kSl (kSl (kInt .u8)),aT.Chunks⟩]
abbrev fc:Kd aT:=kSt jN
instance:ZK fc (⟨[],[],[]⟩:aT):=zs
structure af where
 Round:Int
 Epoch:Int
 Left:Int
abbrev fX:List (Fld af):=[⟨kInt .i64,af.Round⟩,⟨kInt .i64,af.Epoch⟩,⟨kInt .i64,af.Left⟩]
abbrev cZ:Kd af:=kSt fX
instance:ZK cZ (⟨0,0,0⟩:af):=zs
structure av where
 Header:af
 Cells:List (List Int)
abbrev jO:List (Fld av):=[⟨cZ,av.Header⟩,⟨kSl (kSl (kInt .u8)),av.Cells⟩]
abbrev bj:Kd av:=kSt jO
instance:ZK bj (⟨(⟨0,0,0⟩:af),[]⟩:av):=zs
structure aC where
 Master:List Int
 Left:Int
 Span:Int
 Room:Int
 Num:Int
 Den:Int
 Noise:Int
 Chunks:Int
 Workers:Int
 Cap:Int
 Shards:Int
abbrev dc:List (Fld aC):=[⟨kSl (kInt .u8),aC.Master⟩,⟨kInt .i64,aC.Left⟩,⟨kInt .i64,aC.Span⟩,⟨kInt .i64,aC.Room⟩,⟨kInt .i64,aC.Num⟩,⟨kInt .i64,aC.Den⟩,⟨kInt .i64,aC.Noise⟩,⟨kInt .i64,aC.Chunks⟩,⟨kInt .i64,aC.Workers⟩,⟨kInt .i64,aC.Cap⟩,⟨kInt .i64,aC.Shards⟩]
abbrev aY:Kd aC:=kSt dc
instance:ZK aY (⟨[],0,0,0,0,0,0,0,0,0,0⟩:aC):=zs
structure aN where
 Next:Int
 Window:ae
abbrev jP:List (Fld aN):=[⟨kInt .i64,aN.Next⟩,⟨ak,aN.Window⟩]
abbrev a8:Kd aN:=kSt jP
instance:ZK a8 (⟨0,(⟨0,[]⟩:ae)⟩:aN):=zs
structure bW where
 C:aC
 S:aN
 Raw:List Int
 Tape:List Int
abbrev gt:List (Fld bW):=[⟨aY,bW.C⟩,⟨a8,bW.S⟩,⟨kSl (kInt .u8),bW.Raw⟩,⟨kSl (kInt .u8),bW.Tape⟩]
abbrev cN:Kd bW:=kSt gt
structure au where
 In:Int
 Malformed:Int
 Replays:Int
 Noise:Int
 Out:Int
abbrev fY:List (Fld au):=[⟨kInt .i64,au.In⟩,⟨kInt .i64,au.Malformed⟩,⟨kInt .i64,au.Replays⟩,⟨kInt .i64,au.Noise⟩,⟨kInt .i64,au.Out⟩]
abbrev cq:Kd au:=kSt fY
instance:ZK cq (⟨0,0,0,0,0⟩:au):=zs
structure aX where
 Out:List Int
 State:aN
 Report:au
 Err:Int
 At:Int
abbrev iu:List (Fld aX):=[⟨kSl (kInt .u8),aX.Out⟩,⟨a8,aX.State⟩,⟨cq,aX.Report⟩,⟨kInt .i64,aX.Err⟩,⟨kInt .i64,aX.At⟩]
abbrev bQ:Kd aX:=kSt iu
instance:ZK bQ (⟨[],(⟨0,(⟨0,[]⟩:ae)⟩:aN),(⟨0,0,0,0,0⟩:au),0,0⟩:aX):=zs
structure an where
 a:Int
 b:Int
abbrev jQ:List (Fld an):=[⟨kInt .u32,an.a⟩,⟨kInt .u32,an.b⟩]
abbrev da:Kd an:=kSt jQ
instance:ZK da (⟨0,0⟩:an):=zs
structure aF where
 field:List Int
 at_:Int
 stage:Int
 left:Int
 header:af
 sum:an
 err:Int
 place:Int
abbrev ye:List (Fld aF):=[⟨kSl (kInt .u8),aF.field⟩,⟨kInt .i64,aF.at_⟩,⟨kInt .i64,aF.stage⟩,⟨kInt .i64,aF.left⟩,⟨cZ,aF.header⟩,⟨da,aF.sum⟩,⟨kInt .i64,aF.err⟩,⟨kInt .i64,aF.place⟩]
abbrev E5:Kd aF:=kSt ye
structure ao where
 field:Value
 at_:Int
 stage:Int
 left:Int
 header:af
 sum:an
 err:Int
 place:Int
abbrev db:List (Fld ao):=[⟨kRaw,ao.field⟩,⟨kInt .i64,ao.at_⟩,⟨kInt .i64,ao.stage⟩,⟨kInt .i64,ao.left⟩,⟨cZ,ao.header⟩,⟨da,ao.sum⟩,⟨kInt .i64,ao.err⟩,⟨kInt .i64,ao.place⟩]
abbrev bg:Kd ao:=kSt db
instance:ZK bg (⟨(.slice none 0 0),0,0,0,(⟨0,0,0⟩:af),(⟨0,0⟩:an),0,0⟩:ao):=zs
structure aJ where
 Newest:Int
 Epochs:Value
abbrev fT:List (Fld aJ):=[⟨kInt .i64,aJ.Newest⟩,⟨kRaw,aJ.Epochs⟩]
abbrev bz:Kd aJ:=kSt fT
instance:ZK bz (⟨0,(.slice none 0 0)⟩:aJ):=zs
structure eN where
 Next:Int
 Window:aJ
abbrev ky:List (Fld eN):=[⟨kInt .i64,eN.Next⟩,⟨bz,eN.Window⟩]
abbrev tc:Kd eN:=kSt ky
structure ai where
 Cell:List Int
 Replay:List Int
abbrev iZ:List (Fld ai):=[⟨kSl (kInt .u8),ai.Cell⟩,⟨kArr 16 (kInt .u8),ai.Replay⟩]
abbrev aM:Kd ai:=kSt iZ
instance:ZK aM (⟨[],(List.replicate 16 0)⟩:ai):=zs
structure aE where
 words:List Int
 tail:List Int
 n:Int
abbrev jR:List (Fld aE):=[⟨kArr 8 (kInt .u32),aE.words⟩,⟨kArr 64 (kInt .u8),aE.tail⟩,⟨kInt .u64,aE.n⟩]
abbrev cc:Kd aE:=kSt jR
instance:ZK cc (⟨(List.replicate 8 0),(List.replicate 64 0),0⟩:aE):=zs
structure az where
 Box:List Int
 Mac:List Int
 Replay:List Int
abbrev dZ:List (Fld az):=[⟨kArr 16 (kInt .u8),az.Box⟩,⟨kArr 32 (kInt .u8),az.Mac⟩,⟨kArr 32 (kInt .u8),az.Replay⟩]
abbrev br:Kd az:=kSt dZ
instance:ZK br (⟨(List.replicate 16 0),(List.replicate 32 0),(List.replicate 32 0)⟩:az):=zs
structure aS where
 keys:List (List Int)
abbrev kz:List (Fld aS):=[⟨kArr 11 (kArr 16 (kInt .u8)),aS.keys⟩]
abbrev aG:Kd aS:=kSt kz
instance:ZK aG (⟨(List.replicate 11 (List.replicate 16 0))⟩:aS):=zs
structure cl where
 Noise:List Int
 Braid:List Int
 Chunks:Value
abbrev l9:List (Fld cl):=[⟨kSl (kInt .u8),cl.Noise⟩,⟨kSl (kInt .u8),cl.Braid⟩,⟨kRaw,cl.Chunks⟩]
abbrev gi:Kd cl:=kSt l9
instance:ZK gi (⟨[],[],(.slice none 0 0)⟩:cl):=zs
structure bS where
 parts:aT
 sizes:List Int
 starts:List Int
abbrev fx:List (Fld bS):=[⟨fc,bS.parts⟩,⟨kSl (kInt .i64),bS.sizes⟩,⟨kSl (kInt .i64),bS.starts⟩]
abbrev iG:Kd bS:=kSt fx
instance:ZK iG (⟨(⟨[],[],[]⟩:aT),[],[]⟩:bS):=zs
structure bp where
 parts:aT
 sizes:List Int
 starts:Value
abbrev io:List (Fld bp):=[⟨fc,bp.parts⟩,⟨kSl (kInt .i64),bp.sizes⟩,⟨kRaw,bp.starts⟩]
abbrev iH:Kd bp:=kSt io
instance:ZK iH (⟨(⟨[],[],[]⟩:aT),[],(.slice none 0 0)⟩:bp):=zs
structure aR where
 bytes:List Int
 used:Int
abbrev my:List (Fld aR):=[⟨kStr,aR.bytes⟩,⟨kInt .i64,aR.used⟩]
abbrev cj:Kd aR:=kSt my
instance:ZK cj (⟨[],0⟩:aR):=zs
structure aD where
 Number:Int
 Tags:Value
abbrev j8:List (Fld aD):=[⟨kInt .i64,aD.Number⟩,⟨kRaw,aD.Tags⟩]
abbrev aO:Kd aD:=kSt j8
instance:ZK aO (⟨0,(.slice none 0 0)⟩:aD):=zs
structure ah where
 Head:Bool
 Header:af
 Cells:List (List Int)
 Place:Int
 Err:Int
abbrev bK:List (Fld ah):=[⟨mN,ah.Head⟩,⟨cZ,ah.Header⟩,⟨kSl (kSl (kInt .u8)),ah.Cells⟩,⟨kInt .i64,ah.Place⟩,⟨kInt .i64,ah.Err⟩]
abbrev bd:Kd ah:=kSt bK
instance:ZK bd (⟨false,(⟨0,0,0⟩:af),[],0,0⟩:ah):=zs
structure aB where
 Head:Bool
 Header:af
 Cells:Value
 Place:Int
 Err:Int
abbrev de:List (Fld aB):=[⟨mN,aB.Head⟩,⟨cZ,aB.Header⟩,⟨kRaw,aB.Cells⟩,⟨kInt .i64,aB.Place⟩,⟨kInt .i64,aB.Err⟩]
abbrev eh:Kd aB:=kSt de
instance:ZK eh (⟨false,(⟨0,0,0⟩:af),(.slice none 0 0),0,0⟩:aB):=zs
structure cg where
 Header:af
 Cells:Value
abbrev ma:List (Fld cg):=[⟨cZ,cg.Header⟩,⟨kRaw,cg.Cells⟩]
abbrev jn:Kd cg:=kSt ma
instance:ZK jn (⟨(⟨0,0,0⟩:af),(.slice none 0 0)⟩:cg):=zs
abbrev str0:ByteArray:=⟨#[67,72,82,78,1,2,0,0,0,0,0,0,0,0,0,7,0,0,0,0,0,0,0,1,26,196,1,55]⟩
theorem EH:rdOf (.raw (.string str0)) kStr [67,72,82,78,1,2,0,0,0,0,0,0,0,0,0,7,0,0,0,0,0,0,0,1,26,196,1,55]:=rdS kr
abbrev str1:ByteArray:=⟨#[67,72,82,78,1,1,0,0,0,0,0,0,0,0,0,7,0,0,0,0,0,0,0,1,26,177,1,54]⟩
theorem EI:rdOf (.raw (.string str1)) kStr [67,72,82,78,1,1,0,0,0,0,0,0,0,0,0,7,0,0,0,0,0,0,0,1,26,177,1,54]:=rdS kr
theorem ZT24:ZT prog 24 aY (⟨[],(0:Int),(0:Int),(0:Int),(0:Int),(0:Int),(0:Int),(0:Int),(0:Int),(0:Int),(0:Int)⟩:aC):=zq
theorem AT5:AT prog 5 (kInt .u8) (0:Int) 1:=aq
theorem BT24:BT prog 24 dc (⟨[],(0:Int),(0:Int),(0:Int),(0:Int),(0:Int),(0:Int),(0:Int),(0:Int),(0:Int),(0:Int)⟩:aC):=bq
theorem sz24k:(prog.info? 24).map (·.size)=some (Kd.n aY):=kr
theorem kt24:KT prog 24 aY:=kq
theorem BT29:BT prog 29 jP (⟨(0:Int),(⟨(0:Int),[]⟩:ae)⟩:aN):=bq
theorem ZT37:ZT prog 37 bQ (⟨[],(⟨(0:Int),(⟨(0:Int),[]⟩:ae)⟩:aN),(⟨(0:Int),(0:Int),(0:Int),(0:Int),(0:Int)⟩:au),(0:Int),(0:Int)⟩:aX):=zq
theorem kt29:KT prog 29 a8:=kq
theorem ZT46:ZT prog 46 bj (⟨(⟨(0:Int),(0:Int),(0:Int)⟩:af),[]⟩:av):=zq
theorem ZT27:ZT prog 27 ak (⟨(0:Int),[]⟩:ae):=zq
theorem fb24k:fldB prog 24 0=some (offF dc 0,0+1):=kr
theorem kt22:KT prog 22 (kSl (kInt .u8)):=kq
theorem fb24k1:fldB prog 24 1=some (offF dc 1,0+1):=kr
theorem kt3:KT prog 3 (kInt .i64):=kq
theorem cm (d:Nat) (e:Bool) (k:Under F0 n ((d,.raw (.bool e))::E) L (wpList P ops Q rest)) (h:Under F0 n ((d,.raw (.bool e))::E) L (wpList P ops Q rest)→Under F0 n E L (wpList P ops Q (o0::o1::o2::o3::rest))):Under F0 n E L (wpList P ops Q (o0::o1::o2::o3::rest)):=h k
theorem Fw (d:Nat) (e:Bool) (k:aK F0 n ((d,.raw (.bool e))::E) (wpQuiet P ops C Qa rest)) (h:aK F0 n ((d,.raw (.bool e))::E) (wpQuiet P ops C Qa rest)→aK F0 n E (wpQuiet P ops C Qa (o0::o1::o2::o3::rest))):aK F0 n E (wpQuiet P ops C Qa (o0::o1::o2::o3::rest)):=h k
theorem fb24k2:fldB prog 24 2=some (offF dc 2,0+1):=kr
theorem fb24k3:fldB prog 24 3=some (offF dc 3,0+1):=kr
theorem fb24k4:fldB prog 24 5=some (offF dc 5,0+1):=kr
theorem fb24k5:fldB prog 24 4=some (offF dc 4,0+1):=kr
theorem fb24k6:fldB prog 24 6=some (offF dc 6,0+1):=kr
theorem fb24k7:fldB prog 24 7=some (offF dc 7,0+1):=kr
theorem fb24k8:fldB prog 24 8=some (offF dc 8,0+1):=kr
theorem fb24k9:fldB prog 24 9=some (offF dc 9,0+1):=kr
theorem fb24k10:fldB prog 24 10=some (offF dc 10,0+1):=kr
theorem kF (d:Nat) (e:Bool) (k:Under F0 n ((d,.raw (.bool e))::E) L (wpList P ops Q rest)) (h:Under F0 n ((d,.raw (.bool e))::E) L (wpList P ops Q rest)→Under F0 n E L (wpList P ops Q (o0::o1::o2::o3::o4::o5::rest))):Under F0 n E L (wpList P ops Q (o0::o1::o2::o3::o4::o5::rest)):=h k
theorem Fx (d:Nat) (e:Bool) (k:aK F0 n ((d,.raw (.bool e))::E) (wpQuiet P ops C Qa rest)) (h:aK F0 n ((d,.raw (.bool e))::E) (wpQuiet P ops C Qa rest)→aK F0 n E (wpQuiet P ops C Qa (o0::o1::o2::o3::o4::o5::rest))):aK F0 n E (wpQuiet P ops C Qa (o0::o1::o2::o3::o4::o5::rest)):=h k
theorem fb29k:fldB prog 29 0=some (offF jP 0,0+1):=kr
theorem kt2:KT prog 2 (kInt .i64):=kq
theorem fb29k1:fldB prog 29 1=some (offF jP 1,1+1):=kr
theorem kt27:KT prog 27 ak:=kq
theorem fb27k:fldB prog 27 0=some (offF eL 0,0+1):=kr
theorem fb27k1:fldB prog 27 1=some (offF eL 1,0+1):=kr
theorem kt25:KT prog 25 (kSl aH):=kq
theorem sz152:(prog.info? 152).map (·.size)=some (Kd.n aH):=kr
theorem kt152:KT prog 152 aH:=kq
theorem ZT152:ZT prog 152 aH (⟨(0:Int),[]⟩:aj):=zq
theorem sz152k:(prog.info? 152).map (·.size)=some (Kd.n aH):=kr
theorem fb152k:fldB prog 152 1=some (offF iF 1,0+1):=kr
theorem kt85:KT prog 85 (kSl (kArr 16 (kInt .u8))):=kq
theorem sz64:(prog.info? 64).map (·.size)=some (Kd.n (kArr 16 (kInt .u8))):=kr
theorem kt64:KT prog 64 (kArr 16 (kInt .u8)):=kq
theorem ZT64:ZT prog 64 (kArr 16 (kInt .u8)) (List.replicate 16 (0:Int)):=zq
theorem sz64k:(prog.info? 64).map (·.size)=some (Kd.n (kArr 16 (kInt .u8))):=kr
theorem kt5:KT prog 5 (kInt .u8):=kq
theorem key64:KeyK prog 64 (kArr 16 (kInt .u8)):=ME U64 U5 kt5
theorem fb152k1:fldB prog 152 0=some (offF iF 0,0+1):=kr
theorem Fy (d:Nat) (e:Bool) (k:Under F0 n ((d,.raw (.bool e))::E) L (wpList P ops Q rest)) (h:Under F0 n ((d,.raw (.bool e))::E) L (wpList P ops Q rest)→Under F0 n E L (wpList P ops Q (o0::o1::o2::o3::o4::o5::o6::o7::o8::o9::o10::rest))):Under F0 n E L (wpList P ops Q (o0::o1::o2::o3::o4::o5::o6::o7::o8::o9::o10::rest)):=h k
theorem vf (d:Nat) (e:Bool) (k:aK F0 n ((d,.raw (.bool e))::E) (wpQuiet P ops C Qa rest)) (h:aK F0 n ((d,.raw (.bool e))::E) (wpQuiet P ops C Qa rest)→aK F0 n E (wpQuiet P ops C Qa (o0::o1::o2::o3::o4::o5::o6::o7::o8::o9::o10::rest))):aK F0 n E (wpQuiet P ops C Qa (o0::o1::o2::o3::o4::o5::o6::o7::o8::o9::o10::rest)):=h k
theorem mU (d:Nat) (e:Bool) (k:Under F0 n ((d,.raw (.bool e))::E) L (wpList P ops Q rest)) (h:Under F0 n ((d,.raw (.bool e))::E) L (wpList P ops Q rest)→Under F0 n E L (wpList P ops Q (o0::o1::o2::o3::o4::rest))):Under F0 n E L (wpList P ops Q (o0::o1::o2::o3::o4::rest)):=h k
theorem EJ (d:Nat) (e:Bool) (k:aK F0 n ((d,.raw (.bool e))::E) (wpQuiet P ops C Qa rest)) (h:aK F0 n ((d,.raw (.bool e))::E) (wpQuiet P ops C Qa rest)→aK F0 n E (wpQuiet P ops C Qa (o0::o1::o2::o3::o4::rest))):aK F0 n E (wpQuiet P ops C Qa (o0::o1::o2::o3::o4::rest)):=h k
theorem FA (d:Nat) (e:Bool) (k:Under F0 n ((d,.raw (.bool e))::E) L (wpList P ops Q rest)) (h:Under F0 n ((d,.raw (.bool e))::E) L (wpList P ops Q rest)→Under F0 n E L (wpList P ops Q (o0::o1::o2::o3::o4::o5::o6::o7::o8::o9::o10::o11::o12::o13::o14::rest))):Under F0 n E L (wpList P ops Q (o0::o1::o2::o3::o4::o5::o6::o7::o8::o9::o10::o11::o12::o13::o14::rest)):=h k
theorem DU (d:Nat) (e:Bool) (k:aK F0 n ((d,.raw (.bool e))::E) (wpQuiet P ops C Qa rest)) (h:aK F0 n ((d,.raw (.bool e))::E) (wpQuiet P ops C Qa rest)→aK F0 n E (wpQuiet P ops C Qa (o0::o1::o2::o3::o4::o5::o6::o7::o8::o9::o10::o11::o12::o13::o14::rest))):aK F0 n E (wpQuiet P ops C Qa (o0::o1::o2::o3::o4::o5::o6::o7::o8::o9::o10::o11::o12::o13::o14::rest)):=h k
theorem qm (d:Nat) (e:Bool) (k:Under F0 n ((d,.raw (.bool e))::E) L (wpList P ops Q rest)) (h:Under F0 n ((d,.raw (.bool e))::E) L (wpList P ops Q rest)→Under F0 n E L (wpList P ops Q (o0::o1::o2::o3::o4::o5::o6::o7::rest))):Under F0 n E L (wpList P ops Q (o0::o1::o2::o3::o4::o5::o6::o7::rest)):=h k
theorem EK (d:Nat) (e:Bool) (k:aK F0 n ((d,.raw (.bool e))::E) (wpQuiet P ops C Qa rest)) (h:aK F0 n ((d,.raw (.bool e))::E) (wpQuiet P ops C Qa rest)→aK F0 n E (wpQuiet P ops C Qa (o0::o1::o2::o3::o4::o5::o6::o7::rest))):aK F0 n E (wpQuiet P ops C Qa (o0::o1::o2::o3::o4::o5::o6::o7::rest)):=h k
theorem sz5:(prog.info? 5).map (·.size)=some (Kd.n (kInt .u8)):=kr
theorem nx230:Extern.findNext Tryz.f230=none:=kr
theorem fd230:Extern.find Tryz.f230=some Extern.BytealgCompare.compare:=kr
theorem nb230:Tryz.f230.body.isNone=true:=kr
theorem nn230 : (Tryz.f230.name == "runtime.NumGoroutine") = false := kr
theorem cU (d:Nat) (e:Bool) (k:Under F0 n ((d,.raw (.bool e))::E) L (wpList P ops Q rest)) (h:Under F0 n ((d,.raw (.bool e))::E) L (wpList P ops Q rest)→Under F0 n E L (wpList P ops Q (o0::o1::o2::rest))):Under F0 n E L (wpList P ops Q (o0::o1::o2::rest)):=h k
theorem FB (d:Nat) (e:Bool) (k:aK F0 n ((d,.raw (.bool e))::E) (wpQuiet P ops C Qa rest)) (h:aK F0 n ((d,.raw (.bool e))::E) (wpQuiet P ops C Qa rest)→aK F0 n E (wpQuiet P ops C Qa (o0::o1::o2::rest))):aK F0 n E (wpQuiet P ops C Qa (o0::o1::o2::rest)):=h k
theorem DV (d:Nat) (e:Bool) (k:Under F0 n ((d,.raw (.bool e))::E) L (wpList P ops Q rest)) (h:Under F0 n ((d,.raw (.bool e))::E) L (wpList P ops Q rest)→Under F0 n E L (wpList P ops Q (o0::o1::o2::o3::o4::o5::o6::o7::o8::rest))):Under F0 n E L (wpList P ops Q (o0::o1::o2::o3::o4::o5::o6::o7::o8::rest)):=h k
theorem FC (d:Nat) (e:Bool) (k:aK F0 n ((d,.raw (.bool e))::E) (wpQuiet P ops C Qa rest)) (h:aK F0 n ((d,.raw (.bool e))::E) (wpQuiet P ops C Qa rest)→aK F0 n E (wpQuiet P ops C Qa (o0::o1::o2::o3::o4::o5::o6::o7::o8::rest))):aK F0 n E (wpQuiet P ops C Qa (o0::o1::o2::o3::o4::o5::o6::o7::o8::rest)):=h k
theorem kt46:KT prog 46 bj:=kq
theorem BT27:BT prog 27 eL (⟨(0:Int),[]⟩:ae):=bq
theorem sz46k:(prog.info? 46).map (·.size)=some (Kd.n bj):=kr
theorem sz27k:(prog.info? 27).map (·.size)=some (Kd.n ak):=kr
theorem BT144:BT prog 144 jQ (⟨(0:Int),(0:Int)⟩:an):=bq
theorem pU:BT prog 146 db (⟨(.slice none 0 0),(0:Int),(0:Int),(0:Int),(⟨(0:Int),(0:Int),(0:Int)⟩:af),(⟨(0:Int),(0:Int)⟩:an),(0:Int),(0:Int)⟩:ao):=bq
theorem pP:fldB prog 146 6=some (9,0+1):=kr
theorem ei:UpF db 6 ⟨kInt .i64,ao.err⟩ (λx y=>{x with err:=y}):=uq
theorem kt35k:KT prog 35 (kInt .i64):=kq
theorem BTA273:BTA prog 273 10 (kInt .i64) (List.replicate 10 (0:Int)):=baq
theorem jy:fldB prog 146 2=some (2,0+1):=kr
theorem bV:UpF db 2 ⟨kInt .i64,ao.stage⟩ (λx y=>{x with stage:=y}):=uq
theorem kt3k:KT prog 3 (kInt .i64):=kq
theorem kR:fldB prog 146 0=some (0,0+1):=kr
theorem cn:UpF db 0 ⟨kRaw,ao.field⟩ (λx y=>{x with field:=y}):=uq
theorem kt22k:KT prog 22 kRaw:=kq
theorem sz22k:(prog.info? 22).map (·.size)=some (Kd.n kRaw):=kr
theorem pQ:fldB prog 146 1=some (1,0+1):=kr
theorem ek:UpF db 1 ⟨kInt .i64,ao.at_⟩ (λx y=>{x with at_:=y}):=uq
theorem sz3k:(prog.info? 3).map (·.size)=some (Kd.n (kInt .i64)):=kr
theorem ET5:ET prog 5 (kInt .u8) (0:Int):=eq_q
theorem ET22:ET prog 22 (kSl (kInt .u8)) []:=eq_q
theorem AT22:AT prog 22 (kSl (kInt .u8)) [] 24:=aq
theorem yf:fldB prog 146 5=some (7,1+1):=kr
theorem jD:UpF db 5 ⟨da,ao.sum⟩ (λx y=>{x with sum:=y}):=uq
theorem kt144k:KT prog 144 da:=kq
theorem fb144k:fldB prog 144 1=some (offF jQ 1,0+1):=kr
theorem kt142:KT prog 142 (kInt .u32):=kq
theorem fb144k1:fldB prog 144 0=some (offF jQ 0,0+1):=kr
theorem ZT144:ZT prog 144 da (⟨(0:Int),(0:Int)⟩:an):=zq
theorem yg:fldB prog 144 0=some (0,0+1):=kr
theorem mc:UpF jQ 0 ⟨kInt .u32,an.a⟩ (λx y=>{x with a:=y}):=uq
theorem kt142k:KT prog 142 (kInt .u32):=kq
theorem sz142k:(prog.info? 142).map (·.size)=some (Kd.n (kInt .u32)):=kr
theorem BG:fldB prog 144 1=some (1,0+1):=kr
theorem oY:UpF jQ 1 ⟨kInt .u32,an.b⟩ (λx y=>{x with b:=y}):=uq
theorem kt144:KT prog 144 da:=kq
theorem sz144k:(prog.info? 144).map (·.size)=some (Kd.n da):=kr
abbrev str2:ByteArray:=⟨#[67,72,82,78]⟩
theorem yh:rdOf (.raw (.string str2)) kStr [67,72,82,78]:=rdS kr
theorem sz5k:(prog.info? 5).map (·.size)=some (Kd.n (kInt .u8)):=kr
theorem kt5k:KT prog 5 (kInt .u8):=kq
theorem ri:fldB prog 146 4=some (4,2+1):=kr
theorem DW:fldB prog 43 2=some (2,0+1):=kr
theorem fF:UpF db 4 ⟨cZ,ao.header⟩ (λx y=>{x with header:=y}):=uq
theorem og:UpF fX 2 ⟨kInt .i64,af.Left⟩ (λx y=>{x with Left:=y}):=uq
theorem rj:fldB prog 146 3=some (3,0+1):=kr
theorem fG:UpF db 3 ⟨kInt .i64,ao.left⟩ (λx y=>{x with left:=y}):=uq
theorem Fg:fldB prog 43 0=some (0,0+1):=kr
theorem td:UpF fX 0 ⟨kInt .i64,af.Round⟩ (λx y=>{x with Round:=y}):=uq
theorem sz2k:(prog.info? 2).map (·.size)=some (Kd.n (kInt .i64)):=kr
theorem Fh:fldB prog 43 1=some (1,0+1):=kr
theorem tf:UpF fX 1 ⟨kInt .i64,af.Epoch⟩ (λx y=>{x with Epoch:=y}):=uq
theorem sz35k:(prog.info? 35).map (·.size)=some (Kd.n (kInt .i64)):=kr
theorem yi:fldB prog 146 7=some (10,0+1):=kr
theorem jE:UpF db 7 ⟨kInt .i64,ao.place⟩ (λx y=>{x with place:=y}):=uq
theorem kt43k:KT prog 43 cZ:=kq
theorem BT46:BT prog 46 jO (⟨(⟨(0:Int),(0:Int),(0:Int)⟩:af),[]⟩:av):=bq
theorem fb46k:fldB prog 46 0=some (offF jO 0,2+1):=kr
theorem fb43k:fldB prog 43 2=some (offF fX 2,0+1):=kr
theorem fb43k1:fldB prog 43 0=some (offF fX 0,0+1):=kr
theorem fb43k2:fldB prog 43 1=some (offF fX 1,0+1):=kr
theorem me:BT prog 27 fT (⟨(0:Int),(.slice none 0 0)⟩:aJ):=bq
theorem ZT27k:ZT prog 27 bz (⟨(0:Int),(.slice none 0 0)⟩:aJ):=zq
theorem sz27k1:(prog.info? 27).map (·.size)=some (Kd.n bz):=kr
theorem Fi:fldB prog 27 0=some (0,0+1):=kr
theorem qn:UpF fT 0 ⟨kInt .i64,aJ.Newest⟩ (λx y=>{x with Newest:=y}):=uq
theorem kt2k:KT prog 2 (kInt .i64):=kq
theorem gj:fldB prog 27 1=some (1,0+1):=kr
theorem aU:UpF fT 1 ⟨kRaw,aJ.Epochs⟩ (λx y=>{x with Epochs:=y}):=uq
theorem kt25k:KT prog 25 kRaw:=kq
theorem ET64:ET prog 64 (kArr 16 (kInt .u8)) (List.replicate 16 (0:Int)):=eq_q
theorem AT64:AT prog 64 (kArr 16 (kInt .u8)) (List.replicate 16 (0:Int)) 16:=aq
theorem BT152:BT prog 152 iF (⟨(0:Int),[]⟩:aj):=bq
theorem ET152:ET prog 152 aH (⟨(0:Int),[]⟩:aj):=eq_q
theorem AT152:AT prog 152 aH (⟨(0:Int),[]⟩:aj) 32:=aq
theorem sz25k:(prog.info? 25).map (·.size)=some (Kd.n kRaw):=kr
theorem ZT29:ZT prog 29 a8 (⟨(0:Int),(⟨(0:Int),[]⟩:ae)⟩:aN):=zq
theorem vg:fldB prog 29 1=some (1,1+1):=kr
theorem vh:UpF jP 1 ⟨ak,aN.Window⟩ (λx y=>{x with Window:=y}):=uq
theorem th:UpF eL 1 ⟨kSl aH,ae.Epochs⟩ (λx y=>{x with Epochs:=y}):=uq
theorem kt25k1:KT prog 25 (kSl aH):=kq
theorem gm:UpF ky 1 ⟨bz,eN.Window⟩ (λx y=>{x with Window:=y}):=uq
theorem pR:fldB prog 152 1=some (1,0+1):=kr
theorem j9:UpF iF 1 ⟨kSl (kArr 16 (kInt .u8)),aj.Tags⟩ (λx y=>{x with Tags:=y}):=uq
theorem kt85k:KT prog 85 (kSl (kArr 16 (kInt .u8))):=kq
theorem sz85k:(prog.info? 85).map (·.size)=some (Kd.n (kSl (kArr 16 (kInt .u8)))):=kr
theorem sz29k:(prog.info? 29).map (·.size)=some (Kd.n a8):=kr
theorem BT37:BT prog 37 iu (⟨[],(⟨(0:Int),(⟨(0:Int),[]⟩:ae)⟩:aN),(⟨(0:Int),(0:Int),(0:Int),(0:Int),(0:Int)⟩:au),(0:Int),(0:Int)⟩:aX):=bq
theorem sz37k:(prog.info? 37).map (·.size)=some (Kd.n bQ):=kr
theorem kt37:KT prog 37 bQ:=kq
theorem kt27k:KT prog 27 ak:=kq
theorem ZT34:ZT prog 34 cq (⟨(0:Int),(0:Int),(0:Int),(0:Int),(0:Int)⟩:au):=zq
theorem BT34:BT prog 34 fY (⟨(0:Int),(0:Int),(0:Int),(0:Int),(0:Int)⟩:au):=bq
theorem sz34k:(prog.info? 34).map (·.size)=some (Kd.n cq):=kr
theorem kt34:KT prog 34 cq:=kq
theorem ZT179:ZT prog 179 (kArr 32 (kInt .u8)) (List.replicate 32 (0:Int)):=zq
theorem ZT253:ZT prog 253 cc (⟨(List.replicate 8 (0:Int)),(List.replicate 64 (0:Int)),(0:Int)⟩:aE):=zq
theorem ZT251:ZT prog 251 (kArr 64 (kInt .u8)) (List.replicate 64 (0:Int)):=zq
theorem BT253:BT prog 253 jR (⟨(List.replicate 8 (0:Int)),(List.replicate 64 (0:Int)),(0:Int)⟩:aE):=bq
theorem sz253k:(prog.info? 253).map (·.size)=some (Kd.n cc):=kr
theorem kt253:KT prog 253 cc:=kq
theorem pS:fldB prog 253 2=some (72,0+1):=kr
theorem gu:UpF jR 2 ⟨kInt .u64,aE.n⟩ (λx y=>{x with n:=y}):=uq
theorem kt71k:KT prog 71 (kInt .u64):=kq
theorem ZT250:ZT prog 250 (kArr 8 (kInt .u32)) (List.replicate 8 (0:Int)):=zq
theorem BTA250:BTA prog 250 8 (kInt .u32) (List.replicate 8 (0:Int)):=baq
theorem sz250k:(prog.info? 250).map (·.size)=some (Kd.n (kArr 8 (kInt .u32))):=kr
theorem kt250:KT prog 250 (kArr 8 (kInt .u32)):=kq
theorem yj:fldB prog 253 0=some (0,7+1):=kr
theorem mf:UpF jR 0 ⟨kArr 8 (kInt .u32),aE.words⟩ (λx y=>{x with words:=y}):=uq
theorem BH:fldB prog 253 1=some (8,63+1):=kr
theorem oZ:UpF jR 1 ⟨kArr 64 (kInt .u8),aE.tail⟩ (λx y=>{x with tail:=y}):=uq
theorem sz71k:(prog.info? 71).map (·.size)=some (Kd.n (kInt .u64)):=kr
theorem kt250k:KT prog 250 (kArr 8 (kInt .u32)):=kq
theorem kt251k:KT prog 251 (kArr 64 (kInt .u8)):=kq
theorem ZT319:ZT prog 319 (kArr 64 (kInt .u32)) (List.replicate 64 (0:Int)):=zq
def glob0:List Int:=[1116352408,1899447441,3049323471,3921009573,961987163,1508970993,2453635748,2870763221,3624381080,310598401,607225278,1426881987,1925078388,2162078206,2614888103,3248222580,3835390401,4022224774,264347078,604807628,770255983,1249150122,1555081692,1996064986,2554220882,2821834349,2952996808,3210313671,3336571891,3584528711,113926993,338241895,666307205,773529912,1294757372,1396182291,1695183700,1986661051,2177026350,2456956037,2730485921,2820302411,3259730800,3345764771,3516065817,3600352804,4094571909,275423344,430227734,506948616,659060556,883997877,958139571,1322822218,1537002063,1747873779,1955562222,2024104815,2227730452,2361852424,2428436474,2756734187,3204031479,3329325298]
theorem sz142:(prog.info? 142).map (·.size)=some (Kd.n (kInt .u32)):=kr
theorem kt253k:KT prog 253 cc:=kq
theorem fb253k:fldB prog 253 0=some (offF jR 0,7+1):=kr
theorem kt179:KT prog 179 (kArr 32 (kInt .u8)):=kq
theorem sz179k:(prog.info? 179).map (·.size)=some (Kd.n (kArr 32 (kInt .u8))):=kr
theorem fb46k1:fldB prog 46 1=some (offF jO 1,0+1):=kr
theorem kt44:KT prog 44 (kSl (kSl (kInt .u8))):=kq
theorem sz22:(prog.info? 22).map (·.size)=some (Kd.n (kSl (kInt .u8))):=kr
theorem ZT66:ZT prog 66 aM (⟨[],(List.replicate 16 (0:Int))⟩:ai):=zq
theorem BT66:BT prog 66 iZ (⟨[],(List.replicate 16 (0:Int))⟩:ai):=bq
theorem sz66k:(prog.info? 66).map (·.size)=some (Kd.n aM):=kr
theorem kt66:KT prog 66 aM:=kq
theorem ZT181:ZT prog 181 br (⟨(List.replicate 16 (0:Int)),(List.replicate 32 (0:Int)),(List.replicate 32 (0:Int))⟩:az):=zq
theorem BT181:BT prog 181 dZ (⟨(List.replicate 16 (0:Int)),(List.replicate 32 (0:Int)),(List.replicate 32 (0:Int))⟩:az):=bq
theorem sz181k:(prog.info? 181).map (·.size)=some (Kd.n br):=kr
theorem kt181:KT prog 181 br:=kq
theorem fb181k:fldB prog 181 1=some (offF dZ 1,31+1):=kr
theorem fb181k1:fldB prog 181 0=some (offF dZ 0,15+1):=kr
theorem BTA64:BTA prog 64 16 (kInt .u8) (List.replicate 16 (0:Int)):=baq
theorem ZT243:ZT prog 243 aG (⟨(List.replicate 11 (List.replicate 16 (0:Int)))⟩:aS):=zq
theorem ZT284:ZT prog 284 (kArr 44 (kArr 4 (kInt .u8))) (List.replicate 44 (List.replicate 4 (0:Int))):=zq
theorem sz283k:(prog.info? 283).map (·.size)=some (Kd.n (kArr 4 (kInt .u8))):=kr
theorem kt283k:KT prog 283 (kArr 4 (kInt .u8)):=kq
theorem ZT283:ZT prog 283 (kArr 4 (kInt .u8)) (List.replicate 4 (0:Int)):=zq
theorem BTA283:BTA prog 283 4 (kInt .u8) (List.replicate 4 (0:Int)):=baq
theorem kt284:KT prog 284 (kArr 44 (kArr 4 (kInt .u8))):=kq
theorem kt283:KT prog 283 (kArr 4 (kInt .u8)):=kq
theorem EL:fldB prog 243 0=some (0,175+1):=kr
theorem lE:UpF kz 0 ⟨kArr 11 (kArr 16 (kInt .u8)),aS.keys⟩ (λx y=>{x with keys:=y}):=uq
theorem sz240k:(prog.info? 240).map (·.size)=some (Kd.n (kArr 16 (kInt .u8))):=kr
theorem kt243:KT prog 243 aG:=kq
theorem sz243k:(prog.info? 243).map (·.size)=some (Kd.n aG):=kr
theorem ZT246:ZT prog 246 (kArr 256 (kInt .u8)) (List.replicate 256 (0:Int)):=zq
theorem kt64k:KT prog 64 (kArr 16 (kInt .u8)):=kq
theorem fb243k:fldB prog 243 0=some (offF kz 0,175+1):=kr
theorem sz240:(prog.info? 240).map (·.size)=some (Kd.n (kArr 16 (kInt .u8))):=kr
theorem kt240:KT prog 240 (kArr 16 (kInt .u8)):=kq
theorem ZT240:ZT prog 240 (kArr 16 (kInt .u8)) (List.replicate 16 (0:Int)):=zq
theorem kt240k:KT prog 240 (kArr 16 (kInt .u8)):=kq
theorem fb181k2:fldB prog 181 2=some (offF dZ 2,31+1):=kr
theorem yk:fldB prog 66 0=some (0,0+1):=kr
theorem jz:UpF iZ 0 ⟨kSl (kInt .u8),ai.Cell⟩ (λx y=>{x with Cell:=y}):=uq
theorem sz22k1:(prog.info? 22).map (·.size)=some (Kd.n (kSl (kInt .u8))):=kr
theorem DX:fldB prog 34 1=some (1,0+1):=kr
theorem oh:UpF fY 1 ⟨kInt .i64,au.Malformed⟩ (λx y=>{x with Malformed:=y}):=uq
theorem fb66k:fldB prog 66 1=some (offF iZ 1,15+1):=kr
theorem ZV3:ZV prog 3 (kInt .i64) (0:Int):=⟨(.int .i64 0:Value),kr,λF=>lN.2 J⟩
theorem eqk5:EqK prog 5 (kInt .u8) 1:=EqK.int U5
theorem eqk64:EqK prog 64 (kArr 16 (kInt .u8)) 2:=EqK.arr eqk5 kt5 U64
theorem eqg64:prog.eqGuardType prog.depth 64=false:=kr
theorem DY:fldB prog 34 2=some (2,0+1):=kr
theorem oi:UpF fY 2 ⟨kInt .i64,au.Replays⟩ (λx y=>{x with Replays:=y}):=uq
theorem ET66:ET prog 66 aM (⟨[],(List.replicate 16 (0:Int))⟩:ai):=eq_q
theorem AT66:AT prog 66 aM (⟨[],(List.replicate 16 (0:Int))⟩:ai) 40:=aq
theorem ZT51:ZT prog 51 fc (⟨[],[],[]⟩:aT):=zq
theorem BT51:BT prog 51 jN (⟨[],[],[]⟩:aT):=bq
theorem sz51k:(prog.info? 51).map (·.size)=some (Kd.n fc):=kr
theorem kt51:KT prog 51 fc:=kq
theorem rk:BT prog 51 l9 (⟨[],[],(.slice none 0 0)⟩:cl):=bq
theorem ZT51k:ZT prog 51 gi (⟨[],[],(.slice none 0 0)⟩:cl):=zq
theorem sz51k1:(prog.info? 51).map (·.size)=some (Kd.n gi):=kr
theorem Bc:fldB prog 51 2=some (2,0+1):=kr
theorem mz:UpF l9 2 ⟨kRaw,cl.Chunks⟩ (λx y=>{x with Chunks:=y}):=uq
theorem kt44k:KT prog 44 kRaw:=kq
theorem sz44k:(prog.info? 44).map (·.size)=some (Kd.n kRaw):=kr
theorem fb51k:fldB prog 51 0=some (offF jN 0,0+1):=kr
theorem AT3:AT prog 3 (kInt .i64) (0:Int) 8:=aq
theorem ET3:ET prog 3 (kInt .i64) (0:Int):=eq_q
theorem sz3:(prog.info? 3).map (·.size)=some (Kd.n (kInt .i64)):=kr
theorem sz66:(prog.info? 66).map (·.size)=some (Kd.n aM):=kr
theorem fb66k1:fldB prog 66 0=some (offF iZ 0,0+1):=kr
theorem ZT163k:ZT prog 163 iH (⟨(⟨[],[],[]⟩:aT),[],(.slice none 0 0)⟩:bp):=zq
theorem yl:fldB prog 163 1=some (3,0+1):=kr
theorem jF:UpF io 1 ⟨kSl (kInt .i64),bp.sizes⟩ (λx y=>{x with sizes:=y}):=uq
theorem sz68k:(prog.info? 68).map (·.size)=some (Kd.n (kSl (kInt .i64))):=kr
theorem fk:BT prog 163 io (⟨(⟨[],[],[]⟩:aT),[],(.slice none 0 0)⟩:bp):=bq
theorem sz163k:(prog.info? 163).map (·.size)=some (Kd.n iH):=kr
theorem kt163:KT prog 163 iG:=kq
theorem ym:fldB prog 163 0=some (0,2+1):=kr
theorem jG:UpF io 0 ⟨fc,bp.parts⟩ (λx y=>{x with parts:=y}):=uq
theorem Fj:fldB prog 51 1=some (1,0+1):=kr
theorem vi:UpF jN 1 ⟨kSl (kInt .u8),aT.Braid⟩ (λx y=>{x with Braid:=y}):=uq
theorem kt22k1:KT prog 22 (kSl (kInt .u8)):=kq
theorem ZT68k:ZT prog 68 kRaw (.slice none 0 0):=zq
theorem sz68k1:(prog.info? 68).map (·.size)=some (Kd.n kRaw):=kr
theorem ZT312:ZT prog 312 cj (⟨[],(0:Int)⟩:aR):=zq
theorem BT312:BT prog 312 my (⟨[],(0:Int)⟩:aR):=bq
theorem sz312k:(prog.info? 312).map (·.size)=some (Kd.n cj):=kr
theorem kt312:KT prog 312 cj:=kq
theorem kt312k:KT prog 312 cj:=kq
theorem fb312k:fldB prog 312 0=some (offF my 0,0+1):=kr
theorem kt9:KT prog 9 kStr:=kq
theorem fb312k1:fldB prog 312 1=some (offF my 1,0+1):=kr
theorem kt68k:KT prog 68 kRaw:=kq
theorem kt68k1:KT prog 68 (kSl (kInt .i64)):=kq
theorem BI:fldB prog 163 2=some (4,0+1):=kr
theorem mg:UpF io 2 ⟨kRaw,bp.starts⟩ (λx y=>{x with starts:=y}):=uq
theorem vj:UpF jN 2 ⟨kSl (kSl (kInt .u8)),aT.Chunks⟩ (λx y=>{x with Chunks:=y}):=uq
theorem kt44k1:KT prog 44 (kSl (kSl (kInt .u8))):=kq
theorem ET68:ET prog 68 (kSl (kInt .i64)) []:=eq_q
theorem AT68:AT prog 68 (kSl (kInt .i64)) [] 24:=aq
abbrev pa:(List Int)→Value→Value:=λ_ q=>q
abbrev pc:(List Int)→(List Int):=λx=>x
theorem CN:Free kRaw:=Free.raw
theorem w5:Free (kInt .i64):=Kk
theorem CO:∀F x q,(kSl (kInt .i64)).val F q (pc x)→∀cs,kRaw.rd F cs (pa x q)→(kSl (kInt .i64)).rd F cs x:=λF x q hv=>kQ hv
theorem AT68k:AT prog 68 kRaw (.slice none 0 0) 24:=aq
theorem sz68:(prog.info? 68).map (·.size)=some (Kd.n (kSl (kInt .i64))):=kr
theorem kt68:KT prog 68 (kSl (kInt .i64)):=kq
theorem kt163k:KT prog 163 iG:=kq
theorem sz163k1:(prog.info? 163).map (·.size)=some (Kd.n iG):=kr
theorem ZT163:ZT prog 163 iG (⟨(⟨[],[],[]⟩:aT),[],[]⟩:bS):=zq
theorem fb163k:fldB prog 163 1=some (offF fx 1,0+1):=kr
theorem fb163k1:fldB prog 163 2=some (offF fx 2,0+1):=kr
theorem AT4:AT prog 4 mN false 1:=aq
theorem sz4k:(prog.info? 4).map (·.size)=some (Kd.n mN):=kr
theorem kt4k:KT prog 4 mN:=kq
theorem BJ:fldB prog 152 0=some (0,0+1):=kr
theorem pe:UpF iF 0 ⟨kInt .i64,aj.Number⟩ (λx y=>{x with Number:=y}):=uq
abbrev cR:aj→Value→aD:=λx q=>⟨x.Number,q⟩
abbrev df:aj→List (List Int):=λx=>x.Tags
theorem bT:Free (aO):=LA Kk Free.raw
theorem bU:Free (kArr 16 (kInt .u8)):=Free.arr Kk
theorem qc:∀F x q,(kSl (kArr 16 (kInt .u8))).val F q (df x)→∀cs,(aO).rd F cs (cR x q)→(aH).rd F cs x:=λF x q hv cs h=>vK (fs':=j8) (fs:=iF) (x':=cR x q) (x:=x) ⟨λ_ h=>h,kQ hv,trivial⟩ h
theorem el:BT prog 152 j8 (⟨(0:Int),(.slice none 0 0)⟩:aD):=bq
theorem ET152k:ET prog 152 aO (⟨(0:Int),(.slice none 0 0)⟩:aD):=eq_q
theorem AT152k:AT prog 152 aO (⟨(0:Int),(.slice none 0 0)⟩:aD) 32:=aq
theorem sz152k1:(prog.info? 152).map (·.size)=some (Kd.n aO):=kr
theorem kt152k:KT prog 152 aO:=kq
theorem ZT152k:ZT prog 152 aO (⟨(0:Int),(.slice none 0 0)⟩:aD):=zq
theorem mF:UpF j8 1 ⟨kRaw,aD.Tags⟩ (λx y=>{x with Tags:=y}):=uq
theorem kt85k1:KT prog 85 kRaw:=kq
theorem BT43:BT prog 43 fX (⟨(0:Int),(0:Int),(0:Int)⟩:af):=bq
theorem kt43:KT prog 43 cZ:=kq
theorem Fk:fldB prog 34 3=some (3,0+1):=kr
theorem ti:UpF fY 3 ⟨kInt .i64,au.Noise⟩ (λx y=>{x with Noise:=y}):=uq
theorem Fl:fldB prog 34 4=some (4,0+1):=kr
theorem tp:UpF fY 4 ⟨kInt .i64,au.Out⟩ (λx y=>{x with Out:=y}):=uq
theorem fb37k:fldB prog 37 3=some (offF iu 3,0+1):=kr
theorem kt35:KT prog 35 (kInt .i64):=kq
theorem fb37k1:fldB prog 37 0=some (offF iu 0,0+1):=kr
theorem fb37k2:fldB prog 37 1=some (offF iu 1,2+1):=kr
theorem kt31:KT prog 31 cN:=kq
theorem fb31k:fldB prog 31 2=some (offF gt 2,0+1):=kr
theorem ZT193:ZT prog 193 bd (⟨false,(⟨(0:Int),(0:Int),(0:Int)⟩:af),[],(0:Int),(0:Int)⟩:ah):=zq
theorem ZT193k:ZT prog 193 eh (⟨false,(⟨(0:Int),(0:Int),(0:Int)⟩:af),(.slice none 0 0),(0:Int),(0:Int)⟩:aB):=zq
theorem nR:fldB prog 193 3=some (5,0+1):=kr
theorem ee:UpF de 3 ⟨kInt .i64,aB.Place⟩ (λx y=>{x with Place:=y}):=uq
theorem nS:fldB prog 193 4=some (6,0+1):=kr
theorem eg:UpF de 4 ⟨kInt .i64,aB.Err⟩ (λx y=>{x with Err:=y}):=uq
theorem kt193:KT prog 193 bd:=kq
theorem sz193k:(prog.info? 193).map (·.size)=some (Kd.n bd):=kr
theorem EM:fldB prog 193 0=some (0,0+1):=kr
theorem mr:UpF de 0 ⟨mN,aB.Head⟩ (λx y=>{x with Head:=y}):=uq
theorem EN:fldB prog 193 1=some (1,2+1):=kr
theorem ms:UpF de 1 ⟨cZ,aB.Header⟩ (λx y=>{x with Header:=y}):=uq
theorem sz43k:(prog.info? 43).map (·.size)=some (Kd.n cZ):=kr
theorem BK:fldB prog 193 2=some (4,0+1):=kr
theorem jg:UpF de 2 ⟨kRaw,aB.Cells⟩ (λx y=>{x with Cells:=y}):=uq
theorem gZ:UpF bK 3 ⟨kInt .i64,ah.Place⟩ (λx y=>{x with Place:=y}):=uq
theorem hZ:UpF bK 4 ⟨kInt .i64,ah.Err⟩ (λx y=>{x with Err:=y}):=uq
theorem fb193k:fldB prog 193 4=some (offF bK 4,0+1):=kr
theorem fb193k1:fldB prog 193 3=some (offF bK 3,0+1):=kr
theorem fb193k2:fldB prog 193 1=some (offF bK 1,2+1):=kr
theorem fb193k3:fldB prog 193 2=some (offF bK 2,0+1):=kr
theorem fb31k1:fldB prog 31 0=some (offF gt 0,10+1):=kr
theorem fb31k2:fldB prog 31 1=some (offF gt 1,2+1):=kr
theorem FD (d:Nat) (e:Bool) (k:Under F0 n ((d,.raw (.bool e))::E) L (wpList P ops Q rest)) (h:Under F0 n ((d,.raw (.bool e))::E) L (wpList P ops Q rest)→Under F0 n E L (wpList P ops Q (o0::o1::o2::o3::o4::o5::o6::o7::o8::o9::o10::o11::o12::o13::o14::o15::o16::rest))):Under F0 n E L (wpList P ops Q (o0::o1::o2::o3::o4::o5::o6::o7::o8::o9::o10::o11::o12::o13::o14::o15::o16::rest)):=h k
theorem DZ (d:Nat) (e:Bool) (k:aK F0 n ((d,.raw (.bool e))::E) (wpQuiet P ops C Qa rest)) (h:aK F0 n ((d,.raw (.bool e))::E) (wpQuiet P ops C Qa rest)→aK F0 n E (wpQuiet P ops C Qa (o0::o1::o2::o3::o4::o5::o6::o7::o8::o9::o10::o11::o12::o13::o14::o15::o16::rest))):aK F0 n E (wpQuiet P ops C Qa (o0::o1::o2::o3::o4::o5::o6::o7::o8::o9::o10::o11::o12::o13::o14::o15::o16::rest)):=h k
theorem FE (d:Nat) (e:Bool) (k:Under F0 n ((d,.raw (.bool e))::E) L (wpList P ops Q rest)) (h:Under F0 n ((d,.raw (.bool e))::E) L (wpList P ops Q rest)→Under F0 n E L (wpList P ops Q (o0::o1::o2::o3::o4::o5::o6::o7::o8::o9::rest))):Under F0 n E L (wpList P ops Q (o0::o1::o2::o3::o4::o5::o6::o7::o8::o9::rest)):=h k
theorem D0 (d:Nat) (e:Bool) (k:aK F0 n ((d,.raw (.bool e))::E) (wpQuiet P ops C Qa rest)) (h:aK F0 n ((d,.raw (.bool e))::E) (wpQuiet P ops C Qa rest)→aK F0 n E (wpQuiet P ops C Qa (o0::o1::o2::o3::o4::o5::o6::o7::o8::o9::rest))):aK F0 n E (wpQuiet P ops C Qa (o0::o1::o2::o3::o4::o5::o6::o7::o8::o9::rest)):=h k
theorem BTA249:BTA prog 249 8 (kInt .u32) (List.replicate 8 (0:Int)):=baq
theorem ZT249:ZT prog 249 (kArr 8 (kInt .u32)) (List.replicate 8 (0:Int)):=zq
theorem sz249k:(prog.info? 249).map (·.size)=some (Kd.n (kArr 8 (kInt .u32))):=kr
theorem BTA319:BTA prog 319 64 (kInt .u32) (List.replicate 64 (0:Int)):=baq
theorem sz319k:(prog.info? 319).map (·.size)=some (Kd.n (kArr 64 (kInt .u32))):=kr
theorem kt319:KT prog 319 (kArr 64 (kInt .u32)):=kq
theorem kt249k:KT prog 249 (kArr 8 (kInt .u32)):=kq
theorem kt249:KT prog 249 (kArr 8 (kInt .u32)):=kq
theorem EO:fldB prog 181 0=some (0,15+1):=kr
theorem mh:UpF dZ 0 ⟨kArr 16 (kInt .u8),az.Box⟩ (λx y=>{x with Box:=y}):=uq
theorem EP:fldB prog 181 1=some (16,31+1):=kr
theorem mi:UpF dZ 1 ⟨kArr 32 (kInt .u8),az.Mac⟩ (λx y=>{x with Mac:=y}):=uq
theorem EQ:fldB prog 181 2=some (48,31+1):=kr
theorem mj:UpF dZ 2 ⟨kArr 32 (kInt .u8),az.Replay⟩ (λx y=>{x with Replay:=y}):=uq
theorem ZT279:ZT prog 279 (kArr 176 (kInt .u8)) (List.replicate 176 (0:Int)):=zq
abbrev str3:ByteArray:=⟨#[99,124,119,123,242,107,111,197,48,1,103,43,254,215,171,118,202,130,201,125,250,89,71,240,173,212,162,175,156,164,114,192,183,253,147,38,54,63,247,204,52,165,229,241,113,216,49,21,4,199,35,195,24,150,5,154,7,18,128,226,235,39,178,117,9,131,44,26,27,110,90,160,82,59,214,179,41,227,47,132,83,209,0,237,32,252,177,91,106,203,190,57,74,76,88,207,208,239,170,251,67,77,51,133,69,249,2,127,80,60,159,168,81,163,64,143,146,157,56,245,188,182,218,33,16,255,243,210,205,12,19,236,95,151,68,23,196,167,126,61,100,93,25,115,96,129,79,220,34,42,144,136,70,238,184,20,222,94,11,219,224,50,58,10,73,6,36,92,194,211,172,98,145,149,228,121,231,200,55,109,141,213,78,169,108,86,244,234,101,122,174,8,186,120,37,46,28,166,180,198,232,221,116,31,75,189,139,138,112,62,181,102,72,3,246,14,97,53,87,185,134,193,29,158,225,248,152,17,105,217,142,148,155,30,135,233,206,85,40,223,140,161,137,13,191,230,66,104,65,153,45,15,176,84,187,22]⟩
theorem rm:rdOf (.raw (.string str3)) kStr [99,124,119,123,242,107,111,197,48,1,103,43,254,215,171,118,202,130,201,125,250,89,71,240,173,212,162,175,156,164,114,192,183,253,147,38,54,63,247,204,52,165,229,241,113,216,49,21,4,199,35,195,24,150,5,154,7,18,128,226,235,39,178,117,9,131,44,26,27,110,90,160,82,59,214,179,41,227,47,132,83,209,0,237,32,252,177,91,106,203,190,57,74,76,88,207,208,239,170,251,67,77,51,133,69,249,2,127,80,60,159,168,81,163,64,143,146,157,56,245,188,182,218,33,16,255,243,210,205,12,19,236,95,151,68,23,196,167,126,61,100,93,25,115,96,129,79,220,34,42,144,136,70,238,184,20,222,94,11,219,224,50,58,10,73,6,36,92,194,211,172,98,145,149,228,121,231,200,55,109,141,213,78,169,108,86,244,234,101,122,174,8,186,120,37,46,28,166,180,198,232,221,116,31,75,189,139,138,112,62,181,102,72,3,246,14,97,53,87,185,134,193,29,158,225,248,152,17,105,217,142,148,155,30,135,233,206,85,40,223,140,161,137,13,191,230,66,104,65,153,45,15,176,84,187,22]:=rdS kr
def ji:List Int:=[99,124,119,123,242,107,111,197,48,1,103,43,254,215,171,118,202,130,201,125,250,89,71,240,173,212,162,175,156,164,114,192,183,253,147,38,54,63,247,204,52,165,229,241,113,216,49,21,4,199,35,195,24,150,5,154,7,18,128,226,235,39,178,117,9,131,44,26,27,110,90,160,82,59,214,179,41,227,47,132,83,209,0,237,32,252,177,91,106,203,190,57,74,76,88,207,208,239,170,251,67,77,51,133,69,249,2,127,80,60,159,168,81,163,64,143,146,157,56,245,188,182,218,33,16,255,243,210,205,12,19,236,95,151,68,23,196,167,126,61,100,93,25,115,96,129,79,220,34,42,144,136,70,238,184,20,222,94,11,219,224,50,58,10,73,6,36,92,194,211,172,98,145,149,228,121,231,200,55,109,141,213,78,169,108,86,244,234,101,122,174,8,186,120,37,46,28,166,180,198,232,221,116,31,75,189,139,138,112,62,181,102,72,3,246,14,97,53,87,185,134,193,29,158,225,248,152,17,105,217,142,148,155,30,135,233,206,85,40,223,140,161,137,13,191,230,66,104,65,153,45,15,176,84,187,22]
theorem kt279:KT prog 279 (kArr 176 (kInt .u8)):=kq
theorem sz279k:(prog.info? 279).map (·.size)=some (Kd.n (kArr 176 (kInt .u8))):=kr
theorem D1:fldB prog 66 1=some (1,15+1):=kr
theorem oj:UpF iZ 1 ⟨kArr 16 (kInt .u8),ai.Replay⟩ (λx y=>{x with Replay:=y}):=uq
theorem Fm (d:Nat) (e:Bool) (k:Under F0 n ((d,.raw (.bool e))::E) L (wpList P ops Q rest)) (h:Under F0 n ((d,.raw (.bool e))::E) L (wpList P ops Q rest)→Under F0 n E L (wpList P ops Q (o0::o1::o2::o3::o4::o5::o6::rest))):Under F0 n E L (wpList P ops Q (o0::o1::o2::o3::o4::o5::o6::rest)):=h k
theorem FF (d:Nat) (e:Bool) (k:aK F0 n ((d,.raw (.bool e))::E) (wpQuiet P ops C Qa rest)) (h:aK F0 n ((d,.raw (.bool e))::E) (wpQuiet P ops C Qa rest)→aK F0 n E (wpQuiet P ops C Qa (o0::o1::o2::o3::o4::o5::o6::rest))):aK F0 n E (wpQuiet P ops C Qa (o0::o1::o2::o3::o4::o5::o6::rest)):=h k
theorem fb31k3:fldB prog 31 3=some (offF gt 3,0+1):=kr
theorem mK:BT prog 46 ma (⟨(⟨(0:Int),(0:Int),(0:Int)⟩:af),(.slice none 0 0)⟩:cg):=bq
theorem ZT46k:ZT prog 46 jn (⟨(⟨(0:Int),(0:Int),(0:Int)⟩:af),(.slice none 0 0)⟩:cg):=zq
theorem sz46k1:(prog.info? 46).map (·.size)=some (Kd.n jn):=kr
theorem pf:fldB prog 46 1=some (3,0+1):=kr
theorem dm:UpF ma 1 ⟨kRaw,cg.Cells⟩ (λx y=>{x with Cells:=y}):=uq
theorem ZT43:ZT prog 43 cZ (⟨(0:Int),(0:Int),(0:Int)⟩:af):=zq
theorem fb37k3:fldB prog 37 2=some (offF iu 2,4+1):=kr
theorem fb34k:fldB prog 34 3=some (offF fY 3,0+1):=kr
theorem fb34k1:fldB prog 34 4=some (offF fY 4,0+1):=kr
theorem rw5:RdW prog 5 (kInt .u8) (gInt .u8) bOne:=yr U5
theorem cof5:prog.cellsOf 5=1:=kr
theorem rw22:RdW prog 22 (kSl (kInt .u8)) (gSl (gInt .u8)) (bSl bOne):=D7 (K:=kInt .u8) U22 cof5 (by decide) rw5
theorem rw3:RdW prog 3 (kInt .i64) (gInt .i64) bOne:=yr U3
theorem cof22:prog.cellsOf 22=1:=kr
theorem cof3:prog.cellsOf 3=1:=kr
theorem cof24:prog.cellsOf 24=11:=kr
def rn (x:aC):Prop:=(gSl (gInt .u8)) x.Master∧(gInt .i64) x.Left∧(gInt .i64) x.Span∧(gInt .i64) x.Room∧(gInt .i64) x.Num∧(gInt .i64) x.Den∧(gInt .i64) x.Noise∧(gInt .i64) x.Chunks∧(gInt .i64) x.Workers∧(gInt .i64) x.Cap∧(gInt .i64) x.Shards∧True
def nT (x:aC):Nat:=(bSl bOne) x.Master+(bOne x.Left+(bOne x.Span+(bOne x.Room+(bOne x.Num+(bOne x.Den+(bOne x.Noise+(bOne x.Chunks+(bOne x.Workers+(bOne x.Cap+(bOne x.Shards+0))))))))))
theorem rw24:RdW prog 24 aY rn nT:=by intro H enc W _ B BA hB fuel cs x h;obtain⟨hl,ds,hx,hf0⟩:=rr underlying24 h;obtain⟨d0,ds0,e0,⟨n0,p0,t0⟩,hf1⟩:=JP hf0;subst e0;obtain⟨y0,r0,g0,b0⟩:=rw22 hB t0;obtain⟨d1,ds1,e1,⟨n1,p1,t1⟩,hf2⟩:=JP hf1;subst e1;obtain⟨y1,r1,g1,b1⟩:=rw3 hB t1;obtain⟨d2,ds2,e2,⟨n2,p2,t2⟩,hf3⟩:=JP hf2;subst e2;obtain⟨y2,r2,g2,b2⟩:=rw3 hB t2;obtain⟨d3,ds3,e3,⟨n3,p3,t3⟩,hf4⟩:=JP hf3;subst e3;obtain⟨y3,r3,g3,b3⟩:=rw3 hB t3;obtain⟨d4,ds4,e4,⟨n4,p4,t4⟩,hf5⟩:=JP hf4;subst e4;obtain⟨y4,r4,g4,b4⟩:=rw3 hB t4;obtain⟨d5,ds5,e5,⟨n5,p5,t5⟩,hf6⟩:=JP hf5;subst e5;obtain⟨y5,r5,g5,b5⟩:=rw3 hB t5;obtain⟨d6,ds6,e6,⟨n6,p6,t6⟩,hf7⟩:=JP hf6;subst e6;obtain⟨y6,r6,g6,b6⟩:=rw3 hB t6;obtain⟨d7,ds7,e7,⟨n7,p7,t7⟩,hf8⟩:=JP hf7;subst e7;obtain⟨y7,r7,g7,b7⟩:=rw3 hB t7;obtain⟨d8,ds8,e8,⟨n8,p8,t8⟩,hf9⟩:=JP hf8;subst e8;obtain⟨y8,r8,g8,b8⟩:=rw3 hB t8;obtain⟨d9,ds9,e9,⟨n9,p9,t9⟩,hf10⟩:=JP hf9;subst e9;obtain⟨y9,r9,g9,b9⟩:=rw3 hB t9;obtain⟨d10,ds10,e10,⟨n10,p10,t10⟩,hf11⟩:=JP hf10;subst e10;obtain⟨y10,r10,g10,b10⟩:=rw3 hB t10;have hnil:=FsRd.nil hf11;subst hnil;refine⟨⟨y0,y1,y2,y3,y4,y5,y6,y7,y8,y9,y10⟩,nf (dt cof22 r0 (dt cof3 r1 (dt cof3 r2 (dt cof3 r3 (dt cof3 r4 (dt cof3 r5 (dt cof3 r6 (dt cof3 r7 (dt cof3 r8 (dt cof3 r9 (dt cof3 r10 (ru (hl.trans cof24) J)))))))))))),⟨g0,g1,g2,g3,g4,g5,g6,g7,g8,g9,g10,trivial⟩,?_⟩;have:=hB.agg [d0,d1,d2,d3,d4,d5,d6,d7,d8,d9,d10];rw[hx];dsimp only at b0 b1 b2 b3 b4 b5 b6 b7 b8 b9 b10;simp only[hB.cons,hB.nil] at this;simp only[nT];omega
theorem rw2:RdW prog 2 (kInt .i64) (gInt .i64) bOne:=yr U2
theorem cof64:prog.cellsOf 64=16:=kr
theorem rw64:RdW prog 64 (kArr 16 (kInt .u8)) (gArr 16 (gInt .u8)) (bArr bOne):=Fo (K:=kInt .u8) U64 cof64 cof5 rw5
theorem rw85:RdW prog 85 (kSl (kArr 16 (kInt .u8))) (gSl (gArr 16 (gInt .u8))) (bSl (bArr bOne)):=D7 (K:=kArr 16 (kInt .u8)) U85 cof64 (by decide) rw64
theorem cof2:prog.cellsOf 2=1:=kr
theorem cof85:prog.cellsOf 85=1:=kr
theorem cof152:prog.cellsOf 152=2:=kr
def mL (x:aj):Prop:=(gInt .i64) x.Number∧(gSl (gArr 16 (gInt .u8))) x.Tags∧True
def gQ (x:aj):Nat:=bOne x.Number+((bSl (bArr bOne)) x.Tags+0)
theorem rw152:RdW prog 152 aH mL gQ:=by intro H enc W _ B BA hB fuel cs x h;obtain⟨hl,ds,hx,hf0⟩:=rr underlying152 h;obtain⟨d0,ds0,e0,⟨n0,p0,t0⟩,hf1⟩:=JP hf0;subst e0;obtain⟨y0,r0,g0,b0⟩:=rw2 hB t0;obtain⟨d1,ds1,e1,⟨n1,p1,t1⟩,hf2⟩:=JP hf1;subst e1;obtain⟨y1,r1,g1,b1⟩:=rw85 hB t1;have hnil:=FsRd.nil hf2;subst hnil;refine⟨⟨y0,y1⟩,nf (dt cof2 r0 (dt cof85 r1 (ru (hl.trans cof152) J))),⟨g0,g1,trivial⟩,?_⟩;have:=hB.agg [d0,d1];rw[hx];dsimp only at b0 b1;simp only[hB.cons,hB.nil] at this;simp only[gQ];omega
theorem rw25:RdW prog 25 (kSl aH) (gSl mL) (bSl gQ):=D7 (K:=aH) U25 cof152 (by decide) rw152
theorem cof25:prog.cellsOf 25=1:=kr
theorem cof27:prog.cellsOf 27=2:=kr
def nU (x:ae):Prop:=(gInt .i64) x.Newest∧(gSl mL) x.Epochs∧True
def i8 (x:ae):Nat:=bOne x.Newest+((bSl gQ) x.Epochs+0)
theorem rw27:RdW prog 27 ak nU i8:=by intro H enc W _ B BA hB fuel cs x h;obtain⟨hl,ds,hx,hf0⟩:=rr underlying27 h;obtain⟨d0,ds0,e0,⟨n0,p0,t0⟩,hf1⟩:=JP hf0;subst e0;obtain⟨y0,r0,g0,b0⟩:=rw2 hB t0;obtain⟨d1,ds1,e1,⟨n1,p1,t1⟩,hf2⟩:=JP hf1;subst e1;obtain⟨y1,r1,g1,b1⟩:=rw25 hB t1;have hnil:=FsRd.nil hf2;subst hnil;refine⟨⟨y0,y1⟩,nf (dt cof2 r0 (dt cof25 r1 (ru (hl.trans cof27) J))),⟨g0,g1,trivial⟩,?_⟩;have:=hB.agg [d0,d1];rw[hx];dsimp only at b0 b1;simp only[hB.cons,hB.nil] at this;simp only[i8];omega
theorem cof29:prog.cellsOf 29=3:=kr
def sT (x:aN):Prop:=(gInt .i64) x.Next∧nU x.Window∧True
def mM (x:aN):Nat:=bOne x.Next+(i8 x.Window+0)
theorem rw29:RdW prog 29 a8 sT mM:=by intro H enc W _ B BA hB fuel cs x h;obtain⟨hl,ds,hx,hf0⟩:=rr underlying29 h;obtain⟨d0,ds0,e0,⟨n0,p0,t0⟩,hf1⟩:=JP hf0;subst e0;obtain⟨y0,r0,g0,b0⟩:=rw2 hB t0;obtain⟨d1,ds1,e1,⟨n1,p1,t1⟩,hf2⟩:=JP hf1;subst e1;obtain⟨y1,r1,g1,b1⟩:=rw27 hB t1;have hnil:=FsRd.nil hf2;subst hnil;refine⟨⟨y0,y1⟩,nf (dt cof2 r0 (dt cof27 r1 (ru (hl.trans cof29) J))),⟨g0,g1,trivial⟩,?_⟩;have:=hB.agg [d0,d1];rw[hx];dsimp only at b0 b1;simp only[hB.cons,hB.nil] at this;simp only[mM];omega
theorem cof31:prog.cellsOf 31=16:=kr
def kK (x:bW):Prop:=rn x.C∧sT x.S∧(gSl (gInt .u8)) x.Raw∧(gSl (gInt .u8)) x.Tape∧True
def gv (x:bW):Nat:=nT x.C+(mM x.S+((bSl bOne) x.Raw+((bSl bOne) x.Tape+0)))
theorem rw31:RdW prog 31 cN kK gv:=by intro H enc W _ B BA hB fuel cs x h;obtain⟨hl,ds,hx,hf0⟩:=rr underlying31 h;obtain⟨d0,ds0,e0,⟨n0,p0,t0⟩,hf1⟩:=JP hf0;subst e0;obtain⟨y0,r0,g0,b0⟩:=rw24 hB t0;obtain⟨d1,ds1,e1,⟨n1,p1,t1⟩,hf2⟩:=JP hf1;subst e1;obtain⟨y1,r1,g1,b1⟩:=rw29 hB t1;obtain⟨d2,ds2,e2,⟨n2,p2,t2⟩,hf3⟩:=JP hf2;subst e2;obtain⟨y2,r2,g2,b2⟩:=rw22 hB t2;obtain⟨d3,ds3,e3,⟨n3,p3,t3⟩,hf4⟩:=JP hf3;subst e3;obtain⟨y3,r3,g3,b3⟩:=rw22 hB t3;have hnil:=FsRd.nil hf4;subst hnil;refine⟨⟨y0,y1,y2,y3⟩,nf (dt cof24 r0 (dt cof29 r1 (dt cof22 r2 (dt cof22 r3 (ru (hl.trans cof31) J))))),⟨g0,g1,g2,g3,trivial⟩,?_⟩;have:=hB.agg [d0,d1,d2,d3];rw[hx];dsimp only at b0 b1 b2 b3;simp only[hB.cons,hB.nil] at this;simp only[gv];omega
theorem rw71:RdW prog 71 (kInt .u64) (gInt .u64) bOne:=yr U71
theorem kt71:KT prog 71 (kInt .u64):=kq
abbrev K0:=(kSl (kArr 16 (kInt .u8)))
abbrev K1:=(kSl (kSl (kInt .u8)))
abbrev K2:=(kArr 64 (kInt .u32))
abbrev K3:=(kArr 176 (kInt .u8))
abbrev K4:=(kArr 16 (kInt .u8))
abbrev K5:=(kArr 8 (kInt .u32))
abbrev K6:=(kArr 32 (kInt .u8))
abbrev K7:=(kArr 4 (kInt .u8))
abbrev K8:=(kSl (kInt .i64))
abbrev K9:=(kSl (kInt .u8))
abbrev K10:=(kInt .i64)
abbrev K11:=(kInt .u32)
abbrev K12:=(kInt .u8)
end Go.Proofs.YtobbmodjdkcdcaaGreatDoor

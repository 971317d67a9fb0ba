import Derived.Test.YtlkjdchmeihhkaaGreatDoorSimD
import Derived.Test.YtlkjdchmeihhkaaGreatDoorRows
import Derived.Test.YtlkjdchmeihhkaaGreatDoorLawSrt
set_option autoImplicit true
set_option relaxedAutoImplicit true
set_option linter.all false
set_option maxRecDepth 20000
namespace Go.Proofs.YtlkjdchmeihhkaaGreatDoor
open Go Go.Sim Go.ChangeShapes Go.WideShapes Go.ChangeAt Go.RowKit Go.Proofs.Tryz
abbrev YY:=List Int
theorem J:a=a:=rfl
def U2:=underlying2
def U3:=underlying3
def U5:=underlying5
def U9:=underlying9
def ck:=underlying22
def nD:=underlying25
def cH:=underlying47
def i_:=underlying48
def tG:=underlying57
def pG:=underlying67
def RM:=underlying74
def SK:=underlying120
def yI:=underlying132
def D_:=underlying141
def RR:=underlying158
def Sb:=underlying159
def tR:=underlying199
def PQ:=underlying236
def Qm:=underlying245
def TR:=underlying246
def x3:=underlying253
def Qx:=underlying254
def Ru:=underlying255
def K_:=underlying279
def Tl:=underlying280
def xI:=underlying307
variable [Fu]
structure aC where
 Round:Int
 Epoch:Int
 Left:Int
abbrev iQ:List (kJ aC):=[⟨bD .i64,aC.Round⟩,⟨bD .i64,aC.Epoch⟩,⟨bD .i64,aC.Left⟩]
abbrev cw:Kd aC:=pH iQ
instance:ZK cw (⟨0,0,0⟩:aC):=zs
structure br where
 Header:aC
 Count:Int
 From:YY
 Nonces:List YY
abbrev iR:List (kJ br):=[⟨cw,br.Header⟩,⟨bD .i64,br.Count⟩,⟨cc (bD .i64),br.From⟩,⟨cc (bR 16 (bD .u8)),br.Nonces⟩]
abbrev bg:Kd br:=pH iR
instance:ZK bg (⟨(⟨0,0,0⟩:aC),0,[],[]⟩:br):=zs
structure bp where
 Noise:YY
 Braid:YY
 Chunks:List YY
abbrev iS:List (kJ bp):=[⟨cc (bD .u8),bp.Noise⟩,⟨cc (bD .u8),bp.Braid⟩,⟨cc (cc (bD .u8)),bp.Chunks⟩]
abbrev dY:Kd bp:=pH iS
instance:ZK dY (⟨[],[],[]⟩:bp):=zs
structure aE where
 Number:Int
 Tags:List YY
abbrev kp:List (kJ aE):=[⟨bD .i64,aE.Number⟩,⟨cc (bR 16 (bD .u8)),aE.Tags⟩]
abbrev aT:Kd aE:=pH kp
instance:ZK aT (⟨0,[]⟩:aE):=zs
structure aA where
 Newest:Int
 Epochs:List aE
abbrev dM:List (kJ aA):=[⟨bD .i64,aA.Newest⟩,⟨cc aT,aA.Epochs⟩]
abbrev aD:Kd aA:=pH dM
instance:ZK aD (⟨0,[]⟩:aA):=zs
structure aJ where
 Next:Int
 Window:aA
abbrev ku:List (kJ aJ):=[⟨bD .i64,aJ.Next⟩,⟨aD,aJ.Window⟩]
abbrev bt:Kd aJ:=pH ku
instance:ZK bt (⟨0,(⟨0,[]⟩:aA)⟩:aJ):=zs
structure aS where
 Header:aC
 Cells:List YY
abbrev nM:List (kJ aS):=[⟨cw,aS.Header⟩,⟨cc (cc (bD .u8)),aS.Cells⟩]
abbrev bP:Kd aS:=pH nM
instance:ZK bP (⟨(⟨0,0,0⟩:aC),[]⟩:aS):=zs
structure aL where
 Master:YY
 Left:Int
 Span:Int
 Room:Int
 Num:Int
 Den:Int
 Noise:Int
 Chunks:Int
 Workers:Int
 Cap:Int
 Shards:Int
abbrev eg:List (kJ aL):=[⟨cc (bD .u8),aL.Master⟩,⟨bD .i64,aL.Left⟩,⟨bD .i64,aL.Span⟩,⟨bD .i64,aL.Room⟩,⟨bD .i64,aL.Num⟩,⟨bD .i64,aL.Den⟩,⟨bD .i64,aL.Noise⟩,⟨bD .i64,aL.Chunks⟩,⟨bD .i64,aL.Workers⟩,⟨bD .i64,aL.Cap⟩,⟨bD .i64,aL.Shards⟩]
abbrev aZ:Kd aL:=pH eg
instance:ZK aZ (⟨[],0,0,0,0,0,0,0,0,0,0⟩:aL):=zs
structure dF where
 C:aL
 S:aJ
 Raw:YY
 Tape:YY
abbrev jv:List (kJ dF):=[⟨aZ,dF.C⟩,⟨bt,dF.S⟩,⟨cc (bD .u8),dF.Raw⟩,⟨cc (bD .u8),dF.Tape⟩]
abbrev ka:Kd dF:=pH jv
structure aI where
 In:Int
 Malformed:Int
 Replays:Int
 Noise:Int
 Out:Int
abbrev iT:List (kJ aI):=[⟨bD .i64,aI.In⟩,⟨bD .i64,aI.Malformed⟩,⟨bD .i64,aI.Replays⟩,⟨bD .i64,aI.Noise⟩,⟨bD .i64,aI.Out⟩]
abbrev bU:Kd aI:=pH iT
instance:ZK bU (⟨0,0,0,0,0⟩:aI):=zs
structure aN where
 Out:YY
 State:aJ
 Report:aI
 Err:Int
 At:Int
abbrev jl:List (kJ aN):=[⟨cc (bD .u8),aN.Out⟩,⟨bt,aN.State⟩,⟨bU,aN.Report⟩,⟨bD .i64,aN.Err⟩,⟨bD .i64,aN.At⟩]
abbrev aQ:Kd aN:=pH jl
instance:ZK aQ (⟨[],(⟨0,(⟨0,[]⟩:aA)⟩:aJ),(⟨0,0,0,0,0⟩:aI),0,0⟩:aN):=zs
structure aR where
 a:Int
 b:Int
abbrev mf:List (kJ aR):=[⟨bD .u32,aR.a⟩,⟨bD .u32,aR.b⟩]
abbrev dZ:Kd aR:=pH mf
instance:ZK dZ (⟨0,0⟩:aR):=zs
structure bo where
 field:YY
 at_:Int
 stage:Int
 left:Int
 header:aC
 sum:aR
 err:Int
 place:Int
abbrev AO:List (kJ bo):=[⟨cc (bD .u8),bo.field⟩,⟨bD .i64,bo.at_⟩,⟨bD .i64,bo.stage⟩,⟨bD .i64,bo.left⟩,⟨cw,bo.header⟩,⟨dZ,bo.sum⟩,⟨bD .i64,bo.err⟩,⟨bD .i64,bo.place⟩]
abbrev HH:Kd bo:=pH AO
structure aO where
 field:Value
 at_:Int
 stage:Int
 left:Int
 header:aC
 sum:aR
 err:Int
 place:Int
abbrev ee:List (kJ aO):=[⟨fd,aO.field⟩,⟨bD .i64,aO.at_⟩,⟨bD .i64,aO.stage⟩,⟨bD .i64,aO.left⟩,⟨cw,aO.header⟩,⟨dZ,aO.sum⟩,⟨bD .i64,aO.err⟩,⟨bD .i64,aO.place⟩]
abbrev cg:Kd aO:=pH ee
instance:ZK cg (⟨(.slice none 0 0),0,0,0,(⟨0,0,0⟩:aC),(⟨0,0⟩:aR),0,0⟩:aO):=zs
structure aM where
 Newest:Int
 Epochs:Value
abbrev gl:List (kJ aM):=[⟨bD .i64,aM.Newest⟩,⟨fd,aM.Epochs⟩]
abbrev bS:Kd aM:=pH gl
instance:ZK bS (⟨0,(.slice none 0 0)⟩:aM):=zs
structure cO where
 Next:Int
 Window:aM
abbrev lf:List (kJ cO):=[⟨bD .i64,cO.Next⟩,⟨bS,cO.Window⟩]
abbrev iO:Kd cO:=pH lf
instance:ZK iO (⟨0,(⟨0,(.slice none 0 0)⟩:aM)⟩:cO):=zs
structure aH where
 Cell:YY
 Replay:YY
abbrev lh:List (kJ aH):=[⟨cc (bD .u8),aH.Cell⟩,⟨bR 16 (bD .u8),aH.Replay⟩]
abbrev a8:Kd aH:=pH lh
instance:ZK a8 (⟨[],(List.replicate 16 0)⟩:aH):=zs
structure be where
 words:YY
 tail:YY
 n:Int
abbrev mg:List (kJ be):=[⟨bR 8 (bD .u32),be.words⟩,⟨bR 64 (bD .u8),be.tail⟩,⟨bD .u64,be.n⟩]
abbrev cV:Kd be:=pH mg
instance:ZK cV (⟨(List.replicate 8 0),(List.replicate 64 0),0⟩:be):=zs
structure aU where
 Box:YY
 Mac:YY
 Replay:YY
abbrev fu:List (kJ aU):=[⟨bR 16 (bD .u8),aU.Box⟩,⟨bR 32 (bD .u8),aU.Mac⟩,⟨bR 32 (bD .u8),aU.Replay⟩]
abbrev cm:Kd aU:=pH fu
instance:ZK cm (⟨(List.replicate 16 0),(List.replicate 32 0),(List.replicate 32 0)⟩:aU):=zs
structure bK where
 keys:List YY
abbrev na:List (kJ bK):=[⟨bR 11 (bR 16 (bD .u8)),bK.keys⟩]
abbrev bj:Kd bK:=pH na
instance:ZK bj (⟨(List.replicate 11 (List.replicate 16 0))⟩:bK):=zs
structure cn where
 Noise:YY
 Braid:YY
 Chunks:Value
abbrev kv:List (kJ cn):=[⟨cc (bD .u8),cn.Noise⟩,⟨cc (bD .u8),cn.Braid⟩,⟨fd,cn.Chunks⟩]
abbrev gU:Kd cn:=pH kv
instance:ZK gU (⟨[],[],(.slice none 0 0)⟩:cn):=zs
structure cP where
 parts:bp
 sizes:YY
 starts:YY
abbrev gM:List (kJ cP):=[⟨dY,cP.parts⟩,⟨cc (bD .i64),cP.sizes⟩,⟨cc (bD .i64),cP.starts⟩]
abbrev kw:Kd cP:=pH gM
instance:ZK kw (⟨(⟨[],[],[]⟩:bp),[],[]⟩:cP):=zs
structure cl where
 parts:bp
 sizes:YY
 starts:Value
abbrev kc:List (kJ cl):=[⟨dY,cl.parts⟩,⟨cc (bD .i64),cl.sizes⟩,⟨fd,cl.starts⟩]
abbrev kx:Kd cl:=pH kc
instance:ZK kx (⟨(⟨[],[],[]⟩:bp),[],(.slice none 0 0)⟩:cl):=zs
structure bz where
 bytes:YY
 used:Int
abbrev pM:List (kJ bz):=[⟨xJ,bz.bytes⟩,⟨bD .i64,bz.used⟩]
abbrev dc:Kd bz:=pH pM
instance:ZK dc (⟨[],0⟩:bz):=zs
structure bd where
 Number:Int
 Tags:Value
abbrev mu:List (kJ bd):=[⟨bD .i64,bd.Number⟩,⟨fd,bd.Tags⟩]
abbrev bu:Kd bd:=pH mu
instance:ZK bu (⟨0,(.slice none 0 0)⟩:bd):=zs
structure ba where
 Header:aC
 Count:Int
 From:Value
 Nonces:Value
abbrev iU:List (kJ ba):=[⟨cw,ba.Header⟩,⟨bD .i64,ba.Count⟩,⟨fd,ba.From⟩,⟨fd,ba.Nonces⟩]
abbrev cK:Kd ba:=pH iU
instance:ZK cK (⟨(⟨0,0,0⟩:aC),0,(.slice none 0 0),(.slice none 0 0)⟩:ba):=zs
structure gW where
 Header:aC
 Count:Int
 From:YY
 Nonces:Value
abbrev od:List (kJ gW):=[⟨cw,gW.Header⟩,⟨bD .i64,gW.Count⟩,⟨cc (bD .i64),gW.From⟩,⟨fd,gW.Nonces⟩]
abbrev Fv:Kd gW:=pH od
structure cN where
 Header:aC
 Cells:Value
abbrev mw:List (kJ cN):=[⟨cw,cN.Header⟩,⟨fd,cN.Cells⟩]
abbrev eM:Kd cN:=pH mw
instance:ZK eM (⟨(⟨0,0,0⟩:aC),(.slice none 0 0)⟩:cN):=zs
structure aF where
 Head:Bool
 Header:aC
 Cells:List YY
 Place:Int
 Err:Int
abbrev cL:List (kJ aF):=[⟨oi,aF.Head⟩,⟨cw,aF.Header⟩,⟨cc (cc (bD .u8)),aF.Cells⟩,⟨bD .i64,aF.Place⟩,⟨bD .i64,aF.Err⟩]
abbrev bZ:Kd aF:=pH cL
instance:ZK bZ (⟨false,(⟨0,0,0⟩:aC),[],0,0⟩:aF):=zs
structure aX where
 Head:Bool
 Header:aC
 Cells:Value
 Place:Int
 Err:Int
abbrev eh:List (kJ aX):=[⟨oi,aX.Head⟩,⟨cw,aX.Header⟩,⟨fd,aX.Cells⟩,⟨bD .i64,aX.Place⟩,⟨bD .i64,aX.Err⟩]
abbrev fy:Kd aX:=pH eh
instance:ZK fy (⟨false,(⟨0,0,0⟩:aC),(.slice none 0 0),0,0⟩:aX):=zs
structure bw where
 sizes:YY
 pattern:YY
 offsets:YY
 own:List YY
abbrev eK:List (kJ bw):=[⟨cc (bD .i64),bw.sizes⟩,⟨cc (bD .i64),bw.pattern⟩,⟨cc (bD .i64),bw.offsets⟩,⟨cc (cc (bD .i64)),bw.own⟩]
abbrev dt:Kd bw:=pH eK
instance:ZK dt (⟨[],[],[],[]⟩:bw):=zs
structure bT where
 sizes:YY
 pattern:YY
 offsets:YY
 own:Value
abbrev fO:List (kJ bT):=[⟨cc (bD .i64),bT.sizes⟩,⟨cc (bD .i64),bT.pattern⟩,⟨cc (bD .i64),bT.offsets⟩,⟨fd,bT.own⟩]
abbrev lD:Kd bT:=pH fO
instance:ZK lD (⟨[],[],[],(.slice none 0 0)⟩:bT):=zs
theorem Y7:ZT prog 24 aZ (⟨[],0,0,0,0,0,0,0,0,0,0⟩:aL):=zq
theorem pI:AT prog 5 (bD .u8) (0:Int) 1:=aq
theorem Y1:BT prog 24 eg (⟨[],0,0,0,0,0,0,0,0,0,0⟩:aL):=bq
theorem V2:(prog.info? 24).map (·.size)=some (Kd.n aZ):=kr
theorem x6:KT prog 24 aZ:=kq
theorem Ug:BT prog 29 ku (⟨0,(⟨0,[]⟩:aA)⟩:aJ):=bq
theorem yJ:ET prog 5 (bD .u8) (0:Int):=RU
theorem QJ:ZT prog 38 aQ (⟨[],(⟨0,(⟨0,[]⟩:aA)⟩:aJ),(⟨0,0,0,0,0⟩:aI),0,0⟩:aN):=zq
theorem TI:ZT prog 50 bg (⟨(⟨0,0,0⟩:aC),0,[],[]⟩:br):=zq
theorem nI:KT prog 29 bt:=kq
theorem QT:ZT prog 69 bP (⟨(⟨0,0,0⟩:aC),[]⟩:aS):=zq
theorem Q7:ZT prog 27 aD (⟨0,[]⟩:aA):=zq
theorem QO:cv prog 24 0=some (dH eg 0,0+1):=kr
theorem nH:KT prog 22 (cc (bD .u8)):=kq
theorem nC:cv prog 24 1=some (dH eg 1,0+1):=kr
theorem ez:KT prog 3 (bD .i64):=kq
theorem cr (d:Nat) (e:Bool) (k:bl a n ((d,.raw (.bool e))::E) L (wpList P b Q rest)) (h:bl a n ((d,.raw (.bool e))::E) L (wpList P b Q rest)→bl a n E L (wpList P b Q (o0::o1::o2::o3::rest))):bl a n E L (wpList P b Q (o0::o1::o2::o3::rest)):=h k
theorem Ib (d:Nat) (e:Bool) (k:bi a n ((d,.raw (.bool e))::E) (wpQuiet P b C c rest)) (h:bi a n ((d,.raw (.bool e))::E) (wpQuiet P b C c rest)→bi a n E (wpQuiet P b C c (o0::o1::o2::o3::rest))):bi a n E (wpQuiet P b C c (o0::o1::o2::o3::rest)):=h k
theorem x5:cv prog 24 2=some (dH eg 2,0+1):=kr
theorem Qd:cv prog 24 3=some (dH eg 3,0+1):=kr
theorem P4:cv prog 24 5=some (dH eg 5,0+1):=kr
theorem Rq:cv prog 24 4=some (dH eg 4,0+1):=kr
theorem Rl:cv prog 24 6=some (dH eg 6,0+1):=kr
theorem yC:cv prog 24 7=some (dH eg 7,0+1):=kr
theorem S1:cv prog 24 8=some (dH eg 8,0+1):=kr
theorem TK:cv prog 24 9=some (dH eg 9,0+1):=kr
theorem Sy:cv prog 24 10=some (dH eg 10,0+1):=kr
theorem jS (d:Nat) (e:Bool) (k:bl a n ((d,.raw (.bool e))::E) L (wpList P b Q rest)) (h:bl a n ((d,.raw (.bool e))::E) L (wpList P b Q rest)→bl a n E L (wpList P b Q (o0::o1::o2::o3::o4::o5::rest))):bl a n E L (wpList P b Q (o0::o1::o2::o3::o4::o5::rest)):=h k
theorem Ic (d:Nat) (e:Bool) (k:bi a n ((d,.raw (.bool e))::E) (wpQuiet P b C c rest)) (h:bi a n ((d,.raw (.bool e))::E) (wpQuiet P b C c rest)→bi a n E (wpQuiet P b C c (o0::o1::o2::o3::o4::o5::rest))):bi a n E (wpQuiet P b C c (o0::o1::o2::o3::o4::o5::rest)):=h k
theorem PW:cv prog 29 0=some (dH ku 0,0+1):=kr
theorem h_:KT prog 2 (bD .i64):=kq
theorem uB:cv prog 29 1=some (dH ku 1,1+1):=kr
theorem gG:KT prog 27 aD:=kq
theorem oD:cv prog 27 0=some (dH dM 0,0+1):=kr
theorem eG:cv prog 27 1=some (dH dM 1,0+1):=kr
theorem pB:KT prog 25 (cc aT):=kq
theorem vI:(prog.info? 64).map (·.size)=some (Kd.n aT):=kr
theorem P2:KT prog 64 aT:=kq
theorem Qr:ZT prog 64 aT (⟨0,[]⟩:aE):=zq
theorem uG:(prog.info? 64).map (·.size)=some (Kd.n aT):=kr
theorem mC:cv prog 64 1=some (dH kp 1,0+1):=kr
theorem ob:KT prog 48 (cc (bR 16 (bD .u8))):=kq
theorem q7:(prog.info? 57).map (·.size)=some (Kd.n (bR 16 (bD .u8))):=kr
theorem dB:KT prog 57 (bR 16 (bD .u8)):=kq
theorem rE:ZT prog 57 (bR 16 (bD .u8)) (List.replicate 16 (0:Int)):=zq
theorem kI:(prog.info? 57).map (·.size)=some (Kd.n (bR 16 (bD .u8))):=kr
theorem qB:KT prog 5 (bD .u8):=kq
theorem x_:QV prog 57 (bR 16 (bD .u8)):=Pp tG U5 qB
theorem g_:cv prog 64 0=some (dH kp 0,0+1):=kr
theorem Ie (d:Nat) (e:Bool) (k:bl a n ((d,.raw (.bool e))::E) L (wpList P b Q rest)) (h:bl a n ((d,.raw (.bool e))::E) L (wpList P b Q rest)→bl a n E L (wpList P b Q (o0::o1::o2::o3::o4::o5::o6::o7::o8::o9::RA::rest))):bl a n E L (wpList P b Q (o0::o1::o2::o3::o4::o5::o6::o7::o8::o9::RA::rest)):=h k
theorem xj (d:Nat) (e:Bool) (k:bi a n ((d,.raw (.bool e))::E) (wpQuiet P b C c rest)) (h:bi a n ((d,.raw (.bool e))::E) (wpQuiet P b C c rest)→bi a n E (wpQuiet P b C c (o0::o1::o2::o3::o4::o5::o6::o7::o8::o9::RA::rest))):bi a n E (wpQuiet P b C c (o0::o1::o2::o3::o4::o5::o6::o7::o8::o9::RA::rest)):=h k
theorem kj (d:Nat) (e:Bool) (k:bl a n ((d,.raw (.bool e))::E) L (wpList P b Q rest)) (h:bl a n ((d,.raw (.bool e))::E) L (wpList P b Q rest)→bl a n E L (wpList P b Q (o0::o1::o2::o3::o4::rest))):bl a n E L (wpList P b Q (o0::o1::o2::o3::o4::rest)):=h k
theorem GW (d:Nat) (e:Bool) (k:bi a n ((d,.raw (.bool e))::E) (wpQuiet P b C c rest)) (h:bi a n ((d,.raw (.bool e))::E) (wpQuiet P b C c rest)→bi a n E (wpQuiet P b C c (o0::o1::o2::o3::o4::rest))):bi a n E (wpQuiet P b C c (o0::o1::o2::o3::o4::rest)):=h k
theorem If (d:Nat) (e:Bool) (k:bl a n ((d,.raw (.bool e))::E) L (wpList P b Q rest)) (h:bl a n ((d,.raw (.bool e))::E) L (wpList P b Q rest)→bl a n E L (wpList P b Q (o0::o1::o2::o3::o4::o5::o6::o7::o8::o9::RA::SG::SI::R5::RF::rest))):bl a n E L (wpList P b Q (o0::o1::o2::o3::o4::o5::o6::o7::o8::o9::RA::SG::SI::R5::RF::rest)):=h k
theorem Fw (d:Nat) (e:Bool) (k:bi a n ((d,.raw (.bool e))::E) (wpQuiet P b C c rest)) (h:bi a n ((d,.raw (.bool e))::E) (wpQuiet P b C c rest)→bi a n E (wpQuiet P b C c (o0::o1::o2::o3::o4::o5::o6::o7::o8::o9::RA::SG::SI::R5::RF::rest))):bi a n E (wpQuiet P b C c (o0::o1::o2::o3::o4::o5::o6::o7::o8::o9::RA::SG::SI::R5::RF::rest)):=h k
theorem tt (d:Nat) (e:Bool) (k:bl a n ((d,.raw (.bool e))::E) L (wpList P b Q rest)) (h:bl a n ((d,.raw (.bool e))::E) L (wpList P b Q rest)→bl a n E L (wpList P b Q (o0::o1::o2::o3::o4::o5::o6::o7::rest))):bl a n E L (wpList P b Q (o0::o1::o2::o3::o4::o5::o6::o7::rest)):=h k
theorem GX (d:Nat) (e:Bool) (k:bi a n ((d,.raw (.bool e))::E) (wpQuiet P b C c rest)) (h:bi a n ((d,.raw (.bool e))::E) (wpQuiet P b C c rest)→bi a n E (wpQuiet P b C c (o0::o1::o2::o3::o4::o5::o6::o7::rest))):bi a n E (wpQuiet P b C c (o0::o1::o2::o3::o4::o5::o6::o7::rest)):=h k
theorem eJ:(prog.info? 5).map (·.size)=some (Kd.n (bD .u8)):=kr
theorem Wo:Extern.findNext Tryz.f191=none:=kr
theorem WF:Extern.find Tryz.f191=some Extern.BytealgCompare.compare:=kr
theorem WY:Tryz.f191.body.isNone=true:=kr
theorem Wv : (Tryz.f191.name == "runtime.NumGoroutine") = false := kr
theorem cz (d:Nat) (e:Bool) (k:bl a n ((d,.raw (.bool e))::E) L (wpList P b Q rest)) (h:bl a n ((d,.raw (.bool e))::E) L (wpList P b Q rest)→bl a n E L (wpList P b Q (o0::o1::o2::rest))):bl a n E L (wpList P b Q (o0::o1::o2::rest)):=h k
theorem Ig (d:Nat) (e:Bool) (k:bi a n ((d,.raw (.bool e))::E) (wpQuiet P b C c rest)) (h:bi a n ((d,.raw (.bool e))::E) (wpQuiet P b C c rest)→bi a n E (wpQuiet P b C c (o0::o1::o2::rest))):bi a n E (wpQuiet P b C c (o0::o1::o2::rest)):=h k
theorem xk (d:Nat) (e:Bool) (k:bl a n ((d,.raw (.bool e))::E) L (wpList P b Q rest)) (h:bl a n ((d,.raw (.bool e))::E) L (wpList P b Q rest)→bl a n E L (wpList P b Q (o0::o1::o2::o3::o4::o5::o6::o7::o8::rest))):bl a n E L (wpList P b Q (o0::o1::o2::o3::o4::o5::o6::o7::o8::rest)):=h k
theorem Ih (d:Nat) (e:Bool) (k:bi a n ((d,.raw (.bool e))::E) (wpQuiet P b C c rest)) (h:bi a n ((d,.raw (.bool e))::E) (wpQuiet P b C c rest)→bi a n E (wpQuiet P b C c (o0::o1::o2::o3::o4::o5::o6::o7::o8::rest))):bi a n E (wpQuiet P b C c (o0::o1::o2::o3::o4::o5::o6::o7::o8::rest)):=h k
theorem wJ:KT prog 69 bP:=kq
theorem N_:BT prog 27 dM (⟨0,[]⟩:aA):=bq
theorem rJ:(prog.info? 69).map (·.size)=some (Kd.n bP):=kr
theorem ld:(prog.info? 27).map (·.size)=some (Kd.n aD):=kr
theorem UL:BT prog 161 mf (⟨0,0⟩:aR):=bq
theorem sX:BT prog 173 ee (⟨(.slice none 0 0),0,0,0,(⟨0,0,0⟩:aC),(⟨0,0⟩:aR),0,0⟩:aO):=bq
theorem sF:cv prog 173 6=some (9,0+1):=kr
theorem fA:p_ ee 6 ⟨bD .i64,aO.err⟩ (λx y=>{x with err:=y}):=uq
theorem RJ:KT prog 36 (bD .i64):=kq
theorem Vm:UB prog 273 10 (bD .i64) (List.replicate 10 (0:Int)):=VR
theorem lW:cv prog 173 2=some (2,0+1):=kr
theorem cT:p_ ee 2 ⟨bD .i64,aO.stage⟩ (λx y=>{x with stage:=y}):=uq
theorem mB:KT prog 3 (bD .i64):=kq
theorem nr:cv prog 173 0=some (0,0+1):=kr
theorem di:p_ ee 0 ⟨fd,aO.field⟩ (λx y=>{x with field:=y}):=uq
theorem QE:KT prog 22 fd:=kq
theorem TC:(prog.info? 22).map (·.size)=some (Kd.n fd):=kr
theorem sG:cv prog 173 1=some (1,0+1):=kr
theorem fB:p_ ee 1 ⟨bD .i64,aO.at_⟩ (λx y=>{x with at_:=y}):=uq
theorem dI:(prog.info? 3).map (·.size)=some (Kd.n (bD .i64)):=kr
theorem Qz:ET prog 22 (cc (bD .u8)) []:=RU
theorem F_:AT prog 22 (cc (bD .u8)) [] 24:=aq
theorem AP:cv prog 173 5=some (7,1+1):=kr
theorem l8:p_ ee 5 ⟨dZ,aO.sum⟩ (λx y=>{x with sum:=y}):=uq
theorem Ti:KT prog 161 dZ:=kq
theorem U4:cv prog 161 1=some (dH mf 1,0+1):=kr
theorem z8:KT prog 159 (bD .u32):=kq
theorem Uq:cv prog 161 0=some (dH mf 0,0+1):=kr
theorem WG:ZT prog 161 dZ (⟨0,0⟩:aR):=zq
theorem AQ:cv prog 161 0=some (0,0+1):=kr
theorem oP:p_ mf 0 ⟨bD .u32,aR.a⟩ (λx y=>{x with a:=y}):=uq
theorem en:KT prog 159 (bD .u32):=kq
theorem c6:(prog.info? 159).map (·.size)=some (Kd.n (bD .u32)):=kr
theorem DR:cv prog 161 1=some (1,0+1):=kr
theorem ry:p_ mf 1 ⟨bD .u32,aR.b⟩ (λx y=>{x with b:=y}):=uq
theorem UC:KT prog 161 dZ:=kq
theorem S9:(prog.info? 161).map (·.size)=some (Kd.n dZ):=kr
abbrev XS:ByteArray:=⟨#[67,72,82,78]⟩
theorem AR:il (.raw (.string XS)) xJ [67,72,82,78]:=Xi kr
theorem co:(prog.info? 5).map (·.size)=some (Kd.n (bD .u8)):=kr
theorem qD:KT prog 5 (bD .u8):=kq
theorem uj:cv prog 173 4=some (4,2+1):=kr
theorem xl:cv prog 46 2=some (2,0+1):=kr
theorem ii:p_ ee 4 ⟨cw,aO.header⟩ (λx y=>{x with header:=y}):=uq
theorem kd:p_ iQ 2 ⟨bD .i64,aC.Left⟩ (λx y=>{x with Left:=y}):=uq
theorem uk:cv prog 173 3=some (3,0+1):=kr
theorem ij:p_ ee 3 ⟨bD .i64,aO.left⟩ (λx y=>{x with left:=y}):=uq
theorem HN:cv prog 46 0=some (0,0+1):=kr
theorem wS:p_ iQ 0 ⟨bD .i64,aC.Round⟩ (λx y=>{x with Round:=y}):=uq
theorem WA:(prog.info? 2).map (·.size)=some (Kd.n (bD .i64)):=kr
theorem HO:cv prog 46 1=some (1,0+1):=kr
theorem wT:p_ iQ 1 ⟨bD .i64,aC.Epoch⟩ (λx y=>{x with Epoch:=y}):=uq
theorem WW:(prog.info? 36).map (·.size)=some (Kd.n (bD .i64)):=kr
theorem AS:cv prog 173 7=some (10,0+1):=kr
theorem l9:p_ ee 7 ⟨bD .i64,aO.place⟩ (λx y=>{x with place:=y}):=uq
theorem Xf:KT prog 46 cw:=kq
theorem Sm:BT prog 69 nM (⟨(⟨0,0,0⟩:aC),[]⟩:aS):=bq
theorem j_:cv prog 69 0=some (dH nM 0,2+1):=kr
theorem uE:cv prog 46 2=some (dH iQ 2,0+1):=kr
theorem nG:cv prog 46 0=some (dH iQ 0,0+1):=kr
theorem hP:cv prog 46 1=some (dH iQ 1,0+1):=kr
theorem ik:BT prog 27 gl (⟨0,(.slice none 0 0)⟩:aM):=bq
theorem Sv:ZT prog 27 bS (⟨0,(.slice none 0 0)⟩:aM):=zq
theorem Ro:(prog.info? 27).map (·.size)=some (Kd.n bS):=kr
theorem Fx:cv prog 27 0=some (0,0+1):=kr
theorem oQ:p_ gl 0 ⟨bD .i64,aM.Newest⟩ (λx y=>{x with Newest:=y}):=uq
theorem Uv:KT prog 2 (bD .i64):=kq
theorem fe:cv prog 27 1=some (1,0+1):=kr
theorem bf:p_ gl 1 ⟨fd,aM.Epochs⟩ (λx y=>{x with Epochs:=y}):=uq
theorem tD:KT prog 25 fd:=kq
theorem Q1:ET prog 57 (bR 16 (bD .u8)) (List.replicate 16 (0:Int)):=RU
theorem wD:AT prog 57 (bR 16 (bD .u8)) (List.replicate 16 (0:Int)) 16:=aq
theorem Tg:BT prog 64 kp (⟨0,[]⟩:aE):=bq
theorem SW:ET prog 64 aT (⟨0,[]⟩:aE):=RU
theorem SQ:AT prog 64 aT (⟨0,[]⟩:aE) 32:=aq
theorem xD:(prog.info? 25).map (·.size)=some (Kd.n fd):=kr
theorem Wt:ZT prog 29 bt (⟨0,(⟨0,[]⟩:aA)⟩:aJ):=zq
theorem tu:cv prog 29 1=some (1,1+1):=kr
theorem xm:p_ ku 1 ⟨aD,aJ.Window⟩ (λx y=>{x with Window:=y}):=uq
theorem wU:p_ dM 1 ⟨cc aT,aA.Epochs⟩ (λx y=>{x with Epochs:=y}):=uq
theorem Vd:KT prog 25 (cc aT):=kq
theorem fk:p_ lf 1 ⟨bS,cO.Window⟩ (λx y=>{x with Window:=y}):=uq
theorem vz:cv prog 64 1=some (1,0+1):=kr
theorem mx:p_ kp 1 ⟨cc (bR 16 (bD .u8)),aE.Tags⟩ (λx y=>{x with Tags:=y}):=uq
theorem UA:KT prog 48 (cc (bR 16 (bD .u8))):=kq
theorem UD:(prog.info? 48).map (·.size)=some (Kd.n (cc (bR 16 (bD .u8)))):=kr
theorem UQ:(prog.info? 29).map (·.size)=some (Kd.n bt):=kr
theorem Ul:BT prog 38 jl (⟨[],(⟨0,(⟨0,[]⟩:aA)⟩:aJ),(⟨0,0,0,0,0⟩:aI),0,0⟩:aN):=bq
theorem gR:(prog.info? 38).map (·.size)=some (Kd.n aQ):=kr
theorem ol:KT prog 38 aQ:=kq
theorem Ss:KT prog 27 aD:=kq
theorem SU:ZT prog 35 bU (⟨0,0,0,0,0⟩:aI):=zq
theorem SE:BT prog 35 iT (⟨0,0,0,0,0⟩:aI):=bq
theorem z7:(prog.info? 35).map (·.size)=some (Kd.n bU):=kr
theorem Qq:KT prog 35 bU:=kq
theorem pD:ZT prog 199 (bR 32 (bD .u8)) (List.replicate 32 (0:Int)):=zq
theorem Tr:ZT prog 257 cV (⟨(List.replicate 8 (0:Int)),(List.replicate 64 (0:Int)),0⟩:be):=zq
theorem W9:ZT prog 255 (bR 64 (bD .u8)) (List.replicate 64 (0:Int)):=zq
theorem Xc:BT prog 257 mg (⟨(List.replicate 8 (0:Int)),(List.replicate 64 (0:Int)),0⟩:be):=bq
theorem Rn:(prog.info? 257).map (·.size)=some (Kd.n cV):=kr
theorem Sr:KT prog 257 cV:=kq
theorem sH:cv prog 257 2=some (72,0+1):=kr
theorem jw:p_ mg 2 ⟨bD .u64,be.n⟩ (λx y=>{x with n:=y}):=uq
theorem QM:KT prog 158 (bD .u64):=kq
theorem S2:ZT prog 254 (bR 8 (bD .u32)) (List.replicate 8 (0:Int)):=zq
theorem Ty:UB prog 254 8 (bD .u32) (List.replicate 8 (0:Int)):=VR
theorem P5:(prog.info? 254).map (·.size)=some (Kd.n (bR 8 (bD .u32))):=kr
theorem So:KT prog 254 (bR 8 (bD .u32)):=kq
theorem AU:cv prog 257 0=some (0,7+1):=kr
theorem oR:p_ mg 0 ⟨bR 8 (bD .u32),be.words⟩ (λx y=>{x with words:=y}):=uq
theorem DS:cv prog 257 1=some (8,63+1):=kr
theorem rz:p_ mg 1 ⟨bR 64 (bD .u8),be.tail⟩ (λx y=>{x with tail:=y}):=uq
theorem VA:(prog.info? 158).map (·.size)=some (Kd.n (bD .u64)):=kr
theorem Tw:KT prog 254 (bR 8 (bD .u32)):=kq
theorem Vi:KT prog 255 (bR 64 (bD .u8)):=kq
theorem Sx:ZT prog 307 (bR 64 (bD .u32)) (List.replicate 64 (0:Int)):=zq
def v8:YY:=[1116352408,1899447441,3049323471,3921009573,961987163,1508970993,2453635748,2870763221,3624381080,310598401,607225278,1426881987,1925078388,2162078206,2614888103,3248222580,3835390401,4022224774,264347078,604807628,770255983,1249150122,1555081692,1996064986,2554220882,2821834349,2952996808,3210313671,3336571891,3584528711,113926993,338241895,666307205,773529912,1294757372,1396182291,1695183700,1986661051,2177026350,2456956037,2730485921,2820302411,3259730800,3345764771,3516065817,3600352804,4094571909,275423344,430227734,506948616,659060556,883997877,958139571,1322822218,1537002063,1747873779,1955562222,2024104815,2227730452,2361852424,2428436474,2756734187,3204031479,3329325298]
theorem QL:(prog.info? 159).map (·.size)=some (Kd.n (bD .u32)):=kr
theorem Vt:KT prog 257 cV:=kq
theorem Vv:cv prog 257 0=some (dH mg 0,7+1):=kr
theorem vG:KT prog 199 (bR 32 (bD .u8)):=kq
theorem mJ:(prog.info? 199).map (·.size)=some (Kd.n (bR 32 (bD .u8))):=kr
theorem kb:cv prog 69 1=some (dH nM 1,0+1):=kr
theorem tE:KT prog 67 (cc (cc (bD .u8))):=kq
theorem P3:(prog.info? 22).map (·.size)=some (Kd.n (cc (bD .u8))):=kr
theorem Rx:ZT prog 86 a8 (⟨[],(List.replicate 16 (0:Int))⟩:aH):=zq
theorem Qv:BT prog 86 lh (⟨[],(List.replicate 16 (0:Int))⟩:aH):=bq
theorem pE:(prog.info? 86).map (·.size)=some (Kd.n a8):=kr
theorem vD:KT prog 86 a8:=kq
theorem RV:ZT prog 201 cm (⟨(List.replicate 16 (0:Int)),(List.replicate 32 (0:Int)),(List.replicate 32 (0:Int))⟩:aU):=zq
theorem Th:BT prog 201 fu (⟨(List.replicate 16 (0:Int)),(List.replicate 32 (0:Int)),(List.replicate 32 (0:Int))⟩:aU):=bq
theorem G_:(prog.info? 201).map (·.size)=some (Kd.n cm):=kr
theorem M_:KT prog 201 cm:=kq
theorem TO:cv prog 201 1=some (dH fu 1,31+1):=kr
theorem Sp:cv prog 201 0=some (dH fu 0,15+1):=kr
theorem Sw:UB prog 57 16 (bD .u8) (List.replicate 16 (0:Int)):=VR
theorem S7:ZT prog 248 bj (⟨(List.replicate 11 (List.replicate 16 (0:Int)))⟩:bK):=zq
theorem W7:ZT prog 280 (bR 44 (bR 4 (bD .u8))) (List.replicate 44 (List.replicate 4 (0:Int))):=zq
theorem uI:(prog.info? 279).map (·.size)=some (Kd.n (bR 4 (bD .u8))):=kr
theorem TM:KT prog 279 (bR 4 (bD .u8)):=kq
theorem Rd:ZT prog 279 (bR 4 (bD .u8)) (List.replicate 4 (0:Int)):=zq
theorem S8:UB prog 279 4 (bD .u8) (List.replicate 4 (0:Int)):=VR
theorem WV:KT prog 280 (bR 44 (bR 4 (bD .u8))):=kq
theorem RG:KT prog 279 (bR 4 (bD .u8)):=kq
theorem GY:cv prog 248 0=some (0,175+1):=kr
theorem og:p_ na 0 ⟨bR 11 (bR 16 (bD .u8)),bK.keys⟩ (λx y=>{x with keys:=y}):=uq
theorem qG:(prog.info? 245).map (·.size)=some (Kd.n (bR 16 (bD .u8))):=kr
theorem SB:KT prog 248 bj:=kq
theorem Tu:(prog.info? 248).map (·.size)=some (Kd.n bj):=kr
theorem Wl:ZT prog 251 (bR 256 (bD .u8)) (List.replicate 256 (0:Int)):=zq
theorem z6:KT prog 57 (bR 16 (bD .u8)):=kq
theorem Rv:cv prog 248 0=some (dH na 0,175+1):=kr
theorem Sq:(prog.info? 245).map (·.size)=some (Kd.n (bR 16 (bD .u8))):=kr
theorem tC:KT prog 245 (bR 16 (bD .u8)):=kq
theorem Ql:ZT prog 245 (bR 16 (bD .u8)) (List.replicate 16 (0:Int)):=zq
theorem P7:KT prog 245 (bR 16 (bD .u8)):=kq
theorem Sz:cv prog 201 2=some (dH fu 2,31+1):=kr
theorem AV:cv prog 86 0=some (0,0+1):=kr
theorem lX:p_ lh 0 ⟨cc (bD .u8),aH.Cell⟩ (λx y=>{x with Cell:=y}):=uq
theorem x4:(prog.info? 22).map (·.size)=some (Kd.n (cc (bD .u8))):=kr
theorem AW:cv prog 35 1=some (1,0+1):=kr
theorem lY:p_ iT 1 ⟨bD .i64,aI.Malformed⟩ (λx y=>{x with Malformed:=y}):=uq
theorem A_:cv prog 86 1=some (dH lh 1,15+1):=kr
theorem UP:ZV prog 3 (bD .i64) (0:Int):=⟨(.int .i64 0:Value),kr,λF=>ra.2 J⟩
theorem XR:E_ prog 5 (bD .u8) 1:=E_.int U5
theorem Qj:E_ prog 57 (bR 16 (bD .u8)) 2:=E_.arr XR qB tG
theorem Qg:prog.eqGuardType prog.depth 57=false:=kr
theorem AX:cv prog 35 2=some (2,0+1):=kr
theorem lZ:p_ iT 2 ⟨bD .i64,aI.Replays⟩ (λx y=>{x with Replays:=y}):=uq
theorem Vj:ET prog 86 a8 (⟨[],(List.replicate 16 (0:Int))⟩:aH):=RU
theorem VH:AT prog 86 a8 (⟨[],(List.replicate 16 (0:Int))⟩:aH) 40:=aq
theorem Tn:ZT prog 78 dY (⟨[],[],[]⟩:bp):=zq
theorem Uf:BT prog 78 iS (⟨[],[],[]⟩:bp):=bq
theorem z1:(prog.info? 78).map (·.size)=some (Kd.n dY):=kr
theorem RS:KT prog 78 dY:=kq
theorem ul:BT prog 78 kv (⟨[],[],(.slice none 0 0)⟩:cn):=bq
theorem UI:ZT prog 78 gU (⟨[],[],(.slice none 0 0)⟩:cn):=zq
theorem Vx:(prog.info? 78).map (·.size)=some (Kd.n gU):=kr
theorem xn:cv prog 78 2=some (2,0+1):=kr
theorem km:p_ kv 2 ⟨fd,cn.Chunks⟩ (λx y=>{x with Chunks:=y}):=uq
theorem RK:KT prog 67 fd:=kq
theorem S_:(prog.info? 67).map (·.size)=some (Kd.n fd):=kr
theorem Su:cv prog 78 0=some (dH iS 0,0+1):=kr
theorem xE:AT prog 3 (bD .i64) (0:Int) 8:=aq
theorem Qp:ET prog 3 (bD .i64) (0:Int):=RU
theorem tI:(prog.info? 3).map (·.size)=some (Kd.n (bD .i64)):=kr
theorem TA:(prog.info? 86).map (·.size)=some (Kd.n a8):=kr
theorem TS:cv prog 86 0=some (dH lh 0,0+1):=kr
theorem U_:ZT prog 177 kx (⟨(⟨[],[],[]⟩:bp),[],(.slice none 0 0)⟩:cl):=zq
theorem AY:cv prog 177 1=some (3,0+1):=kr
theorem ma:p_ kc 1 ⟨cc (bD .i64),cl.sizes⟩ (λx y=>{x with sizes:=y}):=uq
theorem SC:(prog.info? 47).map (·.size)=some (Kd.n (cc (bD .i64))):=kr
theorem gr:BT prog 177 kc (⟨(⟨[],[],[]⟩:bp),[],(.slice none 0 0)⟩:cl):=bq
theorem QQ:(prog.info? 177).map (·.size)=some (Kd.n kx):=kr
theorem Ra:KT prog 177 kw:=kq
theorem AZ:cv prog 177 0=some (0,2+1):=kr
theorem mc:p_ kc 0 ⟨dY,cl.parts⟩ (λx y=>{x with parts:=y}):=uq
theorem Fy:cv prog 78 1=some (1,0+1):=kr
theorem xo:p_ iS 1 ⟨cc (bD .u8),bp.Braid⟩ (λx y=>{x with Braid:=y}):=uq
theorem Vf:KT prog 22 (cc (bD .u8)):=kq
theorem V5:ZT prog 47 fd (.slice none 0 0):=zq
theorem tJ:(prog.info? 47).map (·.size)=some (Kd.n fd):=kr
theorem Rg:ZT prog 302 dc (⟨[],0⟩:bz):=zq
theorem RY:BT prog 302 pM (⟨[],0⟩:bz):=bq
theorem rH:(prog.info? 302).map (·.size)=some (Kd.n dc):=kr
theorem wC:KT prog 302 dc:=kq
theorem Sg:KT prog 302 dc:=kq
theorem R6:cv prog 302 0=some (dH pM 0,0+1):=kr
theorem Yt:KT prog 9 xJ:=kq
theorem Qy:cv prog 302 1=some (dH pM 1,0+1):=kr
theorem Qk:KT prog 47 fd:=kq
theorem QN:KT prog 47 (cc (bD .i64)):=kq
theorem DT:cv prog 177 2=some (4,0+1):=kr
theorem oT:p_ kc 2 ⟨fd,cl.starts⟩ (λx y=>{x with starts:=y}):=uq
theorem xp:p_ iS 2 ⟨cc (cc (bD .u8)),bp.Chunks⟩ (λx y=>{x with Chunks:=y}):=uq
theorem Vo:KT prog 67 (cc (cc (bD .u8))):=kq
theorem Wj:ET prog 47 (cc (bD .i64)) []:=RU
theorem Wh:AT prog 47 (cc (bD .i64)) [] 24:=aq
abbrev my:YY→Value→Value:=λ_ q=>q
abbrev mz:YY→YY:=λx=>x
theorem zF:la fd:=la.raw
theorem sI:la (bD .i64):=M8
theorem zK:∀F x q,(cc (bD .i64)).val F q (mz x)→∀cs,fd.rd F cs (my x q)→(cc (bD .i64)).rd F cs x:=λF x q a=>iL a
theorem UM:AT prog 47 fd (.slice none 0 0) 24:=aq
theorem Uu:(prog.info? 47).map (·.size)=some (Kd.n (cc (bD .i64))):=kr
theorem x8:KT prog 47 (cc (bD .i64)):=kq
theorem U8:KT prog 177 kw:=kq
theorem Sn:(prog.info? 177).map (·.size)=some (Kd.n kw):=kr
theorem V3:ZT prog 177 kw (⟨(⟨[],[],[]⟩:bp),[],[]⟩:cP):=zq
theorem Vw:cv prog 177 1=some (dH gM 1,0+1):=kr
theorem Um:cv prog 177 2=some (dH gM 2,0+1):=kr
theorem Zb:AT prog 4 oi false 1:=aq
theorem R8:(prog.info? 4).map (·.size)=some (Kd.n oi):=kr
theorem WB:KT prog 4 oi:=kq
theorem FA:cv prog 64 0=some (0,0+1):=kr
theorem rF:p_ kp 0 ⟨bD .i64,aE.Number⟩ (λx y=>{x with Number:=y}):=uq
abbrev dN:aE→Value→bd:=λx q=>⟨x.Number,q⟩
abbrev ei:aE→List YY:=λx=>x.Tags
theorem cR:la (bu):=Oh M8 la.raw
theorem cS:la (bR 16 (bD .u8)):=la.arr M8
theorem sZ:∀F x q,(cc (bR 16 (bD .u8))).val F q (ei x)→∀cs,(bu).rd F cs (dN x q)→(aT).rd F cs x:=λF x q a cs h=>wa (fs':=mu) (fs:=kp) (x':=dN x q) (x:=x) ⟨λ_ h=>h,iL a,trivial⟩ h
theorem fY:BT prog 64 mu (⟨0,(.slice none 0 0)⟩:bd):=bq
theorem Rf:ET prog 64 bu (⟨0,(.slice none 0 0)⟩:bd):=RU
theorem Q_:AT prog 64 bu (⟨0,(.slice none 0 0)⟩:bd) 32:=aq
theorem Rj:(prog.info? 64).map (·.size)=some (Kd.n bu):=kr
theorem UO:KT prog 64 bu:=kq
theorem UR:ZT prog 64 bu (⟨0,(.slice none 0 0)⟩:bd):=zq
theorem pN:p_ mu 1 ⟨fd,bd.Tags⟩ (λx y=>{x with Tags:=y}):=uq
theorem Rr:KT prog 48 fd:=kq
theorem VC:BT prog 46 iQ (⟨0,0,0⟩:aC):=bq
theorem Rp:KT prog 46 cw:=kq
theorem FB:cv prog 35 3=some (3,0+1):=kr
theorem rn:p_ iT 3 ⟨bD .i64,aI.Noise⟩ (λx y=>{x with Noise:=y}):=uq
theorem FC:cv prog 35 4=some (4,0+1):=kr
theorem ro:p_ iT 4 ⟨bD .i64,aI.Out⟩ (λx y=>{x with Out:=y}):=uq
theorem RI:cv prog 38 3=some (dH jl 3,0+1):=kr
theorem Tc:KT prog 36 (bD .i64):=kq
theorem VG:BT prog 50 iR (⟨(⟨0,0,0⟩:aC),0,[],[]⟩:br):=bq
theorem QG:(prog.info? 50).map (·.size)=some (Kd.n bg):=kr
theorem QR:KT prog 50 bg:=kq
theorem Rt:cv prog 38 2=some (dH jl 2,4+1):=kr
theorem W0:cv prog 35 3=some (dH iT 3,0+1):=kr
theorem nN:BT prog 50 iU (⟨(⟨0,0,0⟩:aC),0,(.slice none 0 0),(.slice none 0 0)⟩:ba):=bq
theorem UX:ZT prog 50 cK (⟨(⟨0,0,0⟩:aC),0,(.slice none 0 0),(.slice none 0 0)⟩:ba):=zq
theorem TB:(prog.info? 50).map (·.size)=some (Kd.n cK):=kr
theorem FD:cv prog 50 0=some (0,2+1):=kr
theorem nO:p_ iU 0 ⟨cw,ba.Header⟩ (λx y=>{x with Header:=y}):=uq
theorem De:cv prog 50 3=some (5,0+1):=kr
theorem ky:p_ iU 3 ⟨fd,ba.Nonces⟩ (λx y=>{x with Nonces:=y}):=uq
theorem vF:cv prog 50 2=some (4,0+1):=kr
theorem eX:p_ iU 2 ⟨fd,ba.From⟩ (λx y=>{x with From:=y}):=uq
theorem Si:cv prog 38 0=some (dH jl 0,0+1):=kr
abbrev Ye:ByteArray:=⟨#[67,72,82,78,1,1,0,0,0,0,0,0,0,0,0,7,0,0,0,0,0,0,0,1,26,177,1,54]⟩
theorem GZ:il (.raw (.string Ye)) xJ [67,72,82,78,1,1,0,0,0,0,0,0,0,0,0,7,0,0,0,0,0,0,0,1,26,177,1,54]:=Xi kr
theorem PY:cv prog 50 1=some (dH iR 1,0+1):=kr
theorem tN:cv prog 50 0=some (dH iR 0,2+1):=kr
theorem W1:ZT prog 46 cw (⟨0,0,0⟩:aC):=zq
theorem To:(prog.info? 46).map (·.size)=some (Kd.n cw):=kr
theorem wH:cv prog 50 2=some (dH iR 2,0+1):=kr
theorem H_:cv prog 50 3=some (dH iR 3,0+1):=kr
theorem HQ (d:Nat) (e:Bool) (k:bl a n ((d,.raw (.bool e))::E) L (wpList P b Q rest)) (h:bl a n ((d,.raw (.bool e))::E) L (wpList P b Q rest)→bl a n E L (wpList P b Q (o0::o1::o2::o3::o4::o5::o6::rest))):bl a n E L (wpList P b Q (o0::o1::o2::o3::o4::o5::o6::rest)):=h k
theorem Ii (d:Nat) (e:Bool) (k:bi a n ((d,.raw (.bool e))::E) (wpQuiet P b C c rest)) (h:bi a n ((d,.raw (.bool e))::E) (wpQuiet P b C c rest)→bi a n E (wpQuiet P b C c (o0::o1::o2::o3::o4::o5::o6::rest))):bi a n E (wpQuiet P b C c (o0::o1::o2::o3::o4::o5::o6::rest)):=h k
theorem um:BT prog 69 mw (⟨(⟨0,0,0⟩:aC),(.slice none 0 0)⟩:cN):=bq
theorem WX:ZT prog 69 eM (⟨(⟨0,0,0⟩:aC),(.slice none 0 0)⟩:cN):=zq
theorem VK:(prog.info? 69).map (·.size)=some (Kd.n eM):=kr
theorem HS:cv prog 69 0=some (0,2+1):=kr
theorem un:p_ mw 0 ⟨cw,cN.Header⟩ (λx y=>{x with Header:=y}):=uq
theorem FE:cv prog 69 1=some (3,0+1):=kr
theorem pO:p_ mw 1 ⟨fd,cN.Cells⟩ (λx y=>{x with Cells:=y}):=uq
abbrev Yy:ByteArray:=⟨#[67,72,82,78,1,2,0,0,0,0,0,0,0,0,0,7,0,0,0,0,0,0,0,1,26,196,1,55]⟩
theorem G1:il (.raw (.string Yy)) xJ [67,72,82,78,1,2,0,0,0,0,0,0,0,0,0,7,0,0,0,0,0,0,0,1,26,196,1,55]:=Xi kr
theorem UJ:cv prog 44 0=some (dH jv 0,10+1):=kr
theorem S3:cv prog 44 1=some (dH jv 1,2+1):=kr
theorem TG:cv prog 44 2=some (dH jv 2,0+1):=kr
theorem TY:cv prog 44 3=some (dH jv 3,0+1):=kr
theorem Ij (d:Nat) (e:Bool) (k:bl a n ((d,.raw (.bool e))::E) L (wpList P b Q rest)) (h:bl a n ((d,.raw (.bool e))::E) L (wpList P b Q rest)→bl a n E L (wpList P b Q (o0::o1::o2::o3::o4::o5::o6::o7::o8::o9::RA::SG::SI::R5::RF::T7::VU::rest))):bl a n E L (wpList P b Q (o0::o1::o2::o3::o4::o5::o6::o7::o8::o9::RA::SG::SI::R5::RF::T7::VU::rest)):=h k
theorem FF (d:Nat) (e:Bool) (k:bi a n ((d,.raw (.bool e))::E) (wpQuiet P b C c rest)) (h:bi a n ((d,.raw (.bool e))::E) (wpQuiet P b C c rest)→bi a n E (wpQuiet P b C c (o0::o1::o2::o3::o4::o5::o6::o7::o8::o9::RA::SG::SI::R5::RF::T7::VU::rest))):bi a n E (wpQuiet P b C c (o0::o1::o2::o3::o4::o5::o6::o7::o8::o9::RA::SG::SI::R5::RF::T7::VU::rest)):=h k
theorem Ik (d:Nat) (e:Bool) (k:bl a n ((d,.raw (.bool e))::E) L (wpList P b Q rest)) (h:bl a n ((d,.raw (.bool e))::E) L (wpList P b Q rest)→bl a n E L (wpList P b Q (o0::o1::o2::o3::o4::o5::o6::o7::o8::o9::rest))):bl a n E L (wpList P b Q (o0::o1::o2::o3::o4::o5::o6::o7::o8::o9::rest)):=h k
theorem xq (d:Nat) (e:Bool) (k:bi a n ((d,.raw (.bool e))::E) (wpQuiet P b C c rest)) (h:bi a n ((d,.raw (.bool e))::E) (wpQuiet P b C c rest)→bi a n E (wpQuiet P b C c (o0::o1::o2::o3::o4::o5::o6::o7::o8::o9::rest))):bi a n E (wpQuiet P b C c (o0::o1::o2::o3::o4::o5::o6::o7::o8::o9::rest)):=h k
theorem sY:BT prog 29 lf (⟨0,(⟨0,(.slice none 0 0)⟩:aM)⟩:cO):=bq
theorem Xd:ZT prog 29 iO (⟨0,(⟨0,(.slice none 0 0)⟩:aM)⟩:cO):=zq
theorem VE:(prog.info? 29).map (·.size)=some (Kd.n iO):=kr
theorem TH:ZT prog 124 bZ (⟨false,(⟨0,0,0⟩:aC),[],0,0⟩:aF):=zq
theorem Vz:ZT prog 124 fy (⟨false,(⟨0,0,0⟩:aC),(.slice none 0 0),0,0⟩:aX):=zq
theorem qL:cv prog 124 3=some (5,0+1):=kr
theorem fw:p_ eh 3 ⟨bD .i64,aX.Place⟩ (λx y=>{x with Place:=y}):=uq
theorem qM:cv prog 124 4=some (6,0+1):=kr
theorem fx:p_ eh 4 ⟨bD .i64,aX.Err⟩ (λx y=>{x with Err:=y}):=uq
theorem ta:KT prog 124 bZ:=kq
theorem xC:(prog.info? 124).map (·.size)=some (Kd.n bZ):=kr
theorem G2:cv prog 124 0=some (0,0+1):=kr
theorem pK:p_ eh 0 ⟨oi,aX.Head⟩ (λx y=>{x with Head:=y}):=uq
theorem G3:cv prog 124 1=some (1,2+1):=kr
theorem pL:p_ eh 1 ⟨cw,aX.Header⟩ (λx y=>{x with Header:=y}):=uq
theorem DU:cv prog 124 2=some (4,0+1):=kr
theorem lC:p_ eh 2 ⟨fd,aX.Cells⟩ (λx y=>{x with Cells:=y}):=uq
theorem jT:p_ cL 3 ⟨bD .i64,aF.Place⟩ (λx y=>{x with Place:=y}):=uq
theorem jU:p_ cL 4 ⟨bD .i64,aF.Err⟩ (λx y=>{x with Err:=y}):=uq
theorem TD:cv prog 124 4=some (dH cL 4,0+1):=kr
theorem Up:cv prog 124 3=some (dH cL 3,0+1):=kr
theorem Uc:cv prog 124 1=some (dH cL 1,2+1):=kr
theorem Ur:cv prog 124 2=some (dH cL 2,0+1):=kr
theorem TF:UB prog 253 8 (bD .u32) (List.replicate 8 (0:Int)):=VR
theorem TV:ZT prog 253 (bR 8 (bD .u32)) (List.replicate 8 (0:Int)):=zq
theorem QC:(prog.info? 253).map (·.size)=some (Kd.n (bR 8 (bD .u32))):=kr
theorem U7:UB prog 307 64 (bD .u32) (List.replicate 64 (0:Int)):=VR
theorem Te:(prog.info? 307).map (·.size)=some (Kd.n (bR 64 (bD .u32))):=kr
theorem UH:KT prog 307 (bR 64 (bD .u32)):=kq
theorem TW:KT prog 253 (bR 8 (bD .u32)):=kq
theorem UU:KT prog 253 (bR 8 (bD .u32)):=kq
theorem G4:cv prog 201 0=some (0,15+1):=kr
theorem oU:p_ fu 0 ⟨bR 16 (bD .u8),aU.Box⟩ (λx y=>{x with Box:=y}):=uq
theorem G5:cv prog 201 1=some (16,31+1):=kr
theorem oV:p_ fu 1 ⟨bR 32 (bD .u8),aU.Mac⟩ (λx y=>{x with Mac:=y}):=uq
theorem G6:cv prog 201 2=some (48,31+1):=kr
theorem oW:p_ fu 2 ⟨bR 32 (bD .u8),aU.Replay⟩ (λx y=>{x with Replay:=y}):=uq
theorem Tf:ZT prog 236 (bR 176 (bD .u8)) (List.replicate 176 (0:Int)):=zq
abbrev Yo:ByteArray:=⟨#[99,124,119,123,242,107,111,197,48,1,103,43,254,215,171,118,202,130,201,125,250,89,71,240,173,212,162,175,156,164,114,192,183,253,147,38,54,63,247,204,52,165,229,241,113,216,49,21,4,199,35,195,24,150,5,154,7,18,128,226,235,39,178,117,9,131,44,26,27,110,90,160,82,59,214,179,41,227,47,132,83,209,0,237,32,252,177,91,106,203,190,57,74,76,88,207,208,239,170,251,67,77,51,133,69,249,2,127,80,60,159,168,81,163,64,143,146,157,56,245,188,182,218,33,16,255,243,210,205,12,19,236,95,151,68,23,196,167,126,61,100,93,25,115,96,129,79,220,34,42,144,136,70,238,184,20,222,94,11,219,224,50,58,10,73,6,36,92,194,211,172,98,145,149,228,121,231,200,55,109,141,213,78,169,108,86,244,234,101,122,174,8,186,120,37,46,28,166,180,198,232,221,116,31,75,189,139,138,112,62,181,102,72,3,246,14,97,53,87,185,134,193,29,158,225,248,152,17,105,217,142,148,155,30,135,233,206,85,40,223,140,161,137,13,191,230,66,104,65,153,45,15,176,84,187,22]⟩
theorem uo:il (.raw (.string Yo)) xJ [99,124,119,123,242,107,111,197,48,1,103,43,254,215,171,118,202,130,201,125,250,89,71,240,173,212,162,175,156,164,114,192,183,253,147,38,54,63,247,204,52,165,229,241,113,216,49,21,4,199,35,195,24,150,5,154,7,18,128,226,235,39,178,117,9,131,44,26,27,110,90,160,82,59,214,179,41,227,47,132,83,209,0,237,32,252,177,91,106,203,190,57,74,76,88,207,208,239,170,251,67,77,51,133,69,249,2,127,80,60,159,168,81,163,64,143,146,157,56,245,188,182,218,33,16,255,243,210,205,12,19,236,95,151,68,23,196,167,126,61,100,93,25,115,96,129,79,220,34,42,144,136,70,238,184,20,222,94,11,219,224,50,58,10,73,6,36,92,194,211,172,98,145,149,228,121,231,200,55,109,141,213,78,169,108,86,244,234,101,122,174,8,186,120,37,46,28,166,180,198,232,221,116,31,75,189,139,138,112,62,181,102,72,3,246,14,97,53,87,185,134,193,29,158,225,248,152,17,105,217,142,148,155,30,135,233,206,85,40,223,140,161,137,13,191,230,66,104,65,153,45,15,176,84,187,22]:=Xi kr
def lE:YY:=[99,124,119,123,242,107,111,197,48,1,103,43,254,215,171,118,202,130,201,125,250,89,71,240,173,212,162,175,156,164,114,192,183,253,147,38,54,63,247,204,52,165,229,241,113,216,49,21,4,199,35,195,24,150,5,154,7,18,128,226,235,39,178,117,9,131,44,26,27,110,90,160,82,59,214,179,41,227,47,132,83,209,0,237,32,252,177,91,106,203,190,57,74,76,88,207,208,239,170,251,67,77,51,133,69,249,2,127,80,60,159,168,81,163,64,143,146,157,56,245,188,182,218,33,16,255,243,210,205,12,19,236,95,151,68,23,196,167,126,61,100,93,25,115,96,129,79,220,34,42,144,136,70,238,184,20,222,94,11,219,224,50,58,10,73,6,36,92,194,211,172,98,145,149,228,121,231,200,55,109,141,213,78,169,108,86,244,234,101,122,174,8,186,120,37,46,28,166,180,198,232,221,116,31,75,189,139,138,112,62,181,102,72,3,246,14,97,53,87,185,134,193,29,158,225,248,152,17,105,217,142,148,155,30,135,233,206,85,40,223,140,161,137,13,191,230,66,104,65,153,45,15,176,84,187,22]
theorem RN:KT prog 236 (bR 176 (bD .u8)):=kq
theorem Tz:(prog.info? 236).map (·.size)=some (Kd.n (bR 176 (bD .u8))):=kr
theorem FG:cv prog 86 1=some (1,15+1):=kr
theorem rp:p_ lh 1 ⟨bR 16 (bD .u8),aH.Replay⟩ (λx y=>{x with Replay:=y}):=uq
theorem HT:cv prog 78 0=some (0,0+1):=kr
theorem ur:p_ kv 0 ⟨cc (bD .u8),cn.Noise⟩ (λx y=>{x with Noise:=y}):=uq
theorem ut:p_ kv 1 ⟨cc (bD .u8),cn.Braid⟩ (λx y=>{x with Braid:=y}):=uq
theorem UY:ZT prog 134 dt (⟨[],[],[],[]⟩:bw):=zq
theorem Vc:ZT prog 134 lD (⟨[],[],[],(.slice none 0 0)⟩:bT):=zq
theorem Qi:KT prog 134 dt:=kq
theorem QK:(prog.info? 134).map (·.size)=some (Kd.n dt):=kr
theorem wW:cv prog 134 0=some (0,0+1):=kr
theorem fZ:p_ fO 0 ⟨cc (bD .i64),bT.sizes⟩ (λx y=>{x with sizes:=y}):=uq
theorem Vn:cv prog 78 1=some (dH iS 1,0+1):=kr
theorem G7:cv prog 134 1=some (1,0+1):=kr
theorem qc:p_ fO 1 ⟨cc (bD .i64),bT.pattern⟩ (λx y=>{x with pattern:=y}):=uq
theorem G8:cv prog 134 2=some (2,0+1):=kr
theorem qd:p_ fO 2 ⟨cc (bD .i64),bT.offsets⟩ (λx y=>{x with offsets:=y}):=uq
theorem VD:cv prog 78 2=some (dH iS 2,0+1):=kr
theorem DV:cv prog 134 3=some (3,0+1):=kr
theorem mh:p_ fO 3 ⟨fd,bT.own⟩ (λx y=>{x with own:=y}):=uq
theorem Va:KT prog 132 fd:=kq
theorem Vy:(prog.info? 132).map (·.size)=some (Kd.n fd):=kr
theorem Vh:cv prog 134 0=some (dH eK 0,0+1):=kr
theorem Un:cv prog 134 1=some (dH eK 1,0+1):=kr
theorem T_:cv prog 134 3=some (dH eK 3,0+1):=kr
theorem We:KT prog 132 (cc (cc (bD .i64))):=kq
theorem G9 (d:Nat) (e:Bool) (k:bl a n ((d,.raw (.bool e))::E) L (wpList P b Q rest)) (h:bl a n ((d,.raw (.bool e))::E) L (wpList P b Q rest)→bl a n E L (wpList P b Q (o0::o1::o2::o3::o4::o5::o6::o7::o8::o9::RA::SG::SI::R5::RF::T7::rest))):bl a n E L (wpList P b Q (o0::o1::o2::o3::o4::o5::o6::o7::o8::o9::RA::SG::SI::R5::RF::T7::rest)):=h k
theorem H6 (d:Nat) (e:Bool) (k:bi a n ((d,.raw (.bool e))::E) (wpQuiet P b C c rest)) (h:bi a n ((d,.raw (.bool e))::E) (wpQuiet P b C c rest)→bi a n E (wpQuiet P b C c (o0::o1::o2::o3::o4::o5::o6::o7::o8::o9::RA::SG::SI::R5::RF::T7::rest))):bi a n E (wpQuiet P b C c (o0::o1::o2::o3::o4::o5::o6::o7::o8::o9::RA::SG::SI::R5::RF::T7::rest)):=h k
theorem Vu:(prog.info? 48).map (·.size)=some (Kd.n fd):=kr
theorem VI:cv prog 35 4=some (dH iT 4,0+1):=kr
theorem Tx:cv prog 38 1=some (dH jl 1,2+1):=kr
theorem SL:E_ prog 3 (bD .i64) 1:=E_.int U3
instance beq_Api_Report:BEq aI:=⟨λa b=>a.In==b.In&&(a.Malformed==b.Malformed&&(a.Replays==b.Replays&&(a.Noise==b.Noise&&(a.Out==b.Out&&(true)))))⟩
theorem W3:E_ prog 35 (bU) 2:=E_.st underlying35 kr ⟨by decide,rfl,ez,_,NN SL J,_,λ_ _=>rfl,⟨by decide,rfl,ez,_,NN SL J,_,λ_ _=>rfl,⟨by decide,rfl,ez,_,NN SL J,_,λ_ _=>rfl,⟨by decide,rfl,ez,_,NN SL J,_,λ_ _=>rfl,⟨by decide,rfl,ez,_,NN SL J,_,λ_ _=>rfl,λ_ _=>rfl⟩⟩⟩⟩⟩
theorem WJ:prog.eqGuardType prog.depth 35=false:=kr
theorem Td:cv prog 38 4=some (dH jl 4,0+1):=kr
theorem V0:E_ prog 2 (bD .i64) 1:=E_.int U2
instance beq_Api_Header:BEq aC:=⟨λa b=>a.Round==b.Round&&(a.Epoch==b.Epoch&&(a.Left==b.Left&&(true)))⟩
theorem WH:E_ prog 46 (cw) 2:=E_.st underlying46 kr ⟨by decide,rfl,h_,_,NN V0 J,_,λ_ _=>rfl,⟨by decide,rfl,h_,_,NN V0 J,_,λ_ _=>rfl,⟨by decide,rfl,ez,_,NN SL J,_,λ_ _=>rfl,λ_ _=>rfl⟩⟩⟩
theorem Wy:prog.eqGuardType prog.depth 46=false:=kr
theorem Zi:z_ prog 5 (bD .u8) (kB .u8) nB:=DO U5
theorem Wm:prog.cellsOf 5=1:=kr
theorem U1:z_ prog 22 (cc (bD .u8)) (Ud (kB .u8)) (R_ nB):=GN (K:=bD .u8) ck Wm (by decide) Zi
theorem T6:z_ prog 3 (bD .i64) (kB .i64) nB:=DO U3
theorem Tp:prog.cellsOf 22=1:=kr
theorem QZ:prog.cellsOf 3=1:=kr
theorem UE:prog.cellsOf 24=11:=kr
def uu (x:aL):Prop:=(Ud (kB .u8)) x.Master∧(kB .i64) x.Left∧(kB .i64) x.Span∧(kB .i64) x.Room∧(kB .i64) x.Num∧(kB .i64) x.Den∧(kB .i64) x.Noise∧(kB .i64) x.Chunks∧(kB .i64) x.Workers∧(kB .i64) x.Cap∧(kB .i64) x.Shards∧True
def qN (x:aL):Nat:=(R_ nB) x.Master+(nB x.Left+(nB x.Span+(nB x.Room+(nB x.Num+(nB x.Den+(nB x.Noise+(nB x.Chunks+(nB x.Workers+(nB x.Cap+(nB x.Shards+0))))))))))
theorem X5:z_ prog 24 aZ uu qN:=by intro H enc W _ B BA hB fuel cs x h;obtain⟨hl,ds,hx,hf0⟩:=vr underlying24 h;obtain⟨d0,ds0,e0,⟨n0,p0,t0⟩,hf1⟩:=MN hf0;subst e0;obtain⟨y0,r0,g0,b0⟩:=U1 hB t0;obtain⟨d1,ds1,e1,⟨n1,p1,t1⟩,hf2⟩:=MN hf1;subst e1;obtain⟨y1,r1,g1,b1⟩:=T6 hB t1;obtain⟨d2,ds2,e2,⟨n2,p2,t2⟩,hf3⟩:=MN hf2;subst e2;obtain⟨y2,r2,g2,b2⟩:=T6 hB t2;obtain⟨d3,ds3,e3,⟨n3,p3,t3⟩,hf4⟩:=MN hf3;subst e3;obtain⟨y3,r3,g3,b3⟩:=T6 hB t3;obtain⟨d4,ds4,e4,⟨n4,p4,t4⟩,hf5⟩:=MN hf4;subst e4;obtain⟨y4,r4,g4,b4⟩:=T6 hB t4;obtain⟨d5,ds5,e5,⟨n5,p5,t5⟩,hf6⟩:=MN hf5;subst e5;obtain⟨y5,r5,g5,b5⟩:=T6 hB t5;obtain⟨d6,ds6,e6,⟨n6,p6,t6⟩,hf7⟩:=MN hf6;subst e6;obtain⟨y6,r6,g6,b6⟩:=T6 hB t6;obtain⟨d7,ds7,e7,⟨n7,p7,t7⟩,hf8⟩:=MN hf7;subst e7;obtain⟨y7,r7,g7,b7⟩:=T6 hB t7;obtain⟨d8,ds8,e8,⟨n8,p8,t8⟩,hf9⟩:=MN hf8;subst e8;obtain⟨y8,r8,g8,b8⟩:=T6 hB t8;obtain⟨d9,ds9,e9,⟨n9,p9,t9⟩,hf10⟩:=MN hf9;subst e9;obtain⟨y9,r9,g9,b9⟩:=T6 hB t9;obtain⟨d10,ds10,e10,⟨n10,p10,t10⟩,hf11⟩:=MN hf10;subst e10;obtain⟨y10,r10,g10,b10⟩:=T6 hB t10;have hnil:=P8.nil hf11;subst hnil;refine⟨⟨y0,y1,y2,y3,y4,y5,y6,y7,y8,y9,y10⟩,qv (eQ Tp r0 (eQ QZ r1 (eQ QZ r2 (eQ QZ r3 (eQ QZ r4 (eQ QZ r5 (eQ QZ r6 (eQ QZ r7 (eQ QZ r8 (eQ QZ r9 (eQ QZ r10 (vt (hl.trans UE) J)))))))))))),⟨g0,g1,g2,g3,g4,g5,g6,g7,g8,g9,g10,trivial⟩,?_⟩;have:=hB.agg [d0,d1,d2,d3,d4,d5,d6,d7,d8,d9,d10];rw[hx];dsimp only at b0 b1 b2 b3 b4 b5 b6 b7 b8 b9 b10;simp only[hB.cons,hB.nil] at this;simp only[qN];omega
theorem YE:z_ prog 2 (bD .i64) (kB .i64) nB:=DO U2
theorem UT:prog.cellsOf 57=16:=kr
theorem YQ:z_ prog 57 (bR 16 (bD .u8)) (Tj 16 (kB .u8)) (Q5 nB):=H2 (K:=bD .u8) tG UT Wm Zi
theorem YZ:z_ prog 48 (cc (bR 16 (bD .u8))) (Ud (Tj 16 (kB .u8))) (R_ (Q5 nB)):=GN (K:=bR 16 (bD .u8)) i_ UT (by decide) YQ
theorem VF:prog.cellsOf 2=1:=kr
theorem WK:prog.cellsOf 48=1:=kr
theorem UV:prog.cellsOf 64=2:=kr
def pP (x:aE):Prop:=(kB .i64) x.Number∧(Ud (Tj 16 (kB .u8))) x.Tags∧True
def jQ (x:aE):Nat:=nB x.Number+((R_ (Q5 nB)) x.Tags+0)
theorem Y0:z_ prog 64 aT pP jQ:=by intro H enc W _ B BA hB fuel cs x h;obtain⟨hl,ds,hx,hf0⟩:=vr underlying64 h;obtain⟨d0,ds0,e0,⟨n0,p0,t0⟩,hf1⟩:=MN hf0;subst e0;obtain⟨y0,r0,g0,b0⟩:=YE hB t0;obtain⟨d1,ds1,e1,⟨n1,p1,t1⟩,hf2⟩:=MN hf1;subst e1;obtain⟨y1,r1,g1,b1⟩:=YZ hB t1;have hnil:=P8.nil hf2;subst hnil;refine⟨⟨y0,y1⟩,qv (eQ VF r0 (eQ WK r1 (vt (hl.trans UV) J))),⟨g0,g1,trivial⟩,?_⟩;have:=hB.agg [d0,d1];rw[hx];dsimp only at b0 b1;simp only[hB.cons,hB.nil] at this;simp only[jQ];omega
theorem YS:z_ prog 25 (cc aT) (Ud pP) (R_ jQ):=GN (K:=aT) nD UV (by decide) Y0
theorem Wc:prog.cellsOf 25=1:=kr
theorem UW:prog.cellsOf 27=2:=kr
def qO (x:aA):Prop:=(kB .i64) x.Newest∧(Ud pP) x.Epochs∧True
def li (x:aA):Nat:=nB x.Newest+((R_ jQ) x.Epochs+0)
theorem YO:z_ prog 27 aD qO li:=by intro H enc W _ B BA hB fuel cs x h;obtain⟨hl,ds,hx,hf0⟩:=vr underlying27 h;obtain⟨d0,ds0,e0,⟨n0,p0,t0⟩,hf1⟩:=MN hf0;subst e0;obtain⟨y0,r0,g0,b0⟩:=YE hB t0;obtain⟨d1,ds1,e1,⟨n1,p1,t1⟩,hf2⟩:=MN hf1;subst e1;obtain⟨y1,r1,g1,b1⟩:=YS hB t1;have hnil:=P8.nil hf2;subst hnil;refine⟨⟨y0,y1⟩,qv (eQ VF r0 (eQ Wc r1 (vt (hl.trans UW) J))),⟨g0,g1,trivial⟩,?_⟩;have:=hB.agg [d0,d1];rw[hx];dsimp only at b0 b1;simp only[hB.cons,hB.nil] at this;simp only[li];omega
theorem UK:prog.cellsOf 29=3:=kr
def wj (x:aJ):Prop:=(kB .i64) x.Next∧qO x.Window∧True
def pQ (x:aJ):Nat:=nB x.Next+(li x.Window+0)
theorem XE:z_ prog 29 bt wj pQ:=by intro H enc W _ B BA hB fuel cs x h;obtain⟨hl,ds,hx,hf0⟩:=vr underlying29 h;obtain⟨d0,ds0,e0,⟨n0,p0,t0⟩,hf1⟩:=MN hf0;subst e0;obtain⟨y0,r0,g0,b0⟩:=YE hB t0;obtain⟨d1,ds1,e1,⟨n1,p1,t1⟩,hf2⟩:=MN hf1;subst e1;obtain⟨y1,r1,g1,b1⟩:=YO hB t1;have hnil:=P8.nil hf2;subst hnil;refine⟨⟨y0,y1⟩,qv (eQ VF r0 (eQ UW r1 (vt (hl.trans UK) J))),⟨g0,g1,trivial⟩,?_⟩;have:=hB.agg [d0,d1];rw[hx];dsimp only at b0 b1;simp only[hB.cons,hB.nil] at this;simp only[pQ];omega
theorem Wn:prog.cellsOf 44=16:=kr
def nb (x:dF):Prop:=uu x.C∧wj x.S∧(Ud (kB .u8)) x.Raw∧(Ud (kB .u8)) x.Tape∧True
def jx (x:dF):Nat:=qN x.C+(pQ x.S+((R_ nB) x.Raw+((R_ nB) x.Tape+0)))
theorem X4:z_ prog 44 ka nb jx:=by intro H enc W _ B BA hB fuel cs x h;obtain⟨hl,ds,hx,hf0⟩:=vr underlying44 h;obtain⟨d0,ds0,e0,⟨n0,p0,t0⟩,hf1⟩:=MN hf0;subst e0;obtain⟨y0,r0,g0,b0⟩:=X5 hB t0;obtain⟨d1,ds1,e1,⟨n1,p1,t1⟩,hf2⟩:=MN hf1;subst e1;obtain⟨y1,r1,g1,b1⟩:=XE hB t1;obtain⟨d2,ds2,e2,⟨n2,p2,t2⟩,hf3⟩:=MN hf2;subst e2;obtain⟨y2,r2,g2,b2⟩:=U1 hB t2;obtain⟨d3,ds3,e3,⟨n3,p3,t3⟩,hf4⟩:=MN hf3;subst e3;obtain⟨y3,r3,g3,b3⟩:=U1 hB t3;have hnil:=P8.nil hf4;subst hnil;refine⟨⟨y0,y1,y2,y3⟩,qv (eQ UE r0 (eQ UK r1 (eQ Tp r2 (eQ Tp r3 (vt (hl.trans Wn) J))))),⟨g0,g1,g2,g3,trivial⟩,?_⟩;have:=hB.agg [d0,d1,d2,d3];rw[hx];dsimp only at b0 b1 b2 b3;simp only[hB.cons,hB.nil] at this;simp only[jx];omega
theorem Yg:KT prog 44 ka:=kq
abbrev K0:=(cc (bR 16 (bD .u8)))
abbrev K1:=(cc (cc (bD .u8)))
abbrev K2:=(bR 64 (bD .u32))
abbrev K3:=(bR 176 (bD .u8))
abbrev K4:=(bR 16 (bD .u8))
abbrev K5:=(bR 8 (bD .u32))
abbrev K6:=(bR 32 (bD .u8))
abbrev K7:=(bR 4 (bD .u8))
abbrev K8:=(cc (bD .i64))
abbrev K9:=(cc (bD .u8))
abbrev dC:=(bD .i64)
abbrev YT:=(bD .u32)
abbrev cG:=(bD .u8)
end Go.Proofs.YtlkjdchmeihhkaaGreatDoor

import Derived.Test.YtlkjdchmeihhkaaGreatDoorSimD
import Derived.Test.YtlkjdchmeihhkaaGreatDoorRows
import Derived.Test.YtlkjdchmeihhkaaGreatDoorLawSrt
set_option autoImplicit true
set_option relaxedAutoImplicit true
set_option linter.all false
set_option maxRecDepth 20000
namespace Go.Proofs.YtlkjdchmeihhkaaGreatDoor
open Go Go.Sim Go.ChangeShapes Go.WideShapes Go.ChangeAt Go.RowKit Go.Proofs.Tryz
abbrev YY:=List Int
theorem J:a=a:=rfl
def U2:=underlying2
def U3:=underlying3
def U5:=underlying5
def U9:=underlying9
def bJ:=underlying22
def g_:=underlying25
def cG:=underlying47
def hJ:=underlying48
def yM:=underlying57
def ld:=underlying67
def Q8:=underlying74
def PH:=underlying120
def OU:=underlying132
def oG:=underlying141
def yJ:=underlying158
def PE:=underlying159
def uE:=underlying199
def wK:=underlying245
def Qm:=underlying246
def wN:=underlying254
def Ou:=underlying255
def tL:=underlying279
def P2:=underlying280
def Oo:=underlying307
variable [Fu]
structure aD where
 Round:Int
 Epoch:Int
 Left:Int
abbrev fw:List (dN aD):=[⟨aR .i64,aD.Round⟩,⟨aR .i64,aD.Epoch⟩,⟨aR .i64,aD.Left⟩]
abbrev cj:Kd aD:=i_ fw
instance:ZK cj (⟨0,0,0⟩:aD):=zs
structure aG where
 Header:aD
 Count:Int
 From:YY
 Nonces:List YY
abbrev ey:List (dN aG):=[⟨cj,aG.Header⟩,⟨aR .i64,aG.Count⟩,⟨bE (aR .i64),aG.From⟩,⟨bE (bC 16 (aR .u8)),aG.Nonces⟩]
abbrev aQ:Kd aG:=i_ ey
instance:ZK aQ (⟨(⟨0,0,0⟩:aD),0,[],[]⟩:aG):=zs
structure bV where
 Noise:YY
 Braid:YY
 Chunks:List YY
abbrev j5:List (dN bV):=[⟨bE (aR .u8),bV.Noise⟩,⟨bE (aR .u8),bV.Braid⟩,⟨bE (bE (aR .u8)),bV.Chunks⟩]
abbrev fM:Kd bV:=i_ j5
instance:ZK fM (⟨[],[],[]⟩:bV):=zs
structure aE where
 Number:Int
 Tags:List YY
abbrev iV:List (dN aE):=[⟨aR .i64,aE.Number⟩,⟨bE (bC 16 (aR .u8)),aE.Tags⟩]
abbrev bi:Kd aE:=i_ iV
instance:ZK bi (⟨0,[]⟩:aE):=zs
structure aA where
 Newest:Int
 Epochs:List aE
abbrev dS:List (dN aA):=[⟨aR .i64,aA.Newest⟩,⟨bE bi,aA.Epochs⟩]
abbrev aP:Kd aA:=i_ dS
instance:ZK aP (⟨0,[]⟩:aA):=zs
structure bg where
 Header:aD
 Cells:List YY
abbrev j6:List (dN bg):=[⟨cj,bg.Header⟩,⟨bE (bE (aR .u8)),bg.Cells⟩]
abbrev cd:Kd bg:=i_ j6
instance:ZK cd (⟨(⟨0,0,0⟩:aD),[]⟩:bg):=zs
structure aW where
 Master:YY
 Left:Int
 Span:Int
 Room:Int
 Num:Int
 Den:Int
 Noise:Int
 Chunks:Int
 Workers:Int
 Cap:Int
 Shards:Int
abbrev ei:List (dN aW):=[⟨bE (aR .u8),aW.Master⟩,⟨aR .i64,aW.Left⟩,⟨aR .i64,aW.Span⟩,⟨aR .i64,aW.Room⟩,⟨aR .i64,aW.Num⟩,⟨aR .i64,aW.Den⟩,⟨aR .i64,aW.Noise⟩,⟨aR .i64,aW.Chunks⟩,⟨aR .i64,aW.Workers⟩,⟨aR .i64,aW.Cap⟩,⟨aR .i64,aW.Shards⟩]
abbrev bj:Kd aW:=i_ ei
instance:ZK bj (⟨[],0,0,0,0,0,0,0,0,0,0⟩:aW):=zs
structure aO where
 Next:Int
 Window:aA
abbrev gz:List (dN aO):=[⟨aR .i64,aO.Next⟩,⟨aP,aO.Window⟩]
abbrev bU:Kd aO:=i_ gz
instance:ZK bU (⟨0,(⟨0,[]⟩:aA)⟩:aO):=zs
structure dF where
 C:aW
 S:aO
 Raw:YY
 Tape:YY
abbrev hZ:List (dN dF):=[⟨bj,dF.C⟩,⟨bU,dF.S⟩,⟨bE (aR .u8),dF.Raw⟩,⟨bE (aR .u8),dF.Tape⟩]
abbrev cl:Kd dF:=i_ hZ
structure dg where
 C:aW
 M:aG
 Raw:YY
abbrev gZ:List (dN dg):=[⟨bj,dg.C⟩,⟨aQ,dg.M⟩,⟨bE (aR .u8),dg.Raw⟩]
abbrev gd:Kd dg:=i_ gZ
structure aK where
 In:Int
 Malformed:Int
 Replays:Int
 Noise:Int
 Out:Int
abbrev fW:List (dN aK):=[⟨aR .i64,aK.In⟩,⟨aR .i64,aK.Malformed⟩,⟨aR .i64,aK.Replays⟩,⟨aR .i64,aK.Noise⟩,⟨aR .i64,aK.Out⟩]
abbrev cO:Kd aK:=i_ fW
instance:ZK cO (⟨0,0,0,0,0⟩:aK):=zs
structure aV where
 Out:YY
 State:aO
 Report:aK
 Err:Int
 At:Int
abbrev eW:List (dN aV):=[⟨bE (aR .u8),aV.Out⟩,⟨bU,aV.State⟩,⟨cO,aV.Report⟩,⟨aR .i64,aV.Err⟩,⟨aR .i64,aV.At⟩]
abbrev br:Kd aV:=i_ eW
instance:ZK br (⟨[],(⟨0,(⟨0,[]⟩:aA)⟩:aO),(⟨0,0,0,0,0⟩:aK),0,0⟩:aV):=zs
structure bf where
 a:Int
 b:Int
abbrev j7:List (dN bf):=[⟨aR .u32,bf.a⟩,⟨aR .u32,bf.b⟩]
abbrev dX:Kd bf:=i_ j7
instance:ZK dX (⟨0,0⟩:bf):=zs
structure bv where
 field:YY
 at_:Int
 stage:Int
 left:Int
 header:aD
 sum:bf
 err:Int
 place:Int
abbrev yu:List (dN bv):=[⟨bE (aR .u8),bv.field⟩,⟨aR .i64,bv.at_⟩,⟨aR .i64,bv.stage⟩,⟨aR .i64,bv.left⟩,⟨cj,bv.header⟩,⟨dX,bv.sum⟩,⟨aR .i64,bv.err⟩,⟨aR .i64,bv.place⟩]
abbrev FP:Kd bv:=i_ yu
structure aY where
 field:Value
 at_:Int
 stage:Int
 left:Int
 header:aD
 sum:bf
 err:Int
 place:Int
abbrev eb:List (dN aY):=[⟨dB,aY.field⟩,⟨aR .i64,aY.at_⟩,⟨aR .i64,aY.stage⟩,⟨aR .i64,aY.left⟩,⟨cj,aY.header⟩,⟨dX,aY.sum⟩,⟨aR .i64,aY.err⟩,⟨aR .i64,aY.place⟩]
abbrev cq:Kd aY:=i_ eb
instance:ZK cq (⟨(.slice none 0 0),0,0,0,(⟨0,0,0⟩:aD),(⟨0,0⟩:bf),0,0⟩:aY):=zs
structure aB where
 Newest:Int
 Epochs:Value
abbrev ee:List (dN aB):=[⟨aR .i64,aB.Newest⟩,⟨dB,aB.Epochs⟩]
abbrev aZ:Kd aB:=i_ ee
instance:ZK aZ (⟨0,(.slice none 0 0)⟩:aB):=zs
structure aJ where
 Next:Int
 Window:aB
abbrev eQ:List (dN aJ):=[⟨aR .i64,aJ.Next⟩,⟨aZ,aJ.Window⟩]
abbrev cS:Kd aJ:=i_ eQ
instance:ZK cS (⟨0,(⟨0,(.slice none 0 0)⟩:aB)⟩:aJ):=zs
structure bd where
 Cell:YY
 Replay:YY
abbrev kh:List (dN bd):=[⟨bE (aR .u8),bd.Cell⟩,⟨bC 16 (aR .u8),bd.Replay⟩]
abbrev cy:Kd bd:=i_ kh
instance:ZK cy (⟨[],(List.replicate 16 0)⟩:bd):=zs
structure bp where
 words:YY
 tail:YY
 n:Int
abbrev j8:List (dN bp):=[⟨bC 8 (aR .u32),bp.words⟩,⟨bC 64 (aR .u8),bp.tail⟩,⟨aR .u64,bp.n⟩]
abbrev cU:Kd bp:=i_ j8
instance:ZK cU (⟨(List.replicate 8 0),(List.replicate 64 0),0⟩:bp):=zs
structure ci where
 Box:YY
 Mac:YY
 Replay:YY
abbrev iO:List (dN ci):=[⟨bC 16 (aR .u8),ci.Box⟩,⟨bC 32 (aR .u8),ci.Mac⟩,⟨bC 32 (aR .u8),ci.Replay⟩]
abbrev ge:Kd ci:=i_ iO
instance:ZK ge (⟨(List.replicate 16 0),(List.replicate 32 0),(List.replicate 32 0)⟩:ci):=zs
structure bT where
 keys:List YY
abbrev kY:List (dN bT):=[⟨bC 11 (bC 16 (aR .u8)),bT.keys⟩]
abbrev bu:Kd bT:=i_ kY
instance:ZK bu (⟨(List.replicate 11 (List.replicate 16 0))⟩:bT):=zs
structure dh where
 Noise:YY
 Braid:YY
 Chunks:Value
abbrev me:List (dN dh):=[⟨bE (aR .u8),dh.Noise⟩,⟨bE (aR .u8),dh.Braid⟩,⟨dB,dh.Chunks⟩]
abbrev gX:Kd dh:=i_ me
instance:ZK gX (⟨[],[],(.slice none 0 0)⟩:dh):=zs
structure cQ where
 parts:bV
 sizes:YY
 starts:YY
abbrev fX:List (dN cQ):=[⟨fM,cQ.parts⟩,⟨bE (aR .i64),cQ.sizes⟩,⟨bE (aR .i64),cQ.starts⟩]
abbrev j9:Kd cQ:=i_ fX
instance:ZK j9 (⟨(⟨[],[],[]⟩:bV),[],[]⟩:cQ):=zs
structure cp where
 parts:bV
 sizes:YY
 starts:Value
abbrev iP:List (dN cp):=[⟨fM,cp.parts⟩,⟨bE (aR .i64),cp.sizes⟩,⟨dB,cp.starts⟩]
abbrev ia:Kd cp:=i_ iP
instance:ZK ia (⟨(⟨[],[],[]⟩:bV),[],(.slice none 0 0)⟩:cp):=zs
structure bQ where
 bytes:YY
 used:Int
abbrev mR:List (dN bQ):=[⟨ml,bQ.bytes⟩,⟨aR .i64,bQ.used⟩]
abbrev de:Kd bQ:=i_ mR
instance:ZK de (⟨[],0⟩:bQ):=zs
structure aN where
 Number:Int
 Tags:Value
abbrev ki:List (dN aN):=[⟨aR .i64,aN.Number⟩,⟨dB,aN.Tags⟩]
abbrev aI:Kd aN:=i_ ki
instance:ZK aI (⟨0,(.slice none 0 0)⟩:aN):=zs
structure aL where
 Header:aD
 Count:Int
 From:Value
 Nonces:Value
abbrev el:List (dN aL):=[⟨cj,aL.Header⟩,⟨aR .i64,aL.Count⟩,⟨dB,aL.From⟩,⟨dB,aL.Nonces⟩]
abbrev be:Kd aL:=i_ el
instance:ZK be (⟨(⟨0,0,0⟩:aD),0,(.slice none 0 0),(.slice none 0 0)⟩:aL):=zs
structure fx where
 Header:aD
 Count:Int
 From:YY
 Nonces:Value
abbrev jL:List (dN fx):=[⟨cj,fx.Header⟩,⟨aR .i64,fx.Count⟩,⟨bE (aR .i64),fx.From⟩,⟨dB,fx.Nonces⟩]
abbrev DJ:Kd fx:=i_ jL
structure bZ where
 Header:aD
 Cells:Value
abbrev kj:List (dN bZ):=[⟨cj,bZ.Header⟩,⟨dB,bZ.Cells⟩]
abbrev cP:Kd bZ:=i_ kj
instance:ZK cP (⟨(⟨0,0,0⟩:aD),(.slice none 0 0)⟩:bZ):=zs
structure aH where
 Out:Value
 State:aJ
 Report:aK
 Err:Int
 At:Int
abbrev di:List (dN aH):=[⟨dB,aH.Out⟩,⟨cS,aH.State⟩,⟨cO,aH.Report⟩,⟨aR .i64,aH.Err⟩,⟨aR .i64,aH.At⟩]
abbrev aU:Kd aH:=i_ di
instance:ZK aU (⟨(.slice none 0 0),(⟨0,(⟨0,(.slice none 0 0)⟩:aB)⟩:aJ),(⟨0,0,0,0,0⟩:aK),0,0⟩:aH):=zs
structure dy where
 Out:YY
 State:aJ
 Report:aK
 Err:Int
 At:Int
abbrev iW:List (dN dy):=[⟨bE (aR .u8),dy.Out⟩,⟨cS,dy.State⟩,⟨cO,dy.Report⟩,⟨aR .i64,dy.Err⟩,⟨aR .i64,dy.At⟩]
abbrev Bv:Kd dy:=i_ iW
theorem UX:ZT prog 24 bj (⟨[],0,0,0,0,0,0,0,0,0,0⟩:aW):=zq
theorem ob:AT prog 5 (aR .u8) (0:Int) 1:=aq
theorem Ue:BT prog 24 ei (⟨[],0,0,0,0,0,0,0,0,0,0⟩:aW):=bq
theorem TN:(prog.info? 24).map (·.size)=some (Kd.n bj):=kr
theorem nI:KT prog 24 bj:=kq
theorem QL:BT prog 29 gz (⟨0,(⟨0,[]⟩:aA)⟩:aO):=bq
theorem zO:ET prog 5 (aR .u8) (0:Int):=OL
theorem P5:ZT prog 38 br (⟨[],(⟨0,(⟨0,[]⟩:aA)⟩:aO),(⟨0,0,0,0,0⟩:aK),0,0⟩:aV):=zq
theorem QZ:ZT prog 50 aQ (⟨(⟨0,0,0⟩:aD),0,[],[]⟩:aG):=zq
theorem lf:KT prog 29 bU:=kq
theorem z2:ZT prog 69 cd (⟨(⟨0,0,0⟩:aD),[]⟩:bg):=zq
theorem Pk:ZT prog 27 aP (⟨0,[]⟩:aA):=zq
theorem OG:bL prog 24 0=some (cD ei 0,0+1):=kr
theorem gK:KT prog 22 (bE (aR .u8)):=kq
theorem kb:bL prog 24 1=some (cD ei 1,0+1):=kr
theorem dv:KT prog 3 (aR .i64):=kq
theorem dO (d:Nat) (e:Bool) (k:aC a n ((d,.raw (.bool e))::E) L (wpList P b Q rest)) (h:aC a n ((d,.raw (.bool e))::E) L (wpList P b Q rest)→aC a n E L (wpList P b Q (o0::o1::o2::o3::rest))):aC a n E L (wpList P b Q (o0::o1::o2::o3::rest)):=h k
theorem Gq (d:Nat) (e:Bool) (k:bS a n ((d,.raw (.bool e))::E) (wpQuiet P b C c rest)) (h:bS a n ((d,.raw (.bool e))::E) (wpQuiet P b C c rest)→bS a n E (wpQuiet P b C c (o0::o1::o2::o3::rest))):bS a n E (wpQuiet P b C c (o0::o1::o2::o3::rest)):=h k
theorem x6:bL prog 24 2=some (cD ei 2,0+1):=kr
theorem N_:bL prog 24 3=some (cD ei 3,0+1):=kr
theorem O8:bL prog 24 5=some (cD ei 5,0+1):=kr
theorem Qb:bL prog 24 4=some (cD ei 4,0+1):=kr
theorem P7:bL prog 24 6=some (cD ei 6,0+1):=kr
theorem vL:bL prog 24 7=some (cD ei 7,0+1):=kr
theorem RU:bL prog 24 8=some (cD ei 8,0+1):=kr
theorem RD:bL prog 24 9=some (cD ei 9,0+1):=kr
theorem QV:bL prog 24 10=some (cD ei 10,0+1):=kr
theorem jR (d:Nat) (e:Bool) (k:aC a n ((d,.raw (.bool e))::E) L (wpList P b Q rest)) (h:aC a n ((d,.raw (.bool e))::E) L (wpList P b Q rest)→aC a n E L (wpList P b Q (o0::o1::o2::o3::o4::o5::rest))):aC a n E L (wpList P b Q (o0::o1::o2::o3::o4::o5::rest)):=h k
theorem Gr (d:Nat) (e:Bool) (k:bS a n ((d,.raw (.bool e))::E) (wpQuiet P b C c rest)) (h:bS a n ((d,.raw (.bool e))::E) (wpQuiet P b C c rest)→bS a n E (wpQuiet P b C c (o0::o1::o2::o3::o4::o5::rest))):bS a n E (wpQuiet P b C c (o0::o1::o2::o3::o4::o5::rest)):=h k
theorem OK:bL prog 29 0=some (cD gz 0,0+1):=kr
theorem gC:KT prog 2 (aR .i64):=kq
theorem vK:bL prog 29 1=some (cD gz 1,1+1):=kr
theorem gB:KT prog 27 aP:=kq
theorem pJ:bL prog 27 0=some (cD dS 0,0+1):=kr
theorem kM:bL prog 27 1=some (cD dS 1,0+1):=kr
theorem vG:KT prog 25 (bE bi):=kq
theorem xJ:(prog.info? 64).map (·.size)=some (Kd.n bi):=kr
theorem yE:KT prog 64 bi:=kq
theorem zK:ZT prog 64 bi (⟨0,[]⟩:aE):=zq
theorem qD:(prog.info? 64).map (·.size)=some (Kd.n bi):=kr
theorem kK:bL prog 64 1=some (cD iV 1,0+1):=kr
theorem gT:KT prog 48 (bE (bC 16 (aR .u8))):=kq
theorem tM:(prog.info? 57).map (·.size)=some (Kd.n (bC 16 (aR .u8))):=kr
theorem c7:KT prog 57 (bC 16 (aR .u8)):=kq
theorem vJ:ZT prog 57 (bC 16 (aR .u8)) (List.replicate 16 (0:Int)):=zq
theorem kD:(prog.info? 57).map (·.size)=some (Kd.n (bC 16 (aR .u8))):=kr
theorem uN:KT prog 5 (aR .u8):=kq
theorem oK:zJ prog 57 (bC 16 (aR .u8)):=NM yM U5 uN
theorem gR:bL prog 64 0=some (cD iV 0,0+1):=kr
theorem E6 (d:Nat) (e:Bool) (k:aC a n ((d,.raw (.bool e))::E) L (wpList P b Q rest)) (h:aC a n ((d,.raw (.bool e))::E) L (wpList P b Q rest)→aC a n E L (wpList P b Q (o0::o1::o2::o3::o4::o5::o6::o7::o8::o9::QA::rest))):aC a n E L (wpList P b Q (o0::o1::o2::o3::o4::o5::o6::o7::o8::o9::QA::rest)):=h k
theorem DK (d:Nat) (e:Bool) (k:bS a n ((d,.raw (.bool e))::E) (wpQuiet P b C c rest)) (h:bS a n ((d,.raw (.bool e))::E) (wpQuiet P b C c rest)→bS a n E (wpQuiet P b C c (o0::o1::o2::o3::o4::o5::o6::o7::o8::o9::QA::rest))):bS a n E (wpQuiet P b C c (o0::o1::o2::o3::o4::o5::o6::o7::o8::o9::QA::rest)):=h k
theorem jS (d:Nat) (e:Bool) (k:aC a n ((d,.raw (.bool e))::E) L (wpList P b Q rest)) (h:aC a n ((d,.raw (.bool e))::E) L (wpList P b Q rest)→aC a n E L (wpList P b Q (o0::o1::o2::o3::o4::rest))):aC a n E L (wpList P b Q (o0::o1::o2::o3::o4::rest)):=h k
theorem E7 (d:Nat) (e:Bool) (k:bS a n ((d,.raw (.bool e))::E) (wpQuiet P b C c rest)) (h:bS a n ((d,.raw (.bool e))::E) (wpQuiet P b C c rest)→bS a n E (wpQuiet P b C c (o0::o1::o2::o3::o4::rest))):bS a n E (wpQuiet P b C c (o0::o1::o2::o3::o4::rest)):=h k
theorem Gs (d:Nat) (e:Bool) (k:aC a n ((d,.raw (.bool e))::E) L (wpList P b Q rest)) (h:aC a n ((d,.raw (.bool e))::E) L (wpList P b Q rest)→aC a n E L (wpList P b Q (o0::o1::o2::o3::o4::o5::o6::o7::o8::o9::QA::SY::Tc::Sl::Q5::rest))):aC a n E L (wpList P b Q (o0::o1::o2::o3::o4::o5::o6::o7::o8::o9::QA::SY::Tc::Sl::Q5::rest)):=h k
theorem DL (d:Nat) (e:Bool) (k:bS a n ((d,.raw (.bool e))::E) (wpQuiet P b C c rest)) (h:bS a n ((d,.raw (.bool e))::E) (wpQuiet P b C c rest)→bS a n E (wpQuiet P b C c (o0::o1::o2::o3::o4::o5::o6::o7::o8::o9::QA::SY::Tc::Sl::Q5::rest))):bS a n E (wpQuiet P b C c (o0::o1::o2::o3::o4::o5::o6::o7::o8::o9::QA::SY::Tc::Sl::Q5::rest)):=h k
theorem qz (d:Nat) (e:Bool) (k:aC a n ((d,.raw (.bool e))::E) L (wpList P b Q rest)) (h:aC a n ((d,.raw (.bool e))::E) L (wpList P b Q rest)→aC a n E L (wpList P b Q (o0::o1::o2::o3::o4::o5::o6::o7::rest))):aC a n E L (wpList P b Q (o0::o1::o2::o3::o4::o5::o6::o7::rest)):=h k
theorem E8 (d:Nat) (e:Bool) (k:bS a n ((d,.raw (.bool e))::E) (wpQuiet P b C c rest)) (h:bS a n ((d,.raw (.bool e))::E) (wpQuiet P b C c rest)→bS a n E (wpQuiet P b C c (o0::o1::o2::o3::o4::o5::o6::o7::rest))):bS a n E (wpQuiet P b C c (o0::o1::o2::o3::o4::o5::o6::o7::rest)):=h k
theorem gD:(prog.info? 5).map (·.size)=some (Kd.n (aR .u8)):=kr
theorem Th:Extern.findNext Tryz.f191=none:=kr
theorem S3:Extern.find Tryz.f191=some Extern.BytealgCompare.compare:=kr
theorem SK:Tryz.f191.body.isNone=true:=kr
theorem SA : (Tryz.f191.name == "runtime.NumGoroutine") = false := kr
theorem eV (d:Nat) (e:Bool) (k:aC a n ((d,.raw (.bool e))::E) L (wpList P b Q rest)) (h:aC a n ((d,.raw (.bool e))::E) L (wpList P b Q rest)→aC a n E L (wpList P b Q (o0::o1::o2::rest))):aC a n E L (wpList P b Q (o0::o1::o2::rest)):=h k
theorem Gt (d:Nat) (e:Bool) (k:bS a n ((d,.raw (.bool e))::E) (wpQuiet P b C c rest)) (h:bS a n ((d,.raw (.bool e))::E) (wpQuiet P b C c rest)→bS a n E (wpQuiet P b C c (o0::o1::o2::rest))):bS a n E (wpQuiet P b C c (o0::o1::o2::rest)):=h k
theorem F1 (d:Nat) (e:Bool) (k:aC a n ((d,.raw (.bool e))::E) L (wpList P b Q rest)) (h:aC a n ((d,.raw (.bool e))::E) L (wpList P b Q rest)→aC a n E L (wpList P b Q (o0::o1::o2::o3::o4::o5::o6::o7::o8::rest))):aC a n E L (wpList P b Q (o0::o1::o2::o3::o4::o5::o6::o7::o8::rest)):=h k
theorem Gu (d:Nat) (e:Bool) (k:bS a n ((d,.raw (.bool e))::E) (wpQuiet P b C c rest)) (h:bS a n ((d,.raw (.bool e))::E) (wpQuiet P b C c rest)→bS a n E (wpQuiet P b C c (o0::o1::o2::o3::o4::o5::o6::o7::o8::rest))):bS a n E (wpQuiet P b C c (o0::o1::o2::o3::o4::o5::o6::o7::o8::rest)):=h k
theorem pE:KT prog 69 cd:=kq
theorem K_:BT prog 27 dS (⟨0,[]⟩:aA):=bq
theorem mI:(prog.info? 69).map (·.size)=some (Kd.n cd):=kr
theorem kG:(prog.info? 27).map (·.size)=some (Kd.n aP):=kr
theorem Qe:BT prog 161 j7 (⟨0,0⟩:bf):=bq
theorem qp:BT prog 173 eb (⟨(.slice none 0 0),0,0,0,(⟨0,0,0⟩:aD),(⟨0,0⟩:bf),0,0⟩:aY):=bq
theorem pZ:bL prog 173 6=some (9,0+1):=kr
theorem fp:mF eb 6 ⟨aR .i64,aY.err⟩ (λx y=>{x with err:=y}):=uq
theorem B_:KT prog 36 (aR .i64):=kq
theorem Sm:Sw prog 273 10 (aR .i64) (List.replicate 10 (0:Int)):=TR
theorem jM:bL prog 173 2=some (2,0+1):=kr
theorem cR:mF eb 2 ⟨aR .i64,aY.stage⟩ (λx y=>{x with stage:=y}):=uq
theorem kB:KT prog 3 (aR .i64):=kq
theorem lv:bL prog 173 0=some (0,0+1):=kr
theorem dn:mF eb 0 ⟨dB,aY.field⟩ (λx y=>{x with field:=y}):=uq
theorem uL:KT prog 22 dB:=kq
theorem Qw:(prog.info? 22).map (·.size)=some (Kd.n dB):=kr
theorem qa:bL prog 173 1=some (1,0+1):=kr
theorem fq:mF eb 1 ⟨aR .i64,aY.at_⟩ (λx y=>{x with at_:=y}):=uq
theorem dE:(prog.info? 3).map (·.size)=some (Kd.n (aR .i64)):=kr
theorem PJ:ET prog 22 (bE (aR .u8)) []:=OL
theorem zC:AT prog 22 (bE (aR .u8)) [] 24:=aq
theorem yv:bL prog 173 5=some (7,1+1):=kr
theorem jT:mF eb 5 ⟨dX,aY.sum⟩ (λx y=>{x with sum:=y}):=uq
theorem P9:KT prog 161 dX:=kq
theorem Sb:bL prog 161 1=some (cD j7 1,0+1):=kr
theorem I_:KT prog 159 (aR .u32):=kq
theorem Q_:bL prog 161 0=some (cD j7 0,0+1):=kr
theorem SR:ZT prog 161 dX (⟨0,0⟩:bf):=zq
theorem yw:bL prog 161 0=some (0,0+1):=kr
theorem mf:mF j7 0 ⟨aR .u32,bf.a⟩ (λx y=>{x with a:=y}):=uq
theorem gN:KT prog 159 (aR .u32):=kq
theorem ez:(prog.info? 159).map (·.size)=some (Kd.n (aR .u32)):=kr
theorem Ci:bL prog 161 1=some (1,0+1):=kr
theorem oO:mF j7 1 ⟨aR .u32,bf.b⟩ (λx y=>{x with b:=y}):=uq
theorem Rq:KT prog 161 dX:=kq
theorem Qx:(prog.info? 161).map (·.size)=some (Kd.n dX):=kr
abbrev UI:ByteArray:=⟨#[67,72,82,78]⟩
theorem yx:dK (.raw (.string UI)) ml [67,72,82,78]:=UJ kr
theorem cv:(prog.info? 5).map (·.size)=some (Kd.n (aR .u8)):=kr
theorem qJ:KT prog 5 (aR .u8):=kq
theorem ru:bL prog 173 4=some (4,2+1):=kr
theorem sK:bL prog 46 2=some (2,0+1):=kr
theorem gf:mF eb 4 ⟨cj,aY.header⟩ (λx y=>{x with header:=y}):=uq
theorem gw:mF fw 2 ⟨aR .i64,aD.Left⟩ (λx y=>{x with Left:=y}):=uq
theorem rv:bL prog 173 3=some (3,0+1):=kr
theorem gg:mF eb 3 ⟨aR .i64,aY.left⟩ (λx y=>{x with left:=y}):=uq
theorem F2:bL prog 46 0=some (0,0+1):=kr
theorem uu:mF fw 0 ⟨aR .i64,aD.Round⟩ (λx y=>{x with Round:=y}):=uq
theorem TK:(prog.info? 2).map (·.size)=some (Kd.n (aR .i64)):=kr
theorem F3:bL prog 46 1=some (1,0+1):=kr
theorem uv:mF fw 1 ⟨aR .i64,aD.Epoch⟩ (λx y=>{x with Epoch:=y}):=uq
theorem Tw:(prog.info? 36).map (·.size)=some (Kd.n (aR .i64)):=kr
theorem yy:bL prog 173 7=some (10,0+1):=kr
theorem jU:mF eb 7 ⟨aR .i64,aY.place⟩ (λx y=>{x with place:=y}):=uq
theorem SW:KT prog 46 cj:=kq
theorem Qy:BT prog 69 j6 (⟨(⟨0,0,0⟩:aD),[]⟩:bg):=bq
theorem dG:bL prog 69 0=some (cD j6 0,2+1):=kr
theorem m0:bL prog 46 2=some (cD fw 2,0+1):=kr
theorem gS:bL prog 46 0=some (cD fw 0,0+1):=kr
theorem eC:bL prog 46 1=some (cD fw 1,0+1):=kr
theorem ft:BT prog 27 ee (⟨0,(.slice none 0 0)⟩:aB):=bq
theorem OO:ZT prog 27 aZ (⟨0,(.slice none 0 0)⟩:aB):=zq
theorem pH:(prog.info? 27).map (·.size)=some (Kd.n aZ):=kr
theorem F4:bL prog 27 0=some (0,0+1):=kr
theorem qF:mF ee 0 ⟨aR .i64,aB.Newest⟩ (λx y=>{x with Newest:=y}):=uq
theorem Qu:KT prog 2 (aR .i64):=kq
theorem du:bL prog 27 1=some (1,0+1):=kr
theorem ba:mF ee 1 ⟨dB,aB.Epochs⟩ (λx y=>{x with Epochs:=y}):=uq
theorem gG:KT prog 25 dB:=kq
theorem z7:ET prog 57 (bC 16 (aR .u8)) (List.replicate 16 (0:Int)):=OL
theorem uH:AT prog 57 (bC 16 (aR .u8)) (List.replicate 16 (0:Int)) 16:=aq
theorem Vj:BT prog 64 iV (⟨0,[]⟩:aE):=bq
theorem S2:ET prog 64 bi (⟨0,[]⟩:aE):=OL
theorem TF:AT prog 64 bi (⟨0,[]⟩:aE) 32:=aq
theorem mM:(prog.info? 25).map (·.size)=some (Kd.n dB):=kr
theorem UL:ZT prog 29 bU (⟨0,(⟨0,[]⟩:aA)⟩:aO):=zq
theorem nb:bL prog 29 1=some (1,1+1):=kr
theorem oP:mF gz 1 ⟨aP,aO.Window⟩ (λx y=>{x with Window:=y}):=uq
theorem oo:mF dS 1 ⟨bE bi,aA.Epochs⟩ (λx y=>{x with Epochs:=y}):=uq
theorem Qz:KT prog 25 (bE bi):=kq
theorem dR:mF eQ 1 ⟨aZ,aJ.Window⟩ (λx y=>{x with Window:=y}):=uq
theorem lQ:bL prog 64 1=some (1,0+1):=kr
theorem ib:mF iV 1 ⟨bE (bC 16 (aR .u8)),aE.Tags⟩ (λx y=>{x with Tags:=y}):=uq
theorem Qc:KT prog 48 (bE (bC 16 (aR .u8))):=kq
theorem Ps:(prog.info? 48).map (·.size)=some (Kd.n (bE (bC 16 (aR .u8)))):=kr
theorem SQ:(prog.info? 29).map (·.size)=some (Kd.n bU):=kr
theorem Tu:BT prog 38 eW (⟨[],(⟨0,(⟨0,[]⟩:aA)⟩:aO),(⟨0,0,0,0,0⟩:aK),0,0⟩:aV):=bq
theorem pL:(prog.info? 38).map (·.size)=some (Kd.n br):=kr
theorem tR:KT prog 38 br:=kq
theorem Pq:KT prog 27 aP:=kq
theorem Q0:ZT prog 35 cO (⟨0,0,0,0,0⟩:aK):=zq
theorem RC:BT prog 35 fW (⟨0,0,0,0,0⟩:aK):=bq
theorem G_:(prog.info? 35).map (·.size)=some (Kd.n cO):=kr
theorem Oy:KT prog 35 cO:=kq
theorem q6:ZT prog 199 (bC 32 (aR .u8)) (List.replicate 32 (0:Int)):=zq
theorem Ql:ZT prog 257 cU (⟨(List.replicate 8 (0:Int)),(List.replicate 64 (0:Int)),0⟩:bp):=zq
theorem Td:ZT prog 255 (bC 64 (aR .u8)) (List.replicate 64 (0:Int)):=zq
theorem S9:BT prog 257 j8 (⟨(List.replicate 8 (0:Int)),(List.replicate 64 (0:Int)),0⟩:bp):=bq
theorem Oq:(prog.info? 257).map (·.size)=some (Kd.n cU):=kr
theorem Pr:KT prog 257 cU:=kq
theorem qb:bL prog 257 2=some (72,0+1):=kr
theorem ic:mF j8 2 ⟨aR .u64,bp.n⟩ (λx y=>{x with n:=y}):=uq
theorem x5:KT prog 158 (aR .u64):=kq
theorem P0:ZT prog 254 (bC 8 (aR .u32)) (List.replicate 8 (0:Int)):=zq
theorem P3:Sw prog 254 8 (aR .u32) (List.replicate 8 (0:Int)):=TR
theorem wB:(prog.info? 254).map (·.size)=some (Kd.n (bC 8 (aR .u32))):=kr
theorem PB:KT prog 254 (bC 8 (aR .u32)):=kq
theorem yz:bL prog 257 0=some (0,7+1):=kr
theorem mg:mF j8 0 ⟨bC 8 (aR .u32),bp.words⟩ (λx y=>{x with words:=y}):=uq
theorem Cj:bL prog 257 1=some (8,63+1):=kr
theorem oQ:mF j8 1 ⟨bC 64 (aR .u8),bp.tail⟩ (λx y=>{x with tail:=y}):=uq
theorem RL:(prog.info? 158).map (·.size)=some (Kd.n (aR .u64)):=kr
theorem Qk:KT prog 254 (bC 8 (aR .u32)):=kq
theorem RY:KT prog 255 (bC 64 (aR .u8)):=kq
theorem Tm:ZT prog 307 (bC 64 (aR .u32)) (List.replicate 64 (0:Int)):=zq
def rN:YY:=[1116352408,1899447441,3049323471,3921009573,961987163,1508970993,2453635748,2870763221,3624381080,310598401,607225278,1426881987,1925078388,2162078206,2614888103,3248222580,3835390401,4022224774,264347078,604807628,770255983,1249150122,1555081692,1996064986,2554220882,2821834349,2952996808,3210313671,3336571891,3584528711,113926993,338241895,666307205,773529912,1294757372,1396182291,1695183700,1986661051,2177026350,2456956037,2730485921,2820302411,3259730800,3345764771,3516065817,3600352804,4094571909,275423344,430227734,506948616,659060556,883997877,958139571,1322822218,1537002063,1747873779,1955562222,2024104815,2227730452,2361852424,2428436474,2756734187,3204031479,3329325298]
theorem P1:(prog.info? 159).map (·.size)=some (Kd.n (aR .u32)):=kr
theorem RX:KT prog 257 cU:=kq
theorem R0:bL prog 257 0=some (cD j8 0,7+1):=kr
theorem x7:KT prog 199 (bC 32 (aR .u8)):=kq
theorem nK:(prog.info? 199).map (·.size)=some (Kd.n (bC 32 (aR .u8))):=kr
theorem eD:bL prog 69 1=some (cD j6 1,0+1):=kr
theorem nE:KT prog 67 (bE (bE (aR .u8))):=kq
theorem zG:(prog.info? 22).map (·.size)=some (Kd.n (bE (aR .u8))):=kr
theorem Pa:ZT prog 86 cy (⟨[],(List.replicate 16 (0:Int))⟩:bd):=zq
theorem O5:BT prog 86 kh (⟨[],(List.replicate 16 (0:Int))⟩:bd):=bq
theorem oD:(prog.info? 86).map (·.size)=some (Kd.n cy):=kr
theorem xH:KT prog 86 cy:=kq
theorem PW:ZT prog 201 ge (⟨(List.replicate 16 (0:Int)),(List.replicate 32 (0:Int)),(List.replicate 32 (0:Int))⟩:ci):=zq
theorem Qq:BT prog 201 iO (⟨(List.replicate 16 (0:Int)),(List.replicate 32 (0:Int)),(List.replicate 32 (0:Int))⟩:ci):=bq
theorem xN:(prog.info? 201).map (·.size)=some (Kd.n ge):=kr
theorem OY:KT prog 201 ge:=kq
theorem Sn:bL prog 201 1=some (cD iO 1,31+1):=kr
theorem Po:bL prog 201 0=some (cD iO 0,15+1):=kr
theorem tD:Sw prog 57 16 (aR .u8) (List.replicate 16 (0:Int)):=TR
theorem Qg:ZT prog 248 bu (⟨(List.replicate 11 (List.replicate 16 (0:Int)))⟩:bT):=zq
theorem SJ:ZT prog 280 (bC 44 (bC 4 (aR .u8))) (List.replicate 44 (List.replicate 4 (0:Int))):=zq
theorem nJ:(prog.info? 279).map (·.size)=some (Kd.n (bC 4 (aR .u8))):=kr
theorem Qs:KT prog 279 (bC 4 (aR .u8)):=kq
theorem J_:ZT prog 279 (bC 4 (aR .u8)) (List.replicate 4 (0:Int)):=zq
theorem Qf:Sw prog 279 4 (aR .u8) (List.replicate 4 (0:Int)):=TR
theorem TH:KT prog 280 (bC 44 (bC 4 (aR .u8))):=kq
theorem OP:KT prog 279 (bC 4 (aR .u8)):=kq
theorem E9:bL prog 248 0=some (0,175+1):=kr
theorem lV:mF kY 0 ⟨bC 11 (bC 16 (aR .u8)),bT.keys⟩ (λx y=>{x with keys:=y}):=uq
theorem kE:(prog.info? 245).map (·.size)=some (Kd.n (bC 16 (aR .u8))):=kr
theorem Pp:KT prog 248 bu:=kq
theorem Qt:(prog.info? 248).map (·.size)=some (Kd.n bu):=kr
theorem Tr:ZT prog 251 (bC 256 (aR .u8)) (List.replicate 256 (0:Int)):=zq
theorem Pn:KT prog 57 (bC 16 (aR .u8)):=kq
theorem Oi:bL prog 248 0=some (cD kY 0,175+1):=kr
theorem Pt:(prog.info? 245).map (·.size)=some (Kd.n (bC 16 (aR .u8))):=kr
theorem mD:KT prog 245 (bC 16 (aR .u8)):=kq
theorem wD:ZT prog 245 (bC 16 (aR .u8)) (List.replicate 16 (0:Int)):=zq
theorem vE:KT prog 245 (bC 16 (aR .u8)):=kq
theorem QK:bL prog 201 2=some (cD iO 2,31+1):=kr
theorem DM:bL prog 86 0=some (0,0+1):=kr
theorem ot:mF kh 0 ⟨bE (aR .u8),bd.Cell⟩ (λx y=>{x with Cell:=y}):=uq
theorem nB:(prog.info? 22).map (·.size)=some (Kd.n (bE (aR .u8))):=kr
theorem DN:bL prog 35 1=some (1,0+1):=kr
theorem ou:mF fW 1 ⟨aR .i64,aK.Malformed⟩ (λx y=>{x with Malformed:=y}):=uq
theorem wC:bL prog 86 1=some (cD kh 1,15+1):=kr
theorem Ra:ZV prog 3 (aR .i64) (0:Int):=⟨(.int .i64 0:Value),kr,λF=>oe.2 J⟩
theorem Ui:tI prog 5 (aR .u8) 1:=tI.int U5
theorem OH:tI prog 57 (bC 16 (aR .u8)) 2:=tI.arr Ui uN yM
theorem Ox:prog.eqGuardType prog.depth 57=false:=kr
theorem DO:bL prog 35 2=some (2,0+1):=kr
theorem ow:mF fW 2 ⟨aR .i64,aK.Replays⟩ (λx y=>{x with Replays:=y}):=uq
theorem Uy:ET prog 86 cy (⟨[],(List.replicate 16 (0:Int))⟩:bd):=OL
theorem Ua:AT prog 86 cy (⟨[],(List.replicate 16 (0:Int))⟩:bd) 40:=aq
theorem TP:ZT prog 78 fM (⟨[],[],[]⟩:bV):=zq
theorem TJ:BT prog 78 j5 (⟨[],[],[]⟩:bV):=bq
theorem OZ:(prog.info? 78).map (·.size)=some (Kd.n fM):=kr
theorem QT:KT prog 78 fM:=kq
theorem rx:BT prog 78 me (⟨[],[],(.slice none 0 0)⟩:dh):=bq
theorem SX:ZT prog 78 gX (⟨[],[],(.slice none 0 0)⟩:dh):=zq
theorem RS:(prog.info? 78).map (·.size)=some (Kd.n gX):=kr
theorem Bw:bL prog 78 2=some (2,0+1):=kr
theorem mS:mF me 2 ⟨dB,dh.Chunks⟩ (λx y=>{x with Chunks:=y}):=uq
theorem xO:KT prog 67 dB:=kq
theorem Tz:(prog.info? 67).map (·.size)=some (Kd.n dB):=kr
theorem Ri:bL prog 78 0=some (cD j5 0,0+1):=kr
theorem wE:AT prog 3 (aR .i64) (0:Int) 8:=aq
theorem Ow:ET prog 3 (aR .i64) (0:Int):=OL
theorem uJ:(prog.info? 3).map (·.size)=some (Kd.n (aR .i64)):=kr
theorem RF:(prog.info? 86).map (·.size)=some (Kd.n cy):=kr
theorem R3:bL prog 86 0=some (cD kh 0,0+1):=kr
theorem Se:ZT prog 177 ia (⟨(⟨[],[],[]⟩:bV),[],(.slice none 0 0)⟩:cp):=zq
theorem yF:bL prog 177 1=some (3,0+1):=kr
theorem jV:mF iP 1 ⟨bE (aR .i64),cp.sizes⟩ (λx y=>{x with sizes:=y}):=uq
theorem Rj:(prog.info? 47).map (·.size)=some (Kd.n (bE (aR .i64))):=kr
theorem fR:BT prog 177 iP (⟨(⟨[],[],[]⟩:bV),[],(.slice none 0 0)⟩:cp):=bq
theorem v8:(prog.info? 177).map (·.size)=some (Kd.n ia):=kr
theorem F_:KT prog 177 j9:=kq
theorem yP:bL prog 177 0=some (0,2+1):=kr
theorem jW:mF iP 0 ⟨fM,cp.parts⟩ (λx y=>{x with parts:=y}):=uq
theorem F5:bL prog 78 1=some (1,0+1):=kr
theorem uV:mF j5 1 ⟨bE (aR .u8),bV.Braid⟩ (λx y=>{x with Braid:=y}):=uq
theorem Sj:KT prog 22 (bE (aR .u8)):=kq
theorem Tf:ZT prog 47 dB (.slice none 0 0):=zq
theorem nC:(prog.info? 47).map (·.size)=some (Kd.n dB):=kr
theorem H_:ZT prog 302 de (⟨[],0⟩:bQ):=zq
theorem OW:BT prog 302 mR (⟨[],0⟩:bQ):=bq
theorem mB:(prog.info? 302).map (·.size)=some (Kd.n de):=kr
theorem od:KT prog 302 de:=kq
theorem O7:KT prog 302 de:=kq
theorem Ph:bL prog 302 0=some (cD mR 0,0+1):=kr
theorem T_:KT prog 9 ml:=kq
theorem xM:bL prog 302 1=some (cD mR 1,0+1):=kr
theorem qK:KT prog 47 dB:=kq
theorem Qn:KT prog 47 (bE (aR .i64)):=kq
theorem Ck:bL prog 177 2=some (4,0+1):=kr
theorem mh:mF iP 2 ⟨dB,cp.starts⟩ (λx y=>{x with starts:=y}):=uq
theorem uW:mF j5 2 ⟨bE (bE (aR .u8)),bV.Chunks⟩ (λx y=>{x with Chunks:=y}):=uq
theorem R_:KT prog 67 (bE (bE (aR .u8))):=kq
theorem T4:ET prog 47 (bE (aR .i64)) []:=OL
theorem U8:AT prog 47 (bE (aR .i64)) [] 24:=aq
abbrev oR:YY→Value→Value:=λ_ q=>q
abbrev oT:YY→YY:=λx=>x
theorem CW:cN dB:=Lp
theorem xe:cN (aR .i64):=Kl
theorem CX:∀F x q,(bE (aR .i64)).val F q (oT x)→∀cs,dB.rd F cs (oR x q)→(bE (aR .i64)).rd F cs x:=λF x q a=>f7 a
theorem Tv:AT prog 47 dB (.slice none 0 0) 24:=aq
theorem SH:(prog.info? 47).map (·.size)=some (Kd.n (bE (aR .i64))):=kr
theorem nG:KT prog 47 (bE (aR .i64)):=kq
theorem RB:KT prog 177 ia:=kq
theorem SS:ZT prog 177 j9 (⟨(⟨[],[],[]⟩:bV),[],[]⟩:cQ):=zq
theorem QM:(prog.info? 177).map (·.size)=some (Kd.n j9):=kr
theorem R6:bL prog 177 1=some (cD fX 1,0+1):=kr
theorem QN:bL prog 177 2=some (cD fX 2,0+1):=kr
theorem VL:AT prog 4 mx false 1:=aq
theorem PL:(prog.info? 4).map (·.size)=some (Kd.n mx):=kr
theorem S6:KT prog 4 mx:=kq
theorem yQ:bL prog 64 0=some (0,0+1):=kr
theorem kl:mF iV 0 ⟨aR .i64,aE.Number⟩ (λx y=>{x with Number:=y}):=uq
abbrev aS:aE→Value→aN:=λx q=>⟨x.Number,q⟩
abbrev aX:aE→List YY:=λx=>x.Tags
theorem bz:cN (aI):=LH Kl Lp
theorem bw:cN (bC 16 (aR .u8)):=cN.arr Kl
theorem jw:∀F x q,(bE (bC 16 (aR .u8))).val F q (aX x)→∀cs,(aI).rd F cs (aS x q)→(bi).rd F cs x:=λF x q a cs h=>lU (fs':=ki) (fs:=iV) (x':=aS x q) (x:=x) ⟨λ_ h=>h,f7 a,trivial⟩ h
theorem cT:BT prog 64 ki (⟨0,(.slice none 0 0)⟩:aN):=bq
theorem qC:ET prog 64 aI (⟨0,(.slice none 0 0)⟩:aN):=OL
theorem pK:AT prog 64 aI (⟨0,(.slice none 0 0)⟩:aN) 32:=aq
theorem nM:(prog.info? 64).map (·.size)=some (Kd.n aI):=kr
theorem Pz:KT prog 64 aI:=kq
theorem Py:ZT prog 64 aI (⟨0,(.slice none 0 0)⟩:aN):=zq
theorem fI:mF ki 1 ⟨dB,aN.Tags⟩ (λx y=>{x with Tags:=y}):=uq
theorem nD:KT prog 48 dB:=kq
theorem Tj:BT prog 46 fw (⟨0,0,0⟩:aD):=bq
theorem yO:KT prog 46 cj:=kq
theorem Bx:bL prog 35 3=some (3,0+1):=kr
theorem lR:mF fW 3 ⟨aR .i64,aK.Noise⟩ (λx y=>{x with Noise:=y}):=uq
theorem DP:bL prog 35 4=some (4,0+1):=kr
theorem ox:mF fW 4 ⟨aR .i64,aK.Out⟩ (λx y=>{x with Out:=y}):=uq
theorem PC:bL prog 38 3=some (cD eW 3,0+1):=kr
theorem Q6:KT prog 36 (aR .i64):=kq
theorem RK:BT prog 50 ey (⟨(⟨0,0,0⟩:aD),0,[],[]⟩:aG):=bq
theorem OD:(prog.info? 50).map (·.size)=some (Kd.n aQ):=kr
theorem q5:KT prog 50 aQ:=kq
theorem Pm:bL prog 38 2=some (cD eW 2,4+1):=kr
theorem SG:bL prog 35 3=some (cD fW 3,0+1):=kr
theorem iX:BT prog 50 el (⟨(⟨0,0,0⟩:aD),0,(.slice none 0 0),(.slice none 0 0)⟩:aL):=bq
theorem E_:ZT prog 50 be (⟨(⟨0,0,0⟩:aD),0,(.slice none 0 0),(.slice none 0 0)⟩:aL):=zq
theorem tG:(prog.info? 50).map (·.size)=some (Kd.n be):=kr
theorem DQ:bL prog 50 0=some (0,2+1):=kr
theorem lC:mF el 0 ⟨cj,aL.Header⟩ (λx y=>{x with Header:=y}):=uq
theorem qO:bL prog 50 3=some (5,0+1):=kr
theorem eR:mF el 3 ⟨dB,aL.Nonces⟩ (λx y=>{x with Nonces:=y}):=uq
theorem kZ:bL prog 50 2=some (4,0+1):=kr
theorem cz:mF el 2 ⟨dB,aL.From⟩ (λx y=>{x with From:=y}):=uq
theorem Pi:bL prog 38 0=some (cD eW 0,0+1):=kr
abbrev Um:ByteArray:=⟨#[67,72,82,78,1,1,0,0,0,0,0,0,0,0,0,7,0,0,0,0,0,0,0,1,26,177,1,54]⟩
theorem Fa:dK (.raw (.string Um)) ml [67,72,82,78,1,1,0,0,0,0,0,0,0,0,0,7,0,0,0,0,0,0,0,1,26,177,1,54]:=UJ kr
theorem qI:bL prog 50 1=some (cD ey 1,0+1):=kr
theorem fd:bL prog 50 0=some (cD ey 0,2+1):=kr
theorem Ut:ZT prog 46 cj (⟨0,0,0⟩:aD):=zq
theorem TI:(prog.info? 46).map (·.size)=some (Kd.n cj):=kr
theorem gE:bL prog 50 2=some (cD ey 2,0+1):=kr
theorem kC:bL prog 50 3=some (cD ey 3,0+1):=kr
theorem F6 (d:Nat) (e:Bool) (k:aC a n ((d,.raw (.bool e))::E) L (wpList P b Q rest)) (h:aC a n ((d,.raw (.bool e))::E) L (wpList P b Q rest)→aC a n E L (wpList P b Q (o0::o1::o2::o3::o4::o5::o6::rest))):aC a n E L (wpList P b Q (o0::o1::o2::o3::o4::o5::o6::rest)):=h k
theorem Gv (d:Nat) (e:Bool) (k:bS a n ((d,.raw (.bool e))::E) (wpQuiet P b C c rest)) (h:bS a n ((d,.raw (.bool e))::E) (wpQuiet P b C c rest)→bS a n E (wpQuiet P b C c (o0::o1::o2::o3::o4::o5::o6::rest))):bS a n E (wpQuiet P b C c (o0::o1::o2::o3::o4::o5::o6::rest)):=h k
theorem mT:BT prog 69 kj (⟨(⟨0,0,0⟩:aD),(.slice none 0 0)⟩:bZ):=bq
theorem Rm:ZT prog 69 cP (⟨(⟨0,0,0⟩:aD),(.slice none 0 0)⟩:bZ):=zq
theorem P8:(prog.info? 69).map (·.size)=some (Kd.n cP):=kr
theorem DR:bL prog 69 0=some (0,2+1):=kr
theorem mU:mF kj 0 ⟨cj,bZ.Header⟩ (λx y=>{x with Header:=y}):=uq
theorem sL:bL prog 69 1=some (3,0+1):=kr
theorem fJ:mF kj 1 ⟨dB,bZ.Cells⟩ (λx y=>{x with Cells:=y}):=uq
abbrev T6:ByteArray:=⟨#[67,72,82,78,1,2,0,0,0,0,0,0,0,0,0,7,0,0,0,0,0,0,0,1,26,196,1,55]⟩
theorem Fb:dK (.raw (.string T6)) ml [67,72,82,78,1,2,0,0,0,0,0,0,0,0,0,7,0,0,0,0,0,0,0,1,26,196,1,55]:=UJ kr
theorem pN:bL prog 56 1=some (cD gZ 1,5+1):=kr
theorem tH:bL prog 56 2=some (cD gZ 2,0+1):=kr
theorem PA:bL prog 44 2=some (cD hZ 2,0+1):=kr
theorem uw:mF ey 2 ⟨bE (aR .i64),aG.From⟩ (λx y=>{x with From:=y}):=uq
theorem ux:mF ey 3 ⟨bE (bC 16 (aR .u8)),aG.Nonces⟩ (λx y=>{x with Nonces:=y}):=uq
theorem PY:bL prog 56 0=some (cD gZ 0,10+1):=kr
theorem S1:tI prog 2 (aR .i64) 1:=tI.int U2
theorem PD:tI prog 3 (aR .i64) 1:=tI.int U3
instance beq_Api_Header:BEq aD:=⟨λa b=>a.Round==b.Round&&(a.Epoch==b.Epoch&&(a.Left==b.Left&&(true)))⟩
theorem S8:tI prog 46 (cj) 2:=tI.st underlying46 kr ⟨by decide,rfl,gC,_,Md S1 J,_,λ_ _=>rfl,⟨by decide,rfl,gC,_,Md S1 J,_,λ_ _=>rfl,⟨by decide,rfl,dv,_,Md PD J,_,λ_ _=>rfl,λ_ _=>rfl⟩⟩⟩
theorem Sy:prog.eqGuardType prog.depth 46=false:=kr
theorem Pd:bL prog 44 0=some (cD hZ 0,10+1):=kr
theorem O9:bL prog 44 1=some (cD hZ 1,2+1):=kr
theorem Pc:bL prog 44 3=some (cD hZ 3,0+1):=kr
theorem x8:ZT prog 38 aU (⟨(.slice none 0 0),(⟨0,(⟨0,(.slice none 0 0)⟩:aB)⟩:aJ),(⟨0,0,0,0,0⟩:aK),0,0⟩:aH):=zq
theorem SZ:ZT prog 29 cS (⟨0,(⟨0,(.slice none 0 0)⟩:aB)⟩:aJ):=zq
theorem Rp:KT prog 29 cS:=kq
theorem RH:(prog.info? 29).map (·.size)=some (Kd.n cS):=kr
theorem jq:BT prog 38 di (⟨(.slice none 0 0),(⟨0,(⟨0,(.slice none 0 0)⟩:aB)⟩:aJ),(⟨0,0,0,0,0⟩:aK),0,0⟩:aH):=bq
theorem kJ:(prog.info? 38).map (·.size)=some (Kd.n aU):=kr
theorem oJ:KT prog 38 aU:=kq
theorem qN:KT prog 27 aZ:=kq
theorem qq:BT prog 29 eQ (⟨0,(⟨0,(.slice none 0 0)⟩:aB)⟩:aJ):=bq
theorem F7:bL prog 38 3=some (9,0+1):=kr
theorem mP:mF di 3 ⟨aR .i64,aH.Err⟩ (λx y=>{x with Err:=y}):=uq
theorem Pu:KT prog 50 be:=kq
theorem F8:bL prog 38 2=some (4,4+1):=kr
theorem mQ:mF di 2 ⟨cO,aH.Report⟩ (λx y=>{x with Report:=y}):=uq
theorem Qd:bL prog 38 1=some (cD eW 1,2+1):=kr
instance beq_Api_Report:BEq aK:=⟨λa b=>a.In==b.In&&(a.Malformed==b.Malformed&&(a.Replays==b.Replays&&(a.Noise==b.Noise&&(a.Out==b.Out&&(true)))))⟩
theorem TB:tI prog 35 (cO) 2:=tI.st underlying35 kr ⟨by decide,rfl,dv,_,Md PD J,_,λ_ _=>rfl,⟨by decide,rfl,dv,_,Md PD J,_,λ_ _=>rfl,⟨by decide,rfl,dv,_,Md PD J,_,λ_ _=>rfl,⟨by decide,rfl,dv,_,Md PD J,_,λ_ _=>rfl,⟨by decide,rfl,dv,_,Md PD J,_,λ_ _=>rfl,λ_ _=>rfl⟩⟩⟩⟩⟩
theorem TL:prog.eqGuardType prog.depth 35=false:=kr
theorem PU:bL prog 38 4=some (cD eW 4,0+1):=kr
theorem Qo:(prog.info? 48).map (·.size)=some (Kd.n dB):=kr
theorem DS:bL prog 38 0=some (0,0+1):=kr
theorem jr:mF di 0 ⟨dB,aH.Out⟩ (λx y=>{x with Out:=y}):=uq
theorem Cm (d:Nat) (e:Bool) (k:aC a n ((d,.raw (.bool e))::E) L (wpList P b Q rest)) (h:aC a n ((d,.raw (.bool e))::E) L (wpList P b Q rest)→aC a n E L (wpList P b Q (o0::o1::o2::o3::o4::o5::o6::o7::o8::o9::rest))):aC a n E L (wpList P b Q (o0::o1::o2::o3::o4::o5::o6::o7::o8::o9::rest)):=h k
theorem Gl (d:Nat) (e:Bool) (k:bS a n ((d,.raw (.bool e))::E) (wpQuiet P b C c rest)) (h:bS a n ((d,.raw (.bool e))::E) (wpQuiet P b C c rest)→bS a n E (wpQuiet P b C c (o0::o1::o2::o3::o4::o5::o6::o7::o8::o9::rest))):bS a n E (wpQuiet P b C c (o0::o1::o2::o3::o4::o5::o6::o7::o8::o9::rest)):=h k
theorem VE:qG prog 5 (aR .u8) (dD .u8) dL:=Ce U5
theorem Ta:prog.cellsOf 5=1:=kr
theorem QY:qG prog 22 (bE (aR .u8)) (PO (dD .u8)) (zM dL):=CM (K:=aR .u8) bJ Ta (by decide) VE
theorem PG:qG prog 3 (aR .i64) (dD .i64) dL:=Ce U3
theorem Pw:prog.cellsOf 22=1:=kr
theorem vM:prog.cellsOf 3=1:=kr
theorem PZ:prog.cellsOf 24=11:=kr
def nO (x:aW):Prop:=(PO (dD .u8)) x.Master∧(dD .i64) x.Left∧(dD .i64) x.Span∧(dD .i64) x.Room∧(dD .i64) x.Num∧(dD .i64) x.Den∧(dD .i64) x.Noise∧(dD .i64) x.Chunks∧(dD .i64) x.Workers∧(dD .i64) x.Cap∧(dD .i64) x.Shards∧True
def lY (x:aW):Nat:=(zM dL) x.Master+(dL x.Left+(dL x.Span+(dL x.Room+(dL x.Num+(dL x.Den+(dL x.Noise+(dL x.Chunks+(dL x.Workers+(dL x.Cap+(dL x.Shards+0))))))))))
theorem SO:qG prog 24 bj nO lY:=by intro H enc W _ B BA hB fuel cs x h;obtain⟨hl,ds,hx,hf0⟩:=m6 underlying24 h;obtain⟨d0,ds0,e0,⟨n0,p0,t0⟩,hf1⟩:=Ks hf0;subst e0;obtain⟨y0,r0,g0,b0⟩:=QY hB t0;obtain⟨d1,ds1,e1,⟨n1,p1,t1⟩,hf2⟩:=Ks hf1;subst e1;obtain⟨y1,r1,g1,b1⟩:=PG hB t1;obtain⟨d2,ds2,e2,⟨n2,p2,t2⟩,hf3⟩:=Ks hf2;subst e2;obtain⟨y2,r2,g2,b2⟩:=PG hB t2;obtain⟨d3,ds3,e3,⟨n3,p3,t3⟩,hf4⟩:=Ks hf3;subst e3;obtain⟨y3,r3,g3,b3⟩:=PG hB t3;obtain⟨d4,ds4,e4,⟨n4,p4,t4⟩,hf5⟩:=Ks hf4;subst e4;obtain⟨y4,r4,g4,b4⟩:=PG hB t4;obtain⟨d5,ds5,e5,⟨n5,p5,t5⟩,hf6⟩:=Ks hf5;subst e5;obtain⟨y5,r5,g5,b5⟩:=PG hB t5;obtain⟨d6,ds6,e6,⟨n6,p6,t6⟩,hf7⟩:=Ks hf6;subst e6;obtain⟨y6,r6,g6,b6⟩:=PG hB t6;obtain⟨d7,ds7,e7,⟨n7,p7,t7⟩,hf8⟩:=Ks hf7;subst e7;obtain⟨y7,r7,g7,b7⟩:=PG hB t7;obtain⟨d8,ds8,e8,⟨n8,p8,t8⟩,hf9⟩:=Ks hf8;subst e8;obtain⟨y8,r8,g8,b8⟩:=PG hB t8;obtain⟨d9,ds9,e9,⟨n9,p9,t9⟩,hf10⟩:=Ks hf9;subst e9;obtain⟨y9,r9,g9,b9⟩:=PG hB t9;obtain⟨d10,ds10,e10,⟨n10,p10,t10⟩,hf11⟩:=Ks hf10;subst e10;obtain⟨y10,r10,g10,b10⟩:=PG hB t10;have hnil:=LG hf11;subst hnil;refine⟨⟨y0,y1,y2,y3,y4,y5,y6,y7,y8,y9,y10⟩,kg (cW Pw r0 (cW vM r1 (cW vM r2 (cW vM r3 (cW vM r4 (cW vM r5 (cW vM r6 (cW vM r7 (cW vM r8 (cW vM r9 (cW vM r10 (m7 (hl.trans PZ) J)))))))))))),⟨g0,g1,g2,g3,g4,g5,g6,g7,g8,g9,g10,trivial⟩,?_⟩;have:=hB.agg [d0,d1,d2,d3,d4,d5,d6,d7,d8,d9,d10];rw[hx];dsimp only at b0 b1 b2 b3 b4 b5 b6 b7 b8 b9 b10;simp only[hB.cons,hB.nil] at this;simp only[lY];omega
theorem Tg:qG prog 2 (aR .i64) (dD .i64) dL:=Ce U2
theorem Rv:prog.cellsOf 57=16:=kr
theorem Vh:qG prog 57 (bC 16 (aR .u8)) (PM 16 (dD .u8)) (x2 dL):=Gh (K:=aR .u8) yM Rv Ta VE
theorem Ts:qG prog 48 (bE (bC 16 (aR .u8))) (PO (PM 16 (dD .u8))) (zM (x2 dL)):=CM (K:=bC 16 (aR .u8)) hJ Rv (by decide) Vh
theorem Qi:prog.cellsOf 2=1:=kr
theorem Rl:prog.cellsOf 48=1:=kr
theorem Rw:prog.cellsOf 64=2:=kr
def mV (x:aE):Prop:=(dD .i64) x.Number∧(PO (PM 16 (dD .u8))) x.Tags∧True
def iB (x:aE):Nat:=dL x.Number+((zM (x2 dL)) x.Tags+0)
theorem T9:qG prog 64 bi mV iB:=by intro H enc W _ B BA hB fuel cs x h;obtain⟨hl,ds,hx,hf0⟩:=m6 underlying64 h;obtain⟨d0,ds0,e0,⟨n0,p0,t0⟩,hf1⟩:=Ks hf0;subst e0;obtain⟨y0,r0,g0,b0⟩:=Tg hB t0;obtain⟨d1,ds1,e1,⟨n1,p1,t1⟩,hf2⟩:=Ks hf1;subst e1;obtain⟨y1,r1,g1,b1⟩:=Ts hB t1;have hnil:=LG hf2;subst hnil;refine⟨⟨y0,y1⟩,kg (cW Qi r0 (cW Rl r1 (m7 (hl.trans Rw) J))),⟨g0,g1,trivial⟩,?_⟩;have:=hB.agg [d0,d1];rw[hx];dsimp only at b0 b1;simp only[hB.cons,hB.nil] at this;simp only[iB];omega
theorem Ul:qG prog 25 (bE bi) (PO mV) (zM iB):=CM (K:=bi) g_ Rw (by decide) T9
theorem Ty:prog.cellsOf 25=1:=kr
theorem Rt:prog.cellsOf 27=2:=kr
def nP (x:aA):Prop:=(dD .i64) x.Newest∧(PO mV) x.Epochs∧True
def jh (x:aA):Nat:=dL x.Newest+((zM iB) x.Epochs+0)
theorem U7:qG prog 27 aP nP jh:=by intro H enc W _ B BA hB fuel cs x h;obtain⟨hl,ds,hx,hf0⟩:=m6 underlying27 h;obtain⟨d0,ds0,e0,⟨n0,p0,t0⟩,hf1⟩:=Ks hf0;subst e0;obtain⟨y0,r0,g0,b0⟩:=Tg hB t0;obtain⟨d1,ds1,e1,⟨n1,p1,t1⟩,hf2⟩:=Ks hf1;subst e1;obtain⟨y1,r1,g1,b1⟩:=Ul hB t1;have hnil:=LG hf2;subst hnil;refine⟨⟨y0,y1⟩,kg (cW Qi r0 (cW Ty r1 (m7 (hl.trans Rt) J))),⟨g0,g1,trivial⟩,?_⟩;have:=hB.agg [d0,d1];rw[hx];dsimp only at b0 b1;simp only[hB.cons,hB.nil] at this;simp only[jh];omega
theorem Rn:prog.cellsOf 29=3:=kr
def tO (x:aO):Prop:=(dD .i64) x.Next∧nP x.Window∧True
def mW (x:aO):Nat:=dL x.Next+(jh x.Window+0)
theorem U0:qG prog 29 bU tO mW:=by intro H enc W _ B BA hB fuel cs x h;obtain⟨hl,ds,hx,hf0⟩:=m6 underlying29 h;obtain⟨d0,ds0,e0,⟨n0,p0,t0⟩,hf1⟩:=Ks hf0;subst e0;obtain⟨y0,r0,g0,b0⟩:=Tg hB t0;obtain⟨d1,ds1,e1,⟨n1,p1,t1⟩,hf2⟩:=Ks hf1;subst e1;obtain⟨y1,r1,g1,b1⟩:=U7 hB t1;have hnil:=LG hf2;subst hnil;refine⟨⟨y0,y1⟩,kg (cW Qi r0 (cW Rt r1 (m7 (hl.trans Rn) J))),⟨g0,g1,trivial⟩,?_⟩;have:=hB.agg [d0,d1];rw[hx];dsimp only at b0 b1;simp only[hB.cons,hB.nil] at this;simp only[mW];omega
theorem SB:prog.cellsOf 44=16:=kr
def la (x:dF):Prop:=nO x.C∧tO x.S∧(PO (dD .u8)) x.Raw∧(PO (dD .u8)) x.Tape∧True
def ig (x:dF):Nat:=lY x.C+(mW x.S+((zM dL) x.Raw+((zM dL) x.Tape+0)))
theorem UE:qG prog 44 cl la ig:=by intro H enc W _ B BA hB fuel cs x h;obtain⟨hl,ds,hx,hf0⟩:=m6 underlying44 h;obtain⟨d0,ds0,e0,⟨n0,p0,t0⟩,hf1⟩:=Ks hf0;subst e0;obtain⟨y0,r0,g0,b0⟩:=SO hB t0;obtain⟨d1,ds1,e1,⟨n1,p1,t1⟩,hf2⟩:=Ks hf1;subst e1;obtain⟨y1,r1,g1,b1⟩:=U0 hB t1;obtain⟨d2,ds2,e2,⟨n2,p2,t2⟩,hf3⟩:=Ks hf2;subst e2;obtain⟨y2,r2,g2,b2⟩:=QY hB t2;obtain⟨d3,ds3,e3,⟨n3,p3,t3⟩,hf4⟩:=Ks hf3;subst e3;obtain⟨y3,r3,g3,b3⟩:=QY hB t3;have hnil:=LG hf4;subst hnil;refine⟨⟨y0,y1,y2,y3⟩,kg (cW PZ r0 (cW Rn r1 (cW Pw r2 (cW Pw r3 (m7 (hl.trans SB) J))))),⟨g0,g1,g2,g3,trivial⟩,?_⟩;have:=hB.agg [d0,d1,d2,d3];rw[hx];dsimp only at b0 b1 b2 b3;simp only[hB.cons,hB.nil] at this;simp only[ig];omega
theorem Re:prog.cellsOf 46=3:=kr
def ry (x:aD):Prop:=(dD .i64) x.Round∧(dD .i64) x.Epoch∧(dD .i64) x.Left∧True
def nQ (x:aD):Nat:=dL x.Round+(dL x.Epoch+(dL x.Left+0))
theorem Vk:qG prog 46 cj ry nQ:=by intro H enc W _ B BA hB fuel cs x h;obtain⟨hl,ds,hx,hf0⟩:=m6 underlying46 h;obtain⟨d0,ds0,e0,⟨n0,p0,t0⟩,hf1⟩:=Ks hf0;subst e0;obtain⟨y0,r0,g0,b0⟩:=Tg hB t0;obtain⟨d1,ds1,e1,⟨n1,p1,t1⟩,hf2⟩:=Ks hf1;subst e1;obtain⟨y1,r1,g1,b1⟩:=Tg hB t1;obtain⟨d2,ds2,e2,⟨n2,p2,t2⟩,hf3⟩:=Ks hf2;subst e2;obtain⟨y2,r2,g2,b2⟩:=PG hB t2;have hnil:=LG hf3;subst hnil;refine⟨⟨y0,y1,y2⟩,kg (cW Qi r0 (cW Qi r1 (cW vM r2 (m7 (hl.trans Re) J)))),⟨g0,g1,g2,trivial⟩,?_⟩;have:=hB.agg [d0,d1,d2];rw[hx];dsimp only at b0 b1 b2;simp only[hB.cons,hB.nil] at this;simp only[nQ];omega
theorem T8:qG prog 47 (bE (aR .i64)) (PO (dD .i64)) (zM dL):=CM (K:=aR .i64) cG vM (by decide) PG
theorem SU:prog.cellsOf 47=1:=kr
theorem Ru:prog.cellsOf 50=6:=kr
def rz (x:aG):Prop:=ry x.Header∧(dD .i64) x.Count∧(PO (dD .i64)) x.From∧(PO (PM 16 (dD .u8))) x.Nonces∧True
def nR (x:aG):Nat:=nQ x.Header+(dL x.Count+((zM dL) x.From+((zM (x2 dL)) x.Nonces+0)))
theorem UK:qG prog 50 aQ rz nR:=by intro H enc W _ B BA hB fuel cs x h;obtain⟨hl,ds,hx,hf0⟩:=m6 underlying50 h;obtain⟨d0,ds0,e0,⟨n0,p0,t0⟩,hf1⟩:=Ks hf0;subst e0;obtain⟨y0,r0,g0,b0⟩:=Vk hB t0;obtain⟨d1,ds1,e1,⟨n1,p1,t1⟩,hf2⟩:=Ks hf1;subst e1;obtain⟨y1,r1,g1,b1⟩:=PG hB t1;obtain⟨d2,ds2,e2,⟨n2,p2,t2⟩,hf3⟩:=Ks hf2;subst e2;obtain⟨y2,r2,g2,b2⟩:=T8 hB t2;obtain⟨d3,ds3,e3,⟨n3,p3,t3⟩,hf4⟩:=Ks hf3;subst e3;obtain⟨y3,r3,g3,b3⟩:=Ts hB t3;have hnil:=LG hf4;subst hnil;refine⟨⟨y0,y1,y2,y3⟩,kg (cW Re r0 (cW vM r1 (cW SU r2 (cW Rl r3 (m7 (hl.trans Ru) J))))),⟨g0,g1,g2,g3,trivial⟩,?_⟩;have:=hB.agg [d0,d1,d2,d3];rw[hx];dsimp only at b0 b1 b2 b3;simp only[hB.cons,hB.nil] at this;simp only[nR];omega
theorem To:prog.cellsOf 56=18:=kr
def js (x:dg):Prop:=nO x.C∧rz x.M∧(PO (dD .u8)) x.Raw∧True
def fS (x:dg):Nat:=lY x.C+(nR x.M+((zM dL) x.Raw+0))
theorem UF:qG prog 56 gd js fS:=by intro H enc W _ B BA hB fuel cs x h;obtain⟨hl,ds,hx,hf0⟩:=m6 underlying56 h;obtain⟨d0,ds0,e0,⟨n0,p0,t0⟩,hf1⟩:=Ks hf0;subst e0;obtain⟨y0,r0,g0,b0⟩:=SO hB t0;obtain⟨d1,ds1,e1,⟨n1,p1,t1⟩,hf2⟩:=Ks hf1;subst e1;obtain⟨y1,r1,g1,b1⟩:=UK hB t1;obtain⟨d2,ds2,e2,⟨n2,p2,t2⟩,hf3⟩:=Ks hf2;subst e2;obtain⟨y2,r2,g2,b2⟩:=QY hB t2;have hnil:=LG hf3;subst hnil;refine⟨⟨y0,y1,y2⟩,kg (cW PZ r0 (cW Ru r1 (cW Pw r2 (m7 (hl.trans To) J)))),⟨g0,g1,g2,trivial⟩,?_⟩;have:=hB.agg [d0,d1,d2];rw[hx];dsimp only at b0 b1 b2;simp only[hB.cons,hB.nil] at this;simp only[fS];omega
theorem UM:KT prog 44 cl:=kq
theorem UZ:KT prog 56 gd:=kq
abbrev K0:=(bE (bC 16 (aR .u8)))
abbrev K1:=(bE (bE (aR .u8)))
abbrev K2:=(bC 16 (aR .u8))
abbrev K3:=(bC 8 (aR .u32))
abbrev K4:=(bC 32 (aR .u8))
abbrev K5:=(bC 4 (aR .u8))
abbrev K6:=(bE (aR .i64))
abbrev K7:=(bE (aR .u8))
abbrev K8:=(aR .i64)
abbrev K9:=(aR .u32)
abbrev bK:=(aR .u8)
end Go.Proofs.YtlkjdchmeihhkaaGreatDoor

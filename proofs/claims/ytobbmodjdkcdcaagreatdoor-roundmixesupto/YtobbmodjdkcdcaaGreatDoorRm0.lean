import Derived.Test.YtobbmodjdkcdcaaGreatDoorSimD
import Derived.Test.YtobbmodjdkcdcaaGreatDoorRows
import Derived.Test.YtobbmodjdkcdcaaGreatDoorLawSrt
set_option autoImplicit true
set_option relaxedAutoImplicit true
set_option linter.all false
set_option maxRecDepth 20000
namespace Go.Proofs.YtobbmodjdkcdcaaGreatDoor
open Go Go.Sim Go.ChangeShapes Go.WideShapes Go.ChangeAt Go.RowKit Go.Proofs.Tryz
abbrev YY:=List Int
theorem J:a=a:=rfl
def U2:=underlying2
def U3:=underlying3
def U5:=underlying5
def U9:=underlying9
def ld:=underlying22
def PE:=underlying25
def Ql:=underlying44
def TR:=underlying59
def Qv:=underlying64
def E_:=underlying68
def WB:=underlying71
def Pq:=underlying85
def W6:=underlying106
def T9:=underlying142
def SH:=underlying155
def Rb:=underlying164
def Qq:=underlying179
def Sh:=underlying240
def Vj:=underlying241
def QW:=underlying249
def Sj:=underlying250
def Tl:=underlying251
def RL:=underlying279
def Ry:=underlying283
def U1:=underlying284
def QX:=underlying319
variable [Fu]
structure aE where
 Number:Int
 Tags:List YY
abbrev jQ:List (Pp aE):=[⟨cv .i64,aE.Number⟩,⟨j_ (h_ 16 (cv .u8)),aE.Tags⟩]
abbrev aO:Kd aE:=P0 jQ
instance:ZK aO (⟨0,[]⟩:aE):=zs
structure aA where
 Newest:Int
 Epochs:List aE
abbrev dt:List (Pp aA):=[⟨cv .i64,aA.Newest⟩,⟨j_ aO,aA.Epochs⟩]
abbrev aC:Kd aA:=P0 dt
instance:ZK aC (⟨0,[]⟩:aA):=zs
structure bf where
 Noise:YY
 Braid:YY
 Chunks:List YY
abbrev iq:List (Pp bf):=[⟨j_ (cv .u8),bf.Noise⟩,⟨j_ (cv .u8),bf.Braid⟩,⟨j_ (j_ (cv .u8)),bf.Chunks⟩]
abbrev dO:Kd bf:=P0 iq
instance:ZK dO (⟨[],[],[]⟩:bf):=zs
structure aM where
 Next:Int
 Window:aA
abbrev jR:List (Pp aM):=[⟨cv .i64,aM.Next⟩,⟨aC,aM.Window⟩]
abbrev bp:Kd aM:=P0 jR
instance:ZK bp (⟨0,(⟨0,[]⟩:aA)⟩:aM):=zs
structure aP where
 Master:YY
 Left:Int
 Span:Int
 Room:Int
 Num:Int
 Den:Int
 Noise:Int
 Chunks:Int
 Workers:Int
 Cap:Int
 Shards:Int
abbrev dR:List (Pp aP):=[⟨j_ (cv .u8),aP.Master⟩,⟨cv .i64,aP.Left⟩,⟨cv .i64,aP.Span⟩,⟨cv .i64,aP.Room⟩,⟨cv .i64,aP.Num⟩,⟨cv .i64,aP.Den⟩,⟨cv .i64,aP.Noise⟩,⟨cv .i64,aP.Chunks⟩,⟨cv .i64,aP.Workers⟩,⟨cv .i64,aP.Cap⟩,⟨cv .i64,aP.Shards⟩]
abbrev bt:Kd aP:=P0 dR
instance:ZK bt (⟨[],0,0,0,0,0,0,0,0,0,0⟩:aP):=zs
structure dk where
 C:aP
 S:aM
 Raw:YY
 Tape:YY
abbrev i9:List (Pp dk):=[⟨bt,dk.C⟩,⟨bp,dk.S⟩,⟨j_ (cv .u8),dk.Raw⟩,⟨j_ (cv .u8),dk.Tape⟩]
abbrev jA:Kd dk:=P0 i9
structure aI where
 In:Int
 Malformed:Int
 Replays:Int
 Noise:Int
 Out:Int
abbrev kl:List (Pp aI):=[⟨cv .i64,aI.In⟩,⟨cv .i64,aI.Malformed⟩,⟨cv .i64,aI.Replays⟩,⟨cv .i64,aI.Noise⟩,⟨cv .i64,aI.Out⟩]
abbrev bL:Kd aI:=P0 kl
instance:ZK bL (⟨0,0,0,0,0⟩:aI):=zs
structure ba where
 Out:YY
 State:aM
 Report:aI
 Err:Int
 At:Int
abbrev iR:List (Pp ba):=[⟨j_ (cv .u8),ba.Out⟩,⟨bp,ba.State⟩,⟨bL,ba.Report⟩,⟨cv .i64,ba.Err⟩,⟨cv .i64,ba.At⟩]
abbrev cw:Kd ba:=P0 iR
instance:ZK cw (⟨[],(⟨0,(⟨0,[]⟩:aA)⟩:aM),(⟨0,0,0,0,0⟩:aI),0,0⟩:ba):=zs
structure aD where
 Round:Int
 Epoch:Int
 Left:Int
abbrev ir:List (Pp aD):=[⟨cv .i64,aD.Round⟩,⟨cv .i64,aD.Epoch⟩,⟨cv .i64,aD.Left⟩]
abbrev dZ:Kd aD:=P0 ir
instance:ZK dZ (⟨0,0,0⟩:aD):=zs
structure aV where
 Header:aD
 Cells:List YY
abbrev oK:List (Pp aV):=[⟨dZ,aV.Header⟩,⟨j_ (j_ (cv .u8)),aV.Cells⟩]
abbrev cd:Kd aV:=P0 oK
instance:ZK cd (⟨(⟨0,0,0⟩:aD),[]⟩:aV):=zs
structure aN where
 a:Int
 b:Int
abbrev lG:List (Pp aN):=[⟨cv .u32,aN.a⟩,⟨cv .u32,aN.b⟩]
abbrev dP:Kd aN:=P0 lG
instance:ZK dP (⟨0,0⟩:aN):=zs
structure be where
 field:YY
 at_:Int
 stage:Int
 left:Int
 header:aD
 sum:aN
 err:Int
 place:Int
abbrev Ap:List (Pp be):=[⟨j_ (cv .u8),be.field⟩,⟨cv .i64,be.at_⟩,⟨cv .i64,be.stage⟩,⟨cv .i64,be.left⟩,⟨dZ,be.header⟩,⟨dP,be.sum⟩,⟨cv .i64,be.err⟩,⟨cv .i64,be.place⟩]
abbrev GN:Kd be:=P0 Ap
structure aL where
 field:Value
 at_:Int
 stage:Int
 left:Int
 header:aD
 sum:aN
 err:Int
 place:Int
abbrev dQ:List (Pp aL):=[⟨O9,aL.field⟩,⟨cv .i64,aL.at_⟩,⟨cv .i64,aL.stage⟩,⟨cv .i64,aL.left⟩,⟨dZ,aL.header⟩,⟨dP,aL.sum⟩,⟨cv .i64,aL.err⟩,⟨cv .i64,aL.place⟩]
abbrev bZ:Kd aL:=P0 dQ
instance:ZK bZ (⟨(.slice none 0 0),0,0,0,(⟨0,0,0⟩:aD),(⟨0,0⟩:aN),0,0⟩:aL):=zs
structure aK where
 Newest:Int
 Epochs:Value
abbrev fS:List (Pp aK):=[⟨cv .i64,aK.Newest⟩,⟨O9,aK.Epochs⟩]
abbrev bz:Kd aK:=P0 fS
instance:ZK bz (⟨0,(.slice none 0 0)⟩:aK):=zs
structure cy where
 Next:Int
 Window:aK
abbrev km:List (Pp cy):=[⟨cv .i64,cy.Next⟩,⟨bz,cy.Window⟩]
abbrev ij:Kd cy:=P0 km
instance:ZK ij (⟨0,(⟨0,(.slice none 0 0)⟩:aK)⟩:cy):=zs
structure aH where
 Cell:YY
 Replay:YY
abbrev kn:List (Pp aH):=[⟨j_ (cv .u8),aH.Cell⟩,⟨h_ 16 (cv .u8),aH.Replay⟩]
abbrev aU:Kd aH:=P0 kn
instance:ZK aU (⟨[],(List.replicate 16 0)⟩:aH):=zs
structure aZ where
 words:YY
 tail:YY
 n:Int
abbrev lH:List (Pp aZ):=[⟨h_ 8 (cv .u32),aZ.words⟩,⟨h_ 64 (cv .u8),aZ.tail⟩,⟨cv .u64,aZ.n⟩]
abbrev cO:Kd aZ:=P0 lH
instance:ZK cO (⟨(List.replicate 8 0),(List.replicate 64 0),0⟩:aZ):=zs
structure aQ where
 Box:YY
 Mac:YY
 Replay:YY
abbrev fa:List (Pp aQ):=[⟨h_ 16 (cv .u8),aQ.Box⟩,⟨h_ 32 (cv .u8),aQ.Mac⟩,⟨h_ 32 (cv .u8),aQ.Replay⟩]
abbrev cg:Kd aQ:=P0 fa
instance:ZK cg (⟨(List.replicate 16 0),(List.replicate 32 0),(List.replicate 32 0)⟩:aQ):=zs
structure br where
 keys:List YY
abbrev mz:List (Pp br):=[⟨h_ 11 (h_ 16 (cv .u8)),br.keys⟩]
abbrev bd:Kd br:=P0 mz
instance:ZK bd (⟨(List.replicate 11 (List.replicate 16 0))⟩:br):=zs
structure ci where
 Noise:YY
 Braid:YY
 Chunks:Value
abbrev jS:List (Pp ci):=[⟨j_ (cv .u8),ci.Noise⟩,⟨j_ (cv .u8),ci.Braid⟩,⟨O9,ci.Chunks⟩]
abbrev gj:Kd ci:=P0 jS
instance:ZK gj (⟨[],[],(.slice none 0 0)⟩:ci):=zs
structure cz where
 parts:bf
 sizes:YY
 starts:YY
abbrev gg:List (Pp cz):=[⟨dO,cz.parts⟩,⟨j_ (cv .i64),cz.sizes⟩,⟨j_ (cv .i64),cz.starts⟩]
abbrev jT:Kd cz:=P0 gg
instance:ZK jT (⟨(⟨[],[],[]⟩:bf),[],[]⟩:cz):=zs
structure cf where
 parts:bf
 sizes:YY
 starts:Value
abbrev jB:List (Pp cf):=[⟨dO,cf.parts⟩,⟨j_ (cv .i64),cf.sizes⟩,⟨O9,cf.starts⟩]
abbrev jU:Kd cf:=P0 jB
instance:ZK jU (⟨(⟨[],[],[]⟩:bf),[],(.slice none 0 0)⟩:cf):=zs
structure bo where
 bytes:YY
 used:Int
abbrev oO:List (Pp bo):=[⟨QQ,bo.bytes⟩,⟨cv .i64,bo.used⟩]
abbrev cU:Kd bo:=P0 oO
instance:ZK cU (⟨[],0⟩:bo):=zs
structure aX where
 Number:Int
 Tags:Value
abbrev lV:List (Pp aX):=[⟨cv .i64,aX.Number⟩,⟨O9,aX.Tags⟩]
abbrev bi:Kd aX:=P0 lV
instance:ZK bi (⟨0,(.slice none 0 0)⟩:aX):=zs
structure aF where
 Head:Bool
 Header:aD
 Cells:List YY
 Place:Int
 Err:Int
abbrev cr:List (Pp aF):=[⟨oT,aF.Head⟩,⟨dZ,aF.Header⟩,⟨j_ (j_ (cv .u8)),aF.Cells⟩,⟨cv .i64,aF.Place⟩,⟨cv .i64,aF.Err⟩]
abbrev bT:Kd aF:=P0 cr
instance:ZK bT (⟨false,(⟨0,0,0⟩:aD),[],0,0⟩:aF):=zs
structure aS where
 Head:Bool
 Header:aD
 Cells:Value
 Place:Int
 Err:Int
abbrev dS:List (Pp aS):=[⟨oT,aS.Head⟩,⟨dZ,aS.Header⟩,⟨O9,aS.Cells⟩,⟨cv .i64,aS.Place⟩,⟨cv .i64,aS.Err⟩]
abbrev fg:Kd aS:=P0 dS
instance:ZK fg (⟨false,(⟨0,0,0⟩:aD),(.slice none 0 0),0,0⟩:aS):=zs
structure bj where
 sizes:YY
 pattern:YY
 offsets:YY
 own:List YY
abbrev ed:List (Pp bj):=[⟨j_ (cv .i64),bj.sizes⟩,⟨j_ (cv .i64),bj.pattern⟩,⟨j_ (cv .i64),bj.offsets⟩,⟨j_ (j_ (cv .i64)),bj.own⟩]
abbrev df:Kd bj:=P0 ed
instance:ZK df (⟨[],[],[],[]⟩:bj):=zs
structure bK where
 sizes:YY
 pattern:YY
 offsets:YY
 own:Value
abbrev fy:List (Pp bK):=[⟨j_ (cv .i64),bK.sizes⟩,⟨j_ (cv .i64),bK.pattern⟩,⟨j_ (cv .i64),bK.offsets⟩,⟨O9,bK.own⟩]
abbrev kN:Kd bK:=P0 fy
instance:ZK kN (⟨[],[],[],(.slice none 0 0)⟩:bK):=zs
abbrev Yl:ByteArray:=⟨#[67,72,82,78,1,2,0,0,0,0,0,0,0,0,0,7,0,0,0,0,0,0,0,1,26,196,1,55]⟩
theorem Gp:Pe (.raw (.string Yl)) QQ [67,72,82,78,1,2,0,0,0,0,0,0,0,0,0,7,0,0,0,0,0,0,0,1,26,196,1,55]:=YM kr
abbrev Zg:ByteArray:=⟨#[67,72,82,78,1,1,0,0,0,0,0,0,0,0,0,7,0,0,0,0,0,0,0,1,26,177,1,54]⟩
theorem Gq:Pe (.raw (.string Zg)) QQ [67,72,82,78,1,1,0,0,0,0,0,0,0,0,0,7,0,0,0,0,0,0,0,1,26,177,1,54]:=YM kr
theorem ZT24:ZT prog 24 bt (⟨[],0,0,0,0,0,0,0,0,0,0⟩:aP):=zq
theorem PR:AT prog 5 (cv .u8) (0:Int) 1:=aq
theorem Zk:BT prog 24 dR (⟨[],0,0,0,0,0,0,0,0,0,0⟩:aP):=bq
theorem X4:(prog.info? 24).map (·.size)=some (Kd.n bt):=kr
theorem R4:KT prog 24 bt:=kq
theorem WR:BT prog 29 jR (⟨0,(⟨0,[]⟩:aA)⟩:aM):=bq
theorem UC:ZT prog 37 cw (⟨[],(⟨0,(⟨0,[]⟩:aA)⟩:aM),(⟨0,0,0,0,0⟩:aI),0,0⟩:ba):=zq
theorem PK:KT prog 29 bp:=kq
theorem T5:ZT prog 46 cd (⟨(⟨0,0,0⟩:aD),[]⟩:aV):=zq
theorem TB:ZT prog 27 aC (⟨0,[]⟩:aA):=zq
theorem Uw:tR prog 24 0=some (OT dR 0,0+1):=kr
theorem P8:KT prog 22 (j_ (cv .u8)):=kq
theorem Qy:tR prog 24 1=some (OT dR 1,0+1):=kr
theorem O7:KT prog 3 (cv .i64):=kq
theorem cN (d:Nat) (e:Bool) (k:bx F0 n ((d,.raw (.bool e))::E) L (wpList P ops Q rest)) (h:bx F0 n ((d,.raw (.bool e))::E) L (wpList P ops Q rest)→bx F0 n E L (wpList P ops Q (o0::o1::o2::o3::rest))):bx F0 n E L (wpList P ops Q (o0::o1::o2::o3::rest)):=h k
theorem Hc (d:Nat) (e:Bool) (k:bg F0 n ((d,.raw (.bool e))::E) (wpQuiet P ops C Qa rest)) (h:bg F0 n ((d,.raw (.bool e))::E) (wpQuiet P ops C Qa rest)→bg F0 n E (wpQuiet P ops C Qa (o0::o1::o2::o3::rest))):bg F0 n E (wpQuiet P ops C Qa (o0::o1::o2::o3::rest)):=h k
theorem R5:tR prog 24 2=some (OT dR 2,0+1):=kr
theorem RM:tR prog 24 3=some (OT dR 3,0+1):=kr
theorem RR:tR prog 24 5=some (OT dR 5,0+1):=kr
theorem Td:tR prog 24 4=some (OT dR 4,0+1):=kr
theorem Tg:tR prog 24 6=some (OT dR 6,0+1):=kr
theorem RU:tR prog 24 7=some (OT dR 7,0+1):=kr
theorem VD:tR prog 24 8=some (OT dR 8,0+1):=kr
theorem UP:tR prog 24 9=some (OT dR 9,0+1):=kr
theorem Ug:tR prog 24 10=some (OT dR 10,0+1):=kr
theorem js (d:Nat) (e:Bool) (k:bx F0 n ((d,.raw (.bool e))::E) L (wpList P ops Q rest)) (h:bx F0 n ((d,.raw (.bool e))::E) L (wpList P ops Q rest)→bx F0 n E L (wpList P ops Q (o0::o1::o2::o3::o4::o5::rest))):bx F0 n E L (wpList P ops Q (o0::o1::o2::o3::o4::o5::rest)):=h k
theorem Hd (d:Nat) (e:Bool) (k:bg F0 n ((d,.raw (.bool e))::E) (wpQuiet P ops C Qa rest)) (h:bg F0 n ((d,.raw (.bool e))::E) (wpQuiet P ops C Qa rest)→bg F0 n E (wpQuiet P ops C Qa (o0::o1::o2::o3::o4::o5::rest))):bg F0 n E (wpQuiet P ops C Qa (o0::o1::o2::o3::o4::o5::rest)):=h k
theorem Rn:tR prog 29 0=some (OT jR 0,0+1):=kr
theorem Pr:KT prog 2 (cv .i64):=kq
theorem Qx:tR prog 29 1=some (OT jR 1,1+1):=kr
theorem Pb:KT prog 27 aC:=kq
theorem PG:tR prog 27 0=some (OT dt 0,0+1):=kr
theorem OY:tR prog 27 1=some (OT dt 1,0+1):=kr
theorem PN:KT prog 25 (j_ aO):=kq
theorem PQ:(prog.info? 152).map (·.size)=some (Kd.n aO):=kr
theorem QG:KT prog 152 aO:=kq
theorem QS:ZT prog 152 aO (⟨0,[]⟩:aE):=zq
theorem PZ:(prog.info? 152).map (·.size)=some (Kd.n aO):=kr
theorem O8:tR prog 152 1=some (OT jQ 1,0+1):=kr
theorem Qc:KT prog 85 (j_ (h_ 16 (cv .u8))):=kq
theorem Qs:(prog.info? 64).map (·.size)=some (Kd.n (h_ 16 (cv .u8))):=kr
theorem J_:KT prog 64 (h_ 16 (cv .u8)):=kq
theorem Qe:ZT prog 64 (h_ 16 (cv .u8)) (List.replicate 16 (0:Int)):=zq
theorem Pk:(prog.info? 64).map (·.size)=some (Kd.n (h_ 16 (cv .u8))):=kr
theorem PS:KT prog 5 (cv .u8):=kq
theorem SC:S7 prog 64 (h_ 16 (cv .u8)):=Om Qv U5 PS
theorem O2:tR prog 152 0=some (OT jQ 0,0+1):=kr
theorem He (d:Nat) (e:Bool) (k:bx F0 n ((d,.raw (.bool e))::E) L (wpList P ops Q rest)) (h:bx F0 n ((d,.raw (.bool e))::E) L (wpList P ops Q rest)→bx F0 n E L (wpList P ops Q (o0::o1::o2::o3::o4::o5::o6::o7::o8::o9::Tw::rest))):bx F0 n E L (wpList P ops Q (o0::o1::o2::o3::o4::o5::o6::o7::o8::o9::Tw::rest)):=h k
theorem xi (d:Nat) (e:Bool) (k:bg F0 n ((d,.raw (.bool e))::E) (wpQuiet P ops C Qa rest)) (h:bg F0 n ((d,.raw (.bool e))::E) (wpQuiet P ops C Qa rest)→bg F0 n E (wpQuiet P ops C Qa (o0::o1::o2::o3::o4::o5::o6::o7::o8::o9::Tw::rest))):bg F0 n E (wpQuiet P ops C Qa (o0::o1::o2::o3::o4::o5::o6::o7::o8::o9::Tw::rest)):=h k
theorem mF (d:Nat) (e:Bool) (k:bx F0 n ((d,.raw (.bool e))::E) L (wpList P ops Q rest)) (h:bx F0 n ((d,.raw (.bool e))::E) L (wpList P ops Q rest)→bx F0 n E L (wpList P ops Q (o0::o1::o2::o3::o4::rest))):bx F0 n E L (wpList P ops Q (o0::o1::o2::o3::o4::rest)):=h k
theorem Gr (d:Nat) (e:Bool) (k:bg F0 n ((d,.raw (.bool e))::E) (wpQuiet P ops C Qa rest)) (h:bg F0 n ((d,.raw (.bool e))::E) (wpQuiet P ops C Qa rest)→bg F0 n E (wpQuiet P ops C Qa (o0::o1::o2::o3::o4::rest))):bg F0 n E (wpQuiet P ops C Qa (o0::o1::o2::o3::o4::rest)):=h k
theorem Hf (d:Nat) (e:Bool) (k:bx F0 n ((d,.raw (.bool e))::E) L (wpList P ops Q rest)) (h:bx F0 n ((d,.raw (.bool e))::E) L (wpList P ops Q rest)→bx F0 n E L (wpList P ops Q (o0::o1::o2::o3::o4::o5::o6::o7::o8::o9::Tw::UD::UH::TW::TA::rest))):bx F0 n E L (wpList P ops Q (o0::o1::o2::o3::o4::o5::o6::o7::o8::o9::Tw::UD::UH::TW::TA::rest)):=h k
theorem Fy (d:Nat) (e:Bool) (k:bg F0 n ((d,.raw (.bool e))::E) (wpQuiet P ops C Qa rest)) (h:bg F0 n ((d,.raw (.bool e))::E) (wpQuiet P ops C Qa rest)→bg F0 n E (wpQuiet P ops C Qa (o0::o1::o2::o3::o4::o5::o6::o7::o8::o9::Tw::UD::UH::TW::TA::rest))):bg F0 n E (wpQuiet P ops C Qa (o0::o1::o2::o3::o4::o5::o6::o7::o8::o9::Tw::UD::UH::TW::TA::rest)):=h k
theorem Aq (d:Nat) (e:Bool) (k:bx F0 n ((d,.raw (.bool e))::E) L (wpList P ops Q rest)) (h:bx F0 n ((d,.raw (.bool e))::E) L (wpList P ops Q rest)→bx F0 n E L (wpList P ops Q (o0::o1::o2::o3::o4::o5::o6::o7::rest))):bx F0 n E L (wpList P ops Q (o0::o1::o2::o3::o4::o5::o6::o7::rest)):=h k
theorem Gs (d:Nat) (e:Bool) (k:bg F0 n ((d,.raw (.bool e))::E) (wpQuiet P ops C Qa rest)) (h:bg F0 n ((d,.raw (.bool e))::E) (wpQuiet P ops C Qa rest)→bg F0 n E (wpQuiet P ops C Qa (o0::o1::o2::o3::o4::o5::o6::o7::rest))):bg F0 n E (wpQuiet P ops C Qa (o0::o1::o2::o3::o4::o5::o6::o7::rest)):=h k
theorem O0:(prog.info? 5).map (·.size)=some (Kd.n (cv .u8)):=kr
theorem X8:Extern.findNext Tryz.f230=none:=kr
theorem Yg:Extern.find Tryz.f230=some Extern.BytealgCompare.compare:=kr
theorem Yk:Tryz.f230.body.isNone=true:=kr
theorem XO : (Tryz.f230.name == "runtime.NumGoroutine") = false := kr
theorem cn (d:Nat) (e:Bool) (k:bx F0 n ((d,.raw (.bool e))::E) L (wpList P ops Q rest)) (h:bx F0 n ((d,.raw (.bool e))::E) L (wpList P ops Q rest)→bx F0 n E L (wpList P ops Q (o0::o1::o2::rest))):bx F0 n E L (wpList P ops Q (o0::o1::o2::rest)):=h k
theorem Hg (d:Nat) (e:Bool) (k:bg F0 n ((d,.raw (.bool e))::E) (wpQuiet P ops C Qa rest)) (h:bg F0 n ((d,.raw (.bool e))::E) (wpQuiet P ops C Qa rest)→bg F0 n E (wpQuiet P ops C Qa (o0::o1::o2::rest))):bg F0 n E (wpQuiet P ops C Qa (o0::o1::o2::rest)):=h k
theorem xj (d:Nat) (e:Bool) (k:bx F0 n ((d,.raw (.bool e))::E) L (wpList P ops Q rest)) (h:bx F0 n ((d,.raw (.bool e))::E) L (wpList P ops Q rest)→bx F0 n E L (wpList P ops Q (o0::o1::o2::o3::o4::o5::o6::o7::o8::rest))):bx F0 n E L (wpList P ops Q (o0::o1::o2::o3::o4::o5::o6::o7::o8::rest)):=h k
theorem Hh (d:Nat) (e:Bool) (k:bg F0 n ((d,.raw (.bool e))::E) (wpQuiet P ops C Qa rest)) (h:bg F0 n ((d,.raw (.bool e))::E) (wpQuiet P ops C Qa rest)→bg F0 n E (wpQuiet P ops C Qa (o0::o1::o2::o3::o4::o5::o6::o7::o8::rest))):bg F0 n E (wpQuiet P ops C Qa (o0::o1::o2::o3::o4::o5::o6::o7::o8::rest)):=h k
theorem Q3:KT prog 46 cd:=kq
theorem RD:BT prog 27 dt (⟨0,[]⟩:aA):=bq
theorem QL:(prog.info? 46).map (·.size)=some (Kd.n cd):=kr
theorem Py:(prog.info? 27).map (·.size)=some (Kd.n aC):=kr
theorem Wq:BT prog 144 lG (⟨0,0⟩:aN):=bq
theorem sa:BT prog 146 dQ (⟨(.slice none 0 0),0,0,0,(⟨0,0,0⟩:aD),(⟨0,0⟩:aN),0,0⟩:aL):=bq
theorem rU:tR prog 146 6=some (9,0+1):=kr
theorem fi:P6 dQ 6 ⟨cv .i64,aL.err⟩ (λx y=>{x with err:=y}):=uq
theorem Tt:KT prog 35 (cv .i64):=kq
theorem Xa:Wt prog 273 10 (cv .i64) (List.replicate 10 (0:Int)):=XC
theorem lj:tR prog 146 2=some (2,0+1):=kr
theorem cL:P6 dQ 2 ⟨cv .i64,aL.stage⟩ (λx y=>{x with stage:=y}):=uq
theorem Ps:KT prog 3 (cv .i64):=kq
theorem mQ:tR prog 146 0=some (0,0+1):=kr
theorem cZ:P6 dQ 0 ⟨O9,aL.field⟩ (λx y=>{x with field:=y}):=uq
theorem So:KT prog 22 O9:=kq
theorem U_:(prog.info? 22).map (·.size)=some (Kd.n O9):=kr
theorem rV:tR prog 146 1=some (1,0+1):=kr
theorem fj:P6 dQ 1 ⟨cv .i64,aL.at_⟩ (λx y=>{x with at_:=y}):=uq
theorem M_:(prog.info? 3).map (·.size)=some (Kd.n (cv .i64)):=kr
theorem Rt:ET prog 5 (cv .u8) (0:Int):=TF
theorem SG:ET prog 22 (j_ (cv .u8)) []:=TF
theorem RH:AT prog 22 (j_ (cv .u8)) [] 24:=aq
theorem Ar:tR prog 146 5=some (7,1+1):=kr
theorem lv:P6 dQ 5 ⟨dP,aL.sum⟩ (λx y=>{x with sum:=y}):=uq
theorem VA:KT prog 144 dP:=kq
theorem W4:tR prog 144 1=some (OT lG 1,0+1):=kr
theorem Rj:KT prog 142 (cv .u32):=kq
theorem V4:tR prog 144 0=some (OT lG 0,0+1):=kr
theorem XQ:ZT prog 144 dP (⟨0,0⟩:aN):=zq
theorem As:tR prog 144 0=some (0,0+1):=kr
theorem nV:P6 lG 0 ⟨cv .u32,aN.a⟩ (λx y=>{x with a:=y}):=uq
theorem N_:KT prog 142 (cv .u32):=kq
theorem y_:(prog.info? 142).map (·.size)=some (Kd.n (cv .u32)):=kr
theorem Dr:tR prog 144 1=some (1,0+1):=kr
theorem rj:P6 lG 1 ⟨cv .u32,aN.b⟩ (λx y=>{x with b:=y}):=uq
theorem Wu:KT prog 144 dP:=kq
theorem VF:(prog.info? 144).map (·.size)=some (Kd.n dP):=kr
abbrev Zp:ByteArray:=⟨#[67,72,82,78]⟩
theorem Au:Pe (.raw (.string Zp)) QQ [67,72,82,78]:=YM kr
theorem o_:(prog.info? 5).map (·.size)=some (Kd.n (cv .u8)):=kr
theorem PY:KT prog 5 (cv .u8):=kq
theorem tU:tR prog 146 4=some (4,2+1):=kr
theorem FA:tR prog 43 2=some (2,0+1):=kr
theorem gu:P6 dQ 4 ⟨dZ,aL.header⟩ (λx y=>{x with header:=y}):=uq
theorem qx:P6 ir 2 ⟨cv .i64,aD.Left⟩ (λx y=>{x with Left:=y}):=uq
theorem tW:tR prog 146 3=some (3,0+1):=kr
theorem gv:P6 dQ 3 ⟨cv .i64,aL.left⟩ (λx y=>{x with left:=y}):=uq
theorem GW:tR prog 43 0=some (0,0+1):=kr
theorem vx:P6 ir 0 ⟨cv .i64,aD.Round⟩ (λx y=>{x with Round:=y}):=uq
theorem Yu:(prog.info? 2).map (·.size)=some (Kd.n (cv .i64)):=kr
theorem GX:tR prog 43 1=some (1,0+1):=kr
theorem vy:P6 ir 1 ⟨cv .i64,aD.Epoch⟩ (λx y=>{x with Epoch:=y}):=uq
theorem Yn:(prog.info? 35).map (·.size)=some (Kd.n (cv .i64)):=kr
theorem Av:tR prog 146 7=some (10,0+1):=kr
theorem lw:P6 dQ 7 ⟨cv .i64,aL.place⟩ (λx y=>{x with place:=y}):=uq
theorem XZ:KT prog 43 dZ:=kq
theorem Uc:BT prog 46 oK (⟨(⟨0,0,0⟩:aD),[]⟩:aV):=bq
theorem PI:tR prog 46 0=some (OT oK 0,2+1):=kr
theorem Sa:tR prog 43 2=some (OT ir 2,0+1):=kr
theorem Qg:tR prog 43 0=some (OT ir 0,0+1):=kr
theorem PW:tR prog 43 1=some (OT ir 1,0+1):=kr
theorem gw:BT prog 27 fS (⟨0,(.slice none 0 0)⟩:aK):=bq
theorem Uo:ZT prog 27 bz (⟨0,(.slice none 0 0)⟩:aK):=zq
theorem Ti:(prog.info? 27).map (·.size)=some (Kd.n bz):=kr
theorem FB:tR prog 27 0=some (0,0+1):=kr
theorem nW:P6 fS 0 ⟨cv .i64,aK.Newest⟩ (λx y=>{x with Newest:=y}):=uq
theorem V5:KT prog 2 (cv .i64):=kq
theorem eR:tR prog 27 1=some (1,0+1):=kr
theorem a8:P6 fS 1 ⟨O9,aK.Epochs⟩ (λx y=>{x with Epochs:=y}):=uq
theorem Qj:KT prog 25 O9:=kq
theorem Tc:ET prog 64 (h_ 16 (cv .u8)) (List.replicate 16 (0:Int)):=TF
theorem Q1:AT prog 64 (h_ 16 (cv .u8)) (List.replicate 16 (0:Int)) 16:=aq
theorem Tr:BT prog 152 jQ (⟨0,[]⟩:aE):=bq
theorem S1:ET prog 152 aO (⟨0,[]⟩:aE):=TF
theorem S0:AT prog 152 aO (⟨0,[]⟩:aE) 32:=aq
theorem QT:(prog.info? 25).map (·.size)=some (Kd.n O9):=kr
theorem Yj:ZT prog 29 bp (⟨0,(⟨0,[]⟩:aA)⟩:aM):=zq
theorem sH:tR prog 29 1=some (1,1+1):=kr
theorem xk:P6 jR 1 ⟨aC,aM.Window⟩ (λx y=>{x with Window:=y}):=uq
theorem vz:P6 dt 1 ⟨j_ aO,aA.Epochs⟩ (λx y=>{x with Epochs:=y}):=uq
theorem Xo:KT prog 25 (j_ aO):=kq
theorem eU:P6 km 1 ⟨bz,cy.Window⟩ (λx y=>{x with Window:=y}):=uq
theorem rW:tR prog 152 1=some (1,0+1):=kr
theorem lW:P6 jQ 1 ⟨j_ (h_ 16 (cv .u8)),aE.Tags⟩ (λx y=>{x with Tags:=y}):=uq
theorem Wv:KT prog 85 (j_ (h_ 16 (cv .u8))):=kq
theorem Wn:(prog.info? 85).map (·.size)=some (Kd.n (j_ (h_ 16 (cv .u8)))):=kr
theorem Ww:(prog.info? 29).map (·.size)=some (Kd.n bp):=kr
theorem V1:BT prog 37 iR (⟨[],(⟨0,(⟨0,[]⟩:aA)⟩:aM),(⟨0,0,0,0,0⟩:aI),0,0⟩:ba):=bq
theorem Pz:(prog.info? 37).map (·.size)=some (Kd.n cw):=kr
theorem Qo:KT prog 37 cw:=kq
theorem Uj:KT prog 27 aC:=kq
theorem Uy:ZT prog 34 bL (⟨0,0,0,0,0⟩:aI):=zq
theorem UB:BT prog 34 kl (⟨0,0,0,0,0⟩:aI):=bq
theorem Ro:(prog.info? 34).map (·.size)=some (Kd.n bL):=kr
theorem Sc:KT prog 34 bL:=kq
theorem PP:ZT prog 179 (h_ 32 (cv .u8)) (List.replicate 32 (0:Int)):=zq
theorem U8:ZT prog 253 cO (⟨(List.replicate 8 (0:Int)),(List.replicate 64 (0:Int)),0⟩:aZ):=zq
theorem YF:ZT prog 251 (h_ 64 (cv .u8)) (List.replicate 64 (0:Int)):=zq
theorem XP:BT prog 253 lH (⟨(List.replicate 8 (0:Int)),(List.replicate 64 (0:Int)),0⟩:aZ):=bq
theorem Tm:(prog.info? 253).map (·.size)=some (Kd.n cO):=kr
theorem Uk:KT prog 253 cO:=kq
theorem rY:tR prog 253 2=some (72,0+1):=kr
theorem ja:P6 lH 2 ⟨cv .u64,aZ.n⟩ (λx y=>{x with n:=y}):=uq
theorem TN:KT prog 71 (cv .u64):=kq
theorem UV:ZT prog 250 (h_ 8 (cv .u32)) (List.replicate 8 (0:Int)):=zq
theorem Vf:Wt prog 250 8 (cv .u32) (List.replicate 8 (0:Int)):=XC
theorem RQ:(prog.info? 250).map (·.size)=some (Kd.n (h_ 8 (cv .u32))):=kr
theorem Ui:KT prog 250 (h_ 8 (cv .u32)):=kq
theorem Aw:tR prog 253 0=some (0,7+1):=kr
theorem nX:P6 lH 0 ⟨h_ 8 (cv .u32),aZ.words⟩ (λx y=>{x with words:=y}):=uq
theorem Ds:tR prog 253 1=some (8,63+1):=kr
theorem rk:P6 lH 1 ⟨h_ 64 (cv .u8),aZ.tail⟩ (λx y=>{x with tail:=y}):=uq
theorem Yt:(prog.info? 71).map (·.size)=some (Kd.n (cv .u64)):=kr
theorem Vx:KT prog 250 (h_ 8 (cv .u32)):=kq
theorem Xd:KT prog 251 (h_ 64 (cv .u8)):=kq
theorem Ur:ZT prog 319 (h_ 64 (cv .u32)) (List.replicate 64 (0:Int)):=zq
def QH:YY:=[1116352408,1899447441,3049323471,3921009573,961987163,1508970993,2453635748,2870763221,3624381080,310598401,607225278,1426881987,1925078388,2162078206,2614888103,3248222580,3835390401,4022224774,264347078,604807628,770255983,1249150122,1555081692,1996064986,2554220882,2821834349,2952996808,3210313671,3336571891,3584528711,113926993,338241895,666307205,773529912,1294757372,1396182291,1695183700,1986661051,2177026350,2456956037,2730485921,2820302411,3259730800,3345764771,3516065817,3600352804,4094571909,275423344,430227734,506948616,659060556,883997877,958139571,1322822218,1537002063,1747873779,1955562222,2024104815,2227730452,2361852424,2428436474,2756734187,3204031479,3329325298]
theorem SE:(prog.info? 142).map (·.size)=some (Kd.n (cv .u32)):=kr
theorem WX:KT prog 253 cO:=kq
theorem Xl:tR prog 253 0=some (OT lH 0,7+1):=kr
theorem QK:KT prog 179 (h_ 32 (cv .u8)):=kq
theorem PB:(prog.info? 179).map (·.size)=some (Kd.n (h_ 32 (cv .u8))):=kr
theorem P7:tR prog 46 1=some (OT oK 1,0+1):=kr
theorem Rq:KT prog 44 (j_ (j_ (cv .u8))):=kq
theorem Tf:(prog.info? 22).map (·.size)=some (Kd.n (j_ (cv .u8))):=kr
theorem TO:ZT prog 66 aU (⟨[],(List.replicate 16 (0:Int))⟩:aH):=zq
theorem Sf:BT prog 66 kn (⟨[],(List.replicate 16 (0:Int))⟩:aH):=bq
theorem PX:(prog.info? 66).map (·.size)=some (Kd.n aU):=kr
theorem QM:KT prog 66 aU:=kq
theorem TL:ZT prog 181 cg (⟨(List.replicate 16 (0:Int)),(List.replicate 32 (0:Int)),(List.replicate 32 (0:Int))⟩:aQ):=zq
theorem Vt:BT prog 181 fa (⟨(List.replicate 16 (0:Int)),(List.replicate 32 (0:Int)),(List.replicate 32 (0:Int))⟩:aQ):=bq
theorem Ru:(prog.info? 181).map (·.size)=some (Kd.n cg):=kr
theorem RE:KT prog 181 cg:=kq
theorem VC:tR prog 181 1=some (OT fa 1,31+1):=kr
theorem Us:tR prog 181 0=some (OT fa 0,15+1):=kr
theorem Um:Wt prog 64 16 (cv .u8) (List.replicate 16 (0:Int)):=XC
theorem Vc:ZT prog 243 bd (⟨(List.replicate 11 (List.replicate 16 (0:Int)))⟩:br):=zq
theorem X5:ZT prog 284 (h_ 44 (h_ 4 (cv .u8))) (List.replicate 44 (List.replicate 4 (0:Int))):=zq
theorem Qz:(prog.info? 283).map (·.size)=some (Kd.n (h_ 4 (cv .u8))):=kr
theorem Vv:KT prog 283 (h_ 4 (cv .u8)):=kq
theorem S2:ZT prog 283 (h_ 4 (cv .u8)) (List.replicate 4 (0:Int)):=zq
theorem Vh:Wt prog 283 4 (cv .u8) (List.replicate 4 (0:Int)):=XC
theorem X2:KT prog 284 (h_ 44 (h_ 4 (cv .u8))):=kq
theorem TM:KT prog 283 (h_ 4 (cv .u8)):=kq
theorem Gt:tR prog 243 0=some (0,175+1):=kr
theorem nh:P6 mz 0 ⟨h_ 11 (h_ 16 (cv .u8)),br.keys⟩ (λx y=>{x with keys:=y}):=uq
theorem PU:(prog.info? 240).map (·.size)=some (Kd.n (h_ 16 (cv .u8))):=kr
theorem Uu:KT prog 243 bd:=kq
theorem VI:(prog.info? 243).map (·.size)=some (Kd.n bd):=kr
theorem Yo:ZT prog 246 (h_ 256 (cv .u8)) (List.replicate 256 (0:Int)):=zq
theorem Rh:KT prog 64 (h_ 16 (cv .u8)):=kq
theorem Tj:tR prog 243 0=some (OT mz 0,175+1):=kr
theorem Uq:(prog.info? 240).map (·.size)=some (Kd.n (h_ 16 (cv .u8))):=kr
theorem Qn:KT prog 240 (h_ 16 (cv .u8)):=kq
theorem R9:ZT prog 240 (h_ 16 (cv .u8)) (List.replicate 16 (0:Int)):=zq
theorem RP:KT prog 240 (h_ 16 (cv .u8)):=kq
theorem Up:tR prog 181 2=some (OT fa 2,31+1):=kr
theorem Ax:tR prog 66 0=some (0,0+1):=kr
theorem lk:P6 kn 0 ⟨j_ (cv .u8),aH.Cell⟩ (λx y=>{x with Cell:=y}):=uq
theorem RY:(prog.info? 22).map (·.size)=some (Kd.n (j_ (cv .u8))):=kr
theorem Ay:tR prog 34 1=some (1,0+1):=kr
theorem ll:P6 kl 1 ⟨cv .i64,aI.Malformed⟩ (λx y=>{x with Malformed:=y}):=uq
theorem SF:tR prog 66 1=some (OT kn 1,15+1):=kr
theorem YL:ZV prog 3 (cv .i64) (0:Int):=⟨(.int .i64 0:Value),kr,λF=>qk.2 J⟩
theorem YT:R0 prog 5 (cv .u8) 1:=R0.int U5
theorem Sq:R0 prog 64 (h_ 16 (cv .u8)) 2:=R0.arr YT PS Qv
theorem Sx:prog.eqGuardType prog.depth 64=false:=kr
theorem Az:tR prog 34 2=some (2,0+1):=kr
theorem lm:P6 kl 2 ⟨cv .i64,aI.Replays⟩ (λx y=>{x with Replays:=y}):=uq
theorem Xm:ET prog 66 aU (⟨[],(List.replicate 16 (0:Int))⟩:aH):=TF
theorem Xk:AT prog 66 aU (⟨[],(List.replicate 16 (0:Int))⟩:aH) 40:=aq
theorem U0:ZT prog 51 dO (⟨[],[],[]⟩:bf):=zq
theorem VZ:BT prog 51 iq (⟨[],[],[]⟩:bf):=bq
theorem Rl:(prog.info? 51).map (·.size)=some (Kd.n dO):=kr
theorem TK:KT prog 51 dO:=kq
theorem tX:BT prog 51 jS (⟨[],[],(.slice none 0 0)⟩:ci):=bq
theorem WF:ZT prog 51 gj (⟨[],[],(.slice none 0 0)⟩:ci):=zq
theorem W_:(prog.info? 51).map (·.size)=some (Kd.n gj):=kr
theorem xl:tR prog 51 2=some (2,0+1):=kr
theorem jI:P6 jS 2 ⟨O9,ci.Chunks⟩ (λx y=>{x with Chunks:=y}):=uq
theorem U4:KT prog 44 O9:=kq
theorem Vk:(prog.info? 44).map (·.size)=some (Kd.n O9):=kr
theorem Un:tR prog 51 0=some (OT iq 0,0+1):=kr
theorem Ra:AT prog 3 (cv .i64) (0:Int) 8:=aq
theorem S4:ET prog 3 (cv .i64) (0:Int):=TF
theorem QY:(prog.info? 3).map (·.size)=some (Kd.n (cv .i64)):=kr
theorem VE:(prog.info? 66).map (·.size)=some (Kd.n aU):=kr
theorem VO:tR prog 66 0=some (OT kn 0,0+1):=kr
theorem WM:ZT prog 163 jU (⟨(⟨[],[],[]⟩:bf),[],(.slice none 0 0)⟩:cf):=zq
theorem AA:tR prog 163 1=some (3,0+1):=kr
theorem lx:P6 jB 1 ⟨j_ (cv .i64),cf.sizes⟩ (λx y=>{x with sizes:=y}):=uq
theorem Ut:(prog.info? 68).map (·.size)=some (Kd.n (j_ (cv .i64))):=kr
theorem fX:BT prog 163 jB (⟨(⟨[],[],[]⟩:bf),[],(.slice none 0 0)⟩:cf):=bq
theorem Sw:(prog.info? 163).map (·.size)=some (Kd.n jU):=kr
theorem S6:KT prog 163 jT:=kq
theorem AB:tR prog 163 0=some (0,2+1):=kr
theorem ly:P6 jB 0 ⟨dO,cf.parts⟩ (λx y=>{x with parts:=y}):=uq
theorem FC:tR prog 51 1=some (1,0+1):=kr
theorem xm:P6 iq 1 ⟨j_ (cv .u8),bf.Braid⟩ (λx y=>{x with Braid:=y}):=uq
theorem W8:KT prog 22 (j_ (cv .u8)):=kq
theorem XX:ZT prog 68 O9 (.slice none 0 0):=zq
theorem Q0:(prog.info? 68).map (·.size)=some (Kd.n O9):=kr
theorem SY:ZT prog 312 cU (⟨[],0⟩:bo):=zq
theorem Tu:BT prog 312 oO (⟨[],0⟩:bo):=bq
theorem Qh:(prog.info? 312).map (·.size)=some (Kd.n cU):=kr
theorem QB:KT prog 312 cU:=kq
theorem T3:KT prog 312 cU:=kq
theorem T0:tR prog 312 0=some (OT oO 0,0+1):=kr
theorem Y0:KT prog 9 QQ:=kq
theorem Sn:tR prog 312 1=some (OT oO 1,0+1):=kr
theorem Tx:KT prog 68 O9:=kq
theorem Sp:KT prog 68 (j_ (cv .i64)):=kq
theorem Dt:tR prog 163 2=some (4,0+1):=kr
theorem nY:P6 jB 2 ⟨O9,cf.starts⟩ (λx y=>{x with starts:=y}):=uq
theorem xn:P6 iq 2 ⟨j_ (j_ (cv .u8)),bf.Chunks⟩ (λx y=>{x with Chunks:=y}):=uq
theorem W5:KT prog 44 (j_ (j_ (cv .u8))):=kq
theorem Yp:ET prog 68 (j_ (cv .i64)) []:=TF
theorem Yh:AT prog 68 (j_ (cv .i64)) [] 24:=aq
abbrev lX:YY→Value→Value:=λ_ q=>q
abbrev lY:YY→YY:=λx=>x
theorem zg:Po O9:=Po.raw
theorem rZ:Po (cv .i64):=Mm
theorem zh:∀F x q,(j_ (cv .i64)).val F q (lY x)→∀cs,O9.rd F cs (lX x q)→(j_ (cv .i64)).rd F cs x:=λF x q hv=>jF hv
theorem Wz:AT prog 68 O9 (.slice none 0 0) 24:=aq
theorem V2:(prog.info? 68).map (·.size)=some (Kd.n (j_ (cv .i64))):=kr
theorem Tz:KT prog 68 (j_ (cv .i64)):=kq
theorem WO:KT prog 163 jT:=kq
theorem Uv:(prog.info? 163).map (·.size)=some (Kd.n jT):=kr
theorem YG:ZT prog 163 jT (⟨(⟨[],[],[]⟩:bf),[],[]⟩:cz):=zq
theorem WT:tR prog 163 1=some (OT gg 1,0+1):=kr
theorem Wh:tR prog 163 2=some (OT gg 2,0+1):=kr
theorem AT4:AT prog 4 oT false 1:=aq
theorem Wd:(prog.info? 4).map (·.size)=some (Kd.n oT):=kr
theorem ZX:KT prog 4 oT:=kq
theorem Du:tR prog 152 0=some (0,0+1):=kr
theorem rm:P6 jQ 0 ⟨cv .i64,aE.Number⟩ (λx y=>{x with Number:=y}):=uq
abbrev du:aE→Value→aX:=λx q=>⟨x.Number,q⟩
abbrev dT:aE→List YY:=λx=>x.Tags
theorem cF:Po (bi):=Nl Mm Po.raw
theorem cK:Po (h_ 16 (cv .u8)):=Po.arr Mm
theorem so:∀F x q,(j_ (h_ 16 (cv .u8))).val F q (dT x)→∀cs,(bi).rd F cs (du x q)→(aO).rd F cs x:=λF x q hv cs h=>uN (fs':=lV) (fs:=jQ) (x':=du x q) (x:=x) ⟨λ_ h=>h,jF hv,trivial⟩ h
theorem fk:BT prog 152 lV (⟨0,(.slice none 0 0)⟩:aX):=bq
theorem R3:ET prog 152 bi (⟨0,(.slice none 0 0)⟩:aX):=TF
theorem RZ:AT prog 152 bi (⟨0,(.slice none 0 0)⟩:aX) 32:=aq
theorem Sm:(prog.info? 152).map (·.size)=some (Kd.n bi):=kr
theorem Vl:KT prog 152 bi:=kq
theorem Vp:ZT prog 152 bi (⟨0,(.slice none 0 0)⟩:aX):=zq
theorem oP:P6 lV 1 ⟨O9,aX.Tags⟩ (λx y=>{x with Tags:=y}):=uq
theorem Vr:KT prog 85 O9:=kq
theorem WP:BT prog 43 ir (⟨0,0,0⟩:aD):=bq
theorem W0:KT prog 43 dZ:=kq
theorem FD:tR prog 34 3=some (3,0+1):=kr
theorem qy:P6 kl 3 ⟨cv .i64,aI.Noise⟩ (λx y=>{x with Noise:=y}):=uq
theorem FE:tR prog 34 4=some (4,0+1):=kr
theorem qz:P6 kl 4 ⟨cv .i64,aI.Out⟩ (λx y=>{x with Out:=y}):=uq
theorem VL:tR prog 37 3=some (OT iR 3,0+1):=kr
theorem Xn:KT prog 35 (cv .i64):=kq
theorem TZ:tR prog 37 0=some (OT iR 0,0+1):=kr
theorem Te:tR prog 37 1=some (OT iR 1,2+1):=kr
theorem WA:tR prog 31 0=some (OT i9 0,10+1):=kr
theorem Ve:tR prog 31 1=some (OT i9 1,2+1):=kr
theorem Vd:tR prog 31 2=some (OT i9 2,0+1):=kr
theorem Va:tR prog 31 3=some (OT i9 3,0+1):=kr
theorem Hi (d:Nat) (e:Bool) (k:bx F0 n ((d,.raw (.bool e))::E) L (wpList P ops Q rest)) (h:bx F0 n ((d,.raw (.bool e))::E) L (wpList P ops Q rest)→bx F0 n E L (wpList P ops Q (o0::o1::o2::o3::o4::o5::o6::o7::o8::o9::Tw::UD::UH::TW::TA::VT::Xu::rest))):bx F0 n E L (wpList P ops Q (o0::o1::o2::o3::o4::o5::o6::o7::o8::o9::Tw::UD::UH::TW::TA::VT::Xu::rest)):=h k
theorem FF (d:Nat) (e:Bool) (k:bg F0 n ((d,.raw (.bool e))::E) (wpQuiet P ops C Qa rest)) (h:bg F0 n ((d,.raw (.bool e))::E) (wpQuiet P ops C Qa rest)→bg F0 n E (wpQuiet P ops C Qa (o0::o1::o2::o3::o4::o5::o6::o7::o8::o9::Tw::UD::UH::TW::TA::VT::Xu::rest))):bg F0 n E (wpQuiet P ops C Qa (o0::o1::o2::o3::o4::o5::o6::o7::o8::o9::Tw::UD::UH::TW::TA::VT::Xu::rest)):=h k
theorem Hj (d:Nat) (e:Bool) (k:bx F0 n ((d,.raw (.bool e))::E) L (wpList P ops Q rest)) (h:bx F0 n ((d,.raw (.bool e))::E) L (wpList P ops Q rest)→bx F0 n E L (wpList P ops Q (o0::o1::o2::o3::o4::o5::o6::o7::o8::o9::rest))):bx F0 n E L (wpList P ops Q (o0::o1::o2::o3::o4::o5::o6::o7::o8::o9::rest)):=h k
theorem xo (d:Nat) (e:Bool) (k:bg F0 n ((d,.raw (.bool e))::E) (wpQuiet P ops C Qa rest)) (h:bg F0 n ((d,.raw (.bool e))::E) (wpQuiet P ops C Qa rest)→bg F0 n E (wpQuiet P ops C Qa (o0::o1::o2::o3::o4::o5::o6::o7::o8::o9::rest))):bg F0 n E (wpQuiet P ops C Qa (o0::o1::o2::o3::o4::o5::o6::o7::o8::o9::rest)):=h k
theorem sd:BT prog 29 km (⟨0,(⟨0,(.slice none 0 0)⟩:aK)⟩:cy):=bq
theorem Yv:ZT prog 29 ij (⟨0,(⟨0,(.slice none 0 0)⟩:aK)⟩:cy):=zq
theorem WI:(prog.info? 29).map (·.size)=some (Kd.n ij):=kr
theorem VK:ZT prog 193 bT (⟨false,(⟨0,0,0⟩:aD),[],0,0⟩:aF):=zq
theorem WV:ZT prog 193 fg (⟨false,(⟨0,0,0⟩:aD),(.slice none 0 0),0,0⟩:aS):=zq
theorem qg:tR prog 193 3=some (5,0+1):=kr
theorem fc:P6 dS 3 ⟨cv .i64,aS.Place⟩ (λx y=>{x with Place:=y}):=uq
theorem qh:tR prog 193 4=some (6,0+1):=kr
theorem fe:P6 dS 4 ⟨cv .i64,aS.Err⟩ (λx y=>{x with Err:=y}):=uq
theorem Qk:KT prog 193 bT:=kq
theorem QR:(prog.info? 193).map (·.size)=some (Kd.n bT):=kr
theorem Gu:tR prog 193 0=some (0,0+1):=kr
theorem oi:P6 dS 0 ⟨oT,aS.Head⟩ (λx y=>{x with Head:=y}):=uq
theorem Gv:tR prog 193 1=some (1,2+1):=kr
theorem oj:P6 dS 1 ⟨dZ,aS.Header⟩ (λx y=>{x with Header:=y}):=uq
theorem Wo:(prog.info? 43).map (·.size)=some (Kd.n dZ):=kr
theorem Dv:tR prog 193 2=some (4,0+1):=kr
theorem kL:P6 dS 2 ⟨O9,aS.Cells⟩ (λx y=>{x with Cells:=y}):=uq
theorem jt:P6 cr 3 ⟨cv .i64,aF.Place⟩ (λx y=>{x with Place:=y}):=uq
theorem ju:P6 cr 4 ⟨cv .i64,aF.Err⟩ (λx y=>{x with Err:=y}):=uq
theorem US:tR prog 193 4=some (OT cr 4,0+1):=kr
theorem V9:tR prog 193 3=some (OT cr 3,0+1):=kr
theorem We:tR prog 193 1=some (OT cr 1,2+1):=kr
theorem V7:tR prog 193 2=some (OT cr 2,0+1):=kr
theorem Vb:Wt prog 249 8 (cv .u32) (List.replicate 8 (0:Int)):=XC
theorem Vw:ZT prog 249 (h_ 8 (cv .u32)) (List.replicate 8 (0:Int)):=zq
theorem Ss:(prog.info? 249).map (·.size)=some (Kd.n (h_ 8 (cv .u32))):=kr
theorem Xs:Wt prog 319 64 (cv .u32) (List.replicate 64 (0:Int)):=XC
theorem VM:(prog.info? 319).map (·.size)=some (Kd.n (h_ 64 (cv .u32))):=kr
theorem Wp:KT prog 319 (h_ 64 (cv .u32)):=kq
theorem Vo:KT prog 249 (h_ 8 (cv .u32)):=kq
theorem Wy:KT prog 249 (h_ 8 (cv .u32)):=kq
theorem Gw:tR prog 181 0=some (0,15+1):=kr
theorem nZ:P6 fa 0 ⟨h_ 16 (cv .u8),aQ.Box⟩ (λx y=>{x with Box:=y}):=uq
theorem Gx:tR prog 181 1=some (16,31+1):=kr
theorem oa:P6 fa 1 ⟨h_ 32 (cv .u8),aQ.Mac⟩ (λx y=>{x with Mac:=y}):=uq
theorem Gy:tR prog 181 2=some (48,31+1):=kr
theorem oc:P6 fa 2 ⟨h_ 32 (cv .u8),aQ.Replay⟩ (λx y=>{x with Replay:=y}):=uq
theorem UR:ZT prog 279 (h_ 176 (cv .u8)) (List.replicate 176 (0:Int)):=zq
abbrev Zy:ByteArray:=⟨#[99,124,119,123,242,107,111,197,48,1,103,43,254,215,171,118,202,130,201,125,250,89,71,240,173,212,162,175,156,164,114,192,183,253,147,38,54,63,247,204,52,165,229,241,113,216,49,21,4,199,35,195,24,150,5,154,7,18,128,226,235,39,178,117,9,131,44,26,27,110,90,160,82,59,214,179,41,227,47,132,83,209,0,237,32,252,177,91,106,203,190,57,74,76,88,207,208,239,170,251,67,77,51,133,69,249,2,127,80,60,159,168,81,163,64,143,146,157,56,245,188,182,218,33,16,255,243,210,205,12,19,236,95,151,68,23,196,167,126,61,100,93,25,115,96,129,79,220,34,42,144,136,70,238,184,20,222,94,11,219,224,50,58,10,73,6,36,92,194,211,172,98,145,149,228,121,231,200,55,109,141,213,78,169,108,86,244,234,101,122,174,8,186,120,37,46,28,166,180,198,232,221,116,31,75,189,139,138,112,62,181,102,72,3,246,14,97,53,87,185,134,193,29,158,225,248,152,17,105,217,142,148,155,30,135,233,206,85,40,223,140,161,137,13,191,230,66,104,65,153,45,15,176,84,187,22]⟩
theorem tY:Pe (.raw (.string Zy)) QQ [99,124,119,123,242,107,111,197,48,1,103,43,254,215,171,118,202,130,201,125,250,89,71,240,173,212,162,175,156,164,114,192,183,253,147,38,54,63,247,204,52,165,229,241,113,216,49,21,4,199,35,195,24,150,5,154,7,18,128,226,235,39,178,117,9,131,44,26,27,110,90,160,82,59,214,179,41,227,47,132,83,209,0,237,32,252,177,91,106,203,190,57,74,76,88,207,208,239,170,251,67,77,51,133,69,249,2,127,80,60,159,168,81,163,64,143,146,157,56,245,188,182,218,33,16,255,243,210,205,12,19,236,95,151,68,23,196,167,126,61,100,93,25,115,96,129,79,220,34,42,144,136,70,238,184,20,222,94,11,219,224,50,58,10,73,6,36,92,194,211,172,98,145,149,228,121,231,200,55,109,141,213,78,169,108,86,244,234,101,122,174,8,186,120,37,46,28,166,180,198,232,221,116,31,75,189,139,138,112,62,181,102,72,3,246,14,97,53,87,185,134,193,29,158,225,248,152,17,105,217,142,148,155,30,135,233,206,85,40,223,140,161,137,13,191,230,66,104,65,153,45,15,176,84,187,22]:=YM kr
def kO:YY:=[99,124,119,123,242,107,111,197,48,1,103,43,254,215,171,118,202,130,201,125,250,89,71,240,173,212,162,175,156,164,114,192,183,253,147,38,54,63,247,204,52,165,229,241,113,216,49,21,4,199,35,195,24,150,5,154,7,18,128,226,235,39,178,117,9,131,44,26,27,110,90,160,82,59,214,179,41,227,47,132,83,209,0,237,32,252,177,91,106,203,190,57,74,76,88,207,208,239,170,251,67,77,51,133,69,249,2,127,80,60,159,168,81,163,64,143,146,157,56,245,188,182,218,33,16,255,243,210,205,12,19,236,95,151,68,23,196,167,126,61,100,93,25,115,96,129,79,220,34,42,144,136,70,238,184,20,222,94,11,219,224,50,58,10,73,6,36,92,194,211,172,98,145,149,228,121,231,200,55,109,141,213,78,169,108,86,244,234,101,122,174,8,186,120,37,46,28,166,180,198,232,221,116,31,75,189,139,138,112,62,181,102,72,3,246,14,97,53,87,185,134,193,29,158,225,248,152,17,105,217,142,148,155,30,135,233,206,85,40,223,140,161,137,13,191,230,66,104,65,153,45,15,176,84,187,22]
theorem Tv:KT prog 279 (h_ 176 (cv .u8)):=kq
theorem VB:(prog.info? 279).map (·.size)=some (Kd.n (h_ 176 (cv .u8))):=kr
theorem FG:tR prog 66 1=some (1,15+1):=kr
theorem qF:P6 kn 1 ⟨h_ 16 (cv .u8),aH.Replay⟩ (λx y=>{x with Replay:=y}):=uq
theorem GY:tR prog 51 0=some (0,0+1):=kr
theorem tZ:P6 jS 0 ⟨j_ (cv .u8),ci.Noise⟩ (λx y=>{x with Noise:=y}):=uq
theorem ua:P6 jS 1 ⟨j_ (cv .u8),ci.Braid⟩ (λx y=>{x with Braid:=y}):=uq
theorem Ws:ZT prog 199 df (⟨[],[],[],[]⟩:bj):=zq
theorem Xg:ZT prog 199 kN (⟨[],[],[],(.slice none 0 0)⟩:bK):=zq
theorem R_:KT prog 199 df:=kq
theorem Sz:(prog.info? 199).map (·.size)=some (Kd.n df):=kr
theorem vX:tR prog 199 0=some (0,0+1):=kr
theorem fI:P6 fy 0 ⟨j_ (cv .i64),bK.sizes⟩ (λx y=>{x with sizes:=y}):=uq
theorem Xf:tR prog 51 1=some (OT iq 1,0+1):=kr
theorem Gz:tR prog 199 1=some (1,0+1):=kr
theorem pw:P6 fy 1 ⟨j_ (cv .i64),bK.pattern⟩ (λx y=>{x with pattern:=y}):=uq
theorem GA:tR prog 199 2=some (2,0+1):=kr
theorem px:P6 fy 2 ⟨j_ (cv .i64),bK.offsets⟩ (λx y=>{x with offsets:=y}):=uq
theorem Xb:tR prog 51 2=some (OT iq 2,0+1):=kr
theorem Dw:tR prog 199 3=some (3,0+1):=kr
theorem lI:P6 fy 3 ⟨O9,bK.own⟩ (λx y=>{x with own:=y}):=uq
theorem WU:KT prog 164 O9:=kq
theorem Xr:(prog.info? 164).map (·.size)=some (Kd.n O9):=kr
theorem WN:tR prog 199 0=some (OT ed 0,0+1):=kr
theorem Wj:tR prog 199 1=some (OT ed 1,0+1):=kr
theorem VY:tR prog 199 3=some (OT ed 3,0+1):=kr
theorem Yy:KT prog 164 (j_ (j_ (cv .i64))):=kq
theorem GC (d:Nat) (e:Bool) (k:bx F0 n ((d,.raw (.bool e))::E) L (wpList P ops Q rest)) (h:bx F0 n ((d,.raw (.bool e))::E) L (wpList P ops Q rest)→bx F0 n E L (wpList P ops Q (o0::o1::o2::o3::o4::o5::o6::o7::o8::o9::Tw::UD::UH::TW::TA::VT::rest))):bx F0 n E L (wpList P ops Q (o0::o1::o2::o3::o4::o5::o6::o7::o8::o9::Tw::UD::UH::TW::TA::VT::rest)):=h k
theorem G8 (d:Nat) (e:Bool) (k:bg F0 n ((d,.raw (.bool e))::E) (wpQuiet P ops C Qa rest)) (h:bg F0 n ((d,.raw (.bool e))::E) (wpQuiet P ops C Qa rest)→bg F0 n E (wpQuiet P ops C Qa (o0::o1::o2::o3::o4::o5::o6::o7::o8::o9::Tw::UD::UH::TW::TA::VT::rest))):bg F0 n E (wpQuiet P ops C Qa (o0::o1::o2::o3::o4::o5::o6::o7::o8::o9::Tw::UD::UH::TW::TA::VT::rest)):=h k
theorem Zf:ZT prog 43 dZ (⟨0,0,0⟩:aD):=zq
theorem U6:tR prog 37 2=some (OT iR 2,4+1):=kr
theorem UW:R0 prog 3 (cv .i64) 1:=R0.int U3
instance beq_Api_Report:BEq aI:=⟨λa b=>a.In==b.In&&(a.Malformed==b.Malformed&&(a.Replays==b.Replays&&(a.Noise==b.Noise&&(a.Out==b.Out&&(true)))))⟩
theorem X7:R0 prog 34 (bL) 2:=R0.st underlying34 kr ⟨by decide,rfl,O7,_,Nj UW J,_,λ_ _=>rfl,⟨by decide,rfl,O7,_,Nj UW J,_,λ_ _=>rfl,⟨by decide,rfl,O7,_,Nj UW J,_,λ_ _=>rfl,⟨by decide,rfl,O7,_,Nj UW J,_,λ_ _=>rfl,⟨by decide,rfl,O7,_,Nj UW J,_,λ_ _=>rfl,λ_ _=>rfl⟩⟩⟩⟩⟩
theorem Yc:prog.eqGuardType prog.depth 34=false:=kr
theorem Vu:tR prog 37 4=some (OT iR 4,0+1):=kr
theorem rw5:Ri prog 5 (cv .u8) (PA .u8) PD:=C1 U5
theorem X3:prog.cellsOf 5=1:=kr
theorem W1:Ri prog 22 (j_ (cv .u8)) (Wk (PA .u8)) (T_ PD):=FO (K:=cv .u8) ld X3 (by decide) rw5
theorem VU:Ri prog 3 (cv .i64) (PA .i64) PD:=C1 U3
theorem UX:prog.cellsOf 22=1:=kr
theorem SO:prog.cellsOf 3=1:=kr
theorem WG:prog.cellsOf 24=11:=kr
def ub (x:aP):Prop:=(Wk (PA .u8)) x.Master∧(PA .i64) x.Left∧(PA .i64) x.Span∧(PA .i64) x.Room∧(PA .i64) x.Num∧(PA .i64) x.Den∧(PA .i64) x.Noise∧(PA .i64) x.Chunks∧(PA .i64) x.Workers∧(PA .i64) x.Cap∧(PA .i64) x.Shards∧True
def qi (x:aP):Nat:=(T_ PD) x.Master+(PD x.Left+(PD x.Span+(PD x.Room+(PD x.Num+(PD x.Den+(PD x.Noise+(PD x.Chunks+(PD x.Workers+(PD x.Cap+(PD x.Shards+0))))))))))
theorem Zu:Ri prog 24 bt ub qi:=by intro H enc W _ B BA hB fuel cs x h;obtain⟨hl,ds,hx,hf0⟩:=ue underlying24 h;obtain⟨d0,ds0,e0,⟨n0,p0,t0⟩,hf1⟩:=LP hf0;subst e0;obtain⟨y0,r0,g0,b0⟩:=W1 hB t0;obtain⟨d1,ds1,e1,⟨n1,p1,t1⟩,hf2⟩:=LP hf1;subst e1;obtain⟨y1,r1,g1,b1⟩:=VU hB t1;obtain⟨d2,ds2,e2,⟨n2,p2,t2⟩,hf3⟩:=LP hf2;subst e2;obtain⟨y2,r2,g2,b2⟩:=VU hB t2;obtain⟨d3,ds3,e3,⟨n3,p3,t3⟩,hf4⟩:=LP hf3;subst e3;obtain⟨y3,r3,g3,b3⟩:=VU hB t3;obtain⟨d4,ds4,e4,⟨n4,p4,t4⟩,hf5⟩:=LP hf4;subst e4;obtain⟨y4,r4,g4,b4⟩:=VU hB t4;obtain⟨d5,ds5,e5,⟨n5,p5,t5⟩,hf6⟩:=LP hf5;subst e5;obtain⟨y5,r5,g5,b5⟩:=VU hB t5;obtain⟨d6,ds6,e6,⟨n6,p6,t6⟩,hf7⟩:=LP hf6;subst e6;obtain⟨y6,r6,g6,b6⟩:=VU hB t6;obtain⟨d7,ds7,e7,⟨n7,p7,t7⟩,hf8⟩:=LP hf7;subst e7;obtain⟨y7,r7,g7,b7⟩:=VU hB t7;obtain⟨d8,ds8,e8,⟨n8,p8,t8⟩,hf9⟩:=LP hf8;subst e8;obtain⟨y8,r8,g8,b8⟩:=VU hB t8;obtain⟨d9,ds9,e9,⟨n9,p9,t9⟩,hf10⟩:=LP hf9;subst e9;obtain⟨y9,r9,g9,b9⟩:=VU hB t9;obtain⟨d10,ds10,e10,⟨n10,p10,t10⟩,hf11⟩:=LP hf10;subst e10;obtain⟨y10,r10,g10,b10⟩:=VU hB t10;have hnil:=RO.nil hf11;subst hnil;refine⟨⟨y0,y1,y2,y3,y4,y5,y6,y7,y8,y9,y10⟩,pM (ek UX r0 (ek SO r1 (ek SO r2 (ek SO r3 (ek SO r4 (ek SO r5 (ek SO r6 (ek SO r7 (ek SO r8 (ek SO r9 (ek SO r10 (uf (hl.trans WG) J)))))))))))),⟨g0,g1,g2,g3,g4,g5,g6,g7,g8,g9,g10,trivial⟩,?_⟩;have:=hB.agg [d0,d1,d2,d3,d4,d5,d6,d7,d8,d9,d10];rw[hx];dsimp only at b0 b1 b2 b3 b4 b5 b6 b7 b8 b9 b10;simp only[hB.cons,hB.nil] at this;simp only[qi];omega
theorem ZH:Ri prog 2 (cv .i64) (PA .i64) PD:=C1 U2
theorem Wr:prog.cellsOf 64=16:=kr
theorem aaq:Ri prog 64 (h_ 16 (cv .u8)) (UY 16 (PA .u8)) (SN PD):=G3 (K:=cv .u8) Qv Wr X3 rw5
theorem ZB:Ri prog 85 (j_ (h_ 16 (cv .u8))) (Wk (UY 16 (PA .u8))) (T_ (SN PD)):=FO (K:=h_ 16 (cv .u8)) Pq Wr (by decide) aaq
theorem Xe:prog.cellsOf 2=1:=kr
theorem X1:prog.cellsOf 85=1:=kr
theorem VG:prog.cellsOf 152=2:=kr
def oQ (x:aE):Prop:=(PA .i64) x.Number∧(Wk (UY 16 (PA .u8))) x.Tags∧True
def jp (x:aE):Nat:=PD x.Number+((T_ (SN PD)) x.Tags+0)
theorem Yz:Ri prog 152 aO oQ jp:=by intro H enc W _ B BA hB fuel cs x h;obtain⟨hl,ds,hx,hf0⟩:=ue underlying152 h;obtain⟨d0,ds0,e0,⟨n0,p0,t0⟩,hf1⟩:=LP hf0;subst e0;obtain⟨y0,r0,g0,b0⟩:=ZH hB t0;obtain⟨d1,ds1,e1,⟨n1,p1,t1⟩,hf2⟩:=LP hf1;subst e1;obtain⟨y1,r1,g1,b1⟩:=ZB hB t1;have hnil:=RO.nil hf2;subst hnil;refine⟨⟨y0,y1⟩,pM (ek Xe r0 (ek X1 r1 (uf (hl.trans VG) J))),⟨g0,g1,trivial⟩,?_⟩;have:=hB.agg [d0,d1];rw[hx];dsimp only at b0 b1;simp only[hB.cons,hB.nil] at this;simp only[jp];omega
theorem aad:Ri prog 25 (j_ aO) (Wk oQ) (T_ jp):=FO (K:=aO) PE VG (by decide) Yz
theorem XJ:prog.cellsOf 25=1:=kr
theorem WH:prog.cellsOf 27=2:=kr
def qj (x:aA):Prop:=(PA .i64) x.Newest∧(Wk oQ) x.Epochs∧True
def ko (x:aA):Nat:=PD x.Newest+((T_ jp) x.Epochs+0)
theorem Zx:Ri prog 27 aC qj ko:=by intro H enc W _ B BA hB fuel cs x h;obtain⟨hl,ds,hx,hf0⟩:=ue underlying27 h;obtain⟨d0,ds0,e0,⟨n0,p0,t0⟩,hf1⟩:=LP hf0;subst e0;obtain⟨y0,r0,g0,b0⟩:=ZH hB t0;obtain⟨d1,ds1,e1,⟨n1,p1,t1⟩,hf2⟩:=LP hf1;subst e1;obtain⟨y1,r1,g1,b1⟩:=aad hB t1;have hnil:=RO.nil hf2;subst hnil;refine⟨⟨y0,y1⟩,pM (ek Xe r0 (ek XJ r1 (uf (hl.trans WH) J))),⟨g0,g1,trivial⟩,?_⟩;have:=hB.agg [d0,d1];rw[hx];dsimp only at b0 b1;simp only[hB.cons,hB.nil] at this;simp only[ko];omega
theorem WC:prog.cellsOf 29=3:=kr
def vl (x:aM):Prop:=(PA .i64) x.Next∧qj x.Window∧True
def oR (x:aM):Nat:=PD x.Next+(ko x.Window+0)
theorem Y1:Ri prog 29 bp vl oR:=by intro H enc W _ B BA hB fuel cs x h;obtain⟨hl,ds,hx,hf0⟩:=ue underlying29 h;obtain⟨d0,ds0,e0,⟨n0,p0,t0⟩,hf1⟩:=LP hf0;subst e0;obtain⟨y0,r0,g0,b0⟩:=ZH hB t0;obtain⟨d1,ds1,e1,⟨n1,p1,t1⟩,hf2⟩:=LP hf1;subst e1;obtain⟨y1,r1,g1,b1⟩:=Zx hB t1;have hnil:=RO.nil hf2;subst hnil;refine⟨⟨y0,y1⟩,pM (ek Xe r0 (ek WH r1 (uf (hl.trans WC) J))),⟨g0,g1,trivial⟩,?_⟩;have:=hB.agg [d0,d1];rw[hx];dsimp only at b0 b1;simp only[hB.cons,hB.nil] at this;simp only[oR];omega
theorem XM:prog.cellsOf 31=16:=kr
def mK (x:dk):Prop:=ub x.C∧vl x.S∧(Wk (PA .u8)) x.Raw∧(Wk (PA .u8)) x.Tape∧True
def jb (x:dk):Nat:=qi x.C+(oR x.S+((T_ PD) x.Raw+((T_ PD) x.Tape+0)))
theorem ZP:Ri prog 31 jA mK jb:=by intro H enc W _ B BA hB fuel cs x h;obtain⟨hl,ds,hx,hf0⟩:=ue underlying31 h;obtain⟨d0,ds0,e0,⟨n0,p0,t0⟩,hf1⟩:=LP hf0;subst e0;obtain⟨y0,r0,g0,b0⟩:=Zu hB t0;obtain⟨d1,ds1,e1,⟨n1,p1,t1⟩,hf2⟩:=LP hf1;subst e1;obtain⟨y1,r1,g1,b1⟩:=Y1 hB t1;obtain⟨d2,ds2,e2,⟨n2,p2,t2⟩,hf3⟩:=LP hf2;subst e2;obtain⟨y2,r2,g2,b2⟩:=W1 hB t2;obtain⟨d3,ds3,e3,⟨n3,p3,t3⟩,hf4⟩:=LP hf3;subst e3;obtain⟨y3,r3,g3,b3⟩:=W1 hB t3;have hnil:=RO.nil hf4;subst hnil;refine⟨⟨y0,y1,y2,y3⟩,pM (ek WG r0 (ek WC r1 (ek UX r2 (ek UX r3 (uf (hl.trans XM) J))))),⟨g0,g1,g2,g3,trivial⟩,?_⟩;have:=hB.agg [d0,d1,d2,d3];rw[hx];dsimp only at b0 b1 b2 b3;simp only[hB.cons,hB.nil] at this;simp only[jb];omega
theorem aam:KT prog 31 jA:=kq
abbrev K0:=(j_ (h_ 16 (cv .u8)))
abbrev K1:=(j_ (j_ (cv .u8)))
abbrev K2:=(h_ 64 (cv .u32))
abbrev K3:=(h_ 176 (cv .u8))
abbrev K4:=(h_ 16 (cv .u8))
abbrev K5:=(h_ 8 (cv .u32))
abbrev K6:=(h_ 32 (cv .u8))
abbrev K7:=(h_ 4 (cv .u8))
abbrev K8:=(j_ (cv .i64))
abbrev K9:=(j_ (cv .u8))
abbrev OV:=(cv .i64)
abbrev Zs:=(cv .u32)
abbrev C_:=(cv .u8)
end Go.Proofs.YtobbmodjdkcdcaaGreatDoor

import Derived.Test.YtkjlhdndbdenaaaGreatDoorSimD
import Derived.Test.YtkjlhdndbdenaaaGreatDoorRows
set_option autoImplicit true
set_option relaxedAutoImplicit true
set_option linter.all false
set_option maxRecDepth 20000
namespace Go.Proofs.YtkjlhdndbdenaaaGreatDoor
open Go Go.Sim Go.ChangeShapes Go.WideShapes Go.ChangeAt Go.RowKit Go.Proofs.Tryz
abbrev YY:=List Int
theorem J:a=a:=rfl
def U2:=underlying2
def U3:=underlying3
def U5:=underlying5
def U9:=underlying9
def eG:=underlying22
def yK:=underlying23
def bK:=underlying24
def mK:=underlying34
def EJ:=underlying72
def Dn:=underlying92
def DF:=underlying93
def kB:=underlying122
def rA:=underlying149
def CZ:=underlying150
def p_:=underlying164
def mD:=underlying168
def rC:=underlying169
def vC:=underlying170
def oH:=underlying176
def zK:=underlying177
def mE:=underlying193
variable [Fu]
structure bf where
 Masters:List YY
 Epoch:Int
 Nonces:List YY
 Payload:YY
abbrev dq:List (en bf):=[⟨cI (cI (bB .u8)),bf.Masters⟩,⟨bB .i64,bf.Epoch⟩,⟨cI (bG 16 (bB .u8)),bf.Nonces⟩,⟨cI (bB .u8),bf.Payload⟩]
abbrev bt:Kd bf:=h_ dq
structure cm where
 Master:YY
 Left:Int
 Span:Int
 Room:Int
 Num:Int
 Den:Int
 Noise:Int
 Chunks:Int
 Workers:Int
 Cap:Int
 Shards:Int
abbrev nh:List (en cm):=[⟨cI (bB .u8),cm.Master⟩,⟨bB .i64,cm.Left⟩,⟨bB .i64,cm.Span⟩,⟨bB .i64,cm.Room⟩,⟨bB .i64,cm.Num⟩,⟨bB .i64,cm.Den⟩,⟨bB .i64,cm.Noise⟩,⟨bB .i64,cm.Chunks⟩,⟨bB .i64,cm.Workers⟩,⟨bB .i64,cm.Cap⟩,⟨bB .i64,cm.Shards⟩]
abbrev oj:Kd cm:=h_ nh
structure aJ where
 words:YY
 tail:YY
 n:Int
abbrev fC:List (en aJ):=[⟨bG 8 (bB .u32),aJ.words⟩,⟨bG 64 (bB .u8),aJ.tail⟩,⟨bB .u64,aJ.n⟩]
abbrev bl:Kd aJ:=h_ fC
instance:ZK bl (⟨(List.replicate 8 0),(List.replicate 64 0),0⟩:aJ):=zs
structure aG where
 Box:YY
 Mac:YY
 Replay:YY
abbrev dk:List (en aG):=[⟨bG 16 (bB .u8),aG.Box⟩,⟨bG 32 (bB .u8),aG.Mac⟩,⟨bG 32 (bB .u8),aG.Replay⟩]
abbrev bi:Kd aG:=h_ dk
instance:ZK bi (⟨(List.replicate 16 0),(List.replicate 32 0),(List.replicate 32 0)⟩:aG):=zs
structure aN where
 keys:List YY
abbrev fR:List (en aN):=[⟨bG 11 (bG 16 (bB .u8)),aN.keys⟩]
abbrev aK:Kd aN:=h_ fR
instance:ZK aK (⟨(List.replicate 11 (List.replicate 16 0))⟩:aN):=zs
structure aB where
 Round:Int
 Epoch:Int
 Left:Int
abbrev dU:List (en aB):=[⟨bB .i64,aB.Round⟩,⟨bB .i64,aB.Epoch⟩,⟨bB .i64,aB.Left⟩]
abbrev cr:Kd aB:=h_ dU
instance:ZK cr (⟨0,0,0⟩:aB):=zs
structure aP where
 Header:aB
 Cells:List YY
abbrev im:List (en aP):=[⟨cr,aP.Header⟩,⟨cI (cI (bB .u8)),aP.Cells⟩]
abbrev dm:Kd aP:=h_ im
instance:ZK dm (⟨(⟨0,0,0⟩:aB),[]⟩:aP):=zs
structure aF where
 a:Int
 b:Int
abbrev fD:List (en aF):=[⟨bB .u32,aF.a⟩,⟨bB .u32,aF.b⟩]
abbrev cb:Kd aF:=h_ fD
instance:ZK cb (⟨0,0⟩:aF):=zs
structure aL where
 field:YY
 at_:Int
 stage:Int
 left:Int
 header:aB
 sum:aF
 err:Int
 place:Int
abbrev ni:List (en aL):=[⟨cI (bB .u8),aL.field⟩,⟨bB .i64,aL.at_⟩,⟨bB .i64,aL.stage⟩,⟨bB .i64,aL.left⟩,⟨cr,aL.header⟩,⟨cb,aL.sum⟩,⟨bB .i64,aL.err⟩,⟨bB .i64,aL.place⟩]
abbrev vd:Kd aL:=h_ ni
structure aD where
 field:Value
 at_:Int
 stage:Int
 left:Int
 header:aB
 sum:aF
 err:Int
 place:Int
abbrev cd:List (en aD):=[⟨dK,aD.field⟩,⟨bB .i64,aD.at_⟩,⟨bB .i64,aD.stage⟩,⟨bB .i64,aD.left⟩,⟨cr,aD.header⟩,⟨cb,aD.sum⟩,⟨bB .i64,aD.err⟩,⟨bB .i64,aD.place⟩]
abbrev aX:Kd aD:=h_ cd
instance:ZK aX (⟨(.slice none 0 0),0,0,0,(⟨0,0,0⟩:aB),(⟨0,0⟩:aF),0,0⟩:aD):=zs
structure iy where
 Number:Int
 Tags:List YY
abbrev ol:List (en iy):=[⟨bB .i64,iy.Number⟩,⟨cI (bG 16 (bB .u8)),iy.Tags⟩]
abbrev qh:Kd iy:=h_ ol
structure gU where
 Newest:Int
 Epochs:List iy
abbrev nj:List (en gU):=[⟨bB .i64,gU.Newest⟩,⟨cI qh,gU.Epochs⟩]
abbrev om:Kd gU:=h_ nj
structure iA where
 Next:Int
 Window:gU
abbrev oo:List (en iA):=[⟨bB .i64,iA.Next⟩,⟨om,iA.Window⟩]
abbrev qi:Kd iA:=h_ oo
structure eY where
 In:Int
 Malformed:Int
 Replays:Int
 Noise:Int
 Out:Int
abbrev nk:List (en eY):=[⟨bB .i64,eY.In⟩,⟨bB .i64,eY.Malformed⟩,⟨bB .i64,eY.Replays⟩,⟨bB .i64,eY.Noise⟩,⟨bB .i64,eY.Out⟩]
abbrev ot:Kd eY:=h_ nk
structure dV where
 Out:YY
 State:iA
 Report:eY
 Err:Int
 At:Int
abbrev mx:List (en dV):=[⟨cI (bB .u8),dV.Out⟩,⟨qi,dV.State⟩,⟨ot,dV.Report⟩,⟨bB .i64,dV.Err⟩,⟨bB .i64,dV.At⟩]
abbrev jP:Kd dV:=h_ mx
structure aA where
 Head:Bool
 Header:aB
 Cells:List YY
 Place:Int
 Err:Int
abbrev be:List (en aA):=[⟨jg,aA.Head⟩,⟨cr,aA.Header⟩,⟨cI (cI (bB .u8)),aA.Cells⟩,⟨bB .i64,aA.Place⟩,⟨bB .i64,aA.Err⟩]
abbrev aU:Kd aA:=h_ be
instance:ZK aU (⟨false,(⟨0,0,0⟩:aB),[],0,0⟩:aA):=zs
structure aH where
 Head:Bool
 Header:aB
 Cells:Value
 Place:Int
 Err:Int
abbrev cf:List (en aH):=[⟨jg,aH.Head⟩,⟨cr,aH.Header⟩,⟨dK,aH.Cells⟩,⟨bB .i64,aH.Place⟩,⟨bB .i64,aH.Err⟩]
abbrev cQ:Kd aH:=h_ cf
instance:ZK cQ (⟨false,(⟨0,0,0⟩:aB),(.slice none 0 0),0,0⟩:aH):=zs
theorem gu (d:Nat) (e:Bool) (k:bx a n ((d,.raw (.bool e))::E) L (wpList P b Q rest)) (h:bx a n ((d,.raw (.bool e))::E) L (wpList P b Q rest)→bx a n E L (wpList P b Q (o0::o1::o2::o3::rest))):bx a n E L (wpList P b Q (o0::o1::o2::o3::rest)):=h k
theorem vY (d:Nat) (e:Bool) (k:bT a n ((d,.raw (.bool e))::E) (wpQuiet P b C c rest)) (h:bT a n ((d,.raw (.bool e))::E) (wpQuiet P b C c rest)→bT a n E (wpQuiet P b C c (o0::o1::o2::o3::rest))):bT a n E (wpQuiet P b C c (o0::o1::o2::o3::rest)):=h k
theorem nG:(prog.info? 24).map (·.size)=some (Kd.n (cI (bB .u8))):=kr
theorem g_:KT prog 24 (cI (bB .u8)):=kq
theorem f_:AT prog 5 (bB .u8) (0:Int) 1:=aq
theorem bM:(prog.info? 5).map (·.size)=some (Kd.n (bB .u8)):=kr
theorem rG:ET prog 5 (bB .u8) (0:Int):=C4
theorem gl:ZT prog 122 (bG 32 (bB .u8)) (List.replicate 32 (0:Int)):=zq
theorem B_:ZT prog 172 bl (⟨(List.replicate 8 (0:Int)),(List.replicate 64 (0:Int)),0⟩:aJ):=zq
theorem En:ZT prog 170 (bG 64 (bB .u8)) (List.replicate 64 (0:Int)):=zq
theorem DZ:BT prog 172 fC (⟨(List.replicate 8 (0:Int)),(List.replicate 64 (0:Int)),0⟩:aJ):=bq
theorem vH:(prog.info? 172).map (·.size)=some (Kd.n bl):=kr
theorem x9:KT prog 172 bl:=kq
theorem jq:c8 prog 172 2=some (72,0+1):=kr
theorem ep:pE fC 2 ⟨bB .u64,aJ.n⟩ (λx y=>{x with n:=y}):=uq
theorem v3:KT prog 92 (bB .u64):=kq
theorem CW:ZT prog 169 (bG 8 (bB .u32)) (List.replicate 8 (0:Int)):=zq
theorem zE:Dq prog 169 8 (bB .u32) (List.replicate 8 (0:Int)):=DO
theorem qG:(prog.info? 169).map (·.size)=some (Kd.n (bG 8 (bB .u32))):=kr
theorem x2:KT prog 169 (bG 8 (bB .u32)):=kq
theorem nm:c8 prog 172 0=some (0,7+1):=kr
theorem gW:pE fC 0 ⟨bG 8 (bB .u32),aJ.words⟩ (λx y=>{x with words:=y}):=uq
theorem qR:c8 prog 172 1=some (8,63+1):=kr
theorem i8:pE fC 1 ⟨bG 64 (bB .u8),aJ.tail⟩ (λx y=>{x with tail:=y}):=uq
theorem Ep:(prog.info? 92).map (·.size)=some (Kd.n (bB .u64)):=kr
theorem dB:(prog.info? 5).map (·.size)=some (Kd.n (bB .u8)):=kr
theorem zD:KT prog 169 (bG 8 (bB .u32)):=kq
theorem Dv:KT prog 170 (bG 64 (bB .u8)):=kq
theorem xL:ZT prog 193 (bG 64 (bB .u32)) (List.replicate 64 (0:Int)):=zq
theorem gP:KT prog 5 (bB .u8):=kq
theorem cG:(prog.info? 93).map (·.size)=some (Kd.n (bB .u32)):=kr
theorem c6:KT prog 93 (bB .u32):=kq
def kH:YY:=[1116352408,1899447441,3049323471,3921009573,961987163,1508970993,2453635748,2870763221,3624381080,310598401,607225278,1426881987,1925078388,2162078206,2614888103,3248222580,3835390401,4022224774,264347078,604807628,770255983,1249150122,1555081692,1996064986,2554220882,2821834349,2952996808,3210313671,3336571891,3584528711,113926993,338241895,666307205,773529912,1294757372,1396182291,1695183700,1986661051,2177026350,2456956037,2730485921,2820302411,3259730800,3345764771,3516065817,3600352804,4094571909,275423344,430227734,506948616,659060556,883997877,958139571,1322822218,1537002063,1747873779,1955562222,2024104815,2227730452,2361852424,2428436474,2756734187,3204031479,3329325298]
theorem xH:(prog.info? 93).map (·.size)=some (Kd.n (bB .u32)):=kr
theorem uA:KT prog 93 (bB .u32):=kq
theorem DJ:KT prog 172 bl:=kq
theorem Dx:c8 prog 172 0=some (eb fC 0,7+1):=kr
theorem mC:KT prog 122 (bG 32 (bB .u8)):=kq
theorem eD:(prog.info? 122).map (·.size)=some (Kd.n (bG 32 (bB .u8))):=kr
theorem gA:KT prog 5 (bB .u8):=kq
theorem gX (d:Nat) (e:Bool) (k:bx a n ((d,.raw (.bool e))::E) L (wpList P b Q rest)) (h:bx a n ((d,.raw (.bool e))::E) L (wpList P b Q rest)→bx a n E L (wpList P b Q (o0::o1::o2::rest))):bx a n E L (wpList P b Q (o0::o1::o2::rest)):=h k
theorem vZ (d:Nat) (e:Bool) (k:bT a n ((d,.raw (.bool e))::E) (wpQuiet P b C c rest)) (h:bT a n ((d,.raw (.bool e))::E) (wpQuiet P b C c rest)→bT a n E (wpQuiet P b C c (o0::o1::o2::rest))):bT a n E (wpQuiet P b C c (o0::o1::o2::rest)):=h k
theorem v9:ET prog 24 (cI (bB .u8)) []:=C4
theorem wC:AT prog 24 (cI (bB .u8)) [] 24:=aq
theorem zH:(prog.info? 34).map (·.size)=some (Kd.n (bG 16 (bB .u8))):=kr
theorem eC:KT prog 34 (bG 16 (bB .u8)):=kq
theorem wD:ZT prog 130 bi (⟨(List.replicate 16 (0:Int)),(List.replicate 32 (0:Int)),(List.replicate 32 (0:Int))⟩:aG):=zq
theorem y6:BT prog 130 dk (⟨(List.replicate 16 (0:Int)),(List.replicate 32 (0:Int)),(List.replicate 32 (0:Int))⟩:aG):=bq
theorem oG:(prog.info? 130).map (·.size)=some (Kd.n bi):=kr
theorem p9:KT prog 130 bi:=kq
theorem CT:c8 prog 130 0=some (eb dk 0,15+1):=kr
theorem Dm:Dq prog 34 16 (bB .u8) (List.replicate 16 (0:Int)):=DO
theorem zI:ZT prog 152 aK (⟨(List.replicate 11 (List.replicate 16 (0:Int)))⟩:aN):=zq
theorem Em:ZT prog 177 (bG 44 (bG 4 (bB .u8))) (List.replicate 44 (List.replicate 4 (0:Int))):=zq
theorem kb:(prog.info? 176).map (·.size)=some (Kd.n (bG 4 (bB .u8))):=kr
theorem CX:KT prog 176 (bG 4 (bB .u8)):=kq
theorem uG:ZT prog 176 (bG 4 (bB .u8)) (List.replicate 4 (0:Int)):=zq
theorem z6:Dq prog 176 4 (bB .u8) (List.replicate 4 (0:Int)):=DO
theorem Ea:KT prog 177 (bG 44 (bG 4 (bB .u8))):=kq
theorem vK:KT prog 176 (bG 4 (bB .u8)):=kq
theorem uf:c8 prog 152 0=some (0,175+1):=kr
theorem gx:pE fR 0 ⟨bG 11 (bG 16 (bB .u8)),aN.keys⟩ (λx y=>{x with keys:=y}):=uq
theorem gB:(prog.info? 149).map (·.size)=some (Kd.n (bG 16 (bB .u8))):=kr
theorem x6:KT prog 152 aK:=kq
theorem y9:(prog.info? 152).map (·.size)=some (Kd.n aK):=kr
theorem Ei:ZT prog 155 (bG 256 (bB .u8)) (List.replicate 256 (0:Int)):=zq
theorem p8:KT prog 34 (bG 16 (bB .u8)):=kq
theorem nH:ZT prog 34 (bG 16 (bB .u8)) (List.replicate 16 (0:Int)):=zq
theorem uI:c8 prog 152 0=some (eb fR 0,175+1):=kr
theorem yA:(prog.info? 149).map (·.size)=some (Kd.n (bG 16 (bB .u8))):=kr
theorem gM:KT prog 149 (bG 16 (bB .u8)):=kq
theorem qK:ZT prog 149 (bG 16 (bB .u8)) (List.replicate 16 (0:Int)):=zq
theorem qA:KT prog 149 (bG 16 (bB .u8)):=kq
theorem fd:(prog.info? 34).map (·.size)=some (Kd.n (bG 16 (bB .u8))):=kr
theorem x5:c8 prog 130 1=some (eb dk 1,31+1):=kr
theorem nn (d:Nat) (e:Bool) (k:bx a n ((d,.raw (.bool e))::E) L (wpList P b Q rest)) (h:bx a n ((d,.raw (.bool e))::E) L (wpList P b Q rest)→bx a n E L (wpList P b Q (o0::o1::o2::o3::o4::o5::rest))):bx a n E L (wpList P b Q (o0::o1::o2::o3::o4::o5::rest)):=h k
theorem wa (d:Nat) (e:Bool) (k:bT a n ((d,.raw (.bool e))::E) (wpQuiet P b C c rest)) (h:bT a n ((d,.raw (.bool e))::E) (wpQuiet P b C c rest)→bT a n E (wpQuiet P b C c (o0::o1::o2::o3::o4::o5::rest))):bT a n E (wpQuiet P b C c (o0::o1::o2::o3::o4::o5::rest)):=h k
theorem CY:ZT prog 54 dm (⟨(⟨0,0,0⟩:aB),[]⟩:aP):=zq
theorem El:BT prog 95 fD (⟨0,0⟩:aF):=bq
theorem jy:BT prog 103 cd (⟨(.slice none 0 0),0,0,0,(⟨0,0,0⟩:aB),(⟨0,0⟩:aF),0,0⟩:aD):=bq
theorem jr:c8 prog 103 6=some (9,0+1):=kr
theorem cR:pE cd 6 ⟨bB .i64,aD.err⟩ (λx y=>{x with err:=y}):=uq
theorem wB:KT prog 30 (bB .i64):=kq
theorem DD:Dq prog 158 10 (bB .i64) (List.replicate 10 (0:Int)):=DO
theorem fw:c8 prog 103 2=some (2,0+1):=kr
theorem bg:pE cd 2 ⟨bB .i64,aD.stage⟩ (λx y=>{x with stage:=y}):=uq
theorem mH:KT prog 3 (bB .i64):=kq
theorem yJ:KT prog 3 (bB .i64):=kq
theorem f9:c8 prog 103 0=some (0,0+1):=kr
theorem bu:pE cd 0 ⟨dK,aD.field⟩ (λx y=>{x with field:=y}):=uq
theorem oA:KT prog 24 dK:=kq
theorem qI:(prog.info? 24).map (·.size)=some (Kd.n dK):=kr
theorem js:c8 prog 103 1=some (1,0+1):=kr
theorem cS:pE cd 1 ⟨bB .i64,aD.at_⟩ (λx y=>{x with at_:=y}):=uq
theorem hM:(prog.info? 3).map (·.size)=some (Kd.n (bB .i64)):=kr
theorem np:c8 prog 103 5=some (7,1+1):=kr
theorem fx:pE cd 5 ⟨cb,aD.sum⟩ (λx y=>{x with sum:=y}):=uq
theorem Dp:KT prog 95 cb:=kq
theorem D0:c8 prog 95 1=some (eb fD 1,0+1):=kr
theorem Dz:c8 prog 95 0=some (eb fD 0,0+1):=kr
theorem EW:ZT prog 95 cb (⟨0,0⟩:aF):=zq
theorem qj:c8 prog 95 0=some (0,0+1):=kr
theorem gY:pE fD 0 ⟨bB .u32,aF.a⟩ (λx y=>{x with a:=y}):=uq
theorem sE:c8 prog 95 1=some (1,0+1):=kr
theorem i9:pE fD 1 ⟨bB .u32,aF.b⟩ (λx y=>{x with b:=y}):=uq
theorem Ev:KT prog 95 cb:=kq
theorem Ds:(prog.info? 95).map (·.size)=some (Kd.n cb):=kr
abbrev E5:ByteArray:=⟨#[67,72,82,78]⟩
theorem nq:eH (.raw (.string E5)) kG [67,72,82,78]:=FB kr
theorem jQ:c8 prog 103 4=some (4,2+1):=kr
theorem sF:c8 prog 52 2=some (2,0+1):=kr
theorem dN:pE cd 4 ⟨cr,aD.header⟩ (λx y=>{x with header:=y}):=uq
theorem iY:pE dU 2 ⟨bB .i64,aB.Left⟩ (λx y=>{x with Left:=y}):=uq
theorem jR:c8 prog 103 3=some (3,0+1):=kr
theorem dO:pE cd 3 ⟨bB .i64,aD.left⟩ (λx y=>{x with left:=y}):=uq
theorem vj:c8 prog 52 0=some (0,0+1):=kr
theorem lf:pE dU 0 ⟨bB .i64,aB.Round⟩ (λx y=>{x with Round:=y}):=uq
theorem Ex:(prog.info? 2).map (·.size)=some (Kd.n (bB .i64)):=kr
theorem vk:c8 prog 52 1=some (1,0+1):=kr
theorem lh:pE dU 1 ⟨bB .i64,aB.Epoch⟩ (λx y=>{x with Epoch:=y}):=uq
theorem Ed:(prog.info? 30).map (·.size)=some (Kd.n (bB .i64)):=kr
theorem nr:c8 prog 103 7=some (10,0+1):=kr
theorem fy:pE cd 7 ⟨bB .i64,aD.place⟩ (λx y=>{x with place:=y}):=uq
theorem D2:KT prog 52 cr:=kq
theorem yE:BT prog 54 im (⟨(⟨0,0,0⟩:aB),[]⟩:aP):=bq
theorem qJ:(prog.info? 54).map (·.size)=some (Kd.n dm):=kr
theorem CP:KT prog 54 dm:=kq
theorem tj:c8 prog 54 0=some (eb im 0,2+1):=kr
theorem uE:c8 prog 52 2=some (eb dU 2,0+1):=kr
theorem oD:c8 prog 54 1=some (eb im 1,0+1):=kr
theorem qC:KT prog 22 (cI (cI (bB .u8))):=kq
theorem lz (d:Nat) (e:Bool) (k:bx a n ((d,.raw (.bool e))::E) L (wpList P b Q rest)) (h:bx a n ((d,.raw (.bool e))::E) L (wpList P b Q rest)→bx a n E L (wpList P b Q (o0::o1::o2::o3::o4::rest))):bx a n E L (wpList P b Q (o0::o1::o2::o3::o4::rest)):=h k
theorem wb (d:Nat) (e:Bool) (k:bT a n ((d,.raw (.bool e))::E) (wpQuiet P b C c rest)) (h:bT a n ((d,.raw (.bool e))::E) (wpQuiet P b C c rest)→bT a n E (wpQuiet P b C c (o0::o1::o2::o3::o4::rest))):bT a n E (wpQuiet P b C c (o0::o1::o2::o3::o4::rest)):=h k
theorem x_:c8 prog 26 0=some (eb dq 0,0+1):=kr
theorem vD:c8 prog 26 2=some (eb dq 2,0+1):=kr
theorem C7:KT prog 23 (cI (bG 16 (bB .u8))):=kq
theorem mI:c8 prog 26 3=some (eb dq 3,0+1):=kr
theorem xJ:c8 prog 26 1=some (eb dq 1,0+1):=kr
theorem Dg:KT prog 2 (bB .i64):=kq
theorem z2:Dq prog 168 8 (bB .u32) (List.replicate 8 (0:Int)):=DO
theorem zJ:ZT prog 168 (bG 8 (bB .u32)) (List.replicate 8 (0:Int)):=zq
theorem rK:(prog.info? 168).map (·.size)=some (Kd.n (bG 8 (bB .u32))):=kr
theorem Dy:Dq prog 193 64 (bB .u32) (List.replicate 64 (0:Int)):=DO
theorem CR:(prog.info? 193).map (·.size)=some (Kd.n (bG 64 (bB .u32))):=kr
theorem Do:KT prog 193 (bG 64 (bB .u32)):=kq
theorem y8:KT prog 168 (bG 8 (bB .u32)):=kq
theorem Dl:KT prog 168 (bG 8 (bB .u32)):=kq
theorem ug:c8 prog 130 0=some (0,15+1):=kr
theorem gZ:pE dk 0 ⟨bG 16 (bB .u8),aG.Box⟩ (λx y=>{x with Box:=y}):=uq
theorem uh:c8 prog 130 1=some (16,31+1):=kr
theorem g6:pE dk 1 ⟨bG 32 (bB .u8),aG.Mac⟩ (λx y=>{x with Mac:=y}):=uq
theorem ui:c8 prog 130 2=some (48,31+1):=kr
theorem g7:pE dk 2 ⟨bG 32 (bB .u8),aG.Replay⟩ (λx y=>{x with Replay:=y}):=uq
theorem z_:ZT prog 164 (bG 176 (bB .u8)) (List.replicate 176 (0:Int)):=zq
abbrev E3:ByteArray:=⟨#[99,124,119,123,242,107,111,197,48,1,103,43,254,215,171,118,202,130,201,125,250,89,71,240,173,212,162,175,156,164,114,192,183,253,147,38,54,63,247,204,52,165,229,241,113,216,49,21,4,199,35,195,24,150,5,154,7,18,128,226,235,39,178,117,9,131,44,26,27,110,90,160,82,59,214,179,41,227,47,132,83,209,0,237,32,252,177,91,106,203,190,57,74,76,88,207,208,239,170,251,67,77,51,133,69,249,2,127,80,60,159,168,81,163,64,143,146,157,56,245,188,182,218,33,16,255,243,210,205,12,19,236,95,151,68,23,196,167,126,61,100,93,25,115,96,129,79,220,34,42,144,136,70,238,184,20,222,94,11,219,224,50,58,10,73,6,36,92,194,211,172,98,145,149,228,121,231,200,55,109,141,213,78,169,108,86,244,234,101,122,174,8,186,120,37,46,28,166,180,198,232,221,116,31,75,189,139,138,112,62,181,102,72,3,246,14,97,53,87,185,134,193,29,158,225,248,152,17,105,217,142,148,155,30,135,233,206,85,40,223,140,161,137,13,191,230,66,104,65,153,45,15,176,84,187,22]⟩
theorem jS:eH (.raw (.string E3)) kG [99,124,119,123,242,107,111,197,48,1,103,43,254,215,171,118,202,130,201,125,250,89,71,240,173,212,162,175,156,164,114,192,183,253,147,38,54,63,247,204,52,165,229,241,113,216,49,21,4,199,35,195,24,150,5,154,7,18,128,226,235,39,178,117,9,131,44,26,27,110,90,160,82,59,214,179,41,227,47,132,83,209,0,237,32,252,177,91,106,203,190,57,74,76,88,207,208,239,170,251,67,77,51,133,69,249,2,127,80,60,159,168,81,163,64,143,146,157,56,245,188,182,218,33,16,255,243,210,205,12,19,236,95,151,68,23,196,167,126,61,100,93,25,115,96,129,79,220,34,42,144,136,70,238,184,20,222,94,11,219,224,50,58,10,73,6,36,92,194,211,172,98,145,149,228,121,231,200,55,109,141,213,78,169,108,86,244,234,101,122,174,8,186,120,37,46,28,166,180,198,232,221,116,31,75,189,139,138,112,62,181,102,72,3,246,14,97,53,87,185,134,193,29,158,225,248,152,17,105,217,142,148,155,30,135,233,206,85,40,223,140,161,137,13,191,230,66,104,65,153,45,15,176,84,187,22]:=FB kr
def fo:YY:=[99,124,119,123,242,107,111,197,48,1,103,43,254,215,171,118,202,130,201,125,250,89,71,240,173,212,162,175,156,164,114,192,183,253,147,38,54,63,247,204,52,165,229,241,113,216,49,21,4,199,35,195,24,150,5,154,7,18,128,226,235,39,178,117,9,131,44,26,27,110,90,160,82,59,214,179,41,227,47,132,83,209,0,237,32,252,177,91,106,203,190,57,74,76,88,207,208,239,170,251,67,77,51,133,69,249,2,127,80,60,159,168,81,163,64,143,146,157,56,245,188,182,218,33,16,255,243,210,205,12,19,236,95,151,68,23,196,167,126,61,100,93,25,115,96,129,79,220,34,42,144,136,70,238,184,20,222,94,11,219,224,50,58,10,73,6,36,92,194,211,172,98,145,149,228,121,231,200,55,109,141,213,78,169,108,86,244,234,101,122,174,8,186,120,37,46,28,166,180,198,232,221,116,31,75,189,139,138,112,62,181,102,72,3,246,14,97,53,87,185,134,193,29,158,225,248,152,17,105,217,142,148,155,30,135,233,206,85,40,223,140,161,137,13,191,230,66,104,65,153,45,15,176,84,187,22]
theorem wI:KT prog 164 (bG 176 (bB .u8)):=kq
theorem y7:(prog.info? 164).map (·.size)=some (Kd.n (bG 176 (bB .u8))):=kr
theorem EX:AT prog 34 (bG 16 (bB .u8)) (List.replicate 16 (0:Int)) 16:=aq
theorem EY:uH prog 5 (bB .u8) 1:=uH.int U5
theorem D3:uH prog 34 (bG 16 (bB .u8)) 2:=uH.arr EY gP mK
theorem EA:prog.eqGuardType prog.depth 34=false:=kr
theorem D7:BT prog 52 dU (⟨0,0,0⟩:aB):=bq
theorem Ec:KT prog 52 cr:=kq
theorem xB:c8 prog 52 0=some (eb dU 0,0+1):=kr
theorem xD:c8 prog 52 1=some (eb dU 1,0+1):=kr
abbrev et:YY→Value→Value:=λ_ q=>q
abbrev eu:YY→YY:=λx=>x
theorem mz:ek dK:=ek.raw
theorem iB:ek (bB .u8):=ek.int
theorem vN:∀F x q,(cI (bB .u8)).val F q (eu x)→∀cs,dK.rd F cs (et x q)→(cI (bB .u8)).rd F cs x:=λF x q a=>oc a
theorem DY:ET prog 24 dK (.slice none 0 0):=C4
theorem Eb:AT prog 24 dK (.slice none 0 0) 24:=aq
theorem y_:ZT prog 106 aU (⟨false,(⟨0,0,0⟩:aB),[],0,0⟩:aA):=zq
theorem DL:ZT prog 106 cQ (⟨false,(⟨0,0,0⟩:aB),(.slice none 0 0),0,0⟩:aH):=zq
theorem GE:ET prog 3 (bB .i64) (0:Int):=C4
theorem FH:(prog.info? 3).map (·.size)=some (Kd.n (bB .i64)):=kr
theorem iN:c8 prog 106 3=some (5,0+1):=kr
theorem cO:pE cf 3 ⟨bB .i64,aH.Place⟩ (λx y=>{x with Place:=y}):=uq
theorem iO:c8 prog 106 4=some (6,0+1):=kr
theorem cP:pE cf 4 ⟨bB .i64,aH.Err⟩ (λx y=>{x with Err:=y}):=uq
theorem gN:KT prog 106 aU:=kq
theorem kI:(prog.info? 106).map (·.size)=some (Kd.n aU):=kr
theorem uj:c8 prog 106 0=some (0,0+1):=kr
theorem ik:pE cf 0 ⟨jg,aH.Head⟩ (λx y=>{x with Head:=y}):=uq
theorem E7:(prog.info? 4).map (·.size)=some (Kd.n jg):=kr
theorem uk:c8 prog 106 1=some (1,2+1):=kr
theorem il:pE cf 1 ⟨cr,aH.Header⟩ (λx y=>{x with Header:=y}):=uq
theorem ED:(prog.info? 52).map (·.size)=some (Kd.n cr):=kr
theorem qS:c8 prog 106 2=some (4,0+1):=kr
theorem fl:pE cf 2 ⟨dK,aH.Cells⟩ (λx y=>{x with Cells:=y}):=uq
theorem Ey:KT prog 22 dK:=kq
theorem EC:(prog.info? 22).map (·.size)=some (Kd.n dK):=kr
theorem eR:pE be 3 ⟨bB .i64,aA.Place⟩ (λx y=>{x with Place:=y}):=uq
theorem eS:pE be 4 ⟨bB .i64,aA.Err⟩ (λx y=>{x with Err:=y}):=uq
theorem C0:c8 prog 106 4=some (eb be 4,0+1):=kr
theorem Dd:c8 prog 106 3=some (eb be 3,0+1):=kr
theorem C6:c8 prog 106 1=some (eb be 1,2+1):=kr
theorem Db:c8 prog 106 2=some (eb be 2,0+1):=kr
theorem FQ:qH prog 5 (bB .u8) (pH .u8) q4:=tW U5
theorem Ek:prog.cellsOf 5=1:=kr
theorem EE:qH prog 24 (cI (bB .u8)) (x8 (pH .u8)) (z3 q4):=tX (K:=bB .u8) bK Ek (by decide) FQ
theorem Du:prog.cellsOf 24=1:=kr
theorem D6:qH prog 22 (cI (cI (bB .u8))) (x8 (x8 (pH .u8))) (z3 (z3 q4)):=tX (K:=cI (bB .u8)) eG Du (by decide) EE
theorem Gp:qH prog 2 (bB .i64) (pH .i64) q4:=tW U2
theorem Dk:prog.cellsOf 34=16:=kr
theorem Fn:qH prog 34 (bG 16 (bB .u8)) (Da 16 (pH .u8)) (C_ q4):=vF (K:=bB .u8) mK Dk Ek FQ
theorem Fr:qH prog 23 (cI (bG 16 (bB .u8))) (x8 (Da 16 (pH .u8))) (z3 (C_ q4)):=tX (K:=bG 16 (bB .u8)) yK Dk (by decide) Fn
theorem Ej:prog.cellsOf 22=1:=kr
theorem E8:prog.cellsOf 2=1:=kr
theorem Ee:prog.cellsOf 23=1:=kr
theorem Ew:prog.cellsOf 26=4:=kr
def fp (x:bf):Prop:=(x8 (x8 (pH .u8))) x.Masters∧(pH .i64) x.Epoch∧(x8 (Da 16 (pH .u8))) x.Nonces∧(x8 (pH .u8)) x.Payload∧True
def fq (x:bf):Nat:=(z3 (z3 q4)) x.Masters+(q4 x.Epoch+((z3 (C_ q4)) x.Nonces+((z3 q4) x.Payload+0)))
theorem Fh:qH prog 26 bt fp fq:=by intro H enc W _ B BA hB fuel cs x h;obtain⟨hl,ds,hx,hf0⟩:=uS underlying26 h;obtain⟨d0,ds0,e0,⟨n0,p0,t0⟩,hf1⟩:=rD.cons hf0;subst e0;obtain⟨y0,r0,g0,b0⟩:=D6 hB t0;obtain⟨d1,ds1,e1,⟨n1,p1,t1⟩,hf2⟩:=rD.cons hf1;subst e1;obtain⟨y1,r1,g1,b1⟩:=Gp hB t1;obtain⟨d2,ds2,e2,⟨n2,p2,t2⟩,hf3⟩:=rD.cons hf2;subst e2;obtain⟨y2,r2,g2,b2⟩:=Fr hB t2;obtain⟨d3,ds3,e3,⟨n3,p3,t3⟩,hf4⟩:=rD.cons hf3;subst e3;obtain⟨y3,r3,g3,b3⟩:=EE hB t3;have hnil:=rD.nil hf4;subst hnil;refine⟨⟨y0,y1,y2,y3⟩,sw (kd Ej r0 (kd E8 r1 (kd Ee r2 (kd Du r3 (uT (hl.trans Ew) J))))),⟨g0,g1,g2,g3,trivial⟩,?_⟩;have:=hB.agg [d0,d1,d2,d3];rw[hx];dsimp only at b0 b1 b2 b3;simp only[hB.cons,hB.nil] at this;simp only[fq];omega
theorem Fa:KT prog 26 bt:=kq
abbrev K0:=(cI (bG 16 (bB .u8)))
abbrev K1:=(cI (cI (bB .u8)))
abbrev K2:=(bG 64 (bB .u32))
abbrev K3:=(bG 176 (bB .u8))
abbrev K4:=(bG 8 (bB .u32))
abbrev K5:=(bG 32 (bB .u8))
abbrev K6:=(bG 16 (bB .u8))
abbrev K7:=(bG 4 (bB .u8))
abbrev K8:=(cI (bB .u8))
abbrev K9:=(bB .u32)
abbrev cB:=(bB .u8)
end Go.Proofs.YtkjlhdndbdenaaaGreatDoor

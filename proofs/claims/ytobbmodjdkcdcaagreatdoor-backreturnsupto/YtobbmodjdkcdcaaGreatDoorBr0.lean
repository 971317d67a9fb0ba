import Derived.Test.YtobbmodjdkcdcaaGreatDoorSimD
import Derived.Test.YtobbmodjdkcdcaaGreatDoorRows
import Derived.Test.YtobbmodjdkcdcaaGreatDoorLawSrt
set_option linter.unusedVariables false
set_option linter.unusedSimpArgs false
set_option maxRecDepth 20000
namespace Go.Proofs.YtobbmodjdkcdcaaGreatDoor
open Go Go.Sim Go.ChangeShapes Go.WideShapes Go.ChangeAt Go.RowKit
set_option linter.unusedSectionVars false
variable [Fu]
structure ab where
 Round:Int
 Epoch:Int
 Left:Int
abbrev eL:List (Fld ab):=[⟨kInt .i64,ab.Round⟩,⟨kInt .i64,ab.Epoch⟩,⟨kInt .i64,ab.Left⟩]
abbrev bu:Kd ab:=kSt eL
structure ao where
 Header:ab
 Cells:List (List Int)
abbrev gn:List (Fld ao):=[⟨bu,ao.Header⟩,⟨kSl (kSl (kInt .u8)),ao.Cells⟩]
abbrev aV:Kd ao:=kSt gn
structure aK where
 Header:ab
 Count:Int
 From:List Int
 Nonces:List (List Int)
abbrev fg:List (Fld aK):=[⟨bu,aK.Header⟩,⟨kInt .i64,aK.Count⟩,⟨kSl (kInt .i64),aK.From⟩,⟨kSl (kArr 16 (kInt .u8)),aK.Nonces⟩]
abbrev aI:Kd aK:=kSt fg
structure aQ where
 Noise:List Int
 Braid:List Int
 Chunks:List (List Int)
abbrev gp:List (Fld aQ):=[⟨kSl (kInt .u8),aQ.Noise⟩,⟨kSl (kInt .u8),aQ.Braid⟩,⟨kSl (kSl (kInt .u8)),aQ.Chunks⟩]
abbrev dZ:Kd aQ:=kSt gp
structure aA where
 Number:Int
 Tags:List (List Int)
abbrev fU:List (Fld aA):=[⟨kInt .i64,aA.Number⟩,⟨kSl (kArr 16 (kInt .u8)),aA.Tags⟩]
abbrev bc:Kd aA:=kSt fU
structure ah where
 Newest:Int
 Epochs:List aA
abbrev dh:List (Fld ah):=[⟨kInt .i64,ah.Newest⟩,⟨kSl bc,ah.Epochs⟩]
abbrev am:Kd ah:=kSt dh
structure aB where
 Master:List Int
 Left:Int
 Span:Int
 Room:Int
 Num:Int
 Den:Int
 Noise:Int
 Chunks:Int
 Workers:Int
 Cap:Int
 Shards:Int
abbrev cF:List (Fld aB):=[⟨kSl (kInt .u8),aB.Master⟩,⟨kInt .i64,aB.Left⟩,⟨kInt .i64,aB.Span⟩,⟨kInt .i64,aB.Room⟩,⟨kInt .i64,aB.Num⟩,⟨kInt .i64,aB.Den⟩,⟨kInt .i64,aB.Noise⟩,⟨kInt .i64,aB.Chunks⟩,⟨kInt .i64,aB.Workers⟩,⟨kInt .i64,aB.Cap⟩,⟨kInt .i64,aB.Shards⟩]
abbrev aJ:Kd aB:=kSt cF
structure cg where
 C:aB
 M:aK
 Raw:List Int
abbrev fE:List (Fld cg):=[⟨aJ,cg.C⟩,⟨aI,cg.M⟩,⟨kSl (kInt .u8),cg.Raw⟩]
abbrev eS:Kd cg:=kSt fE
structure aL where
 Next:Int
 Window:ah
abbrev gt:List (Fld aL):=[⟨kInt .i64,aL.Next⟩,⟨am,aL.Window⟩]
abbrev bT:Kd aL:=kSt gt
structure av where
 In:Int
 Malformed:Int
 Replays:Int
 Noise:Int
 Out:Int
abbrev gS:List (Fld av):=[⟨kInt .i64,av.In⟩,⟨kInt .i64,av.Malformed⟩,⟨kInt .i64,av.Replays⟩,⟨kInt .i64,av.Noise⟩,⟨kInt .i64,av.Out⟩]
abbrev dm:Kd av:=kSt gS
structure aO where
 Out:List Int
 State:aL
 Report:av
 Err:Int
 At:Int
abbrev gf:List (Fld aO):=[⟨kSl (kInt .u8),aO.Out⟩,⟨bT,aO.State⟩,⟨dm,aO.Report⟩,⟨kInt .i64,aO.Err⟩,⟨kInt .i64,aO.At⟩]
abbrev aT:Kd aO:=kSt gf
structure ak where
 a:Int
 b:Int
abbrev gu:List (Fld ak):=[⟨kInt .u32,ak.a⟩,⟨kInt .u32,ak.b⟩]
abbrev cO:Kd ak:=kSt gu
structure aD where
 field:List Int
 at_:Int
 stage:Int
 left:Int
 header:ab
 sum:ak
 err:Int
 place:Int
abbrev sY:List (Fld aD):=[⟨kSl (kInt .u8),aD.field⟩,⟨kInt .i64,aD.at_⟩,⟨kInt .i64,aD.stage⟩,⟨kInt .i64,aD.left⟩,⟨bu,aD.header⟩,⟨cO,aD.sum⟩,⟨kInt .i64,aD.err⟩,⟨kInt .i64,aD.place⟩]
abbrev Aw:Kd aD:=kSt sY
structure aj where
 field:Value
 at_:Int
 stage:Int
 left:Int
 header:ab
 sum:ak
 err:Int
 place:Int
abbrev cu:List (Fld aj):=[⟨kRaw,aj.field⟩,⟨kInt .i64,aj.at_⟩,⟨kInt .i64,aj.stage⟩,⟨kInt .i64,aj.left⟩,⟨bu,aj.header⟩,⟨cO,aj.sum⟩,⟨kInt .i64,aj.err⟩,⟨kInt .i64,aj.place⟩]
abbrev bj:Kd aj:=kSt cu
structure aF where
 Newest:Int
 Epochs:Value
abbrev ed:List (Fld aF):=[⟨kInt .i64,aF.Newest⟩,⟨kRaw,aF.Epochs⟩]
abbrev bw:Kd aF:=kSt ed
structure dR where
 Next:Int
 Window:aF
abbrev iZ:List (Fld dR):=[⟨kInt .i64,dR.Next⟩,⟨bw,dR.Window⟩]
abbrev ql:Kd dR:=kSt iZ
structure dx where
 Cell:List Int
 Replay:List Int
abbrev lJ:List (Fld dx):=[⟨kSl (kInt .u8),dx.Cell⟩,⟨kArr 16 (kInt .u8),dx.Replay⟩]
abbrev dn:Kd dx:=kSt lJ
structure az where
 words:List Int
 tail:List Int
 n:Int
abbrev gv:List (Fld az):=[⟨kArr 8 (kInt .u32),az.words⟩,⟨kArr 64 (kInt .u8),az.tail⟩,⟨kInt .u64,az.n⟩]
abbrev bY:Kd az:=kSt gv
structure ci where
 Noise:List Int
 Braid:List Int
 Chunks:Value
abbrev iH:List (Fld ci):=[⟨kSl (kInt .u8),ci.Noise⟩,⟨kSl (kInt .u8),ci.Braid⟩,⟨kRaw,ci.Chunks⟩]
abbrev fy:Kd ci:=kSt iH
structure aN where
 keys:List (List Int)
abbrev i8:List (Fld aN):=[⟨kArr 11 (kArr 16 (kInt .u8)),aN.keys⟩]
abbrev aC:Kd aN:=kSt i8
structure bU where
 parts:aQ
 sizes:List Int
 starts:List Int
abbrev eM:List (Fld bU):=[⟨dZ,bU.parts⟩,⟨kSl (kInt .i64),bU.sizes⟩,⟨kSl (kInt .i64),bU.starts⟩]
abbrev gw:Kd bU:=kSt eM
structure bp where
 parts:aQ
 sizes:List Int
 starts:Value
abbrev fc:List (Fld bp):=[⟨dZ,bp.parts⟩,⟨kSl (kInt .i64),bp.sizes⟩,⟨kRaw,bp.starts⟩]
abbrev gx:Kd bp:=kSt fc
structure aX where
 bytes:List Int
 used:Int
abbrev jq:List (Fld aX):=[⟨kStr,aX.bytes⟩,⟨kInt .i64,aX.used⟩]
abbrev cd:Kd aX:=kSt jq
structure au where
 Number:Int
 Tags:Value
abbrev gy:List (Fld au):=[⟨kInt .i64,au.Number⟩,⟨kRaw,au.Tags⟩]
abbrev aH:Kd au:=kSt gy
structure aP where
 Header:ab
 Count:Int
 From:Value
 Nonces:Value
abbrev dV:List (Fld aP):=[⟨bu,aP.Header⟩,⟨kInt .i64,aP.Count⟩,⟨kRaw,aP.From⟩,⟨kRaw,aP.Nonces⟩]
abbrev cw:Kd aP:=kSt dV
structure fA where
 Header:ab
 Count:Int
 From:List Int
 Nonces:Value
abbrev mg:List (Fld fA):=[⟨bu,fA.Header⟩,⟨kInt .i64,fA.Count⟩,⟨kSl (kInt .i64),fA.From⟩,⟨kRaw,fA.Nonces⟩]
abbrev yh:Kd fA:=kSt mg
structure aY where
 Header:ab
 Cells:Value
abbrev gz:List (Fld aY):=[⟨bu,aY.Header⟩,⟨kRaw,aY.Cells⟩]
abbrev cc:Kd aY:=kSt gz
structure an where
 Box:List Int
 Mac:List Int
 Replay:List Int
abbrev dp:List (Fld an):=[⟨kArr 16 (kInt .u8),an.Box⟩,⟨kArr 32 (kInt .u8),an.Mac⟩,⟨kArr 32 (kInt .u8),an.Replay⟩]
abbrev bS:Kd an:=kSt dp
structure ae where
 Head:Bool
 Header:ab
 Cells:List (List Int)
 Place:Int
 Err:Int
abbrev bz:List (Fld ae):=[⟨jJ,ae.Head⟩,⟨bu,ae.Header⟩,⟨kSl (kSl (kInt .u8)),ae.Cells⟩,⟨kInt .i64,ae.Place⟩,⟨kInt .i64,ae.Err⟩]
abbrev be:Kd ae:=kSt bz
structure aq where
 Head:Bool
 Header:ab
 Cells:Value
 Place:Int
 Err:Int
abbrev cP:List (Fld aq):=[⟨jJ,aq.Head⟩,⟨bu,aq.Header⟩,⟨kRaw,aq.Cells⟩,⟨kInt .i64,aq.Place⟩,⟨kInt .i64,aq.Err⟩]
abbrev dv:Kd aq:=kSt cP
theorem nn (F:Fz):Kd.rd aJ F ([.slice none 0 0,.int .i64 0,.int .i64 0,.int .i64 0,.int .i64 0,.int .i64 0,.int .i64 0,.int .i64 0,.int .i64 0,.int .i64 0,.int .i64 0]:List Value) (⟨[],(0:Int),(0:Int),(0:Int),(0:Int),(0:Int),(0:Int),(0:Int),(0:Int),(0:Int),(0:Int)⟩:aB):=⟨[.slice none 0 0],[.int .i64 0,.int .i64 0,.int .i64 0,.int .i64 0,.int .i64 0,.int .i64 0,.int .i64 0,.int .i64 0,.int .i64 0,.int .i64 0],rfl,⟨none,0,rfl,Nat.le_refl _,.inl rfl⟩,⟨[.int .i64 0],[.int .i64 0,.int .i64 0,.int .i64 0,.int .i64 0,.int .i64 0,.int .i64 0,.int .i64 0,.int .i64 0,.int .i64 0],rfl,rfl,⟨[.int .i64 0],[.int .i64 0,.int .i64 0,.int .i64 0,.int .i64 0,.int .i64 0,.int .i64 0,.int .i64 0,.int .i64 0],rfl,rfl,⟨[.int .i64 0],[.int .i64 0,.int .i64 0,.int .i64 0,.int .i64 0,.int .i64 0,.int .i64 0,.int .i64 0],rfl,rfl,⟨[.int .i64 0],[.int .i64 0,.int .i64 0,.int .i64 0,.int .i64 0,.int .i64 0,.int .i64 0],rfl,rfl,⟨[.int .i64 0],[.int .i64 0,.int .i64 0,.int .i64 0,.int .i64 0,.int .i64 0],rfl,rfl,⟨[.int .i64 0],[.int .i64 0,.int .i64 0,.int .i64 0,.int .i64 0],rfl,rfl,⟨[.int .i64 0],[.int .i64 0,.int .i64 0,.int .i64 0],rfl,rfl,⟨[.int .i64 0],[.int .i64 0,.int .i64 0],rfl,rfl,⟨[.int .i64 0],[.int .i64 0],rfl,rfl,⟨[.int .i64 0],[],rfl,rfl,rfl⟩⟩⟩⟩⟩⟩⟩⟩⟩⟩⟩
theorem ZT24:ZT Tryz.prog 24 aJ (⟨[],(0:Int),(0:Int),(0:Int),(0:Int),(0:Int),(0:Int),(0:Int),(0:Int),(0:Int),(0:Int)⟩:aB):=⟨(.agg (List.replicate 1 (.slice none 0 0:Value)++List.replicate 10 (.int .i64 0:Value)).toArray:Value),by kernel_rfl,fun F=>aG (by kernel_rfl) (nn F)⟩
theorem sg (F:Fz):Kd.rd (kInt .u8) F [.int .u8 0] (0:Int):=rfl
theorem AT5:AT Tryz.prog 5 (kInt .u8) (0:Int) 1:=⟨⟨Tryz.t5,(.int .u8 0:Value),by kernel_rfl,by kernel_rfl,by kernel_rfl,by kernel_rfl,by decide,by decide,fun F=>aG (by kernel_rfl) (sg F)⟩⟩
theorem BT24:BT Tryz.prog 24 cF (⟨[],(0:Int),(0:Int),(0:Int),(0:Int),(0:Int),(0:Int),(0:Int),(0:Int),(0:Int),(0:Int)⟩:aB):=⟨⟨Tryz.t24,(.agg (List.replicate 1 (.slice none 0 0:Value)++List.replicate 10 (.int .i64 0:Value)).toArray:Value),_,[(0,1),(1,1),(2,1),(3,1),(4,1),(5,1),(6,1),(7,1),(8,1),(9,1),(10,1)],by kernel_rfl,by kernel_rfl,Tryz.underlying24,by kernel_rfl,fun i f h=>match i,f,h with
 |0,f,h=>by cases h;rfl
 |1,f,h=>by cases h;rfl
 |2,f,h=>by cases h;rfl
 |3,f,h=>by cases h;rfl
 |4,f,h=>by cases h;rfl
 |5,f,h=>by cases h;rfl
 |6,f,h=>by cases h;rfl
 |7,f,h=>by cases h;rfl
 |8,f,h=>by cases h;rfl
 |9,f,h=>by cases h;rfl
 |10,f,h=>by cases h;rfl
 |(_+11),f,h=>by simp[cF] at h,fun F=>bW (by kernel_rfl) (nn F)⟩⟩
theorem sz24k:(Tryz.prog.info? 24).map (·.size)=some (Kd.n aJ):=by kernel_rfl
theorem kt24:KT Tryz.prog 24 aJ:=⟨by kernel_rfl,by kernel_rfl⟩
theorem lK (F:Fz):Kd.rd bT F ([.int .i64 0]++([.int .i64 0]++[.slice none 0 0]++[])++[]) (⟨(0:Int),(⟨(0:Int),[]⟩:ah)⟩:aL):=⟨[.int .i64 0],_,rfl,rfl,⟨([.int .i64 0]++[.slice none 0 0]++[]),_,rfl,⟨[.int .i64 0],_,rfl,rfl,⟨[.slice none 0 0],_,rfl,⟨none,0,rfl,Nat.le_refl _,.inl rfl⟩,rfl⟩⟩,rfl⟩⟩
theorem BT29:BT Tryz.prog 29 gt (⟨(0:Int),(⟨(0:Int),[]⟩:ah)⟩:aL):=⟨⟨Tryz.t29,(.agg #[.int .i64 0,.int .i64 0,.slice none 0 0]:Value),_,[(0,1),(1,2)],by kernel_rfl,by kernel_rfl,Tryz.underlying29,by kernel_rfl,fun i f h=>match i,f,h with
 |0,f,h=>by cases h;rfl
 |1,f,h=>by cases h;rfl
 |(_+2),f,h=>by simp[gt] at h,fun F=>bW (by kernel_rfl) (lK F)⟩⟩
theorem ET5:ET Tryz.prog 5 (kInt .u8) (0:Int):=⟨⟨Tryz.t5,(.int .u8 0:Value),by kernel_rfl,by kernel_rfl,by kernel_rfl,by decide,fun F=>aG (by kernel_rfl) (sg F)⟩⟩
theorem kT (F:Fz):Kd.rd dm F ([.int .i64 0]++[.int .i64 0]++[.int .i64 0]++[.int .i64 0]++[.int .i64 0]++[]) (⟨(0:Int),(0:Int),(0:Int),(0:Int),(0:Int)⟩:av):=⟨[.int .i64 0],_,rfl,rfl,⟨[.int .i64 0],_,rfl,rfl,⟨[.int .i64 0],_,rfl,rfl,⟨[.int .i64 0],_,rfl,rfl,⟨[.int .i64 0],_,rfl,rfl,rfl⟩⟩⟩⟩⟩
theorem mn (F:Fz):Kd.rd aT F ([.slice none 0 0,.int .i64 0,.int .i64 0,.slice none 0 0,.int .i64 0,.int .i64 0,.int .i64 0,.int .i64 0,.int .i64 0,.int .i64 0,.int .i64 0]:List Value) (⟨[],(⟨(0:Int),(⟨(0:Int),[]⟩:ah)⟩:aL),(⟨(0:Int),(0:Int),(0:Int),(0:Int),(0:Int)⟩:av),(0:Int),(0:Int)⟩:aO):=⟨[.slice none 0 0],[.int .i64 0,.int .i64 0,.slice none 0 0,.int .i64 0,.int .i64 0,.int .i64 0,.int .i64 0,.int .i64 0,.int .i64 0,.int .i64 0],rfl,⟨none,0,rfl,Nat.le_refl _,.inl rfl⟩,⟨([.int .i64 0]++([.int .i64 0]++[.slice none 0 0]++[])++[]),[.int .i64 0,.int .i64 0,.int .i64 0,.int .i64 0,.int .i64 0,.int .i64 0,.int .i64 0],rfl,lK F,⟨([.int .i64 0]++[.int .i64 0]++[.int .i64 0]++[.int .i64 0]++[.int .i64 0]++[]),[.int .i64 0,.int .i64 0],rfl,kT F,⟨[.int .i64 0],[.int .i64 0],rfl,rfl,⟨[.int .i64 0],[],rfl,rfl,rfl⟩⟩⟩⟩⟩
theorem ZT37:ZT Tryz.prog 37 aT (⟨[],(⟨(0:Int),(⟨(0:Int),[]⟩:ah)⟩:aL),(⟨(0:Int),(0:Int),(0:Int),(0:Int),(0:Int)⟩:av),(0:Int),(0:Int)⟩:aO):=⟨(.agg (List.replicate 1 (.slice none 0 0:Value)++List.replicate 2 (.int .i64 0:Value)++List.replicate 1 (.slice none 0 0:Value)++List.replicate 7 (.int .i64 0:Value)).toArray:Value),by kernel_rfl,fun F=>aG (by kernel_rfl) (mn F)⟩
theorem np (F:Fz):Kd.rd aI F (([.int .i64 0]++[.int .i64 0]++[.int .i64 0]++[])++[.int .i64 0]++[.slice none 0 0]++[.slice none 0 0]++[]) (⟨(⟨(0:Int),(0:Int),(0:Int)⟩:ab),(0:Int),[],[]⟩:aK):=⟨([.int .i64 0]++[.int .i64 0]++[.int .i64 0]++[]),_,rfl,⟨[.int .i64 0],_,rfl,rfl,⟨[.int .i64 0],_,rfl,rfl,⟨[.int .i64 0],_,rfl,rfl,rfl⟩⟩⟩,⟨[.int .i64 0],_,rfl,rfl,⟨[.slice none 0 0],_,rfl,⟨none,0,rfl,Nat.le_refl _,.inl rfl⟩,⟨[.slice none 0 0],_,rfl,⟨none,0,rfl,Nat.le_refl _,.inl rfl⟩,rfl⟩⟩⟩⟩
theorem ZT87:ZT Tryz.prog 87 aI (⟨(⟨(0:Int),(0:Int),(0:Int)⟩:ab),(0:Int),[],[]⟩:aK):=⟨(.agg #[.int .i64 0,.int .i64 0,.int .i64 0,.int .i64 0,.slice none 0 0,.slice none 0 0]:Value),by kernel_rfl,fun F=>aG (by kernel_rfl) (np F)⟩
theorem kt29:KT Tryz.prog 29 bT:=⟨by kernel_rfl,by kernel_rfl⟩
theorem oe (F:Fz):Kd.rd aV F (([.int .i64 0]++[.int .i64 0]++[.int .i64 0]++[])++[.slice none 0 0]++[]) (⟨(⟨(0:Int),(0:Int),(0:Int)⟩:ab),[]⟩:ao):=⟨([.int .i64 0]++[.int .i64 0]++[.int .i64 0]++[]),_,rfl,⟨[.int .i64 0],_,rfl,rfl,⟨[.int .i64 0],_,rfl,rfl,⟨[.int .i64 0],_,rfl,rfl,rfl⟩⟩⟩,⟨[.slice none 0 0],_,rfl,⟨none,0,rfl,Nat.le_refl _,.inl rfl⟩,rfl⟩⟩
theorem ZT46:ZT Tryz.prog 46 aV (⟨(⟨(0:Int),(0:Int),(0:Int)⟩:ab),[]⟩:ao):=⟨(.agg #[.int .i64 0,.int .i64 0,.int .i64 0,.slice none 0 0]:Value),by kernel_rfl,fun F=>aG (by kernel_rfl) (oe F)⟩
theorem nr (F:Fz):Kd.rd am F ([.int .i64 0]++[.slice none 0 0]++[]) (⟨(0:Int),[]⟩:ah):=⟨[.int .i64 0],_,rfl,rfl,⟨[.slice none 0 0],_,rfl,⟨none,0,rfl,Nat.le_refl _,.inl rfl⟩,rfl⟩⟩
theorem ZT27:ZT Tryz.prog 27 am (⟨(0:Int),[]⟩:ah):=⟨(.agg #[.int .i64 0,.slice none 0 0]:Value),by kernel_rfl,fun F=>aG (by kernel_rfl) (nr F)⟩
theorem fb24k:fldB Tryz.prog 24 0=some (offF cF 0,0+1):=by kernel_rfl
theorem kt22:KT Tryz.prog 22 (kSl (kInt .u8)):=⟨by kernel_rfl,by kernel_rfl⟩
theorem fb24k1:fldB Tryz.prog 24 1=some (offF cF 1,0+1):=by kernel_rfl
theorem kt3:KT Tryz.prog 3 (kInt .i64):=⟨by kernel_rfl,by kernel_rfl⟩
theorem bt {P:Program} {ops:Array Oper} {rest:List Oper} {Q:Exit→Act→World→Prop} {F0:Fz} {n:Nat} {E:List (Nat×SV)} {L:List Res} {o0 o1 o2 o3:Oper} (d:Nat) (e:Bool) (k:Under F0 n ((d,.raw (.bool e))::E) L (wpList P ops Q rest)) (h:Under F0 n ((d,.raw (.bool e))::E) L (wpList P ops Q rest)→Under F0 n E L (wpList P ops Q (o0::o1::o2::o3::rest))):Under F0 n E L (wpList P ops Q (o0::o1::o2::o3::rest)):=h k
theorem A4 {P:Program} {ops:Array Oper} {rest:List Oper} {C:World→Prop} {Qa:Act→Prop} {F0:Fz} {n:Nat} {E:List (Nat×SV)} {o0 o1 o2 o3:Oper} (d:Nat) (e:Bool) (k:aM F0 n ((d,.raw (.bool e))::E) (wpQuiet P ops C Qa rest)) (h:aM F0 n ((d,.raw (.bool e))::E) (wpQuiet P ops C Qa rest)→aM F0 n E (wpQuiet P ops C Qa (o0::o1::o2::o3::rest))):aM F0 n E (wpQuiet P ops C Qa (o0::o1::o2::o3::rest)):=h k
theorem fb24k2:fldB Tryz.prog 24 2=some (offF cF 2,0+1):=by kernel_rfl
theorem fb24k3:fldB Tryz.prog 24 3=some (offF cF 3,0+1):=by kernel_rfl
theorem fb24k4:fldB Tryz.prog 24 5=some (offF cF 5,0+1):=by kernel_rfl
theorem fb24k5:fldB Tryz.prog 24 4=some (offF cF 4,0+1):=by kernel_rfl
theorem fb24k6:fldB Tryz.prog 24 6=some (offF cF 6,0+1):=by kernel_rfl
theorem fb24k7:fldB Tryz.prog 24 7=some (offF cF 7,0+1):=by kernel_rfl
theorem fb24k8:fldB Tryz.prog 24 8=some (offF cF 8,0+1):=by kernel_rfl
theorem fb24k9:fldB Tryz.prog 24 9=some (offF cF 9,0+1):=by kernel_rfl
theorem fb24k10:fldB Tryz.prog 24 10=some (offF cF 10,0+1):=by kernel_rfl
theorem nK {P:Program} {ops:Array Oper} {rest:List Oper} {Q:Exit→Act→World→Prop} {F0:Fz} {n:Nat} {E:List (Nat×SV)} {L:List Res} {o0 o1 o2 o3 o4 o5:Oper} (d:Nat) (e:Bool) (k:Under F0 n ((d,.raw (.bool e))::E) L (wpList P ops Q rest)) (h:Under F0 n ((d,.raw (.bool e))::E) L (wpList P ops Q rest)→Under F0 n E L (wpList P ops Q (o0::o1::o2::o3::o4::o5::rest))):Under F0 n E L (wpList P ops Q (o0::o1::o2::o3::o4::o5::rest)):=h k
theorem A5 {P:Program} {ops:Array Oper} {rest:List Oper} {C:World→Prop} {Qa:Act→Prop} {F0:Fz} {n:Nat} {E:List (Nat×SV)} {o0 o1 o2 o3 o4 o5:Oper} (d:Nat) (e:Bool) (k:aM F0 n ((d,.raw (.bool e))::E) (wpQuiet P ops C Qa rest)) (h:aM F0 n ((d,.raw (.bool e))::E) (wpQuiet P ops C Qa rest)→aM F0 n E (wpQuiet P ops C Qa (o0::o1::o2::o3::o4::o5::rest))):aM F0 n E (wpQuiet P ops C Qa (o0::o1::o2::o3::o4::o5::rest)):=h k
theorem fb29k:fldB Tryz.prog 29 0=some (offF gt 0,0+1):=by kernel_rfl
theorem kt2:KT Tryz.prog 2 (kInt .i64):=⟨by kernel_rfl,by kernel_rfl⟩
theorem fb29k1:fldB Tryz.prog 29 1=some (offF gt 1,1+1):=by kernel_rfl
theorem kt27:KT Tryz.prog 27 am:=⟨by kernel_rfl,by kernel_rfl⟩
theorem fb27k:fldB Tryz.prog 27 0=some (offF dh 0,0+1):=by kernel_rfl
theorem fb27k1:fldB Tryz.prog 27 1=some (offF dh 1,0+1):=by kernel_rfl
theorem kt25:KT Tryz.prog 25 (kSl bc):=⟨by kernel_rfl,by kernel_rfl⟩
theorem sz152:(Tryz.prog.info? 152).map (·.size)=some (Kd.n bc):=by kernel_rfl
theorem kt152:KT Tryz.prog 152 bc:=⟨by kernel_rfl,by kernel_rfl⟩
theorem jM (F:Fz):Kd.rd bc F ([.int .i64 0]++[.slice none 0 0]++[]) (⟨(0:Int),[]⟩:aA):=⟨[.int .i64 0],_,rfl,rfl,⟨[.slice none 0 0],_,rfl,⟨none,0,rfl,Nat.le_refl _,.inl rfl⟩,rfl⟩⟩
theorem ZT152:ZT Tryz.prog 152 bc (⟨(0:Int),[]⟩:aA):=⟨(.agg #[.int .i64 0,.slice none 0 0]:Value),by kernel_rfl,fun F=>aG (by kernel_rfl) (jM F)⟩
theorem sz152k:(Tryz.prog.info? 152).map (·.size)=some (Kd.n bc):=by kernel_rfl
theorem fb152k:fldB Tryz.prog 152 1=some (offF fU 1,0+1):=by kernel_rfl
theorem kt85:KT Tryz.prog 85 (kSl (kArr 16 (kInt .u8))):=⟨by kernel_rfl,by kernel_rfl⟩
theorem sz64:(Tryz.prog.info? 64).map (·.size)=some (Kd.n (kArr 16 (kInt .u8))):=by kernel_rfl
theorem kt64:KT Tryz.prog 64 (kArr 16 (kInt .u8)):=⟨by kernel_rfl,by kernel_rfl⟩
theorem eT (F:Fz):Kd.rd (kArr 16 (kInt .u8)) F ((List.replicate 16 [.int .u8 0]).flatten) (List.replicate 16 (0:Int)):=⟨by simp,cr (K:=kInt .u8) rfl 16⟩
theorem ZT64:ZT Tryz.prog 64 (kArr 16 (kInt .u8)) (List.replicate 16 (0:Int)):=⟨(.agg (List.replicate 16 (.int .u8 0:Value)).toArray:Value),by kernel_rfl,fun F=>aG (by kernel_rfl) (eT F)⟩
theorem sz64k:(Tryz.prog.info? 64).map (·.size)=some (Kd.n (kArr 16 (kInt .u8))):=by kernel_rfl
theorem kt5:KT Tryz.prog 5 (kInt .u8):=⟨by kernel_rfl,by kernel_rfl⟩
theorem key64:KeyK Tryz.prog 64 (kArr 16 (kInt .u8)):=KeyK.ints Tryz.underlying64 Tryz.underlying5 kt5
theorem fb152k1:fldB Tryz.prog 152 0=some (offF fU 0,0+1):=by kernel_rfl
theorem A6 {P:Program} {ops:Array Oper} {rest:List Oper} {Q:Exit→Act→World→Prop} {F0:Fz} {n:Nat} {E:List (Nat×SV)} {L:List Res} {o0 o1 o2 o3 o4 o5 o6 o7 o8 o9 o10:Oper} (d:Nat) (e:Bool) (k:Under F0 n ((d,.raw (.bool e))::E) L (wpList P ops Q rest)) (h:Under F0 n ((d,.raw (.bool e))::E) L (wpList P ops Q rest)→Under F0 n E L (wpList P ops Q (o0::o1::o2::o3::o4::o5::o6::o7::o8::o9::o10::rest))):Under F0 n E L (wpList P ops Q (o0::o1::o2::o3::o4::o5::o6::o7::o8::o9::o10::rest)):=h k
theorem yi {P:Program} {ops:Array Oper} {rest:List Oper} {C:World→Prop} {Qa:Act→Prop} {F0:Fz} {n:Nat} {E:List (Nat×SV)} {o0 o1 o2 o3 o4 o5 o6 o7 o8 o9 o10:Oper} (d:Nat) (e:Bool) (k:aM F0 n ((d,.raw (.bool e))::E) (wpQuiet P ops C Qa rest)) (h:aM F0 n ((d,.raw (.bool e))::E) (wpQuiet P ops C Qa rest)→aM F0 n E (wpQuiet P ops C Qa (o0::o1::o2::o3::o4::o5::o6::o7::o8::o9::o10::rest))):aM F0 n E (wpQuiet P ops C Qa (o0::o1::o2::o3::o4::o5::o6::o7::o8::o9::o10::rest)):=h k
theorem jC {P:Program} {ops:Array Oper} {rest:List Oper} {Q:Exit→Act→World→Prop} {F0:Fz} {n:Nat} {E:List (Nat×SV)} {L:List Res} {o0 o1 o2 o3 o4:Oper} (d:Nat) (e:Bool) (k:Under F0 n ((d,.raw (.bool e))::E) L (wpList P ops Q rest)) (h:Under F0 n ((d,.raw (.bool e))::E) L (wpList P ops Q rest)→Under F0 n E L (wpList P ops Q (o0::o1::o2::o3::o4::rest))):Under F0 n E L (wpList P ops Q (o0::o1::o2::o3::o4::rest)):=h k
theorem zz {P:Program} {ops:Array Oper} {rest:List Oper} {C:World→Prop} {Qa:Act→Prop} {F0:Fz} {n:Nat} {E:List (Nat×SV)} {o0 o1 o2 o3 o4:Oper} (d:Nat) (e:Bool) (k:aM F0 n ((d,.raw (.bool e))::E) (wpQuiet P ops C Qa rest)) (h:aM F0 n ((d,.raw (.bool e))::E) (wpQuiet P ops C Qa rest)→aM F0 n E (wpQuiet P ops C Qa (o0::o1::o2::o3::o4::rest))):aM F0 n E (wpQuiet P ops C Qa (o0::o1::o2::o3::o4::rest)):=h k
theorem A7 {P:Program} {ops:Array Oper} {rest:List Oper} {Q:Exit→Act→World→Prop} {F0:Fz} {n:Nat} {E:List (Nat×SV)} {L:List Res} {o0 o1 o2 o3 o4 o5 o6 o7 o8 o9 o10 o11 o12 o13 o14:Oper} (d:Nat) (e:Bool) (k:Under F0 n ((d,.raw (.bool e))::E) L (wpList P ops Q rest)) (h:Under F0 n ((d,.raw (.bool e))::E) L (wpList P ops Q rest)→Under F0 n E L (wpList P ops Q (o0::o1::o2::o3::o4::o5::o6::o7::o8::o9::o10::o11::o12::o13::o14::rest))):Under F0 n E L (wpList P ops Q (o0::o1::o2::o3::o4::o5::o6::o7::o8::o9::o10::o11::o12::o13::o14::rest)):=h k
theorem yj {P:Program} {ops:Array Oper} {rest:List Oper} {C:World→Prop} {Qa:Act→Prop} {F0:Fz} {n:Nat} {E:List (Nat×SV)} {o0 o1 o2 o3 o4 o5 o6 o7 o8 o9 o10 o11 o12 o13 o14:Oper} (d:Nat) (e:Bool) (k:aM F0 n ((d,.raw (.bool e))::E) (wpQuiet P ops C Qa rest)) (h:aM F0 n ((d,.raw (.bool e))::E) (wpQuiet P ops C Qa rest)→aM F0 n E (wpQuiet P ops C Qa (o0::o1::o2::o3::o4::o5::o6::o7::o8::o9::o10::o11::o12::o13::o14::rest))):aM F0 n E (wpQuiet P ops C Qa (o0::o1::o2::o3::o4::o5::o6::o7::o8::o9::o10::o11::o12::o13::o14::rest)):=h k
theorem yk {P:Program} {ops:Array Oper} {rest:List Oper} {Q:Exit→Act→World→Prop} {F0:Fz} {n:Nat} {E:List (Nat×SV)} {L:List Res} {o0 o1 o2 o3 o4 o5 o6 o7:Oper} (d:Nat) (e:Bool) (k:Under F0 n ((d,.raw (.bool e))::E) L (wpList P ops Q rest)) (h:Under F0 n ((d,.raw (.bool e))::E) L (wpList P ops Q rest)→Under F0 n E L (wpList P ops Q (o0::o1::o2::o3::o4::o5::o6::o7::rest))):Under F0 n E L (wpList P ops Q (o0::o1::o2::o3::o4::o5::o6::o7::rest)):=h k
theorem zF {P:Program} {ops:Array Oper} {rest:List Oper} {C:World→Prop} {Qa:Act→Prop} {F0:Fz} {n:Nat} {E:List (Nat×SV)} {o0 o1 o2 o3 o4 o5 o6 o7:Oper} (d:Nat) (e:Bool) (k:aM F0 n ((d,.raw (.bool e))::E) (wpQuiet P ops C Qa rest)) (h:aM F0 n ((d,.raw (.bool e))::E) (wpQuiet P ops C Qa rest)→aM F0 n E (wpQuiet P ops C Qa (o0::o1::o2::o3::o4::o5::o6::o7::rest))):aM F0 n E (wpQuiet P ops C Qa (o0::o1::o2::o3::o4::o5::o6::o7::rest)):=h k
theorem sz5:(Tryz.prog.info? 5).map (·.size)=some (Kd.n (kInt .u8)):=by kernel_rfl
theorem nx230:Extern.findNext Tryz.f230=none:=by kernel_rfl
theorem fd230:Extern.find Tryz.f230=some Extern.BytealgCompare.compare:=by kernel_rfl
theorem nb230:Tryz.f230.body.isNone=true:=by kernel_rfl
theorem nn230 : (Tryz.f230.name == "runtime.NumGoroutine") = false := by kernel_rfl
theorem cN {P:Program} {ops:Array Oper} {rest:List Oper} {Q:Exit→Act→World→Prop} {F0:Fz} {n:Nat} {E:List (Nat×SV)} {L:List Res} {o0 o1 o2:Oper} (d:Nat) (e:Bool) (k:Under F0 n ((d,.raw (.bool e))::E) L (wpList P ops Q rest)) (h:Under F0 n ((d,.raw (.bool e))::E) L (wpList P ops Q rest)→Under F0 n E L (wpList P ops Q (o0::o1::o2::rest))):Under F0 n E L (wpList P ops Q (o0::o1::o2::rest)):=h k
theorem A8 {P:Program} {ops:Array Oper} {rest:List Oper} {C:World→Prop} {Qa:Act→Prop} {F0:Fz} {n:Nat} {E:List (Nat×SV)} {o0 o1 o2:Oper} (d:Nat) (e:Bool) (k:aM F0 n ((d,.raw (.bool e))::E) (wpQuiet P ops C Qa rest)) (h:aM F0 n ((d,.raw (.bool e))::E) (wpQuiet P ops C Qa rest)→aM F0 n E (wpQuiet P ops C Qa (o0::o1::o2::rest))):aM F0 n E (wpQuiet P ops C Qa (o0::o1::o2::rest)):=h k
theorem AC {P:Program} {ops:Array Oper} {rest:List Oper} {Q:Exit→Act→World→Prop} {F0:Fz} {n:Nat} {E:List (Nat×SV)} {L:List Res} {o0 o1 o2 o3 o4 o5 o6 o7 o8:Oper} (d:Nat) (e:Bool) (k:Under F0 n ((d,.raw (.bool e))::E) L (wpList P ops Q rest)) (h:Under F0 n ((d,.raw (.bool e))::E) L (wpList P ops Q rest)→Under F0 n E L (wpList P ops Q (o0::o1::o2::o3::o4::o5::o6::o7::o8::rest))):Under F0 n E L (wpList P ops Q (o0::o1::o2::o3::o4::o5::o6::o7::o8::rest)):=h k
theorem zK {P:Program} {ops:Array Oper} {rest:List Oper} {C:World→Prop} {Qa:Act→Prop} {F0:Fz} {n:Nat} {E:List (Nat×SV)} {o0 o1 o2 o3 o4 o5 o6 o7 o8:Oper} (d:Nat) (e:Bool) (k:aM F0 n ((d,.raw (.bool e))::E) (wpQuiet P ops C Qa rest)) (h:aM F0 n ((d,.raw (.bool e))::E) (wpQuiet P ops C Qa rest)→aM F0 n E (wpQuiet P ops C Qa (o0::o1::o2::o3::o4::o5::o6::o7::o8::rest))):aM F0 n E (wpQuiet P ops C Qa (o0::o1::o2::o3::o4::o5::o6::o7::o8::rest)):=h k
theorem kt46:KT Tryz.prog 46 aV:=⟨by kernel_rfl,by kernel_rfl⟩
theorem BT27:BT Tryz.prog 27 dh (⟨(0:Int),[]⟩:ah):=⟨⟨Tryz.t27,(.agg #[.int .i64 0,.slice none 0 0]:Value),_,[(0,1),(1,1)],by kernel_rfl,by kernel_rfl,Tryz.underlying27,by kernel_rfl,fun i f h=>match i,f,h with
 |0,f,h=>by cases h;rfl
 |1,f,h=>by cases h;rfl
 |(_+2),f,h=>by simp[dh] at h,fun F=>bW (by kernel_rfl) (nr F)⟩⟩
theorem sz46k:(Tryz.prog.info? 46).map (·.size)=some (Kd.n aV):=by kernel_rfl
theorem sz27k:(Tryz.prog.info? 27).map (·.size)=some (Kd.n am):=by kernel_rfl
theorem lL (F:Fz):Kd.rd cO F ([.int .u32 0]++[.int .u32 0]++[]) (⟨(0:Int),(0:Int)⟩:ak):=⟨[.int .u32 0],_,rfl,rfl,⟨[.int .u32 0],_,rfl,rfl,rfl⟩⟩
theorem BT144:BT Tryz.prog 144 gu (⟨(0:Int),(0:Int)⟩:ak):=⟨⟨Tryz.t144,(.agg #[.int .u32 0,.int .u32 0]:Value),_,[(0,1),(1,1)],by kernel_rfl,by kernel_rfl,Tryz.underlying144,by kernel_rfl,fun i f h=>match i,f,h with
 |0,f,h=>by cases h;rfl
 |1,f,h=>by cases h;rfl
 |(_+2),f,h=>by simp[gu] at h,fun F=>bW (by kernel_rfl) (lL F)⟩⟩
theorem kU (F:Fz):Kd.rd bu F ([.int .i64 0]++[.int .i64 0]++[.int .i64 0]++[]) (⟨(0:Int),(0:Int),(0:Int)⟩:ab):=⟨[.int .i64 0],_,rfl,rfl,⟨[.int .i64 0],_,rfl,rfl,⟨[.int .i64 0],_,rfl,rfl,rfl⟩⟩⟩
theorem pu (F:Fz):Kd.rd bj F ([.slice none 0 0,.int .i64 0,.int .i64 0,.int .i64 0,.int .i64 0,.int .i64 0,.int .i64 0,.int .u32 0,.int .u32 0,.int .i64 0,.int .i64 0]:List Value) (⟨(.slice none 0 0),(0:Int),(0:Int),(0:Int),(⟨(0:Int),(0:Int),(0:Int)⟩:ab),(⟨(0:Int),(0:Int)⟩:ak),(0:Int),(0:Int)⟩:aj):=⟨[.slice none 0 0],[.int .i64 0,.int .i64 0,.int .i64 0,.int .i64 0,.int .i64 0,.int .i64 0,.int .u32 0,.int .u32 0,.int .i64 0,.int .i64 0],rfl,⟨rfl,rfl⟩,⟨[.int .i64 0],[.int .i64 0,.int .i64 0,.int .i64 0,.int .i64 0,.int .i64 0,.int .u32 0,.int .u32 0,.int .i64 0,.int .i64 0],rfl,rfl,⟨[.int .i64 0],[.int .i64 0,.int .i64 0,.int .i64 0,.int .i64 0,.int .u32 0,.int .u32 0,.int .i64 0,.int .i64 0],rfl,rfl,⟨[.int .i64 0],[.int .i64 0,.int .i64 0,.int .i64 0,.int .u32 0,.int .u32 0,.int .i64 0,.int .i64 0],rfl,rfl,⟨([.int .i64 0]++[.int .i64 0]++[.int .i64 0]++[]),[.int .u32 0,.int .u32 0,.int .i64 0,.int .i64 0],rfl,kU F,⟨([.int .u32 0]++[.int .u32 0]++[]),[.int .i64 0,.int .i64 0],rfl,lL F,⟨[.int .i64 0],[.int .i64 0],rfl,rfl,⟨[.int .i64 0],[],rfl,rfl,rfl⟩⟩⟩⟩⟩⟩⟩⟩
theorem ni:BT Tryz.prog 146 cu (⟨(.slice none 0 0),(0:Int),(0:Int),(0:Int),(⟨(0:Int),(0:Int),(0:Int)⟩:ab),(⟨(0:Int),(0:Int)⟩:ak),(0:Int),(0:Int)⟩:aj):=⟨⟨Tryz.t146,(.agg (List.replicate 1 (.slice none 0 0:Value)++List.replicate 6 (.int .i64 0:Value)++List.replicate 2 (.int .u32 0:Value)++List.replicate 2 (.int .i64 0:Value)).toArray:Value),_,[(0,1),(1,1),(2,1),(3,1),(4,3),(7,2),(9,1),(10,1)],by kernel_rfl,by kernel_rfl,Tryz.underlying146,by kernel_rfl,fun i f h=>match i,f,h with
 |0,f,h=>by cases h;rfl
 |1,f,h=>by cases h;rfl
 |2,f,h=>by cases h;rfl
 |3,f,h=>by cases h;rfl
 |4,f,h=>by cases h;rfl
 |5,f,h=>by cases h;rfl
 |6,f,h=>by cases h;rfl
 |7,f,h=>by cases h;rfl
 |(_+8),f,h=>by simp[cu] at h,fun F=>bW (by kernel_rfl) (pu F)⟩⟩
theorem na:fldB Tryz.prog 146 6=some (9,0+1):=by kernel_rfl
theorem dy:UpF cu 6 ⟨kInt .i64,aj.err⟩ (fun x y=>{x with err:=y}):=⟨rfl,fun _ _=>rfl,fun _ _=>⟨rfl,⟨rfl,⟨rfl,⟨rfl,⟨rfl,⟨rfl,(by intro q hq;simp only[List.mem_cons,List.not_mem_nil,or_false] at hq;rcases hq with rfl<;>rfl)⟩⟩⟩⟩⟩⟩⟩
theorem kt35k:KT Tryz.prog 35 (kInt .i64):=⟨by kernel_rfl,by kernel_rfl⟩
theorem nj (F:Fz):Kd.rd (kArr 10 (kInt .i64)) F ((List.replicate 10 [.int .i64 0]).flatten) (List.replicate 10 (0:Int)):=⟨by simp,cr (K:=kInt .i64) rfl 10⟩
theorem BTA273:BTA Tryz.prog 273 10 (kInt .i64) (List.replicate 10 (0:Int)):=⟨⟨Tryz.t273,(.agg (List.replicate 10 (.int .i64 0:Value)).toArray:Value),_,Tryz.t3,by kernel_rfl,by kernel_rfl,Tryz.underlying273,by kernel_rfl,by kernel_rfl,by simp,fun F=>iG (by kernel_rfl) (nj F).2⟩⟩
theorem io:fldB Tryz.prog 146 2=some (2,0+1):=by kernel_rfl
theorem bQ:UpF cu 2 ⟨kInt .i64,aj.stage⟩ (fun x y=>{x with stage:=y}):=⟨rfl,fun _ _=>rfl,fun _ _=>⟨rfl,⟨rfl,(by intro q hq;simp only[List.mem_cons,List.not_mem_nil,or_false] at hq;rcases hq with rfl|rfl|rfl|rfl|rfl<;>rfl)⟩⟩⟩
theorem kt3k:KT Tryz.prog 3 (kInt .i64):=⟨by kernel_rfl,by kernel_rfl⟩
theorem ji:fldB Tryz.prog 146 0=some (0,0+1):=by kernel_rfl
theorem ck:UpF cu 0 ⟨kRaw,aj.field⟩ (fun x y=>{x with field:=y}):=⟨rfl,fun _ _=>rfl,fun _ _=>(by intro q hq;simp only[List.mem_cons,List.not_mem_nil,or_false] at hq;rcases hq with rfl|rfl|rfl|rfl|rfl|rfl|rfl<;>rfl)⟩
theorem kt22k:KT Tryz.prog 22 kRaw:=⟨by kernel_rfl,by kernel_rfl⟩
theorem sz22k:(Tryz.prog.info? 22).map (·.size)=some (Kd.n kRaw):=by kernel_rfl
theorem nb:fldB Tryz.prog 146 1=some (1,0+1):=by kernel_rfl
theorem dz:UpF cu 1 ⟨kInt .i64,aj.at_⟩ (fun x y=>{x with at_:=y}):=⟨rfl,fun _ _=>rfl,fun _ _=>⟨rfl,(by intro q hq;simp only[List.mem_cons,List.not_mem_nil,or_false] at hq;rcases hq with rfl|rfl|rfl|rfl|rfl|rfl<;>rfl)⟩⟩
theorem sz3k:(Tryz.prog.info? 3).map (·.size)=some (Kd.n (kInt .i64)):=by kernel_rfl
theorem mo (F:Fz):Kd.rd (kSl (kInt .u8)) F [.slice none 0 0] []:=⟨none,0,rfl,Nat.le_refl _,.inl rfl⟩
theorem ET22:ET Tryz.prog 22 (kSl (kInt .u8)) []:=⟨⟨Tryz.t22,(.slice none 0 0:Value),by kernel_rfl,by kernel_rfl,by kernel_rfl,by decide,fun F=>aG (by kernel_rfl) (mo F)⟩⟩
theorem AT22:AT Tryz.prog 22 (kSl (kInt .u8)) [] 24:=⟨⟨Tryz.t22,(.slice none 0 0:Value),by kernel_rfl,by kernel_rfl,by kernel_rfl,by kernel_rfl,by decide,by decide,fun F=>aG (by kernel_rfl) (mo F)⟩⟩
theorem sZ:fldB Tryz.prog 146 5=some (7,1+1):=by kernel_rfl
theorem ir:UpF cu 5 ⟨cO,aj.sum⟩ (fun x y=>{x with sum:=y}):=⟨rfl,fun _ _=>rfl,fun _ _=>⟨rfl,⟨rfl,⟨rfl,⟨rfl,⟨rfl,(by intro q hq;simp only[List.mem_cons,List.not_mem_nil,or_false] at hq;rcases hq with rfl|rfl<;>rfl)⟩⟩⟩⟩⟩⟩
theorem kt144k:KT Tryz.prog 144 cO:=⟨by kernel_rfl,by kernel_rfl⟩
theorem fb144k:fldB Tryz.prog 144 1=some (offF gu 1,0+1):=by kernel_rfl
theorem kt142:KT Tryz.prog 142 (kInt .u32):=⟨by kernel_rfl,by kernel_rfl⟩
theorem fb144k1:fldB Tryz.prog 144 0=some (offF gu 0,0+1):=by kernel_rfl
theorem ZT144:ZT Tryz.prog 144 cO (⟨(0:Int),(0:Int)⟩:ak):=⟨(.agg #[.int .u32 0,.int .u32 0]:Value),by kernel_rfl,fun F=>aG (by kernel_rfl) (lL F)⟩
theorem s4:fldB Tryz.prog 144 0=some (0,0+1):=by kernel_rfl
theorem jW:UpF gu 0 ⟨kInt .u32,ak.a⟩ (fun x y=>{x with a:=y}):=⟨rfl,fun _ _=>rfl,fun _ _=>(by intro q hq;simp only[List.mem_cons,List.not_mem_nil,or_false] at hq;rcases hq with rfl<;>rfl)⟩
theorem kt142k:KT Tryz.prog 142 (kInt .u32):=⟨by kernel_rfl,by kernel_rfl⟩
theorem sz142k:(Tryz.prog.info? 142).map (·.size)=some (Kd.n (kInt .u32)):=by kernel_rfl
theorem wz:fldB Tryz.prog 144 1=some (1,0+1):=by kernel_rfl
theorem mq:UpF gu 1 ⟨kInt .u32,ak.b⟩ (fun x y=>{x with b:=y}):=⟨rfl,fun _ _=>rfl,fun _ _=>⟨rfl,(fun q hq=>by simp at hq)⟩⟩
theorem kt144:KT Tryz.prog 144 cO:=⟨by kernel_rfl,by kernel_rfl⟩
theorem sz144k:(Tryz.prog.info? 144).map (·.size)=some (Kd.n cO):=by kernel_rfl
abbrev str0:ByteArray:=⟨#[67,72,82,78]⟩
theorem s9:rdOf (.raw (.string str0)) kStr [67,72,82,78]:=rdS (by kernel_rfl)
theorem sz5k:(Tryz.prog.info? 5).map (·.size)=some (Kd.n (kInt .u8)):=by kernel_rfl
theorem kt5k:KT Tryz.prog 5 (kInt .u8):=⟨by kernel_rfl,by kernel_rfl⟩
theorem og:fldB Tryz.prog 146 4=some (4,2+1):=by kernel_rfl
theorem ta:fldB Tryz.prog 43 2=some (2,0+1):=by kernel_rfl
theorem eU:UpF cu 4 ⟨bu,aj.header⟩ (fun x y=>{x with header:=y}):=⟨rfl,fun _ _=>rfl,fun _ _=>⟨rfl,⟨rfl,⟨rfl,⟨rfl,(by intro q hq;simp only[List.mem_cons,List.not_mem_nil,or_false] at hq;rcases hq with rfl|rfl|rfl<;>rfl)⟩⟩⟩⟩⟩
theorem ip:UpF eL 2 ⟨kInt .i64,ab.Left⟩ (fun x y=>{x with Left:=y}):=⟨rfl,fun _ _=>rfl,fun _ _=>⟨rfl,⟨rfl,(fun q hq=>by simp at hq)⟩⟩⟩
theorem oh:fldB Tryz.prog 146 3=some (3,0+1):=by kernel_rfl
theorem eV:UpF cu 3 ⟨kInt .i64,aj.left⟩ (fun x y=>{x with left:=y}):=⟨rfl,fun _ _=>rfl,fun _ _=>⟨rfl,⟨rfl,⟨rfl,(by intro q hq;simp only[List.mem_cons,List.not_mem_nil,or_false] at hq;rcases hq with rfl|rfl|rfl|rfl<;>rfl)⟩⟩⟩⟩
theorem AD:fldB Tryz.prog 43 0=some (0,0+1):=by kernel_rfl
theorem qm:UpF eL 0 ⟨kInt .i64,ab.Round⟩ (fun x y=>{x with Round:=y}):=⟨rfl,fun _ _=>rfl,fun _ _=>(by intro q hq;simp only[List.mem_cons,List.not_mem_nil,or_false] at hq;rcases hq with rfl|rfl<;>rfl)⟩
theorem sz2k:(Tryz.prog.info? 2).map (·.size)=some (Kd.n (kInt .i64)):=by kernel_rfl
theorem AE:fldB Tryz.prog 43 1=some (1,0+1):=by kernel_rfl
theorem qn:UpF eL 1 ⟨kInt .i64,ab.Epoch⟩ (fun x y=>{x with Epoch:=y}):=⟨rfl,fun _ _=>rfl,fun _ _=>⟨rfl,(by intro q hq;simp only[List.mem_cons,List.not_mem_nil,or_false] at hq;rcases hq with rfl<;>rfl)⟩⟩
theorem sz35k:(Tryz.prog.info? 35).map (·.size)=some (Kd.n (kInt .i64)):=by kernel_rfl
theorem tc:fldB Tryz.prog 146 7=some (10,0+1):=by kernel_rfl
theorem iu:UpF cu 7 ⟨kInt .i64,aj.place⟩ (fun x y=>{x with place:=y}):=⟨rfl,fun _ _=>rfl,fun _ _=>⟨rfl,⟨rfl,⟨rfl,⟨rfl,⟨rfl,⟨rfl,⟨rfl,(fun q hq=>by simp at hq)⟩⟩⟩⟩⟩⟩⟩⟩
theorem kt43k:KT Tryz.prog 43 bu:=⟨by kernel_rfl,by kernel_rfl⟩
theorem BT46:BT Tryz.prog 46 gn (⟨(⟨(0:Int),(0:Int),(0:Int)⟩:ab),[]⟩:ao):=⟨⟨Tryz.t46,(.agg #[.int .i64 0,.int .i64 0,.int .i64 0,.slice none 0 0]:Value),_,[(0,3),(3,1)],by kernel_rfl,by kernel_rfl,Tryz.underlying46,by kernel_rfl,fun i f h=>match i,f,h with
 |0,f,h=>by cases h;rfl
 |1,f,h=>by cases h;rfl
 |(_+2),f,h=>by simp[gn] at h,fun F=>bW (by kernel_rfl) (oe F)⟩⟩
theorem fb46k:fldB Tryz.prog 46 0=some (offF gn 0,2+1):=by kernel_rfl
theorem fb43k:fldB Tryz.prog 43 2=some (offF eL 2,0+1):=by kernel_rfl
theorem fb43k1:fldB Tryz.prog 43 0=some (offF eL 0,0+1):=by kernel_rfl
theorem fb43k2:fldB Tryz.prog 43 1=some (offF eL 1,0+1):=by kernel_rfl
theorem lk (F:Fz):Kd.rd bw F ([.int .i64 0]++[.slice none 0 0]++[]) (⟨(0:Int),(.slice none 0 0)⟩:aF):=⟨[.int .i64 0],_,rfl,rfl,⟨[.slice none 0 0],_,rfl,⟨rfl,rfl⟩,rfl⟩⟩
theorem jX:BT Tryz.prog 27 ed (⟨(0:Int),(.slice none 0 0)⟩:aF):=⟨⟨Tryz.t27,(.agg #[.int .i64 0,.slice none 0 0]:Value),_,[(0,1),(1,1)],by kernel_rfl,by kernel_rfl,Tryz.underlying27,by kernel_rfl,fun i f h=>match i,f,h with
 |0,f,h=>by cases h;rfl
 |1,f,h=>by cases h;rfl
 |(_+2),f,h=>by simp[ed] at h,fun F=>bW (by kernel_rfl) (lk F)⟩⟩
theorem ZT27k:ZT Tryz.prog 27 bw (⟨(0:Int),(.slice none 0 0)⟩:aF):=⟨(.agg #[.int .i64 0,.slice none 0 0]:Value),by kernel_rfl,fun F=>aG (by kernel_rfl) (lk F)⟩
theorem sz27k1:(Tryz.prog.info? 27).map (·.size)=some (Kd.n bw):=by kernel_rfl
theorem AF:fldB Tryz.prog 27 0=some (0,0+1):=by kernel_rfl
theorem nL:UpF ed 0 ⟨kInt .i64,aF.Newest⟩ (fun x y=>{x with Newest:=y}):=⟨rfl,fun _ _=>rfl,fun _ _=>(by intro q hq;simp only[List.mem_cons,List.not_mem_nil,or_false] at hq;rcases hq with rfl<;>rfl)⟩
theorem kt2k:KT Tryz.prog 2 (kInt .i64):=⟨by kernel_rfl,by kernel_rfl⟩
theorem fB:fldB Tryz.prog 27 1=some (1,0+1):=by kernel_rfl
theorem aR:UpF ed 1 ⟨kRaw,aF.Epochs⟩ (fun x y=>{x with Epochs:=y}):=⟨rfl,fun _ _=>rfl,fun _ _=>⟨rfl,(fun q hq=>by simp at hq)⟩⟩
theorem kt25k:KT Tryz.prog 25 kRaw:=⟨by kernel_rfl,by kernel_rfl⟩
theorem ET64:ET Tryz.prog 64 (kArr 16 (kInt .u8)) (List.replicate 16 (0:Int)):=⟨⟨Tryz.t64,(.agg (List.replicate 16 (.int .u8 0:Value)).toArray:Value),by kernel_rfl,by kernel_rfl,by kernel_rfl,by decide,fun F=>aG (by kernel_rfl) (eT F)⟩⟩
theorem AT64:AT Tryz.prog 64 (kArr 16 (kInt .u8)) (List.replicate 16 (0:Int)) 16:=⟨⟨Tryz.t64,(.agg (List.replicate 16 (.int .u8 0:Value)).toArray:Value),by kernel_rfl,by kernel_rfl,by kernel_rfl,by kernel_rfl,by decide,by decide,fun F=>aG (by kernel_rfl) (eT F)⟩⟩
theorem BT152:BT Tryz.prog 152 fU (⟨(0:Int),[]⟩:aA):=⟨⟨Tryz.t152,(.agg #[.int .i64 0,.slice none 0 0]:Value),_,[(0,1),(1,1)],by kernel_rfl,by kernel_rfl,Tryz.underlying152,by kernel_rfl,fun i f h=>match i,f,h with
 |0,f,h=>by cases h;rfl
 |1,f,h=>by cases h;rfl
 |(_+2),f,h=>by simp[fU] at h,fun F=>bW (by kernel_rfl) (jM F)⟩⟩
theorem ET152:ET Tryz.prog 152 bc (⟨(0:Int),[]⟩:aA):=⟨⟨Tryz.t152,(.agg #[.int .i64 0,.slice none 0 0]:Value),by kernel_rfl,by kernel_rfl,by kernel_rfl,by decide,fun F=>aG (by kernel_rfl) (jM F)⟩⟩
theorem AT152:AT Tryz.prog 152 bc (⟨(0:Int),[]⟩:aA) 32:=⟨⟨Tryz.t152,(.agg #[.int .i64 0,.slice none 0 0]:Value),by kernel_rfl,by kernel_rfl,by kernel_rfl,by kernel_rfl,by decide,by decide,fun F=>aG (by kernel_rfl) (jM F)⟩⟩
theorem sz25k:(Tryz.prog.info? 25).map (·.size)=some (Kd.n kRaw):=by kernel_rfl
theorem ZT29:ZT Tryz.prog 29 bT (⟨(0:Int),(⟨(0:Int),[]⟩:ah)⟩:aL):=⟨(.agg #[.int .i64 0,.int .i64 0,.slice none 0 0]:Value),by kernel_rfl,fun F=>aG (by kernel_rfl) (lK F)⟩
theorem qM:fldB Tryz.prog 29 1=some (1,1+1):=by kernel_rfl
theorem qN:UpF gt 1 ⟨am,aL.Window⟩ (fun x y=>{x with Window:=y}):=⟨rfl,fun _ _=>rfl,fun _ _=>⟨rfl,(fun q hq=>by simp at hq)⟩⟩
theorem qo:UpF dh 1 ⟨kSl bc,ah.Epochs⟩ (fun x y=>{x with Epochs:=y}):=⟨rfl,fun _ _=>rfl,fun _ _=>⟨rfl,(fun q hq=>by simp at hq)⟩⟩
theorem kt25k1:KT Tryz.prog 25 (kSl bc):=⟨by kernel_rfl,by kernel_rfl⟩
theorem fF:UpF iZ 1 ⟨bw,dR.Window⟩ (fun x y=>{x with Window:=y}):=⟨rfl,fun _ _=>rfl,fun _ _=>⟨rfl,(fun q hq=>by simp at hq)⟩⟩
theorem nc:fldB Tryz.prog 152 1=some (1,0+1):=by kernel_rfl
theorem iI:UpF fU 1 ⟨kSl (kArr 16 (kInt .u8)),aA.Tags⟩ (fun x y=>{x with Tags:=y}):=⟨rfl,fun _ _=>rfl,fun _ _=>⟨rfl,(fun q hq=>by simp at hq)⟩⟩
theorem kt85k:KT Tryz.prog 85 (kSl (kArr 16 (kInt .u8))):=⟨by kernel_rfl,by kernel_rfl⟩
theorem sz85k:(Tryz.prog.info? 85).map (·.size)=some (Kd.n (kSl (kArr 16 (kInt .u8)))):=by kernel_rfl
theorem sz29k:(Tryz.prog.info? 29).map (·.size)=some (Kd.n bT):=by kernel_rfl
theorem BT37:BT Tryz.prog 37 gf (⟨[],(⟨(0:Int),(⟨(0:Int),[]⟩:ah)⟩:aL),(⟨(0:Int),(0:Int),(0:Int),(0:Int),(0:Int)⟩:av),(0:Int),(0:Int)⟩:aO):=⟨⟨Tryz.t37,(.agg (List.replicate 1 (.slice none 0 0:Value)++List.replicate 2 (.int .i64 0:Value)++List.replicate 1 (.slice none 0 0:Value)++List.replicate 7 (.int .i64 0:Value)).toArray:Value),_,[(0,1),(1,3),(4,5),(9,1),(10,1)],by kernel_rfl,by kernel_rfl,Tryz.underlying37,by kernel_rfl,fun i f h=>match i,f,h with
 |0,f,h=>by cases h;rfl
 |1,f,h=>by cases h;rfl
 |2,f,h=>by cases h;rfl
 |3,f,h=>by cases h;rfl
 |4,f,h=>by cases h;rfl
 |(_+5),f,h=>by simp[gf] at h,fun F=>bW (by kernel_rfl) (mn F)⟩⟩
theorem sz37k:(Tryz.prog.info? 37).map (·.size)=some (Kd.n aT):=by kernel_rfl
theorem kt37:KT Tryz.prog 37 aT:=⟨by kernel_rfl,by kernel_rfl⟩
theorem kt27k:KT Tryz.prog 27 am:=⟨by kernel_rfl,by kernel_rfl⟩
theorem ZT34:ZT Tryz.prog 34 dm (⟨(0:Int),(0:Int),(0:Int),(0:Int),(0:Int)⟩:av):=⟨(.agg #[.int .i64 0,.int .i64 0,.int .i64 0,.int .i64 0,.int .i64 0]:Value),by kernel_rfl,fun F=>aG (by kernel_rfl) (kT F)⟩
theorem BT34:BT Tryz.prog 34 gS (⟨(0:Int),(0:Int),(0:Int),(0:Int),(0:Int)⟩:av):=⟨⟨Tryz.t34,(.agg #[.int .i64 0,.int .i64 0,.int .i64 0,.int .i64 0,.int .i64 0]:Value),_,[(0,1),(1,1),(2,1),(3,1),(4,1)],by kernel_rfl,by kernel_rfl,Tryz.underlying34,by kernel_rfl,fun i f h=>match i,f,h with
 |0,f,h=>by cases h;rfl
 |1,f,h=>by cases h;rfl
 |2,f,h=>by cases h;rfl
 |3,f,h=>by cases h;rfl
 |4,f,h=>by cases h;rfl
 |(_+5),f,h=>by simp[gS] at h,fun F=>bW (by kernel_rfl) (kT F)⟩⟩
theorem sz34k:(Tryz.prog.info? 34).map (·.size)=some (Kd.n dm):=by kernel_rfl
theorem kt34:KT Tryz.prog 34 dm:=⟨by kernel_rfl,by kernel_rfl⟩
theorem nM (F:Fz):Kd.rd (kArr 32 (kInt .u8)) F ((List.replicate 32 [.int .u8 0]).flatten) (List.replicate 32 (0:Int)):=⟨by simp,cr (K:=kInt .u8) rfl 32⟩
theorem ZT179:ZT Tryz.prog 179 (kArr 32 (kInt .u8)) (List.replicate 32 (0:Int)):=⟨(.agg (List.replicate 32 (.int .u8 0:Value)).toArray:Value),by kernel_rfl,fun F=>aG (by kernel_rfl) (nM F)⟩
theorem oi (F:Fz):Kd.rd bY F ((List.replicate 8 [.int .u32 0]).flatten++(List.replicate 64 [.int .u8 0]).flatten++[.int .u64 0]++[]) (⟨(List.replicate 8 (0:Int)),(List.replicate 64 (0:Int)),(0:Int)⟩:az):=⟨(List.replicate 8 [.int .u32 0]).flatten,_,rfl,⟨by simp,cr (K:=kInt .u32) rfl 8⟩,⟨(List.replicate 64 [.int .u8 0]).flatten,_,rfl,⟨by simp,cr (K:=kInt .u8) rfl 64⟩,⟨[.int .u64 0],_,rfl,rfl,rfl⟩⟩⟩
theorem ZT253:ZT Tryz.prog 253 bY (⟨(List.replicate 8 (0:Int)),(List.replicate 64 (0:Int)),(0:Int)⟩:az):=⟨(.agg (List.replicate 8 (.int .u32 0:Value)++List.replicate 64 (.int .u8 0:Value)++List.replicate 1 (.int .u64 0:Value)).toArray:Value),by kernel_rfl,fun F=>aG (by kernel_rfl) (oi F)⟩
theorem nN (F:Fz):Kd.rd (kArr 64 (kInt .u8)) F ((List.replicate 64 [.int .u8 0]).flatten) (List.replicate 64 (0:Int)):=⟨by simp,cr (K:=kInt .u8) rfl 64⟩
theorem ZT251:ZT Tryz.prog 251 (kArr 64 (kInt .u8)) (List.replicate 64 (0:Int)):=⟨(.agg (List.replicate 64 (.int .u8 0:Value)).toArray:Value),by kernel_rfl,fun F=>aG (by kernel_rfl) (nN F)⟩
theorem BT253:BT Tryz.prog 253 gv (⟨(List.replicate 8 (0:Int)),(List.replicate 64 (0:Int)),(0:Int)⟩:az):=⟨⟨Tryz.t253,(.agg (List.replicate 8 (.int .u32 0:Value)++List.replicate 64 (.int .u8 0:Value)++List.replicate 1 (.int .u64 0:Value)).toArray:Value),_,[(0,8),(8,64),(72,1)],by kernel_rfl,by kernel_rfl,Tryz.underlying253,by kernel_rfl,fun i f h=>match i,f,h with
 |0,f,h=>by cases h;rfl
 |1,f,h=>by cases h;rfl
 |2,f,h=>by cases h;rfl
 |(_+3),f,h=>by simp[gv] at h,fun F=>bW (by kernel_rfl) (oi F)⟩⟩
theorem sz253k:(Tryz.prog.info? 253).map (·.size)=some (Kd.n bY):=by kernel_rfl
theorem kt253:KT Tryz.prog 253 bY:=⟨by kernel_rfl,by kernel_rfl⟩
theorem nd:fldB Tryz.prog 253 2=some (72,0+1):=by kernel_rfl
theorem fH:UpF gv 2 ⟨kInt .u64,az.n⟩ (fun x y=>{x with n:=y}):=⟨rfl,fun _ _=>rfl,fun _ _=>⟨rfl,⟨rfl,(fun q hq=>by simp at hq)⟩⟩⟩
theorem kt71k:KT Tryz.prog 71 (kInt .u64):=⟨by kernel_rfl,by kernel_rfl⟩
theorem fV (F:Fz):Kd.rd (kArr 8 (kInt .u32)) F ((List.replicate 8 [.int .u32 0]).flatten) (List.replicate 8 (0:Int)):=⟨by simp,cr (K:=kInt .u32) rfl 8⟩
theorem ZT250:ZT Tryz.prog 250 (kArr 8 (kInt .u32)) (List.replicate 8 (0:Int)):=⟨(.agg (List.replicate 8 (.int .u32 0:Value)).toArray:Value),by kernel_rfl,fun F=>aG (by kernel_rfl) (fV F)⟩
theorem BTA250:BTA Tryz.prog 250 8 (kInt .u32) (List.replicate 8 (0:Int)):=⟨⟨Tryz.t250,(.agg (List.replicate 8 (.int .u32 0:Value)).toArray:Value),_,Tryz.t142,by kernel_rfl,by kernel_rfl,Tryz.underlying250,by kernel_rfl,by kernel_rfl,by simp,fun F=>iG (by kernel_rfl) (fV F).2⟩⟩
theorem sz250k:(Tryz.prog.info? 250).map (·.size)=some (Kd.n (kArr 8 (kInt .u32))):=by kernel_rfl
theorem kt250:KT Tryz.prog 250 (kArr 8 (kInt .u32)):=⟨by kernel_rfl,by kernel_rfl⟩
theorem td:fldB Tryz.prog 253 0=some (0,7+1):=by kernel_rfl
theorem jY:UpF gv 0 ⟨kArr 8 (kInt .u32),az.words⟩ (fun x y=>{x with words:=y}):=⟨rfl,fun _ _=>rfl,fun _ _=>(by intro q hq;simp only[List.mem_cons,List.not_mem_nil,or_false] at hq;rcases hq with rfl|rfl<;>rfl)⟩
theorem wF:fldB Tryz.prog 253 1=some (8,63+1):=by kernel_rfl
theorem mr:UpF gv 1 ⟨kArr 64 (kInt .u8),az.tail⟩ (fun x y=>{x with tail:=y}):=⟨rfl,fun _ _=>rfl,fun _ _=>⟨rfl,(by intro q hq;simp only[List.mem_cons,List.not_mem_nil,or_false] at hq;rcases hq with rfl<;>rfl)⟩⟩
theorem sz71k:(Tryz.prog.info? 71).map (·.size)=some (Kd.n (kInt .u64)):=by kernel_rfl
theorem kt250k:KT Tryz.prog 250 (kArr 8 (kInt .u32)):=⟨by kernel_rfl,by kernel_rfl⟩
theorem kt251k:KT Tryz.prog 251 (kArr 64 (kInt .u8)):=⟨by kernel_rfl,by kernel_rfl⟩
theorem jH (F:Fz):Kd.rd (kArr 64 (kInt .u32)) F ((List.replicate 64 [.int .u32 0]).flatten) (List.replicate 64 (0:Int)):=⟨by simp,cr (K:=kInt .u32) rfl 64⟩
theorem ZT319:ZT Tryz.prog 319 (kArr 64 (kInt .u32)) (List.replicate 64 (0:Int)):=⟨(.agg (List.replicate 64 (.int .u32 0:Value)).toArray:Value),by kernel_rfl,fun F=>aG (by kernel_rfl) (jH F)⟩
def glob0:List Int:=[1116352408,1899447441,3049323471,3921009573,961987163,1508970993,2453635748,2870763221,3624381080,310598401,607225278,1426881987,1925078388,2162078206,2614888103,3248222580,3835390401,4022224774,264347078,604807628,770255983,1249150122,1555081692,1996064986,2554220882,2821834349,2952996808,3210313671,3336571891,3584528711,113926993,338241895,666307205,773529912,1294757372,1396182291,1695183700,1986661051,2177026350,2456956037,2730485921,2820302411,3259730800,3345764771,3516065817,3600352804,4094571909,275423344,430227734,506948616,659060556,883997877,958139571,1322822218,1537002063,1747873779,1955562222,2024104815,2227730452,2361852424,2428436474,2756734187,3204031479,3329325298]
theorem sz142:(Tryz.prog.info? 142).map (·.size)=some (Kd.n (kInt .u32)):=by kernel_rfl
theorem kt253k:KT Tryz.prog 253 bY:=⟨by kernel_rfl,by kernel_rfl⟩
theorem fb253k:fldB Tryz.prog 253 0=some (offF gv 0,7+1):=by kernel_rfl
theorem kt179:KT Tryz.prog 179 (kArr 32 (kInt .u8)):=⟨by kernel_rfl,by kernel_rfl⟩
theorem sz179k:(Tryz.prog.info? 179).map (·.size)=some (Kd.n (kArr 32 (kInt .u8))):=by kernel_rfl
theorem fb46k1:fldB Tryz.prog 46 1=some (offF gn 1,0+1):=by kernel_rfl
theorem kt44:KT Tryz.prog 44 (kSl (kSl (kInt .u8))):=⟨by kernel_rfl,by kernel_rfl⟩
theorem sz22:(Tryz.prog.info? 22).map (·.size)=some (Kd.n (kSl (kInt .u8))):=by kernel_rfl
theorem oj (F:Fz):Kd.rd dZ F ([.slice none 0 0]++[.slice none 0 0]++[.slice none 0 0]++[]) (⟨[],[],[]⟩:aQ):=⟨[.slice none 0 0],_,rfl,⟨none,0,rfl,Nat.le_refl _,.inl rfl⟩,⟨[.slice none 0 0],_,rfl,⟨none,0,rfl,Nat.le_refl _,.inl rfl⟩,⟨[.slice none 0 0],_,rfl,⟨none,0,rfl,Nat.le_refl _,.inl rfl⟩,rfl⟩⟩⟩
theorem ZT51:ZT Tryz.prog 51 dZ (⟨[],[],[]⟩:aQ):=⟨(.agg #[.slice none 0 0,.slice none 0 0,.slice none 0 0]:Value),by kernel_rfl,fun F=>aG (by kernel_rfl) (oj F)⟩
theorem BT51:BT Tryz.prog 51 gp (⟨[],[],[]⟩:aQ):=⟨⟨Tryz.t51,(.agg #[.slice none 0 0,.slice none 0 0,.slice none 0 0]:Value),_,[(0,1),(1,1),(2,1)],by kernel_rfl,by kernel_rfl,Tryz.underlying51,by kernel_rfl,fun i f h=>match i,f,h with
 |0,f,h=>by cases h;rfl
 |1,f,h=>by cases h;rfl
 |2,f,h=>by cases h;rfl
 |(_+3),f,h=>by simp[gp] at h,fun F=>bW (by kernel_rfl) (oj F)⟩⟩
theorem sz51k:(Tryz.prog.info? 51).map (·.size)=some (Kd.n dZ):=by kernel_rfl
theorem kt51:KT Tryz.prog 51 dZ:=⟨by kernel_rfl,by kernel_rfl⟩
theorem mh (F:Fz):Kd.rd fy F ([.slice none 0 0]++[.slice none 0 0]++[.slice none 0 0]++[]) (⟨[],[],(.slice none 0 0)⟩:ci):=⟨[.slice none 0 0],_,rfl,⟨none,0,rfl,Nat.le_refl _,.inl rfl⟩,⟨[.slice none 0 0],_,rfl,⟨none,0,rfl,Nat.le_refl _,.inl rfl⟩,⟨[.slice none 0 0],_,rfl,⟨rfl,rfl⟩,rfl⟩⟩⟩
theorem ol:BT Tryz.prog 51 iH (⟨[],[],(.slice none 0 0)⟩:ci):=⟨⟨Tryz.t51,(.agg #[.slice none 0 0,.slice none 0 0,.slice none 0 0]:Value),_,[(0,1),(1,1),(2,1)],by kernel_rfl,by kernel_rfl,Tryz.underlying51,by kernel_rfl,fun i f h=>match i,f,h with
 |0,f,h=>by cases h;rfl
 |1,f,h=>by cases h;rfl
 |2,f,h=>by cases h;rfl
 |(_+3),f,h=>by simp[iH] at h,fun F=>bW (by kernel_rfl) (mh F)⟩⟩
theorem ZT51k:ZT Tryz.prog 51 fy (⟨[],[],(.slice none 0 0)⟩:ci):=⟨(.agg #[.slice none 0 0,.slice none 0 0,.slice none 0 0]:Value),by kernel_rfl,fun F=>aG (by kernel_rfl) (mh F)⟩
theorem sz51k1:(Tryz.prog.info? 51).map (·.size)=some (Kd.n fy):=by kernel_rfl
theorem vS:fldB Tryz.prog 51 2=some (2,0+1):=by kernel_rfl
theorem ky:UpF iH 2 ⟨kRaw,ci.Chunks⟩ (fun x y=>{x with Chunks:=y}):=⟨rfl,fun _ _=>rfl,fun _ _=>⟨rfl,⟨rfl,(fun q hq=>by simp at hq)⟩⟩⟩
theorem kt44k:KT Tryz.prog 44 kRaw:=⟨by kernel_rfl,by kernel_rfl⟩
theorem sz44k:(Tryz.prog.info? 44).map (·.size)=some (Kd.n kRaw):=by kernel_rfl
theorem fb51k:fldB Tryz.prog 51 0=some (offF gp 0,0+1):=by kernel_rfl
theorem qO (F:Fz):Kd.rd (kInt .i64) F [.int .i64 0] (0:Int):=rfl
theorem AT3:AT Tryz.prog 3 (kInt .i64) (0:Int) 8:=⟨⟨Tryz.t3,(.int .i64 0:Value),by kernel_rfl,by kernel_rfl,by kernel_rfl,by kernel_rfl,by decide,by decide,fun F=>aG (by kernel_rfl) (qO F)⟩⟩
theorem ET3:ET Tryz.prog 3 (kInt .i64) (0:Int):=⟨⟨Tryz.t3,(.int .i64 0:Value),by kernel_rfl,by kernel_rfl,by kernel_rfl,by decide,fun F=>aG (by kernel_rfl) (qO F)⟩⟩
theorem sz3:(Tryz.prog.info? 3).map (·.size)=some (Kd.n (kInt .i64)):=by kernel_rfl
theorem BTA64:BTA Tryz.prog 64 16 (kInt .u8) (List.replicate 16 (0:Int)):=⟨⟨Tryz.t64,(.agg (List.replicate 16 (.int .u8 0:Value)).toArray:Value),_,Tryz.t5,by kernel_rfl,by kernel_rfl,Tryz.underlying64,by kernel_rfl,by kernel_rfl,by simp,fun F=>iG (by kernel_rfl) (eT F).2⟩⟩
theorem om (F:Fz):Kd.rd aC F ((List.replicate 11 ((List.replicate 16 [.int .u8 0]).flatten)).flatten++[]) (⟨(List.replicate 11 (List.replicate 16 (0:Int)))⟩:aN):=⟨(List.replicate 11 ((List.replicate 16 [.int .u8 0]).flatten)).flatten,_,rfl,⟨by simp,cr (K:=kArr 16 (kInt .u8)) (⟨by simp,cr (K:=kInt .u8) rfl 16⟩) 11⟩,rfl⟩
theorem ZT243:ZT Tryz.prog 243 aC (⟨(List.replicate 11 (List.replicate 16 (0:Int)))⟩:aN):=⟨(.agg (List.replicate 176 (.int .u8 0:Value)).toArray:Value),by kernel_rfl,fun F=>aG (by kernel_rfl) (om F)⟩
theorem kv (F:Fz):Kd.rd (kArr 44 (kArr 4 (kInt .u8))) F ((List.replicate 44 ((List.replicate 4 [.int .u8 0]).flatten)).flatten) (List.replicate 44 (List.replicate 4 (0:Int))):=⟨by simp,cr (K:=kArr 4 (kInt .u8)) (⟨by simp,cr (K:=kInt .u8) rfl 4⟩) 44⟩
theorem ZT284:ZT Tryz.prog 284 (kArr 44 (kArr 4 (kInt .u8))) (List.replicate 44 (List.replicate 4 (0:Int))):=⟨(.agg (List.replicate 176 (.int .u8 0:Value)).toArray:Value),by kernel_rfl,fun F=>aG (by kernel_rfl) (kv F)⟩
theorem sz283k:(Tryz.prog.info? 283).map (·.size)=some (Kd.n (kArr 4 (kInt .u8))):=by kernel_rfl
theorem kt283k:KT Tryz.prog 283 (kArr 4 (kInt .u8)):=⟨by kernel_rfl,by kernel_rfl⟩
theorem kz (F:Fz):Kd.rd (kArr 4 (kInt .u8)) F ((List.replicate 4 [.int .u8 0]).flatten) (List.replicate 4 (0:Int)):=⟨by simp,cr (K:=kInt .u8) rfl 4⟩
theorem ZT283:ZT Tryz.prog 283 (kArr 4 (kInt .u8)) (List.replicate 4 (0:Int)):=⟨(.agg #[.int .u8 0,.int .u8 0,.int .u8 0,.int .u8 0]:Value),by kernel_rfl,fun F=>aG (by kernel_rfl) (kz F)⟩
theorem BTA283:BTA Tryz.prog 283 4 (kInt .u8) (List.replicate 4 (0:Int)):=⟨⟨Tryz.t283,(.agg #[.int .u8 0,.int .u8 0,.int .u8 0,.int .u8 0]:Value),_,Tryz.t5,by kernel_rfl,by kernel_rfl,Tryz.underlying283,by kernel_rfl,by kernel_rfl,by simp,fun F=>iG (by kernel_rfl) (kz F).2⟩⟩
theorem kt284:KT Tryz.prog 284 (kArr 44 (kArr 4 (kInt .u8))):=⟨by kernel_rfl,by kernel_rfl⟩
theorem kt283:KT Tryz.prog 283 (kArr 4 (kInt .u8)):=⟨by kernel_rfl,by kernel_rfl⟩
theorem zL:fldB Tryz.prog 243 0=some (0,175+1):=by kernel_rfl
theorem jI:UpF i8 0 ⟨kArr 11 (kArr 16 (kInt .u8)),aN.keys⟩ (fun x y=>{x with keys:=y}):=⟨rfl,fun _ _=>rfl,fun _ _=>(fun q hq=>by simp at hq)⟩
theorem sz240k:(Tryz.prog.info? 240).map (·.size)=some (Kd.n (kArr 16 (kInt .u8))):=by kernel_rfl
theorem kt243:KT Tryz.prog 243 aC:=⟨by kernel_rfl,by kernel_rfl⟩
theorem sz243k:(Tryz.prog.info? 243).map (·.size)=some (Kd.n aC):=by kernel_rfl
theorem nk (F:Fz):Kd.rd (kArr 256 (kInt .u8)) F ((List.replicate 256 [.int .u8 0]).flatten) (List.replicate 256 (0:Int)):=⟨by simp,cr (K:=kInt .u8) rfl 256⟩
theorem ZT246:ZT Tryz.prog 246 (kArr 256 (kInt .u8)) (List.replicate 256 (0:Int)):=⟨(.agg (List.replicate 256 (.int .u8 0:Value)).toArray:Value),by kernel_rfl,fun F=>aG (by kernel_rfl) (nk F)⟩
theorem kt64k:KT Tryz.prog 64 (kArr 16 (kInt .u8)):=⟨by kernel_rfl,by kernel_rfl⟩
theorem fb243k:fldB Tryz.prog 243 0=some (offF i8 0,175+1):=by kernel_rfl
theorem sz240:(Tryz.prog.info? 240).map (·.size)=some (Kd.n (kArr 16 (kInt .u8))):=by kernel_rfl
theorem kt240:KT Tryz.prog 240 (kArr 16 (kInt .u8)):=⟨by kernel_rfl,by kernel_rfl⟩
theorem ZT240:ZT Tryz.prog 240 (kArr 16 (kInt .u8)) (List.replicate 16 (0:Int)):=⟨(.agg (List.replicate 16 (.int .u8 0:Value)).toArray:Value),by kernel_rfl,fun F=>aG (by kernel_rfl) (eT F)⟩
theorem kt240k:KT Tryz.prog 240 (kArr 16 (kInt .u8)):=⟨by kernel_rfl,by kernel_rfl⟩
theorem sz66:(Tryz.prog.info? 66).map (·.size)=some (Kd.n dn):=by kernel_rfl
theorem kt66:KT Tryz.prog 66 dn:=⟨by kernel_rfl,by kernel_rfl⟩
theorem sd (F:Fz):Kd.rd dn F ([.slice none 0 0]++(List.replicate 16 [.int .u8 0]).flatten++[]) (⟨[],(List.replicate 16 (0:Int))⟩:dx):=⟨[.slice none 0 0],_,rfl,⟨none,0,rfl,Nat.le_refl _,.inl rfl⟩,⟨(List.replicate 16 [.int .u8 0]).flatten,_,rfl,⟨by simp,cr (K:=kInt .u8) rfl 16⟩,rfl⟩⟩
theorem ZT66:ZT Tryz.prog 66 dn (⟨[],(List.replicate 16 (0:Int))⟩:dx):=⟨(.agg (List.replicate 1 (.slice none 0 0:Value)++List.replicate 16 (.int .u8 0:Value)).toArray:Value),by kernel_rfl,fun F=>aG (by kernel_rfl) (sd F)⟩
theorem sz66k:(Tryz.prog.info? 66).map (·.size)=some (Kd.n dn):=by kernel_rfl
theorem fb66k:fldB Tryz.prog 66 0=some (offF lJ 0,0+1):=by kernel_rfl
theorem ll (F:Fz):Kd.rd gx F (([.slice none 0 0]++[.slice none 0 0]++[.slice none 0 0]++[])++[.slice none 0 0]++[.slice none 0 0]++[]) (⟨(⟨[],[],[]⟩:aQ),[],(.slice none 0 0)⟩:bp):=⟨([.slice none 0 0]++[.slice none 0 0]++[.slice none 0 0]++[]),_,rfl,⟨[.slice none 0 0],_,rfl,⟨none,0,rfl,Nat.le_refl _,.inl rfl⟩,⟨[.slice none 0 0],_,rfl,⟨none,0,rfl,Nat.le_refl _,.inl rfl⟩,⟨[.slice none 0 0],_,rfl,⟨none,0,rfl,Nat.le_refl _,.inl rfl⟩,rfl⟩⟩⟩,⟨[.slice none 0 0],_,rfl,⟨none,0,rfl,Nat.le_refl _,.inl rfl⟩,⟨[.slice none 0 0],_,rfl,⟨rfl,rfl⟩,rfl⟩⟩⟩
theorem ZT163k:ZT Tryz.prog 163 gx (⟨(⟨[],[],[]⟩:aQ),[],(.slice none 0 0)⟩:bp):=⟨(.agg #[.slice none 0 0,.slice none 0 0,.slice none 0 0,.slice none 0 0,.slice none 0 0]:Value),by kernel_rfl,fun F=>aG (by kernel_rfl) (ll F)⟩
theorem tf:fldB Tryz.prog 163 1=some (3,0+1):=by kernel_rfl
theorem iw:UpF fc 1 ⟨kSl (kInt .i64),bp.sizes⟩ (fun x y=>{x with sizes:=y}):=⟨rfl,fun _ _=>rfl,fun _ _=>⟨rfl,(by intro q hq;simp only[List.mem_cons,List.not_mem_nil,or_false] at hq;rcases hq with rfl<;>rfl)⟩⟩
theorem sz68k:(Tryz.prog.info? 68).map (·.size)=some (Kd.n (kSl (kInt .i64))):=by kernel_rfl
theorem eg:BT Tryz.prog 163 fc (⟨(⟨[],[],[]⟩:aQ),[],(.slice none 0 0)⟩:bp):=⟨⟨Tryz.t163,(.agg #[.slice none 0 0,.slice none 0 0,.slice none 0 0,.slice none 0 0,.slice none 0 0]:Value),_,[(0,3),(3,1),(4,1)],by kernel_rfl,by kernel_rfl,Tryz.underlying163,by kernel_rfl,fun i f h=>match i,f,h with
 |0,f,h=>by cases h;rfl
 |1,f,h=>by cases h;rfl
 |2,f,h=>by cases h;rfl
 |(_+3),f,h=>by simp[fc] at h,fun F=>bW (by kernel_rfl) (ll F)⟩⟩
theorem sz163k:(Tryz.prog.info? 163).map (·.size)=some (Kd.n gx):=by kernel_rfl
theorem kt163:KT Tryz.prog 163 gw:=⟨by kernel_rfl,by kernel_rfl⟩
theorem th:fldB Tryz.prog 163 0=some (0,2+1):=by kernel_rfl
theorem iy:UpF fc 0 ⟨dZ,bp.parts⟩ (fun x y=>{x with parts:=y}):=⟨rfl,fun _ _=>rfl,fun _ _=>(by intro q hq;simp only[List.mem_cons,List.not_mem_nil,or_false] at hq;rcases hq with rfl|rfl<;>rfl)⟩
theorem AG:fldB Tryz.prog 51 1=some (1,0+1):=by kernel_rfl
theorem qP:UpF gp 1 ⟨kSl (kInt .u8),aQ.Braid⟩ (fun x y=>{x with Braid:=y}):=⟨rfl,fun _ _=>rfl,fun _ _=>⟨rfl,(by intro q hq;simp only[List.mem_cons,List.not_mem_nil,or_false] at hq;rcases hq with rfl<;>rfl)⟩⟩
theorem kt22k1:KT Tryz.prog 22 (kSl (kInt .u8)):=⟨by kernel_rfl,by kernel_rfl⟩
theorem yl (F:Fz):Kd.rd kRaw F [.slice none 0 0] (.slice none 0 0):=⟨rfl,rfl⟩
theorem ZT68k:ZT Tryz.prog 68 kRaw (.slice none 0 0):=⟨(.slice none 0 0:Value),by kernel_rfl,fun F=>aG (by kernel_rfl) (yl F)⟩
theorem sz68k1:(Tryz.prog.info? 68).map (·.size)=some (Kd.n kRaw):=by kernel_rfl
theorem oo (F:Fz):Kd.rd cd F ([.string ByteArray.empty]++[.int .i64 0]++[]) (⟨[],(0:Int)⟩:aX):=⟨[.string ByteArray.empty],_,rfl,⟨_,rfl,rfl⟩,⟨[.int .i64 0],_,rfl,rfl,rfl⟩⟩
theorem ZT312:ZT Tryz.prog 312 cd (⟨[],(0:Int)⟩:aX):=⟨(.agg #[.string ByteArray.empty,.int .i64 0]:Value),by kernel_rfl,fun F=>aG (by kernel_rfl) (oo F)⟩
theorem BT312:BT Tryz.prog 312 jq (⟨[],(0:Int)⟩:aX):=⟨⟨Tryz.t312,(.agg #[.string ByteArray.empty,.int .i64 0]:Value),_,[(0,1),(1,1)],by kernel_rfl,by kernel_rfl,Tryz.underlying312,by kernel_rfl,fun i f h=>match i,f,h with
 |0,f,h=>by cases h;rfl
 |1,f,h=>by cases h;rfl
 |(_+2),f,h=>by simp[jq] at h,fun F=>bW (by kernel_rfl) (oo F)⟩⟩
theorem sz312k:(Tryz.prog.info? 312).map (·.size)=some (Kd.n cd):=by kernel_rfl
theorem kt312:KT Tryz.prog 312 cd:=⟨by kernel_rfl,by kernel_rfl⟩
theorem kt312k:KT Tryz.prog 312 cd:=⟨by kernel_rfl,by kernel_rfl⟩
theorem fb312k:fldB Tryz.prog 312 0=some (offF jq 0,0+1):=by kernel_rfl
theorem kt9:KT Tryz.prog 9 kStr:=⟨by kernel_rfl,by kernel_rfl⟩
theorem fb312k1:fldB Tryz.prog 312 1=some (offF jq 1,0+1):=by kernel_rfl
theorem kt68k:KT Tryz.prog 68 kRaw:=⟨by kernel_rfl,by kernel_rfl⟩
theorem kt68k1:KT Tryz.prog 68 (kSl (kInt .i64)):=⟨by kernel_rfl,by kernel_rfl⟩
theorem wK:fldB Tryz.prog 163 2=some (4,0+1):=by kernel_rfl
theorem jZ:UpF fc 2 ⟨kRaw,bp.starts⟩ (fun x y=>{x with starts:=y}):=⟨rfl,fun _ _=>rfl,fun _ _=>⟨rfl,⟨rfl,(fun q hq=>by simp at hq)⟩⟩⟩
theorem qQ:UpF gp 2 ⟨kSl (kSl (kInt .u8)),aQ.Chunks⟩ (fun x y=>{x with Chunks:=y}):=⟨rfl,fun _ _=>rfl,fun _ _=>⟨rfl,⟨rfl,(fun q hq=>by simp at hq)⟩⟩⟩
theorem kt44k1:KT Tryz.prog 44 (kSl (kSl (kInt .u8))):=⟨by kernel_rfl,by kernel_rfl⟩
theorem mi (F:Fz):Kd.rd (kSl (kInt .i64)) F [.slice none 0 0] []:=⟨none,0,rfl,Nat.le_refl _,.inl rfl⟩
theorem ET68:ET Tryz.prog 68 (kSl (kInt .i64)) []:=⟨⟨Tryz.t68,(.slice none 0 0:Value),by kernel_rfl,by kernel_rfl,by kernel_rfl,by decide,fun F=>aG (by kernel_rfl) (mi F)⟩⟩
theorem AT68:AT Tryz.prog 68 (kSl (kInt .i64)) [] 24:=⟨⟨Tryz.t68,(.slice none 0 0:Value),by kernel_rfl,by kernel_rfl,by kernel_rfl,by kernel_rfl,by decide,by decide,fun F=>aG (by kernel_rfl) (mi F)⟩⟩
abbrev ms:(List Int)→Value→Value:=fun _ q=>q
abbrev mt:(List Int)→(List Int):=fun x=>x
theorem xh:Free kRaw:=Free.raw
theorem si:Free (kInt .i64):=Free.int
theorem xi:∀F x q,(kSl (kInt .i64)).val F q (mt x)→∀cs,kRaw.rd F cs (ms x q)→(kSl (kInt .i64)).rd F cs x:=fun F x q hv=>iB hv
theorem AT68k:AT Tryz.prog 68 kRaw (.slice none 0 0) 24:=⟨⟨Tryz.t68,(.slice none 0 0:Value),by kernel_rfl,by kernel_rfl,by kernel_rfl,by kernel_rfl,by decide,by decide,fun F=>aG (by kernel_rfl) (yl F)⟩⟩
theorem sz68:(Tryz.prog.info? 68).map (·.size)=some (Kd.n (kSl (kInt .i64))):=by kernel_rfl
theorem kt68:KT Tryz.prog 68 (kSl (kInt .i64)):=⟨by kernel_rfl,by kernel_rfl⟩
theorem kt163k:KT Tryz.prog 163 gw:=⟨by kernel_rfl,by kernel_rfl⟩
theorem sz163k1:(Tryz.prog.info? 163).map (·.size)=some (Kd.n gw):=by kernel_rfl
theorem se (F:Fz):Kd.rd gw F (([.slice none 0 0]++[.slice none 0 0]++[.slice none 0 0]++[])++[.slice none 0 0]++[.slice none 0 0]++[]) (⟨(⟨[],[],[]⟩:aQ),[],[]⟩:bU):=⟨([.slice none 0 0]++[.slice none 0 0]++[.slice none 0 0]++[]),_,rfl,⟨[.slice none 0 0],_,rfl,⟨none,0,rfl,Nat.le_refl _,.inl rfl⟩,⟨[.slice none 0 0],_,rfl,⟨none,0,rfl,Nat.le_refl _,.inl rfl⟩,⟨[.slice none 0 0],_,rfl,⟨none,0,rfl,Nat.le_refl _,.inl rfl⟩,rfl⟩⟩⟩,⟨[.slice none 0 0],_,rfl,⟨none,0,rfl,Nat.le_refl _,.inl rfl⟩,⟨[.slice none 0 0],_,rfl,⟨none,0,rfl,Nat.le_refl _,.inl rfl⟩,rfl⟩⟩⟩
theorem ZT163:ZT Tryz.prog 163 gw (⟨(⟨[],[],[]⟩:aQ),[],[]⟩:bU):=⟨(.agg #[.slice none 0 0,.slice none 0 0,.slice none 0 0,.slice none 0 0,.slice none 0 0]:Value),by kernel_rfl,fun F=>aG (by kernel_rfl) (se F)⟩
theorem fb163k:fldB Tryz.prog 163 1=some (offF eM 1,0+1):=by kernel_rfl
theorem fb163k1:fldB Tryz.prog 163 2=some (offF eM 2,0+1):=by kernel_rfl
theorem zM (F:Fz):Kd.rd jJ F [.bool false] false:=rfl
theorem AT4:AT Tryz.prog 4 jJ false 1:=⟨⟨Tryz.t4,(.bool false:Value),by kernel_rfl,by kernel_rfl,by kernel_rfl,by kernel_rfl,by decide,by decide,fun F=>aG (by kernel_rfl) (zM F)⟩⟩
theorem sz4k:(Tryz.prog.info? 4).map (·.size)=some (Kd.n jJ):=by kernel_rfl
theorem kt4k:KT Tryz.prog 4 jJ:=⟨by kernel_rfl,by kernel_rfl⟩
theorem fb66k1:fldB Tryz.prog 66 1=some (offF lJ 1,15+1):=by kernel_rfl
theorem wL:fldB Tryz.prog 152 0=some (0,0+1):=by kernel_rfl
theorem mu:UpF fU 0 ⟨kInt .i64,aA.Number⟩ (fun x y=>{x with Number:=y}):=⟨rfl,fun _ _=>rfl,fun _ _=>(by intro q hq;simp only[List.mem_cons,List.not_mem_nil,or_false] at hq;rcases hq with rfl<;>rfl)⟩
abbrev cK:aA→Value→au:=fun x q=>⟨x.Number,q⟩
abbrev cQ:aA→List (List Int):=fun x=>x.Tags
theorem bL:Free (aH):=Free.st2 Free.int Free.raw
theorem bP:Free (kArr 16 (kInt .u8)):=Free.arr Free.int
theorem nu:∀F x q,(kSl (kArr 16 (kInt .u8))).val F q (cQ x)→∀cs,(aH).rd F cs (cK x q)→(bc).rd F cs x:=fun F x q hv cs h=>rL (fs':=gy) (fs:=fU) (x':=cK x q) (x:=x) ⟨fun _ h=>h,iB hv,trivial⟩ h
theorem iq (F:Fz):Kd.rd aH F ([.int .i64 0]++[.slice none 0 0]++[]) (⟨(0:Int),(.slice none 0 0)⟩:au):=⟨[.int .i64 0],_,rfl,rfl,⟨[.slice none 0 0],_,rfl,⟨rfl,rfl⟩,rfl⟩⟩
theorem dF:BT Tryz.prog 152 gy (⟨(0:Int),(.slice none 0 0)⟩:au):=⟨⟨Tryz.t152,(.agg #[.int .i64 0,.slice none 0 0]:Value),_,[(0,1),(1,1)],by kernel_rfl,by kernel_rfl,Tryz.underlying152,by kernel_rfl,fun i f h=>match i,f,h with
 |0,f,h=>by cases h;rfl
 |1,f,h=>by cases h;rfl
 |(_+2),f,h=>by simp[gy] at h,fun F=>bW (by kernel_rfl) (iq F)⟩⟩
theorem ET152k:ET Tryz.prog 152 aH (⟨(0:Int),(.slice none 0 0)⟩:au):=⟨⟨Tryz.t152,(.agg #[.int .i64 0,.slice none 0 0]:Value),by kernel_rfl,by kernel_rfl,by kernel_rfl,by decide,fun F=>aG (by kernel_rfl) (iq F)⟩⟩
theorem AT152k:AT Tryz.prog 152 aH (⟨(0:Int),(.slice none 0 0)⟩:au) 32:=⟨⟨Tryz.t152,(.agg #[.int .i64 0,.slice none 0 0]:Value),by kernel_rfl,by kernel_rfl,by kernel_rfl,by kernel_rfl,by decide,by decide,fun F=>aG (by kernel_rfl) (iq F)⟩⟩
theorem sz152k1:(Tryz.prog.info? 152).map (·.size)=some (Kd.n aH):=by kernel_rfl
theorem kt152k:KT Tryz.prog 152 aH:=⟨by kernel_rfl,by kernel_rfl⟩
theorem ZT152k:ZT Tryz.prog 152 aH (⟨(0:Int),(.slice none 0 0)⟩:au):=⟨(.agg #[.int .i64 0,.slice none 0 0]:Value),by kernel_rfl,fun F=>aG (by kernel_rfl) (iq F)⟩
theorem kF:UpF gy 1 ⟨kRaw,au.Tags⟩ (fun x y=>{x with Tags:=y}):=⟨rfl,fun _ _=>rfl,fun _ _=>⟨rfl,(fun q hq=>by simp at hq)⟩⟩
theorem kt85k1:KT Tryz.prog 85 kRaw:=⟨by kernel_rfl,by kernel_rfl⟩
theorem BT43:BT Tryz.prog 43 eL (⟨(0:Int),(0:Int),(0:Int)⟩:ab):=⟨⟨Tryz.t43,(.agg #[.int .i64 0,.int .i64 0,.int .i64 0]:Value),_,[(0,1),(1,1),(2,1)],by kernel_rfl,by kernel_rfl,Tryz.underlying43,by kernel_rfl,fun i f h=>match i,f,h with
 |0,f,h=>by cases h;rfl
 |1,f,h=>by cases h;rfl
 |2,f,h=>by cases h;rfl
 |(_+3),f,h=>by simp[eL] at h,fun F=>bW (by kernel_rfl) (kU F)⟩⟩
theorem kt43:KT Tryz.prog 43 bu:=⟨by kernel_rfl,by kernel_rfl⟩
theorem AH:fldB Tryz.prog 34 3=some (3,0+1):=by kernel_rfl
theorem qp:UpF gS 3 ⟨kInt .i64,av.Noise⟩ (fun x y=>{x with Noise:=y}):=⟨rfl,fun _ _=>rfl,fun _ _=>⟨rfl,⟨rfl,⟨rfl,(by intro q hq;simp only[List.mem_cons,List.not_mem_nil,or_false] at hq;rcases hq with rfl<;>rfl)⟩⟩⟩⟩
theorem AI:fldB Tryz.prog 34 4=some (4,0+1):=by kernel_rfl
theorem qq:UpF gS 4 ⟨kInt .i64,av.Out⟩ (fun x y=>{x with Out:=y}):=⟨rfl,fun _ _=>rfl,fun _ _=>⟨rfl,⟨rfl,⟨rfl,⟨rfl,(fun q hq=>by simp at hq)⟩⟩⟩⟩⟩
theorem fb37k:fldB Tryz.prog 37 3=some (offF gf 3,0+1):=by kernel_rfl
theorem kt35:KT Tryz.prog 35 (kInt .i64):=⟨by kernel_rfl,by kernel_rfl⟩
theorem BT87:BT Tryz.prog 87 fg (⟨(⟨(0:Int),(0:Int),(0:Int)⟩:ab),(0:Int),[],[]⟩:aK):=⟨⟨Tryz.t87,(.agg #[.int .i64 0,.int .i64 0,.int .i64 0,.int .i64 0,.slice none 0 0,.slice none 0 0]:Value),_,[(0,3),(3,1),(4,1),(5,1)],by kernel_rfl,by kernel_rfl,Tryz.underlying87,by kernel_rfl,fun i f h=>match i,f,h with
 |0,f,h=>by cases h;rfl
 |1,f,h=>by cases h;rfl
 |2,f,h=>by cases h;rfl
 |3,f,h=>by cases h;rfl
 |(_+4),f,h=>by simp[fg] at h,fun F=>bW (by kernel_rfl) (np F)⟩⟩
theorem sz87k:(Tryz.prog.info? 87).map (·.size)=some (Kd.n aI):=by kernel_rfl
theorem kt87:KT Tryz.prog 87 aI:=⟨by kernel_rfl,by kernel_rfl⟩
theorem fb37k1:fldB Tryz.prog 37 2=some (offF gf 2,4+1):=by kernel_rfl
theorem fb34k:fldB Tryz.prog 34 3=some (offF gS 3,0+1):=by kernel_rfl
theorem j6 (F:Fz):Kd.rd cw F (([.int .i64 0]++[.int .i64 0]++[.int .i64 0]++[])++[.int .i64 0]++[.slice none 0 0]++[.slice none 0 0]++[]) (⟨(⟨(0:Int),(0:Int),(0:Int)⟩:ab),(0:Int),(.slice none 0 0),(.slice none 0 0)⟩:aP):=⟨([.int .i64 0]++[.int .i64 0]++[.int .i64 0]++[]),_,rfl,⟨[.int .i64 0],_,rfl,rfl,⟨[.int .i64 0],_,rfl,rfl,⟨[.int .i64 0],_,rfl,rfl,rfl⟩⟩⟩,⟨[.int .i64 0],_,rfl,rfl,⟨[.slice none 0 0],_,rfl,⟨rfl,rfl⟩,⟨[.slice none 0 0],_,rfl,⟨rfl,rfl⟩,rfl⟩⟩⟩⟩
theorem mw:BT Tryz.prog 87 dV (⟨(⟨(0:Int),(0:Int),(0:Int)⟩:ab),(0:Int),(.slice none 0 0),(.slice none 0 0)⟩:aP):=⟨⟨Tryz.t87,(.agg #[.int .i64 0,.int .i64 0,.int .i64 0,.int .i64 0,.slice none 0 0,.slice none 0 0]:Value),_,[(0,3),(3,1),(4,1),(5,1)],by kernel_rfl,by kernel_rfl,Tryz.underlying87,by kernel_rfl,fun i f h=>match i,f,h with
 |0,f,h=>by cases h;rfl
 |1,f,h=>by cases h;rfl
 |2,f,h=>by cases h;rfl
 |3,f,h=>by cases h;rfl
 |(_+4),f,h=>by simp[dV] at h,fun F=>bW (by kernel_rfl) (j6 F)⟩⟩
theorem ZT87k:ZT Tryz.prog 87 cw (⟨(⟨(0:Int),(0:Int),(0:Int)⟩:ab),(0:Int),(.slice none 0 0),(.slice none 0 0)⟩:aP):=⟨(.agg #[.int .i64 0,.int .i64 0,.int .i64 0,.int .i64 0,.slice none 0 0,.slice none 0 0]:Value),by kernel_rfl,fun F=>aG (by kernel_rfl) (j6 F)⟩
theorem sz87k1:(Tryz.prog.info? 87).map (·.size)=some (Kd.n cw):=by kernel_rfl
theorem AJ:fldB Tryz.prog 87 0=some (0,2+1):=by kernel_rfl
theorem mx:UpF dV 0 ⟨bu,aP.Header⟩ (fun x y=>{x with Header:=y}):=⟨rfl,fun _ _=>rfl,fun _ _=>(by intro q hq;simp only[List.mem_cons,List.not_mem_nil,or_false] at hq;rcases hq with rfl|rfl|rfl<;>rfl)⟩
theorem AK:fldB Tryz.prog 87 3=some (5,0+1):=by kernel_rfl
theorem my:UpF dV 3 ⟨kRaw,aP.Nonces⟩ (fun x y=>{x with Nonces:=y}):=⟨rfl,fun _ _=>rfl,fun _ _=>⟨rfl,⟨rfl,⟨rfl,(fun q hq=>by simp at hq)⟩⟩⟩⟩
theorem ti:fldB Tryz.prog 87 2=some (4,0+1):=by kernel_rfl
theorem fh:UpF dV 2 ⟨kRaw,aP.From⟩ (fun x y=>{x with From:=y}):=⟨rfl,fun _ _=>rfl,fun _ _=>⟨rfl,⟨rfl,(by intro q hq;simp only[List.mem_cons,List.not_mem_nil,or_false] at hq;rcases hq with rfl<;>rfl)⟩⟩⟩
theorem fb37k2:fldB Tryz.prog 37 0=some (offF gf 0,0+1):=by kernel_rfl
abbrev str1:ByteArray:=⟨#[67,72,82,78,1,1,0,0,0,0,0,0,0,0,0,7,0,0,0,0,0,0,0,1,26,177,1,54]⟩
theorem zN:rdOf (.raw (.string str1)) kStr [67,72,82,78,1,1,0,0,0,0,0,0,0,0,0,7,0,0,0,0,0,0,0,1,26,177,1,54]:=rdS (by kernel_rfl)
theorem fb87k:fldB Tryz.prog 87 1=some (offF fg 1,0+1):=by kernel_rfl
theorem fb87k1:fldB Tryz.prog 87 0=some (offF fg 0,2+1):=by kernel_rfl
theorem ZT43:ZT Tryz.prog 43 bu (⟨(0:Int),(0:Int),(0:Int)⟩:ab):=⟨(.agg #[.int .i64 0,.int .i64 0,.int .i64 0]:Value),by kernel_rfl,fun F=>aG (by kernel_rfl) (kU F)⟩
theorem sz43k:(Tryz.prog.info? 43).map (·.size)=some (Kd.n bu):=by kernel_rfl
theorem fb87k2:fldB Tryz.prog 87 2=some (offF fg 2,0+1):=by kernel_rfl
theorem fb87k3:fldB Tryz.prog 87 3=some (offF fg 3,0+1):=by kernel_rfl
theorem ym {P:Program} {ops:Array Oper} {rest:List Oper} {Q:Exit→Act→World→Prop} {F0:Fz} {n:Nat} {E:List (Nat×SV)} {L:List Res} {o0 o1 o2 o3 o4 o5 o6:Oper} (d:Nat) (e:Bool) (k:Under F0 n ((d,.raw (.bool e))::E) L (wpList P ops Q rest)) (h:Under F0 n ((d,.raw (.bool e))::E) L (wpList P ops Q rest)→Under F0 n E L (wpList P ops Q (o0::o1::o2::o3::o4::o5::o6::rest))):Under F0 n E L (wpList P ops Q (o0::o1::o2::o3::o4::o5::o6::rest)):=h k
theorem A9 {P:Program} {ops:Array Oper} {rest:List Oper} {C:World→Prop} {Qa:Act→Prop} {F0:Fz} {n:Nat} {E:List (Nat×SV)} {o0 o1 o2 o3 o4 o5 o6:Oper} (d:Nat) (e:Bool) (k:aM F0 n ((d,.raw (.bool e))::E) (wpQuiet P ops C Qa rest)) (h:aM F0 n ((d,.raw (.bool e))::E) (wpQuiet P ops C Qa rest)→aM F0 n E (wpQuiet P ops C Qa (o0::o1::o2::o3::o4::o5::o6::rest))):aM F0 n E (wpQuiet P ops C Qa (o0::o1::o2::o3::o4::o5::o6::rest)):=h k
theorem mj (F:Fz):Kd.rd cc F (([.int .i64 0]++[.int .i64 0]++[.int .i64 0]++[])++[.slice none 0 0]++[]) (⟨(⟨(0:Int),(0:Int),(0:Int)⟩:ab),(.slice none 0 0)⟩:aY):=⟨([.int .i64 0]++[.int .i64 0]++[.int .i64 0]++[]),_,rfl,⟨[.int .i64 0],_,rfl,rfl,⟨[.int .i64 0],_,rfl,rfl,⟨[.int .i64 0],_,rfl,rfl,rfl⟩⟩⟩,⟨[.slice none 0 0],_,rfl,⟨rfl,rfl⟩,rfl⟩⟩
theorem kK:BT Tryz.prog 46 gz (⟨(⟨(0:Int),(0:Int),(0:Int)⟩:ab),(.slice none 0 0)⟩:aY):=⟨⟨Tryz.t46,(.agg #[.int .i64 0,.int .i64 0,.int .i64 0,.slice none 0 0]:Value),_,[(0,3),(3,1)],by kernel_rfl,by kernel_rfl,Tryz.underlying46,by kernel_rfl,fun i f h=>match i,f,h with
 |0,f,h=>by cases h;rfl
 |1,f,h=>by cases h;rfl
 |(_+2),f,h=>by simp[gz] at h,fun F=>bW (by kernel_rfl) (mj F)⟩⟩
theorem ZT46k:ZT Tryz.prog 46 cc (⟨(⟨(0:Int),(0:Int),(0:Int)⟩:ab),(.slice none 0 0)⟩:aY):=⟨(.agg #[.int .i64 0,.int .i64 0,.int .i64 0,.slice none 0 0]:Value),by kernel_rfl,fun F=>aG (by kernel_rfl) (mj F)⟩
theorem sz46k1:(Tryz.prog.info? 46).map (·.size)=some (Kd.n cc):=by kernel_rfl
theorem AL:fldB Tryz.prog 46 0=some (0,2+1):=by kernel_rfl
theorem ot:UpF gz 0 ⟨bu,aY.Header⟩ (fun x y=>{x with Header:=y}):=⟨rfl,fun _ _=>rfl,fun _ _=>(by intro q hq;simp only[List.mem_cons,List.not_mem_nil,or_false] at hq;rcases hq with rfl<;>rfl)⟩
theorem qR:fldB Tryz.prog 46 1=some (3,0+1):=by kernel_rfl
theorem fi:UpF gz 1 ⟨kRaw,aY.Cells⟩ (fun x y=>{x with Cells:=y}):=⟨rfl,fun _ _=>rfl,fun _ _=>⟨rfl,(fun q hq=>by simp at hq)⟩⟩
theorem sz22k1:(Tryz.prog.info? 22).map (·.size)=some (Kd.n (kSl (kInt .u8))):=by kernel_rfl
theorem lm (F:Fz):Kd.rd bS F ((List.replicate 16 [.int .u8 0]).flatten++(List.replicate 32 [.int .u8 0]).flatten++(List.replicate 32 [.int .u8 0]).flatten++[]) (⟨(List.replicate 16 (0:Int)),(List.replicate 32 (0:Int)),(List.replicate 32 (0:Int))⟩:an):=⟨(List.replicate 16 [.int .u8 0]).flatten,_,rfl,⟨by simp,cr (K:=kInt .u8) rfl 16⟩,⟨(List.replicate 32 [.int .u8 0]).flatten,_,rfl,⟨by simp,cr (K:=kInt .u8) rfl 32⟩,⟨(List.replicate 32 [.int .u8 0]).flatten,_,rfl,⟨by simp,cr (K:=kInt .u8) rfl 32⟩,rfl⟩⟩⟩
theorem ZT181:ZT Tryz.prog 181 bS (⟨(List.replicate 16 (0:Int)),(List.replicate 32 (0:Int)),(List.replicate 32 (0:Int))⟩:an):=⟨(.agg (List.replicate 80 (.int .u8 0:Value)).toArray:Value),by kernel_rfl,fun F=>aG (by kernel_rfl) (lm F)⟩
theorem BT181:BT Tryz.prog 181 dp (⟨(List.replicate 16 (0:Int)),(List.replicate 32 (0:Int)),(List.replicate 32 (0:Int))⟩:an):=⟨⟨Tryz.t181,(.agg (List.replicate 80 (.int .u8 0:Value)).toArray:Value),_,[(0,16),(16,32),(48,32)],by kernel_rfl,by kernel_rfl,Tryz.underlying181,by kernel_rfl,fun i f h=>match i,f,h with
 |0,f,h=>by cases h;rfl
 |1,f,h=>by cases h;rfl
 |2,f,h=>by cases h;rfl
 |(_+3),f,h=>by simp[dp] at h,fun F=>bW (by kernel_rfl) (lm F)⟩⟩
theorem sz181k:(Tryz.prog.info? 181).map (·.size)=some (Kd.n bS):=by kernel_rfl
theorem kt181:KT Tryz.prog 181 bS:=⟨by kernel_rfl,by kernel_rfl⟩
theorem fb181k:fldB Tryz.prog 181 0=some (offF dp 0,15+1):=by kernel_rfl
theorem fb181k1:fldB Tryz.prog 181 1=some (offF dp 1,31+1):=by kernel_rfl
abbrev str2:ByteArray:=⟨#[67,72,82,78,1,2,0,0,0,0,0,0,0,0,0,7,0,0,0,0,0,0,0,1,26,196,1,55]⟩
theorem zO:rdOf (.raw (.string str2)) kStr [67,72,82,78,1,2,0,0,0,0,0,0,0,0,0,7,0,0,0,0,0,0,0,1,26,196,1,55]:=rdS (by kernel_rfl)
theorem fb96k:fldB Tryz.prog 96 0=some (offF fE 0,10+1):=by kernel_rfl
theorem fb96k1:fldB Tryz.prog 96 1=some (offF fE 1,5+1):=by kernel_rfl
theorem fb96k2:fldB Tryz.prog 96 2=some (offF fE 2,0+1):=by kernel_rfl
theorem Ba {P:Program} {ops:Array Oper} {rest:List Oper} {Q:Exit→Act→World→Prop} {F0:Fz} {n:Nat} {E:List (Nat×SV)} {L:List Res} {o0 o1 o2 o3 o4 o5 o6 o7 o8 o9 o10 o11:Oper} (d:Nat) (e:Bool) (k:Under F0 n ((d,.raw (.bool e))::E) L (wpList P ops Q rest)) (h:Under F0 n ((d,.raw (.bool e))::E) L (wpList P ops Q rest)→Under F0 n E L (wpList P ops Q (o0::o1::o2::o3::o4::o5::o6::o7::o8::o9::o10::o11::rest))):Under F0 n E L (wpList P ops Q (o0::o1::o2::o3::o4::o5::o6::o7::o8::o9::o10::o11::rest)):=h k
theorem yn {P:Program} {ops:Array Oper} {rest:List Oper} {C:World→Prop} {Qa:Act→Prop} {F0:Fz} {n:Nat} {E:List (Nat×SV)} {o0 o1 o2 o3 o4 o5 o6 o7 o8 o9 o10 o11:Oper} (d:Nat) (e:Bool) (k:aM F0 n ((d,.raw (.bool e))::E) (wpQuiet P ops C Qa rest)) (h:aM F0 n ((d,.raw (.bool e))::E) (wpQuiet P ops C Qa rest)→aM F0 n E (wpQuiet P ops C Qa (o0::o1::o2::o3::o4::o5::o6::o7::o8::o9::o10::o11::rest))):aM F0 n E (wpQuiet P ops C Qa (o0::o1::o2::o3::o4::o5::o6::o7::o8::o9::o10::o11::rest)):=h k
theorem mz (F:Fz):Kd.rd be F ([.bool false]++([.int .i64 0]++[.int .i64 0]++[.int .i64 0]++[])++[.slice none 0 0]++[.int .i64 0]++[.int .i64 0]++[]) (⟨false,(⟨(0:Int),(0:Int),(0:Int)⟩:ab),[],(0:Int),(0:Int)⟩:ae):=⟨[.bool false],_,rfl,rfl,⟨([.int .i64 0]++[.int .i64 0]++[.int .i64 0]++[]),_,rfl,⟨[.int .i64 0],_,rfl,rfl,⟨[.int .i64 0],_,rfl,rfl,⟨[.int .i64 0],_,rfl,rfl,rfl⟩⟩⟩,⟨[.slice none 0 0],_,rfl,⟨none,0,rfl,Nat.le_refl _,.inl rfl⟩,⟨[.int .i64 0],_,rfl,rfl,⟨[.int .i64 0],_,rfl,rfl,rfl⟩⟩⟩⟩⟩
theorem ZT193:ZT Tryz.prog 193 be (⟨false,(⟨(0:Int),(0:Int),(0:Int)⟩:ab),[],(0:Int),(0:Int)⟩:ae):=⟨(.agg #[.bool false,.int .i64 0,.int .i64 0,.int .i64 0,.slice none 0 0,.int .i64 0,.int .i64 0]:Value),by kernel_rfl,fun F=>aG (by kernel_rfl) (mz F)⟩
theorem ln (F:Fz):Kd.rd dv F ([.bool false]++([.int .i64 0]++[.int .i64 0]++[.int .i64 0]++[])++[.slice none 0 0]++[.int .i64 0]++[.int .i64 0]++[]) (⟨false,(⟨(0:Int),(0:Int),(0:Int)⟩:ab),(.slice none 0 0),(0:Int),(0:Int)⟩:aq):=⟨[.bool false],_,rfl,rfl,⟨([.int .i64 0]++[.int .i64 0]++[.int .i64 0]++[]),_,rfl,⟨[.int .i64 0],_,rfl,rfl,⟨[.int .i64 0],_,rfl,rfl,⟨[.int .i64 0],_,rfl,rfl,rfl⟩⟩⟩,⟨[.slice none 0 0],_,rfl,⟨rfl,rfl⟩,⟨[.int .i64 0],_,rfl,rfl,⟨[.int .i64 0],_,rfl,rfl,rfl⟩⟩⟩⟩⟩
theorem ZT193k:ZT Tryz.prog 193 dv (⟨false,(⟨(0:Int),(0:Int),(0:Int)⟩:ab),(.slice none 0 0),(0:Int),(0:Int)⟩:aq):=⟨(.agg #[.bool false,.int .i64 0,.int .i64 0,.int .i64 0,.slice none 0 0,.int .i64 0,.int .i64 0]:Value),by kernel_rfl,fun F=>aG (by kernel_rfl) (ln F)⟩
theorem lM:fldB Tryz.prog 193 3=some (5,0+1):=by kernel_rfl
theorem dt:UpF cP 3 ⟨kInt .i64,aq.Place⟩ (fun x y=>{x with Place:=y}):=⟨rfl,fun _ _=>rfl,fun _ _=>⟨rfl,⟨rfl,⟨rfl,(by intro q hq;simp only[List.mem_cons,List.not_mem_nil,or_false] at hq;rcases hq with rfl<;>rfl)⟩⟩⟩⟩
theorem lN:fldB Tryz.prog 193 4=some (6,0+1):=by kernel_rfl
theorem du:UpF cP 4 ⟨kInt .i64,aq.Err⟩ (fun x y=>{x with Err:=y}):=⟨rfl,fun _ _=>rfl,fun _ _=>⟨rfl,⟨rfl,⟨rfl,⟨rfl,(fun q hq=>by simp at hq)⟩⟩⟩⟩⟩
theorem kt193:KT Tryz.prog 193 be:=⟨by kernel_rfl,by kernel_rfl⟩
theorem sz193k:(Tryz.prog.info? 193).map (·.size)=some (Kd.n be):=by kernel_rfl
theorem zP:fldB Tryz.prog 193 0=some (0,0+1):=by kernel_rfl
theorem kw:UpF cP 0 ⟨jJ,aq.Head⟩ (fun x y=>{x with Head:=y}):=⟨rfl,fun _ _=>rfl,fun _ _=>(by intro q hq;simp only[List.mem_cons,List.not_mem_nil,or_false] at hq;rcases hq with rfl|rfl|rfl|rfl<;>rfl)⟩
theorem zQ:fldB Tryz.prog 193 1=some (1,2+1):=by kernel_rfl
theorem kx:UpF cP 1 ⟨bu,aq.Header⟩ (fun x y=>{x with Header:=y}):=⟨rfl,fun _ _=>rfl,fun _ _=>⟨rfl,(by intro q hq;simp only[List.mem_cons,List.not_mem_nil,or_false] at hq;rcases hq with rfl|rfl|rfl<;>rfl)⟩⟩
theorem wM:fldB Tryz.prog 193 2=some (4,0+1):=by kernel_rfl
theorem ic:UpF cP 2 ⟨kRaw,aq.Cells⟩ (fun x y=>{x with Cells:=y}):=⟨rfl,fun _ _=>rfl,fun _ _=>⟨rfl,⟨rfl,(by intro q hq;simp only[List.mem_cons,List.not_mem_nil,or_false] at hq;rcases hq with rfl|rfl<;>rfl)⟩⟩⟩
theorem fW:UpF bz 3 ⟨kInt .i64,ae.Place⟩ (fun x y=>{x with Place:=y}):=⟨rfl,fun _ _=>rfl,fun _ _=>⟨rfl,⟨rfl,⟨rfl,(by intro q hq;simp only[List.mem_cons,List.not_mem_nil,or_false] at hq;rcases hq with rfl<;>rfl)⟩⟩⟩⟩
theorem fX:UpF bz 4 ⟨kInt .i64,ae.Err⟩ (fun x y=>{x with Err:=y}):=⟨rfl,fun _ _=>rfl,fun _ _=>⟨rfl,⟨rfl,⟨rfl,⟨rfl,(fun q hq=>by simp at hq)⟩⟩⟩⟩⟩
theorem fb193k:fldB Tryz.prog 193 4=some (offF bz 4,0+1):=by kernel_rfl
theorem fb193k1:fldB Tryz.prog 193 3=some (offF bz 3,0+1):=by kernel_rfl
theorem fb193k2:fldB Tryz.prog 193 1=some (offF bz 1,2+1):=by kernel_rfl
theorem fb193k3:fldB Tryz.prog 193 2=some (offF bz 2,0+1):=by kernel_rfl
theorem BTA249:BTA Tryz.prog 249 8 (kInt .u32) (List.replicate 8 (0:Int)):=⟨⟨Tryz.t249,(.agg (List.replicate 8 (.int .u32 0:Value)).toArray:Value),_,Tryz.t142,by kernel_rfl,by kernel_rfl,Tryz.underlying249,by kernel_rfl,by kernel_rfl,by simp,fun F=>iG (by kernel_rfl) (fV F).2⟩⟩
theorem ZT249:ZT Tryz.prog 249 (kArr 8 (kInt .u32)) (List.replicate 8 (0:Int)):=⟨(.agg (List.replicate 8 (.int .u32 0:Value)).toArray:Value),by kernel_rfl,fun F=>aG (by kernel_rfl) (fV F)⟩
theorem sz249k:(Tryz.prog.info? 249).map (·.size)=some (Kd.n (kArr 8 (kInt .u32))):=by kernel_rfl
theorem BTA319:BTA Tryz.prog 319 64 (kInt .u32) (List.replicate 64 (0:Int)):=⟨⟨Tryz.t319,(.agg (List.replicate 64 (.int .u32 0:Value)).toArray:Value),_,Tryz.t142,by kernel_rfl,by kernel_rfl,Tryz.underlying319,by kernel_rfl,by kernel_rfl,by simp,fun F=>iG (by kernel_rfl) (jH F).2⟩⟩
theorem sz319k:(Tryz.prog.info? 319).map (·.size)=some (Kd.n (kArr 64 (kInt .u32))):=by kernel_rfl
theorem kt319:KT Tryz.prog 319 (kArr 64 (kInt .u32)):=⟨by kernel_rfl,by kernel_rfl⟩
theorem kt249k:KT Tryz.prog 249 (kArr 8 (kInt .u32)):=⟨by kernel_rfl,by kernel_rfl⟩
theorem kt249:KT Tryz.prog 249 (kArr 8 (kInt .u32)):=⟨by kernel_rfl,by kernel_rfl⟩
theorem zR:fldB Tryz.prog 181 0=some (0,15+1):=by kernel_rfl
theorem j8:UpF dp 0 ⟨kArr 16 (kInt .u8),an.Box⟩ (fun x y=>{x with Box:=y}):=⟨rfl,fun _ _=>rfl,fun _ _=>(by intro q hq;simp only[List.mem_cons,List.not_mem_nil,or_false] at hq;rcases hq with rfl|rfl<;>rfl)⟩
theorem zS:fldB Tryz.prog 181 1=some (16,31+1):=by kernel_rfl
theorem j9:UpF dp 1 ⟨kArr 32 (kInt .u8),an.Mac⟩ (fun x y=>{x with Mac:=y}):=⟨rfl,fun _ _=>rfl,fun _ _=>⟨rfl,(by intro q hq;simp only[List.mem_cons,List.not_mem_nil,or_false] at hq;rcases hq with rfl<;>rfl)⟩⟩
theorem zT:fldB Tryz.prog 181 2=some (48,31+1):=by kernel_rfl
theorem ka:UpF dp 2 ⟨kArr 32 (kInt .u8),an.Replay⟩ (fun x y=>{x with Replay:=y}):=⟨rfl,fun _ _=>rfl,fun _ _=>⟨rfl,⟨rfl,(fun q hq=>by simp at hq)⟩⟩⟩
theorem nm (F:Fz):Kd.rd (kArr 176 (kInt .u8)) F ((List.replicate 176 [.int .u8 0]).flatten) (List.replicate 176 (0:Int)):=⟨by simp,cr (K:=kInt .u8) rfl 176⟩
theorem ZT279:ZT Tryz.prog 279 (kArr 176 (kInt .u8)) (List.replicate 176 (0:Int)):=⟨(.agg (List.replicate 176 (.int .u8 0:Value)).toArray:Value),by kernel_rfl,fun F=>aG (by kernel_rfl) (nm F)⟩
abbrev str3:ByteArray:=⟨#[99,124,119,123,242,107,111,197,48,1,103,43,254,215,171,118,202,130,201,125,250,89,71,240,173,212,162,175,156,164,114,192,183,253,147,38,54,63,247,204,52,165,229,241,113,216,49,21,4,199,35,195,24,150,5,154,7,18,128,226,235,39,178,117,9,131,44,26,27,110,90,160,82,59,214,179,41,227,47,132,83,209,0,237,32,252,177,91,106,203,190,57,74,76,88,207,208,239,170,251,67,77,51,133,69,249,2,127,80,60,159,168,81,163,64,143,146,157,56,245,188,182,218,33,16,255,243,210,205,12,19,236,95,151,68,23,196,167,126,61,100,93,25,115,96,129,79,220,34,42,144,136,70,238,184,20,222,94,11,219,224,50,58,10,73,6,36,92,194,211,172,98,145,149,228,121,231,200,55,109,141,213,78,169,108,86,244,234,101,122,174,8,186,120,37,46,28,166,180,198,232,221,116,31,75,189,139,138,112,62,181,102,72,3,246,14,97,53,87,185,134,193,29,158,225,248,152,17,105,217,142,148,155,30,135,233,206,85,40,223,140,161,137,13,191,230,66,104,65,153,45,15,176,84,187,22]⟩
theorem ou:rdOf (.raw (.string str3)) kStr [99,124,119,123,242,107,111,197,48,1,103,43,254,215,171,118,202,130,201,125,250,89,71,240,173,212,162,175,156,164,114,192,183,253,147,38,54,63,247,204,52,165,229,241,113,216,49,21,4,199,35,195,24,150,5,154,7,18,128,226,235,39,178,117,9,131,44,26,27,110,90,160,82,59,214,179,41,227,47,132,83,209,0,237,32,252,177,91,106,203,190,57,74,76,88,207,208,239,170,251,67,77,51,133,69,249,2,127,80,60,159,168,81,163,64,143,146,157,56,245,188,182,218,33,16,255,243,210,205,12,19,236,95,151,68,23,196,167,126,61,100,93,25,115,96,129,79,220,34,42,144,136,70,238,184,20,222,94,11,219,224,50,58,10,73,6,36,92,194,211,172,98,145,149,228,121,231,200,55,109,141,213,78,169,108,86,244,234,101,122,174,8,186,120,37,46,28,166,180,198,232,221,116,31,75,189,139,138,112,62,181,102,72,3,246,14,97,53,87,185,134,193,29,158,225,248,152,17,105,217,142,148,155,30,135,233,206,85,40,223,140,161,137,13,191,230,66,104,65,153,45,15,176,84,187,22]:=rdS (by kernel_rfl)
def ig:List Int:=[99,124,119,123,242,107,111,197,48,1,103,43,254,215,171,118,202,130,201,125,250,89,71,240,173,212,162,175,156,164,114,192,183,253,147,38,54,63,247,204,52,165,229,241,113,216,49,21,4,199,35,195,24,150,5,154,7,18,128,226,235,39,178,117,9,131,44,26,27,110,90,160,82,59,214,179,41,227,47,132,83,209,0,237,32,252,177,91,106,203,190,57,74,76,88,207,208,239,170,251,67,77,51,133,69,249,2,127,80,60,159,168,81,163,64,143,146,157,56,245,188,182,218,33,16,255,243,210,205,12,19,236,95,151,68,23,196,167,126,61,100,93,25,115,96,129,79,220,34,42,144,136,70,238,184,20,222,94,11,219,224,50,58,10,73,6,36,92,194,211,172,98,145,149,228,121,231,200,55,109,141,213,78,169,108,86,244,234,101,122,174,8,186,120,37,46,28,166,180,198,232,221,116,31,75,189,139,138,112,62,181,102,72,3,246,14,97,53,87,185,134,193,29,158,225,248,152,17,105,217,142,148,155,30,135,233,206,85,40,223,140,161,137,13,191,230,66,104,65,153,45,15,176,84,187,22]
theorem kt279:KT Tryz.prog 279 (kArr 176 (kInt .u8)):=⟨by kernel_rfl,by kernel_rfl⟩
theorem sz279k:(Tryz.prog.info? 279).map (·.size)=some (Kd.n (kArr 176 (kInt .u8))):=by kernel_rfl
theorem rw5:RdW Tryz.prog 5 (kInt .u8) (gInt .u8) bOne:=wx Tryz.underlying5
theorem cof5:Tryz.prog.cellsOf 5=1:=by kernel_rfl
theorem rw22:RdW Tryz.prog 22 (kSl (kInt .u8)) (gSl (gInt .u8)) (bSl bOne):=zo (K:=kInt .u8) Tryz.underlying22 cof5 (by decide) rw5
theorem rw3:RdW Tryz.prog 3 (kInt .i64) (gInt .i64) bOne:=wx Tryz.underlying3
theorem cof22:Tryz.prog.cellsOf 22=1:=by kernel_rfl
theorem cof3:Tryz.prog.cellsOf 3=1:=by kernel_rfl
theorem cof24:Tryz.prog.cellsOf 24=11:=by kernel_rfl
def ow (x:aB):Prop:=(gSl (gInt .u8)) x.Master∧(gInt .i64) x.Left∧(gInt .i64) x.Span∧(gInt .i64) x.Room∧(gInt .i64) x.Num∧(gInt .i64) x.Den∧(gInt .i64) x.Noise∧(gInt .i64) x.Chunks∧(gInt .i64) x.Workers∧(gInt .i64) x.Cap∧(gInt .i64) x.Shards∧True
def jN (x:aB):Nat:=(bSl bOne) x.Master+(bOne x.Left+(bOne x.Span+(bOne x.Room+(bOne x.Num+(bOne x.Den+(bOne x.Noise+(bOne x.Chunks+(bOne x.Workers+(bOne x.Cap+(bOne x.Shards+0))))))))))
theorem rw24:RdW Tryz.prog 24 aJ ow jN:=by
 intro H enc W _ B BA hB fuel cs x h
 obtain⟨hl,ds,hx,hf0⟩:=qz Tryz.underlying24 h
 obtain⟨d0,ds0,e0,⟨n0,p0,t0⟩,hf1⟩:=FsRd.cons hf0
 subst e0
 obtain⟨y0,r0,g0,b0⟩:=rw22 hB t0
 obtain⟨d1,ds1,e1,⟨n1,p1,t1⟩,hf2⟩:=FsRd.cons hf1
 subst e1
 obtain⟨y1,r1,g1,b1⟩:=rw3 hB t1
 obtain⟨d2,ds2,e2,⟨n2,p2,t2⟩,hf3⟩:=FsRd.cons hf2
 subst e2
 obtain⟨y2,r2,g2,b2⟩:=rw3 hB t2
 obtain⟨d3,ds3,e3,⟨n3,p3,t3⟩,hf4⟩:=FsRd.cons hf3
 subst e3
 obtain⟨y3,r3,g3,b3⟩:=rw3 hB t3
 obtain⟨d4,ds4,e4,⟨n4,p4,t4⟩,hf5⟩:=FsRd.cons hf4
 subst e4
 obtain⟨y4,r4,g4,b4⟩:=rw3 hB t4
 obtain⟨d5,ds5,e5,⟨n5,p5,t5⟩,hf6⟩:=FsRd.cons hf5
 subst e5
 obtain⟨y5,r5,g5,b5⟩:=rw3 hB t5
 obtain⟨d6,ds6,e6,⟨n6,p6,t6⟩,hf7⟩:=FsRd.cons hf6
 subst e6
 obtain⟨y6,r6,g6,b6⟩:=rw3 hB t6
 obtain⟨d7,ds7,e7,⟨n7,p7,t7⟩,hf8⟩:=FsRd.cons hf7
 subst e7
 obtain⟨y7,r7,g7,b7⟩:=rw3 hB t7
 obtain⟨d8,ds8,e8,⟨n8,p8,t8⟩,hf9⟩:=FsRd.cons hf8
 subst e8
 obtain⟨y8,r8,g8,b8⟩:=rw3 hB t8
 obtain⟨d9,ds9,e9,⟨n9,p9,t9⟩,hf10⟩:=FsRd.cons hf9
 subst e9
 obtain⟨y9,r9,g9,b9⟩:=rw3 hB t9
 obtain⟨d10,ds10,e10,⟨n10,p10,t10⟩,hf11⟩:=FsRd.cons hf10
 subst e10
 obtain⟨y10,r10,g10,b10⟩:=rw3 hB t10
 have hnil:=FsRd.nil hf11
 subst hnil
 refine⟨⟨y0,y1,y2,y3,y4,y5,y6,y7,y8,y9,y10⟩,ng (cW cof22 r0 (cW cof3 r1 (cW cof3 r2 (cW cof3 r3 (cW cof3 r4 (cW cof3 r5 (cW cof3 r6 (cW cof3 r7 (cW cof3 r8 (cW cof3 r9 (cW cof3 r10 (qF (hl.trans cof24) rfl)))))))))))),⟨g0,g1,g2,g3,g4,g5,g6,g7,g8,g9,g10,trivial⟩,?_⟩
 have:=hB.agg [d0,d1,d2,d3,d4,d5,d6,d7,d8,d9,d10]
 rw[hx]
 dsimp only at b0 b1 b2 b3 b4 b5 b6 b7 b8 b9 b10
 simp only[hB.cons,hB.nil] at this
 simp only[jN];omega
theorem rw2:RdW Tryz.prog 2 (kInt .i64) (gInt .i64) bOne:=wx Tryz.underlying2
theorem cof2:Tryz.prog.cellsOf 2=1:=by kernel_rfl
theorem cof43:Tryz.prog.cellsOf 43=3:=by kernel_rfl
def ox (x:ab):Prop:=(gInt .i64) x.Round∧(gInt .i64) x.Epoch∧(gInt .i64) x.Left∧True
def lO (x:ab):Nat:=bOne x.Round+(bOne x.Epoch+(bOne x.Left+0))
theorem rw43:RdW Tryz.prog 43 bu ox lO:=by
 intro H enc W _ B BA hB fuel cs x h
 obtain⟨hl,ds,hx,hf0⟩:=qz Tryz.underlying43 h
 obtain⟨d0,ds0,e0,⟨n0,p0,t0⟩,hf1⟩:=FsRd.cons hf0
 subst e0
 obtain⟨y0,r0,g0,b0⟩:=rw2 hB t0
 obtain⟨d1,ds1,e1,⟨n1,p1,t1⟩,hf2⟩:=FsRd.cons hf1
 subst e1
 obtain⟨y1,r1,g1,b1⟩:=rw2 hB t1
 obtain⟨d2,ds2,e2,⟨n2,p2,t2⟩,hf3⟩:=FsRd.cons hf2
 subst e2
 obtain⟨y2,r2,g2,b2⟩:=rw3 hB t2
 have hnil:=FsRd.nil hf3
 subst hnil
 refine⟨⟨y0,y1,y2⟩,ng (cW cof2 r0 (cW cof2 r1 (cW cof3 r2 (qF (hl.trans cof43) rfl)))),⟨g0,g1,g2,trivial⟩,?_⟩
 have:=hB.agg [d0,d1,d2]
 rw[hx]
 dsimp only at b0 b1 b2
 simp only[hB.cons,hB.nil] at this
 simp only[lO];omega
theorem rw68:RdW Tryz.prog 68 (kSl (kInt .i64)) (gSl (gInt .i64)) (bSl bOne):=zo (K:=kInt .i64) Tryz.underlying68 cof3 (by decide) rw3
theorem cof64:Tryz.prog.cellsOf 64=16:=by kernel_rfl
theorem rw64:RdW Tryz.prog 64 (kArr 16 (kInt .u8)) (gArr 16 (gInt .u8)) (bArr bOne):=AS (K:=kInt .u8) Tryz.underlying64 cof64 cof5 rw5
theorem rw85:RdW Tryz.prog 85 (kSl (kArr 16 (kInt .u8))) (gSl (gArr 16 (gInt .u8))) (bSl (bArr bOne)):=zo (K:=kArr 16 (kInt .u8)) Tryz.underlying85 cof64 (by decide) rw64
theorem cof68:Tryz.prog.cellsOf 68=1:=by kernel_rfl
theorem cof85:Tryz.prog.cellsOf 85=1:=by kernel_rfl
theorem cof87:Tryz.prog.cellsOf 87=6:=by kernel_rfl
def oy (x:aK):Prop:=ox x.Header∧(gInt .i64) x.Count∧(gSl (gInt .i64)) x.From∧(gSl (gArr 16 (gInt .u8))) x.Nonces∧True
def jO (x:aK):Nat:=lO x.Header+(bOne x.Count+((bSl bOne) x.From+((bSl (bArr bOne)) x.Nonces+0)))
theorem rw87:RdW Tryz.prog 87 aI oy jO:=by
 intro H enc W _ B BA hB fuel cs x h
 obtain⟨hl,ds,hx,hf0⟩:=qz Tryz.underlying87 h
 obtain⟨d0,ds0,e0,⟨n0,p0,t0⟩,hf1⟩:=FsRd.cons hf0
 subst e0
 obtain⟨y0,r0,g0,b0⟩:=rw43 hB t0
 obtain⟨d1,ds1,e1,⟨n1,p1,t1⟩,hf2⟩:=FsRd.cons hf1
 subst e1
 obtain⟨y1,r1,g1,b1⟩:=rw3 hB t1
 obtain⟨d2,ds2,e2,⟨n2,p2,t2⟩,hf3⟩:=FsRd.cons hf2
 subst e2
 obtain⟨y2,r2,g2,b2⟩:=rw68 hB t2
 obtain⟨d3,ds3,e3,⟨n3,p3,t3⟩,hf4⟩:=FsRd.cons hf3
 subst e3
 obtain⟨y3,r3,g3,b3⟩:=rw85 hB t3
 have hnil:=FsRd.nil hf4
 subst hnil
 refine⟨⟨y0,y1,y2,y3⟩,ng (cW cof43 r0 (cW cof3 r1 (cW cof68 r2 (cW cof85 r3 (qF (hl.trans cof87) rfl))))),⟨g0,g1,g2,g3,trivial⟩,?_⟩
 have:=hB.agg [d0,d1,d2,d3]
 rw[hx]
 dsimp only at b0 b1 b2 b3
 simp only[hB.cons,hB.nil] at this
 simp only[jO];omega
theorem cof96:Tryz.prog.cellsOf 96=18:=by kernel_rfl
def ii (x:cg):Prop:=ow x.C∧oy x.M∧(gSl (gInt .u8)) x.Raw∧True
def eh (x:cg):Nat:=jN x.C+(jO x.M+((bSl bOne) x.Raw+0))
theorem rw96:RdW Tryz.prog 96 eS ii eh:=by
 intro H enc W _ B BA hB fuel cs x h
 obtain⟨hl,ds,hx,hf0⟩:=qz Tryz.underlying96 h
 obtain⟨d0,ds0,e0,⟨n0,p0,t0⟩,hf1⟩:=FsRd.cons hf0
 subst e0
 obtain⟨y0,r0,g0,b0⟩:=rw24 hB t0
 obtain⟨d1,ds1,e1,⟨n1,p1,t1⟩,hf2⟩:=FsRd.cons hf1
 subst e1
 obtain⟨y1,r1,g1,b1⟩:=rw87 hB t1
 obtain⟨d2,ds2,e2,⟨n2,p2,t2⟩,hf3⟩:=FsRd.cons hf2
 subst e2
 obtain⟨y2,r2,g2,b2⟩:=rw22 hB t2
 have hnil:=FsRd.nil hf3
 subst hnil
 refine⟨⟨y0,y1,y2⟩,ng (cW cof24 r0 (cW cof87 r1 (cW cof22 r2 (qF (hl.trans cof96) rfl)))),⟨g0,g1,g2,trivial⟩,?_⟩
 have:=hB.agg [d0,d1,d2]
 rw[hx]
 dsimp only at b0 b1 b2
 simp only[hB.cons,hB.nil] at this
 simp only[eh];omega
theorem kt96:KT Tryz.prog 96 eS:=⟨by kernel_rfl,by kernel_rfl⟩
abbrev K0:=(kSl (kArr 16 (kInt .u8)))
abbrev K1:=(kSl (kSl (kInt .u8)))
abbrev K2:=(kArr 64 (kInt .u32))
abbrev K3:=(kArr 176 (kInt .u8))
abbrev K4:=(kArr 16 (kInt .u8))
abbrev K5:=(kArr 8 (kInt .u32))
abbrev K6:=(kArr 32 (kInt .u8))
abbrev K7:=(kArr 4 (kInt .u8))
abbrev K8:=(kSl (kInt .i64))
abbrev K9:=(kSl (kInt .u8))
abbrev K10:=(kInt .i64)
abbrev K11:=(kInt .u32)
abbrev K12:=(kInt .u8)
end Go.Proofs.YtobbmodjdkcdcaaGreatDoor

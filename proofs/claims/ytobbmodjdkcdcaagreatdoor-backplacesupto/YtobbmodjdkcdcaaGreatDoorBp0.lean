import Derived.Test.YtobbmodjdkcdcaaGreatDoorSimD
import Derived.Test.YtobbmodjdkcdcaaGreatDoorRows
import Derived.Test.YtobbmodjdkcdcaaGreatDoorLawSrt
set_option linter.unusedVariables false
set_option linter.unusedSimpArgs false
set_option maxRecDepth 20000
namespace Go.Proofs.YtobbmodjdkcdcaaGreatDoor
open Go Go.Sim Go.ChangeShapes Go.WideShapes Go.ChangeAt Go.RowKit
set_option linter.unusedSectionVars false
variable [Fu]
structure aa where
 Round:Int
 Epoch:Int
 Left:Int
abbrev dx:List (Fld aa):=[⟨kInt .i64,aa.Round⟩,⟨kInt .i64,aa.Epoch⟩,⟨kInt .i64,aa.Left⟩]
abbrev bi:Kd aa:=kSt dx
structure aG where
 Header:aa
 Cells:List (List Int)
abbrev f7:List (Fld aG):=[⟨bi,aG.Header⟩,⟨kSl (kSl (kInt .u8)),aG.Cells⟩]
abbrev aV:Kd aG:=kSt f7
structure aI where
 Header:aa
 Count:Int
 From:List Int
 Nonces:List (List Int)
abbrev dU:List (Fld aI):=[⟨bi,aI.Header⟩,⟨kInt .i64,aI.Count⟩,⟨kSl (kInt .i64),aI.From⟩,⟨kSl (kArr 16 (kInt .u8)),aI.Nonces⟩]
abbrev aQ:Kd aI:=kSt dU
structure aL where
 Noise:List Int
 Braid:List Int
 Chunks:List (List Int)
abbrev fb:List (Fld aL):=[⟨kSl (kInt .u8),aL.Noise⟩,⟨kSl (kInt .u8),aL.Braid⟩,⟨kSl (kSl (kInt .u8)),aL.Chunks⟩]
abbrev dn:Kd aL:=kSt fb
structure ak where
 Number:Int
 Tags:List (List Int)
abbrev eK:List (Fld ak):=[⟨kInt .i64,ak.Number⟩,⟨kSl (kArr 16 (kInt .u8)),ak.Tags⟩]
abbrev aO:Kd ak:=kSt eK
structure ab where
 Newest:Int
 Epochs:List ak
abbrev cS:List (Fld ab):=[⟨kInt .i64,ab.Newest⟩,⟨kSl aO,ab.Epochs⟩]
abbrev ah:Kd ab:=kSt cS
structure aA where
 Master:List Int
 Left:Int
 Span:Int
 Room:Int
 Num:Int
 Den:Int
 Noise:Int
 Chunks:Int
 Workers:Int
 Cap:Int
 Shards:Int
abbrev cg:List (Fld aA):=[⟨kSl (kInt .u8),aA.Master⟩,⟨kInt .i64,aA.Left⟩,⟨kInt .i64,aA.Span⟩,⟨kInt .i64,aA.Room⟩,⟨kInt .i64,aA.Num⟩,⟨kInt .i64,aA.Den⟩,⟨kInt .i64,aA.Noise⟩,⟨kInt .i64,aA.Chunks⟩,⟨kInt .i64,aA.Workers⟩,⟨kInt .i64,aA.Cap⟩,⟨kInt .i64,aA.Shards⟩]
abbrev aH:Kd aA:=kSt cg
structure bL where
 C:aA
 M:aI
 Raw:List Int
abbrev ef:List (Fld bL):=[⟨aH,bL.C⟩,⟨aQ,bL.M⟩,⟨kSl (kInt .u8),bL.Raw⟩]
abbrev cL:Kd bL:=kSt ef
structure aD where
 Next:Int
 Window:ab
abbrev fc:List (Fld aD):=[⟨kInt .i64,aD.Next⟩,⟨ah,aD.Window⟩]
abbrev br:Kd aD:=kSt fc
structure ai where
 In:Int
 Malformed:Int
 Replays:Int
 Noise:Int
 Out:Int
abbrev dV:List (Fld ai):=[⟨kInt .i64,ai.In⟩,⟨kInt .i64,ai.Malformed⟩,⟨kInt .i64,ai.Replays⟩,⟨kInt .i64,ai.Noise⟩,⟨kInt .i64,ai.Out⟩]
abbrev bU:Kd ai:=kSt dV
structure aJ where
 Out:List Int
 State:aD
 Report:ai
 Err:Int
 At:Int
abbrev eX:List (Fld aJ):=[⟨kSl (kInt .u8),aJ.Out⟩,⟨br,aJ.State⟩,⟨bU,aJ.Report⟩,⟨kInt .i64,aJ.Err⟩,⟨kInt .i64,aJ.At⟩]
abbrev aN:Kd aJ:=kSt eX
structure am where
 a:Int
 b:Int
abbrev fe:List (Fld am):=[⟨kInt .u32,am.a⟩,⟨kInt .u32,am.b⟩]
abbrev cm:Kd am:=kSt fe
structure av where
 field:List Int
 at_:Int
 stage:Int
 left:Int
 header:aa
 sum:am
 err:Int
 place:Int
abbrev q5:List (Fld av):=[⟨kSl (kInt .u8),av.field⟩,⟨kInt .i64,av.at_⟩,⟨kInt .i64,av.stage⟩,⟨kInt .i64,av.left⟩,⟨bi,av.header⟩,⟨cm,av.sum⟩,⟨kInt .i64,av.err⟩,⟨kInt .i64,av.place⟩]
abbrev xu:Kd av:=kSt q5
structure af where
 field:Value
 at_:Int
 stage:Int
 left:Int
 header:aa
 sum:am
 err:Int
 place:Int
abbrev bZ:List (Fld af):=[⟨kRaw,af.field⟩,⟨kInt .i64,af.at_⟩,⟨kInt .i64,af.stage⟩,⟨kInt .i64,af.left⟩,⟨bi,af.header⟩,⟨cm,af.sum⟩,⟨kInt .i64,af.err⟩,⟨kInt .i64,af.place⟩]
abbrev aZ:Kd af:=kSt bZ
structure az where
 Newest:Int
 Epochs:Value
abbrev dp:List (Fld az):=[⟨kInt .i64,az.Newest⟩,⟨kRaw,az.Epochs⟩]
abbrev bf:Kd az:=kSt dp
structure dg where
 Next:Int
 Window:az
abbrev gT:List (Fld dg):=[⟨kInt .i64,dg.Next⟩,⟨bf,dg.Window⟩]
abbrev nP:Kd dg:=kSt gT
structure au where
 Cell:List Int
 Replay:List Int
abbrev fA:List (Fld au):=[⟨kSl (kInt .u8),au.Cell⟩,⟨kArr 16 (kInt .u8),au.Replay⟩]
abbrev aR:Kd au:=kSt fA
structure aq where
 words:List Int
 tail:List Int
 n:Int
abbrev fg:List (Fld aq):=[⟨kArr 8 (kInt .u32),aq.words⟩,⟨kArr 64 (kInt .u8),aq.tail⟩,⟨kInt .u64,aq.n⟩]
abbrev bu:Kd aq:=kSt fg
structure aT where
 Box:List Int
 Mac:List Int
 Replay:List Int
abbrev dR:List (Fld aT):=[⟨kArr 16 (kInt .u8),aT.Box⟩,⟨kArr 32 (kInt .u8),aT.Mac⟩,⟨kArr 32 (kInt .u8),aT.Replay⟩]
abbrev dF:Kd aT:=kSt dR
structure aF where
 keys:List (List Int)
abbrev gU:List (Fld aF):=[⟨kArr 11 (kArr 16 (kInt .u8)),aF.keys⟩]
abbrev ar:Kd aF:=kSt gU
structure bP where
 Noise:List Int
 Braid:List Int
 Chunks:Value
abbrev ge:List (Fld bP):=[⟨kSl (kInt .u8),bP.Noise⟩,⟨kSl (kInt .u8),bP.Braid⟩,⟨kRaw,bP.Chunks⟩]
abbrev dZ:Kd bP:=kSt ge
structure bt where
 parts:aL
 sizes:List Int
 starts:List Int
abbrev dy:List (Fld bt):=[⟨dn,bt.parts⟩,⟨kSl (kInt .i64),bt.sizes⟩,⟨kSl (kInt .i64),bt.starts⟩]
abbrev fh:Kd bt:=kSt dy
structure bc where
 parts:aL
 sizes:List Int
 starts:Value
abbrev dS:List (Fld bc):=[⟨dn,bc.parts⟩,⟨kSl (kInt .i64),bc.sizes⟩,⟨kRaw,bc.starts⟩]
abbrev fi:Kd bc:=kSt dS
structure aP where
 bytes:List Int
 used:Int
abbrev ip:List (Fld aP):=[⟨kStr,aP.bytes⟩,⟨kInt .i64,aP.used⟩]
abbrev bz:Kd aP:=kSt ip
structure ao where
 Number:Int
 Tags:Value
abbrev fj:List (Fld ao):=[⟨kInt .i64,ao.Number⟩,⟨kRaw,ao.Tags⟩]
abbrev aC:Kd ao:=kSt fj
structure aK where
 Header:aa
 Count:Int
 From:Value
 Nonces:Value
abbrev dm:List (Fld aK):=[⟨bi,aK.Header⟩,⟨kInt .i64,aK.Count⟩,⟨kRaw,aK.From⟩,⟨kRaw,aK.Nonces⟩]
abbrev cc:Kd aK:=kSt dm
structure ea where
 Header:aa
 Count:Int
 From:List Int
 Nonces:Value
abbrev km:List (Fld ea):=[⟨bi,ea.Header⟩,⟨kInt .i64,ea.Count⟩,⟨kSl (kInt .i64),ea.From⟩,⟨kRaw,ea.Nonces⟩]
abbrev vx:Kd ea:=kSt km
structure bg where
 Header:aa
 Cells:Value
abbrev fk:List (Fld bg):=[⟨bi,bg.Header⟩,⟨kRaw,bg.Cells⟩]
abbrev cy:Kd bg:=kSt fk
theorem lI (F:Fz):Kd.rd aH F ([.slice none 0 0,.int .i64 0,.int .i64 0,.int .i64 0,.int .i64 0,.int .i64 0,.int .i64 0,.int .i64 0,.int .i64 0,.int .i64 0,.int .i64 0]:List Value) (⟨[],(0:Int),(0:Int),(0:Int),(0:Int),(0:Int),(0:Int),(0:Int),(0:Int),(0:Int),(0:Int)⟩:aA):=⟨[.slice none 0 0],[.int .i64 0,.int .i64 0,.int .i64 0,.int .i64 0,.int .i64 0,.int .i64 0,.int .i64 0,.int .i64 0,.int .i64 0,.int .i64 0],rfl,⟨none,0,rfl,Nat.le_refl _,.inl rfl⟩,⟨[.int .i64 0],[.int .i64 0,.int .i64 0,.int .i64 0,.int .i64 0,.int .i64 0,.int .i64 0,.int .i64 0,.int .i64 0,.int .i64 0],rfl,rfl,⟨[.int .i64 0],[.int .i64 0,.int .i64 0,.int .i64 0,.int .i64 0,.int .i64 0,.int .i64 0,.int .i64 0,.int .i64 0],rfl,rfl,⟨[.int .i64 0],[.int .i64 0,.int .i64 0,.int .i64 0,.int .i64 0,.int .i64 0,.int .i64 0,.int .i64 0],rfl,rfl,⟨[.int .i64 0],[.int .i64 0,.int .i64 0,.int .i64 0,.int .i64 0,.int .i64 0,.int .i64 0],rfl,rfl,⟨[.int .i64 0],[.int .i64 0,.int .i64 0,.int .i64 0,.int .i64 0,.int .i64 0],rfl,rfl,⟨[.int .i64 0],[.int .i64 0,.int .i64 0,.int .i64 0,.int .i64 0],rfl,rfl,⟨[.int .i64 0],[.int .i64 0,.int .i64 0,.int .i64 0],rfl,rfl,⟨[.int .i64 0],[.int .i64 0,.int .i64 0],rfl,rfl,⟨[.int .i64 0],[.int .i64 0],rfl,rfl,⟨[.int .i64 0],[],rfl,rfl,rfl⟩⟩⟩⟩⟩⟩⟩⟩⟩⟩⟩
theorem ZT24:ZT Tryz.prog 24 aH (⟨[],(0:Int),(0:Int),(0:Int),(0:Int),(0:Int),(0:Int),(0:Int),(0:Int),(0:Int),(0:Int)⟩:aA):=⟨(.agg (List.replicate 1 (.slice none 0 0:Value)++List.replicate 10 (.int .i64 0:Value)).toArray:Value),by kernel_rfl,fun F=>aB (by kernel_rfl) (lI F)⟩
theorem qi (F:Fz):Kd.rd (kInt .u8) F [.int .u8 0] (0:Int):=rfl
theorem AT5:AT Tryz.prog 5 (kInt .u8) (0:Int) 1:=⟨⟨Tryz.t5,(.int .u8 0:Value),by kernel_rfl,by kernel_rfl,by kernel_rfl,by kernel_rfl,by decide,by decide,fun F=>aB (by kernel_rfl) (qi F)⟩⟩
theorem BT24:BT Tryz.prog 24 cg (⟨[],(0:Int),(0:Int),(0:Int),(0:Int),(0:Int),(0:Int),(0:Int),(0:Int),(0:Int),(0:Int)⟩:aA):=⟨⟨Tryz.t24,(.agg (List.replicate 1 (.slice none 0 0:Value)++List.replicate 10 (.int .i64 0:Value)).toArray:Value),_,[(0,1),(1,1),(2,1),(3,1),(4,1),(5,1),(6,1),(7,1),(8,1),(9,1),(10,1)],by kernel_rfl,by kernel_rfl,Tryz.underlying24,by kernel_rfl,fun i f h=>match i,f,h with
 |0,f,h=>by cases h;rfl
 |1,f,h=>by cases h;rfl
 |2,f,h=>by cases h;rfl
 |3,f,h=>by cases h;rfl
 |4,f,h=>by cases h;rfl
 |5,f,h=>by cases h;rfl
 |6,f,h=>by cases h;rfl
 |7,f,h=>by cases h;rfl
 |8,f,h=>by cases h;rfl
 |9,f,h=>by cases h;rfl
 |10,f,h=>by cases h;rfl
 |(_+11),f,h=>by simp[cg] at h,fun F=>bq (by kernel_rfl) (lI F)⟩⟩
theorem sz24k:(Tryz.prog.info? 24).map (·.size)=some (Kd.n aH):=by kernel_rfl
theorem kt24:KT Tryz.prog 24 aH:=⟨by kernel_rfl,by kernel_rfl⟩
theorem jS (F:Fz):Kd.rd br F ([.int .i64 0]++([.int .i64 0]++[.slice none 0 0]++[])++[]) (⟨(0:Int),(⟨(0:Int),[]⟩:ab)⟩:aD):=⟨[.int .i64 0],_,rfl,rfl,⟨([.int .i64 0]++[.slice none 0 0]++[]),_,rfl,⟨[.int .i64 0],_,rfl,rfl,⟨[.slice none 0 0],_,rfl,⟨none,0,rfl,Nat.le_refl _,.inl rfl⟩,rfl⟩⟩,rfl⟩⟩
theorem BT29:BT Tryz.prog 29 fc (⟨(0:Int),(⟨(0:Int),[]⟩:ab)⟩:aD):=⟨⟨Tryz.t29,(.agg #[.int .i64 0,.int .i64 0,.slice none 0 0]:Value),_,[(0,1),(1,2)],by kernel_rfl,by kernel_rfl,Tryz.underlying29,by kernel_rfl,fun i f h=>match i,f,h with
 |0,f,h=>by cases h;rfl
 |1,f,h=>by cases h;rfl
 |(_+2),f,h=>by simp[fc] at h,fun F=>bq (by kernel_rfl) (jS F)⟩⟩
theorem ET5:ET Tryz.prog 5 (kInt .u8) (0:Int):=⟨⟨Tryz.t5,(.int .u8 0:Value),by kernel_rfl,by kernel_rfl,by kernel_rfl,by decide,fun F=>aB (by kernel_rfl) (qi F)⟩⟩
theorem jq (F:Fz):Kd.rd bU F ([.int .i64 0]++[.int .i64 0]++[.int .i64 0]++[.int .i64 0]++[.int .i64 0]++[]) (⟨(0:Int),(0:Int),(0:Int),(0:Int),(0:Int)⟩:ai):=⟨[.int .i64 0],_,rfl,rfl,⟨[.int .i64 0],_,rfl,rfl,⟨[.int .i64 0],_,rfl,rfl,⟨[.int .i64 0],_,rfl,rfl,⟨[.int .i64 0],_,rfl,rfl,rfl⟩⟩⟩⟩⟩
theorem kv (F:Fz):Kd.rd aN F ([.slice none 0 0,.int .i64 0,.int .i64 0,.slice none 0 0,.int .i64 0,.int .i64 0,.int .i64 0,.int .i64 0,.int .i64 0,.int .i64 0,.int .i64 0]:List Value) (⟨[],(⟨(0:Int),(⟨(0:Int),[]⟩:ab)⟩:aD),(⟨(0:Int),(0:Int),(0:Int),(0:Int),(0:Int)⟩:ai),(0:Int),(0:Int)⟩:aJ):=⟨[.slice none 0 0],[.int .i64 0,.int .i64 0,.slice none 0 0,.int .i64 0,.int .i64 0,.int .i64 0,.int .i64 0,.int .i64 0,.int .i64 0,.int .i64 0],rfl,⟨none,0,rfl,Nat.le_refl _,.inl rfl⟩,⟨([.int .i64 0]++([.int .i64 0]++[.slice none 0 0]++[])++[]),[.int .i64 0,.int .i64 0,.int .i64 0,.int .i64 0,.int .i64 0,.int .i64 0,.int .i64 0],rfl,jS F,⟨([.int .i64 0]++[.int .i64 0]++[.int .i64 0]++[.int .i64 0]++[.int .i64 0]++[]),[.int .i64 0,.int .i64 0],rfl,jq F,⟨[.int .i64 0],[.int .i64 0],rfl,rfl,⟨[.int .i64 0],[],rfl,rfl,rfl⟩⟩⟩⟩⟩
theorem ZT37:ZT Tryz.prog 37 aN (⟨[],(⟨(0:Int),(⟨(0:Int),[]⟩:ab)⟩:aD),(⟨(0:Int),(0:Int),(0:Int),(0:Int),(0:Int)⟩:ai),(0:Int),(0:Int)⟩:aJ):=⟨(.agg (List.replicate 1 (.slice none 0 0:Value)++List.replicate 2 (.int .i64 0:Value)++List.replicate 1 (.slice none 0 0:Value)++List.replicate 7 (.int .i64 0:Value)).toArray:Value),by kernel_rfl,fun F=>aB (by kernel_rfl) (kv F)⟩
theorem lJ (F:Fz):Kd.rd aQ F (([.int .i64 0]++[.int .i64 0]++[.int .i64 0]++[])++[.int .i64 0]++[.slice none 0 0]++[.slice none 0 0]++[]) (⟨(⟨(0:Int),(0:Int),(0:Int)⟩:aa),(0:Int),[],[]⟩:aI):=⟨([.int .i64 0]++[.int .i64 0]++[.int .i64 0]++[]),_,rfl,⟨[.int .i64 0],_,rfl,rfl,⟨[.int .i64 0],_,rfl,rfl,⟨[.int .i64 0],_,rfl,rfl,rfl⟩⟩⟩,⟨[.int .i64 0],_,rfl,rfl,⟨[.slice none 0 0],_,rfl,⟨none,0,rfl,Nat.le_refl _,.inl rfl⟩,⟨[.slice none 0 0],_,rfl,⟨none,0,rfl,Nat.le_refl _,.inl rfl⟩,rfl⟩⟩⟩⟩
theorem ZT87:ZT Tryz.prog 87 aQ (⟨(⟨(0:Int),(0:Int),(0:Int)⟩:aa),(0:Int),[],[]⟩:aI):=⟨(.agg #[.int .i64 0,.int .i64 0,.int .i64 0,.int .i64 0,.slice none 0 0,.slice none 0 0]:Value),by kernel_rfl,fun F=>aB (by kernel_rfl) (lJ F)⟩
theorem kt29:KT Tryz.prog 29 br:=⟨by kernel_rfl,by kernel_rfl⟩
theorem l8 (F:Fz):Kd.rd aV F (([.int .i64 0]++[.int .i64 0]++[.int .i64 0]++[])++[.slice none 0 0]++[]) (⟨(⟨(0:Int),(0:Int),(0:Int)⟩:aa),[]⟩:aG):=⟨([.int .i64 0]++[.int .i64 0]++[.int .i64 0]++[]),_,rfl,⟨[.int .i64 0],_,rfl,rfl,⟨[.int .i64 0],_,rfl,rfl,⟨[.int .i64 0],_,rfl,rfl,rfl⟩⟩⟩,⟨[.slice none 0 0],_,rfl,⟨none,0,rfl,Nat.le_refl _,.inl rfl⟩,rfl⟩⟩
theorem ZT46:ZT Tryz.prog 46 aV (⟨(⟨(0:Int),(0:Int),(0:Int)⟩:aa),[]⟩:aG):=⟨(.agg #[.int .i64 0,.int .i64 0,.int .i64 0,.slice none 0 0]:Value),by kernel_rfl,fun F=>aB (by kernel_rfl) (l8 F)⟩
theorem lK (F:Fz):Kd.rd ah F ([.int .i64 0]++[.slice none 0 0]++[]) (⟨(0:Int),[]⟩:ab):=⟨[.int .i64 0],_,rfl,rfl,⟨[.slice none 0 0],_,rfl,⟨none,0,rfl,Nat.le_refl _,.inl rfl⟩,rfl⟩⟩
theorem ZT27:ZT Tryz.prog 27 ah (⟨(0:Int),[]⟩:ab):=⟨(.agg #[.int .i64 0,.slice none 0 0]:Value),by kernel_rfl,fun F=>aB (by kernel_rfl) (lK F)⟩
theorem fb24k:fldB Tryz.prog 24 0=some (offF cg 0,0+1):=by kernel_rfl
theorem kt22:KT Tryz.prog 22 (kSl (kInt .u8)):=⟨by kernel_rfl,by kernel_rfl⟩
theorem fb24k1:fldB Tryz.prog 24 1=some (offF cg 1,0+1):=by kernel_rfl
theorem kt3:KT Tryz.prog 3 (kInt .i64):=⟨by kernel_rfl,by kernel_rfl⟩
theorem cq {P:Program} {ops:Array Oper} {rest:List Oper} {Q:Exit→Act→World→Prop} {F0:Fz} {n:Nat} {E:List (Nat×SV)} {L:List Res} {o0 o1 o2 o3:Oper} (d:Nat) (e:Bool) (k:Under F0 n ((d,.raw (.bool e))::E) L (wpList P ops Q rest)) (h:Under F0 n ((d,.raw (.bool e))::E) L (wpList P ops Q rest)→Under F0 n E L (wpList P ops Q (o0::o1::o2::o3::rest))):Under F0 n E L (wpList P ops Q (o0::o1::o2::o3::rest)):=h k
theorem yk {P:Program} {ops:Array Oper} {rest:List Oper} {C:World→Prop} {Qa:Act→Prop} {F0:Fz} {n:Nat} {E:List (Nat×SV)} {o0 o1 o2 o3:Oper} (d:Nat) (e:Bool) (k:aE F0 n ((d,.raw (.bool e))::E) (wpQuiet P ops C Qa rest)) (h:aE F0 n ((d,.raw (.bool e))::E) (wpQuiet P ops C Qa rest)→aE F0 n E (wpQuiet P ops C Qa (o0::o1::o2::o3::rest))):aE F0 n E (wpQuiet P ops C Qa (o0::o1::o2::o3::rest)):=h k
theorem fb24k2:fldB Tryz.prog 24 2=some (offF cg 2,0+1):=by kernel_rfl
theorem fb24k3:fldB Tryz.prog 24 3=some (offF cg 3,0+1):=by kernel_rfl
theorem fb24k4:fldB Tryz.prog 24 5=some (offF cg 5,0+1):=by kernel_rfl
theorem fb24k5:fldB Tryz.prog 24 4=some (offF cg 4,0+1):=by kernel_rfl
theorem fb24k6:fldB Tryz.prog 24 6=some (offF cg 6,0+1):=by kernel_rfl
theorem fb24k7:fldB Tryz.prog 24 7=some (offF cg 7,0+1):=by kernel_rfl
theorem fb24k8:fldB Tryz.prog 24 8=some (offF cg 8,0+1):=by kernel_rfl
theorem fb24k9:fldB Tryz.prog 24 9=some (offF cg 9,0+1):=by kernel_rfl
theorem fb24k10:fldB Tryz.prog 24 10=some (offF cg 10,0+1):=by kernel_rfl
theorem kw {P:Program} {ops:Array Oper} {rest:List Oper} {Q:Exit→Act→World→Prop} {F0:Fz} {n:Nat} {E:List (Nat×SV)} {L:List Res} {o0 o1 o2 o3 o4 o5:Oper} (d:Nat) (e:Bool) (k:Under F0 n ((d,.raw (.bool e))::E) L (wpList P ops Q rest)) (h:Under F0 n ((d,.raw (.bool e))::E) L (wpList P ops Q rest)→Under F0 n E L (wpList P ops Q (o0::o1::o2::o3::o4::o5::rest))):Under F0 n E L (wpList P ops Q (o0::o1::o2::o3::o4::o5::rest)):=h k
theorem yl {P:Program} {ops:Array Oper} {rest:List Oper} {C:World→Prop} {Qa:Act→Prop} {F0:Fz} {n:Nat} {E:List (Nat×SV)} {o0 o1 o2 o3 o4 o5:Oper} (d:Nat) (e:Bool) (k:aE F0 n ((d,.raw (.bool e))::E) (wpQuiet P ops C Qa rest)) (h:aE F0 n ((d,.raw (.bool e))::E) (wpQuiet P ops C Qa rest)→aE F0 n E (wpQuiet P ops C Qa (o0::o1::o2::o3::o4::o5::rest))):aE F0 n E (wpQuiet P ops C Qa (o0::o1::o2::o3::o4::o5::rest)):=h k
theorem fb29k:fldB Tryz.prog 29 0=some (offF fc 0,0+1):=by kernel_rfl
theorem kt2:KT Tryz.prog 2 (kInt .i64):=⟨by kernel_rfl,by kernel_rfl⟩
theorem fb29k1:fldB Tryz.prog 29 1=some (offF fc 1,1+1):=by kernel_rfl
theorem kt27:KT Tryz.prog 27 ah:=⟨by kernel_rfl,by kernel_rfl⟩
theorem fb27k:fldB Tryz.prog 27 0=some (offF cS 0,0+1):=by kernel_rfl
theorem fb27k1:fldB Tryz.prog 27 1=some (offF cS 1,0+1):=by kernel_rfl
theorem kt25:KT Tryz.prog 25 (kSl aO):=⟨by kernel_rfl,by kernel_rfl⟩
theorem sz152:(Tryz.prog.info? 152).map (·.size)=some (Kd.n aO):=by kernel_rfl
theorem kt152:KT Tryz.prog 152 aO:=⟨by kernel_rfl,by kernel_rfl⟩
theorem iJ (F:Fz):Kd.rd aO F ([.int .i64 0]++[.slice none 0 0]++[]) (⟨(0:Int),[]⟩:ak):=⟨[.int .i64 0],_,rfl,rfl,⟨[.slice none 0 0],_,rfl,⟨none,0,rfl,Nat.le_refl _,.inl rfl⟩,rfl⟩⟩
theorem ZT152:ZT Tryz.prog 152 aO (⟨(0:Int),[]⟩:ak):=⟨(.agg #[.int .i64 0,.slice none 0 0]:Value),by kernel_rfl,fun F=>aB (by kernel_rfl) (iJ F)⟩
theorem sz152k:(Tryz.prog.info? 152).map (·.size)=some (Kd.n aO):=by kernel_rfl
theorem fb152k:fldB Tryz.prog 152 1=some (offF eK 1,0+1):=by kernel_rfl
theorem kt85:KT Tryz.prog 85 (kSl (kArr 16 (kInt .u8))):=⟨by kernel_rfl,by kernel_rfl⟩
theorem sz64:(Tryz.prog.info? 64).map (·.size)=some (Kd.n (kArr 16 (kInt .u8))):=by kernel_rfl
theorem kt64:KT Tryz.prog 64 (kArr 16 (kInt .u8)):=⟨by kernel_rfl,by kernel_rfl⟩
theorem dK (F:Fz):Kd.rd (kArr 16 (kInt .u8)) F ((List.replicate 16 [.int .u8 0]).flatten) (List.replicate 16 (0:Int)):=⟨by simp,cd (K:=kInt .u8) rfl 16⟩
theorem ZT64:ZT Tryz.prog 64 (kArr 16 (kInt .u8)) (List.replicate 16 (0:Int)):=⟨(.agg (List.replicate 16 (.int .u8 0:Value)).toArray:Value),by kernel_rfl,fun F=>aB (by kernel_rfl) (dK F)⟩
theorem sz64k:(Tryz.prog.info? 64).map (·.size)=some (Kd.n (kArr 16 (kInt .u8))):=by kernel_rfl
theorem kt5:KT Tryz.prog 5 (kInt .u8):=⟨by kernel_rfl,by kernel_rfl⟩
theorem key64:KeyK Tryz.prog 64 (kArr 16 (kInt .u8)):=KeyK.ints Tryz.underlying64 Tryz.underlying5 kt5
theorem fb152k1:fldB Tryz.prog 152 0=some (offF eK 0,0+1):=by kernel_rfl
theorem ym {P:Program} {ops:Array Oper} {rest:List Oper} {Q:Exit→Act→World→Prop} {F0:Fz} {n:Nat} {E:List (Nat×SV)} {L:List Res} {o0 o1 o2 o3 o4 o5 o6 o7 o8 o9 o10:Oper} (d:Nat) (e:Bool) (k:Under F0 n ((d,.raw (.bool e))::E) L (wpList P ops Q rest)) (h:Under F0 n ((d,.raw (.bool e))::E) L (wpList P ops Q rest)→Under F0 n E L (wpList P ops Q (o0::o1::o2::o3::o4::o5::o6::o7::o8::o9::o10::rest))):Under F0 n E L (wpList P ops Q (o0::o1::o2::o3::o4::o5::o6::o7::o8::o9::o10::rest)):=h k
theorem rQ {P:Program} {ops:Array Oper} {rest:List Oper} {C:World→Prop} {Qa:Act→Prop} {F0:Fz} {n:Nat} {E:List (Nat×SV)} {o0 o1 o2 o3 o4 o5 o6 o7 o8 o9 o10:Oper} (d:Nat) (e:Bool) (k:aE F0 n ((d,.raw (.bool e))::E) (wpQuiet P ops C Qa rest)) (h:aE F0 n ((d,.raw (.bool e))::E) (wpQuiet P ops C Qa rest)→aE F0 n E (wpQuiet P ops C Qa (o0::o1::o2::o3::o4::o5::o6::o7::o8::o9::o10::rest))):aE F0 n E (wpQuiet P ops C Qa (o0::o1::o2::o3::o4::o5::o6::o7::o8::o9::o10::rest)):=h k
theorem iz {P:Program} {ops:Array Oper} {rest:List Oper} {Q:Exit→Act→World→Prop} {F0:Fz} {n:Nat} {E:List (Nat×SV)} {L:List Res} {o0 o1 o2 o3 o4:Oper} (d:Nat) (e:Bool) (k:Under F0 n ((d,.raw (.bool e))::E) L (wpList P ops Q rest)) (h:Under F0 n ((d,.raw (.bool e))::E) L (wpList P ops Q rest)→Under F0 n E L (wpList P ops Q (o0::o1::o2::o3::o4::rest))):Under F0 n E L (wpList P ops Q (o0::o1::o2::o3::o4::rest)):=h k
theorem wS {P:Program} {ops:Array Oper} {rest:List Oper} {C:World→Prop} {Qa:Act→Prop} {F0:Fz} {n:Nat} {E:List (Nat×SV)} {o0 o1 o2 o3 o4:Oper} (d:Nat) (e:Bool) (k:aE F0 n ((d,.raw (.bool e))::E) (wpQuiet P ops C Qa rest)) (h:aE F0 n ((d,.raw (.bool e))::E) (wpQuiet P ops C Qa rest)→aE F0 n E (wpQuiet P ops C Qa (o0::o1::o2::o3::o4::rest))):aE F0 n E (wpQuiet P ops C Qa (o0::o1::o2::o3::o4::rest)):=h k
theorem yn {P:Program} {ops:Array Oper} {rest:List Oper} {Q:Exit→Act→World→Prop} {F0:Fz} {n:Nat} {E:List (Nat×SV)} {L:List Res} {o0 o1 o2 o3 o4 o5 o6 o7 o8 o9 o10 o11 o12 o13 o14:Oper} (d:Nat) (e:Bool) (k:Under F0 n ((d,.raw (.bool e))::E) L (wpList P ops Q rest)) (h:Under F0 n ((d,.raw (.bool e))::E) L (wpList P ops Q rest)→Under F0 n E L (wpList P ops Q (o0::o1::o2::o3::o4::o5::o6::o7::o8::o9::o10::o11::o12::o13::o14::rest))):Under F0 n E L (wpList P ops Q (o0::o1::o2::o3::o4::o5::o6::o7::o8::o9::o10::o11::o12::o13::o14::rest)):=h k
theorem vy {P:Program} {ops:Array Oper} {rest:List Oper} {C:World→Prop} {Qa:Act→Prop} {F0:Fz} {n:Nat} {E:List (Nat×SV)} {o0 o1 o2 o3 o4 o5 o6 o7 o8 o9 o10 o11 o12 o13 o14:Oper} (d:Nat) (e:Bool) (k:aE F0 n ((d,.raw (.bool e))::E) (wpQuiet P ops C Qa rest)) (h:aE F0 n ((d,.raw (.bool e))::E) (wpQuiet P ops C Qa rest)→aE F0 n E (wpQuiet P ops C Qa (o0::o1::o2::o3::o4::o5::o6::o7::o8::o9::o10::o11::o12::o13::o14::rest))):aE F0 n E (wpQuiet P ops C Qa (o0::o1::o2::o3::o4::o5::o6::o7::o8::o9::o10::o11::o12::o13::o14::rest)):=h k
theorem vz {P:Program} {ops:Array Oper} {rest:List Oper} {Q:Exit→Act→World→Prop} {F0:Fz} {n:Nat} {E:List (Nat×SV)} {L:List Res} {o0 o1 o2 o3 o4 o5 o6 o7:Oper} (d:Nat) (e:Bool) (k:Under F0 n ((d,.raw (.bool e))::E) L (wpList P ops Q rest)) (h:Under F0 n ((d,.raw (.bool e))::E) L (wpList P ops Q rest)→Under F0 n E L (wpList P ops Q (o0::o1::o2::o3::o4::o5::o6::o7::rest))):Under F0 n E L (wpList P ops Q (o0::o1::o2::o3::o4::o5::o6::o7::rest)):=h k
theorem wT {P:Program} {ops:Array Oper} {rest:List Oper} {C:World→Prop} {Qa:Act→Prop} {F0:Fz} {n:Nat} {E:List (Nat×SV)} {o0 o1 o2 o3 o4 o5 o6 o7:Oper} (d:Nat) (e:Bool) (k:aE F0 n ((d,.raw (.bool e))::E) (wpQuiet P ops C Qa rest)) (h:aE F0 n ((d,.raw (.bool e))::E) (wpQuiet P ops C Qa rest)→aE F0 n E (wpQuiet P ops C Qa (o0::o1::o2::o3::o4::o5::o6::o7::rest))):aE F0 n E (wpQuiet P ops C Qa (o0::o1::o2::o3::o4::o5::o6::o7::rest)):=h k
theorem sz5:(Tryz.prog.info? 5).map (·.size)=some (Kd.n (kInt .u8)):=by kernel_rfl
theorem nx230:Extern.findNext Tryz.f230=none:=by kernel_rfl
theorem fd230:Extern.find Tryz.f230=some Extern.BytealgCompare.compare:=by kernel_rfl
theorem nb230:Tryz.f230.body.isNone=true:=by kernel_rfl
theorem nn230 : (Tryz.f230.name == "runtime.NumGoroutine") = false := by kernel_rfl
theorem cr {P:Program} {ops:Array Oper} {rest:List Oper} {Q:Exit→Act→World→Prop} {F0:Fz} {n:Nat} {E:List (Nat×SV)} {L:List Res} {o0 o1 o2:Oper} (d:Nat) (e:Bool) (k:Under F0 n ((d,.raw (.bool e))::E) L (wpList P ops Q rest)) (h:Under F0 n ((d,.raw (.bool e))::E) L (wpList P ops Q rest)→Under F0 n E L (wpList P ops Q (o0::o1::o2::rest))):Under F0 n E L (wpList P ops Q (o0::o1::o2::rest)):=h k
theorem wU {P:Program} {ops:Array Oper} {rest:List Oper} {C:World→Prop} {Qa:Act→Prop} {F0:Fz} {n:Nat} {E:List (Nat×SV)} {o0 o1 o2:Oper} (d:Nat) (e:Bool) (k:aE F0 n ((d,.raw (.bool e))::E) (wpQuiet P ops C Qa rest)) (h:aE F0 n ((d,.raw (.bool e))::E) (wpQuiet P ops C Qa rest)→aE F0 n E (wpQuiet P ops C Qa (o0::o1::o2::rest))):aE F0 n E (wpQuiet P ops C Qa (o0::o1::o2::rest)):=h k
theorem sY {P:Program} {ops:Array Oper} {rest:List Oper} {Q:Exit→Act→World→Prop} {F0:Fz} {n:Nat} {E:List (Nat×SV)} {L:List Res} {o0 o1 o2 o3 o4 o5 o6 o7 o8:Oper} (d:Nat) (e:Bool) (k:Under F0 n ((d,.raw (.bool e))::E) L (wpList P ops Q rest)) (h:Under F0 n ((d,.raw (.bool e))::E) L (wpList P ops Q rest)→Under F0 n E L (wpList P ops Q (o0::o1::o2::o3::o4::o5::o6::o7::o8::rest))):Under F0 n E L (wpList P ops Q (o0::o1::o2::o3::o4::o5::o6::o7::o8::rest)):=h k
theorem yo {P:Program} {ops:Array Oper} {rest:List Oper} {C:World→Prop} {Qa:Act→Prop} {F0:Fz} {n:Nat} {E:List (Nat×SV)} {o0 o1 o2 o3 o4 o5 o6 o7 o8:Oper} (d:Nat) (e:Bool) (k:aE F0 n ((d,.raw (.bool e))::E) (wpQuiet P ops C Qa rest)) (h:aE F0 n ((d,.raw (.bool e))::E) (wpQuiet P ops C Qa rest)→aE F0 n E (wpQuiet P ops C Qa (o0::o1::o2::o3::o4::o5::o6::o7::o8::rest))):aE F0 n E (wpQuiet P ops C Qa (o0::o1::o2::o3::o4::o5::o6::o7::o8::rest)):=h k
theorem kt46:KT Tryz.prog 46 aV:=⟨by kernel_rfl,by kernel_rfl⟩
theorem BT27:BT Tryz.prog 27 cS (⟨(0:Int),[]⟩:ab):=⟨⟨Tryz.t27,(.agg #[.int .i64 0,.slice none 0 0]:Value),_,[(0,1),(1,1)],by kernel_rfl,by kernel_rfl,Tryz.underlying27,by kernel_rfl,fun i f h=>match i,f,h with
 |0,f,h=>by cases h;rfl
 |1,f,h=>by cases h;rfl
 |(_+2),f,h=>by simp[cS] at h,fun F=>bq (by kernel_rfl) (lK F)⟩⟩
theorem sz46k:(Tryz.prog.info? 46).map (·.size)=some (Kd.n aV):=by kernel_rfl
theorem sz27k:(Tryz.prog.info? 27).map (·.size)=some (Kd.n ah):=by kernel_rfl
theorem jT (F:Fz):Kd.rd cm F ([.int .u32 0]++[.int .u32 0]++[]) (⟨(0:Int),(0:Int)⟩:am):=⟨[.int .u32 0],_,rfl,rfl,⟨[.int .u32 0],_,rfl,rfl,rfl⟩⟩
theorem BT144:BT Tryz.prog 144 fe (⟨(0:Int),(0:Int)⟩:am):=⟨⟨Tryz.t144,(.agg #[.int .u32 0,.int .u32 0]:Value),_,[(0,1),(1,1)],by kernel_rfl,by kernel_rfl,Tryz.underlying144,by kernel_rfl,fun i f h=>match i,f,h with
 |0,f,h=>by cases h;rfl
 |1,f,h=>by cases h;rfl
 |(_+2),f,h=>by simp[fe] at h,fun F=>bq (by kernel_rfl) (jT F)⟩⟩
theorem jr (F:Fz):Kd.rd bi F ([.int .i64 0]++[.int .i64 0]++[.int .i64 0]++[]) (⟨(0:Int),(0:Int),(0:Int)⟩:aa):=⟨[.int .i64 0],_,rfl,rfl,⟨[.int .i64 0],_,rfl,rfl,⟨[.int .i64 0],_,rfl,rfl,rfl⟩⟩⟩
theorem mV (F:Fz):Kd.rd aZ F ([.slice none 0 0,.int .i64 0,.int .i64 0,.int .i64 0,.int .i64 0,.int .i64 0,.int .i64 0,.int .u32 0,.int .u32 0,.int .i64 0,.int .i64 0]:List Value) (⟨(.slice none 0 0),(0:Int),(0:Int),(0:Int),(⟨(0:Int),(0:Int),(0:Int)⟩:aa),(⟨(0:Int),(0:Int)⟩:am),(0:Int),(0:Int)⟩:af):=⟨[.slice none 0 0],[.int .i64 0,.int .i64 0,.int .i64 0,.int .i64 0,.int .i64 0,.int .i64 0,.int .u32 0,.int .u32 0,.int .i64 0,.int .i64 0],rfl,⟨rfl,rfl⟩,⟨[.int .i64 0],[.int .i64 0,.int .i64 0,.int .i64 0,.int .i64 0,.int .i64 0,.int .u32 0,.int .u32 0,.int .i64 0,.int .i64 0],rfl,rfl,⟨[.int .i64 0],[.int .i64 0,.int .i64 0,.int .i64 0,.int .i64 0,.int .u32 0,.int .u32 0,.int .i64 0,.int .i64 0],rfl,rfl,⟨[.int .i64 0],[.int .i64 0,.int .i64 0,.int .i64 0,.int .u32 0,.int .u32 0,.int .i64 0,.int .i64 0],rfl,rfl,⟨([.int .i64 0]++[.int .i64 0]++[.int .i64 0]++[]),[.int .u32 0,.int .u32 0,.int .i64 0,.int .i64 0],rfl,jr F,⟨([.int .u32 0]++[.int .u32 0]++[]),[.int .i64 0,.int .i64 0],rfl,jT F,⟨[.int .i64 0],[.int .i64 0],rfl,rfl,⟨[.int .i64 0],[],rfl,rfl,rfl⟩⟩⟩⟩⟩⟩⟩⟩
theorem lE:BT Tryz.prog 146 bZ (⟨(.slice none 0 0),(0:Int),(0:Int),(0:Int),(⟨(0:Int),(0:Int),(0:Int)⟩:aa),(⟨(0:Int),(0:Int)⟩:am),(0:Int),(0:Int)⟩:af):=⟨⟨Tryz.t146,(.agg (List.replicate 1 (.slice none 0 0:Value)++List.replicate 6 (.int .i64 0:Value)++List.replicate 2 (.int .u32 0:Value)++List.replicate 2 (.int .i64 0:Value)).toArray:Value),_,[(0,1),(1,1),(2,1),(3,1),(4,3),(7,2),(9,1),(10,1)],by kernel_rfl,by kernel_rfl,Tryz.underlying146,by kernel_rfl,fun i f h=>match i,f,h with
 |0,f,h=>by cases h;rfl
 |1,f,h=>by cases h;rfl
 |2,f,h=>by cases h;rfl
 |3,f,h=>by cases h;rfl
 |4,f,h=>by cases h;rfl
 |5,f,h=>by cases h;rfl
 |6,f,h=>by cases h;rfl
 |7,f,h=>by cases h;rfl
 |(_+8),f,h=>by simp[bZ] at h,fun F=>bq (by kernel_rfl) (mV F)⟩⟩
theorem lx:fldB Tryz.prog 146 6=some (9,0+1):=by kernel_rfl
theorem cZ:UpF bZ 6 ⟨kInt .i64,af.err⟩ (fun x y=>{x with err:=y}):=⟨rfl,fun _ _=>rfl,fun _ _=>⟨rfl,⟨rfl,⟨rfl,⟨rfl,⟨rfl,⟨rfl,(by intro q hq;simp only[List.mem_cons,List.not_mem_nil,or_false] at hq;rcases hq with rfl<;>rfl)⟩⟩⟩⟩⟩⟩⟩
theorem kt35k:KT Tryz.prog 35 (kInt .i64):=⟨by kernel_rfl,by kernel_rfl⟩
theorem lF (F:Fz):Kd.rd (kArr 10 (kInt .i64)) F ((List.replicate 10 [.int .i64 0]).flatten) (List.replicate 10 (0:Int)):=⟨by simp,cd (K:=kInt .i64) rfl 10⟩
theorem BTA273:BTA Tryz.prog 273 10 (kInt .i64) (List.replicate 10 (0:Int)):=⟨⟨Tryz.t273,(.agg (List.replicate 10 (.int .i64 0:Value)).toArray:Value),_,Tryz.t3,by kernel_rfl,by kernel_rfl,Tryz.underlying273,by kernel_rfl,by kernel_rfl,by simp,fun F=>jn (by kernel_rfl) (lF F).2⟩⟩
theorem fO:fldB Tryz.prog 146 2=some (2,0+1):=by kernel_rfl
theorem bp:UpF bZ 2 ⟨kInt .i64,af.stage⟩ (fun x y=>{x with stage:=y}):=⟨rfl,fun _ _=>rfl,fun _ _=>⟨rfl,⟨rfl,(by intro q hq;simp only[List.mem_cons,List.not_mem_nil,or_false] at hq;rcases hq with rfl|rfl|rfl|rfl|rfl<;>rfl)⟩⟩⟩
theorem kt3k:KT Tryz.prog 3 (kInt .i64):=⟨by kernel_rfl,by kernel_rfl⟩
theorem ib:fldB Tryz.prog 146 0=some (0,0+1):=by kernel_rfl
theorem bS:UpF bZ 0 ⟨kRaw,af.field⟩ (fun x y=>{x with field:=y}):=⟨rfl,fun _ _=>rfl,fun _ _=>(by intro q hq;simp only[List.mem_cons,List.not_mem_nil,or_false] at hq;rcases hq with rfl|rfl|rfl|rfl|rfl|rfl|rfl<;>rfl)⟩
theorem kt22k:KT Tryz.prog 22 kRaw:=⟨by kernel_rfl,by kernel_rfl⟩
theorem sz22k:(Tryz.prog.info? 22).map (·.size)=some (Kd.n kRaw):=by kernel_rfl
theorem ly:fldB Tryz.prog 146 1=some (1,0+1):=by kernel_rfl
theorem da:UpF bZ 1 ⟨kInt .i64,af.at_⟩ (fun x y=>{x with at_:=y}):=⟨rfl,fun _ _=>rfl,fun _ _=>⟨rfl,(by intro q hq;simp only[List.mem_cons,List.not_mem_nil,or_false] at hq;rcases hq with rfl|rfl|rfl|rfl|rfl|rfl<;>rfl)⟩⟩
theorem sz3k:(Tryz.prog.info? 3).map (·.size)=some (Kd.n (kInt .i64)):=by kernel_rfl
theorem kx (F:Fz):Kd.rd (kSl (kInt .u8)) F [.slice none 0 0] []:=⟨none,0,rfl,Nat.le_refl _,.inl rfl⟩
theorem ET22:ET Tryz.prog 22 (kSl (kInt .u8)) []:=⟨⟨Tryz.t22,(.slice none 0 0:Value),by kernel_rfl,by kernel_rfl,by kernel_rfl,by decide,fun F=>aB (by kernel_rfl) (kx F)⟩⟩
theorem AT22:AT Tryz.prog 22 (kSl (kInt .u8)) [] 24:=⟨⟨Tryz.t22,(.slice none 0 0:Value),by kernel_rfl,by kernel_rfl,by kernel_rfl,by kernel_rfl,by decide,by decide,fun F=>aB (by kernel_rfl) (kx F)⟩⟩
theorem q6:fldB Tryz.prog 146 5=some (7,1+1):=by kernel_rfl
theorem fR:UpF bZ 5 ⟨cm,af.sum⟩ (fun x y=>{x with sum:=y}):=⟨rfl,fun _ _=>rfl,fun _ _=>⟨rfl,⟨rfl,⟨rfl,⟨rfl,⟨rfl,(by intro q hq;simp only[List.mem_cons,List.not_mem_nil,or_false] at hq;rcases hq with rfl|rfl<;>rfl)⟩⟩⟩⟩⟩⟩
theorem kt144k:KT Tryz.prog 144 cm:=⟨by kernel_rfl,by kernel_rfl⟩
theorem fb144k:fldB Tryz.prog 144 1=some (offF fe 1,0+1):=by kernel_rfl
theorem kt142:KT Tryz.prog 142 (kInt .u32):=⟨by kernel_rfl,by kernel_rfl⟩
theorem fb144k1:fldB Tryz.prog 144 0=some (offF fe 0,0+1):=by kernel_rfl
theorem ZT144:ZT Tryz.prog 144 cm (⟨(0:Int),(0:Int)⟩:am):=⟨(.agg #[.int .u32 0,.int .u32 0]:Value),by kernel_rfl,fun F=>aB (by kernel_rfl) (jT F)⟩
theorem q7:fldB Tryz.prog 144 0=some (0,0+1):=by kernel_rfl
theorem iS:UpF fe 0 ⟨kInt .u32,am.a⟩ (fun x y=>{x with a:=y}):=⟨rfl,fun _ _=>rfl,fun _ _=>(by intro q hq;simp only[List.mem_cons,List.not_mem_nil,or_false] at hq;rcases hq with rfl<;>rfl)⟩
theorem kt142k:KT Tryz.prog 142 (kInt .u32):=⟨by kernel_rfl,by kernel_rfl⟩
theorem sz142k:(Tryz.prog.info? 142).map (·.size)=some (Kd.n (kInt .u32)):=by kernel_rfl
theorem tY:fldB Tryz.prog 144 1=some (1,0+1):=by kernel_rfl
theorem ky:UpF fe 1 ⟨kInt .u32,am.b⟩ (fun x y=>{x with b:=y}):=⟨rfl,fun _ _=>rfl,fun _ _=>⟨rfl,(fun q hq=>by simp at hq)⟩⟩
theorem kt144:KT Tryz.prog 144 cm:=⟨by kernel_rfl,by kernel_rfl⟩
theorem sz144k:(Tryz.prog.info? 144).map (·.size)=some (Kd.n cm):=by kernel_rfl
abbrev str0:ByteArray:=⟨#[67,72,82,78]⟩
theorem tZ:rdOf (.raw (.string str0)) kStr [67,72,82,78]:=rdS (by kernel_rfl)
theorem sz5k:(Tryz.prog.info? 5).map (·.size)=some (Kd.n (kInt .u8)):=by kernel_rfl
theorem kt5k:KT Tryz.prog 5 (kInt .u8):=⟨by kernel_rfl,by kernel_rfl⟩
theorem l9:fldB Tryz.prog 146 4=some (4,2+1):=by kernel_rfl
theorem oe:fldB Tryz.prog 43 2=some (2,0+1):=by kernel_rfl
theorem dL:UpF bZ 4 ⟨bi,af.header⟩ (fun x y=>{x with header:=y}):=⟨rfl,fun _ _=>rfl,fun _ _=>⟨rfl,⟨rfl,⟨rfl,⟨rfl,(by intro q hq;simp only[List.mem_cons,List.not_mem_nil,or_false] at hq;rcases hq with rfl|rfl|rfl<;>rfl)⟩⟩⟩⟩⟩
theorem eU:UpF dx 2 ⟨kInt .i64,aa.Left⟩ (fun x y=>{x with Left:=y}):=⟨rfl,fun _ _=>rfl,fun _ _=>⟨rfl,⟨rfl,(fun q hq=>by simp at hq)⟩⟩⟩
theorem ma:fldB Tryz.prog 146 3=some (3,0+1):=by kernel_rfl
theorem dM:UpF bZ 3 ⟨kInt .i64,af.left⟩ (fun x y=>{x with left:=y}):=⟨rfl,fun _ _=>rfl,fun _ _=>⟨rfl,⟨rfl,⟨rfl,(by intro q hq;simp only[List.mem_cons,List.not_mem_nil,or_false] at hq;rcases hq with rfl|rfl|rfl|rfl<;>rfl)⟩⟩⟩⟩
theorem xK:fldB Tryz.prog 43 0=some (0,0+1):=by kernel_rfl
theorem nQ:UpF dx 0 ⟨kInt .i64,aa.Round⟩ (fun x y=>{x with Round:=y}):=⟨rfl,fun _ _=>rfl,fun _ _=>(by intro q hq;simp only[List.mem_cons,List.not_mem_nil,or_false] at hq;rcases hq with rfl|rfl<;>rfl)⟩
theorem sz2k:(Tryz.prog.info? 2).map (·.size)=some (Kd.n (kInt .i64)):=by kernel_rfl
theorem xL:fldB Tryz.prog 43 1=some (1,0+1):=by kernel_rfl
theorem nR:UpF dx 1 ⟨kInt .i64,aa.Epoch⟩ (fun x y=>{x with Epoch:=y}):=⟨rfl,fun _ _=>rfl,fun _ _=>⟨rfl,(by intro q hq;simp only[List.mem_cons,List.not_mem_nil,or_false] at hq;rcases hq with rfl<;>rfl)⟩⟩
theorem sz35k:(Tryz.prog.info? 35).map (·.size)=some (Kd.n (kInt .i64)):=by kernel_rfl
theorem q8:fldB Tryz.prog 146 7=some (10,0+1):=by kernel_rfl
theorem fS:UpF bZ 7 ⟨kInt .i64,af.place⟩ (fun x y=>{x with place:=y}):=⟨rfl,fun _ _=>rfl,fun _ _=>⟨rfl,⟨rfl,⟨rfl,⟨rfl,⟨rfl,⟨rfl,⟨rfl,(fun q hq=>by simp at hq)⟩⟩⟩⟩⟩⟩⟩⟩
theorem kt43k:KT Tryz.prog 43 bi:=⟨by kernel_rfl,by kernel_rfl⟩
theorem BT46:BT Tryz.prog 46 f7 (⟨(⟨(0:Int),(0:Int),(0:Int)⟩:aa),[]⟩:aG):=⟨⟨Tryz.t46,(.agg #[.int .i64 0,.int .i64 0,.int .i64 0,.slice none 0 0]:Value),_,[(0,3),(3,1)],by kernel_rfl,by kernel_rfl,Tryz.underlying46,by kernel_rfl,fun i f h=>match i,f,h with
 |0,f,h=>by cases h;rfl
 |1,f,h=>by cases h;rfl
 |(_+2),f,h=>by simp[f7] at h,fun F=>bq (by kernel_rfl) (l8 F)⟩⟩
theorem fb46k:fldB Tryz.prog 46 0=some (offF f7 0,2+1):=by kernel_rfl
theorem fb43k:fldB Tryz.prog 43 2=some (offF dx 2,0+1):=by kernel_rfl
theorem fb43k1:fldB Tryz.prog 43 0=some (offF dx 0,0+1):=by kernel_rfl
theorem fb43k2:fldB Tryz.prog 43 1=some (offF dx 1,0+1):=by kernel_rfl
theorem jD (F:Fz):Kd.rd bf F ([.int .i64 0]++[.slice none 0 0]++[]) (⟨(0:Int),(.slice none 0 0)⟩:az):=⟨[.int .i64 0],_,rfl,rfl,⟨[.slice none 0 0],_,rfl,⟨rfl,rfl⟩,rfl⟩⟩
theorem iT:BT Tryz.prog 27 dp (⟨(0:Int),(.slice none 0 0)⟩:az):=⟨⟨Tryz.t27,(.agg #[.int .i64 0,.slice none 0 0]:Value),_,[(0,1),(1,1)],by kernel_rfl,by kernel_rfl,Tryz.underlying27,by kernel_rfl,fun i f h=>match i,f,h with
 |0,f,h=>by cases h;rfl
 |1,f,h=>by cases h;rfl
 |(_+2),f,h=>by simp[dp] at h,fun F=>bq (by kernel_rfl) (jD F)⟩⟩
theorem ZT27k:ZT Tryz.prog 27 bf (⟨(0:Int),(.slice none 0 0)⟩:az):=⟨(.agg #[.int .i64 0,.slice none 0 0]:Value),by kernel_rfl,fun F=>aB (by kernel_rfl) (jD F)⟩
theorem sz27k1:(Tryz.prog.info? 27).map (·.size)=some (Kd.n bf):=by kernel_rfl
theorem xM:fldB Tryz.prog 27 0=some (0,0+1):=by kernel_rfl
theorem lO:UpF dp 0 ⟨kInt .i64,az.Newest⟩ (fun x y=>{x with Newest:=y}):=⟨rfl,fun _ _=>rfl,fun _ _=>(by intro q hq;simp only[List.mem_cons,List.not_mem_nil,or_false] at hq;rcases hq with rfl<;>rfl)⟩
theorem kt2k:KT Tryz.prog 2 (kInt .i64):=⟨by kernel_rfl,by kernel_rfl⟩
theorem eb:fldB Tryz.prog 27 1=some (1,0+1):=by kernel_rfl
theorem aM:UpF dp 1 ⟨kRaw,az.Epochs⟩ (fun x y=>{x with Epochs:=y}):=⟨rfl,fun _ _=>rfl,fun _ _=>⟨rfl,(fun q hq=>by simp at hq)⟩⟩
theorem kt25k:KT Tryz.prog 25 kRaw:=⟨by kernel_rfl,by kernel_rfl⟩
theorem ET64:ET Tryz.prog 64 (kArr 16 (kInt .u8)) (List.replicate 16 (0:Int)):=⟨⟨Tryz.t64,(.agg (List.replicate 16 (.int .u8 0:Value)).toArray:Value),by kernel_rfl,by kernel_rfl,by kernel_rfl,by decide,fun F=>aB (by kernel_rfl) (dK F)⟩⟩
theorem AT64:AT Tryz.prog 64 (kArr 16 (kInt .u8)) (List.replicate 16 (0:Int)) 16:=⟨⟨Tryz.t64,(.agg (List.replicate 16 (.int .u8 0:Value)).toArray:Value),by kernel_rfl,by kernel_rfl,by kernel_rfl,by kernel_rfl,by decide,by decide,fun F=>aB (by kernel_rfl) (dK F)⟩⟩
theorem BT152:BT Tryz.prog 152 eK (⟨(0:Int),[]⟩:ak):=⟨⟨Tryz.t152,(.agg #[.int .i64 0,.slice none 0 0]:Value),_,[(0,1),(1,1)],by kernel_rfl,by kernel_rfl,Tryz.underlying152,by kernel_rfl,fun i f h=>match i,f,h with
 |0,f,h=>by cases h;rfl
 |1,f,h=>by cases h;rfl
 |(_+2),f,h=>by simp[eK] at h,fun F=>bq (by kernel_rfl) (iJ F)⟩⟩
theorem ET152:ET Tryz.prog 152 aO (⟨(0:Int),[]⟩:ak):=⟨⟨Tryz.t152,(.agg #[.int .i64 0,.slice none 0 0]:Value),by kernel_rfl,by kernel_rfl,by kernel_rfl,by decide,fun F=>aB (by kernel_rfl) (iJ F)⟩⟩
theorem AT152:AT Tryz.prog 152 aO (⟨(0:Int),[]⟩:ak) 32:=⟨⟨Tryz.t152,(.agg #[.int .i64 0,.slice none 0 0]:Value),by kernel_rfl,by kernel_rfl,by kernel_rfl,by kernel_rfl,by decide,by decide,fun F=>aB (by kernel_rfl) (iJ F)⟩⟩
theorem sz25k:(Tryz.prog.info? 25).map (·.size)=some (Kd.n kRaw):=by kernel_rfl
theorem ZT29:ZT Tryz.prog 29 br (⟨(0:Int),(⟨(0:Int),[]⟩:ab)⟩:aD):=⟨(.agg #[.int .i64 0,.int .i64 0,.slice none 0 0]:Value),by kernel_rfl,fun F=>aB (by kernel_rfl) (jS F)⟩
theorem og:fldB Tryz.prog 29 1=some (1,1+1):=by kernel_rfl
theorem oh:UpF fc 1 ⟨ah,aD.Window⟩ (fun x y=>{x with Window:=y}):=⟨rfl,fun _ _=>rfl,fun _ _=>⟨rfl,(fun q hq=>by simp at hq)⟩⟩
theorem nS:UpF cS 1 ⟨kSl aO,ab.Epochs⟩ (fun x y=>{x with Epochs:=y}):=⟨rfl,fun _ _=>rfl,fun _ _=>⟨rfl,(fun q hq=>by simp at hq)⟩⟩
theorem kt25k1:KT Tryz.prog 25 (kSl aO):=⟨by kernel_rfl,by kernel_rfl⟩
theorem eg:UpF gT 1 ⟨bf,dg.Window⟩ (fun x y=>{x with Window:=y}):=⟨rfl,fun _ _=>rfl,fun _ _=>⟨rfl,(fun q hq=>by simp at hq)⟩⟩
theorem lz:fldB Tryz.prog 152 1=some (1,0+1):=by kernel_rfl
theorem gf:UpF eK 1 ⟨kSl (kArr 16 (kInt .u8)),ak.Tags⟩ (fun x y=>{x with Tags:=y}):=⟨rfl,fun _ _=>rfl,fun _ _=>⟨rfl,(fun q hq=>by simp at hq)⟩⟩
theorem kt85k:KT Tryz.prog 85 (kSl (kArr 16 (kInt .u8))):=⟨by kernel_rfl,by kernel_rfl⟩
theorem sz85k:(Tryz.prog.info? 85).map (·.size)=some (Kd.n (kSl (kArr 16 (kInt .u8)))):=by kernel_rfl
theorem sz29k:(Tryz.prog.info? 29).map (·.size)=some (Kd.n br):=by kernel_rfl
theorem BT37:BT Tryz.prog 37 eX (⟨[],(⟨(0:Int),(⟨(0:Int),[]⟩:ab)⟩:aD),(⟨(0:Int),(0:Int),(0:Int),(0:Int),(0:Int)⟩:ai),(0:Int),(0:Int)⟩:aJ):=⟨⟨Tryz.t37,(.agg (List.replicate 1 (.slice none 0 0:Value)++List.replicate 2 (.int .i64 0:Value)++List.replicate 1 (.slice none 0 0:Value)++List.replicate 7 (.int .i64 0:Value)).toArray:Value),_,[(0,1),(1,3),(4,5),(9,1),(10,1)],by kernel_rfl,by kernel_rfl,Tryz.underlying37,by kernel_rfl,fun i f h=>match i,f,h with
 |0,f,h=>by cases h;rfl
 |1,f,h=>by cases h;rfl
 |2,f,h=>by cases h;rfl
 |3,f,h=>by cases h;rfl
 |4,f,h=>by cases h;rfl
 |(_+5),f,h=>by simp[eX] at h,fun F=>bq (by kernel_rfl) (kv F)⟩⟩
theorem sz37k:(Tryz.prog.info? 37).map (·.size)=some (Kd.n aN):=by kernel_rfl
theorem kt37:KT Tryz.prog 37 aN:=⟨by kernel_rfl,by kernel_rfl⟩
theorem kt27k:KT Tryz.prog 27 ah:=⟨by kernel_rfl,by kernel_rfl⟩
theorem ZT34:ZT Tryz.prog 34 bU (⟨(0:Int),(0:Int),(0:Int),(0:Int),(0:Int)⟩:ai):=⟨(.agg #[.int .i64 0,.int .i64 0,.int .i64 0,.int .i64 0,.int .i64 0]:Value),by kernel_rfl,fun F=>aB (by kernel_rfl) (jq F)⟩
theorem BT34:BT Tryz.prog 34 dV (⟨(0:Int),(0:Int),(0:Int),(0:Int),(0:Int)⟩:ai):=⟨⟨Tryz.t34,(.agg #[.int .i64 0,.int .i64 0,.int .i64 0,.int .i64 0,.int .i64 0]:Value),_,[(0,1),(1,1),(2,1),(3,1),(4,1)],by kernel_rfl,by kernel_rfl,Tryz.underlying34,by kernel_rfl,fun i f h=>match i,f,h with
 |0,f,h=>by cases h;rfl
 |1,f,h=>by cases h;rfl
 |2,f,h=>by cases h;rfl
 |3,f,h=>by cases h;rfl
 |4,f,h=>by cases h;rfl
 |(_+5),f,h=>by simp[dV] at h,fun F=>bq (by kernel_rfl) (jq F)⟩⟩
theorem sz34k:(Tryz.prog.info? 34).map (·.size)=some (Kd.n bU):=by kernel_rfl
theorem kt34:KT Tryz.prog 34 bU:=⟨by kernel_rfl,by kernel_rfl⟩
theorem lQ (F:Fz):Kd.rd (kArr 32 (kInt .u8)) F ((List.replicate 32 [.int .u8 0]).flatten) (List.replicate 32 (0:Int)):=⟨by simp,cd (K:=kInt .u8) rfl 32⟩
theorem ZT179:ZT Tryz.prog 179 (kArr 32 (kInt .u8)) (List.replicate 32 (0:Int)):=⟨(.agg (List.replicate 32 (.int .u8 0:Value)).toArray:Value),by kernel_rfl,fun F=>aB (by kernel_rfl) (lQ F)⟩
theorem mc (F:Fz):Kd.rd bu F ((List.replicate 8 [.int .u32 0]).flatten++(List.replicate 64 [.int .u8 0]).flatten++[.int .u64 0]++[]) (⟨(List.replicate 8 (0:Int)),(List.replicate 64 (0:Int)),(0:Int)⟩:aq):=⟨(List.replicate 8 [.int .u32 0]).flatten,_,rfl,⟨by simp,cd (K:=kInt .u32) rfl 8⟩,⟨(List.replicate 64 [.int .u8 0]).flatten,_,rfl,⟨by simp,cd (K:=kInt .u8) rfl 64⟩,⟨[.int .u64 0],_,rfl,rfl,rfl⟩⟩⟩
theorem ZT253:ZT Tryz.prog 253 bu (⟨(List.replicate 8 (0:Int)),(List.replicate 64 (0:Int)),(0:Int)⟩:aq):=⟨(.agg (List.replicate 8 (.int .u32 0:Value)++List.replicate 64 (.int .u8 0:Value)++List.replicate 1 (.int .u64 0:Value)).toArray:Value),by kernel_rfl,fun F=>aB (by kernel_rfl) (mc F)⟩
theorem lR (F:Fz):Kd.rd (kArr 64 (kInt .u8)) F ((List.replicate 64 [.int .u8 0]).flatten) (List.replicate 64 (0:Int)):=⟨by simp,cd (K:=kInt .u8) rfl 64⟩
theorem ZT251:ZT Tryz.prog 251 (kArr 64 (kInt .u8)) (List.replicate 64 (0:Int)):=⟨(.agg (List.replicate 64 (.int .u8 0:Value)).toArray:Value),by kernel_rfl,fun F=>aB (by kernel_rfl) (lR F)⟩
theorem BT253:BT Tryz.prog 253 fg (⟨(List.replicate 8 (0:Int)),(List.replicate 64 (0:Int)),(0:Int)⟩:aq):=⟨⟨Tryz.t253,(.agg (List.replicate 8 (.int .u32 0:Value)++List.replicate 64 (.int .u8 0:Value)++List.replicate 1 (.int .u64 0:Value)).toArray:Value),_,[(0,8),(8,64),(72,1)],by kernel_rfl,by kernel_rfl,Tryz.underlying253,by kernel_rfl,fun i f h=>match i,f,h with
 |0,f,h=>by cases h;rfl
 |1,f,h=>by cases h;rfl
 |2,f,h=>by cases h;rfl
 |(_+3),f,h=>by simp[fg] at h,fun F=>bq (by kernel_rfl) (mc F)⟩⟩
theorem sz253k:(Tryz.prog.info? 253).map (·.size)=some (Kd.n bu):=by kernel_rfl
theorem kt253:KT Tryz.prog 253 bu:=⟨by kernel_rfl,by kernel_rfl⟩
theorem lA:fldB Tryz.prog 253 2=some (72,0+1):=by kernel_rfl
theorem eh:UpF fg 2 ⟨kInt .u64,aq.n⟩ (fun x y=>{x with n:=y}):=⟨rfl,fun _ _=>rfl,fun _ _=>⟨rfl,⟨rfl,(fun q hq=>by simp at hq)⟩⟩⟩
theorem kt71k:KT Tryz.prog 71 (kInt .u64):=⟨by kernel_rfl,by kernel_rfl⟩
theorem iU (F:Fz):Kd.rd (kArr 8 (kInt .u32)) F ((List.replicate 8 [.int .u32 0]).flatten) (List.replicate 8 (0:Int)):=⟨by simp,cd (K:=kInt .u32) rfl 8⟩
theorem ZT250:ZT Tryz.prog 250 (kArr 8 (kInt .u32)) (List.replicate 8 (0:Int)):=⟨(.agg (List.replicate 8 (.int .u32 0:Value)).toArray:Value),by kernel_rfl,fun F=>aB (by kernel_rfl) (iU F)⟩
theorem BTA250:BTA Tryz.prog 250 8 (kInt .u32) (List.replicate 8 (0:Int)):=⟨⟨Tryz.t250,(.agg (List.replicate 8 (.int .u32 0:Value)).toArray:Value),_,Tryz.t142,by kernel_rfl,by kernel_rfl,Tryz.underlying250,by kernel_rfl,by kernel_rfl,by simp,fun F=>jn (by kernel_rfl) (iU F).2⟩⟩
theorem sz250k:(Tryz.prog.info? 250).map (·.size)=some (Kd.n (kArr 8 (kInt .u32))):=by kernel_rfl
theorem kt250:KT Tryz.prog 250 (kArr 8 (kInt .u32)):=⟨by kernel_rfl,by kernel_rfl⟩
theorem q9:fldB Tryz.prog 253 0=some (0,7+1):=by kernel_rfl
theorem iV:UpF fg 0 ⟨kArr 8 (kInt .u32),aq.words⟩ (fun x y=>{x with words:=y}):=⟨rfl,fun _ _=>rfl,fun _ _=>(by intro q hq;simp only[List.mem_cons,List.not_mem_nil,or_false] at hq;rcases hq with rfl|rfl<;>rfl)⟩
theorem ua:fldB Tryz.prog 253 1=some (8,63+1):=by kernel_rfl
theorem kz:UpF fg 1 ⟨kArr 64 (kInt .u8),aq.tail⟩ (fun x y=>{x with tail:=y}):=⟨rfl,fun _ _=>rfl,fun _ _=>⟨rfl,(by intro q hq;simp only[List.mem_cons,List.not_mem_nil,or_false] at hq;rcases hq with rfl<;>rfl)⟩⟩
theorem sz71k:(Tryz.prog.info? 71).map (·.size)=some (Kd.n (kInt .u64)):=by kernel_rfl
theorem kt250k:KT Tryz.prog 250 (kArr 8 (kInt .u32)):=⟨by kernel_rfl,by kernel_rfl⟩
theorem kt251k:KT Tryz.prog 251 (kArr 64 (kInt .u8)):=⟨by kernel_rfl,by kernel_rfl⟩
theorem lG (F:Fz):Kd.rd (kArr 64 (kInt .u32)) F ((List.replicate 64 [.int .u32 0]).flatten) (List.replicate 64 (0:Int)):=⟨by simp,cd (K:=kInt .u32) rfl 64⟩
theorem ZT319:ZT Tryz.prog 319 (kArr 64 (kInt .u32)) (List.replicate 64 (0:Int)):=⟨(.agg (List.replicate 64 (.int .u32 0:Value)).toArray:Value),by kernel_rfl,fun F=>aB (by kernel_rfl) (lG F)⟩
def glob0:List Int:=[1116352408,1899447441,3049323471,3921009573,961987163,1508970993,2453635748,2870763221,3624381080,310598401,607225278,1426881987,1925078388,2162078206,2614888103,3248222580,3835390401,4022224774,264347078,604807628,770255983,1249150122,1555081692,1996064986,2554220882,2821834349,2952996808,3210313671,3336571891,3584528711,113926993,338241895,666307205,773529912,1294757372,1396182291,1695183700,1986661051,2177026350,2456956037,2730485921,2820302411,3259730800,3345764771,3516065817,3600352804,4094571909,275423344,430227734,506948616,659060556,883997877,958139571,1322822218,1537002063,1747873779,1955562222,2024104815,2227730452,2361852424,2428436474,2756734187,3204031479,3329325298]
theorem sz142:(Tryz.prog.info? 142).map (·.size)=some (Kd.n (kInt .u32)):=by kernel_rfl
theorem kt253k:KT Tryz.prog 253 bu:=⟨by kernel_rfl,by kernel_rfl⟩
theorem fb253k:fldB Tryz.prog 253 0=some (offF fg 0,7+1):=by kernel_rfl
theorem kt179:KT Tryz.prog 179 (kArr 32 (kInt .u8)):=⟨by kernel_rfl,by kernel_rfl⟩
theorem sz179k:(Tryz.prog.info? 179).map (·.size)=some (Kd.n (kArr 32 (kInt .u8))):=by kernel_rfl
theorem fb46k1:fldB Tryz.prog 46 1=some (offF f7 1,0+1):=by kernel_rfl
theorem kt44:KT Tryz.prog 44 (kSl (kSl (kInt .u8))):=⟨by kernel_rfl,by kernel_rfl⟩
theorem sz22:(Tryz.prog.info? 22).map (·.size)=some (Kd.n (kSl (kInt .u8))):=by kernel_rfl
theorem ic (F:Fz):Kd.rd aR F ([.slice none 0 0]++(List.replicate 16 [.int .u8 0]).flatten++[]) (⟨[],(List.replicate 16 (0:Int))⟩:au):=⟨[.slice none 0 0],_,rfl,⟨none,0,rfl,Nat.le_refl _,.inl rfl⟩,⟨(List.replicate 16 [.int .u8 0]).flatten,_,rfl,⟨by simp,cd (K:=kInt .u8) rfl 16⟩,rfl⟩⟩
theorem ZT66:ZT Tryz.prog 66 aR (⟨[],(List.replicate 16 (0:Int))⟩:au):=⟨(.agg (List.replicate 1 (.slice none 0 0:Value)++List.replicate 16 (.int .u8 0:Value)).toArray:Value),by kernel_rfl,fun F=>aB (by kernel_rfl) (ic F)⟩
theorem BT66:BT Tryz.prog 66 fA (⟨[],(List.replicate 16 (0:Int))⟩:au):=⟨⟨Tryz.t66,(.agg (List.replicate 1 (.slice none 0 0:Value)++List.replicate 16 (.int .u8 0:Value)).toArray:Value),_,[(0,1),(1,16)],by kernel_rfl,by kernel_rfl,Tryz.underlying66,by kernel_rfl,fun i f h=>match i,f,h with
 |0,f,h=>by cases h;rfl
 |1,f,h=>by cases h;rfl
 |(_+2),f,h=>by simp[fA] at h,fun F=>bq (by kernel_rfl) (ic F)⟩⟩
theorem sz66k:(Tryz.prog.info? 66).map (·.size)=some (Kd.n aR):=by kernel_rfl
theorem kt66:KT Tryz.prog 66 aR:=⟨by kernel_rfl,by kernel_rfl⟩
theorem jE (F:Fz):Kd.rd dF F ((List.replicate 16 [.int .u8 0]).flatten++(List.replicate 32 [.int .u8 0]).flatten++(List.replicate 32 [.int .u8 0]).flatten++[]) (⟨(List.replicate 16 (0:Int)),(List.replicate 32 (0:Int)),(List.replicate 32 (0:Int))⟩:aT):=⟨(List.replicate 16 [.int .u8 0]).flatten,_,rfl,⟨by simp,cd (K:=kInt .u8) rfl 16⟩,⟨(List.replicate 32 [.int .u8 0]).flatten,_,rfl,⟨by simp,cd (K:=kInt .u8) rfl 32⟩,⟨(List.replicate 32 [.int .u8 0]).flatten,_,rfl,⟨by simp,cd (K:=kInt .u8) rfl 32⟩,rfl⟩⟩⟩
theorem ZT181:ZT Tryz.prog 181 dF (⟨(List.replicate 16 (0:Int)),(List.replicate 32 (0:Int)),(List.replicate 32 (0:Int))⟩:aT):=⟨(.agg (List.replicate 80 (.int .u8 0:Value)).toArray:Value),by kernel_rfl,fun F=>aB (by kernel_rfl) (jE F)⟩
theorem BT181:BT Tryz.prog 181 dR (⟨(List.replicate 16 (0:Int)),(List.replicate 32 (0:Int)),(List.replicate 32 (0:Int))⟩:aT):=⟨⟨Tryz.t181,(.agg (List.replicate 80 (.int .u8 0:Value)).toArray:Value),_,[(0,16),(16,32),(48,32)],by kernel_rfl,by kernel_rfl,Tryz.underlying181,by kernel_rfl,fun i f h=>match i,f,h with
 |0,f,h=>by cases h;rfl
 |1,f,h=>by cases h;rfl
 |2,f,h=>by cases h;rfl
 |(_+3),f,h=>by simp[dR] at h,fun F=>bq (by kernel_rfl) (jE F)⟩⟩
theorem sz181k:(Tryz.prog.info? 181).map (·.size)=some (Kd.n dF):=by kernel_rfl
theorem kt181:KT Tryz.prog 181 dF:=⟨by kernel_rfl,by kernel_rfl⟩
theorem fb181k:fldB Tryz.prog 181 1=some (offF dR 1,31+1):=by kernel_rfl
theorem fb181k1:fldB Tryz.prog 181 0=some (offF dR 0,15+1):=by kernel_rfl
theorem BTA64:BTA Tryz.prog 64 16 (kInt .u8) (List.replicate 16 (0:Int)):=⟨⟨Tryz.t64,(.agg (List.replicate 16 (.int .u8 0:Value)).toArray:Value),_,Tryz.t5,by kernel_rfl,by kernel_rfl,Tryz.underlying64,by kernel_rfl,by kernel_rfl,by simp,fun F=>jn (by kernel_rfl) (dK F).2⟩⟩
theorem md (F:Fz):Kd.rd ar F ((List.replicate 11 ((List.replicate 16 [.int .u8 0]).flatten)).flatten++[]) (⟨(List.replicate 11 (List.replicate 16 (0:Int)))⟩:aF):=⟨(List.replicate 11 ((List.replicate 16 [.int .u8 0]).flatten)).flatten,_,rfl,⟨by simp,cd (K:=kArr 16 (kInt .u8)) (⟨by simp,cd (K:=kInt .u8) rfl 16⟩) 11⟩,rfl⟩
theorem ZT243:ZT Tryz.prog 243 ar (⟨(List.replicate 11 (List.replicate 16 (0:Int)))⟩:aF):=⟨(.agg (List.replicate 176 (.int .u8 0:Value)).toArray:Value),by kernel_rfl,fun F=>aB (by kernel_rfl) (md F)⟩
theorem ji (F:Fz):Kd.rd (kArr 44 (kArr 4 (kInt .u8))) F ((List.replicate 44 ((List.replicate 4 [.int .u8 0]).flatten)).flatten) (List.replicate 44 (List.replicate 4 (0:Int))):=⟨by simp,cd (K:=kArr 4 (kInt .u8)) (⟨by simp,cd (K:=kInt .u8) rfl 4⟩) 44⟩
theorem ZT284:ZT Tryz.prog 284 (kArr 44 (kArr 4 (kInt .u8))) (List.replicate 44 (List.replicate 4 (0:Int))):=⟨(.agg (List.replicate 176 (.int .u8 0:Value)).toArray:Value),by kernel_rfl,fun F=>aB (by kernel_rfl) (ji F)⟩
theorem sz283k:(Tryz.prog.info? 283).map (·.size)=some (Kd.n (kArr 4 (kInt .u8))):=by kernel_rfl
theorem kt283k:KT Tryz.prog 283 (kArr 4 (kInt .u8)):=⟨by kernel_rfl,by kernel_rfl⟩
theorem jj (F:Fz):Kd.rd (kArr 4 (kInt .u8)) F ((List.replicate 4 [.int .u8 0]).flatten) (List.replicate 4 (0:Int)):=⟨by simp,cd (K:=kInt .u8) rfl 4⟩
theorem ZT283:ZT Tryz.prog 283 (kArr 4 (kInt .u8)) (List.replicate 4 (0:Int)):=⟨(.agg #[.int .u8 0,.int .u8 0,.int .u8 0,.int .u8 0]:Value),by kernel_rfl,fun F=>aB (by kernel_rfl) (jj F)⟩
theorem BTA283:BTA Tryz.prog 283 4 (kInt .u8) (List.replicate 4 (0:Int)):=⟨⟨Tryz.t283,(.agg #[.int .u8 0,.int .u8 0,.int .u8 0,.int .u8 0]:Value),_,Tryz.t5,by kernel_rfl,by kernel_rfl,Tryz.underlying283,by kernel_rfl,by kernel_rfl,by simp,fun F=>jn (by kernel_rfl) (jj F).2⟩⟩
theorem kt284:KT Tryz.prog 284 (kArr 44 (kArr 4 (kInt .u8))):=⟨by kernel_rfl,by kernel_rfl⟩
theorem kt283:KT Tryz.prog 283 (kArr 4 (kInt .u8)):=⟨by kernel_rfl,by kernel_rfl⟩
theorem wV:fldB Tryz.prog 243 0=some (0,175+1):=by kernel_rfl
theorem iE:UpF gU 0 ⟨kArr 11 (kArr 16 (kInt .u8)),aF.keys⟩ (fun x y=>{x with keys:=y}):=⟨rfl,fun _ _=>rfl,fun _ _=>(fun q hq=>by simp at hq)⟩
theorem sz240k:(Tryz.prog.info? 240).map (·.size)=some (Kd.n (kArr 16 (kInt .u8))):=by kernel_rfl
theorem kt243:KT Tryz.prog 243 ar:=⟨by kernel_rfl,by kernel_rfl⟩
theorem sz243k:(Tryz.prog.info? 243).map (·.size)=some (Kd.n ar):=by kernel_rfl
theorem lH (F:Fz):Kd.rd (kArr 256 (kInt .u8)) F ((List.replicate 256 [.int .u8 0]).flatten) (List.replicate 256 (0:Int)):=⟨by simp,cd (K:=kInt .u8) rfl 256⟩
theorem ZT246:ZT Tryz.prog 246 (kArr 256 (kInt .u8)) (List.replicate 256 (0:Int)):=⟨(.agg (List.replicate 256 (.int .u8 0:Value)).toArray:Value),by kernel_rfl,fun F=>aB (by kernel_rfl) (lH F)⟩
theorem kt64k:KT Tryz.prog 64 (kArr 16 (kInt .u8)):=⟨by kernel_rfl,by kernel_rfl⟩
theorem fb243k:fldB Tryz.prog 243 0=some (offF gU 0,175+1):=by kernel_rfl
theorem sz240:(Tryz.prog.info? 240).map (·.size)=some (Kd.n (kArr 16 (kInt .u8))):=by kernel_rfl
theorem kt240:KT Tryz.prog 240 (kArr 16 (kInt .u8)):=⟨by kernel_rfl,by kernel_rfl⟩
theorem ZT240:ZT Tryz.prog 240 (kArr 16 (kInt .u8)) (List.replicate 16 (0:Int)):=⟨(.agg (List.replicate 16 (.int .u8 0:Value)).toArray:Value),by kernel_rfl,fun F=>aB (by kernel_rfl) (dK F)⟩
theorem kt240k:KT Tryz.prog 240 (kArr 16 (kInt .u8)):=⟨by kernel_rfl,by kernel_rfl⟩
theorem fb181k2:fldB Tryz.prog 181 2=some (offF dR 2,31+1):=by kernel_rfl
theorem vF:fldB Tryz.prog 66 0=some (0,0+1):=by kernel_rfl
theorem kn:UpF fA 0 ⟨kSl (kInt .u8),au.Cell⟩ (fun x y=>{x with Cell:=y}):=⟨rfl,fun _ _=>rfl,fun _ _=>(by intro q hq;simp only[List.mem_cons,List.not_mem_nil,or_false] at hq;rcases hq with rfl<;>rfl)⟩
theorem sz22k1:(Tryz.prog.info? 22).map (·.size)=some (Kd.n (kSl (kInt .u8))):=by kernel_rfl
theorem vK:fldB Tryz.prog 34 1=some (1,0+1):=by kernel_rfl
theorem ko:UpF dV 1 ⟨kInt .i64,ai.Malformed⟩ (fun x y=>{x with Malformed:=y}):=⟨rfl,fun _ _=>rfl,fun _ _=>⟨rfl,(by intro q hq;simp only[List.mem_cons,List.not_mem_nil,or_false] at hq;rcases hq with rfl|rfl|rfl<;>rfl)⟩⟩
theorem fb66k:fldB Tryz.prog 66 1=some (offF fA 1,15+1):=by kernel_rfl
theorem ZV3:ZV Tryz.prog 3 (kInt .i64) (0:Int):=⟨(.int .i64 0:Value),by kernel_rfl,fun F=>kd.2 rfl⟩
theorem eqk5:EqK Tryz.prog 5 (kInt .u8) 1:=EqK.int Tryz.underlying5
theorem eqk64:EqK Tryz.prog 64 (kArr 16 (kInt .u8)) 2:=EqK.arr eqk5 kt5 Tryz.underlying64
theorem eqg64:Tryz.prog.eqGuardType Tryz.prog.depth 64=false:=by kernel_rfl
theorem vL:fldB Tryz.prog 34 2=some (2,0+1):=by kernel_rfl
theorem kp:UpF dV 2 ⟨kInt .i64,ai.Replays⟩ (fun x y=>{x with Replays:=y}):=⟨rfl,fun _ _=>rfl,fun _ _=>⟨rfl,⟨rfl,(by intro q hq;simp only[List.mem_cons,List.not_mem_nil,or_false] at hq;rcases hq with rfl|rfl<;>rfl)⟩⟩⟩
theorem ET66:ET Tryz.prog 66 aR (⟨[],(List.replicate 16 (0:Int))⟩:au):=⟨⟨Tryz.t66,(.agg (List.replicate 1 (.slice none 0 0:Value)++List.replicate 16 (.int .u8 0:Value)).toArray:Value),by kernel_rfl,by kernel_rfl,by kernel_rfl,by decide,fun F=>aB (by kernel_rfl) (ic F)⟩⟩
theorem AT66:AT Tryz.prog 66 aR (⟨[],(List.replicate 16 (0:Int))⟩:au) 40:=⟨⟨Tryz.t66,(.agg (List.replicate 1 (.slice none 0 0:Value)++List.replicate 16 (.int .u8 0:Value)).toArray:Value),by kernel_rfl,by kernel_rfl,by kernel_rfl,by kernel_rfl,by decide,by decide,fun F=>aB (by kernel_rfl) (ic F)⟩⟩
theorem me (F:Fz):Kd.rd dn F ([.slice none 0 0]++[.slice none 0 0]++[.slice none 0 0]++[]) (⟨[],[],[]⟩:aL):=⟨[.slice none 0 0],_,rfl,⟨none,0,rfl,Nat.le_refl _,.inl rfl⟩,⟨[.slice none 0 0],_,rfl,⟨none,0,rfl,Nat.le_refl _,.inl rfl⟩,⟨[.slice none 0 0],_,rfl,⟨none,0,rfl,Nat.le_refl _,.inl rfl⟩,rfl⟩⟩⟩
theorem ZT51:ZT Tryz.prog 51 dn (⟨[],[],[]⟩:aL):=⟨(.agg #[.slice none 0 0,.slice none 0 0,.slice none 0 0]:Value),by kernel_rfl,fun F=>aB (by kernel_rfl) (me F)⟩
theorem BT51:BT Tryz.prog 51 fb (⟨[],[],[]⟩:aL):=⟨⟨Tryz.t51,(.agg #[.slice none 0 0,.slice none 0 0,.slice none 0 0]:Value),_,[(0,1),(1,1),(2,1)],by kernel_rfl,by kernel_rfl,Tryz.underlying51,by kernel_rfl,fun i f h=>match i,f,h with
 |0,f,h=>by cases h;rfl
 |1,f,h=>by cases h;rfl
 |2,f,h=>by cases h;rfl
 |(_+3),f,h=>by simp[fb] at h,fun F=>bq (by kernel_rfl) (me F)⟩⟩
theorem sz51k:(Tryz.prog.info? 51).map (·.size)=some (Kd.n dn):=by kernel_rfl
theorem kt51:KT Tryz.prog 51 dn:=⟨by kernel_rfl,by kernel_rfl⟩
theorem kq (F:Fz):Kd.rd dZ F ([.slice none 0 0]++[.slice none 0 0]++[.slice none 0 0]++[]) (⟨[],[],(.slice none 0 0)⟩:bP):=⟨[.slice none 0 0],_,rfl,⟨none,0,rfl,Nat.le_refl _,.inl rfl⟩,⟨[.slice none 0 0],_,rfl,⟨none,0,rfl,Nat.le_refl _,.inl rfl⟩,⟨[.slice none 0 0],_,rfl,⟨rfl,rfl⟩,rfl⟩⟩⟩
theorem mf:BT Tryz.prog 51 ge (⟨[],[],(.slice none 0 0)⟩:bP):=⟨⟨Tryz.t51,(.agg #[.slice none 0 0,.slice none 0 0,.slice none 0 0]:Value),_,[(0,1),(1,1),(2,1)],by kernel_rfl,by kernel_rfl,Tryz.underlying51,by kernel_rfl,fun i f h=>match i,f,h with
 |0,f,h=>by cases h;rfl
 |1,f,h=>by cases h;rfl
 |2,f,h=>by cases h;rfl
 |(_+3),f,h=>by simp[ge] at h,fun F=>bq (by kernel_rfl) (kq F)⟩⟩
theorem ZT51k:ZT Tryz.prog 51 dZ (⟨[],[],(.slice none 0 0)⟩:bP):=⟨(.agg #[.slice none 0 0,.slice none 0 0,.slice none 0 0]:Value),by kernel_rfl,fun F=>aB (by kernel_rfl) (kq F)⟩
theorem sz51k1:(Tryz.prog.info? 51).map (·.size)=some (Kd.n dZ):=by kernel_rfl
theorem sZ:fldB Tryz.prog 51 2=some (2,0+1):=by kernel_rfl
theorem jk:UpF ge 2 ⟨kRaw,bP.Chunks⟩ (fun x y=>{x with Chunks:=y}):=⟨rfl,fun _ _=>rfl,fun _ _=>⟨rfl,⟨rfl,(fun q hq=>by simp at hq)⟩⟩⟩
theorem kt44k:KT Tryz.prog 44 kRaw:=⟨by kernel_rfl,by kernel_rfl⟩
theorem sz44k:(Tryz.prog.info? 44).map (·.size)=some (Kd.n kRaw):=by kernel_rfl
theorem fb51k:fldB Tryz.prog 51 0=some (offF fb 0,0+1):=by kernel_rfl
theorem oi (F:Fz):Kd.rd (kInt .i64) F [.int .i64 0] (0:Int):=rfl
theorem AT3:AT Tryz.prog 3 (kInt .i64) (0:Int) 8:=⟨⟨Tryz.t3,(.int .i64 0:Value),by kernel_rfl,by kernel_rfl,by kernel_rfl,by kernel_rfl,by decide,by decide,fun F=>aB (by kernel_rfl) (oi F)⟩⟩
theorem ET3:ET Tryz.prog 3 (kInt .i64) (0:Int):=⟨⟨Tryz.t3,(.int .i64 0:Value),by kernel_rfl,by kernel_rfl,by kernel_rfl,by decide,fun F=>aB (by kernel_rfl) (oi F)⟩⟩
theorem sz3:(Tryz.prog.info? 3).map (·.size)=some (Kd.n (kInt .i64)):=by kernel_rfl
theorem sz66:(Tryz.prog.info? 66).map (·.size)=some (Kd.n aR):=by kernel_rfl
theorem fb66k1:fldB Tryz.prog 66 0=some (offF fA 0,0+1):=by kernel_rfl
theorem jF (F:Fz):Kd.rd fi F (([.slice none 0 0]++[.slice none 0 0]++[.slice none 0 0]++[])++[.slice none 0 0]++[.slice none 0 0]++[]) (⟨(⟨[],[],[]⟩:aL),[],(.slice none 0 0)⟩:bc):=⟨([.slice none 0 0]++[.slice none 0 0]++[.slice none 0 0]++[]),_,rfl,⟨[.slice none 0 0],_,rfl,⟨none,0,rfl,Nat.le_refl _,.inl rfl⟩,⟨[.slice none 0 0],_,rfl,⟨none,0,rfl,Nat.le_refl _,.inl rfl⟩,⟨[.slice none 0 0],_,rfl,⟨none,0,rfl,Nat.le_refl _,.inl rfl⟩,rfl⟩⟩⟩,⟨[.slice none 0 0],_,rfl,⟨none,0,rfl,Nat.le_refl _,.inl rfl⟩,⟨[.slice none 0 0],_,rfl,⟨rfl,rfl⟩,rfl⟩⟩⟩
theorem ZT163k:ZT Tryz.prog 163 fi (⟨(⟨[],[],[]⟩:aL),[],(.slice none 0 0)⟩:bc):=⟨(.agg #[.slice none 0 0,.slice none 0 0,.slice none 0 0,.slice none 0 0,.slice none 0 0]:Value),by kernel_rfl,fun F=>aB (by kernel_rfl) (jF F)⟩
theorem ra:fldB Tryz.prog 163 1=some (3,0+1):=by kernel_rfl
theorem fT:UpF dS 1 ⟨kSl (kInt .i64),bc.sizes⟩ (fun x y=>{x with sizes:=y}):=⟨rfl,fun _ _=>rfl,fun _ _=>⟨rfl,(by intro q hq;simp only[List.mem_cons,List.not_mem_nil,or_false] at hq;rcases hq with rfl<;>rfl)⟩⟩
theorem sz68k:(Tryz.prog.info? 68).map (·.size)=some (Kd.n (kSl (kInt .i64))):=by kernel_rfl
theorem du:BT Tryz.prog 163 dS (⟨(⟨[],[],[]⟩:aL),[],(.slice none 0 0)⟩:bc):=⟨⟨Tryz.t163,(.agg #[.slice none 0 0,.slice none 0 0,.slice none 0 0,.slice none 0 0,.slice none 0 0]:Value),_,[(0,3),(3,1),(4,1)],by kernel_rfl,by kernel_rfl,Tryz.underlying163,by kernel_rfl,fun i f h=>match i,f,h with
 |0,f,h=>by cases h;rfl
 |1,f,h=>by cases h;rfl
 |2,f,h=>by cases h;rfl
 |(_+3),f,h=>by simp[dS] at h,fun F=>bq (by kernel_rfl) (jF F)⟩⟩
theorem sz163k:(Tryz.prog.info? 163).map (·.size)=some (Kd.n fi):=by kernel_rfl
theorem kt163:KT Tryz.prog 163 fh:=⟨by kernel_rfl,by kernel_rfl⟩
theorem rb:fldB Tryz.prog 163 0=some (0,2+1):=by kernel_rfl
theorem fU:UpF dS 0 ⟨dn,bc.parts⟩ (fun x y=>{x with parts:=y}):=⟨rfl,fun _ _=>rfl,fun _ _=>(by intro q hq;simp only[List.mem_cons,List.not_mem_nil,or_false] at hq;rcases hq with rfl|rfl<;>rfl)⟩
theorem xN:fldB Tryz.prog 51 1=some (1,0+1):=by kernel_rfl
theorem oj:UpF fb 1 ⟨kSl (kInt .u8),aL.Braid⟩ (fun x y=>{x with Braid:=y}):=⟨rfl,fun _ _=>rfl,fun _ _=>⟨rfl,(by intro q hq;simp only[List.mem_cons,List.not_mem_nil,or_false] at hq;rcases hq with rfl<;>rfl)⟩⟩
theorem kt22k1:KT Tryz.prog 22 (kSl (kInt .u8)):=⟨by kernel_rfl,by kernel_rfl⟩
theorem vM (F:Fz):Kd.rd kRaw F [.slice none 0 0] (.slice none 0 0):=⟨rfl,rfl⟩
theorem ZT68k:ZT Tryz.prog 68 kRaw (.slice none 0 0):=⟨(.slice none 0 0:Value),by kernel_rfl,fun F=>aB (by kernel_rfl) (vM F)⟩
theorem sz68k1:(Tryz.prog.info? 68).map (·.size)=some (Kd.n kRaw):=by kernel_rfl
theorem mg (F:Fz):Kd.rd bz F ([.string ByteArray.empty]++[.int .i64 0]++[]) (⟨[],(0:Int)⟩:aP):=⟨[.string ByteArray.empty],_,rfl,⟨_,rfl,rfl⟩,⟨[.int .i64 0],_,rfl,rfl,rfl⟩⟩
theorem ZT312:ZT Tryz.prog 312 bz (⟨[],(0:Int)⟩:aP):=⟨(.agg #[.string ByteArray.empty,.int .i64 0]:Value),by kernel_rfl,fun F=>aB (by kernel_rfl) (mg F)⟩
theorem BT312:BT Tryz.prog 312 ip (⟨[],(0:Int)⟩:aP):=⟨⟨Tryz.t312,(.agg #[.string ByteArray.empty,.int .i64 0]:Value),_,[(0,1),(1,1)],by kernel_rfl,by kernel_rfl,Tryz.underlying312,by kernel_rfl,fun i f h=>match i,f,h with
 |0,f,h=>by cases h;rfl
 |1,f,h=>by cases h;rfl
 |(_+2),f,h=>by simp[ip] at h,fun F=>bq (by kernel_rfl) (mg F)⟩⟩
theorem sz312k:(Tryz.prog.info? 312).map (·.size)=some (Kd.n bz):=by kernel_rfl
theorem kt312:KT Tryz.prog 312 bz:=⟨by kernel_rfl,by kernel_rfl⟩
theorem kt312k:KT Tryz.prog 312 bz:=⟨by kernel_rfl,by kernel_rfl⟩
theorem fb312k:fldB Tryz.prog 312 0=some (offF ip 0,0+1):=by kernel_rfl
theorem kt9:KT Tryz.prog 9 kStr:=⟨by kernel_rfl,by kernel_rfl⟩
theorem fb312k1:fldB Tryz.prog 312 1=some (offF ip 1,0+1):=by kernel_rfl
theorem kt68k:KT Tryz.prog 68 kRaw:=⟨by kernel_rfl,by kernel_rfl⟩
theorem kt68k1:KT Tryz.prog 68 (kSl (kInt .i64)):=⟨by kernel_rfl,by kernel_rfl⟩
theorem ub:fldB Tryz.prog 163 2=some (4,0+1):=by kernel_rfl
theorem iW:UpF dS 2 ⟨kRaw,bc.starts⟩ (fun x y=>{x with starts:=y}):=⟨rfl,fun _ _=>rfl,fun _ _=>⟨rfl,⟨rfl,(fun q hq=>by simp at hq)⟩⟩⟩
theorem om:UpF fb 2 ⟨kSl (kSl (kInt .u8)),aL.Chunks⟩ (fun x y=>{x with Chunks:=y}):=⟨rfl,fun _ _=>rfl,fun _ _=>⟨rfl,⟨rfl,(fun q hq=>by simp at hq)⟩⟩⟩
theorem kt44k1:KT Tryz.prog 44 (kSl (kSl (kInt .u8))):=⟨by kernel_rfl,by kernel_rfl⟩
theorem kr (F:Fz):Kd.rd (kSl (kInt .i64)) F [.slice none 0 0] []:=⟨none,0,rfl,Nat.le_refl _,.inl rfl⟩
theorem ET68:ET Tryz.prog 68 (kSl (kInt .i64)) []:=⟨⟨Tryz.t68,(.slice none 0 0:Value),by kernel_rfl,by kernel_rfl,by kernel_rfl,by decide,fun F=>aB (by kernel_rfl) (kr F)⟩⟩
theorem AT68:AT Tryz.prog 68 (kSl (kInt .i64)) [] 24:=⟨⟨Tryz.t68,(.slice none 0 0:Value),by kernel_rfl,by kernel_rfl,by kernel_rfl,by kernel_rfl,by decide,by decide,fun F=>aB (by kernel_rfl) (kr F)⟩⟩
abbrev kF:(List Int)→Value→Value:=fun _ q=>q
abbrev kK:(List Int)→(List Int):=fun x=>x
theorem uN:Free kRaw:=Free.raw
theorem qj:Free (kInt .i64):=Free.int
theorem uO:∀F x q,(kSl (kInt .i64)).val F q (kK x)→∀cs,kRaw.rd F cs (kF x q)→(kSl (kInt .i64)).rd F cs x:=fun F x q hv=>jh hv
theorem AT68k:AT Tryz.prog 68 kRaw (.slice none 0 0) 24:=⟨⟨Tryz.t68,(.slice none 0 0:Value),by kernel_rfl,by kernel_rfl,by kernel_rfl,by kernel_rfl,by decide,by decide,fun F=>aB (by kernel_rfl) (vM F)⟩⟩
theorem sz68:(Tryz.prog.info? 68).map (·.size)=some (Kd.n (kSl (kInt .i64))):=by kernel_rfl
theorem kt68:KT Tryz.prog 68 (kSl (kInt .i64)):=⟨by kernel_rfl,by kernel_rfl⟩
theorem kt163k:KT Tryz.prog 163 fh:=⟨by kernel_rfl,by kernel_rfl⟩
theorem sz163k1:(Tryz.prog.info? 163).map (·.size)=some (Kd.n fh):=by kernel_rfl
theorem qg (F:Fz):Kd.rd fh F (([.slice none 0 0]++[.slice none 0 0]++[.slice none 0 0]++[])++[.slice none 0 0]++[.slice none 0 0]++[]) (⟨(⟨[],[],[]⟩:aL),[],[]⟩:bt):=⟨([.slice none 0 0]++[.slice none 0 0]++[.slice none 0 0]++[]),_,rfl,⟨[.slice none 0 0],_,rfl,⟨none,0,rfl,Nat.le_refl _,.inl rfl⟩,⟨[.slice none 0 0],_,rfl,⟨none,0,rfl,Nat.le_refl _,.inl rfl⟩,⟨[.slice none 0 0],_,rfl,⟨none,0,rfl,Nat.le_refl _,.inl rfl⟩,rfl⟩⟩⟩,⟨[.slice none 0 0],_,rfl,⟨none,0,rfl,Nat.le_refl _,.inl rfl⟩,⟨[.slice none 0 0],_,rfl,⟨none,0,rfl,Nat.le_refl _,.inl rfl⟩,rfl⟩⟩⟩
theorem ZT163:ZT Tryz.prog 163 fh (⟨(⟨[],[],[]⟩:aL),[],[]⟩:bt):=⟨(.agg #[.slice none 0 0,.slice none 0 0,.slice none 0 0,.slice none 0 0,.slice none 0 0]:Value),by kernel_rfl,fun F=>aB (by kernel_rfl) (qg F)⟩
theorem fb163k:fldB Tryz.prog 163 1=some (offF dy 1,0+1):=by kernel_rfl
theorem fb163k1:fldB Tryz.prog 163 2=some (offF dy 2,0+1):=by kernel_rfl
theorem wW (F:Fz):Kd.rd fw F [.bool false] false:=rfl
theorem AT4:AT Tryz.prog 4 fw false 1:=⟨⟨Tryz.t4,(.bool false:Value),by kernel_rfl,by kernel_rfl,by kernel_rfl,by kernel_rfl,by decide,by decide,fun F=>aB (by kernel_rfl) (wW F)⟩⟩
theorem sz4k:(Tryz.prog.info? 4).map (·.size)=some (Kd.n fw):=by kernel_rfl
theorem kt4k:KT Tryz.prog 4 fw:=⟨by kernel_rfl,by kernel_rfl⟩
theorem uc:fldB Tryz.prog 152 0=some (0,0+1):=by kernel_rfl
theorem kL:UpF eK 0 ⟨kInt .i64,ak.Number⟩ (fun x y=>{x with Number:=y}):=⟨rfl,fun _ _=>rfl,fun _ _=>(by intro q hq;simp only[List.mem_cons,List.not_mem_nil,or_false] at hq;rcases hq with rfl<;>rfl)⟩
abbrev ci:ak→Value→ao:=fun x q=>⟨x.Number,q⟩
abbrev cu:ak→List (List Int):=fun x=>x.Tags
theorem bj:Free (aC):=Free.st2 Free.int Free.raw
theorem bo:Free (kArr 16 (kInt .u8)):=Free.arr Free.int
theorem lL:∀F x q,(kSl (kArr 16 (kInt .u8))).val F q (cu x)→∀cs,(aC).rd F cs (ci x q)→(aO).rd F cs x:=fun F x q hv cs h=>pM (fs':=fj) (fs:=eK) (x':=ci x q) (x:=x) ⟨fun _ h=>h,jh hv,trivial⟩ h
theorem fP (F:Fz):Kd.rd aC F ([.int .i64 0]++[.slice none 0 0]++[]) (⟨(0:Int),(.slice none 0 0)⟩:ao):=⟨[.int .i64 0],_,rfl,rfl,⟨[.slice none 0 0],_,rfl,⟨rfl,rfl⟩,rfl⟩⟩
theorem db:BT Tryz.prog 152 fj (⟨(0:Int),(.slice none 0 0)⟩:ao):=⟨⟨Tryz.t152,(.agg #[.int .i64 0,.slice none 0 0]:Value),_,[(0,1),(1,1)],by kernel_rfl,by kernel_rfl,Tryz.underlying152,by kernel_rfl,fun i f h=>match i,f,h with
 |0,f,h=>by cases h;rfl
 |1,f,h=>by cases h;rfl
 |(_+2),f,h=>by simp[fj] at h,fun F=>bq (by kernel_rfl) (fP F)⟩⟩
theorem ET152k:ET Tryz.prog 152 aC (⟨(0:Int),(.slice none 0 0)⟩:ao):=⟨⟨Tryz.t152,(.agg #[.int .i64 0,.slice none 0 0]:Value),by kernel_rfl,by kernel_rfl,by kernel_rfl,by decide,fun F=>aB (by kernel_rfl) (fP F)⟩⟩
theorem AT152k:AT Tryz.prog 152 aC (⟨(0:Int),(.slice none 0 0)⟩:ao) 32:=⟨⟨Tryz.t152,(.agg #[.int .i64 0,.slice none 0 0]:Value),by kernel_rfl,by kernel_rfl,by kernel_rfl,by kernel_rfl,by decide,by decide,fun F=>aB (by kernel_rfl) (fP F)⟩⟩
theorem sz152k1:(Tryz.prog.info? 152).map (·.size)=some (Kd.n aC):=by kernel_rfl
theorem kt152k:KT Tryz.prog 152 aC:=⟨by kernel_rfl,by kernel_rfl⟩
theorem ZT152k:ZT Tryz.prog 152 aC (⟨(0:Int),(.slice none 0 0)⟩:ao):=⟨(.agg #[.int .i64 0,.slice none 0 0]:Value),by kernel_rfl,fun F=>aB (by kernel_rfl) (fP F)⟩
theorem jl:UpF fj 1 ⟨kRaw,ao.Tags⟩ (fun x y=>{x with Tags:=y}):=⟨rfl,fun _ _=>rfl,fun _ _=>⟨rfl,(fun q hq=>by simp at hq)⟩⟩
theorem kt85k1:KT Tryz.prog 85 kRaw:=⟨by kernel_rfl,by kernel_rfl⟩
theorem BT43:BT Tryz.prog 43 dx (⟨(0:Int),(0:Int),(0:Int)⟩:aa):=⟨⟨Tryz.t43,(.agg #[.int .i64 0,.int .i64 0,.int .i64 0]:Value),_,[(0,1),(1,1),(2,1)],by kernel_rfl,by kernel_rfl,Tryz.underlying43,by kernel_rfl,fun i f h=>match i,f,h with
 |0,f,h=>by cases h;rfl
 |1,f,h=>by cases h;rfl
 |2,f,h=>by cases h;rfl
 |(_+3),f,h=>by simp[dx] at h,fun F=>bq (by kernel_rfl) (jr F)⟩⟩
theorem kt43:KT Tryz.prog 43 bi:=⟨by kernel_rfl,by kernel_rfl⟩
theorem xO:fldB Tryz.prog 34 3=some (3,0+1):=by kernel_rfl
theorem nT:UpF dV 3 ⟨kInt .i64,ai.Noise⟩ (fun x y=>{x with Noise:=y}):=⟨rfl,fun _ _=>rfl,fun _ _=>⟨rfl,⟨rfl,⟨rfl,(by intro q hq;simp only[List.mem_cons,List.not_mem_nil,or_false] at hq;rcases hq with rfl<;>rfl)⟩⟩⟩⟩
theorem xP:fldB Tryz.prog 34 4=some (4,0+1):=by kernel_rfl
theorem nU:UpF dV 4 ⟨kInt .i64,ai.Out⟩ (fun x y=>{x with Out:=y}):=⟨rfl,fun _ _=>rfl,fun _ _=>⟨rfl,⟨rfl,⟨rfl,⟨rfl,(fun q hq=>by simp at hq)⟩⟩⟩⟩⟩
theorem fb37k:fldB Tryz.prog 37 3=some (offF eX 3,0+1):=by kernel_rfl
theorem kt35:KT Tryz.prog 35 (kInt .i64):=⟨by kernel_rfl,by kernel_rfl⟩
theorem BT87:BT Tryz.prog 87 dU (⟨(⟨(0:Int),(0:Int),(0:Int)⟩:aa),(0:Int),[],[]⟩:aI):=⟨⟨Tryz.t87,(.agg #[.int .i64 0,.int .i64 0,.int .i64 0,.int .i64 0,.slice none 0 0,.slice none 0 0]:Value),_,[(0,3),(3,1),(4,1),(5,1)],by kernel_rfl,by kernel_rfl,Tryz.underlying87,by kernel_rfl,fun i f h=>match i,f,h with
 |0,f,h=>by cases h;rfl
 |1,f,h=>by cases h;rfl
 |2,f,h=>by cases h;rfl
 |3,f,h=>by cases h;rfl
 |(_+4),f,h=>by simp[dU] at h,fun F=>bq (by kernel_rfl) (lJ F)⟩⟩
theorem sz87k:(Tryz.prog.info? 87).map (·.size)=some (Kd.n aQ):=by kernel_rfl
theorem kt87:KT Tryz.prog 87 aQ:=⟨by kernel_rfl,by kernel_rfl⟩
theorem fb37k1:fldB Tryz.prog 37 2=some (offF eX 2,4+1):=by kernel_rfl
theorem fb34k:fldB Tryz.prog 34 3=some (offF dV 3,0+1):=by kernel_rfl
theorem iX (F:Fz):Kd.rd cc F (([.int .i64 0]++[.int .i64 0]++[.int .i64 0]++[])++[.int .i64 0]++[.slice none 0 0]++[.slice none 0 0]++[]) (⟨(⟨(0:Int),(0:Int),(0:Int)⟩:aa),(0:Int),(.slice none 0 0),(.slice none 0 0)⟩:aK):=⟨([.int .i64 0]++[.int .i64 0]++[.int .i64 0]++[]),_,rfl,⟨[.int .i64 0],_,rfl,rfl,⟨[.int .i64 0],_,rfl,rfl,⟨[.int .i64 0],_,rfl,rfl,rfl⟩⟩⟩,⟨[.int .i64 0],_,rfl,rfl,⟨[.slice none 0 0],_,rfl,⟨rfl,rfl⟩,⟨[.slice none 0 0],_,rfl,⟨rfl,rfl⟩,rfl⟩⟩⟩⟩
theorem kM:BT Tryz.prog 87 dm (⟨(⟨(0:Int),(0:Int),(0:Int)⟩:aa),(0:Int),(.slice none 0 0),(.slice none 0 0)⟩:aK):=⟨⟨Tryz.t87,(.agg #[.int .i64 0,.int .i64 0,.int .i64 0,.int .i64 0,.slice none 0 0,.slice none 0 0]:Value),_,[(0,3),(3,1),(4,1),(5,1)],by kernel_rfl,by kernel_rfl,Tryz.underlying87,by kernel_rfl,fun i f h=>match i,f,h with
 |0,f,h=>by cases h;rfl
 |1,f,h=>by cases h;rfl
 |2,f,h=>by cases h;rfl
 |3,f,h=>by cases h;rfl
 |(_+4),f,h=>by simp[dm] at h,fun F=>bq (by kernel_rfl) (iX F)⟩⟩
theorem ZT87k:ZT Tryz.prog 87 cc (⟨(⟨(0:Int),(0:Int),(0:Int)⟩:aa),(0:Int),(.slice none 0 0),(.slice none 0 0)⟩:aK):=⟨(.agg #[.int .i64 0,.int .i64 0,.int .i64 0,.int .i64 0,.slice none 0 0,.slice none 0 0]:Value),by kernel_rfl,fun F=>aB (by kernel_rfl) (iX F)⟩
theorem sz87k1:(Tryz.prog.info? 87).map (·.size)=some (Kd.n cc):=by kernel_rfl
theorem xQ:fldB Tryz.prog 87 0=some (0,2+1):=by kernel_rfl
theorem kN:UpF dm 0 ⟨bi,aK.Header⟩ (fun x y=>{x with Header:=y}):=⟨rfl,fun _ _=>rfl,fun _ _=>(by intro q hq;simp only[List.mem_cons,List.not_mem_nil,or_false] at hq;rcases hq with rfl|rfl|rfl<;>rfl)⟩
theorem xR:fldB Tryz.prog 87 3=some (5,0+1):=by kernel_rfl
theorem kO:UpF dm 3 ⟨kRaw,aK.Nonces⟩ (fun x y=>{x with Nonces:=y}):=⟨rfl,fun _ _=>rfl,fun _ _=>⟨rfl,⟨rfl,⟨rfl,(fun q hq=>by simp at hq)⟩⟩⟩⟩
theorem re:fldB Tryz.prog 87 2=some (4,0+1):=by kernel_rfl
theorem dW:UpF dm 2 ⟨kRaw,aK.From⟩ (fun x y=>{x with From:=y}):=⟨rfl,fun _ _=>rfl,fun _ _=>⟨rfl,⟨rfl,(by intro q hq;simp only[List.mem_cons,List.not_mem_nil,or_false] at hq;rcases hq with rfl<;>rfl)⟩⟩⟩
theorem fb37k2:fldB Tryz.prog 37 0=some (offF eX 0,0+1):=by kernel_rfl
abbrev str1:ByteArray:=⟨#[67,72,82,78,1,1,0,0,0,0,0,0,0,0,0,7,0,0,0,0,0,0,0,1,26,177,1,54]⟩
theorem wX:rdOf (.raw (.string str1)) kStr [67,72,82,78,1,1,0,0,0,0,0,0,0,0,0,7,0,0,0,0,0,0,0,1,26,177,1,54]:=rdS (by kernel_rfl)
theorem fb87k:fldB Tryz.prog 87 1=some (offF dU 1,0+1):=by kernel_rfl
theorem fb87k1:fldB Tryz.prog 87 0=some (offF dU 0,2+1):=by kernel_rfl
theorem ZT43:ZT Tryz.prog 43 bi (⟨(0:Int),(0:Int),(0:Int)⟩:aa):=⟨(.agg #[.int .i64 0,.int .i64 0,.int .i64 0]:Value),by kernel_rfl,fun F=>aB (by kernel_rfl) (jr F)⟩
theorem sz43k:(Tryz.prog.info? 43).map (·.size)=some (Kd.n bi):=by kernel_rfl
theorem fb87k2:fldB Tryz.prog 87 2=some (offF dU 2,0+1):=by kernel_rfl
theorem fb87k3:fldB Tryz.prog 87 3=some (offF dU 3,0+1):=by kernel_rfl
theorem xS {P:Program} {ops:Array Oper} {rest:List Oper} {Q:Exit→Act→World→Prop} {F0:Fz} {n:Nat} {E:List (Nat×SV)} {L:List Res} {o0 o1 o2 o3 o4 o5 o6:Oper} (d:Nat) (e:Bool) (k:Under F0 n ((d,.raw (.bool e))::E) L (wpList P ops Q rest)) (h:Under F0 n ((d,.raw (.bool e))::E) L (wpList P ops Q rest)→Under F0 n E L (wpList P ops Q (o0::o1::o2::o3::o4::o5::o6::rest))):Under F0 n E L (wpList P ops Q (o0::o1::o2::o3::o4::o5::o6::rest)):=h k
theorem yp {P:Program} {ops:Array Oper} {rest:List Oper} {C:World→Prop} {Qa:Act→Prop} {F0:Fz} {n:Nat} {E:List (Nat×SV)} {o0 o1 o2 o3 o4 o5 o6:Oper} (d:Nat) (e:Bool) (k:aE F0 n ((d,.raw (.bool e))::E) (wpQuiet P ops C Qa rest)) (h:aE F0 n ((d,.raw (.bool e))::E) (wpQuiet P ops C Qa rest)→aE F0 n E (wpQuiet P ops C Qa (o0::o1::o2::o3::o4::o5::o6::rest))):aE F0 n E (wpQuiet P ops C Qa (o0::o1::o2::o3::o4::o5::o6::rest)):=h k
theorem ku (F:Fz):Kd.rd cy F (([.int .i64 0]++[.int .i64 0]++[.int .i64 0]++[])++[.slice none 0 0]++[]) (⟨(⟨(0:Int),(0:Int),(0:Int)⟩:aa),(.slice none 0 0)⟩:bg):=⟨([.int .i64 0]++[.int .i64 0]++[.int .i64 0]++[]),_,rfl,⟨[.int .i64 0],_,rfl,rfl,⟨[.int .i64 0],_,rfl,rfl,⟨[.int .i64 0],_,rfl,rfl,rfl⟩⟩⟩,⟨[.slice none 0 0],_,rfl,⟨rfl,rfl⟩,rfl⟩⟩
theorem mh:BT Tryz.prog 46 fk (⟨(⟨(0:Int),(0:Int),(0:Int)⟩:aa),(.slice none 0 0)⟩:bg):=⟨⟨Tryz.t46,(.agg #[.int .i64 0,.int .i64 0,.int .i64 0,.slice none 0 0]:Value),_,[(0,3),(3,1)],by kernel_rfl,by kernel_rfl,Tryz.underlying46,by kernel_rfl,fun i f h=>match i,f,h with
 |0,f,h=>by cases h;rfl
 |1,f,h=>by cases h;rfl
 |(_+2),f,h=>by simp[fk] at h,fun F=>bq (by kernel_rfl) (ku F)⟩⟩
theorem ZT46k:ZT Tryz.prog 46 cy (⟨(⟨(0:Int),(0:Int),(0:Int)⟩:aa),(.slice none 0 0)⟩:bg):=⟨(.agg #[.int .i64 0,.int .i64 0,.int .i64 0,.slice none 0 0]:Value),by kernel_rfl,fun F=>aB (by kernel_rfl) (ku F)⟩
theorem sz46k1:(Tryz.prog.info? 46).map (·.size)=some (Kd.n cy):=by kernel_rfl
theorem xT:fldB Tryz.prog 46 0=some (0,2+1):=by kernel_rfl
theorem mi:UpF fk 0 ⟨bi,bg.Header⟩ (fun x y=>{x with Header:=y}):=⟨rfl,fun _ _=>rfl,fun _ _=>(by intro q hq;simp only[List.mem_cons,List.not_mem_nil,or_false] at hq;rcases hq with rfl<;>rfl)⟩
theorem s4:fldB Tryz.prog 46 1=some (3,0+1):=by kernel_rfl
theorem gg:UpF fk 1 ⟨kRaw,bg.Cells⟩ (fun x y=>{x with Cells:=y}):=⟨rfl,fun _ _=>rfl,fun _ _=>⟨rfl,(fun q hq=>by simp at hq)⟩⟩
abbrev str2:ByteArray:=⟨#[67,72,82,78,1,2,0,0,0,0,0,0,0,0,0,7,0,0,0,0,0,0,0,1,26,196,1,55]⟩
theorem wY:rdOf (.raw (.string str2)) kStr [67,72,82,78,1,2,0,0,0,0,0,0,0,0,0,7,0,0,0,0,0,0,0,1,26,196,1,55]:=rdS (by kernel_rfl)
theorem fb96k:fldB Tryz.prog 96 0=some (offF ef 0,10+1):=by kernel_rfl
theorem fb96k1:fldB Tryz.prog 96 1=some (offF ef 1,5+1):=by kernel_rfl
theorem fb96k2:fldB Tryz.prog 96 2=some (offF ef 2,0+1):=by kernel_rfl
theorem eqk2:EqK Tryz.prog 2 (kInt .i64) 1:=EqK.int Tryz.underlying2
theorem eqk3:EqK Tryz.prog 3 (kInt .i64) 1:=EqK.int Tryz.underlying3
instance beq_Api_Header:BEq aa:=⟨fun a b=>a.Round==b.Round&&(a.Epoch==b.Epoch&&(a.Left==b.Left&&(true)))⟩
theorem eqk43:EqK Tryz.prog 43 (bi) 2:=EqK.st Tryz.underlying43 (by kernel_rfl) ⟨by decide,rfl,kt2,_,EqK.up eqk2 rfl,_,fun _ _=>rfl,⟨by decide,rfl,kt2,_,EqK.up eqk2 rfl,_,fun _ _=>rfl,⟨by decide,rfl,kt3,_,EqK.up eqk3 rfl,_,fun _ _=>rfl,fun _ _=>rfl⟩⟩⟩
theorem eqg43:Tryz.prog.eqGuardType Tryz.prog.depth 43=false:=by kernel_rfl
theorem yq {P:Program} {ops:Array Oper} {rest:List Oper} {Q:Exit→Act→World→Prop} {F0:Fz} {n:Nat} {E:List (Nat×SV)} {L:List Res} {o0 o1 o2 o3 o4 o5 o6 o7 o8 o9:Oper} (d:Nat) (e:Bool) (k:Under F0 n ((d,.raw (.bool e))::E) L (wpList P ops Q rest)) (h:Under F0 n ((d,.raw (.bool e))::E) L (wpList P ops Q rest)→Under F0 n E L (wpList P ops Q (o0::o1::o2::o3::o4::o5::o6::o7::o8::o9::rest))):Under F0 n E L (wpList P ops Q (o0::o1::o2::o3::o4::o5::o6::o7::o8::o9::rest)):=h k
theorem vN {P:Program} {ops:Array Oper} {rest:List Oper} {C:World→Prop} {Qa:Act→Prop} {F0:Fz} {n:Nat} {E:List (Nat×SV)} {o0 o1 o2 o3 o4 o5 o6 o7 o8 o9:Oper} (d:Nat) (e:Bool) (k:aE F0 n ((d,.raw (.bool e))::E) (wpQuiet P ops C Qa rest)) (h:aE F0 n ((d,.raw (.bool e))::E) (wpQuiet P ops C Qa rest)→aE F0 n E (wpQuiet P ops C Qa (o0::o1::o2::o3::o4::o5::o6::o7::o8::o9::rest))):aE F0 n E (wpQuiet P ops C Qa (o0::o1::o2::o3::o4::o5::o6::o7::o8::o9::rest)):=h k
theorem sz4:(Tryz.prog.info? 4).map (·.size)=some (Kd.n fw):=by kernel_rfl
theorem kt4:KT Tryz.prog 4 fw:=⟨by kernel_rfl,by kernel_rfl⟩
theorem rw5:RdW Tryz.prog 5 (kInt .u8) (gInt .u8) bOne:=tW Tryz.underlying5
theorem cof5:Tryz.prog.cellsOf 5=1:=by kernel_rfl
theorem rw22:RdW Tryz.prog 22 (kSl (kInt .u8)) (gSl (gInt .u8)) (bSl bOne):=wF (K:=kInt .u8) Tryz.underlying22 cof5 (by decide) rw5
theorem rw3:RdW Tryz.prog 3 (kInt .i64) (gInt .i64) bOne:=tW Tryz.underlying3
theorem cof22:Tryz.prog.cellsOf 22=1:=by kernel_rfl
theorem cof3:Tryz.prog.cellsOf 3=1:=by kernel_rfl
theorem cof24:Tryz.prog.cellsOf 24=11:=by kernel_rfl
def mj (x:aA):Prop:=(gSl (gInt .u8)) x.Master∧(gInt .i64) x.Left∧(gInt .i64) x.Span∧(gInt .i64) x.Room∧(gInt .i64) x.Num∧(gInt .i64) x.Den∧(gInt .i64) x.Noise∧(gInt .i64) x.Chunks∧(gInt .i64) x.Workers∧(gInt .i64) x.Cap∧(gInt .i64) x.Shards∧True
def iK (x:aA):Nat:=(bSl bOne) x.Master+(bOne x.Left+(bOne x.Span+(bOne x.Room+(bOne x.Num+(bOne x.Den+(bOne x.Noise+(bOne x.Chunks+(bOne x.Workers+(bOne x.Cap+(bOne x.Shards+0))))))))))
theorem rw24:RdW Tryz.prog 24 aH mj iK:=by
 intro H enc W _ B BA hB fuel cs x h
 obtain⟨hl,ds,hx,hf0⟩:=nZ Tryz.underlying24 h
 obtain⟨d0,ds0,e0,⟨n0,p0,t0⟩,hf1⟩:=FsRd.cons hf0
 subst e0
 obtain⟨y0,r0,g0,b0⟩:=rw22 hB t0
 obtain⟨d1,ds1,e1,⟨n1,p1,t1⟩,hf2⟩:=FsRd.cons hf1
 subst e1
 obtain⟨y1,r1,g1,b1⟩:=rw3 hB t1
 obtain⟨d2,ds2,e2,⟨n2,p2,t2⟩,hf3⟩:=FsRd.cons hf2
 subst e2
 obtain⟨y2,r2,g2,b2⟩:=rw3 hB t2
 obtain⟨d3,ds3,e3,⟨n3,p3,t3⟩,hf4⟩:=FsRd.cons hf3
 subst e3
 obtain⟨y3,r3,g3,b3⟩:=rw3 hB t3
 obtain⟨d4,ds4,e4,⟨n4,p4,t4⟩,hf5⟩:=FsRd.cons hf4
 subst e4
 obtain⟨y4,r4,g4,b4⟩:=rw3 hB t4
 obtain⟨d5,ds5,e5,⟨n5,p5,t5⟩,hf6⟩:=FsRd.cons hf5
 subst e5
 obtain⟨y5,r5,g5,b5⟩:=rw3 hB t5
 obtain⟨d6,ds6,e6,⟨n6,p6,t6⟩,hf7⟩:=FsRd.cons hf6
 subst e6
 obtain⟨y6,r6,g6,b6⟩:=rw3 hB t6
 obtain⟨d7,ds7,e7,⟨n7,p7,t7⟩,hf8⟩:=FsRd.cons hf7
 subst e7
 obtain⟨y7,r7,g7,b7⟩:=rw3 hB t7
 obtain⟨d8,ds8,e8,⟨n8,p8,t8⟩,hf9⟩:=FsRd.cons hf8
 subst e8
 obtain⟨y8,r8,g8,b8⟩:=rw3 hB t8
 obtain⟨d9,ds9,e9,⟨n9,p9,t9⟩,hf10⟩:=FsRd.cons hf9
 subst e9
 obtain⟨y9,r9,g9,b9⟩:=rw3 hB t9
 obtain⟨d10,ds10,e10,⟨n10,p10,t10⟩,hf11⟩:=FsRd.cons hf10
 subst e10
 obtain⟨y10,r10,g10,b10⟩:=rw3 hB t10
 have hnil:=FsRd.nil hf11
 subst hnil
 refine⟨⟨y0,y1,y2,y3,y4,y5,y6,y7,y8,y9,y10⟩,lB (cz cof22 r0 (cz cof3 r1 (cz cof3 r2 (cz cof3 r3 (cz cof3 r4 (cz cof3 r5 (cz cof3 r6 (cz cof3 r7 (cz cof3 r8 (cz cof3 r9 (cz cof3 r10 (oa (hl.trans cof24) rfl)))))))))))),⟨g0,g1,g2,g3,g4,g5,g6,g7,g8,g9,g10,trivial⟩,?_⟩
 have:=hB.agg [d0,d1,d2,d3,d4,d5,d6,d7,d8,d9,d10]
 rw[hx]
 dsimp only at b0 b1 b2 b3 b4 b5 b6 b7 b8 b9 b10
 simp only[hB.cons,hB.nil] at this
 simp only[iK];omega
theorem rw2:RdW Tryz.prog 2 (kInt .i64) (gInt .i64) bOne:=tW Tryz.underlying2
theorem cof2:Tryz.prog.cellsOf 2=1:=by kernel_rfl
theorem cof43:Tryz.prog.cellsOf 43=3:=by kernel_rfl
def mm (x:aa):Prop:=(gInt .i64) x.Round∧(gInt .i64) x.Epoch∧(gInt .i64) x.Left∧True
def jU (x:aa):Nat:=bOne x.Round+(bOne x.Epoch+(bOne x.Left+0))
theorem rw43:RdW Tryz.prog 43 bi mm jU:=by
 intro H enc W _ B BA hB fuel cs x h
 obtain⟨hl,ds,hx,hf0⟩:=nZ Tryz.underlying43 h
 obtain⟨d0,ds0,e0,⟨n0,p0,t0⟩,hf1⟩:=FsRd.cons hf0
 subst e0
 obtain⟨y0,r0,g0,b0⟩:=rw2 hB t0
 obtain⟨d1,ds1,e1,⟨n1,p1,t1⟩,hf2⟩:=FsRd.cons hf1
 subst e1
 obtain⟨y1,r1,g1,b1⟩:=rw2 hB t1
 obtain⟨d2,ds2,e2,⟨n2,p2,t2⟩,hf3⟩:=FsRd.cons hf2
 subst e2
 obtain⟨y2,r2,g2,b2⟩:=rw3 hB t2
 have hnil:=FsRd.nil hf3
 subst hnil
 refine⟨⟨y0,y1,y2⟩,lB (cz cof2 r0 (cz cof2 r1 (cz cof3 r2 (oa (hl.trans cof43) rfl)))),⟨g0,g1,g2,trivial⟩,?_⟩
 have:=hB.agg [d0,d1,d2]
 rw[hx]
 dsimp only at b0 b1 b2
 simp only[hB.cons,hB.nil] at this
 simp only[jU];omega
theorem rw68:RdW Tryz.prog 68 (kSl (kInt .i64)) (gSl (gInt .i64)) (bSl bOne):=wF (K:=kInt .i64) Tryz.underlying68 cof3 (by decide) rw3
theorem cof64:Tryz.prog.cellsOf 64=16:=by kernel_rfl
theorem rw64:RdW Tryz.prog 64 (kArr 16 (kInt .u8)) (gArr 16 (gInt .u8)) (bArr bOne):=yb (K:=kInt .u8) Tryz.underlying64 cof64 cof5 rw5
theorem rw85:RdW Tryz.prog 85 (kSl (kArr 16 (kInt .u8))) (gSl (gArr 16 (gInt .u8))) (bSl (bArr bOne)):=wF (K:=kArr 16 (kInt .u8)) Tryz.underlying85 cof64 (by decide) rw64
theorem cof68:Tryz.prog.cellsOf 68=1:=by kernel_rfl
theorem cof85:Tryz.prog.cellsOf 85=1:=by kernel_rfl
theorem cof87:Tryz.prog.cellsOf 87=6:=by kernel_rfl
def mn (x:aI):Prop:=mm x.Header∧(gInt .i64) x.Count∧(gSl (gInt .i64)) x.From∧(gSl (gArr 16 (gInt .u8))) x.Nonces∧True
def iL (x:aI):Nat:=jU x.Header+(bOne x.Count+((bSl bOne) x.From+((bSl (bArr bOne)) x.Nonces+0)))
theorem rw87:RdW Tryz.prog 87 aQ mn iL:=by
 intro H enc W _ B BA hB fuel cs x h
 obtain⟨hl,ds,hx,hf0⟩:=nZ Tryz.underlying87 h
 obtain⟨d0,ds0,e0,⟨n0,p0,t0⟩,hf1⟩:=FsRd.cons hf0
 subst e0
 obtain⟨y0,r0,g0,b0⟩:=rw43 hB t0
 obtain⟨d1,ds1,e1,⟨n1,p1,t1⟩,hf2⟩:=FsRd.cons hf1
 subst e1
 obtain⟨y1,r1,g1,b1⟩:=rw3 hB t1
 obtain⟨d2,ds2,e2,⟨n2,p2,t2⟩,hf3⟩:=FsRd.cons hf2
 subst e2
 obtain⟨y2,r2,g2,b2⟩:=rw68 hB t2
 obtain⟨d3,ds3,e3,⟨n3,p3,t3⟩,hf4⟩:=FsRd.cons hf3
 subst e3
 obtain⟨y3,r3,g3,b3⟩:=rw85 hB t3
 have hnil:=FsRd.nil hf4
 subst hnil
 refine⟨⟨y0,y1,y2,y3⟩,lB (cz cof43 r0 (cz cof3 r1 (cz cof68 r2 (cz cof85 r3 (oa (hl.trans cof87) rfl))))),⟨g0,g1,g2,g3,trivial⟩,?_⟩
 have:=hB.agg [d0,d1,d2,d3]
 rw[hx]
 dsimp only at b0 b1 b2 b3
 simp only[hB.cons,hB.nil] at this
 simp only[iL];omega
theorem cof96:Tryz.prog.cellsOf 96=18:=by kernel_rfl
def fI (x:bL):Prop:=mj x.C∧mn x.M∧(gSl (gInt .u8)) x.Raw∧True
def dv (x:bL):Nat:=iK x.C+(iL x.M+((bSl bOne) x.Raw+0))
theorem rw96:RdW Tryz.prog 96 cL fI dv:=by
 intro H enc W _ B BA hB fuel cs x h
 obtain⟨hl,ds,hx,hf0⟩:=nZ Tryz.underlying96 h
 obtain⟨d0,ds0,e0,⟨n0,p0,t0⟩,hf1⟩:=FsRd.cons hf0
 subst e0
 obtain⟨y0,r0,g0,b0⟩:=rw24 hB t0
 obtain⟨d1,ds1,e1,⟨n1,p1,t1⟩,hf2⟩:=FsRd.cons hf1
 subst e1
 obtain⟨y1,r1,g1,b1⟩:=rw87 hB t1
 obtain⟨d2,ds2,e2,⟨n2,p2,t2⟩,hf3⟩:=FsRd.cons hf2
 subst e2
 obtain⟨y2,r2,g2,b2⟩:=rw22 hB t2
 have hnil:=FsRd.nil hf3
 subst hnil
 refine⟨⟨y0,y1,y2⟩,lB (cz cof24 r0 (cz cof87 r1 (cz cof22 r2 (oa (hl.trans cof96) rfl)))),⟨g0,g1,g2,trivial⟩,?_⟩
 have:=hB.agg [d0,d1,d2]
 rw[hx]
 dsimp only at b0 b1 b2
 simp only[hB.cons,hB.nil] at this
 simp only[dv];omega
theorem kt96:KT Tryz.prog 96 cL:=⟨by kernel_rfl,by kernel_rfl⟩
abbrev K0:=(kSl (kArr 16 (kInt .u8)))
abbrev K1:=(kSl (kSl (kInt .u8)))
abbrev K2:=(kArr 16 (kInt .u8))
abbrev K3:=(kArr 8 (kInt .u32))
abbrev K4:=(kArr 32 (kInt .u8))
abbrev K5:=(kArr 4 (kInt .u8))
abbrev K6:=(kSl (kInt .i64))
abbrev K7:=(kSl (kInt .u8))
abbrev K8:=(kInt .i64)
abbrev K9:=(kInt .u32)
abbrev K10:=(kInt .u8)
end Go.Proofs.YtobbmodjdkcdcaaGreatDoor

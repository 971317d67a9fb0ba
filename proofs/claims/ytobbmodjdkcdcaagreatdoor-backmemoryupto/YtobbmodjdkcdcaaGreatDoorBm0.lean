import Derived.Test.YtobbmodjdkcdcaaGreatDoorSimD
import Derived.Test.YtobbmodjdkcdcaaGreatDoorRows
import Derived.Test.YtobbmodjdkcdcaaGreatDoorLawSrt
set_option linter.unusedVariables false
set_option linter.unusedSimpArgs false
set_option maxRecDepth 20000
namespace Go.Proofs.YtobbmodjdkcdcaaGreatDoor
open Go Go.Sim Go.ChangeShapes Go.WideShapes Go.ChangeAt Go.RowKit
set_option linter.unusedSectionVars false
variable [Fu]
structure af where
 Number:Int
 Tags:List (List Int)
abbrev fF:List (Fld af):=[⟨kInt .i64,af.Number⟩,⟨kSl (kArr 16 (kInt .u8)),af.Tags⟩]
abbrev aA:Kd af:=kSt fF
structure aa where
 Newest:Int
 Epochs:List af
abbrev di:List (Fld aa):=[⟨kInt .i64,aa.Newest⟩,⟨kSl aA,aa.Epochs⟩]
abbrev ah:Kd aa:=kSt di
structure aP where
 Noise:List Int
 Braid:List Int
 Chunks:List (List Int)
abbrev f8:List (Fld aP):=[⟨kSl (kInt .u8),aP.Noise⟩,⟨kSl (kInt .u8),aP.Braid⟩,⟨kSl (kSl (kInt .u8)),aP.Chunks⟩]
abbrev dW:Kd aP:=kSt f8
structure ab where
 Round:Int
 Epoch:Int
 Left:Int
abbrev ef:List (Fld ab):=[⟨kInt .i64,ab.Round⟩,⟨kInt .i64,ab.Epoch⟩,⟨kInt .i64,ab.Left⟩]
abbrev bv:Kd ab:=kSt ef
structure aN where
 Header:ab
 Count:Int
 From:List Int
 Nonces:List (List Int)
abbrev eX:List (Fld aN):=[⟨bv,aN.Header⟩,⟨kInt .i64,aN.Count⟩,⟨kSl (kInt .i64),aN.From⟩,⟨kSl (kArr 16 (kInt .u8)),aN.Nonces⟩]
abbrev aI:Kd aN:=kSt eX
structure aE where
 Header:ab
 Cells:List (List Int)
abbrev iI:List (Fld aE):=[⟨bv,aE.Header⟩,⟨kSl (kSl (kInt .u8)),aE.Cells⟩]
abbrev ba:Kd aE:=kSt iI
structure am where
 Master:List Int
 Left:Int
 Span:Int
 Room:Int
 Num:Int
 Den:Int
 Noise:Int
 Chunks:Int
 Workers:Int
 Cap:Int
 Shards:Int
abbrev cu:List (Fld am):=[⟨kSl (kInt .u8),am.Master⟩,⟨kInt .i64,am.Left⟩,⟨kInt .i64,am.Span⟩,⟨kInt .i64,am.Room⟩,⟨kInt .i64,am.Num⟩,⟨kInt .i64,am.Den⟩,⟨kInt .i64,am.Noise⟩,⟨kInt .i64,am.Chunks⟩,⟨kInt .i64,am.Workers⟩,⟨kInt .i64,am.Cap⟩,⟨kInt .i64,am.Shards⟩]
abbrev aO:Kd am:=kSt cu
structure aq where
 Next:Int
 Window:aa
abbrev f9:List (Fld aq):=[⟨kInt .i64,aq.Next⟩,⟨ah,aq.Window⟩]
abbrev bc:Kd aq:=kSt f9
structure cd where
 C:am
 S:aq
 Raw:List Int
 Tape:List Int
abbrev fq:List (Fld cd):=[⟨aO,cd.C⟩,⟨bc,cd.S⟩,⟨kSl (kInt .u8),cd.Raw⟩,⟨kSl (kInt .u8),cd.Tape⟩]
abbrev dX:Kd cd:=kSt fq
structure ai where
 In:Int
 Malformed:Int
 Replays:Int
 Noise:Int
 Out:Int
abbrev eY:List (Fld ai):=[⟨kInt .i64,ai.In⟩,⟨kInt .i64,ai.Malformed⟩,⟨kInt .i64,ai.Replays⟩,⟨kInt .i64,ai.Noise⟩,⟨kInt .i64,ai.Out⟩]
abbrev bU:Kd ai:=kSt eY
structure aG where
 Out:List Int
 State:aq
 Report:ai
 Err:Int
 At:Int
abbrev ek:List (Fld aG):=[⟨kSl (kInt .u8),aG.Out⟩,⟨bc,aG.State⟩,⟨bU,aG.Report⟩,⟨kInt .i64,aG.Err⟩,⟨kInt .i64,aG.At⟩]
abbrev aH:Kd aG:=kSt ek
structure ao where
 a:Int
 b:Int
abbrev ga:List (Fld ao):=[⟨kInt .u32,ao.a⟩,⟨kInt .u32,ao.b⟩]
abbrev cN:Kd ao:=kSt ga
structure aB where
 field:List Int
 at_:Int
 stage:Int
 left:Int
 header:ab
 sum:ao
 err:Int
 place:Int
abbrev wj:List (Fld aB):=[⟨kSl (kInt .u8),aB.field⟩,⟨kInt .i64,aB.at_⟩,⟨kInt .i64,aB.stage⟩,⟨kInt .i64,aB.left⟩,⟨bv,aB.header⟩,⟨cN,aB.sum⟩,⟨kInt .i64,aB.err⟩,⟨kInt .i64,aB.place⟩]
abbrev CY:Kd aB:=kSt wj
structure aj where
 field:Value
 at_:Int
 stage:Int
 left:Int
 header:ab
 sum:ao
 err:Int
 place:Int
abbrev cl:List (Fld aj):=[⟨kRaw,aj.field⟩,⟨kInt .i64,aj.at_⟩,⟨kInt .i64,aj.stage⟩,⟨kInt .i64,aj.left⟩,⟨bv,aj.header⟩,⟨cN,aj.sum⟩,⟨kInt .i64,aj.err⟩,⟨kInt .i64,aj.place⟩]
abbrev aZ:Kd aj:=kSt cl
structure aC where
 Newest:Int
 Epochs:Value
abbrev dY:List (Fld aC):=[⟨kInt .i64,aC.Newest⟩,⟨kRaw,aC.Epochs⟩]
abbrev bi:Kd aC:=kSt dY
structure dP where
 Next:Int
 Window:aC
abbrev jj:List (Fld dP):=[⟨kInt .i64,dP.Next⟩,⟨bi,dP.Window⟩]
abbrev ro:Kd dP:=kSt jj
structure an where
 Cell:List Int
 Replay:List Int
abbrev gz:List (Fld an):=[⟨kSl (kInt .u8),an.Cell⟩,⟨kArr 16 (kInt .u8),an.Replay⟩]
abbrev aT:Kd an:=kSt gz
structure av where
 words:List Int
 tail:List Int
 n:Int
abbrev gb:List (Fld av):=[⟨kArr 8 (kInt .u32),av.words⟩,⟨kArr 64 (kInt .u8),av.tail⟩,⟨kInt .u64,av.n⟩]
abbrev bw:Kd av:=kSt gb
structure aW where
 Box:List Int
 Mac:List Int
 Replay:List Int
abbrev eT:List (Fld aW):=[⟨kArr 16 (kInt .u8),aW.Box⟩,⟨kArr 32 (kInt .u8),aW.Mac⟩,⟨kArr 32 (kInt .u8),aW.Replay⟩]
abbrev ey:Kd aW:=kSt eT
structure aL where
 keys:List (List Int)
abbrev jk:List (Fld aL):=[⟨kArr 11 (kArr 16 (kInt .u8)),aL.keys⟩]
abbrev az:Kd aL:=kSt jk
structure bV where
 Noise:List Int
 Braid:List Int
 Chunks:Value
abbrev iT:List (Fld bV):=[⟨kSl (kInt .u8),bV.Noise⟩,⟨kSl (kInt .u8),bV.Braid⟩,⟨kRaw,bV.Chunks⟩]
abbrev fg:Kd bV:=kSt iT
structure bp where
 parts:aP
 sizes:List Int
 starts:List Int
abbrev eg:List (Fld bp):=[⟨dW,bp.parts⟩,⟨kSl (kInt .i64),bp.sizes⟩,⟨kSl (kInt .i64),bp.starts⟩]
abbrev gd:Kd bp:=kSt eg
structure be where
 parts:aP
 sizes:List Int
 starts:Value
abbrev eU:List (Fld be):=[⟨dW,be.parts⟩,⟨kSl (kInt .i64),be.sizes⟩,⟨kRaw,be.starts⟩]
abbrev ge:Kd be:=kSt eU
structure aJ where
 bytes:List Int
 used:Int
abbrev jB:List (Fld aJ):=[⟨kStr,aJ.bytes⟩,⟨kInt .i64,aJ.used⟩]
abbrev bP:Kd aJ:=kSt jB
structure au where
 Number:Int
 Tags:Value
abbrev gf:List (Fld au):=[⟨kInt .i64,au.Number⟩,⟨kRaw,au.Tags⟩]
abbrev aF:Kd au:=kSt gf
structure aQ where
 Header:ab
 Count:Int
 From:Value
 Nonces:Value
abbrev dU:List (Fld aQ):=[⟨bv,aQ.Header⟩,⟨kInt .i64,aQ.Count⟩,⟨kRaw,aQ.From⟩,⟨kRaw,aQ.Nonces⟩]
abbrev cp:Kd aQ:=kSt dU
structure fh where
 Header:ab
 Count:Int
 From:List Int
 Nonces:Value
abbrev lN:List (Fld fh):=[⟨bv,fh.Header⟩,⟨kInt .i64,fh.Count⟩,⟨kSl (kInt .i64),fh.From⟩,⟨kRaw,fh.Nonces⟩]
abbrev B9:Kd fh:=kSt lN
structure bo where
 Header:ab
 Cells:Value
abbrev gg:List (Fld bo):=[⟨bv,bo.Header⟩,⟨kRaw,bo.Cells⟩]
abbrev cX:Kd bo:=kSt gg
theorem nr (F:Fz):Kd.rd aO F ([.slice none 0 0]++[.int .i64 0]++[.int .i64 0]++[.int .i64 0]++[.int .i64 0]++[.int .i64 0]++[.int .i64 0]++[.int .i64 0]++[.int .i64 0]++[.int .i64 0]++[.int .i64 0]++[]) (⟨[],(0:Int),(0:Int),(0:Int),(0:Int),(0:Int),(0:Int),(0:Int),(0:Int),(0:Int),(0:Int)⟩:am):=⟨[.slice none 0 0],_,rfl,⟨none,0,rfl,Nat.le_refl _,.inl rfl⟩,⟨[.int .i64 0],_,rfl,rfl,⟨[.int .i64 0],_,rfl,rfl,⟨[.int .i64 0],_,rfl,rfl,⟨[.int .i64 0],_,rfl,rfl,⟨[.int .i64 0],_,rfl,rfl,⟨[.int .i64 0],_,rfl,rfl,⟨[.int .i64 0],_,rfl,rfl,⟨[.int .i64 0],_,rfl,rfl,⟨[.int .i64 0],_,rfl,rfl,⟨[.int .i64 0],_,rfl,rfl,rfl⟩⟩⟩⟩⟩⟩⟩⟩⟩⟩⟩
theorem ZT24:ZT Tryz.prog 24 aO (⟨[],(0:Int),(0:Int),(0:Int),(0:Int),(0:Int),(0:Int),(0:Int),(0:Int),(0:Int),(0:Int)⟩:am):=⟨(.agg (List.replicate 1 (.slice none 0 0:Value)++List.replicate 10 (.int .i64 0:Value)).toArray:Value),by kernel_rfl,fun F=>aD (by kernel_rfl) (nr F)⟩
theorem vh (F:Fz):Kd.rd (kInt .u8) F [.int .u8 0] (0:Int):=rfl
theorem AT5:AT Tryz.prog 5 (kInt .u8) (0:Int) 1:=⟨⟨Tryz.t5,(.int .u8 0:Value),by kernel_rfl,by kernel_rfl,by kernel_rfl,by kernel_rfl,by decide,by decide,fun F=>aD (by kernel_rfl) (vh F)⟩⟩
theorem BT24:BT Tryz.prog 24 cu (⟨[],(0:Int),(0:Int),(0:Int),(0:Int),(0:Int),(0:Int),(0:Int),(0:Int),(0:Int),(0:Int)⟩:am):=⟨⟨Tryz.t24,(.agg (List.replicate 1 (.slice none 0 0:Value)++List.replicate 10 (.int .i64 0:Value)).toArray:Value),_,[(0,1),(1,1),(2,1),(3,1),(4,1),(5,1),(6,1),(7,1),(8,1),(9,1),(10,1)],by kernel_rfl,by kernel_rfl,Tryz.underlying24,by kernel_rfl,fun i f h=>match i,f,h with
 |0,f,h=>by cases h;rfl
 |1,f,h=>by cases h;rfl
 |2,f,h=>by cases h;rfl
 |3,f,h=>by cases h;rfl
 |4,f,h=>by cases h;rfl
 |5,f,h=>by cases h;rfl
 |6,f,h=>by cases h;rfl
 |7,f,h=>by cases h;rfl
 |8,f,h=>by cases h;rfl
 |9,f,h=>by cases h;rfl
 |10,f,h=>by cases h;rfl
 |(_+11),f,h=>by simp[cu] at h,fun F=>bu (by kernel_rfl) (nr F)⟩⟩
theorem sz24k:(Tryz.prog.info? 24).map (·.size)=some (Kd.n aO):=by kernel_rfl
theorem kt24:KT Tryz.prog 24 aO:=⟨by kernel_rfl,by kernel_rfl⟩
theorem pw (F:Fz):Kd.rd bc F ([.int .i64 0]++([.int .i64 0]++[.slice none 0 0]++[])++[]) (⟨(0:Int),(⟨(0:Int),[]⟩:aa)⟩:aq):=⟨[.int .i64 0],_,rfl,rfl,⟨([.int .i64 0]++[.slice none 0 0]++[]),_,rfl,⟨[.int .i64 0],_,rfl,rfl,⟨[.slice none 0 0],_,rfl,⟨none,0,rfl,Nat.le_refl _,.inl rfl⟩,rfl⟩⟩,rfl⟩⟩
theorem BT29:BT Tryz.prog 29 f9 (⟨(0:Int),(⟨(0:Int),[]⟩:aa)⟩:aq):=⟨⟨Tryz.t29,(.agg #[.int .i64 0,.int .i64 0,.slice none 0 0]:Value),_,[(0,1),(1,2)],by kernel_rfl,by kernel_rfl,Tryz.underlying29,by kernel_rfl,fun i f h=>match i,f,h with
 |0,f,h=>by cases h;rfl
 |1,f,h=>by cases h;rfl
 |(_+2),f,h=>by simp[f9] at h,fun F=>bu (by kernel_rfl) (pw F)⟩⟩
theorem ET5:ET Tryz.prog 5 (kInt .u8) (0:Int):=⟨⟨Tryz.t5,(.int .u8 0:Value),by kernel_rfl,by kernel_rfl,by kernel_rfl,by decide,fun F=>aD (by kernel_rfl) (vh F)⟩⟩
theorem my (F:Fz):Kd.rd aH F ([.slice none 0 0]++([.int .i64 0]++([.int .i64 0]++[.slice none 0 0]++[])++[])++([.int .i64 0]++[.int .i64 0]++[.int .i64 0]++[.int .i64 0]++[.int .i64 0]++[])++[.int .i64 0]++[.int .i64 0]++[]) (⟨[],(⟨(0:Int),(⟨(0:Int),[]⟩:aa)⟩:aq),(⟨(0:Int),(0:Int),(0:Int),(0:Int),(0:Int)⟩:ai),(0:Int),(0:Int)⟩:aG):=⟨[.slice none 0 0],_,rfl,⟨none,0,rfl,Nat.le_refl _,.inl rfl⟩,⟨([.int .i64 0]++([.int .i64 0]++[.slice none 0 0]++[])++[]),_,rfl,⟨[.int .i64 0],_,rfl,rfl,⟨([.int .i64 0]++[.slice none 0 0]++[]),_,rfl,⟨[.int .i64 0],_,rfl,rfl,⟨[.slice none 0 0],_,rfl,⟨none,0,rfl,Nat.le_refl _,.inl rfl⟩,rfl⟩⟩,rfl⟩⟩,⟨([.int .i64 0]++[.int .i64 0]++[.int .i64 0]++[.int .i64 0]++[.int .i64 0]++[]),_,rfl,⟨[.int .i64 0],_,rfl,rfl,⟨[.int .i64 0],_,rfl,rfl,⟨[.int .i64 0],_,rfl,rfl,⟨[.int .i64 0],_,rfl,rfl,⟨[.int .i64 0],_,rfl,rfl,rfl⟩⟩⟩⟩⟩,⟨[.int .i64 0],_,rfl,rfl,⟨[.int .i64 0],_,rfl,rfl,rfl⟩⟩⟩⟩⟩
theorem ZT37:ZT Tryz.prog 37 aH (⟨[],(⟨(0:Int),(⟨(0:Int),[]⟩:aa)⟩:aq),(⟨(0:Int),(0:Int),(0:Int),(0:Int),(0:Int)⟩:ai),(0:Int),(0:Int)⟩:aG):=⟨(.agg (List.replicate 1 (.slice none 0 0:Value)++List.replicate 2 (.int .i64 0:Value)++List.replicate 1 (.slice none 0 0:Value)++List.replicate 7 (.int .i64 0:Value)).toArray:Value),by kernel_rfl,fun F=>aD (by kernel_rfl) (my F)⟩
theorem nu (F:Fz):Kd.rd aI F (([.int .i64 0]++[.int .i64 0]++[.int .i64 0]++[])++[.int .i64 0]++[.slice none 0 0]++[.slice none 0 0]++[]) (⟨(⟨(0:Int),(0:Int),(0:Int)⟩:ab),(0:Int),[],[]⟩:aN):=⟨([.int .i64 0]++[.int .i64 0]++[.int .i64 0]++[]),_,rfl,⟨[.int .i64 0],_,rfl,rfl,⟨[.int .i64 0],_,rfl,rfl,⟨[.int .i64 0],_,rfl,rfl,rfl⟩⟩⟩,⟨[.int .i64 0],_,rfl,rfl,⟨[.slice none 0 0],_,rfl,⟨none,0,rfl,Nat.le_refl _,.inl rfl⟩,⟨[.slice none 0 0],_,rfl,⟨none,0,rfl,Nat.le_refl _,.inl rfl⟩,rfl⟩⟩⟩⟩
theorem ZT87:ZT Tryz.prog 87 aI (⟨(⟨(0:Int),(0:Int),(0:Int)⟩:ab),(0:Int),[],[]⟩:aN):=⟨(.agg #[.int .i64 0,.int .i64 0,.int .i64 0,.int .i64 0,.slice none 0 0,.slice none 0 0]:Value),by kernel_rfl,fun F=>aD (by kernel_rfl) (nu F)⟩
theorem kt29:KT Tryz.prog 29 bc:=⟨by kernel_rfl,by kernel_rfl⟩
theorem px (F:Fz):Kd.rd ba F (([.int .i64 0]++[.int .i64 0]++[.int .i64 0]++[])++[.slice none 0 0]++[]) (⟨(⟨(0:Int),(0:Int),(0:Int)⟩:ab),[]⟩:aE):=⟨([.int .i64 0]++[.int .i64 0]++[.int .i64 0]++[]),_,rfl,⟨[.int .i64 0],_,rfl,rfl,⟨[.int .i64 0],_,rfl,rfl,⟨[.int .i64 0],_,rfl,rfl,rfl⟩⟩⟩,⟨[.slice none 0 0],_,rfl,⟨none,0,rfl,Nat.le_refl _,.inl rfl⟩,rfl⟩⟩
theorem ZT46:ZT Tryz.prog 46 ba (⟨(⟨(0:Int),(0:Int),(0:Int)⟩:ab),[]⟩:aE):=⟨(.agg #[.int .i64 0,.int .i64 0,.int .i64 0,.slice none 0 0]:Value),by kernel_rfl,fun F=>aD (by kernel_rfl) (px F)⟩
theorem nv (F:Fz):Kd.rd ah F ([.int .i64 0]++[.slice none 0 0]++[]) (⟨(0:Int),[]⟩:aa):=⟨[.int .i64 0],_,rfl,rfl,⟨[.slice none 0 0],_,rfl,⟨none,0,rfl,Nat.le_refl _,.inl rfl⟩,rfl⟩⟩
theorem ZT27:ZT Tryz.prog 27 ah (⟨(0:Int),[]⟩:aa):=⟨(.agg #[.int .i64 0,.slice none 0 0]:Value),by kernel_rfl,fun F=>aD (by kernel_rfl) (nv F)⟩
theorem fb24k:fldB Tryz.prog 24 0=some (offF cu 0,0+1):=by kernel_rfl
theorem kt22:KT Tryz.prog 22 (kSl (kInt .u8)):=⟨by kernel_rfl,by kernel_rfl⟩
theorem fb24k1:fldB Tryz.prog 24 1=some (offF cu 1,0+1):=by kernel_rfl
theorem kt3:KT Tryz.prog 3 (kInt .i64):=⟨by kernel_rfl,by kernel_rfl⟩
theorem cO {P:Program} {ops:Array Oper} {rest:List Oper} {Q:Exit→Act→World→Prop} {F0:Fz} {n:Nat} {E:List (Nat×SV)} {L:List Res} {o0 o1 o2 o3:Oper} (d:Nat) (e:Bool) (k:Under F0 n ((d,.raw (.bool e))::E) L (wpList P ops Q rest)) (h:Under F0 n ((d,.raw (.bool e))::E) L (wpList P ops Q rest)→Under F0 n E L (wpList P ops Q (o0::o1::o2::o3::rest))):Under F0 n E L (wpList P ops Q (o0::o1::o2::o3::rest)):=h k
theorem Dp {P:Program} {ops:Array Oper} {rest:List Oper} {C:World→Prop} {Qa:Act→Prop} {F0:Fz} {n:Nat} {E:List (Nat×SV)} {o0 o1 o2 o3:Oper} (d:Nat) (e:Bool) (k:aM F0 n ((d,.raw (.bool e))::E) (wpQuiet P ops C Qa rest)) (h:aM F0 n ((d,.raw (.bool e))::E) (wpQuiet P ops C Qa rest)→aM F0 n E (wpQuiet P ops C Qa (o0::o1::o2::o3::rest))):aM F0 n E (wpQuiet P ops C Qa (o0::o1::o2::o3::rest)):=h k
theorem fb24k2:fldB Tryz.prog 24 2=some (offF cu 2,0+1):=by kernel_rfl
theorem fb24k3:fldB Tryz.prog 24 3=some (offF cu 3,0+1):=by kernel_rfl
theorem fb24k4:fldB Tryz.prog 24 5=some (offF cu 5,0+1):=by kernel_rfl
theorem fb24k5:fldB Tryz.prog 24 4=some (offF cu 4,0+1):=by kernel_rfl
theorem fb24k6:fldB Tryz.prog 24 6=some (offF cu 6,0+1):=by kernel_rfl
theorem fb24k7:fldB Tryz.prog 24 7=some (offF cu 7,0+1):=by kernel_rfl
theorem fb24k8:fldB Tryz.prog 24 8=some (offF cu 8,0+1):=by kernel_rfl
theorem fb24k9:fldB Tryz.prog 24 9=some (offF cu 9,0+1):=by kernel_rfl
theorem fb24k10:fldB Tryz.prog 24 10=some (offF cu 10,0+1):=by kernel_rfl
theorem iU {P:Program} {ops:Array Oper} {rest:List Oper} {Q:Exit→Act→World→Prop} {F0:Fz} {n:Nat} {E:List (Nat×SV)} {L:List Res} {o0 o1 o2 o3 o4 o5:Oper} (d:Nat) (e:Bool) (k:Under F0 n ((d,.raw (.bool e))::E) L (wpList P ops Q rest)) (h:Under F0 n ((d,.raw (.bool e))::E) L (wpList P ops Q rest)→Under F0 n E L (wpList P ops Q (o0::o1::o2::o3::o4::o5::rest))):Under F0 n E L (wpList P ops Q (o0::o1::o2::o3::o4::o5::rest)):=h k
theorem Dq {P:Program} {ops:Array Oper} {rest:List Oper} {C:World→Prop} {Qa:Act→Prop} {F0:Fz} {n:Nat} {E:List (Nat×SV)} {o0 o1 o2 o3 o4 o5:Oper} (d:Nat) (e:Bool) (k:aM F0 n ((d,.raw (.bool e))::E) (wpQuiet P ops C Qa rest)) (h:aM F0 n ((d,.raw (.bool e))::E) (wpQuiet P ops C Qa rest)→aM F0 n E (wpQuiet P ops C Qa (o0::o1::o2::o3::o4::o5::rest))):aM F0 n E (wpQuiet P ops C Qa (o0::o1::o2::o3::o4::o5::rest)):=h k
theorem fb29k:fldB Tryz.prog 29 0=some (offF f9 0,0+1):=by kernel_rfl
theorem kt2:KT Tryz.prog 2 (kInt .i64):=⟨by kernel_rfl,by kernel_rfl⟩
theorem fb29k1:fldB Tryz.prog 29 1=some (offF f9 1,1+1):=by kernel_rfl
theorem kt27:KT Tryz.prog 27 ah:=⟨by kernel_rfl,by kernel_rfl⟩
theorem fb27k:fldB Tryz.prog 27 0=some (offF di 0,0+1):=by kernel_rfl
theorem fb27k1:fldB Tryz.prog 27 1=some (offF di 1,0+1):=by kernel_rfl
theorem kt25:KT Tryz.prog 25 (kSl aA):=⟨by kernel_rfl,by kernel_rfl⟩
theorem sz152:(Tryz.prog.info? 152).map (·.size)=some (Kd.n aA):=by kernel_rfl
theorem kt152:KT Tryz.prog 152 aA:=⟨by kernel_rfl,by kernel_rfl⟩
theorem jN (F:Fz):Kd.rd aA F ([.int .i64 0]++[.slice none 0 0]++[]) (⟨(0:Int),[]⟩:af):=⟨[.int .i64 0],_,rfl,rfl,⟨[.slice none 0 0],_,rfl,⟨none,0,rfl,Nat.le_refl _,.inl rfl⟩,rfl⟩⟩
theorem ZT152:ZT Tryz.prog 152 aA (⟨(0:Int),[]⟩:af):=⟨(.agg #[.int .i64 0,.slice none 0 0]:Value),by kernel_rfl,fun F=>aD (by kernel_rfl) (jN F)⟩
theorem sz152k:(Tryz.prog.info? 152).map (·.size)=some (Kd.n aA):=by kernel_rfl
theorem fb152k:fldB Tryz.prog 152 1=some (offF fF 1,0+1):=by kernel_rfl
theorem kt85:KT Tryz.prog 85 (kSl (kArr 16 (kInt .u8))):=⟨by kernel_rfl,by kernel_rfl⟩
theorem sz64:(Tryz.prog.info? 64).map (·.size)=some (Kd.n (kArr 16 (kInt .u8))):=by kernel_rfl
theorem kt64:KT Tryz.prog 64 (kArr 16 (kInt .u8)):=⟨by kernel_rfl,by kernel_rfl⟩
theorem eF (F:Fz):Kd.rd (kArr 16 (kInt .u8)) F ((List.replicate 16 [.int .u8 0]).flatten) (List.replicate 16 (0:Int)):=⟨by simp,cn (K:=kInt .u8) rfl 16⟩
theorem ZT64:ZT Tryz.prog 64 (kArr 16 (kInt .u8)) (List.replicate 16 (0:Int)):=⟨(.agg (List.replicate 16 (.int .u8 0:Value)).toArray:Value),by kernel_rfl,fun F=>aD (by kernel_rfl) (eF F)⟩
theorem sz64k:(Tryz.prog.info? 64).map (·.size)=some (Kd.n (kArr 16 (kInt .u8))):=by kernel_rfl
theorem kt5:KT Tryz.prog 5 (kInt .u8):=⟨by kernel_rfl,by kernel_rfl⟩
theorem key64:KeyK Tryz.prog 64 (kArr 16 (kInt .u8)):=KeyK.ints Tryz.underlying64 Tryz.underlying5 kt5
theorem fb152k1:fldB Tryz.prog 152 0=some (offF fF 0,0+1):=by kernel_rfl
theorem Dr {P:Program} {ops:Array Oper} {rest:List Oper} {Q:Exit→Act→World→Prop} {F0:Fz} {n:Nat} {E:List (Nat×SV)} {L:List Res} {o0 o1 o2 o3 o4 o5 o6 o7 o8 o9 o10:Oper} (d:Nat) (e:Bool) (k:Under F0 n ((d,.raw (.bool e))::E) L (wpList P ops Q rest)) (h:Under F0 n ((d,.raw (.bool e))::E) L (wpList P ops Q rest)→Under F0 n E L (wpList P ops Q (o0::o1::o2::o3::o4::o5::o6::o7::o8::o9::o10::rest))):Under F0 n E L (wpList P ops Q (o0::o1::o2::o3::o4::o5::o6::o7::o8::o9::o10::rest)):=h k
theorem yb {P:Program} {ops:Array Oper} {rest:List Oper} {C:World→Prop} {Qa:Act→Prop} {F0:Fz} {n:Nat} {E:List (Nat×SV)} {o0 o1 o2 o3 o4 o5 o6 o7 o8 o9 o10:Oper} (d:Nat) (e:Bool) (k:aM F0 n ((d,.raw (.bool e))::E) (wpQuiet P ops C Qa rest)) (h:aM F0 n ((d,.raw (.bool e))::E) (wpQuiet P ops C Qa rest)→aM F0 n E (wpQuiet P ops C Qa (o0::o1::o2::o3::o4::o5::o6::o7::o8::o9::o10::rest))):aM F0 n E (wpQuiet P ops C Qa (o0::o1::o2::o3::o4::o5::o6::o7::o8::o9::o10::rest)):=h k
theorem ka {P:Program} {ops:Array Oper} {rest:List Oper} {Q:Exit→Act→World→Prop} {F0:Fz} {n:Nat} {E:List (Nat×SV)} {L:List Res} {o0 o1 o2 o3 o4:Oper} (d:Nat) (e:Bool) (k:Under F0 n ((d,.raw (.bool e))::E) L (wpList P ops Q rest)) (h:Under F0 n ((d,.raw (.bool e))::E) L (wpList P ops Q rest)→Under F0 n E L (wpList P ops Q (o0::o1::o2::o3::o4::rest))):Under F0 n E L (wpList P ops Q (o0::o1::o2::o3::o4::rest)):=h k
theorem CO {P:Program} {ops:Array Oper} {rest:List Oper} {C:World→Prop} {Qa:Act→Prop} {F0:Fz} {n:Nat} {E:List (Nat×SV)} {o0 o1 o2 o3 o4:Oper} (d:Nat) (e:Bool) (k:aM F0 n ((d,.raw (.bool e))::E) (wpQuiet P ops C Qa rest)) (h:aM F0 n ((d,.raw (.bool e))::E) (wpQuiet P ops C Qa rest)→aM F0 n E (wpQuiet P ops C Qa (o0::o1::o2::o3::o4::rest))):aM F0 n E (wpQuiet P ops C Qa (o0::o1::o2::o3::o4::rest)):=h k
theorem Ds {P:Program} {ops:Array Oper} {rest:List Oper} {Q:Exit→Act→World→Prop} {F0:Fz} {n:Nat} {E:List (Nat×SV)} {L:List Res} {o0 o1 o2 o3 o4 o5 o6 o7 o8 o9 o10 o11 o12 o13 o14:Oper} (d:Nat) (e:Bool) (k:Under F0 n ((d,.raw (.bool e))::E) L (wpList P ops Q rest)) (h:Under F0 n ((d,.raw (.bool e))::E) L (wpList P ops Q rest)→Under F0 n E L (wpList P ops Q (o0::o1::o2::o3::o4::o5::o6::o7::o8::o9::o10::o11::o12::o13::o14::rest))):Under F0 n E L (wpList P ops Q (o0::o1::o2::o3::o4::o5::o6::o7::o8::o9::o10::o11::o12::o13::o14::rest)):=h k
theorem yc {P:Program} {ops:Array Oper} {rest:List Oper} {C:World→Prop} {Qa:Act→Prop} {F0:Fz} {n:Nat} {E:List (Nat×SV)} {o0 o1 o2 o3 o4 o5 o6 o7 o8 o9 o10 o11 o12 o13 o14:Oper} (d:Nat) (e:Bool) (k:aM F0 n ((d,.raw (.bool e))::E) (wpQuiet P ops C Qa rest)) (h:aM F0 n ((d,.raw (.bool e))::E) (wpQuiet P ops C Qa rest)→aM F0 n E (wpQuiet P ops C Qa (o0::o1::o2::o3::o4::o5::o6::o7::o8::o9::o10::o11::o12::o13::o14::rest))):aM F0 n E (wpQuiet P ops C Qa (o0::o1::o2::o3::o4::o5::o6::o7::o8::o9::o10::o11::o12::o13::o14::rest)):=h k
theorem qv {P:Program} {ops:Array Oper} {rest:List Oper} {Q:Exit→Act→World→Prop} {F0:Fz} {n:Nat} {E:List (Nat×SV)} {L:List Res} {o0 o1 o2 o3 o4 o5 o6 o7:Oper} (d:Nat) (e:Bool) (k:Under F0 n ((d,.raw (.bool e))::E) L (wpList P ops Q rest)) (h:Under F0 n ((d,.raw (.bool e))::E) L (wpList P ops Q rest)→Under F0 n E L (wpList P ops Q (o0::o1::o2::o3::o4::o5::o6::o7::rest))):Under F0 n E L (wpList P ops Q (o0::o1::o2::o3::o4::o5::o6::o7::rest)):=h k
theorem CP {P:Program} {ops:Array Oper} {rest:List Oper} {C:World→Prop} {Qa:Act→Prop} {F0:Fz} {n:Nat} {E:List (Nat×SV)} {o0 o1 o2 o3 o4 o5 o6 o7:Oper} (d:Nat) (e:Bool) (k:aM F0 n ((d,.raw (.bool e))::E) (wpQuiet P ops C Qa rest)) (h:aM F0 n ((d,.raw (.bool e))::E) (wpQuiet P ops C Qa rest)→aM F0 n E (wpQuiet P ops C Qa (o0::o1::o2::o3::o4::o5::o6::o7::rest))):aM F0 n E (wpQuiet P ops C Qa (o0::o1::o2::o3::o4::o5::o6::o7::rest)):=h k
theorem sz5:(Tryz.prog.info? 5).map (·.size)=some (Kd.n (kInt .u8)):=by kernel_rfl
theorem nx230:Extern.findNext Tryz.f230=none:=by kernel_rfl
theorem fd230:Extern.find Tryz.f230=some Extern.BytealgCompare.compare:=by kernel_rfl
theorem nb230:Tryz.f230.body.isNone=true:=by kernel_rfl
theorem nn230 : (Tryz.f230.name == "runtime.NumGoroutine") = false := by kernel_rfl
theorem dj {P:Program} {ops:Array Oper} {rest:List Oper} {Q:Exit→Act→World→Prop} {F0:Fz} {n:Nat} {E:List (Nat×SV)} {L:List Res} {o0 o1 o2:Oper} (d:Nat) (e:Bool) (k:Under F0 n ((d,.raw (.bool e))::E) L (wpList P ops Q rest)) (h:Under F0 n ((d,.raw (.bool e))::E) L (wpList P ops Q rest)→Under F0 n E L (wpList P ops Q (o0::o1::o2::rest))):Under F0 n E L (wpList P ops Q (o0::o1::o2::rest)):=h k
theorem Dt {P:Program} {ops:Array Oper} {rest:List Oper} {C:World→Prop} {Qa:Act→Prop} {F0:Fz} {n:Nat} {E:List (Nat×SV)} {o0 o1 o2:Oper} (d:Nat) (e:Bool) (k:aM F0 n ((d,.raw (.bool e))::E) (wpQuiet P ops C Qa rest)) (h:aM F0 n ((d,.raw (.bool e))::E) (wpQuiet P ops C Qa rest)→aM F0 n E (wpQuiet P ops C Qa (o0::o1::o2::rest))):aM F0 n E (wpQuiet P ops C Qa (o0::o1::o2::rest)):=h k
theorem C9 {P:Program} {ops:Array Oper} {rest:List Oper} {Q:Exit→Act→World→Prop} {F0:Fz} {n:Nat} {E:List (Nat×SV)} {L:List Res} {o0 o1 o2 o3 o4 o5 o6 o7 o8:Oper} (d:Nat) (e:Bool) (k:Under F0 n ((d,.raw (.bool e))::E) L (wpList P ops Q rest)) (h:Under F0 n ((d,.raw (.bool e))::E) L (wpList P ops Q rest)→Under F0 n E L (wpList P ops Q (o0::o1::o2::o3::o4::o5::o6::o7::o8::rest))):Under F0 n E L (wpList P ops Q (o0::o1::o2::o3::o4::o5::o6::o7::o8::rest)):=h k
theorem Du {P:Program} {ops:Array Oper} {rest:List Oper} {C:World→Prop} {Qa:Act→Prop} {F0:Fz} {n:Nat} {E:List (Nat×SV)} {o0 o1 o2 o3 o4 o5 o6 o7 o8:Oper} (d:Nat) (e:Bool) (k:aM F0 n ((d,.raw (.bool e))::E) (wpQuiet P ops C Qa rest)) (h:aM F0 n ((d,.raw (.bool e))::E) (wpQuiet P ops C Qa rest)→aM F0 n E (wpQuiet P ops C Qa (o0::o1::o2::o3::o4::o5::o6::o7::o8::rest))):aM F0 n E (wpQuiet P ops C Qa (o0::o1::o2::o3::o4::o5::o6::o7::o8::rest)):=h k
theorem kt46:KT Tryz.prog 46 ba:=⟨by kernel_rfl,by kernel_rfl⟩
theorem BT27:BT Tryz.prog 27 di (⟨(0:Int),[]⟩:aa):=⟨⟨Tryz.t27,(.agg #[.int .i64 0,.slice none 0 0]:Value),_,[(0,1),(1,1)],by kernel_rfl,by kernel_rfl,Tryz.underlying27,by kernel_rfl,fun i f h=>match i,f,h with
 |0,f,h=>by cases h;rfl
 |1,f,h=>by cases h;rfl
 |(_+2),f,h=>by simp[di] at h,fun F=>bu (by kernel_rfl) (nv F)⟩⟩
theorem sz46k:(Tryz.prog.info? 46).map (·.size)=some (Kd.n ba):=by kernel_rfl
theorem sz27k:(Tryz.prog.info? 27).map (·.size)=some (Kd.n ah):=by kernel_rfl
theorem py (F:Fz):Kd.rd cN F ([.int .u32 0]++[.int .u32 0]++[]) (⟨(0:Int),(0:Int)⟩:ao):=⟨[.int .u32 0],_,rfl,rfl,⟨[.int .u32 0],_,rfl,rfl,rfl⟩⟩
theorem BT144:BT Tryz.prog 144 ga (⟨(0:Int),(0:Int)⟩:ao):=⟨⟨Tryz.t144,(.agg #[.int .u32 0,.int .u32 0]:Value),_,[(0,1),(1,1)],by kernel_rfl,by kernel_rfl,Tryz.underlying144,by kernel_rfl,fun i f h=>match i,f,h with
 |0,f,h=>by cases h;rfl
 |1,f,h=>by cases h;rfl
 |(_+2),f,h=>by simp[ga] at h,fun F=>bu (by kernel_rfl) (py F)⟩⟩
theorem qw (F:Fz):Kd.rd aZ F ([.slice none 0 0]++[.int .i64 0]++[.int .i64 0]++[.int .i64 0]++([.int .i64 0]++[.int .i64 0]++[.int .i64 0]++[])++([.int .u32 0]++[.int .u32 0]++[])++[.int .i64 0]++[.int .i64 0]++[]) (⟨(.slice none 0 0),(0:Int),(0:Int),(0:Int),(⟨(0:Int),(0:Int),(0:Int)⟩:ab),(⟨(0:Int),(0:Int)⟩:ao),(0:Int),(0:Int)⟩:aj):=⟨[.slice none 0 0],_,rfl,⟨rfl,rfl⟩,⟨[.int .i64 0],_,rfl,rfl,⟨[.int .i64 0],_,rfl,rfl,⟨[.int .i64 0],_,rfl,rfl,⟨([.int .i64 0]++[.int .i64 0]++[.int .i64 0]++[]),_,rfl,⟨[.int .i64 0],_,rfl,rfl,⟨[.int .i64 0],_,rfl,rfl,⟨[.int .i64 0],_,rfl,rfl,rfl⟩⟩⟩,⟨([.int .u32 0]++[.int .u32 0]++[]),_,rfl,⟨[.int .u32 0],_,rfl,rfl,⟨[.int .u32 0],_,rfl,rfl,rfl⟩⟩,⟨[.int .i64 0],_,rfl,rfl,⟨[.int .i64 0],_,rfl,rfl,rfl⟩⟩⟩⟩⟩⟩⟩⟩
theorem nb:BT Tryz.prog 146 cl (⟨(.slice none 0 0),(0:Int),(0:Int),(0:Int),(⟨(0:Int),(0:Int),(0:Int)⟩:ab),(⟨(0:Int),(0:Int)⟩:ao),(0:Int),(0:Int)⟩:aj):=⟨⟨Tryz.t146,(.agg (List.replicate 1 (.slice none 0 0:Value)++List.replicate 6 (.int .i64 0:Value)++List.replicate 2 (.int .u32 0:Value)++List.replicate 2 (.int .i64 0:Value)).toArray:Value),_,[(0,1),(1,1),(2,1),(3,1),(4,3),(7,2),(9,1),(10,1)],by kernel_rfl,by kernel_rfl,Tryz.underlying146,by kernel_rfl,fun i f h=>match i,f,h with
 |0,f,h=>by cases h;rfl
 |1,f,h=>by cases h;rfl
 |2,f,h=>by cases h;rfl
 |3,f,h=>by cases h;rfl
 |4,f,h=>by cases h;rfl
 |5,f,h=>by cases h;rfl
 |6,f,h=>by cases h;rfl
 |7,f,h=>by cases h;rfl
 |(_+8),f,h=>by simp[cl] at h,fun F=>bu (by kernel_rfl) (qw F)⟩⟩
theorem m7:fldB Tryz.prog 146 6=some (9,0+1):=by kernel_rfl
theorem du:UpF cl 6 ⟨kInt .i64,aj.err⟩ (fun x y=>{x with err:=y}):=⟨rfl,fun _ _=>rfl,fun _ _=>⟨rfl,⟨rfl,⟨rfl,⟨rfl,⟨rfl,⟨rfl,(by intro q hq;simp only[List.mem_cons,List.not_mem_nil,or_false] at hq;rcases hq with rfl<;>rfl)⟩⟩⟩⟩⟩⟩⟩
theorem kt35k:KT Tryz.prog 35 (kInt .i64):=⟨by kernel_rfl,by kernel_rfl⟩
theorem nc (F:Fz):Kd.rd (kArr 10 (kInt .i64)) F ((List.replicate 10 [.int .i64 0]).flatten) (List.replicate 10 (0:Int)):=⟨by simp,cn (K:=kInt .i64) rfl 10⟩
theorem BTA273:BTA Tryz.prog 273 10 (kInt .i64) (List.replicate 10 (0:Int)):=⟨⟨Tryz.t273,(.agg (List.replicate 10 (.int .i64 0:Value)).toArray:Value),_,Tryz.t3,by kernel_rfl,by kernel_rfl,Tryz.underlying273,by kernel_rfl,by kernel_rfl,by simp,fun F=>kp (by kernel_rfl) (nc F).2⟩⟩
theorem iu:fldB Tryz.prog 146 2=some (2,0+1):=by kernel_rfl
theorem bt:UpF cl 2 ⟨kInt .i64,aj.stage⟩ (fun x y=>{x with stage:=y}):=⟨rfl,fun _ _=>rfl,fun _ _=>⟨rfl,⟨rfl,(by intro q hq;simp only[List.mem_cons,List.not_mem_nil,or_false] at hq;rcases hq with rfl|rfl|rfl|rfl|rfl<;>rfl)⟩⟩⟩
theorem kt3k:KT Tryz.prog 3 (kInt .i64):=⟨by kernel_rfl,by kernel_rfl⟩
theorem js:fldB Tryz.prog 146 0=some (0,0+1):=by kernel_rfl
theorem bZ:UpF cl 0 ⟨kRaw,aj.field⟩ (fun x y=>{x with field:=y}):=⟨rfl,fun _ _=>rfl,fun _ _=>(by intro q hq;simp only[List.mem_cons,List.not_mem_nil,or_false] at hq;rcases hq with rfl|rfl|rfl|rfl|rfl|rfl|rfl<;>rfl)⟩
theorem kt22k:KT Tryz.prog 22 kRaw:=⟨by kernel_rfl,by kernel_rfl⟩
theorem sz22k:(Tryz.prog.info? 22).map (·.size)=some (Kd.n kRaw):=by kernel_rfl
theorem m8:fldB Tryz.prog 146 1=some (1,0+1):=by kernel_rfl
theorem dx:UpF cl 1 ⟨kInt .i64,aj.at_⟩ (fun x y=>{x with at_:=y}):=⟨rfl,fun _ _=>rfl,fun _ _=>⟨rfl,(by intro q hq;simp only[List.mem_cons,List.not_mem_nil,or_false] at hq;rcases hq with rfl|rfl|rfl|rfl|rfl|rfl<;>rfl)⟩⟩
theorem sz3k:(Tryz.prog.info? 3).map (·.size)=some (Kd.n (kInt .i64)):=by kernel_rfl
theorem mz (F:Fz):Kd.rd (kSl (kInt .u8)) F [.slice none 0 0] []:=⟨none,0,rfl,Nat.le_refl _,.inl rfl⟩
theorem ET22:ET Tryz.prog 22 (kSl (kInt .u8)) []:=⟨⟨Tryz.t22,(.slice none 0 0:Value),by kernel_rfl,by kernel_rfl,by kernel_rfl,by decide,fun F=>aD (by kernel_rfl) (mz F)⟩⟩
theorem AT22:AT Tryz.prog 22 (kSl (kInt .u8)) [] 24:=⟨⟨Tryz.t22,(.slice none 0 0:Value),by kernel_rfl,by kernel_rfl,by kernel_rfl,by kernel_rfl,by decide,by decide,fun F=>aD (by kernel_rfl) (mz F)⟩⟩
theorem wk:fldB Tryz.prog 146 5=some (7,1+1):=by kernel_rfl
theorem iC:UpF cl 5 ⟨cN,aj.sum⟩ (fun x y=>{x with sum:=y}):=⟨rfl,fun _ _=>rfl,fun _ _=>⟨rfl,⟨rfl,⟨rfl,⟨rfl,⟨rfl,(by intro q hq;simp only[List.mem_cons,List.not_mem_nil,or_false] at hq;rcases hq with rfl|rfl<;>rfl)⟩⟩⟩⟩⟩⟩
theorem kt144k:KT Tryz.prog 144 cN:=⟨by kernel_rfl,by kernel_rfl⟩
theorem fb144k:fldB Tryz.prog 144 1=some (offF ga 1,0+1):=by kernel_rfl
theorem kt142:KT Tryz.prog 142 (kInt .u32):=⟨by kernel_rfl,by kernel_rfl⟩
theorem fb144k1:fldB Tryz.prog 144 0=some (offF ga 0,0+1):=by kernel_rfl
theorem ZT144:ZT Tryz.prog 144 cN (⟨(0:Int),(0:Int)⟩:ao):=⟨(.agg #[.int .u32 0,.int .u32 0]:Value),by kernel_rfl,fun F=>aD (by kernel_rfl) (py F)⟩
theorem wl:fldB Tryz.prog 144 0=some (0,0+1):=by kernel_rfl
theorem kc:UpF ga 0 ⟨kInt .u32,ao.a⟩ (fun x y=>{x with a:=y}):=⟨rfl,fun _ _=>rfl,fun _ _=>(by intro q hq;simp only[List.mem_cons,List.not_mem_nil,or_false] at hq;rcases hq with rfl<;>rfl)⟩
theorem kt142k:KT Tryz.prog 142 (kInt .u32):=⟨by kernel_rfl,by kernel_rfl⟩
theorem sz142k:(Tryz.prog.info? 142).map (·.size)=some (Kd.n (kInt .u32)):=by kernel_rfl
theorem zV:fldB Tryz.prog 144 1=some (1,0+1):=by kernel_rfl
theorem mF:UpF ga 1 ⟨kInt .u32,ao.b⟩ (fun x y=>{x with b:=y}):=⟨rfl,fun _ _=>rfl,fun _ _=>⟨rfl,(fun q hq=>by simp at hq)⟩⟩
theorem kt144:KT Tryz.prog 144 cN:=⟨by kernel_rfl,by kernel_rfl⟩
theorem sz144k:(Tryz.prog.info? 144).map (·.size)=some (Kd.n cN):=by kernel_rfl
abbrev str0:ByteArray:=⟨#[67,72,82,78]⟩
theorem zW:rdOf (.raw (.string str0)) kStr [67,72,82,78]:=rdS (by kernel_rfl)
theorem sz5k:(Tryz.prog.info? 5).map (·.size)=some (Kd.n (kInt .u8)):=by kernel_rfl
theorem kt5k:KT Tryz.prog 5 (kInt .u8):=⟨by kernel_rfl,by kernel_rfl⟩
theorem pz:fldB Tryz.prog 146 4=some (4,2+1):=by kernel_rfl
theorem wm:fldB Tryz.prog 43 2=some (2,0+1):=by kernel_rfl
theorem eK:UpF cl 4 ⟨bv,aj.header⟩ (fun x y=>{x with header:=y}):=⟨rfl,fun _ _=>rfl,fun _ _=>⟨rfl,⟨rfl,⟨rfl,⟨rfl,(by intro q hq;simp only[List.mem_cons,List.not_mem_nil,or_false] at hq;rcases hq with rfl|rfl|rfl<;>rfl)⟩⟩⟩⟩⟩
theorem iw:UpF ef 2 ⟨kInt .i64,ab.Left⟩ (fun x y=>{x with Left:=y}):=⟨rfl,fun _ _=>rfl,fun _ _=>⟨rfl,⟨rfl,(fun q hq=>by simp at hq)⟩⟩⟩
theorem pK:fldB Tryz.prog 146 3=some (3,0+1):=by kernel_rfl
theorem eL:UpF cl 3 ⟨kInt .i64,aj.left⟩ (fun x y=>{x with left:=y}):=⟨rfl,fun _ _=>rfl,fun _ _=>⟨rfl,⟨rfl,⟨rfl,(by intro q hq;simp only[List.mem_cons,List.not_mem_nil,or_false] at hq;rcases hq with rfl|rfl|rfl|rfl<;>rfl)⟩⟩⟩⟩
theorem Da:fldB Tryz.prog 43 0=some (0,0+1):=by kernel_rfl
theorem rp:UpF ef 0 ⟨kInt .i64,ab.Round⟩ (fun x y=>{x with Round:=y}):=⟨rfl,fun _ _=>rfl,fun _ _=>(by intro q hq;simp only[List.mem_cons,List.not_mem_nil,or_false] at hq;rcases hq with rfl|rfl<;>rfl)⟩
theorem sz2k:(Tryz.prog.info? 2).map (·.size)=some (Kd.n (kInt .i64)):=by kernel_rfl
theorem Db:fldB Tryz.prog 43 1=some (1,0+1):=by kernel_rfl
theorem rq:UpF ef 1 ⟨kInt .i64,ab.Epoch⟩ (fun x y=>{x with Epoch:=y}):=⟨rfl,fun _ _=>rfl,fun _ _=>⟨rfl,(by intro q hq;simp only[List.mem_cons,List.not_mem_nil,or_false] at hq;rcases hq with rfl<;>rfl)⟩⟩
theorem sz35k:(Tryz.prog.info? 35).map (·.size)=some (Kd.n (kInt .i64)):=by kernel_rfl
theorem wn:fldB Tryz.prog 146 7=some (10,0+1):=by kernel_rfl
theorem iD:UpF cl 7 ⟨kInt .i64,aj.place⟩ (fun x y=>{x with place:=y}):=⟨rfl,fun _ _=>rfl,fun _ _=>⟨rfl,⟨rfl,⟨rfl,⟨rfl,⟨rfl,⟨rfl,⟨rfl,(fun q hq=>by simp at hq)⟩⟩⟩⟩⟩⟩⟩⟩
theorem kt43k:KT Tryz.prog 43 bv:=⟨by kernel_rfl,by kernel_rfl⟩
theorem BT46:BT Tryz.prog 46 iI (⟨(⟨(0:Int),(0:Int),(0:Int)⟩:ab),[]⟩:aE):=⟨⟨Tryz.t46,(.agg #[.int .i64 0,.int .i64 0,.int .i64 0,.slice none 0 0]:Value),_,[(0,3),(3,1)],by kernel_rfl,by kernel_rfl,Tryz.underlying46,by kernel_rfl,fun i f h=>match i,f,h with
 |0,f,h=>by cases h;rfl
 |1,f,h=>by cases h;rfl
 |(_+2),f,h=>by simp[iI] at h,fun F=>bu (by kernel_rfl) (px F)⟩⟩
theorem fb46k:fldB Tryz.prog 46 0=some (offF iI 0,2+1):=by kernel_rfl
theorem fb43k:fldB Tryz.prog 43 2=some (offF ef 2,0+1):=by kernel_rfl
theorem fb43k1:fldB Tryz.prog 43 0=some (offF ef 0,0+1):=by kernel_rfl
theorem fb43k2:fldB Tryz.prog 43 1=some (offF ef 1,0+1):=by kernel_rfl
theorem lk (F:Fz):Kd.rd bi F ([.int .i64 0]++[.slice none 0 0]++[]) (⟨(0:Int),(.slice none 0 0)⟩:aC):=⟨[.int .i64 0],_,rfl,rfl,⟨[.slice none 0 0],_,rfl,⟨rfl,rfl⟩,rfl⟩⟩
theorem kd:BT Tryz.prog 27 dY (⟨(0:Int),(.slice none 0 0)⟩:aC):=⟨⟨Tryz.t27,(.agg #[.int .i64 0,.slice none 0 0]:Value),_,[(0,1),(1,1)],by kernel_rfl,by kernel_rfl,Tryz.underlying27,by kernel_rfl,fun i f h=>match i,f,h with
 |0,f,h=>by cases h;rfl
 |1,f,h=>by cases h;rfl
 |(_+2),f,h=>by simp[dY] at h,fun F=>bu (by kernel_rfl) (lk F)⟩⟩
theorem ZT27k:ZT Tryz.prog 27 bi (⟨(0:Int),(.slice none 0 0)⟩:aC):=⟨(.agg #[.int .i64 0,.slice none 0 0]:Value),by kernel_rfl,fun F=>aD (by kernel_rfl) (lk F)⟩
theorem sz27k1:(Tryz.prog.info? 27).map (·.size)=some (Kd.n bi):=by kernel_rfl
theorem Dc:fldB Tryz.prog 27 0=some (0,0+1):=by kernel_rfl
theorem oj:UpF dY 0 ⟨kInt .i64,aC.Newest⟩ (fun x y=>{x with Newest:=y}):=⟨rfl,fun _ _=>rfl,fun _ _=>(by intro q hq;simp only[List.mem_cons,List.not_mem_nil,or_false] at hq;rcases hq with rfl<;>rfl)⟩
theorem kt2k:KT Tryz.prog 2 (kInt .i64):=⟨by kernel_rfl,by kernel_rfl⟩
theorem fi:fldB Tryz.prog 27 1=some (1,0+1):=by kernel_rfl
theorem aR:UpF dY 1 ⟨kRaw,aC.Epochs⟩ (fun x y=>{x with Epochs:=y}):=⟨rfl,fun _ _=>rfl,fun _ _=>⟨rfl,(fun q hq=>by simp at hq)⟩⟩
theorem kt25k:KT Tryz.prog 25 kRaw:=⟨by kernel_rfl,by kernel_rfl⟩
theorem ET64:ET Tryz.prog 64 (kArr 16 (kInt .u8)) (List.replicate 16 (0:Int)):=⟨⟨Tryz.t64,(.agg (List.replicate 16 (.int .u8 0:Value)).toArray:Value),by kernel_rfl,by kernel_rfl,by kernel_rfl,by decide,fun F=>aD (by kernel_rfl) (eF F)⟩⟩
theorem AT64:AT Tryz.prog 64 (kArr 16 (kInt .u8)) (List.replicate 16 (0:Int)) 16:=⟨⟨Tryz.t64,(.agg (List.replicate 16 (.int .u8 0:Value)).toArray:Value),by kernel_rfl,by kernel_rfl,by kernel_rfl,by kernel_rfl,by decide,by decide,fun F=>aD (by kernel_rfl) (eF F)⟩⟩
theorem BT152:BT Tryz.prog 152 fF (⟨(0:Int),[]⟩:af):=⟨⟨Tryz.t152,(.agg #[.int .i64 0,.slice none 0 0]:Value),_,[(0,1),(1,1)],by kernel_rfl,by kernel_rfl,Tryz.underlying152,by kernel_rfl,fun i f h=>match i,f,h with
 |0,f,h=>by cases h;rfl
 |1,f,h=>by cases h;rfl
 |(_+2),f,h=>by simp[fF] at h,fun F=>bu (by kernel_rfl) (jN F)⟩⟩
theorem ET152:ET Tryz.prog 152 aA (⟨(0:Int),[]⟩:af):=⟨⟨Tryz.t152,(.agg #[.int .i64 0,.slice none 0 0]:Value),by kernel_rfl,by kernel_rfl,by kernel_rfl,by decide,fun F=>aD (by kernel_rfl) (jN F)⟩⟩
theorem AT152:AT Tryz.prog 152 aA (⟨(0:Int),[]⟩:af) 32:=⟨⟨Tryz.t152,(.agg #[.int .i64 0,.slice none 0 0]:Value),by kernel_rfl,by kernel_rfl,by kernel_rfl,by kernel_rfl,by decide,by decide,fun F=>aD (by kernel_rfl) (jN F)⟩⟩
theorem sz25k:(Tryz.prog.info? 25).map (·.size)=some (Kd.n kRaw):=by kernel_rfl
theorem ZT29:ZT Tryz.prog 29 bc (⟨(0:Int),(⟨(0:Int),[]⟩:aa)⟩:aq):=⟨(.agg #[.int .i64 0,.int .i64 0,.slice none 0 0]:Value),by kernel_rfl,fun F=>aD (by kernel_rfl) (pw F)⟩
theorem tU:fldB Tryz.prog 29 1=some (1,1+1):=by kernel_rfl
theorem tW:UpF f9 1 ⟨ah,aq.Window⟩ (fun x y=>{x with Window:=y}):=⟨rfl,fun _ _=>rfl,fun _ _=>⟨rfl,(fun q hq=>by simp at hq)⟩⟩
theorem rr:UpF di 1 ⟨kSl aA,aa.Epochs⟩ (fun x y=>{x with Epochs:=y}):=⟨rfl,fun _ _=>rfl,fun _ _=>⟨rfl,(fun q hq=>by simp at hq)⟩⟩
theorem kt25k1:KT Tryz.prog 25 (kSl aA):=⟨by kernel_rfl,by kernel_rfl⟩
theorem fk:UpF jj 1 ⟨bi,dP.Window⟩ (fun x y=>{x with Window:=y}):=⟨rfl,fun _ _=>rfl,fun _ _=>⟨rfl,(fun q hq=>by simp at hq)⟩⟩
theorem m9:fldB Tryz.prog 152 1=some (1,0+1):=by kernel_rfl
theorem iV:UpF fF 1 ⟨kSl (kArr 16 (kInt .u8)),af.Tags⟩ (fun x y=>{x with Tags:=y}):=⟨rfl,fun _ _=>rfl,fun _ _=>⟨rfl,(fun q hq=>by simp at hq)⟩⟩
theorem kt85k:KT Tryz.prog 85 (kSl (kArr 16 (kInt .u8))):=⟨by kernel_rfl,by kernel_rfl⟩
theorem sz85k:(Tryz.prog.info? 85).map (·.size)=some (Kd.n (kSl (kArr 16 (kInt .u8)))):=by kernel_rfl
theorem sz29k:(Tryz.prog.info? 29).map (·.size)=some (Kd.n bc):=by kernel_rfl
theorem BT37:BT Tryz.prog 37 ek (⟨[],(⟨(0:Int),(⟨(0:Int),[]⟩:aa)⟩:aq),(⟨(0:Int),(0:Int),(0:Int),(0:Int),(0:Int)⟩:ai),(0:Int),(0:Int)⟩:aG):=⟨⟨Tryz.t37,(.agg (List.replicate 1 (.slice none 0 0:Value)++List.replicate 2 (.int .i64 0:Value)++List.replicate 1 (.slice none 0 0:Value)++List.replicate 7 (.int .i64 0:Value)).toArray:Value),_,[(0,1),(1,3),(4,5),(9,1),(10,1)],by kernel_rfl,by kernel_rfl,Tryz.underlying37,by kernel_rfl,fun i f h=>match i,f,h with
 |0,f,h=>by cases h;rfl
 |1,f,h=>by cases h;rfl
 |2,f,h=>by cases h;rfl
 |3,f,h=>by cases h;rfl
 |4,f,h=>by cases h;rfl
 |(_+5),f,h=>by simp[ek] at h,fun F=>bu (by kernel_rfl) (my F)⟩⟩
theorem sz37k:(Tryz.prog.info? 37).map (·.size)=some (Kd.n aH):=by kernel_rfl
theorem kt37:KT Tryz.prog 37 aH:=⟨by kernel_rfl,by kernel_rfl⟩
theorem kt27k:KT Tryz.prog 27 ah:=⟨by kernel_rfl,by kernel_rfl⟩
theorem ny (F:Fz):Kd.rd bU F ([.int .i64 0]++[.int .i64 0]++[.int .i64 0]++[.int .i64 0]++[.int .i64 0]++[]) (⟨(0:Int),(0:Int),(0:Int),(0:Int),(0:Int)⟩:ai):=⟨[.int .i64 0],_,rfl,rfl,⟨[.int .i64 0],_,rfl,rfl,⟨[.int .i64 0],_,rfl,rfl,⟨[.int .i64 0],_,rfl,rfl,⟨[.int .i64 0],_,rfl,rfl,rfl⟩⟩⟩⟩⟩
theorem ZT34:ZT Tryz.prog 34 bU (⟨(0:Int),(0:Int),(0:Int),(0:Int),(0:Int)⟩:ai):=⟨(.agg #[.int .i64 0,.int .i64 0,.int .i64 0,.int .i64 0,.int .i64 0]:Value),by kernel_rfl,fun F=>aD (by kernel_rfl) (ny F)⟩
theorem BT34:BT Tryz.prog 34 eY (⟨(0:Int),(0:Int),(0:Int),(0:Int),(0:Int)⟩:ai):=⟨⟨Tryz.t34,(.agg #[.int .i64 0,.int .i64 0,.int .i64 0,.int .i64 0,.int .i64 0]:Value),_,[(0,1),(1,1),(2,1),(3,1),(4,1)],by kernel_rfl,by kernel_rfl,Tryz.underlying34,by kernel_rfl,fun i f h=>match i,f,h with
 |0,f,h=>by cases h;rfl
 |1,f,h=>by cases h;rfl
 |2,f,h=>by cases h;rfl
 |3,f,h=>by cases h;rfl
 |4,f,h=>by cases h;rfl
 |(_+5),f,h=>by simp[eY] at h,fun F=>bu (by kernel_rfl) (ny F)⟩⟩
theorem sz34k:(Tryz.prog.info? 34).map (·.size)=some (Kd.n bU):=by kernel_rfl
theorem kt34:KT Tryz.prog 34 bU:=⟨by kernel_rfl,by kernel_rfl⟩
theorem om (F:Fz):Kd.rd (kArr 32 (kInt .u8)) F ((List.replicate 32 [.int .u8 0]).flatten) (List.replicate 32 (0:Int)):=⟨by simp,cn (K:=kInt .u8) rfl 32⟩
theorem ZT179:ZT Tryz.prog 179 (kArr 32 (kInt .u8)) (List.replicate 32 (0:Int)):=⟨(.agg (List.replicate 32 (.int .u8 0:Value)).toArray:Value),by kernel_rfl,fun F=>aD (by kernel_rfl) (om F)⟩
theorem pL (F:Fz):Kd.rd bw F ((List.replicate 8 [.int .u32 0]).flatten++(List.replicate 64 [.int .u8 0]).flatten++[.int .u64 0]++[]) (⟨(List.replicate 8 (0:Int)),(List.replicate 64 (0:Int)),(0:Int)⟩:av):=⟨(List.replicate 8 [.int .u32 0]).flatten,_,rfl,⟨by simp,cn (K:=kInt .u32) rfl 8⟩,⟨(List.replicate 64 [.int .u8 0]).flatten,_,rfl,⟨by simp,cn (K:=kInt .u8) rfl 64⟩,⟨[.int .u64 0],_,rfl,rfl,rfl⟩⟩⟩
theorem ZT253:ZT Tryz.prog 253 bw (⟨(List.replicate 8 (0:Int)),(List.replicate 64 (0:Int)),(0:Int)⟩:av):=⟨(.agg (List.replicate 8 (.int .u32 0:Value)++List.replicate 64 (.int .u8 0:Value)++List.replicate 1 (.int .u64 0:Value)).toArray:Value),by kernel_rfl,fun F=>aD (by kernel_rfl) (pL F)⟩
theorem oo (F:Fz):Kd.rd (kArr 64 (kInt .u8)) F ((List.replicate 64 [.int .u8 0]).flatten) (List.replicate 64 (0:Int)):=⟨by simp,cn (K:=kInt .u8) rfl 64⟩
theorem ZT251:ZT Tryz.prog 251 (kArr 64 (kInt .u8)) (List.replicate 64 (0:Int)):=⟨(.agg (List.replicate 64 (.int .u8 0:Value)).toArray:Value),by kernel_rfl,fun F=>aD (by kernel_rfl) (oo F)⟩
theorem BT253:BT Tryz.prog 253 gb (⟨(List.replicate 8 (0:Int)),(List.replicate 64 (0:Int)),(0:Int)⟩:av):=⟨⟨Tryz.t253,(.agg (List.replicate 8 (.int .u32 0:Value)++List.replicate 64 (.int .u8 0:Value)++List.replicate 1 (.int .u64 0:Value)).toArray:Value),_,[(0,8),(8,64),(72,1)],by kernel_rfl,by kernel_rfl,Tryz.underlying253,by kernel_rfl,fun i f h=>match i,f,h with
 |0,f,h=>by cases h;rfl
 |1,f,h=>by cases h;rfl
 |2,f,h=>by cases h;rfl
 |(_+3),f,h=>by simp[gb] at h,fun F=>bu (by kernel_rfl) (pL F)⟩⟩
theorem sz253k:(Tryz.prog.info? 253).map (·.size)=some (Kd.n bw):=by kernel_rfl
theorem kt253:KT Tryz.prog 253 bw:=⟨by kernel_rfl,by kernel_rfl⟩
theorem na:fldB Tryz.prog 253 2=some (72,0+1):=by kernel_rfl
theorem ft:UpF gb 2 ⟨kInt .u64,av.n⟩ (fun x y=>{x with n:=y}):=⟨rfl,fun _ _=>rfl,fun _ _=>⟨rfl,⟨rfl,(fun q hq=>by simp at hq)⟩⟩⟩
theorem kt71k:KT Tryz.prog 71 (kInt .u64):=⟨by kernel_rfl,by kernel_rfl⟩
theorem ke (F:Fz):Kd.rd (kArr 8 (kInt .u32)) F ((List.replicate 8 [.int .u32 0]).flatten) (List.replicate 8 (0:Int)):=⟨by simp,cn (K:=kInt .u32) rfl 8⟩
theorem ZT250:ZT Tryz.prog 250 (kArr 8 (kInt .u32)) (List.replicate 8 (0:Int)):=⟨(.agg (List.replicate 8 (.int .u32 0:Value)).toArray:Value),by kernel_rfl,fun F=>aD (by kernel_rfl) (ke F)⟩
theorem BTA250:BTA Tryz.prog 250 8 (kInt .u32) (List.replicate 8 (0:Int)):=⟨⟨Tryz.t250,(.agg (List.replicate 8 (.int .u32 0:Value)).toArray:Value),_,Tryz.t142,by kernel_rfl,by kernel_rfl,Tryz.underlying250,by kernel_rfl,by kernel_rfl,by simp,fun F=>kp (by kernel_rfl) (ke F).2⟩⟩
theorem sz250k:(Tryz.prog.info? 250).map (·.size)=some (Kd.n (kArr 8 (kInt .u32))):=by kernel_rfl
theorem kt250:KT Tryz.prog 250 (kArr 8 (kInt .u32)):=⟨by kernel_rfl,by kernel_rfl⟩
theorem wo:fldB Tryz.prog 253 0=some (0,7+1):=by kernel_rfl
theorem kg:UpF gb 0 ⟨kArr 8 (kInt .u32),av.words⟩ (fun x y=>{x with words:=y}):=⟨rfl,fun _ _=>rfl,fun _ _=>(by intro q hq;simp only[List.mem_cons,List.not_mem_nil,or_false] at hq;rcases hq with rfl|rfl<;>rfl)⟩
theorem zX:fldB Tryz.prog 253 1=some (8,63+1):=by kernel_rfl
theorem mK:UpF gb 1 ⟨kArr 64 (kInt .u8),av.tail⟩ (fun x y=>{x with tail:=y}):=⟨rfl,fun _ _=>rfl,fun _ _=>⟨rfl,(by intro q hq;simp only[List.mem_cons,List.not_mem_nil,or_false] at hq;rcases hq with rfl<;>rfl)⟩⟩
theorem sz71k:(Tryz.prog.info? 71).map (·.size)=some (Kd.n (kInt .u64)):=by kernel_rfl
theorem kt250k:KT Tryz.prog 250 (kArr 8 (kInt .u32)):=⟨by kernel_rfl,by kernel_rfl⟩
theorem kt251k:KT Tryz.prog 251 (kArr 64 (kInt .u8)):=⟨by kernel_rfl,by kernel_rfl⟩
theorem nd (F:Fz):Kd.rd (kArr 64 (kInt .u32)) F ((List.replicate 64 [.int .u32 0]).flatten) (List.replicate 64 (0:Int)):=⟨by simp,cn (K:=kInt .u32) rfl 64⟩
theorem ZT319:ZT Tryz.prog 319 (kArr 64 (kInt .u32)) (List.replicate 64 (0:Int)):=⟨(.agg (List.replicate 64 (.int .u32 0:Value)).toArray:Value),by kernel_rfl,fun F=>aD (by kernel_rfl) (nd F)⟩
def glob0:List Int:=[1116352408,1899447441,3049323471,3921009573,961987163,1508970993,2453635748,2870763221,3624381080,310598401,607225278,1426881987,1925078388,2162078206,2614888103,3248222580,3835390401,4022224774,264347078,604807628,770255983,1249150122,1555081692,1996064986,2554220882,2821834349,2952996808,3210313671,3336571891,3584528711,113926993,338241895,666307205,773529912,1294757372,1396182291,1695183700,1986661051,2177026350,2456956037,2730485921,2820302411,3259730800,3345764771,3516065817,3600352804,4094571909,275423344,430227734,506948616,659060556,883997877,958139571,1322822218,1537002063,1747873779,1955562222,2024104815,2227730452,2361852424,2428436474,2756734187,3204031479,3329325298]
theorem sz142:(Tryz.prog.info? 142).map (·.size)=some (Kd.n (kInt .u32)):=by kernel_rfl
theorem kt253k:KT Tryz.prog 253 bw:=⟨by kernel_rfl,by kernel_rfl⟩
theorem fb253k:fldB Tryz.prog 253 0=some (offF gb 0,7+1):=by kernel_rfl
theorem kt179:KT Tryz.prog 179 (kArr 32 (kInt .u8)):=⟨by kernel_rfl,by kernel_rfl⟩
theorem sz179k:(Tryz.prog.info? 179).map (·.size)=some (Kd.n (kArr 32 (kInt .u8))):=by kernel_rfl
theorem fb46k1:fldB Tryz.prog 46 1=some (offF iI 1,0+1):=by kernel_rfl
theorem kt44:KT Tryz.prog 44 (kSl (kSl (kInt .u8))):=⟨by kernel_rfl,by kernel_rfl⟩
theorem sz22:(Tryz.prog.info? 22).map (·.size)=some (Kd.n (kSl (kInt .u8))):=by kernel_rfl
theorem jt (F:Fz):Kd.rd aT F ([.slice none 0 0]++(List.replicate 16 [.int .u8 0]).flatten++[]) (⟨[],(List.replicate 16 (0:Int))⟩:an):=⟨[.slice none 0 0],_,rfl,⟨none,0,rfl,Nat.le_refl _,.inl rfl⟩,⟨(List.replicate 16 [.int .u8 0]).flatten,_,rfl,⟨by simp,cn (K:=kInt .u8) rfl 16⟩,rfl⟩⟩
theorem ZT66:ZT Tryz.prog 66 aT (⟨[],(List.replicate 16 (0:Int))⟩:an):=⟨(.agg (List.replicate 1 (.slice none 0 0:Value)++List.replicate 16 (.int .u8 0:Value)).toArray:Value),by kernel_rfl,fun F=>aD (by kernel_rfl) (jt F)⟩
theorem BT66:BT Tryz.prog 66 gz (⟨[],(List.replicate 16 (0:Int))⟩:an):=⟨⟨Tryz.t66,(.agg (List.replicate 1 (.slice none 0 0:Value)++List.replicate 16 (.int .u8 0:Value)).toArray:Value),_,[(0,1),(1,16)],by kernel_rfl,by kernel_rfl,Tryz.underlying66,by kernel_rfl,fun i f h=>match i,f,h with
 |0,f,h=>by cases h;rfl
 |1,f,h=>by cases h;rfl
 |(_+2),f,h=>by simp[gz] at h,fun F=>bu (by kernel_rfl) (jt F)⟩⟩
theorem sz66k:(Tryz.prog.info? 66).map (·.size)=some (Kd.n aT):=by kernel_rfl
theorem kt66:KT Tryz.prog 66 aT:=⟨by kernel_rfl,by kernel_rfl⟩
theorem ll (F:Fz):Kd.rd ey F ((List.replicate 16 [.int .u8 0]).flatten++(List.replicate 32 [.int .u8 0]).flatten++(List.replicate 32 [.int .u8 0]).flatten++[]) (⟨(List.replicate 16 (0:Int)),(List.replicate 32 (0:Int)),(List.replicate 32 (0:Int))⟩:aW):=⟨(List.replicate 16 [.int .u8 0]).flatten,_,rfl,⟨by simp,cn (K:=kInt .u8) rfl 16⟩,⟨(List.replicate 32 [.int .u8 0]).flatten,_,rfl,⟨by simp,cn (K:=kInt .u8) rfl 32⟩,⟨(List.replicate 32 [.int .u8 0]).flatten,_,rfl,⟨by simp,cn (K:=kInt .u8) rfl 32⟩,rfl⟩⟩⟩
theorem ZT181:ZT Tryz.prog 181 ey (⟨(List.replicate 16 (0:Int)),(List.replicate 32 (0:Int)),(List.replicate 32 (0:Int))⟩:aW):=⟨(.agg (List.replicate 80 (.int .u8 0:Value)).toArray:Value),by kernel_rfl,fun F=>aD (by kernel_rfl) (ll F)⟩
theorem BT181:BT Tryz.prog 181 eT (⟨(List.replicate 16 (0:Int)),(List.replicate 32 (0:Int)),(List.replicate 32 (0:Int))⟩:aW):=⟨⟨Tryz.t181,(.agg (List.replicate 80 (.int .u8 0:Value)).toArray:Value),_,[(0,16),(16,32),(48,32)],by kernel_rfl,by kernel_rfl,Tryz.underlying181,by kernel_rfl,fun i f h=>match i,f,h with
 |0,f,h=>by cases h;rfl
 |1,f,h=>by cases h;rfl
 |2,f,h=>by cases h;rfl
 |(_+3),f,h=>by simp[eT] at h,fun F=>bu (by kernel_rfl) (ll F)⟩⟩
theorem sz181k:(Tryz.prog.info? 181).map (·.size)=some (Kd.n ey):=by kernel_rfl
theorem kt181:KT Tryz.prog 181 ey:=⟨by kernel_rfl,by kernel_rfl⟩
theorem fb181k:fldB Tryz.prog 181 1=some (offF eT 1,31+1):=by kernel_rfl
theorem fb181k1:fldB Tryz.prog 181 0=some (offF eT 0,15+1):=by kernel_rfl
theorem BTA64:BTA Tryz.prog 64 16 (kInt .u8) (List.replicate 16 (0:Int)):=⟨⟨Tryz.t64,(.agg (List.replicate 16 (.int .u8 0:Value)).toArray:Value),_,Tryz.t5,by kernel_rfl,by kernel_rfl,Tryz.underlying64,by kernel_rfl,by kernel_rfl,by simp,fun F=>kp (by kernel_rfl) (eF F).2⟩⟩
theorem pM (F:Fz):Kd.rd az F ((List.replicate 11 ((List.replicate 16 [.int .u8 0]).flatten)).flatten++[]) (⟨(List.replicate 11 (List.replicate 16 (0:Int)))⟩:aL):=⟨(List.replicate 11 ((List.replicate 16 [.int .u8 0]).flatten)).flatten,_,rfl,⟨by simp,cn (K:=kArr 16 (kInt .u8)) (⟨by simp,cn (K:=kInt .u8) rfl 16⟩) 11⟩,rfl⟩
theorem ZT243:ZT Tryz.prog 243 az (⟨(List.replicate 11 (List.replicate 16 (0:Int)))⟩:aL):=⟨(.agg (List.replicate 176 (.int .u8 0:Value)).toArray:Value),by kernel_rfl,fun F=>aD (by kernel_rfl) (pM F)⟩
theorem kn (F:Fz):Kd.rd (kArr 44 (kArr 4 (kInt .u8))) F ((List.replicate 44 ((List.replicate 4 [.int .u8 0]).flatten)).flatten) (List.replicate 44 (List.replicate 4 (0:Int))):=⟨by simp,cn (K:=kArr 4 (kInt .u8)) (⟨by simp,cn (K:=kInt .u8) rfl 4⟩) 44⟩
theorem ZT284:ZT Tryz.prog 284 (kArr 44 (kArr 4 (kInt .u8))) (List.replicate 44 (List.replicate 4 (0:Int))):=⟨(.agg (List.replicate 176 (.int .u8 0:Value)).toArray:Value),by kernel_rfl,fun F=>aD (by kernel_rfl) (kn F)⟩
theorem sz283k:(Tryz.prog.info? 283).map (·.size)=some (Kd.n (kArr 4 (kInt .u8))):=by kernel_rfl
theorem kt283k:KT Tryz.prog 283 (kArr 4 (kInt .u8)):=⟨by kernel_rfl,by kernel_rfl⟩
theorem ky (F:Fz):Kd.rd (kArr 4 (kInt .u8)) F ((List.replicate 4 [.int .u8 0]).flatten) (List.replicate 4 (0:Int)):=⟨by simp,cn (K:=kInt .u8) rfl 4⟩
theorem ZT283:ZT Tryz.prog 283 (kArr 4 (kInt .u8)) (List.replicate 4 (0:Int)):=⟨(.agg #[.int .u8 0,.int .u8 0,.int .u8 0,.int .u8 0]:Value),by kernel_rfl,fun F=>aD (by kernel_rfl) (ky F)⟩
theorem BTA283:BTA Tryz.prog 283 4 (kInt .u8) (List.replicate 4 (0:Int)):=⟨⟨Tryz.t283,(.agg #[.int .u8 0,.int .u8 0,.int .u8 0,.int .u8 0]:Value),_,Tryz.t5,by kernel_rfl,by kernel_rfl,Tryz.underlying283,by kernel_rfl,by kernel_rfl,by simp,fun F=>kp (by kernel_rfl) (ky F).2⟩⟩
theorem kt284:KT Tryz.prog 284 (kArr 44 (kArr 4 (kInt .u8))):=⟨by kernel_rfl,by kernel_rfl⟩
theorem kt283:KT Tryz.prog 283 (kArr 4 (kInt .u8)):=⟨by kernel_rfl,by kernel_rfl⟩
theorem CQ:fldB Tryz.prog 243 0=some (0,175+1):=by kernel_rfl
theorem jK:UpF jk 0 ⟨kArr 11 (kArr 16 (kInt .u8)),aL.keys⟩ (fun x y=>{x with keys:=y}):=⟨rfl,fun _ _=>rfl,fun _ _=>(fun q hq=>by simp at hq)⟩
theorem sz240k:(Tryz.prog.info? 240).map (·.size)=some (Kd.n (kArr 16 (kInt .u8))):=by kernel_rfl
theorem kt243:KT Tryz.prog 243 az:=⟨by kernel_rfl,by kernel_rfl⟩
theorem sz243k:(Tryz.prog.info? 243).map (·.size)=some (Kd.n az):=by kernel_rfl
theorem ne (F:Fz):Kd.rd (kArr 256 (kInt .u8)) F ((List.replicate 256 [.int .u8 0]).flatten) (List.replicate 256 (0:Int)):=⟨by simp,cn (K:=kInt .u8) rfl 256⟩
theorem ZT246:ZT Tryz.prog 246 (kArr 256 (kInt .u8)) (List.replicate 256 (0:Int)):=⟨(.agg (List.replicate 256 (.int .u8 0:Value)).toArray:Value),by kernel_rfl,fun F=>aD (by kernel_rfl) (ne F)⟩
theorem kt64k:KT Tryz.prog 64 (kArr 16 (kInt .u8)):=⟨by kernel_rfl,by kernel_rfl⟩
theorem fb243k:fldB Tryz.prog 243 0=some (offF jk 0,175+1):=by kernel_rfl
theorem sz240:(Tryz.prog.info? 240).map (·.size)=some (Kd.n (kArr 16 (kInt .u8))):=by kernel_rfl
theorem kt240:KT Tryz.prog 240 (kArr 16 (kInt .u8)):=⟨by kernel_rfl,by kernel_rfl⟩
theorem ZT240:ZT Tryz.prog 240 (kArr 16 (kInt .u8)) (List.replicate 16 (0:Int)):=⟨(.agg (List.replicate 16 (.int .u8 0:Value)).toArray:Value),by kernel_rfl,fun F=>aD (by kernel_rfl) (eF F)⟩
theorem kt240k:KT Tryz.prog 240 (kArr 16 (kInt .u8)):=⟨by kernel_rfl,by kernel_rfl⟩
theorem fb181k2:fldB Tryz.prog 181 2=some (offF eT 2,31+1):=by kernel_rfl
theorem Ca:fldB Tryz.prog 66 0=some (0,0+1):=by kernel_rfl
theorem lO:UpF gz 0 ⟨kSl (kInt .u8),an.Cell⟩ (fun x y=>{x with Cell:=y}):=⟨rfl,fun _ _=>rfl,fun _ _=>(by intro q hq;simp only[List.mem_cons,List.not_mem_nil,or_false] at hq;rcases hq with rfl<;>rfl)⟩
theorem sz22k1:(Tryz.prog.info? 22).map (·.size)=some (Kd.n (kSl (kInt .u8))):=by kernel_rfl
theorem Cb:fldB Tryz.prog 34 1=some (1,0+1):=by kernel_rfl
theorem lQ:UpF eY 1 ⟨kInt .i64,ai.Malformed⟩ (fun x y=>{x with Malformed:=y}):=⟨rfl,fun _ _=>rfl,fun _ _=>⟨rfl,(by intro q hq;simp only[List.mem_cons,List.not_mem_nil,or_false] at hq;rcases hq with rfl|rfl|rfl<;>rfl)⟩⟩
theorem fb66k:fldB Tryz.prog 66 1=some (offF gz 1,15+1):=by kernel_rfl
theorem ZV3:ZV Tryz.prog 3 (kInt .i64) (0:Int):=⟨(.int .i64 0:Value),by kernel_rfl,fun F=>ln.2 rfl⟩
theorem eqk5:EqK Tryz.prog 5 (kInt .u8) 1:=EqK.int Tryz.underlying5
theorem eqk64:EqK Tryz.prog 64 (kArr 16 (kInt .u8)) 2:=EqK.arr eqk5 kt5 Tryz.underlying64
theorem eqg64:Tryz.prog.eqGuardType Tryz.prog.depth 64=false:=by kernel_rfl
theorem Cc:fldB Tryz.prog 34 2=some (2,0+1):=by kernel_rfl
theorem lR:UpF eY 2 ⟨kInt .i64,ai.Replays⟩ (fun x y=>{x with Replays:=y}):=⟨rfl,fun _ _=>rfl,fun _ _=>⟨rfl,⟨rfl,(by intro q hq;simp only[List.mem_cons,List.not_mem_nil,or_false] at hq;rcases hq with rfl|rfl<;>rfl)⟩⟩⟩
theorem ET66:ET Tryz.prog 66 aT (⟨[],(List.replicate 16 (0:Int))⟩:an):=⟨⟨Tryz.t66,(.agg (List.replicate 1 (.slice none 0 0:Value)++List.replicate 16 (.int .u8 0:Value)).toArray:Value),by kernel_rfl,by kernel_rfl,by kernel_rfl,by decide,fun F=>aD (by kernel_rfl) (jt F)⟩⟩
theorem AT66:AT Tryz.prog 66 aT (⟨[],(List.replicate 16 (0:Int))⟩:an) 40:=⟨⟨Tryz.t66,(.agg (List.replicate 1 (.slice none 0 0:Value)++List.replicate 16 (.int .u8 0:Value)).toArray:Value),by kernel_rfl,by kernel_rfl,by kernel_rfl,by kernel_rfl,by decide,by decide,fun F=>aD (by kernel_rfl) (jt F)⟩⟩
theorem pN (F:Fz):Kd.rd dW F ([.slice none 0 0]++[.slice none 0 0]++[.slice none 0 0]++[]) (⟨[],[],[]⟩:aP):=⟨[.slice none 0 0],_,rfl,⟨none,0,rfl,Nat.le_refl _,.inl rfl⟩,⟨[.slice none 0 0],_,rfl,⟨none,0,rfl,Nat.le_refl _,.inl rfl⟩,⟨[.slice none 0 0],_,rfl,⟨none,0,rfl,Nat.le_refl _,.inl rfl⟩,rfl⟩⟩⟩
theorem ZT51:ZT Tryz.prog 51 dW (⟨[],[],[]⟩:aP):=⟨(.agg #[.slice none 0 0,.slice none 0 0,.slice none 0 0]:Value),by kernel_rfl,fun F=>aD (by kernel_rfl) (pN F)⟩
theorem BT51:BT Tryz.prog 51 f8 (⟨[],[],[]⟩:aP):=⟨⟨Tryz.t51,(.agg #[.slice none 0 0,.slice none 0 0,.slice none 0 0]:Value),_,[(0,1),(1,1),(2,1)],by kernel_rfl,by kernel_rfl,Tryz.underlying51,by kernel_rfl,fun i f h=>match i,f,h with
 |0,f,h=>by cases h;rfl
 |1,f,h=>by cases h;rfl
 |2,f,h=>by cases h;rfl
 |(_+3),f,h=>by simp[f8] at h,fun F=>bu (by kernel_rfl) (pN F)⟩⟩
theorem sz51k:(Tryz.prog.info? 51).map (·.size)=some (Kd.n dW):=by kernel_rfl
theorem kt51:KT Tryz.prog 51 dW:=⟨by kernel_rfl,by kernel_rfl⟩
theorem lS (F:Fz):Kd.rd fg F ([.slice none 0 0]++[.slice none 0 0]++[.slice none 0 0]++[]) (⟨[],[],(.slice none 0 0)⟩:bV):=⟨[.slice none 0 0],_,rfl,⟨none,0,rfl,Nat.le_refl _,.inl rfl⟩,⟨[.slice none 0 0],_,rfl,⟨none,0,rfl,Nat.le_refl _,.inl rfl⟩,⟨[.slice none 0 0],_,rfl,⟨rfl,rfl⟩,rfl⟩⟩⟩
theorem pO:BT Tryz.prog 51 iT (⟨[],[],(.slice none 0 0)⟩:bV):=⟨⟨Tryz.t51,(.agg #[.slice none 0 0,.slice none 0 0,.slice none 0 0]:Value),_,[(0,1),(1,1),(2,1)],by kernel_rfl,by kernel_rfl,Tryz.underlying51,by kernel_rfl,fun i f h=>match i,f,h with
 |0,f,h=>by cases h;rfl
 |1,f,h=>by cases h;rfl
 |2,f,h=>by cases h;rfl
 |(_+3),f,h=>by simp[iT] at h,fun F=>bu (by kernel_rfl) (lS F)⟩⟩
theorem ZT51k:ZT Tryz.prog 51 fg (⟨[],[],(.slice none 0 0)⟩:bV):=⟨(.agg #[.slice none 0 0,.slice none 0 0,.slice none 0 0]:Value),by kernel_rfl,fun F=>aD (by kernel_rfl) (lS F)⟩
theorem sz51k1:(Tryz.prog.info? 51).map (·.size)=some (Kd.n fg):=by kernel_rfl
theorem za:fldB Tryz.prog 51 2=some (2,0+1):=by kernel_rfl
theorem kz:UpF iT 2 ⟨kRaw,bV.Chunks⟩ (fun x y=>{x with Chunks:=y}):=⟨rfl,fun _ _=>rfl,fun _ _=>⟨rfl,⟨rfl,(fun q hq=>by simp at hq)⟩⟩⟩
theorem kt44k:KT Tryz.prog 44 kRaw:=⟨by kernel_rfl,by kernel_rfl⟩
theorem sz44k:(Tryz.prog.info? 44).map (·.size)=some (Kd.n kRaw):=by kernel_rfl
theorem fb51k:fldB Tryz.prog 51 0=some (offF f8 0,0+1):=by kernel_rfl
theorem tX (F:Fz):Kd.rd (kInt .i64) F [.int .i64 0] (0:Int):=rfl
theorem AT3:AT Tryz.prog 3 (kInt .i64) (0:Int) 8:=⟨⟨Tryz.t3,(.int .i64 0:Value),by kernel_rfl,by kernel_rfl,by kernel_rfl,by kernel_rfl,by decide,by decide,fun F=>aD (by kernel_rfl) (tX F)⟩⟩
theorem ET3:ET Tryz.prog 3 (kInt .i64) (0:Int):=⟨⟨Tryz.t3,(.int .i64 0:Value),by kernel_rfl,by kernel_rfl,by kernel_rfl,by decide,fun F=>aD (by kernel_rfl) (tX F)⟩⟩
theorem sz3:(Tryz.prog.info? 3).map (·.size)=some (Kd.n (kInt .i64)):=by kernel_rfl
theorem sz66:(Tryz.prog.info? 66).map (·.size)=some (Kd.n aT):=by kernel_rfl
theorem fb66k1:fldB Tryz.prog 66 0=some (offF gz 0,0+1):=by kernel_rfl
theorem lm (F:Fz):Kd.rd ge F (([.slice none 0 0]++[.slice none 0 0]++[.slice none 0 0]++[])++[.slice none 0 0]++[.slice none 0 0]++[]) (⟨(⟨[],[],[]⟩:aP),[],(.slice none 0 0)⟩:be):=⟨([.slice none 0 0]++[.slice none 0 0]++[.slice none 0 0]++[]),_,rfl,⟨[.slice none 0 0],_,rfl,⟨none,0,rfl,Nat.le_refl _,.inl rfl⟩,⟨[.slice none 0 0],_,rfl,⟨none,0,rfl,Nat.le_refl _,.inl rfl⟩,⟨[.slice none 0 0],_,rfl,⟨none,0,rfl,Nat.le_refl _,.inl rfl⟩,rfl⟩⟩⟩,⟨[.slice none 0 0],_,rfl,⟨none,0,rfl,Nat.le_refl _,.inl rfl⟩,⟨[.slice none 0 0],_,rfl,⟨rfl,rfl⟩,rfl⟩⟩⟩
theorem ZT163k:ZT Tryz.prog 163 ge (⟨(⟨[],[],[]⟩:aP),[],(.slice none 0 0)⟩:be):=⟨(.agg #[.slice none 0 0,.slice none 0 0,.slice none 0 0,.slice none 0 0,.slice none 0 0]:Value),by kernel_rfl,fun F=>aD (by kernel_rfl) (lm F)⟩
theorem wq:fldB Tryz.prog 163 1=some (3,0+1):=by kernel_rfl
theorem iE:UpF eU 1 ⟨kSl (kInt .i64),be.sizes⟩ (fun x y=>{x with sizes:=y}):=⟨rfl,fun _ _=>rfl,fun _ _=>⟨rfl,(by intro q hq;simp only[List.mem_cons,List.not_mem_nil,or_false] at hq;rcases hq with rfl<;>rfl)⟩⟩
theorem sz68k:(Tryz.prog.info? 68).map (·.size)=some (Kd.n (kSl (kInt .i64))):=by kernel_rfl
theorem ee:BT Tryz.prog 163 eU (⟨(⟨[],[],[]⟩:aP),[],(.slice none 0 0)⟩:be):=⟨⟨Tryz.t163,(.agg #[.slice none 0 0,.slice none 0 0,.slice none 0 0,.slice none 0 0,.slice none 0 0]:Value),_,[(0,3),(3,1),(4,1)],by kernel_rfl,by kernel_rfl,Tryz.underlying163,by kernel_rfl,fun i f h=>match i,f,h with
 |0,f,h=>by cases h;rfl
 |1,f,h=>by cases h;rfl
 |2,f,h=>by cases h;rfl
 |(_+3),f,h=>by simp[eU] at h,fun F=>bu (by kernel_rfl) (lm F)⟩⟩
theorem sz163k:(Tryz.prog.info? 163).map (·.size)=some (Kd.n ge):=by kernel_rfl
theorem kt163:KT Tryz.prog 163 gd:=⟨by kernel_rfl,by kernel_rfl⟩
theorem wt:fldB Tryz.prog 163 0=some (0,2+1):=by kernel_rfl
theorem iF:UpF eU 0 ⟨dW,be.parts⟩ (fun x y=>{x with parts:=y}):=⟨rfl,fun _ _=>rfl,fun _ _=>(by intro q hq;simp only[List.mem_cons,List.not_mem_nil,or_false] at hq;rcases hq with rfl|rfl<;>rfl)⟩
theorem Dd:fldB Tryz.prog 51 1=some (1,0+1):=by kernel_rfl
theorem tY:UpF f8 1 ⟨kSl (kInt .u8),aP.Braid⟩ (fun x y=>{x with Braid:=y}):=⟨rfl,fun _ _=>rfl,fun _ _=>⟨rfl,(by intro q hq;simp only[List.mem_cons,List.not_mem_nil,or_false] at hq;rcases hq with rfl<;>rfl)⟩⟩
theorem kt22k1:KT Tryz.prog 22 (kSl (kInt .u8)):=⟨by kernel_rfl,by kernel_rfl⟩
theorem Cd (F:Fz):Kd.rd kRaw F [.slice none 0 0] (.slice none 0 0):=⟨rfl,rfl⟩
theorem ZT68k:ZT Tryz.prog 68 kRaw (.slice none 0 0):=⟨(.slice none 0 0:Value),by kernel_rfl,fun F=>aD (by kernel_rfl) (Cd F)⟩
theorem sz68k1:(Tryz.prog.info? 68).map (·.size)=some (Kd.n kRaw):=by kernel_rfl
theorem pP (F:Fz):Kd.rd bP F ([.string ByteArray.empty]++[.int .i64 0]++[]) (⟨[],(0:Int)⟩:aJ):=⟨[.string ByteArray.empty],_,rfl,⟨_,rfl,rfl⟩,⟨[.int .i64 0],_,rfl,rfl,rfl⟩⟩
theorem ZT312:ZT Tryz.prog 312 bP (⟨[],(0:Int)⟩:aJ):=⟨(.agg #[.string ByteArray.empty,.int .i64 0]:Value),by kernel_rfl,fun F=>aD (by kernel_rfl) (pP F)⟩
theorem BT312:BT Tryz.prog 312 jB (⟨[],(0:Int)⟩:aJ):=⟨⟨Tryz.t312,(.agg #[.string ByteArray.empty,.int .i64 0]:Value),_,[(0,1),(1,1)],by kernel_rfl,by kernel_rfl,Tryz.underlying312,by kernel_rfl,fun i f h=>match i,f,h with
 |0,f,h=>by cases h;rfl
 |1,f,h=>by cases h;rfl
 |(_+2),f,h=>by simp[jB] at h,fun F=>bu (by kernel_rfl) (pP F)⟩⟩
theorem sz312k:(Tryz.prog.info? 312).map (·.size)=some (Kd.n bP):=by kernel_rfl
theorem kt312:KT Tryz.prog 312 bP:=⟨by kernel_rfl,by kernel_rfl⟩
theorem kt312k:KT Tryz.prog 312 bP:=⟨by kernel_rfl,by kernel_rfl⟩
theorem fb312k:fldB Tryz.prog 312 0=some (offF jB 0,0+1):=by kernel_rfl
theorem kt9:KT Tryz.prog 9 kStr:=⟨by kernel_rfl,by kernel_rfl⟩
theorem fb312k1:fldB Tryz.prog 312 1=some (offF jB 1,0+1):=by kernel_rfl
theorem kt68k:KT Tryz.prog 68 kRaw:=⟨by kernel_rfl,by kernel_rfl⟩
theorem kt68k1:KT Tryz.prog 68 (kSl (kInt .i64)):=⟨by kernel_rfl,by kernel_rfl⟩
theorem zY:fldB Tryz.prog 163 2=some (4,0+1):=by kernel_rfl
theorem kh:UpF eU 2 ⟨kRaw,be.starts⟩ (fun x y=>{x with starts:=y}):=⟨rfl,fun _ _=>rfl,fun _ _=>⟨rfl,⟨rfl,(fun q hq=>by simp at hq)⟩⟩⟩
theorem tZ:UpF f8 2 ⟨kSl (kSl (kInt .u8)),aP.Chunks⟩ (fun x y=>{x with Chunks:=y}):=⟨rfl,fun _ _=>rfl,fun _ _=>⟨rfl,⟨rfl,(fun q hq=>by simp at hq)⟩⟩⟩
theorem kt44k1:KT Tryz.prog 44 (kSl (kSl (kInt .u8))):=⟨by kernel_rfl,by kernel_rfl⟩
theorem lT (F:Fz):Kd.rd (kSl (kInt .i64)) F [.slice none 0 0] []:=⟨none,0,rfl,Nat.le_refl _,.inl rfl⟩
theorem ET68:ET Tryz.prog 68 (kSl (kInt .i64)) []:=⟨⟨Tryz.t68,(.slice none 0 0:Value),by kernel_rfl,by kernel_rfl,by kernel_rfl,by decide,fun F=>aD (by kernel_rfl) (lT F)⟩⟩
theorem AT68:AT Tryz.prog 68 (kSl (kInt .i64)) [] 24:=⟨⟨Tryz.t68,(.slice none 0 0:Value),by kernel_rfl,by kernel_rfl,by kernel_rfl,by kernel_rfl,by decide,by decide,fun F=>aD (by kernel_rfl) (lT F)⟩⟩
abbrev mL:(List Int)→Value→Value:=fun _ q=>q
abbrev mM:(List Int)→(List Int):=fun x=>x
theorem AY:Free kRaw:=Free.raw
theorem vi:Free (kInt .i64):=Free.int
theorem AZ:∀F x q,(kSl (kInt .i64)).val F q (mM x)→∀cs,kRaw.rd F cs (mL x q)→(kSl (kInt .i64)).rd F cs x:=fun F x q hv=>jX hv
theorem AT68k:AT Tryz.prog 68 kRaw (.slice none 0 0) 24:=⟨⟨Tryz.t68,(.slice none 0 0:Value),by kernel_rfl,by kernel_rfl,by kernel_rfl,by kernel_rfl,by decide,by decide,fun F=>aD (by kernel_rfl) (Cd F)⟩⟩
theorem sz68:(Tryz.prog.info? 68).map (·.size)=some (Kd.n (kSl (kInt .i64))):=by kernel_rfl
theorem kt68:KT Tryz.prog 68 (kSl (kInt .i64)):=⟨by kernel_rfl,by kernel_rfl⟩
theorem kt163k:KT Tryz.prog 163 gd:=⟨by kernel_rfl,by kernel_rfl⟩
theorem sz163k1:(Tryz.prog.info? 163).map (·.size)=some (Kd.n gd):=by kernel_rfl
theorem ue (F:Fz):Kd.rd gd F (([.slice none 0 0]++[.slice none 0 0]++[.slice none 0 0]++[])++[.slice none 0 0]++[.slice none 0 0]++[]) (⟨(⟨[],[],[]⟩:aP),[],[]⟩:bp):=⟨([.slice none 0 0]++[.slice none 0 0]++[.slice none 0 0]++[]),_,rfl,⟨[.slice none 0 0],_,rfl,⟨none,0,rfl,Nat.le_refl _,.inl rfl⟩,⟨[.slice none 0 0],_,rfl,⟨none,0,rfl,Nat.le_refl _,.inl rfl⟩,⟨[.slice none 0 0],_,rfl,⟨none,0,rfl,Nat.le_refl _,.inl rfl⟩,rfl⟩⟩⟩,⟨[.slice none 0 0],_,rfl,⟨none,0,rfl,Nat.le_refl _,.inl rfl⟩,⟨[.slice none 0 0],_,rfl,⟨none,0,rfl,Nat.le_refl _,.inl rfl⟩,rfl⟩⟩⟩
theorem ZT163:ZT Tryz.prog 163 gd (⟨(⟨[],[],[]⟩:aP),[],[]⟩:bp):=⟨(.agg #[.slice none 0 0,.slice none 0 0,.slice none 0 0,.slice none 0 0,.slice none 0 0]:Value),by kernel_rfl,fun F=>aD (by kernel_rfl) (ue F)⟩
theorem fb163k:fldB Tryz.prog 163 1=some (offF eg 1,0+1):=by kernel_rfl
theorem fb163k1:fldB Tryz.prog 163 2=some (offF eg 2,0+1):=by kernel_rfl
theorem CR (F:Fz):Kd.rd kQ F [.bool false] false:=rfl
theorem AT4:AT Tryz.prog 4 kQ false 1:=⟨⟨Tryz.t4,(.bool false:Value),by kernel_rfl,by kernel_rfl,by kernel_rfl,by kernel_rfl,by decide,by decide,fun F=>aD (by kernel_rfl) (CR F)⟩⟩
theorem sz4k:(Tryz.prog.info? 4).map (·.size)=some (Kd.n kQ):=by kernel_rfl
theorem kt4k:KT Tryz.prog 4 kQ:=⟨by kernel_rfl,by kernel_rfl⟩
theorem zZ:fldB Tryz.prog 152 0=some (0,0+1):=by kernel_rfl
theorem mN:UpF fF 0 ⟨kInt .i64,af.Number⟩ (fun x y=>{x with Number:=y}):=⟨rfl,fun _ _=>rfl,fun _ _=>(by intro q hq;simp only[List.mem_cons,List.not_mem_nil,or_false] at hq;rcases hq with rfl<;>rfl)⟩
abbrev cw:af→Value→au:=fun x q=>⟨x.Number,q⟩
abbrev cP:af→List (List Int):=fun x=>x.Tags
theorem bq:Free (aF):=Free.st2 Free.int Free.raw
theorem br:Free (kArr 16 (kInt .u8)):=Free.arr Free.int
theorem nK:∀F x q,(kSl (kArr 16 (kInt .u8))).val F q (cP x)→∀cs,(aF).rd F cs (cw x q)→(aA).rd F cs x:=fun F x q hv cs h=>rZ (fs':=gf) (fs:=fF) (x':=cw x q) (x:=x) ⟨fun _ h=>h,jX hv,trivial⟩ h
theorem iy (F:Fz):Kd.rd aF F ([.int .i64 0]++[.slice none 0 0]++[]) (⟨(0:Int),(.slice none 0 0)⟩:au):=⟨[.int .i64 0],_,rfl,rfl,⟨[.slice none 0 0],_,rfl,⟨rfl,rfl⟩,rfl⟩⟩
theorem dy:BT Tryz.prog 152 gf (⟨(0:Int),(.slice none 0 0)⟩:au):=⟨⟨Tryz.t152,(.agg #[.int .i64 0,.slice none 0 0]:Value),_,[(0,1),(1,1)],by kernel_rfl,by kernel_rfl,Tryz.underlying152,by kernel_rfl,fun i f h=>match i,f,h with
 |0,f,h=>by cases h;rfl
 |1,f,h=>by cases h;rfl
 |(_+2),f,h=>by simp[gf] at h,fun F=>bu (by kernel_rfl) (iy F)⟩⟩
theorem ET152k:ET Tryz.prog 152 aF (⟨(0:Int),(.slice none 0 0)⟩:au):=⟨⟨Tryz.t152,(.agg #[.int .i64 0,.slice none 0 0]:Value),by kernel_rfl,by kernel_rfl,by kernel_rfl,by decide,fun F=>aD (by kernel_rfl) (iy F)⟩⟩
theorem AT152k:AT Tryz.prog 152 aF (⟨(0:Int),(.slice none 0 0)⟩:au) 32:=⟨⟨Tryz.t152,(.agg #[.int .i64 0,.slice none 0 0]:Value),by kernel_rfl,by kernel_rfl,by kernel_rfl,by kernel_rfl,by decide,by decide,fun F=>aD (by kernel_rfl) (iy F)⟩⟩
theorem sz152k1:(Tryz.prog.info? 152).map (·.size)=some (Kd.n aF):=by kernel_rfl
theorem kt152k:KT Tryz.prog 152 aF:=⟨by kernel_rfl,by kernel_rfl⟩
theorem ZT152k:ZT Tryz.prog 152 aF (⟨(0:Int),(.slice none 0 0)⟩:au):=⟨(.agg #[.int .i64 0,.slice none 0 0]:Value),by kernel_rfl,fun F=>aD (by kernel_rfl) (iy F)⟩
theorem kF:UpF gf 1 ⟨kRaw,au.Tags⟩ (fun x y=>{x with Tags:=y}):=⟨rfl,fun _ _=>rfl,fun _ _=>⟨rfl,(fun q hq=>by simp at hq)⟩⟩
theorem kt85k1:KT Tryz.prog 85 kRaw:=⟨by kernel_rfl,by kernel_rfl⟩
theorem nL (F:Fz):Kd.rd bv F ([.int .i64 0]++[.int .i64 0]++[.int .i64 0]++[]) (⟨(0:Int),(0:Int),(0:Int)⟩:ab):=⟨[.int .i64 0],_,rfl,rfl,⟨[.int .i64 0],_,rfl,rfl,⟨[.int .i64 0],_,rfl,rfl,rfl⟩⟩⟩
theorem BT43:BT Tryz.prog 43 ef (⟨(0:Int),(0:Int),(0:Int)⟩:ab):=⟨⟨Tryz.t43,(.agg #[.int .i64 0,.int .i64 0,.int .i64 0]:Value),_,[(0,1),(1,1),(2,1)],by kernel_rfl,by kernel_rfl,Tryz.underlying43,by kernel_rfl,fun i f h=>match i,f,h with
 |0,f,h=>by cases h;rfl
 |1,f,h=>by cases h;rfl
 |2,f,h=>by cases h;rfl
 |(_+3),f,h=>by simp[ef] at h,fun F=>bu (by kernel_rfl) (nL F)⟩⟩
theorem kt43:KT Tryz.prog 43 bv:=⟨by kernel_rfl,by kernel_rfl⟩
theorem De:fldB Tryz.prog 34 3=some (3,0+1):=by kernel_rfl
theorem ru:UpF eY 3 ⟨kInt .i64,ai.Noise⟩ (fun x y=>{x with Noise:=y}):=⟨rfl,fun _ _=>rfl,fun _ _=>⟨rfl,⟨rfl,⟨rfl,(by intro q hq;simp only[List.mem_cons,List.not_mem_nil,or_false] at hq;rcases hq with rfl<;>rfl)⟩⟩⟩⟩
theorem Df:fldB Tryz.prog 34 4=some (4,0+1):=by kernel_rfl
theorem rv:UpF eY 4 ⟨kInt .i64,ai.Out⟩ (fun x y=>{x with Out:=y}):=⟨rfl,fun _ _=>rfl,fun _ _=>⟨rfl,⟨rfl,⟨rfl,⟨rfl,(fun q hq=>by simp at hq)⟩⟩⟩⟩⟩
theorem fb37k:fldB Tryz.prog 37 3=some (offF ek 3,0+1):=by kernel_rfl
theorem kt35:KT Tryz.prog 35 (kInt .i64):=⟨by kernel_rfl,by kernel_rfl⟩
theorem BT87:BT Tryz.prog 87 eX (⟨(⟨(0:Int),(0:Int),(0:Int)⟩:ab),(0:Int),[],[]⟩:aN):=⟨⟨Tryz.t87,(.agg #[.int .i64 0,.int .i64 0,.int .i64 0,.int .i64 0,.slice none 0 0,.slice none 0 0]:Value),_,[(0,3),(3,1),(4,1),(5,1)],by kernel_rfl,by kernel_rfl,Tryz.underlying87,by kernel_rfl,fun i f h=>match i,f,h with
 |0,f,h=>by cases h;rfl
 |1,f,h=>by cases h;rfl
 |2,f,h=>by cases h;rfl
 |3,f,h=>by cases h;rfl
 |(_+4),f,h=>by simp[eX] at h,fun F=>bu (by kernel_rfl) (nu F)⟩⟩
theorem sz87k:(Tryz.prog.info? 87).map (·.size)=some (Kd.n aI):=by kernel_rfl
theorem kt87:KT Tryz.prog 87 aI:=⟨by kernel_rfl,by kernel_rfl⟩
theorem fb37k1:fldB Tryz.prog 37 2=some (offF ek 2,4+1):=by kernel_rfl
theorem fb34k:fldB Tryz.prog 34 3=some (offF eY 3,0+1):=by kernel_rfl
theorem ki (F:Fz):Kd.rd cp F (([.int .i64 0]++[.int .i64 0]++[.int .i64 0]++[])++[.int .i64 0]++[.slice none 0 0]++[.slice none 0 0]++[]) (⟨(⟨(0:Int),(0:Int),(0:Int)⟩:ab),(0:Int),(.slice none 0 0),(.slice none 0 0)⟩:aQ):=⟨([.int .i64 0]++[.int .i64 0]++[.int .i64 0]++[]),_,rfl,⟨[.int .i64 0],_,rfl,rfl,⟨[.int .i64 0],_,rfl,rfl,⟨[.int .i64 0],_,rfl,rfl,rfl⟩⟩⟩,⟨[.int .i64 0],_,rfl,rfl,⟨[.slice none 0 0],_,rfl,⟨rfl,rfl⟩,⟨[.slice none 0 0],_,rfl,⟨rfl,rfl⟩,rfl⟩⟩⟩⟩
theorem mO:BT Tryz.prog 87 dU (⟨(⟨(0:Int),(0:Int),(0:Int)⟩:ab),(0:Int),(.slice none 0 0),(.slice none 0 0)⟩:aQ):=⟨⟨Tryz.t87,(.agg #[.int .i64 0,.int .i64 0,.int .i64 0,.int .i64 0,.slice none 0 0,.slice none 0 0]:Value),_,[(0,3),(3,1),(4,1),(5,1)],by kernel_rfl,by kernel_rfl,Tryz.underlying87,by kernel_rfl,fun i f h=>match i,f,h with
 |0,f,h=>by cases h;rfl
 |1,f,h=>by cases h;rfl
 |2,f,h=>by cases h;rfl
 |3,f,h=>by cases h;rfl
 |(_+4),f,h=>by simp[dU] at h,fun F=>bu (by kernel_rfl) (ki F)⟩⟩
theorem ZT87k:ZT Tryz.prog 87 cp (⟨(⟨(0:Int),(0:Int),(0:Int)⟩:ab),(0:Int),(.slice none 0 0),(.slice none 0 0)⟩:aQ):=⟨(.agg #[.int .i64 0,.int .i64 0,.int .i64 0,.int .i64 0,.slice none 0 0,.slice none 0 0]:Value),by kernel_rfl,fun F=>aD (by kernel_rfl) (ki F)⟩
theorem sz87k1:(Tryz.prog.info? 87).map (·.size)=some (Kd.n cp):=by kernel_rfl
theorem Dg:fldB Tryz.prog 87 0=some (0,2+1):=by kernel_rfl
theorem mP:UpF dU 0 ⟨bv,aQ.Header⟩ (fun x y=>{x with Header:=y}):=⟨rfl,fun _ _=>rfl,fun _ _=>(by intro q hq;simp only[List.mem_cons,List.not_mem_nil,or_false] at hq;rcases hq with rfl|rfl|rfl<;>rfl)⟩
theorem Dh:fldB Tryz.prog 87 3=some (5,0+1):=by kernel_rfl
theorem mQ:UpF dU 3 ⟨kRaw,aQ.Nonces⟩ (fun x y=>{x with Nonces:=y}):=⟨rfl,fun _ _=>rfl,fun _ _=>⟨rfl,⟨rfl,⟨rfl,(fun q hq=>by simp at hq)⟩⟩⟩⟩
theorem wu:fldB Tryz.prog 87 2=some (4,0+1):=by kernel_rfl
theorem eZ:UpF dU 2 ⟨kRaw,aQ.From⟩ (fun x y=>{x with From:=y}):=⟨rfl,fun _ _=>rfl,fun _ _=>⟨rfl,⟨rfl,(by intro q hq;simp only[List.mem_cons,List.not_mem_nil,or_false] at hq;rcases hq with rfl<;>rfl)⟩⟩⟩
theorem fb37k2:fldB Tryz.prog 37 0=some (offF ek 0,0+1):=by kernel_rfl
abbrev str1:ByteArray:=⟨#[67,72,82,78,1,1,0,0,0,0,0,0,0,0,0,7,0,0,0,0,0,0,0,1,26,177,1,54]⟩
theorem CS:rdOf (.raw (.string str1)) kStr [67,72,82,78,1,1,0,0,0,0,0,0,0,0,0,7,0,0,0,0,0,0,0,1,26,177,1,54]:=rdS (by kernel_rfl)
theorem fb87k:fldB Tryz.prog 87 1=some (offF eX 1,0+1):=by kernel_rfl
theorem fb87k1:fldB Tryz.prog 87 0=some (offF eX 0,2+1):=by kernel_rfl
theorem ZT43:ZT Tryz.prog 43 bv (⟨(0:Int),(0:Int),(0:Int)⟩:ab):=⟨(.agg #[.int .i64 0,.int .i64 0,.int .i64 0]:Value),by kernel_rfl,fun F=>aD (by kernel_rfl) (nL F)⟩
theorem sz43k:(Tryz.prog.info? 43).map (·.size)=some (Kd.n bv):=by kernel_rfl
theorem fb87k2:fldB Tryz.prog 87 2=some (offF eX 2,0+1):=by kernel_rfl
theorem fb87k3:fldB Tryz.prog 87 3=some (offF eX 3,0+1):=by kernel_rfl
theorem Ce {P:Program} {ops:Array Oper} {rest:List Oper} {Q:Exit→Act→World→Prop} {F0:Fz} {n:Nat} {E:List (Nat×SV)} {L:List Res} {o0 o1 o2 o3 o4 o5 o6:Oper} (d:Nat) (e:Bool) (k:Under F0 n ((d,.raw (.bool e))::E) L (wpList P ops Q rest)) (h:Under F0 n ((d,.raw (.bool e))::E) L (wpList P ops Q rest)→Under F0 n E L (wpList P ops Q (o0::o1::o2::o3::o4::o5::o6::rest))):Under F0 n E L (wpList P ops Q (o0::o1::o2::o3::o4::o5::o6::rest)):=h k
theorem Dv {P:Program} {ops:Array Oper} {rest:List Oper} {C:World→Prop} {Qa:Act→Prop} {F0:Fz} {n:Nat} {E:List (Nat×SV)} {o0 o1 o2 o3 o4 o5 o6:Oper} (d:Nat) (e:Bool) (k:aM F0 n ((d,.raw (.bool e))::E) (wpQuiet P ops C Qa rest)) (h:aM F0 n ((d,.raw (.bool e))::E) (wpQuiet P ops C Qa rest)→aM F0 n E (wpQuiet P ops C Qa (o0::o1::o2::o3::o4::o5::o6::rest))):aM F0 n E (wpQuiet P ops C Qa (o0::o1::o2::o3::o4::o5::o6::rest)):=h k
theorem lU (F:Fz):Kd.rd cX F (([.int .i64 0]++[.int .i64 0]++[.int .i64 0]++[])++[.slice none 0 0]++[]) (⟨(⟨(0:Int),(0:Int),(0:Int)⟩:ab),(.slice none 0 0)⟩:bo):=⟨([.int .i64 0]++[.int .i64 0]++[.int .i64 0]++[]),_,rfl,⟨[.int .i64 0],_,rfl,rfl,⟨[.int .i64 0],_,rfl,rfl,⟨[.int .i64 0],_,rfl,rfl,rfl⟩⟩⟩,⟨[.slice none 0 0],_,rfl,⟨rfl,rfl⟩,rfl⟩⟩
theorem pQ:BT Tryz.prog 46 gg (⟨(⟨(0:Int),(0:Int),(0:Int)⟩:ab),(.slice none 0 0)⟩:bo):=⟨⟨Tryz.t46,(.agg #[.int .i64 0,.int .i64 0,.int .i64 0,.slice none 0 0]:Value),_,[(0,3),(3,1)],by kernel_rfl,by kernel_rfl,Tryz.underlying46,by kernel_rfl,fun i f h=>match i,f,h with
 |0,f,h=>by cases h;rfl
 |1,f,h=>by cases h;rfl
 |(_+2),f,h=>by simp[gg] at h,fun F=>bu (by kernel_rfl) (lU F)⟩⟩
theorem ZT46k:ZT Tryz.prog 46 cX (⟨(⟨(0:Int),(0:Int),(0:Int)⟩:ab),(.slice none 0 0)⟩:bo):=⟨(.agg #[.int .i64 0,.int .i64 0,.int .i64 0,.slice none 0 0]:Value),by kernel_rfl,fun F=>aD (by kernel_rfl) (lU F)⟩
theorem sz46k1:(Tryz.prog.info? 46).map (·.size)=some (Kd.n cX):=by kernel_rfl
theorem Di:fldB Tryz.prog 46 0=some (0,2+1):=by kernel_rfl
theorem pR:UpF gg 0 ⟨bv,bo.Header⟩ (fun x y=>{x with Header:=y}):=⟨rfl,fun _ _=>rfl,fun _ _=>(by intro q hq;simp only[List.mem_cons,List.not_mem_nil,or_false] at hq;rcases hq with rfl<;>rfl)⟩
theorem Cf:fldB Tryz.prog 46 1=some (3,0+1):=by kernel_rfl
theorem kK:UpF gg 1 ⟨kRaw,bo.Cells⟩ (fun x y=>{x with Cells:=y}):=⟨rfl,fun _ _=>rfl,fun _ _=>⟨rfl,(fun q hq=>by simp at hq)⟩⟩
abbrev str2:ByteArray:=⟨#[67,72,82,78,1,2,0,0,0,0,0,0,0,0,0,7,0,0,0,0,0,0,0,1,26,196,1,55]⟩
theorem CT:rdOf (.raw (.string str2)) kStr [67,72,82,78,1,2,0,0,0,0,0,0,0,0,0,7,0,0,0,0,0,0,0,1,26,196,1,55]:=rdS (by kernel_rfl)
theorem fb84k:fldB Tryz.prog 84 0=some (offF fq 0,10+1):=by kernel_rfl
theorem fb84k1:fldB Tryz.prog 84 1=some (offF fq 1,2+1):=by kernel_rfl
theorem fb84k2:fldB Tryz.prog 84 2=some (offF fq 2,0+1):=by kernel_rfl
theorem fb84k3:fldB Tryz.prog 84 3=some (offF fq 3,0+1):=by kernel_rfl
theorem fb37k3:fldB Tryz.prog 37 1=some (offF ek 1,2+1):=by kernel_rfl
theorem eqk3:EqK Tryz.prog 3 (kInt .i64) 1:=EqK.int Tryz.underlying3
instance beq_Api_Report:BEq ai:=⟨fun a b=>a.In==b.In&&(a.Malformed==b.Malformed&&(a.Replays==b.Replays&&(a.Noise==b.Noise&&(a.Out==b.Out&&(true)))))⟩
theorem eqk34:EqK Tryz.prog 34 (bU) 2:=EqK.st Tryz.underlying34 (by kernel_rfl) ⟨by decide,rfl,kt3,_,EqK.up eqk3 rfl,_,fun _ _=>rfl,⟨by decide,rfl,kt3,_,EqK.up eqk3 rfl,_,fun _ _=>rfl,⟨by decide,rfl,kt3,_,EqK.up eqk3 rfl,_,fun _ _=>rfl,⟨by decide,rfl,kt3,_,EqK.up eqk3 rfl,_,fun _ _=>rfl,⟨by decide,rfl,kt3,_,EqK.up eqk3 rfl,_,fun _ _=>rfl,fun _ _=>rfl⟩⟩⟩⟩⟩
theorem eqg34:Tryz.prog.eqGuardType Tryz.prog.depth 34=false:=by kernel_rfl
theorem fb37k4:fldB Tryz.prog 37 4=some (offF ek 4,0+1):=by kernel_rfl
theorem eqk2:EqK Tryz.prog 2 (kInt .i64) 1:=EqK.int Tryz.underlying2
instance beq_Api_Header:BEq ab:=⟨fun a b=>a.Round==b.Round&&(a.Epoch==b.Epoch&&(a.Left==b.Left&&(true)))⟩
theorem eqk43:EqK Tryz.prog 43 (bv) 2:=EqK.st Tryz.underlying43 (by kernel_rfl) ⟨by decide,rfl,kt2,_,EqK.up eqk2 rfl,_,fun _ _=>rfl,⟨by decide,rfl,kt2,_,EqK.up eqk2 rfl,_,fun _ _=>rfl,⟨by decide,rfl,kt3,_,EqK.up eqk3 rfl,_,fun _ _=>rfl,fun _ _=>rfl⟩⟩⟩
theorem eqg43:Tryz.prog.eqGuardType Tryz.prog.depth 43=false:=by kernel_rfl
theorem rw5:RdW Tryz.prog 5 (kInt .u8) (gInt .u8) bOne:=yf Tryz.underlying5
theorem cof5:Tryz.prog.cellsOf 5=1:=by kernel_rfl
theorem rw22:RdW Tryz.prog 22 (kSl (kInt .u8)) (gSl (gInt .u8)) (bSl bOne):=A7 (K:=kInt .u8) Tryz.underlying22 cof5 (by decide) rw5
theorem rw3:RdW Tryz.prog 3 (kInt .i64) (gInt .i64) bOne:=yf Tryz.underlying3
theorem cof22:Tryz.prog.cellsOf 22=1:=by kernel_rfl
theorem cof3:Tryz.prog.cellsOf 3=1:=by kernel_rfl
theorem cof24:Tryz.prog.cellsOf 24=11:=by kernel_rfl
def pS (x:am):Prop:=(gSl (gInt .u8)) x.Master∧(gInt .i64) x.Left∧(gInt .i64) x.Span∧(gInt .i64) x.Room∧(gInt .i64) x.Num∧(gInt .i64) x.Den∧(gInt .i64) x.Noise∧(gInt .i64) x.Chunks∧(gInt .i64) x.Workers∧(gInt .i64) x.Cap∧(gInt .i64) x.Shards∧True
def lI (x:am):Nat:=(bSl bOne) x.Master+(bOne x.Left+(bOne x.Span+(bOne x.Room+(bOne x.Num+(bOne x.Den+(bOne x.Noise+(bOne x.Chunks+(bOne x.Workers+(bOne x.Cap+(bOne x.Shards+0))))))))))
theorem rw24:RdW Tryz.prog 24 aO pS lI:=by
 intro H enc W _ B BA hB fuel cs x h
 obtain⟨hl,ds,hx,hf0⟩:=ow Tryz.underlying24 h
 obtain⟨d0,ds0,e0,⟨n0,p0,t0⟩,hf1⟩:=FsRd.cons hf0
 subst e0
 obtain⟨y0,r0,g0,b0⟩:=rw22 hB t0
 obtain⟨d1,ds1,e1,⟨n1,p1,t1⟩,hf2⟩:=FsRd.cons hf1
 subst e1
 obtain⟨y1,r1,g1,b1⟩:=rw3 hB t1
 obtain⟨d2,ds2,e2,⟨n2,p2,t2⟩,hf3⟩:=FsRd.cons hf2
 subst e2
 obtain⟨y2,r2,g2,b2⟩:=rw3 hB t2
 obtain⟨d3,ds3,e3,⟨n3,p3,t3⟩,hf4⟩:=FsRd.cons hf3
 subst e3
 obtain⟨y3,r3,g3,b3⟩:=rw3 hB t3
 obtain⟨d4,ds4,e4,⟨n4,p4,t4⟩,hf5⟩:=FsRd.cons hf4
 subst e4
 obtain⟨y4,r4,g4,b4⟩:=rw3 hB t4
 obtain⟨d5,ds5,e5,⟨n5,p5,t5⟩,hf6⟩:=FsRd.cons hf5
 subst e5
 obtain⟨y5,r5,g5,b5⟩:=rw3 hB t5
 obtain⟨d6,ds6,e6,⟨n6,p6,t6⟩,hf7⟩:=FsRd.cons hf6
 subst e6
 obtain⟨y6,r6,g6,b6⟩:=rw3 hB t6
 obtain⟨d7,ds7,e7,⟨n7,p7,t7⟩,hf8⟩:=FsRd.cons hf7
 subst e7
 obtain⟨y7,r7,g7,b7⟩:=rw3 hB t7
 obtain⟨d8,ds8,e8,⟨n8,p8,t8⟩,hf9⟩:=FsRd.cons hf8
 subst e8
 obtain⟨y8,r8,g8,b8⟩:=rw3 hB t8
 obtain⟨d9,ds9,e9,⟨n9,p9,t9⟩,hf10⟩:=FsRd.cons hf9
 subst e9
 obtain⟨y9,r9,g9,b9⟩:=rw3 hB t9
 obtain⟨d10,ds10,e10,⟨n10,p10,t10⟩,hf11⟩:=FsRd.cons hf10
 subst e10
 obtain⟨y10,r10,g10,b10⟩:=rw3 hB t10
 have hnil:=FsRd.nil hf11
 subst hnil
 refine⟨⟨y0,y1,y2,y3,y4,y5,y6,y7,y8,y9,y10⟩,kT (cV cof22 r0 (cV cof3 r1 (cV cof3 r2 (cV cof3 r3 (cV cof3 r4 (cV cof3 r5 (cV cof3 r6 (cV cof3 r7 (cV cof3 r8 (cV cof3 r9 (cV cof3 r10 (ox (hl.trans cof24) rfl)))))))))))),⟨g0,g1,g2,g3,g4,g5,g6,g7,g8,g9,g10,trivial⟩,?_⟩
 have:=hB.agg [d0,d1,d2,d3,d4,d5,d6,d7,d8,d9,d10]
 rw[hx]
 dsimp only at b0 b1 b2 b3 b4 b5 b6 b7 b8 b9 b10
 simp only[hB.cons,hB.nil] at this
 simp only[lI];omega
theorem rw2:RdW Tryz.prog 2 (kInt .i64) (gInt .i64) bOne:=yf Tryz.underlying2
theorem cof64:Tryz.prog.cellsOf 64=16:=by kernel_rfl
theorem rw64:RdW Tryz.prog 64 (kArr 16 (kInt .u8)) (gArr 16 (gInt .u8)) (bArr bOne):=C0 (K:=kInt .u8) Tryz.underlying64 cof64 cof5 rw5
theorem rw85:RdW Tryz.prog 85 (kSl (kArr 16 (kInt .u8))) (gSl (gArr 16 (gInt .u8))) (bSl (bArr bOne)):=A7 (K:=kArr 16 (kInt .u8)) Tryz.underlying85 cof64 (by decide) rw64
theorem cof2:Tryz.prog.cellsOf 2=1:=by kernel_rfl
theorem cof85:Tryz.prog.cellsOf 85=1:=by kernel_rfl
theorem cof152:Tryz.prog.cellsOf 152=2:=by kernel_rfl
def kL (x:af):Prop:=(gInt .i64) x.Number∧(gSl (gArr 16 (gInt .u8))) x.Tags∧True
def fG (x:af):Nat:=bOne x.Number+((bSl (bArr bOne)) x.Tags+0)
theorem rw152:RdW Tryz.prog 152 aA kL fG:=by
 intro H enc W _ B BA hB fuel cs x h
 obtain⟨hl,ds,hx,hf0⟩:=ow Tryz.underlying152 h
 obtain⟨d0,ds0,e0,⟨n0,p0,t0⟩,hf1⟩:=FsRd.cons hf0
 subst e0
 obtain⟨y0,r0,g0,b0⟩:=rw2 hB t0
 obtain⟨d1,ds1,e1,⟨n1,p1,t1⟩,hf2⟩:=FsRd.cons hf1
 subst e1
 obtain⟨y1,r1,g1,b1⟩:=rw85 hB t1
 have hnil:=FsRd.nil hf2
 subst hnil
 refine⟨⟨y0,y1⟩,kT (cV cof2 r0 (cV cof85 r1 (ox (hl.trans cof152) rfl))),⟨g0,g1,trivial⟩,?_⟩
 have:=hB.agg [d0,d1]
 rw[hx]
 dsimp only at b0 b1
 simp only[hB.cons,hB.nil] at this
 simp only[fG];omega
theorem rw25:RdW Tryz.prog 25 (kSl aA) (gSl kL) (bSl fG):=A7 (K:=aA) Tryz.underlying25 cof152 (by decide) rw152
theorem cof25:Tryz.prog.cellsOf 25=1:=by kernel_rfl
theorem cof27:Tryz.prog.cellsOf 27=2:=by kernel_rfl
def lJ (x:aa):Prop:=(gInt .i64) x.Newest∧(gSl kL) x.Epochs∧True
def gF (x:aa):Nat:=bOne x.Newest+((bSl fG) x.Epochs+0)
theorem rw27:RdW Tryz.prog 27 ah lJ gF:=by
 intro H enc W _ B BA hB fuel cs x h
 obtain⟨hl,ds,hx,hf0⟩:=ow Tryz.underlying27 h
 obtain⟨d0,ds0,e0,⟨n0,p0,t0⟩,hf1⟩:=FsRd.cons hf0
 subst e0
 obtain⟨y0,r0,g0,b0⟩:=rw2 hB t0
 obtain⟨d1,ds1,e1,⟨n1,p1,t1⟩,hf2⟩:=FsRd.cons hf1
 subst e1
 obtain⟨y1,r1,g1,b1⟩:=rw25 hB t1
 have hnil:=FsRd.nil hf2
 subst hnil
 refine⟨⟨y0,y1⟩,kT (cV cof2 r0 (cV cof25 r1 (ox (hl.trans cof27) rfl))),⟨g0,g1,trivial⟩,?_⟩
 have:=hB.agg [d0,d1]
 rw[hx]
 dsimp only at b0 b1
 simp only[hB.cons,hB.nil] at this
 simp only[gF];omega
theorem cof29:Tryz.prog.cellsOf 29=3:=by kernel_rfl
def rk (x:aq):Prop:=(gInt .i64) x.Next∧lJ x.Window∧True
def kM (x:aq):Nat:=bOne x.Next+(gF x.Window+0)
theorem rw29:RdW Tryz.prog 29 bc rk kM:=by
 intro H enc W _ B BA hB fuel cs x h
 obtain⟨hl,ds,hx,hf0⟩:=ow Tryz.underlying29 h
 obtain⟨d0,ds0,e0,⟨n0,p0,t0⟩,hf1⟩:=FsRd.cons hf0
 subst e0
 obtain⟨y0,r0,g0,b0⟩:=rw2 hB t0
 obtain⟨d1,ds1,e1,⟨n1,p1,t1⟩,hf2⟩:=FsRd.cons hf1
 subst e1
 obtain⟨y1,r1,g1,b1⟩:=rw27 hB t1
 have hnil:=FsRd.nil hf2
 subst hnil
 refine⟨⟨y0,y1⟩,kT (cV cof2 r0 (cV cof27 r1 (ox (hl.trans cof29) rfl))),⟨g0,g1,trivial⟩,?_⟩
 have:=hB.agg [d0,d1]
 rw[hx]
 dsimp only at b0 b1
 simp only[hB.cons,hB.nil] at this
 simp only[kM];omega
theorem cof84:Tryz.prog.cellsOf 84=16:=by kernel_rfl
def jl (x:cd):Prop:=pS x.C∧rk x.S∧(gSl (gInt .u8)) x.Raw∧(gSl (gInt .u8)) x.Tape∧True
def fu (x:cd):Nat:=lI x.C+(kM x.S+((bSl bOne) x.Raw+((bSl bOne) x.Tape+0)))
theorem rw84:RdW Tryz.prog 84 dX jl fu:=by
 intro H enc W _ B BA hB fuel cs x h
 obtain⟨hl,ds,hx,hf0⟩:=ow Tryz.underlying84 h
 obtain⟨d0,ds0,e0,⟨n0,p0,t0⟩,hf1⟩:=FsRd.cons hf0
 subst e0
 obtain⟨y0,r0,g0,b0⟩:=rw24 hB t0
 obtain⟨d1,ds1,e1,⟨n1,p1,t1⟩,hf2⟩:=FsRd.cons hf1
 subst e1
 obtain⟨y1,r1,g1,b1⟩:=rw29 hB t1
 obtain⟨d2,ds2,e2,⟨n2,p2,t2⟩,hf3⟩:=FsRd.cons hf2
 subst e2
 obtain⟨y2,r2,g2,b2⟩:=rw22 hB t2
 obtain⟨d3,ds3,e3,⟨n3,p3,t3⟩,hf4⟩:=FsRd.cons hf3
 subst e3
 obtain⟨y3,r3,g3,b3⟩:=rw22 hB t3
 have hnil:=FsRd.nil hf4
 subst hnil
 refine⟨⟨y0,y1,y2,y3⟩,kT (cV cof24 r0 (cV cof29 r1 (cV cof22 r2 (cV cof22 r3 (ox (hl.trans cof84) rfl))))),⟨g0,g1,g2,g3,trivial⟩,?_⟩
 have:=hB.agg [d0,d1,d2,d3]
 rw[hx]
 dsimp only at b0 b1 b2 b3
 simp only[hB.cons,hB.nil] at this
 simp only[fu];omega
theorem kt84:KT Tryz.prog 84 dX:=⟨by kernel_rfl,by kernel_rfl⟩
abbrev K0:=(kSl (kArr 16 (kInt .u8)))
abbrev K1:=(kSl (kSl (kInt .u8)))
abbrev K2:=(kArr 16 (kInt .u8))
abbrev K3:=(kArr 8 (kInt .u32))
abbrev K4:=(kArr 32 (kInt .u8))
abbrev K5:=(kArr 4 (kInt .u8))
abbrev K6:=(kSl (kInt .i64))
abbrev K7:=(kSl (kInt .u8))
abbrev K8:=(kInt .i64)
abbrev K9:=(kInt .u32)
abbrev K10:=(kInt .u8)
end Go.Proofs.YtobbmodjdkcdcaaGreatDoor

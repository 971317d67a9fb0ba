import Derived.Test.YtdkfkpbijdimkaaGreatSimD
import Derived.Test.YtdkfkpbijdimkaaGreatRows
set_option linter.unusedVariables false
set_option linter.unusedSimpArgs false
set_option maxRecDepth 20000
namespace Go.Proofs.YtdkfkpbijdimkaaGreat
open Go Go.Sim Go.ChangeShapes Go.WideShapes Go.ChangeAt Go.RowKit
set_option linter.unusedSectionVars false
variable [Fu]
structure af where
 Master:List Int
 Left:Int
 Span:Int
 Room:Int
 Num:Int
 Den:Int
 Noise:Int
 Chunks:Int
 Workers:Int
 Cap:Int
 Shards:Int
abbrev aB:List (Fld af):=[⟨kSl (kInt .u8),af.Master⟩,⟨kInt .i64,af.Left⟩,⟨kInt .i64,af.Span⟩,⟨kInt .i64,af.Room⟩,⟨kInt .i64,af.Num⟩,⟨kInt .i64,af.Den⟩,⟨kInt .i64,af.Noise⟩,⟨kInt .i64,af.Chunks⟩,⟨kInt .i64,af.Workers⟩,⟨kInt .i64,af.Cap⟩,⟨kInt .i64,af.Shards⟩]
abbrev ar:Kd af:=kSt aB
structure az where
 Number:Int
 Tags:List (List Int)
abbrev cD:List (Fld az):=[⟨kInt .i64,az.Number⟩,⟨kSl (kArr 16 (kInt .u8)),az.Tags⟩]
abbrev ai:Kd az:=kSt cD
structure aa where
 Newest:Int
 Epochs:List az
abbrev bu:List (Fld aa):=[⟨kInt .i64,aa.Newest⟩,⟨kSl ai,aa.Epochs⟩]
abbrev ak:Kd aa:=kSt bu
structure ab where
 Next:Int
 Window:aa
abbrev bp:List (Fld ab):=[⟨kInt .i64,ab.Next⟩,⟨ak,ab.Window⟩]
abbrev ah:Kd ab:=kSt bp
structure aA where
 In:Int
 Malformed:Int
 Replays:Int
 Noise:Int
 Out:Int
abbrev fG:List (Fld aA):=[⟨kInt .i64,aA.In⟩,⟨kInt .i64,aA.Malformed⟩,⟨kInt .i64,aA.Replays⟩,⟨kInt .i64,aA.Noise⟩,⟨kInt .i64,aA.Out⟩]
abbrev ed:Kd aA:=kSt fG
structure au where
 Out:List Int
 State:ab
 Report:aA
 Err:Int
 At:Int
abbrev bG:List (Fld au):=[⟨kSl (kInt .u8),au.Out⟩,⟨ah,au.State⟩,⟨ed,au.Report⟩,⟨kInt .i64,au.Err⟩,⟨kInt .i64,au.At⟩]
abbrev bv:Kd au:=kSt bG
structure am where
 config:af
 state:ab
 wait:List Int
abbrev bI:List (Fld am):=[⟨ar,am.config⟩,⟨ah,am.state⟩,⟨kSl (kInt .u8),am.wait⟩]
abbrev aP:Kd am:=kSt bI
structure aE where
 Newest:Int
 Epochs:Value
abbrev bJ:List (Fld aE):=[⟨kInt .i64,aE.Newest⟩,⟨kRaw,aE.Epochs⟩]
abbrev di:Kd aE:=kSt bJ
structure aQ where
 Next:Int
 Window:aE
abbrev cg:List (Fld aQ):=[⟨kInt .i64,aQ.Next⟩,⟨di,aQ.Window⟩]
abbrev ee:Kd aQ:=kSt cg
theorem fx (F:Fz):Kd.rd (kInt .u8) F [.int .u8 0] (0:Int):=rfl
theorem ET5:ET Tryz.prog 5 (kInt .u8) (0:Int):=⟨⟨Tryz.t5,(.int .u8 0:Value),by kernel_rfl,by kernel_rfl,by kernel_rfl,by decide,fun F=>bb (by kernel_rfl) (fx F)⟩⟩
theorem fc (F:Fz):Kd.rd ed F ([.int .i64 0]++[.int .i64 0]++[.int .i64 0]++[.int .i64 0]++[.int .i64 0]++[]) (⟨(0:Int),(0:Int),(0:Int),(0:Int),(0:Int)⟩:aA):=⟨[.int .i64 0],_,rfl,rfl,⟨[.int .i64 0],_,rfl,rfl,⟨[.int .i64 0],_,rfl,rfl,⟨[.int .i64 0],_,rfl,rfl,⟨[.int .i64 0],_,rfl,rfl,rfl⟩⟩⟩⟩⟩
theorem cq (F:Fz):Kd.rd ah F ([.int .i64 0]++([.int .i64 0]++[.slice none 0 0]++[])++[]) (⟨(0:Int),(⟨(0:Int),[]⟩:aa)⟩:ab):=⟨[.int .i64 0],_,rfl,rfl,⟨([.int .i64 0]++[.slice none 0 0]++[]),_,rfl,⟨[.int .i64 0],_,rfl,rfl,⟨[.slice none 0 0],_,rfl,⟨none,0,rfl,Nat.le_refl _,.inl rfl⟩,rfl⟩⟩,rfl⟩⟩
theorem dj (F:Fz):Kd.rd bv F ([.slice none 0 0,.int .i64 0,.int .i64 0,.slice none 0 0,.int .i64 0,.int .i64 0,.int .i64 0,.int .i64 0,.int .i64 0,.int .i64 0,.int .i64 0]:List Value) (⟨[],(⟨(0:Int),(⟨(0:Int),[]⟩:aa)⟩:ab),(⟨(0:Int),(0:Int),(0:Int),(0:Int),(0:Int)⟩:aA),(0:Int),(0:Int)⟩:au):=⟨[.slice none 0 0],[.int .i64 0,.int .i64 0,.slice none 0 0,.int .i64 0,.int .i64 0,.int .i64 0,.int .i64 0,.int .i64 0,.int .i64 0,.int .i64 0],rfl,⟨none,0,rfl,Nat.le_refl _,.inl rfl⟩,⟨([.int .i64 0]++([.int .i64 0]++[.slice none 0 0]++[])++[]),[.int .i64 0,.int .i64 0,.int .i64 0,.int .i64 0,.int .i64 0,.int .i64 0,.int .i64 0],rfl,cq F,⟨([.int .i64 0]++[.int .i64 0]++[.int .i64 0]++[.int .i64 0]++[.int .i64 0]++[]),[.int .i64 0,.int .i64 0],rfl,fc F,⟨[.int .i64 0],[.int .i64 0],rfl,rfl,⟨[.int .i64 0],[],rfl,rfl,rfl⟩⟩⟩⟩⟩
theorem ZT44:ZT Tryz.prog 44 bv (⟨[],(⟨(0:Int),(⟨(0:Int),[]⟩:aa)⟩:ab),(⟨(0:Int),(0:Int),(0:Int),(0:Int),(0:Int)⟩:aA),(0:Int),(0:Int)⟩:au):=⟨(.agg (List.replicate 1 (.slice none 0 0:Value)++List.replicate 2 (.int .i64 0:Value)++List.replicate 1 (.slice none 0 0:Value)++List.replicate 7 (.int .i64 0:Value)).toArray:Value),by kernel_rfl,fun F=>bb (by kernel_rfl) (dj F)⟩
theorem BT44:BT Tryz.prog 44 bG (⟨[],(⟨(0:Int),(⟨(0:Int),[]⟩:aa)⟩:ab),(⟨(0:Int),(0:Int),(0:Int),(0:Int),(0:Int)⟩:aA),(0:Int),(0:Int)⟩:au):=⟨⟨Tryz.t44,(.agg (List.replicate 1 (.slice none 0 0:Value)++List.replicate 2 (.int .i64 0:Value)++List.replicate 1 (.slice none 0 0:Value)++List.replicate 7 (.int .i64 0:Value)).toArray:Value),_,[(0,1),(1,3),(4,5),(9,1),(10,1)],by kernel_rfl,by kernel_rfl,Tryz.underlying44,by kernel_rfl,fun i f h=>match i,f,h with
 |0,f,h=>by cases h;rfl
 |1,f,h=>by cases h;rfl
 |2,f,h=>by cases h;rfl
 |3,f,h=>by cases h;rfl
 |4,f,h=>by cases h;rfl
 |(_+5),f,h=>by simp[bG] at h,fun F=>da (by kernel_rfl) (dj F)⟩⟩
theorem sz44k:(Tryz.prog.info? 44).map (·.size)=some (Kd.n bv):=by kernel_rfl
theorem kt44:KT Tryz.prog 44 bv:=⟨by kernel_rfl,by kernel_rfl⟩
theorem fb44k:fldB Tryz.prog 44 3=some (offF bG 3,0+1):=by kernel_rfl
theorem kt32:KT Tryz.prog 32 (kInt .i64):=⟨by kernel_rfl,by kernel_rfl⟩
theorem fb44k1:fldB Tryz.prog 44 0=some (offF bG 0,0+1):=by kernel_rfl
theorem kt22:KT Tryz.prog 22 (kSl (kInt .u8)):=⟨by kernel_rfl,by kernel_rfl⟩
theorem ZT29:ZT Tryz.prog 29 ah (⟨(0:Int),(⟨(0:Int),[]⟩:aa)⟩:ab):=⟨(.agg #[.int .i64 0,.int .i64 0,.slice none 0 0]:Value),by kernel_rfl,fun F=>bb (by kernel_rfl) (cq F)⟩
theorem BT29:BT Tryz.prog 29 bp (⟨(0:Int),(⟨(0:Int),[]⟩:aa)⟩:ab):=⟨⟨Tryz.t29,(.agg #[.int .i64 0,.int .i64 0,.slice none 0 0]:Value),_,[(0,1),(1,2)],by kernel_rfl,by kernel_rfl,Tryz.underlying29,by kernel_rfl,fun i f h=>match i,f,h with
 |0,f,h=>by cases h;rfl
 |1,f,h=>by cases h;rfl
 |(_+2),f,h=>by simp[bp] at h,fun F=>da (by kernel_rfl) (cq F)⟩⟩
theorem sz29k:(Tryz.prog.info? 29).map (·.size)=some (Kd.n ah):=by kernel_rfl
theorem kt29:KT Tryz.prog 29 ah:=⟨by kernel_rfl,by kernel_rfl⟩
theorem fb29k:fldB Tryz.prog 29 0=some (offF bp 0,0+1):=by kernel_rfl
theorem kt2:KT Tryz.prog 2 (kInt .i64):=⟨by kernel_rfl,by kernel_rfl⟩
theorem dS {P:Program} {ops:Array Oper} {rest:List Oper} {Q:Exit→Act→World→Prop} {F0:Fz} {n:Nat} {E:List (Nat×SV)} {L:List Res} {o0 o1 o2 o3 o4:Oper} (d:Nat) (e:Bool) (k:Under F0 n ((d,.raw (.bool e))::E) L (wpList P ops Q rest)) (h:Under F0 n ((d,.raw (.bool e))::E) L (wpList P ops Q rest)→Under F0 n E L (wpList P ops Q (o0::o1::o2::o3::o4::rest))):Under F0 n E L (wpList P ops Q (o0::o1::o2::o3::o4::rest)):=h k
theorem iH {P:Program} {ops:Array Oper} {rest:List Oper} {C:World→Prop} {Qa:Act→Prop} {F0:Fz} {n:Nat} {E:List (Nat×SV)} {o0 o1 o2 o3 o4:Oper} (d:Nat) (e:Bool) (k:ae F0 n ((d,.raw (.bool e))::E) (wpQuiet P ops C Qa rest)) (h:ae F0 n ((d,.raw (.bool e))::E) (wpQuiet P ops C Qa rest)→ae F0 n E (wpQuiet P ops C Qa (o0::o1::o2::o3::o4::rest))):ae F0 n E (wpQuiet P ops C Qa (o0::o1::o2::o3::o4::rest)):=h k
theorem aK {P:Program} {ops:Array Oper} {rest:List Oper} {Q:Exit→Act→World→Prop} {F0:Fz} {n:Nat} {E:List (Nat×SV)} {L:List Res} {o0 o1 o2 o3:Oper} (d:Nat) (e:Bool) (k:Under F0 n ((d,.raw (.bool e))::E) L (wpList P ops Q rest)) (h:Under F0 n ((d,.raw (.bool e))::E) L (wpList P ops Q rest)→Under F0 n E L (wpList P ops Q (o0::o1::o2::o3::rest))):Under F0 n E L (wpList P ops Q (o0::o1::o2::o3::rest)):=h k
theorem iW {P:Program} {ops:Array Oper} {rest:List Oper} {C:World→Prop} {Qa:Act→Prop} {F0:Fz} {n:Nat} {E:List (Nat×SV)} {o0 o1 o2 o3:Oper} (d:Nat) (e:Bool) (k:ae F0 n ((d,.raw (.bool e))::E) (wpQuiet P ops C Qa rest)) (h:ae F0 n ((d,.raw (.bool e))::E) (wpQuiet P ops C Qa rest)→ae F0 n E (wpQuiet P ops C Qa (o0::o1::o2::o3::rest))):ae F0 n E (wpQuiet P ops C Qa (o0::o1::o2::o3::rest)):=h k
theorem kt24:KT Tryz.prog 24 ar:=⟨by kernel_rfl,by kernel_rfl⟩
theorem kt24k:KT Tryz.prog 24 ar:=⟨by kernel_rfl,by kernel_rfl⟩
theorem fb24k:fldB Tryz.prog 24 0=some (offF aB 0,0+1):=by kernel_rfl
theorem fb24k1:fldB Tryz.prog 24 1=some (offF aB 1,0+1):=by kernel_rfl
theorem kt3:KT Tryz.prog 3 (kInt .i64):=⟨by kernel_rfl,by kernel_rfl⟩
theorem fb24k2:fldB Tryz.prog 24 2=some (offF aB 2,0+1):=by kernel_rfl
theorem fb24k3:fldB Tryz.prog 24 3=some (offF aB 3,0+1):=by kernel_rfl
theorem fb24k4:fldB Tryz.prog 24 5=some (offF aB 5,0+1):=by kernel_rfl
theorem fb24k5:fldB Tryz.prog 24 4=some (offF aB 4,0+1):=by kernel_rfl
theorem fb24k6:fldB Tryz.prog 24 6=some (offF aB 6,0+1):=by kernel_rfl
theorem fb24k7:fldB Tryz.prog 24 7=some (offF aB 7,0+1):=by kernel_rfl
theorem fb24k8:fldB Tryz.prog 24 8=some (offF aB 8,0+1):=by kernel_rfl
theorem fb24k9:fldB Tryz.prog 24 9=some (offF aB 9,0+1):=by kernel_rfl
theorem fb24k10:fldB Tryz.prog 24 10=some (offF aB 10,0+1):=by kernel_rfl
theorem dT {P:Program} {ops:Array Oper} {rest:List Oper} {Q:Exit→Act→World→Prop} {F0:Fz} {n:Nat} {E:List (Nat×SV)} {L:List Res} {o0 o1 o2 o3 o4 o5:Oper} (d:Nat) (e:Bool) (k:Under F0 n ((d,.raw (.bool e))::E) L (wpList P ops Q rest)) (h:Under F0 n ((d,.raw (.bool e))::E) L (wpList P ops Q rest)→Under F0 n E L (wpList P ops Q (o0::o1::o2::o3::o4::o5::rest))):Under F0 n E L (wpList P ops Q (o0::o1::o2::o3::o4::o5::rest)):=h k
theorem iX {P:Program} {ops:Array Oper} {rest:List Oper} {C:World→Prop} {Qa:Act→Prop} {F0:Fz} {n:Nat} {E:List (Nat×SV)} {o0 o1 o2 o3 o4 o5:Oper} (d:Nat) (e:Bool) (k:ae F0 n ((d,.raw (.bool e))::E) (wpQuiet P ops C Qa rest)) (h:ae F0 n ((d,.raw (.bool e))::E) (wpQuiet P ops C Qa rest)→ae F0 n E (wpQuiet P ops C Qa (o0::o1::o2::o3::o4::o5::rest))):ae F0 n E (wpQuiet P ops C Qa (o0::o1::o2::o3::o4::o5::rest)):=h k
theorem fb29k1:fldB Tryz.prog 29 1=some (offF bp 1,1+1):=by kernel_rfl
theorem kt27:KT Tryz.prog 27 ak:=⟨by kernel_rfl,by kernel_rfl⟩
theorem fb27k:fldB Tryz.prog 27 0=some (offF bu 0,0+1):=by kernel_rfl
theorem fb27k1:fldB Tryz.prog 27 1=some (offF bu 1,0+1):=by kernel_rfl
theorem kt25:KT Tryz.prog 25 (kSl ai):=⟨by kernel_rfl,by kernel_rfl⟩
theorem sz57:(Tryz.prog.info? 57).map (·.size)=some (Kd.n ai):=by kernel_rfl
theorem kt57:KT Tryz.prog 57 ai:=⟨by kernel_rfl,by kernel_rfl⟩
theorem cU (F:Fz):Kd.rd ai F ([.int .i64 0]++[.slice none 0 0]++[]) (⟨(0:Int),[]⟩:az):=⟨[.int .i64 0],_,rfl,rfl,⟨[.slice none 0 0],_,rfl,⟨none,0,rfl,Nat.le_refl _,.inl rfl⟩,rfl⟩⟩
theorem ZT57:ZT Tryz.prog 57 ai (⟨(0:Int),[]⟩:az):=⟨(.agg #[.int .i64 0,.slice none 0 0]:Value),by kernel_rfl,fun F=>bb (by kernel_rfl) (cU F)⟩
theorem sz57k:(Tryz.prog.info? 57).map (·.size)=some (Kd.n ai):=by kernel_rfl
theorem fb57k:fldB Tryz.prog 57 1=some (offF cD 1,0+1):=by kernel_rfl
theorem kt55:KT Tryz.prog 55 (kSl (kArr 16 (kInt .u8))):=⟨by kernel_rfl,by kernel_rfl⟩
theorem sz70:(Tryz.prog.info? 70).map (·.size)=some (Kd.n (kArr 16 (kInt .u8))):=by kernel_rfl
theorem kt70:KT Tryz.prog 70 (kArr 16 (kInt .u8)):=⟨by kernel_rfl,by kernel_rfl⟩
theorem bM (F:Fz):Kd.rd (kArr 16 (kInt .u8)) F ((List.replicate 16 [.int .u8 0]).flatten) (List.replicate 16 (0:Int)):=⟨by simp,dp (K:=kInt .u8) rfl 16⟩
theorem ZT70:ZT Tryz.prog 70 (kArr 16 (kInt .u8)) (List.replicate 16 (0:Int)):=⟨(.agg (List.replicate 16 (.int .u8 0:Value)).toArray:Value),by kernel_rfl,fun F=>bb (by kernel_rfl) (bM F)⟩
theorem sz70k:(Tryz.prog.info? 70).map (·.size)=some (Kd.n (kArr 16 (kInt .u8))):=by kernel_rfl
theorem kt5:KT Tryz.prog 5 (kInt .u8):=⟨by kernel_rfl,by kernel_rfl⟩
theorem key70:KeyK Tryz.prog 70 (kArr 16 (kInt .u8)):=KeyK.ints Tryz.underlying70 Tryz.underlying5 kt5
theorem fb57k1:fldB Tryz.prog 57 0=some (offF cD 0,0+1):=by kernel_rfl
theorem iY {P:Program} {ops:Array Oper} {rest:List Oper} {Q:Exit→Act→World→Prop} {F0:Fz} {n:Nat} {E:List (Nat×SV)} {L:List Res} {o0 o1 o2 o3 o4 o5 o6 o7 o8 o9 o10:Oper} (d:Nat) (e:Bool) (k:Under F0 n ((d,.raw (.bool e))::E) L (wpList P ops Q rest)) (h:Under F0 n ((d,.raw (.bool e))::E) L (wpList P ops Q rest)→Under F0 n E L (wpList P ops Q (o0::o1::o2::o3::o4::o5::o6::o7::o8::o9::o10::rest))):Under F0 n E L (wpList P ops Q (o0::o1::o2::o3::o4::o5::o6::o7::o8::o9::o10::rest)):=h k
theorem eX {P:Program} {ops:Array Oper} {rest:List Oper} {C:World→Prop} {Qa:Act→Prop} {F0:Fz} {n:Nat} {E:List (Nat×SV)} {o0 o1 o2 o3 o4 o5 o6 o7 o8 o9 o10:Oper} (d:Nat) (e:Bool) (k:ae F0 n ((d,.raw (.bool e))::E) (wpQuiet P ops C Qa rest)) (h:ae F0 n ((d,.raw (.bool e))::E) (wpQuiet P ops C Qa rest)→ae F0 n E (wpQuiet P ops C Qa (o0::o1::o2::o3::o4::o5::o6::o7::o8::o9::o10::rest))):ae F0 n E (wpQuiet P ops C Qa (o0::o1::o2::o3::o4::o5::o6::o7::o8::o9::o10::rest)):=h k
theorem iZ {P:Program} {ops:Array Oper} {rest:List Oper} {Q:Exit→Act→World→Prop} {F0:Fz} {n:Nat} {E:List (Nat×SV)} {L:List Res} {o0 o1 o2 o3 o4 o5 o6 o7 o8 o9 o10 o11 o12 o13 o14:Oper} (d:Nat) (e:Bool) (k:Under F0 n ((d,.raw (.bool e))::E) L (wpList P ops Q rest)) (h:Under F0 n ((d,.raw (.bool e))::E) L (wpList P ops Q rest)→Under F0 n E L (wpList P ops Q (o0::o1::o2::o3::o4::o5::o6::o7::o8::o9::o10::o11::o12::o13::o14::rest))):Under F0 n E L (wpList P ops Q (o0::o1::o2::o3::o4::o5::o6::o7::o8::o9::o10::o11::o12::o13::o14::rest)):=h k
theorem iu {P:Program} {ops:Array Oper} {rest:List Oper} {C:World→Prop} {Qa:Act→Prop} {F0:Fz} {n:Nat} {E:List (Nat×SV)} {o0 o1 o2 o3 o4 o5 o6 o7 o8 o9 o10 o11 o12 o13 o14:Oper} (d:Nat) (e:Bool) (k:ae F0 n ((d,.raw (.bool e))::E) (wpQuiet P ops C Qa rest)) (h:ae F0 n ((d,.raw (.bool e))::E) (wpQuiet P ops C Qa rest)→ae F0 n E (wpQuiet P ops C Qa (o0::o1::o2::o3::o4::o5::o6::o7::o8::o9::o10::o11::o12::o13::o14::rest))):ae F0 n E (wpQuiet P ops C Qa (o0::o1::o2::o3::o4::o5::o6::o7::o8::o9::o10::o11::o12::o13::o14::rest)):=h k
theorem gy {P:Program} {ops:Array Oper} {rest:List Oper} {Q:Exit→Act→World→Prop} {F0:Fz} {n:Nat} {E:List (Nat×SV)} {L:List Res} {o0 o1 o2 o3 o4 o5 o6 o7:Oper} (d:Nat) (e:Bool) (k:Under F0 n ((d,.raw (.bool e))::E) L (wpList P ops Q rest)) (h:Under F0 n ((d,.raw (.bool e))::E) L (wpList P ops Q rest)→Under F0 n E L (wpList P ops Q (o0::o1::o2::o3::o4::o5::o6::o7::rest))):Under F0 n E L (wpList P ops Q (o0::o1::o2::o3::o4::o5::o6::o7::rest)):=h k
theorem iI {P:Program} {ops:Array Oper} {rest:List Oper} {C:World→Prop} {Qa:Act→Prop} {F0:Fz} {n:Nat} {E:List (Nat×SV)} {o0 o1 o2 o3 o4 o5 o6 o7:Oper} (d:Nat) (e:Bool) (k:ae F0 n ((d,.raw (.bool e))::E) (wpQuiet P ops C Qa rest)) (h:ae F0 n ((d,.raw (.bool e))::E) (wpQuiet P ops C Qa rest)→ae F0 n E (wpQuiet P ops C Qa (o0::o1::o2::o3::o4::o5::o6::o7::rest))):ae F0 n E (wpQuiet P ops C Qa (o0::o1::o2::o3::o4::o5::o6::o7::rest)):=h k
theorem sz5:(Tryz.prog.info? 5).map (·.size)=some (Kd.n (kInt .u8)):=by kernel_rfl
theorem nx35:Extern.findNext Tryz.f35=none:=by kernel_rfl
theorem fd35:Extern.find Tryz.f35=some Extern.BytealgCompare.compare:=by kernel_rfl
theorem nb35:Tryz.f35.body.isNone=true:=by kernel_rfl
theorem nn35 : (Tryz.f35.name == "runtime.NumGoroutine") = false := by kernel_rfl
theorem dU {P:Program} {ops:Array Oper} {rest:List Oper} {Q:Exit→Act→World→Prop} {F0:Fz} {n:Nat} {E:List (Nat×SV)} {L:List Res} {o0 o1 o2:Oper} (d:Nat) (e:Bool) (k:Under F0 n ((d,.raw (.bool e))::E) L (wpList P ops Q rest)) (h:Under F0 n ((d,.raw (.bool e))::E) L (wpList P ops Q rest)→Under F0 n E L (wpList P ops Q (o0::o1::o2::rest))):Under F0 n E L (wpList P ops Q (o0::o1::o2::rest)):=h k
theorem i8 {P:Program} {ops:Array Oper} {rest:List Oper} {C:World→Prop} {Qa:Act→Prop} {F0:Fz} {n:Nat} {E:List (Nat×SV)} {o0 o1 o2:Oper} (d:Nat) (e:Bool) (k:ae F0 n ((d,.raw (.bool e))::E) (wpQuiet P ops C Qa rest)) (h:ae F0 n ((d,.raw (.bool e))::E) (wpQuiet P ops C Qa rest)→ae F0 n E (wpQuiet P ops C Qa (o0::o1::o2::rest))):ae F0 n E (wpQuiet P ops C Qa (o0::o1::o2::rest)):=h k
theorem iv {P:Program} {ops:Array Oper} {rest:List Oper} {Q:Exit→Act→World→Prop} {F0:Fz} {n:Nat} {E:List (Nat×SV)} {L:List Res} {o0 o1 o2 o3 o4 o5 o6 o7 o8:Oper} (d:Nat) (e:Bool) (k:Under F0 n ((d,.raw (.bool e))::E) L (wpList P ops Q rest)) (h:Under F0 n ((d,.raw (.bool e))::E) L (wpList P ops Q rest)→Under F0 n E L (wpList P ops Q (o0::o1::o2::o3::o4::o5::o6::o7::o8::rest))):Under F0 n E L (wpList P ops Q (o0::o1::o2::o3::o4::o5::o6::o7::o8::rest)):=h k
theorem i9 {P:Program} {ops:Array Oper} {rest:List Oper} {C:World→Prop} {Qa:Act→Prop} {F0:Fz} {n:Nat} {E:List (Nat×SV)} {o0 o1 o2 o3 o4 o5 o6 o7 o8:Oper} (d:Nat) (e:Bool) (k:ae F0 n ((d,.raw (.bool e))::E) (wpQuiet P ops C Qa rest)) (h:ae F0 n ((d,.raw (.bool e))::E) (wpQuiet P ops C Qa rest)→ae F0 n E (wpQuiet P ops C Qa (o0::o1::o2::o3::o4::o5::o6::o7::o8::rest))):ae F0 n E (wpQuiet P ops C Qa (o0::o1::o2::o3::o4::o5::o6::o7::o8::rest)):=h k
theorem iw:fldB Tryz.prog 24 0=some (0,0+1):=by kernel_rfl
theorem cX:UpF aB 0 ⟨kSl (kInt .u8),af.Master⟩ (fun x y=>{x with Master:=y}):=⟨rfl,fun _ _=>rfl,fun _ _=>(by intro q hq;simp only[List.mem_cons,List.not_mem_nil,or_false] at hq;rcases hq with rfl|rfl|rfl|rfl|rfl|rfl|rfl|rfl|rfl|rfl<;>rfl)⟩
theorem kt22k:KT Tryz.prog 22 (kSl (kInt .u8)):=⟨by kernel_rfl,by kernel_rfl⟩
theorem AT5:AT Tryz.prog 5 (kInt .u8) (0:Int) 1:=⟨⟨Tryz.t5,(.int .u8 0:Value),by kernel_rfl,by kernel_rfl,by kernel_rfl,by kernel_rfl,by decide,by decide,fun F=>bb (by kernel_rfl) (fx F)⟩⟩
theorem sz22k:(Tryz.prog.info? 22).map (·.size)=some (Kd.n (kSl (kInt .u8))):=by kernel_rfl
theorem eY:fldB Tryz.prog 29 1=some (1,1+1):=by kernel_rfl
theorem eZ:fldB Tryz.prog 27 1=some (1,0+1):=by kernel_rfl
theorem fa:UpF bp 1 ⟨ak,ab.Window⟩ (fun x y=>{x with Window:=y}):=⟨rfl,fun _ _=>rfl,fun _ _=>⟨rfl,(fun q hq=>by simp at hq)⟩⟩
theorem ef:UpF bu 1 ⟨kSl ai,aa.Epochs⟩ (fun x y=>{x with Epochs:=y}):=⟨rfl,fun _ _=>rfl,fun _ _=>⟨rfl,(fun q hq=>by simp at hq)⟩⟩
theorem kt25k:KT Tryz.prog 25 (kSl ai):=⟨by kernel_rfl,by kernel_rfl⟩
theorem ET57:ET Tryz.prog 57 ai (⟨(0:Int),[]⟩:az):=⟨⟨Tryz.t57,(.agg #[.int .i64 0,.slice none 0 0]:Value),by kernel_rfl,by kernel_rfl,by kernel_rfl,by decide,fun F=>bb (by kernel_rfl) (cU F)⟩⟩
theorem AT57:AT Tryz.prog 57 ai (⟨(0:Int),[]⟩:az) 32:=⟨⟨Tryz.t57,(.agg #[.int .i64 0,.slice none 0 0]:Value),by kernel_rfl,by kernel_rfl,by kernel_rfl,by kernel_rfl,by decide,by decide,fun F=>bb (by kernel_rfl) (cU F)⟩⟩
theorem bd:UpF cg 1 ⟨di,aQ.Window⟩ (fun x y=>{x with Window:=y}):=⟨rfl,fun _ _=>rfl,fun _ _=>⟨rfl,(fun q hq=>by simp at hq)⟩⟩
theorem bl:UpF bJ 1 ⟨kRaw,aE.Epochs⟩ (fun x y=>{x with Epochs:=y}):=⟨rfl,fun _ _=>rfl,fun _ _=>⟨rfl,(fun q hq=>by simp at hq)⟩⟩
theorem sz25k:(Tryz.prog.info? 25).map (·.size)=some (Kd.n kRaw):=by kernel_rfl
theorem kt25k1:KT Tryz.prog 25 kRaw:=⟨by kernel_rfl,by kernel_rfl⟩
theorem iy:fldB Tryz.prog 57 1=some (1,0+1):=by kernel_rfl
theorem dk:UpF cD 1 ⟨kSl (kArr 16 (kInt .u8)),az.Tags⟩ (fun x y=>{x with Tags:=y}):=⟨rfl,fun _ _=>rfl,fun _ _=>⟨rfl,(fun q hq=>by simp at hq)⟩⟩
theorem kt55k:KT Tryz.prog 55 (kSl (kArr 16 (kInt .u8))):=⟨by kernel_rfl,by kernel_rfl⟩
theorem ET70:ET Tryz.prog 70 (kArr 16 (kInt .u8)) (List.replicate 16 (0:Int)):=⟨⟨Tryz.t70,(.agg (List.replicate 16 (.int .u8 0:Value)).toArray:Value),by kernel_rfl,by kernel_rfl,by kernel_rfl,by decide,fun F=>bb (by kernel_rfl) (bM F)⟩⟩
theorem AT70:AT Tryz.prog 70 (kArr 16 (kInt .u8)) (List.replicate 16 (0:Int)) 16:=⟨⟨Tryz.t70,(.agg (List.replicate 16 (.int .u8 0:Value)).toArray:Value),by kernel_rfl,by kernel_rfl,by kernel_rfl,by kernel_rfl,by decide,by decide,fun F=>bb (by kernel_rfl) (bM F)⟩⟩
theorem sz55k:(Tryz.prog.info? 55).map (·.size)=some (Kd.n (kSl (kArr 16 (kInt .u8)))):=by kernel_rfl
theorem fe (F:Fz):Kd.rd ar F ([.slice none 0 0,.int .i64 0,.int .i64 0,.int .i64 0,.int .i64 0,.int .i64 0,.int .i64 0,.int .i64 0,.int .i64 0,.int .i64 0,.int .i64 0]:List Value) (⟨[],(0:Int),(0:Int),(0:Int),(0:Int),(0:Int),(0:Int),(0:Int),(0:Int),(0:Int),(0:Int)⟩:af):=⟨[.slice none 0 0],[.int .i64 0,.int .i64 0,.int .i64 0,.int .i64 0,.int .i64 0,.int .i64 0,.int .i64 0,.int .i64 0,.int .i64 0,.int .i64 0],rfl,⟨none,0,rfl,Nat.le_refl _,.inl rfl⟩,⟨[.int .i64 0],[.int .i64 0,.int .i64 0,.int .i64 0,.int .i64 0,.int .i64 0,.int .i64 0,.int .i64 0,.int .i64 0,.int .i64 0],rfl,rfl,⟨[.int .i64 0],[.int .i64 0,.int .i64 0,.int .i64 0,.int .i64 0,.int .i64 0,.int .i64 0,.int .i64 0,.int .i64 0],rfl,rfl,⟨[.int .i64 0],[.int .i64 0,.int .i64 0,.int .i64 0,.int .i64 0,.int .i64 0,.int .i64 0,.int .i64 0],rfl,rfl,⟨[.int .i64 0],[.int .i64 0,.int .i64 0,.int .i64 0,.int .i64 0,.int .i64 0,.int .i64 0],rfl,rfl,⟨[.int .i64 0],[.int .i64 0,.int .i64 0,.int .i64 0,.int .i64 0,.int .i64 0],rfl,rfl,⟨[.int .i64 0],[.int .i64 0,.int .i64 0,.int .i64 0,.int .i64 0],rfl,rfl,⟨[.int .i64 0],[.int .i64 0,.int .i64 0,.int .i64 0],rfl,rfl,⟨[.int .i64 0],[.int .i64 0,.int .i64 0],rfl,rfl,⟨[.int .i64 0],[.int .i64 0],rfl,rfl,⟨[.int .i64 0],[],rfl,rfl,rfl⟩⟩⟩⟩⟩⟩⟩⟩⟩⟩⟩
theorem dV (F:Fz):Kd.rd aP F ([.slice none 0 0,.int .i64 0,.int .i64 0,.int .i64 0,.int .i64 0,.int .i64 0,.int .i64 0,.int .i64 0,.int .i64 0,.int .i64 0,.int .i64 0,.int .i64 0,.int .i64 0,.slice none 0 0,.slice none 0 0]:List Value) (⟨(⟨[],(0:Int),(0:Int),(0:Int),(0:Int),(0:Int),(0:Int),(0:Int),(0:Int),(0:Int),(0:Int)⟩:af),(⟨(0:Int),(⟨(0:Int),[]⟩:aa)⟩:ab),[]⟩:am):=⟨([.slice none 0 0,.int .i64 0,.int .i64 0,.int .i64 0,.int .i64 0,.int .i64 0,.int .i64 0,.int .i64 0,.int .i64 0,.int .i64 0,.int .i64 0]:List Value),[.int .i64 0,.int .i64 0,.slice none 0 0,.slice none 0 0],rfl,fe F,⟨([.int .i64 0]++([.int .i64 0]++[.slice none 0 0]++[])++[]),[.slice none 0 0],rfl,cq F,⟨[.slice none 0 0],[],rfl,⟨none,0,rfl,Nat.le_refl _,.inl rfl⟩,rfl⟩⟩⟩
theorem BT51:BT Tryz.prog 51 bI (⟨(⟨[],(0:Int),(0:Int),(0:Int),(0:Int),(0:Int),(0:Int),(0:Int),(0:Int),(0:Int),(0:Int)⟩:af),(⟨(0:Int),(⟨(0:Int),[]⟩:aa)⟩:ab),[]⟩:am):=⟨⟨Tryz.t51,(.agg (List.replicate 1 (.slice none 0 0:Value)++List.replicate 12 (.int .i64 0:Value)++List.replicate 2 (.slice none 0 0:Value)).toArray:Value),_,[(0,11),(11,3),(14,1)],by kernel_rfl,by kernel_rfl,Tryz.underlying51,by kernel_rfl,fun i f h=>match i,f,h with
 |0,f,h=>by cases h;rfl
 |1,f,h=>by cases h;rfl
 |2,f,h=>by cases h;rfl
 |(_+3),f,h=>by simp[bI] at h,fun F=>da (by kernel_rfl) (dV F)⟩⟩
theorem ja {P:Program} {ops:Array Oper} {rest:List Oper} {Q:Exit→Act→World→Prop} {F0:Fz} {n:Nat} {E:List (Nat×SV)} {L:List Res} {o0 o1 o2 o3 o4 o5 o6 o7 o8 o9 o10 o11 o12 o13 o14 o15 o16:Oper} (d:Nat) (e:Bool) (k:Under F0 n ((d,.raw (.bool e))::E) L (wpList P ops Q rest)) (h:Under F0 n ((d,.raw (.bool e))::E) L (wpList P ops Q rest)→Under F0 n E L (wpList P ops Q (o0::o1::o2::o3::o4::o5::o6::o7::o8::o9::o10::o11::o12::o13::o14::o15::o16::rest))):Under F0 n E L (wpList P ops Q (o0::o1::o2::o3::o4::o5::o6::o7::o8::o9::o10::o11::o12::o13::o14::o15::o16::rest)):=h k
theorem iz {P:Program} {ops:Array Oper} {rest:List Oper} {C:World→Prop} {Qa:Act→Prop} {F0:Fz} {n:Nat} {E:List (Nat×SV)} {o0 o1 o2 o3 o4 o5 o6 o7 o8 o9 o10 o11 o12 o13 o14 o15 o16:Oper} (d:Nat) (e:Bool) (k:ae F0 n ((d,.raw (.bool e))::E) (wpQuiet P ops C Qa rest)) (h:ae F0 n ((d,.raw (.bool e))::E) (wpQuiet P ops C Qa rest)→ae F0 n E (wpQuiet P ops C Qa (o0::o1::o2::o3::o4::o5::o6::o7::o8::o9::o10::o11::o12::o13::o14::o15::o16::rest))):ae F0 n E (wpQuiet P ops C Qa (o0::o1::o2::o3::o4::o5::o6::o7::o8::o9::o10::o11::o12::o13::o14::o15::o16::rest)):=h k
theorem eqk5:EqK Tryz.prog 5 (kInt .u8) 1:=EqK.int Tryz.underlying5
theorem eqk70:EqK Tryz.prog 70 (kArr 16 (kInt .u8)) 2:=EqK.arr eqk5 kt5 Tryz.underlying70
theorem eqg70:Tryz.prog.eqGuardType Tryz.prog.depth 70=false:=by kernel_rfl
theorem iJ {P:Program} {ops:Array Oper} {rest:List Oper} {Q:Exit→Act→World→Prop} {F0:Fz} {n:Nat} {E:List (Nat×SV)} {L:List Res} {o0 o1 o2 o3 o4 o5 o6 o7 o8 o9:Oper} (d:Nat) (e:Bool) (k:Under F0 n ((d,.raw (.bool e))::E) L (wpList P ops Q rest)) (h:Under F0 n ((d,.raw (.bool e))::E) L (wpList P ops Q rest)→Under F0 n E L (wpList P ops Q (o0::o1::o2::o3::o4::o5::o6::o7::o8::o9::rest))):Under F0 n E L (wpList P ops Q (o0::o1::o2::o3::o4::o5::o6::o7::o8::o9::rest)):=h k
theorem iA {P:Program} {ops:Array Oper} {rest:List Oper} {C:World→Prop} {Qa:Act→Prop} {F0:Fz} {n:Nat} {E:List (Nat×SV)} {o0 o1 o2 o3 o4 o5 o6 o7 o8 o9:Oper} (d:Nat) (e:Bool) (k:ae F0 n ((d,.raw (.bool e))::E) (wpQuiet P ops C Qa rest)) (h:ae F0 n ((d,.raw (.bool e))::E) (wpQuiet P ops C Qa rest)→ae F0 n E (wpQuiet P ops C Qa (o0::o1::o2::o3::o4::o5::o6::o7::o8::o9::rest))):ae F0 n E (wpQuiet P ops C Qa (o0::o1::o2::o3::o4::o5::o6::o7::o8::o9::rest)):=h k
theorem fb51k:fldB Tryz.prog 51 1=some (offF bI 1,2+1):=by kernel_rfl
theorem rw5:RdW Tryz.prog 5 (kInt .u8) (gInt .u8) bOne:=gt Tryz.underlying5
theorem cof5:Tryz.prog.cellsOf 5=1:=by kernel_rfl
theorem rw22:RdW Tryz.prog 22 (kSl (kInt .u8)) (gSl (gInt .u8)) (bSl bOne):=ij (K:=kInt .u8) Tryz.underlying22 cof5 (by decide) rw5
theorem rw3:RdW Tryz.prog 3 (kInt .i64) (gInt .i64) bOne:=gt Tryz.underlying3
theorem cof22:Tryz.prog.cellsOf 22=1:=by kernel_rfl
theorem cof3:Tryz.prog.cellsOf 3=1:=by kernel_rfl
theorem cof24:Tryz.prog.cellsOf 24=11:=by kernel_rfl
def cV (x:af):Prop:=(gSl (gInt .u8)) x.Master∧(gInt .i64) x.Left∧(gInt .i64) x.Span∧(gInt .i64) x.Room∧(gInt .i64) x.Num∧(gInt .i64) x.Den∧(gInt .i64) x.Noise∧(gInt .i64) x.Chunks∧(gInt .i64) x.Workers∧(gInt .i64) x.Cap∧(gInt .i64) x.Shards∧True
def bY (x:af):Nat:=(bSl bOne) x.Master+(bOne x.Left+(bOne x.Span+(bOne x.Room+(bOne x.Num+(bOne x.Den+(bOne x.Noise+(bOne x.Chunks+(bOne x.Workers+(bOne x.Cap+(bOne x.Shards+0))))))))))
theorem rw24:RdW Tryz.prog 24 ar cV bY:=by
 intro H enc W _ B BA hB fuel cs x h
 obtain⟨hl,ds,hx,hf0⟩:=ek Tryz.underlying24 h
 obtain⟨d0,ds0,e0,⟨n0,p0,t0⟩,hf1⟩:=FsRd.cons hf0
 subst e0
 obtain⟨y0,r0,g0,b0⟩:=rw22 hB t0
 obtain⟨d1,ds1,e1,⟨n1,p1,t1⟩,hf2⟩:=FsRd.cons hf1
 subst e1
 obtain⟨y1,r1,g1,b1⟩:=rw3 hB t1
 obtain⟨d2,ds2,e2,⟨n2,p2,t2⟩,hf3⟩:=FsRd.cons hf2
 subst e2
 obtain⟨y2,r2,g2,b2⟩:=rw3 hB t2
 obtain⟨d3,ds3,e3,⟨n3,p3,t3⟩,hf4⟩:=FsRd.cons hf3
 subst e3
 obtain⟨y3,r3,g3,b3⟩:=rw3 hB t3
 obtain⟨d4,ds4,e4,⟨n4,p4,t4⟩,hf5⟩:=FsRd.cons hf4
 subst e4
 obtain⟨y4,r4,g4,b4⟩:=rw3 hB t4
 obtain⟨d5,ds5,e5,⟨n5,p5,t5⟩,hf6⟩:=FsRd.cons hf5
 subst e5
 obtain⟨y5,r5,g5,b5⟩:=rw3 hB t5
 obtain⟨d6,ds6,e6,⟨n6,p6,t6⟩,hf7⟩:=FsRd.cons hf6
 subst e6
 obtain⟨y6,r6,g6,b6⟩:=rw3 hB t6
 obtain⟨d7,ds7,e7,⟨n7,p7,t7⟩,hf8⟩:=FsRd.cons hf7
 subst e7
 obtain⟨y7,r7,g7,b7⟩:=rw3 hB t7
 obtain⟨d8,ds8,e8,⟨n8,p8,t8⟩,hf9⟩:=FsRd.cons hf8
 subst e8
 obtain⟨y8,r8,g8,b8⟩:=rw3 hB t8
 obtain⟨d9,ds9,e9,⟨n9,p9,t9⟩,hf10⟩:=FsRd.cons hf9
 subst e9
 obtain⟨y9,r9,g9,b9⟩:=rw3 hB t9
 obtain⟨d10,ds10,e10,⟨n10,p10,t10⟩,hf11⟩:=FsRd.cons hf10
 subst e10
 obtain⟨y10,r10,g10,b10⟩:=rw3 hB t10
 have hnil:=FsRd.nil hf11
 subst hnil
 refine⟨⟨y0,y1,y2,y3,y4,y5,y6,y7,y8,y9,y10⟩,dq (aO cof22 r0 (aO cof3 r1 (aO cof3 r2 (aO cof3 r3 (aO cof3 r4 (aO cof3 r5 (aO cof3 r6 (aO cof3 r7 (aO cof3 r8 (aO cof3 r9 (aO cof3 r10 (el (hl.trans cof24) rfl)))))))))))),⟨g0,g1,g2,g3,g4,g5,g6,g7,g8,g9,g10,trivial⟩,?_⟩
 have:=hB.agg [d0,d1,d2,d3,d4,d5,d6,d7,d8,d9,d10]
 rw[hx]
 dsimp only at b0 b1 b2 b3 b4 b5 b6 b7 b8 b9 b10
 simp only[hB.cons,hB.nil] at this
 simp only[bY];omega
theorem rw2:RdW Tryz.prog 2 (kInt .i64) (gInt .i64) bOne:=gt Tryz.underlying2
theorem cof70:Tryz.prog.cellsOf 70=16:=by kernel_rfl
theorem rw70:RdW Tryz.prog 70 (kArr 16 (kInt .u8)) (gArr 16 (gInt .u8)) (bArr bOne):=iN (K:=kInt .u8) Tryz.underlying70 cof70 cof5 rw5
theorem rw55:RdW Tryz.prog 55 (kSl (kArr 16 (kInt .u8))) (gSl (gArr 16 (gInt .u8))) (bSl (bArr bOne)):=ij (K:=kArr 16 (kInt .u8)) Tryz.underlying55 cof70 (by decide) rw70
theorem cof2:Tryz.prog.cellsOf 2=1:=by kernel_rfl
theorem cof55:Tryz.prog.cellsOf 55=1:=by kernel_rfl
theorem cof57:Tryz.prog.cellsOf 57=2:=by kernel_rfl
def cE (x:az):Prop:=(gInt .i64) x.Number∧(gSl (gArr 16 (gInt .u8))) x.Tags∧True
def bi (x:az):Nat:=bOne x.Number+((bSl (bArr bOne)) x.Tags+0)
theorem rw57:RdW Tryz.prog 57 ai cE bi:=by
 intro H enc W _ B BA hB fuel cs x h
 obtain⟨hl,ds,hx,hf0⟩:=ek Tryz.underlying57 h
 obtain⟨d0,ds0,e0,⟨n0,p0,t0⟩,hf1⟩:=FsRd.cons hf0
 subst e0
 obtain⟨y0,r0,g0,b0⟩:=rw2 hB t0
 obtain⟨d1,ds1,e1,⟨n1,p1,t1⟩,hf2⟩:=FsRd.cons hf1
 subst e1
 obtain⟨y1,r1,g1,b1⟩:=rw55 hB t1
 have hnil:=FsRd.nil hf2
 subst hnil
 refine⟨⟨y0,y1⟩,dq (aO cof2 r0 (aO cof55 r1 (el (hl.trans cof57) rfl))),⟨g0,g1,trivial⟩,?_⟩
 have:=hB.agg [d0,d1]
 rw[hx]
 dsimp only at b0 b1
 simp only[hB.cons,hB.nil] at this
 simp only[bi];omega
theorem rw25:RdW Tryz.prog 25 (kSl ai) (gSl cE) (bSl bi):=ij (K:=ai) Tryz.underlying25 cof57 (by decide) rw57
theorem cof25:Tryz.prog.cellsOf 25=1:=by kernel_rfl
theorem cof27:Tryz.prog.cellsOf 27=2:=by kernel_rfl
def cW (x:aa):Prop:=(gInt .i64) x.Newest∧(gSl cE) x.Epochs∧True
def bw (x:aa):Nat:=bOne x.Newest+((bSl bi) x.Epochs+0)
theorem rw27:RdW Tryz.prog 27 ak cW bw:=by
 intro H enc W _ B BA hB fuel cs x h
 obtain⟨hl,ds,hx,hf0⟩:=ek Tryz.underlying27 h
 obtain⟨d0,ds0,e0,⟨n0,p0,t0⟩,hf1⟩:=FsRd.cons hf0
 subst e0
 obtain⟨y0,r0,g0,b0⟩:=rw2 hB t0
 obtain⟨d1,ds1,e1,⟨n1,p1,t1⟩,hf2⟩:=FsRd.cons hf1
 subst e1
 obtain⟨y1,r1,g1,b1⟩:=rw25 hB t1
 have hnil:=FsRd.nil hf2
 subst hnil
 refine⟨⟨y0,y1⟩,dq (aO cof2 r0 (aO cof25 r1 (el (hl.trans cof27) rfl))),⟨g0,g1,trivial⟩,?_⟩
 have:=hB.agg [d0,d1]
 rw[hx]
 dsimp only at b0 b1
 simp only[hB.cons,hB.nil] at this
 simp only[bw];omega
theorem cof29:Tryz.prog.cellsOf 29=3:=by kernel_rfl
def dm (x:ab):Prop:=(gInt .i64) x.Next∧cW x.Window∧True
def cm (x:ab):Nat:=bOne x.Next+(bw x.Window+0)
theorem rw29:RdW Tryz.prog 29 ah dm cm:=by
 intro H enc W _ B BA hB fuel cs x h
 obtain⟨hl,ds,hx,hf0⟩:=ek Tryz.underlying29 h
 obtain⟨d0,ds0,e0,⟨n0,p0,t0⟩,hf1⟩:=FsRd.cons hf0
 subst e0
 obtain⟨y0,r0,g0,b0⟩:=rw2 hB t0
 obtain⟨d1,ds1,e1,⟨n1,p1,t1⟩,hf2⟩:=FsRd.cons hf1
 subst e1
 obtain⟨y1,r1,g1,b1⟩:=rw27 hB t1
 have hnil:=FsRd.nil hf2
 subst hnil
 refine⟨⟨y0,y1⟩,dq (aO cof2 r0 (aO cof27 r1 (el (hl.trans cof29) rfl))),⟨g0,g1,trivial⟩,?_⟩
 have:=hB.agg [d0,d1]
 rw[hx]
 dsimp only at b0 b1
 simp only[hB.cons,hB.nil] at this
 simp only[cm];omega
abbrev K0:=(kSl (kArr 16 (kInt .u8)))
abbrev K1:=(kArr 16 (kInt .u8))
abbrev K2:=(kInt .u8)
end Go.Proofs.YtdkfkpbijdimkaaGreat

import Derived.Test.YtobbmodjdkcdcaaGreatDoorLawHash2
set_option linter.unusedVariables false
set_option linter.unusedSimpArgs false
set_option maxRecDepth 20000
namespace Go.Proofs.YtobbmodjdkcdcaaGreatDoor
open Go Go.Sim
set_option linter.unusedSectionVars false
variable [Fu]
def lenL (n:Nat):Nat→List Int
 |0=>[]
 |i+1=>lenL n i++[IntKind.u8.wrap (shrI .u64 (IntKind.u64.wrap ((n:Int)*8)) (56 - 8*(i:Int)))]
theorem mR (n:Nat):∀i,(lenL n i).length=i
 |0=>rfl
 |i+1=>by rw[lenL,List.length_append,mR n i];rfl
def zeros (n:Nat):Nat:=(119 - n%64)%64
def fill (n:Nat):List Int:=128::List.replicate (zeros n) 0
def pad (p:List Int):List Int:=p++(fill p.length++lenL p.length 8)
theorem q9 (n:Nat):(fill n).length=1+zeros n:=by simp[fill];omega
theorem wZ (p:List Int):(pad p).length=p.length+9+zeros p.length:=by
 unfold pad;rw[List.length_append,List.length_append,q9,mR];omega
theorem Af (p:List Int):(pad p).length%64=0:=by
 rw[wZ];unfold zeros;omega
def oAt (v:List Int):Nat→List Int
 |0=>List.replicate 32 0
 |i+1=>(oAt v i).set i (IntKind.u8.wrap (shrI .u32 (g v (i / 4)) (24 - 8*((i%4:Nat):Int))))
theorem qw (v:List Int):∀i,(oAt v i).length=32
 |0=>by simp[oAt]
 |i+1=>by rw[oAt,List.length_set,qw v i]
def digest (p:List Int):List Int:=oAt (cmp (pad p) ((pad p).length / 64)) 32
theorem lZ (p:List Int):(digest p).length=32:=qw _ _
theorem sE (v:List Int):∀i,aS (oAt v i)
 |0=>fun b hb=>by simp[oAt] at hb;omega
 |i+1=>fun b hb=>by
  rw[oAt] at hb
  rcases List.mem_or_eq_of_mem_set hb with h|rfl
  · exact sE v i b h
  · exact kL _
theorem tM (p:List Int):aS (digest p):=sE _ _
theorem shl3 {x:Int}:shlI .u64 x 3=IntKind.u64.wrap (x*8):=rfl
theorem shr0 {x:Int}:shrI .u32 x 0=x:=by
 have:shrI .u32 x 0=x.fdiv 1:=rfl
 rw[this];simp
theorem mS {h:az} {p:List Int} (hr:HR0 h p) (hb:p.length<2^59):ee h=some (digest p):=by
 unfold ee
 have hn:=hr.n
 have ez:IntKind.wrap .u64 (1+Int.tmod (IntKind.wrap .u64 (119 - Int.tmod h.n 64)) 64)=((1+zeros p.length:Nat):Int):=by
   have e1:Int.tmod h.n 64=((p.length%64:Nat):Int):=by rw[hn];rfl
   rw[e1,gl (x:=119 - ((p.length%64:Nat):Int)) (by omega)]
   have e2:(119 - ((p.length%64:Nat):Int))=((119 - p.length%64:Nat):Int):=by omega
   have e3:Int.tmod ((119 - p.length%64:Nat):Int) 64=((zeros p.length:Nat):Int):=rfl
   rw[e2,e3,gl (by unfold zeros;omega)];simp
 rw[ez]
 have hz:zeros p.length<64:=Nat.mod_lt _ (by decide)
 have hmk:mkB ((1+zeros p.length:Nat):Int) 72=true:=by
   unfold mkB
   have:(room:Int)=17179869184:=rfl
   simp only[this,Bool.and_eq_true,decide_eq_true_eq];omega
 rw[hmk]
 simp only[cond_true,Int.toNat_natCast]
 rw[ar (xs:=List.replicate (1+zeros p.length) 0) (z:=0) (i:=0) rfl (by rw[List.length_replicate];omega)]
 simp only[af]
 have efill:List.set (List.replicate (1+zeros p.length) (0:Int)) (Int.toNat 0) 128=fill p.length:=by
   rw[Nat.add_comm];rfl
 rw[efill]
 have hfl:=q9 p.length
 rw[aW (fun i=>(fill p.length++lenL p.length i,56 - 8*(i:Int))) 0 8 (r:=fill p.length++lenL p.length 8) (by omega) ?_ (ef rfl) (by simp[lenL])]
 rotate_left
 · intro i _ hi
   have h1:decide (56 - 8*(i:Int)≥0)=true:=by simp;omega
   have h2:decide (0≤56 - 8*(i:Int))=true:=by simp;omega
   simp only[h1,h2,cond_true]
   have hll:=mR p.length i
   rw[bK (by rw[List.length_append];simp[room];omega),wrap64 (by omega),shl3,hn]
   have e8:(56 - 8*(i:Int)) - 8=56 - 8*((i+1:Nat):Int):=by omega
   simp only[af,lenL,List.append_assoc,e8]
 simp only[af]
 have hfull:(fill p.length++lenL p.length 8).length=9+zeros p.length:=by rw[List.length_append,mR];omega
 obtain⟨h',e',r'⟩:=mQ hr (a:=fill p.length++lenL p.length 8) (by omega)
 rw[e']
 simp only[af]
 have hw:h'.words=cmp (pad p) ((pad p).length / 64):=r'.words
 rw[hw]
 generalize hv:cmp (pad p) ((pad p).length / 64)=v
 have hvl:v.length=8:=by rw[←hv];exact qv _ _
 obtain⟨O,hO⟩:∃O,O=oAt v:=⟨_,rfl⟩
 have hO0:O 0=List.replicate 32 0:=by rw[hO];rfl
 have hOS:∀i,O (i+1)=(O i).set i (IntKind.u8.wrap (shrI .u32 (g v (i / 4)) (24 - 8*((i%4:Nat):Int)))):=by rw[hO];intro i;rfl
 have hOl:∀i,(O i).length=32:=by rw[hO];exact qw v
 rw[aW (fun i=>((i:Int),O (4*i))) 0 8 (r:=O 32) (by omega) ?_ (ef rfl) (by rw[Nat.mul_zero,hO0];rfl)]
 rotate_left
 · intro i _ hi
   have h1:decide ((i:Int)<8)=true:=by simp;omega
   simp only[h1,cond_true]
   rw[wrap64 (x:=4*(i:Int)) (by omega),wrap64 (x:=4*(i:Int)+1) (by omega),wrap64 (x:=4*(i:Int)+2) (by omega),wrap64 (x:=4*(i:Int)+3) (by omega),wrap64 (by omega)]
   have t0:Int.toNat (4*(i:Int))=4*i:=by omega
   have t1:Int.toNat (4*(i:Int)+1)=4*i+1:=by omega
   have t2:Int.toNat (4*(i:Int)+2)=4*i+2:=by omega
   have t3:Int.toNat (4*(i:Int)+3)=4*i+3:=by omega
   rw[t0,t1,t2,t3,ar (xs:=v) (z:=(i:Int)) (i:=i) rfl (by omega)]
   have hl:=hOl (4*i)
   rw[ar (xs:=O (4*i)) (z:=4*(i:Int)) (i:=4*i) (by omega) (by omega)]
   simp only[af]
   rw[ar (z:=4*(i:Int)+1) (i:=4*i+1) (by omega) (by simp;omega)]
   simp only[af]
   rw[ar (z:=4*(i:Int)+2) (i:=4*i+2) (by omega) (by simp;omega)]
   simp only[af]
   rw[ar (z:=4*(i:Int)+3) (i:=4*i+3) (by omega) (by simp;omega)]
   simp only[af]
   have hnext:O (4*(i+1))=List.set (List.set (List.set (List.set (O (4*i)) (4*i) (IntKind.u8.wrap (shrI .u32 (v.getD i 0) 24))) (4*i+1) (IntKind.u8.wrap (shrI .u32 (v.getD i 0) 16))) (4*i+2) (IntKind.u8.wrap (shrI .u32 (v.getD i 0) 8))) (4*i+3) (IntKind.u8.wrap (v.getD i 0)):=by
    rw[show 4*(i+1)=4*i+1+1+1+1 by omega,hOS,hOS,hOS,hOS]
    have q0:4*i / 4=i:=by omega
    have q1:(4*i+1) / 4=i:=by omega
    have q2:(4*i+1+1) / 4=i:=by omega
    have q3:(4*i+1+1+1) / 4=i:=by omega
    have m0:4*i%4=0:=by omega
    have m1:(4*i+1)%4=1:=by omega
    have m2:(4*i+1+1)%4=2:=by omega
    have m3:(4*i+1+1+1)%4=3:=by omega
    rw[q0,q1,q2,q3,m0,m1,m2,m3]
    have z3:(24 - 8*((3:Nat):Int))=0:=rfl
    rw[z3,shr0];rfl
   rw[hnext];rfl
 simp only[af]
 show some (O 32)=some (digest p)
 unfold digest;rw[hv,hO]
theorem yV {p:List Int} (hb:p.length<2^59):i9 p=some (digest p):=by
 unfold i9
 obtain⟨h,e,r⟩:=yU
 rw[e]
 simp only[af]
 obtain⟨h',e',r'⟩:=mQ r (a:=p) (by simp;omega)
 rw[e']
 simp only[af]
 rw[mS (p:=p) (by simpa using r'.zero) hb];rfl
theorem wc {p:List Int} (hb:p.length<2^31):el p=some (pad p):=by
 unfold el
 have hroom:room=17179869184:=rfl
 rw[wrap64 (by omega)]
 have hmk:mkB 0 ((p.length:Int)+72)=true:=by
   unfold mkB
   have:(room:Int)=17179869184:=rfl
   simp only[this,Bool.and_eq_true,decide_eq_true_eq];omega
 rw[hmk]
 simp only[cond_true]
 rw[bK (by simp[room];omega)]
 simp only[af,Int.toNat_zero,List.replicate_zero,List.nil_append]
 rw[bK (by simp[room];omega)]
 simp only[af]
 have hz:zeros p.length<64:=Nat.mod_lt _ (by decide)
 rw[aW (fun i=>p++(128::List.replicate i 0)) 0 (zeros p.length) (r:=p++fill p.length) (by omega) ?_ ?_ (by rfl)]
 rotate_left
 · intro i _ hi
   have e:(p++(128::List.replicate i (0:Int))).length=p.length+1+i:=by simp;omega
   have hne:((Int.tmod ((p++(128::List.replicate i (0:Int))).length:Int) 64) != 56)=true:=by
    rw[e]
    have:Int.tmod ((p.length+1+i:Nat):Int) 64=(((p.length+1+i)%64:Nat):Int):=rfl
    rw[this]
    have:(p.length+1+i)%64≠56:=by unfold zeros at hi;omega
    simp;omega
   simp only[hne,cond_true]
   rw[bK (by rw[e];simp[hroom];omega)]
   simp only[af,List.append_assoc,List.cons_append]
   rw[←List.replicate_succ']
 · have e:(p++(128::List.replicate (zeros p.length) (0:Int))).length=p.length+1+zeros p.length:=by simp;omega
   have hne:((Int.tmod ((p++(128::List.replicate (zeros p.length) (0:Int))).length:Int) 64) != 56)=false:=by
    rw[e]
    have:Int.tmod ((p.length+1+zeros p.length:Nat):Int) 64=(((p.length+1+zeros p.length)%64:Nat):Int):=rfl
    rw[this]
    have:(p.length+1+zeros p.length)%64=56:=by unfold zeros;omega
    rw[this];rfl
   simp only[hne,cond_false];rfl
 simp only[af]
 have hfl:(p++fill p.length).length=p.length+1+zeros p.length:=by rw[List.length_append,q9];omega
 rw[aW (fun i=>((p++fill p.length)++lenL p.length i,(i:Int))) 0 8 (r:=(p++fill p.length)++lenL p.length 8) (by omega) ?_ (ef rfl) (by simp[lenL])]
 rotate_left
 · intro i _ hi
   have h1:decide ((i:Int)<8)=true:=by simp;omega
   have hll:=mR p.length i
   rw[wrap64 (x:=8*(i:Int)) (by omega),wrap64 (x:=56 - 8*(i:Int)) (by omega)]
   have h2:decide (0≤56 - 8*(i:Int))=true:=by simp;omega
   simp only[h1,h2,cond_true]
   rw[bK (by rw[List.length_append];simp only[List.length_singleton];omega),wrap64 (by omega),gl (x:=(p.length:Int)) (by omega)]
   simp only[af,lenL,List.append_assoc]
   rfl
 simp only[af,pad,List.append_assoc]
theorem xP:fG=some glob0:=rfl
theorem tO {p:List Int} (hb:p.length<2^31):de p=some (digest p):=by
 unfold de
 rw[xP,wc hb]
 simp only[af]
 have hg:glob0.length=64:=rfl
 have hpl:=wZ p
 have hpm:=Af p
 have hz:zeros p.length<64:=Nat.mod_lt _ (by decide)
 obtain⟨C,hC⟩:∃C,C=cmp (pad p):=⟨_,rfl⟩
 have hC0:C 0=IV:=by rw[hC];rfl
 have hCS:∀n,C (n+1)=blk glob0 (C n) (chunk (pad p) n):=by rw[hC];intro n;rfl
 have hCl:∀n,(C n).length=8:=by rw[hC];exact qv _
 have hN:(pad p).length=64*((pad p).length / 64):=by omega
 rw[aW (fun i=>(((64*i:Nat):Int),C i)) 0 ((pad p).length / 64) (r:=C ((pad p).length / 64)) (by omega) ?_ ?_ (by rw[hC0];rfl)]
 rotate_left
 · intro i _ hi
   have h1:decide (((64*i:Nat):Int)<((pad p).length:Int))=true:=by simp;omega
   simp only[h1,cond_true]
   rw[xN (hCl i) hg (by omega) (by omega),wrap64 (by omega)]
   simp only[af]
   rw[hCS]
   have e64:((64*i:Nat):Int)+64=((64*(i+1):Nat):Int):=by omega
   rw[e64];rfl
 · refine ef ?_
   simp;omega
 simp only[af]
 generalize hv:C ((pad p).length / 64)=v
 have hvl:v.length=8:=by rw[←hv];exact hCl _
 obtain⟨O,hO⟩:∃O,O=oAt v:=⟨_,rfl⟩
 have hO0:O 0=List.replicate 32 0:=by rw[hO];rfl
 have hOS:∀i,O (i+1)=(O i).set i (IntKind.u8.wrap (shrI .u32 (g v (i / 4)) (24 - 8*((i%4:Nat):Int)))):=by rw[hO];intro i;rfl
 have hOl:∀i,(O i).length=32:=by rw[hO];exact qw v
 rw[aW (fun i=>((i:Int),O i)) 0 32 (r:=O 32) (by omega) ?_ (ef rfl) (by rw[hO0];rfl)]
 rotate_left
 · intro i _ hi
   have h1:decide ((i:Int)<32)=true:=by simp;omega
   have e1:Int.tdiv (i:Int) 4=((i / 4:Nat):Int):=rfl
   have e2:Int.tmod (i:Int) 4=((i%4:Nat):Int):=rfl
   simp only[h1,cond_true,e1,e2]
   rw[wrap64 (x:=((i / 4:Nat):Int)) (by omega),wrap64 (x:=8*((i%4:Nat):Int)) (by omega),wrap64 (x:=24 - 8*((i%4:Nat):Int)) (by omega)]
   have h2:decide (0≤24 - 8*((i%4:Nat):Int))=true:=by simp;omega
   have hl:=hOl i
   rw[ar (xs:=v) (z:=((i / 4:Nat):Int)) (i:=i / 4) rfl (by omega),h2,ar (xs:=O i) (z:=(i:Int)) (i:=i) rfl (by omega),wrap64 (by omega)]
   simp only[af,cond_true,Int.toNat_natCast]
   rw[hOS];rfl
 simp only[af]
 unfold digest;rw[hO,←hv,hC]
end Go.Proofs.YtobbmodjdkcdcaaGreatDoor

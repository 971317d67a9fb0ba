import Derived.Test.YtobbmodjdkcdcaaGreatDoorLawHash2
set_option linter.unusedVariables false
set_option linter.unusedSimpArgs false
set_option maxRecDepth 20000
namespace Go.Proofs.YtobbmodjdkcdcaaGreatDoor
open Go Go.Sim
set_option linter.unusedSectionVars false
variable [Fu]
def lenL (n:Nat):Nat→List Int
 |0=>[]
 |i+1=>lenL n i++[IntKind.u8.wrap (shrI .u64 (IntKind.u64.wrap ((n:Int)*8)) (56 - 8*(i:Int)))]
theorem oR (n:Nat):∀i,(lenL n i).length=i
 |0=>rfl
 |i+1=>by rw[lenL,List.length_append,oR n i];rfl
def zeros (n:Nat):Nat:=(119 - n%64)%64
def fill (n:Nat):List Int:=128::List.replicate (zeros n) 0
def pad (p:List Int):List Int:=p++(fill p.length++lenL p.length 8)
theorem wd (n:Nat):(fill n).length=1+zeros n:=by simp[fill];omega
def oAt (v:List Int):Nat→List Int
 |0=>List.replicate 32 0
 |i+1=>(oAt v i).set i (IntKind.u8.wrap (shrI .u32 (g v (i / 4)) (24 - 8*((i%4:Nat):Int))))
theorem rq (v:List Int):∀i,(oAt v i).length=32
 |0=>by simp[oAt]
 |i+1=>by rw[oAt,List.length_set,rq v i]
def digest (p:List Int):List Int:=oAt (cmp (pad p) ((pad p).length / 64)) 32
theorem lT (p:List Int):(digest p).length=32:=rq _ _
theorem qr (v:List Int):∀i,be (oAt v i)
 |0=>fun b hb=>by simp[oAt] at hb;omega
 |i+1=>fun b hb=>by
  rw[oAt] at hb
  rcases List.mem_or_eq_of_mem_set hb with h|rfl
  · exact qr v i b h
  · exact kT _
theorem rr (p:List Int):be (digest p):=qr _ _
theorem shl3 {x:Int}:shlI .u64 x 3=IntKind.u64.wrap (x*8):=rfl
theorem shr0 {x:Int}:shrI .u32 x 0=x:=by
 have:shrI .u32 x 0=x.fdiv 1:=rfl
 rw[this];simp
theorem kY {h:aq} {p:List Int} (hr:HR0 h p) (hb:p.length<2^59):dq h=some (digest p):=by
 unfold dq
 have hn:=hr.n
 have ez:IntKind.wrap .u64 (1+Int.tmod (IntKind.wrap .u64 (119 - Int.tmod h.n 64)) 64)=((1+zeros p.length:Nat):Int):=by
   have e1:Int.tmod h.n 64=((p.length%64:Nat):Int):=by rw[hn];rfl
   rw[e1,fQ (x:=119 - ((p.length%64:Nat):Int)) (by omega)]
   have e2:(119 - ((p.length%64:Nat):Int))=((119 - p.length%64:Nat):Int):=by omega
   have e3:Int.tmod ((119 - p.length%64:Nat):Int) 64=((zeros p.length:Nat):Int):=rfl
   rw[e2,e3,fQ (by unfold zeros;omega)];simp
 rw[ez]
 have hz:zeros p.length<64:=Nat.mod_lt _ (by decide)
 have hmk:mkB ((1+zeros p.length:Nat):Int) 72=true:=by
   unfold mkB
   have:(room:Int)=17179869184:=rfl
   simp only[this,Bool.and_eq_true,decide_eq_true_eq];omega
 rw[hmk]
 simp only[cond_true,Int.toNat_natCast]
 rw[aW (xs:=List.replicate (1+zeros p.length) 0) (z:=0) (i:=0) rfl (by rw[List.length_replicate];omega)]
 simp only[ae]
 have efill:List.set (List.replicate (1+zeros p.length) (0:Int)) (Int.toNat 0) 128=fill p.length:=by
   rw[Nat.add_comm];rfl
 rw[efill]
 have hfl:=wd p.length
 rw[bw (fun i=>(fill p.length++lenL p.length i,56 - 8*(i:Int))) 0 8 (r:=fill p.length++lenL p.length 8) (by omega) ?_ (hN rfl) (by simp[lenL])]
 rotate_left
 · intro i _ hi
   have h1:decide (56 - 8*(i:Int)≥0)=true:=by simp;omega
   have h2:decide (0≤56 - 8*(i:Int))=true:=by simp;omega
   simp only[h1,h2,cond_true]
   have hll:=oR p.length i
   rw[dQ (by rw[List.length_append];simp[room];omega),wrap64 (by omega),shl3,hn]
   have e8:(56 - 8*(i:Int)) - 8=56 - 8*((i+1:Nat):Int):=by omega
   simp only[ae,lenL,List.append_assoc,e8]
 simp only[ae]
 have hfull:(fill p.length++lenL p.length 8).length=9+zeros p.length:=by rw[List.length_append,oR];omega
 obtain⟨h',e',r'⟩:=kX hr (a:=fill p.length++lenL p.length 8) (by omega)
 rw[e']
 simp only[ae]
 have hw:h'.words=cmp (pad p) ((pad p).length / 64):=r'.words
 rw[hw]
 generalize hv:cmp (pad p) ((pad p).length / 64)=v
 have hvl:v.length=8:=by rw[←hv];exact ro _ _
 obtain⟨O,hO⟩:∃O,O=oAt v:=⟨_,rfl⟩
 have hO0:O 0=List.replicate 32 0:=by rw[hO];rfl
 have hOS:∀i,O (i+1)=(O i).set i (IntKind.u8.wrap (shrI .u32 (g v (i / 4)) (24 - 8*((i%4:Nat):Int)))):=by rw[hO];intro i;rfl
 have hOl:∀i,(O i).length=32:=by rw[hO];exact rq v
 rw[bw (fun i=>((i:Int),O (4*i))) 0 8 (r:=O 32) (by omega) ?_ (hN rfl) (by rw[Nat.mul_zero,hO0];rfl)]
 rotate_left
 · intro i _ hi
   have h1:decide ((i:Int)<8)=true:=by simp;omega
   simp only[h1,cond_true]
   rw[wrap64 (x:=4*(i:Int)) (by omega),wrap64 (x:=4*(i:Int)+1) (by omega),wrap64 (x:=4*(i:Int)+2) (by omega),wrap64 (x:=4*(i:Int)+3) (by omega),wrap64 (by omega)]
   have t0:Int.toNat (4*(i:Int))=4*i:=by omega
   have t1:Int.toNat (4*(i:Int)+1)=4*i+1:=by omega
   have t2:Int.toNat (4*(i:Int)+2)=4*i+2:=by omega
   have t3:Int.toNat (4*(i:Int)+3)=4*i+3:=by omega
   rw[t0,t1,t2,t3,aW (xs:=v) (z:=(i:Int)) (i:=i) rfl (by omega)]
   have hl:=hOl (4*i)
   rw[aW (xs:=O (4*i)) (z:=4*(i:Int)) (i:=4*i) (by omega) (by omega)]
   simp only[ae]
   rw[aW (z:=4*(i:Int)+1) (i:=4*i+1) (by omega) (by simp;omega)]
   simp only[ae]
   rw[aW (z:=4*(i:Int)+2) (i:=4*i+2) (by omega) (by simp;omega)]
   simp only[ae]
   rw[aW (z:=4*(i:Int)+3) (i:=4*i+3) (by omega) (by simp;omega)]
   simp only[ae]
   have hnext:O (4*(i+1))=List.set (List.set (List.set (List.set (O (4*i)) (4*i) (IntKind.u8.wrap (shrI .u32 (v.getD i 0) 24))) (4*i+1) (IntKind.u8.wrap (shrI .u32 (v.getD i 0) 16))) (4*i+2) (IntKind.u8.wrap (shrI .u32 (v.getD i 0) 8))) (4*i+3) (IntKind.u8.wrap (v.getD i 0)):=by
    rw[show 4*(i+1)=4*i+1+1+1+1 by omega,hOS,hOS,hOS,hOS]
    have q0:4*i / 4=i:=by omega
    have q1:(4*i+1) / 4=i:=by omega
    have q2:(4*i+1+1) / 4=i:=by omega
    have q3:(4*i+1+1+1) / 4=i:=by omega
    have m0:4*i%4=0:=by omega
    have m1:(4*i+1)%4=1:=by omega
    have m2:(4*i+1+1)%4=2:=by omega
    have m3:(4*i+1+1+1)%4=3:=by omega
    rw[q0,q1,q2,q3,m0,m1,m2,m3]
    have z3:(24 - 8*((3:Nat):Int))=0:=rfl
    rw[z3,shr0];rfl
   rw[hnext];rfl
 simp only[ae]
 show some (O 32)=some (digest p)
 unfold digest;rw[hv,hO]
theorem we {p:List Int} (hb:p.length<2^59):gW p=some (digest p):=by
 unfold gW
 obtain⟨h,e,r⟩:=wc
 rw[e]
 simp only[ae]
 obtain⟨h',e',r'⟩:=kX r (a:=p) (by simp;omega)
 rw[e']
 simp only[ae]
 rw[kY (p:=p) (by simpa using r'.zero) hb];rfl
end Go.Proofs.YtobbmodjdkcdcaaGreatDoor

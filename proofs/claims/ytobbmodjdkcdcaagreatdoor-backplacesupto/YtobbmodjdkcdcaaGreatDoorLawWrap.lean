import Derived.Test.YtobbmodjdkcdcaaGreatDoorLawPeel
set_option linter.unusedVariables false
set_option linter.unusedSimpArgs false
set_option linter.unusedSectionVars false
set_option maxRecDepth 20000
set_option maxHeartbeats 1000000
namespace Go.Proofs.YtobbmodjdkcdcaaGreatDoor
open Go Go.Sim
variable [Fu]
def fJ (l:Int) (x:List Int):List Int:=IntKind.wrap .u8 (shrI .i64 (x.length:Int) 8)::IntKind.wrap .u8 (x.length:Int)::(x++List.replicate (aU l - 34 - x.length) 0)
def boxW (key nonce:List Int) (l:Int) (x:List Int):List Int:=fH (fM key nonce).Box (List.replicate 16 0) (fJ l x)
def lj (key nonce:List Int) (l:Int) (x:List Int):List Int×Int:=
 bif aU l==0 then([],2) else bif decide ((x.length:Int)>(aU l:Int) - 34) then([],1) else(nonce++tagO (fM key nonce) l nonce (boxW key nonce l x)++boxW key nonce l x,0)
theorem pj {l:Int} {x:List Int} (h:82≤aU l) (hx:x.length≤aU l - 34):(fJ l x).length=aU l - 32:=by
 unfold fJ
 simp only[List.length_cons,List.length_append,List.length_replicate];omega
theorem sA {x:List Int} {m:Nat} (a b:Int) (hm:x.length+2≤m):over (List.set (List.set (List.replicate m (0:Int)) 0 a) 1 b) 2 m x=a::b::(x++List.replicate (m - 2 - x.length) 0):=by
 obtain⟨k,rfl⟩:∃k,m=k+2:=⟨m - 2,by omega⟩
 have e:List.set (List.set (List.replicate (k+2) (0:Int)) 0 a) 1 b=a::b::List.replicate k 0:=by simp[List.replicate_succ]
 rw[e,j9 (by omega) (by simp)]
 have t:x.take (k+2 - 2)=x:=List.take_of_length_le (by omega)
 have d:(a::b::List.replicate k (0:Int)).drop (2+min x.length (k+2 - 2))=List.replicate (k - x.length) 0:=by
  have:2+min x.length (k+2 - 2)=x.length+1+1:=by omega
  rw[this,List.drop_succ_cons,List.drop_succ_cons,List.drop_replicate]
 rw[t,d]
 simp
theorem tS {key nonce x:List Int} {l:Int} (hk:key.length=32) (hn:nonce.length=16):gv key nonce l x=some (lj key nonce l x):=by
 unfold gv fC lj boxW
 have hroom:room=17179869184:=rfl
 have hroomI:(room:Int)=17179869184:=rfl
 rw[mz hk hn]
 obtain⟨k1,k2,k3⟩:=qF key nonce
 have kb:=qK key nonce
 generalize fM key nonce=ks at*
 simp only[ae,jf,bne_self_eq_false,cond_false]
 have hb:((aU l:Int)==0)=(aU l==0):=rk (n:=aU l) (m:=0)
 rw[hb]
 cases h0:(aU l==0) with
 |true=>rfl
 |false=>
  obtain⟨l1,l2,l3⟩:=qz (l:=l) (by simpa using h0)
  rw[cond_false,cond_false,wrap64 (x:=(aU l:Int) - 34) (by omega)]
  cases hc:decide ((x.length:Int)>(aU l:Int) - 34) with
  |true=>rfl
  |false=>
   have hc:=of_decide_eq_false hc
   rw[cond_false,cond_false,wrap64 (x:=(aU l:Int) - 32) (by omega)]
   have g:mkB ((aU l:Int) - 32) ((aU l:Int) - 32)=true:=by unfold mkB;rw[hroomI];simp;omega
   have tn:Int.toNat ((aU l:Int) - 32)=aU l - 32:=by omega
   rw[g,cond_true,tn]
   have hs:=jL l
   rw[aW (z:=0) (i:=0) rfl (by simp;omega)]
   simp only[ae]
   rw[aW (z:=1) (i:=1) rfl (by simp;omega)]
   simp only[ae,List.length_set,List.length_replicate]
   have g1:decide ((0:Int)≤2∧(2:Int)≤((aU l - 32:Nat):Int)∧(((aU l - 32:Nat):Int):Int)≤((aU l - 32:Nat):Int))=true:=decide_eq_true (by omega)
   have g2:decide ((Int.toNat 2)≤(Int.toNat ((aU l - 32:Nat):Int))∧(Int.toNat ((aU l - 32:Nat):Int))≤aU l - 32)=true:=decide_eq_true (by simp;omega)
   rw[g1,g2,cond_true,cond_true]
   have hp:over (List.set (List.set (List.replicate (aU l - 32) (0:Int)) (Int.toNat 0) (IntKind.wrap .u8 (shrI .i64 (x.length:Int) 8))) (Int.toNat 1) (IntKind.wrap .u8 (x.length:Int))) (Int.toNat 2) (Int.toNat ((aU l - 32:Nat):Int)) x=fJ l x:=by
    show over (List.set (List.set (List.replicate (aU l - 32) (0:Int)) 0 (IntKind.wrap .u8 (shrI .i64 (x.length:Int) 8))) 1 (IntKind.wrap .u8 (x.length:Int))) 2 (Int.toNat ((aU l - 32:Nat):Int)) x=fJ l x
    rw[Int.toNat_natCast,sA _ _ (by omega)]
    unfold fJ
    rw[show aU l - 32 - 2 - x.length=aU l - 34 - x.length by omega]
   rw[hp]
   have hpl:=pj (l:=l) (x:=x) (by omega) (by omega)
   rw[oz k1 kb (by simp) (by omega)]
   simp only[ae]
   have ml:=jI ks.Box (List.replicate 16 0) (fJ l x)
   rw[dQ (by rw[hroom];simp;omega)]
   simp only[ae,List.nil_append]
   rw[mF (by omega) hn (by omega)]
   simp only[ae]
   have hl16:(tagO ks l nonce (fH ks.Box (List.replicate 16 0) (fJ l x))).length=16:=qL _ _
   rw[dQ (by rw[hroom];omega)]
   simp only[ae]
   rw[dQ (by rw[hroom,List.length_append];omega)]
   rfl
end Go.Proofs.YtobbmodjdkcdcaaGreatDoor

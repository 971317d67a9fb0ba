import Derived.Test.YtdkfkpbijdimkaaGreatDoorLawPeel
set_option linter.unusedVariables false
set_option linter.unusedSimpArgs false
set_option linter.unusedSectionVars false
set_option maxRecDepth 20000
set_option maxHeartbeats 1000000
namespace Go.Proofs.YtdkfkpbijdimkaaGreatDoor
open Go Go.Sim
variable [Fu]
def dK (l:Int) (x:List Int):List Int:=IntKind.wrap .u8 (shrI .i64 (x.length:Int) 8)::IntKind.wrap .u8 (x.length:Int)::(x++List.replicate (aB l - 34 - x.length) 0)
def boxW (key nonce:List Int) (l:Int) (x:List Int):List Int:=fG (dU key nonce).Box (List.replicate 16 0) (dK l x)
def i9 (key nonce:List Int) (l:Int) (x:List Int):List Int×Int:=
 bif aB l==0 then([],2) else bif decide ((x.length:Int)>(aB l:Int) - 34) then([],1) else(nonce++tagO (dU key nonce) l nonce (boxW key nonce l x)++boxW key nonce l x,0)
theorem fK {l:Int} {x:List Int} (h:82≤aB l) (hx:x.length≤aB l - 34):(dK l x).length=aB l - 32:=by
 unfold dK
 simp only[List.length_cons,List.length_append,List.length_replicate];omega
theorem jQ {x:List Int} {m:Nat} (a b:Int) (hm:x.length+2≤m):over (List.set (List.set (List.replicate m (0:Int)) 0 a) 1 b) 2 m x=a::b::(x++List.replicate (m - 2 - x.length) 0):=by
 obtain⟨k,rfl⟩:∃k,m=k+2:=⟨m - 2,by omega⟩
 have e:List.set (List.set (List.replicate (k+2) (0:Int)) 0 a) 1 b=a::b::List.replicate k 0:=by simp[List.replicate_succ]
 rw[e,eP (by omega) (by simp)]
 have t:x.take (k+2 - 2)=x:=List.take_of_length_le (by omega)
 have d:(a::b::List.replicate k (0:Int)).drop (2+min x.length (k+2 - 2))=List.replicate (k - x.length) 0:=by
  have:2+min x.length (k+2 - 2)=x.length+1+1:=by omega
  rw[this,List.drop_succ_cons,List.drop_succ_cons,List.drop_replicate]
 rw[t,d]
 simp
theorem lC {key nonce x:List Int} {l:Int} (hn:nonce.length=16):(i9 key nonce l x).1.length≤320:=by
 unfold i9
 cases h0:(aB l==0) with
 |true=>simp
 |false=>
  obtain⟨l1,l2,l3⟩:=gj (l:=l) (by simpa using h0)
  rw[cond_false]
  cases hc:decide ((x.length:Int)>(aB l:Int) - 34) with
  |true=>simp
  |false=>
   have hc:=of_decide_eq_false hc
   have hs:=ik l
   have hl16:(tagO (dU key nonce) l nonce (boxW key nonce l x)).length=16:=gl _ _
   have hb:(boxW key nonce l x).length=aB l - 32:=by unfold boxW;rw[gi,fK (by omega) (by omega)]
   simp only[cond_false,List.length_append];omega
theorem ky {key nonce x:List Int} {l:Int} (hk:key.length=32) (hn:nonce.length=16):bL key nonce l x=some (i9 key nonce l x):=by
 unfold bL dg i9 boxW
 have hroom:room=17179869184:=rfl
 have hroomI:(room:Int)=17179869184:=rfl
 rw[ju hk hn]
 obtain⟨k1,k2,k3⟩:=iZ key nonce
 have kb:=i0 key nonce
 generalize dU key nonce=ks at*
 simp only[aa,kw,bne_self_eq_false,cond_false]
 have hb:((aB l:Int)==0)=(aB l==0):=fX (n:=aB l) (m:=0)
 rw[hb]
 cases h0:(aB l==0) with
 |true=>rfl
 |false=>
  obtain⟨l1,l2,l3⟩:=gj (l:=l) (by simpa using h0)
  rw[cond_false,cond_false,wrap64 (x:=(aB l:Int) - 34) (by omega)]
  cases hc:decide ((x.length:Int)>(aB l:Int) - 34) with
  |true=>rfl
  |false=>
   have hc:=of_decide_eq_false hc
   rw[cond_false,cond_false,wrap64 (x:=(aB l:Int) - 32) (by omega)]
   have g:mkB ((aB l:Int) - 32) ((aB l:Int) - 32)=true:=by unfold mkB;rw[hroomI];simp;omega
   have tn:Int.toNat ((aB l:Int) - 32)=aB l - 32:=by omega
   rw[g,cond_true,tn]
   have hs:=ik l
   rw[ai (z:=0) (i:=0) rfl (by simp;omega)]
   simp only[aa]
   rw[ai (z:=1) (i:=1) rfl (by simp;omega)]
   simp only[aa,List.length_set,List.length_replicate]
   have g1:decide ((0:Int)≤2∧(2:Int)≤((aB l - 32:Nat):Int)∧(((aB l - 32:Nat):Int):Int)≤((aB l - 32:Nat):Int))=true:=decide_eq_true (by omega)
   have g2:decide ((Int.toNat 2)≤(Int.toNat ((aB l - 32:Nat):Int))∧(Int.toNat ((aB l - 32:Nat):Int))≤aB l - 32)=true:=decide_eq_true (by simp;omega)
   rw[g1,g2,cond_true,cond_true]
   have hp:over (List.set (List.set (List.replicate (aB l - 32) (0:Int)) (Int.toNat 0) (IntKind.wrap .u8 (shrI .i64 (x.length:Int) 8))) (Int.toNat 1) (IntKind.wrap .u8 (x.length:Int))) (Int.toNat 2) (Int.toNat ((aB l - 32:Nat):Int)) x=dK l x:=by
    show over (List.set (List.set (List.replicate (aB l - 32) (0:Int)) 0 (IntKind.wrap .u8 (shrI .i64 (x.length:Int) 8))) 1 (IntKind.wrap .u8 (x.length:Int))) 2 (Int.toNat ((aB l - 32:Nat):Int)) x=dK l x
    rw[Int.toNat_natCast,jQ _ _ (by omega)]
    unfold dK
    rw[show aB l - 32 - 2 - x.length=aB l - 34 - x.length by omega]
   rw[hp]
   have hpl:=fK (l:=l) (x:=x) (by omega) (by omega)
   rw[kn k1 kb (by simp) (by omega)]
   simp only[aa]
   have ml:=gi ks.Box (List.replicate 16 0) (dK l x)
   rw[aN (by rw[hroom];simp;omega)]
   simp only[aa,List.nil_append]
   rw[jv (by omega) hn (by omega)]
   simp only[aa]
   have hl16:(tagO ks l nonce (fG ks.Box (List.replicate 16 0) (dK l x))).length=16:=gl _ _
   rw[aN (by rw[hroom];omega)]
   simp only[aa]
   rw[aN (by rw[hroom,List.length_append];omega)]
   rfl
def im (key nonce:List Int) (l:Int) (x:List Int):List Int×Int:=bif key.length != 32 then([],2) else i9 key nonce l x
theorem gw {key nonce x:List Int} {l:Int} (hn:nonce.length=16):bL key nonce l x=some (im key nonce l x):=by
 unfold im
 cases hk:key.length != 32 with
 |false=>exact ky (by simpa using hk) hn
 |true=>
  unfold bL bT
  have e0:((key.length:Int) != 32)=true:=(show((key.length:Int) != 32)=(key.length != 32) from gX (n:=32)).trans hk
  rw[e0]
  rfl
theorem lD {x:List Int} {m i:Nat} (a b:Int) (hi:i<x.length) (hm:x.length+2≤m):
  List.set (a::b::(x.take i++List.replicate (m - 2 - i) 0)) (2+i) (x.getD i 0)=a::b::(x.take (i+1)++List.replicate (m - 2 - (i+1)) 0):=by
 have e:m - 2 - i=(m - 2 - (i+1))+1:=by omega
 have e2:2+i=i+1+1:=by omega
 rw[e2,List.set_cons_succ,List.set_cons_succ,e,List.replicate_succ]
 congr 2
 have ht:(x.take i).length=i:=by simp;omega
 rw[List.set_append_right _ _ (by omega),ht,Nat.sub_self,List.set_cons_zero,List.take_succ_eq_append_getElem hi]
 simp only[List.getD,List.getElem?_eq_getElem hi,Option.getD_some,List.append_assoc,List.singleton_append]
theorem lE {key nonce x:List Int} {l:Int} (hn:nonce.length=16):bq key nonce l x=some (im key nonce l x):=by
 unfold bq im
 have ek:((key.length:Int) != 32)=(key.length != 32):=gX (n:=32)
 rw[ek]
 cases hk:key.length != 32 with
 |true=>rfl
 |false=>
  have hk:key.length=32:=by simpa using hk
  unfold i9 boxW
  simp only[cond_false,l9,aa]
  have hb:((aB l:Int)==0)=(aB l==0):=fX (n:=aB l) (m:=0)
  rw[hb]
  cases h0:(aB l==0) with
  |true=>rfl
  |false=>
   obtain⟨l1,l2,l3⟩:=gj (l:=l) (by simpa using h0)
   rw[cond_false,cond_false,wrap64 (x:=(aB l:Int) - 34) (by omega)]
   cases hc:decide ((x.length:Int)>(aB l:Int) - 34) with
   |true=>rfl
   |false=>
    have hc:=of_decide_eq_false hc
    have hroom:room=17179869184:=rfl
    have hroomI:(room:Int)=17179869184:=rfl
    rw[cond_false,cond_false,wrap64 (x:=(aB l:Int) - 32) (by omega)]
    have g:mkB ((aB l:Int) - 32) ((aB l:Int) - 32)=true:=by unfold mkB;rw[hroomI];simp;omega
    have tn:Int.toNat ((aB l:Int) - 32)=aB l - 32:=by omega
    rw[g,cond_true,tn]
    have hs:=ik l
    rw[ai (z:=0) (i:=0) rfl (by simp;omega)]
    simp only[aa]
    rw[ai (z:=1) (i:=1) rfl (by simp;omega)]
    simp only[aa]
    have ea:IntKind.wrap .u8 (IntKind.wrap .i64 (Int.tdiv (x.length:Int) 256))=IntKind.wrap .u8 (shrI .i64 (x.length:Int) 8):=by
      have h1:Int.tdiv (x.length:Int) 256=((x.length / 256:Nat):Int):=by
       rw[Int.tdiv_eq_ediv_of_nonneg (by omega)];omega
      have h2:shrI .i64 (x.length:Int) 8=((x.length / 256:Nat):Int):=by
       unfold shrI
       show(x.length:Int).fdiv 256=_
       rw[Int.fdiv_eq_ediv_of_nonneg _ (by omega)];omega
      rw[h1,h2,wrap64 (by omega)]
    have eb:IntKind.wrap .u8 (Int.tmod (x.length:Int) 256)=IntKind.wrap .u8 (x.length:Int):=by
      rw[wrap8,wrap8,Int.tmod_eq_emod_of_nonneg (by omega)];omega
    rw[ea,eb]
    have st0:∀a b:Int,List.set (List.set (List.replicate (aB l - 32) (0:Int)) (Int.toNat 0) a) (Int.toNat 1) b=a::b::(x.take 0++List.replicate (aB l - 32 - 2 - 0) 0):=fun a b=>by
      obtain⟨k,hk2⟩:∃k,aB l - 32=k+2:=⟨aB l - 34,by omega⟩
      rw[hk2]
      show List.set (List.set (List.replicate (k+2) (0:Int)) 0 a) 1 b=_
      simp[List.replicate_succ]
    rw[st0]
    generalize hA:IntKind.wrap .u8 (shrI .i64 (x.length:Int) 8)=A
    generalize hB:IntKind.wrap .u8 (x.length:Int)=B
    rw[aq (s0:=(A::B::(x.take 0++List.replicate (aB l - 32 - 2 - 0) 0),0)) (r:=dK l x) (fun i=>(A::B::(x.take i++List.replicate (aB l - 32 - 2 - i) 0),(i:Int))) 0 x.length (Nat.zero_le _) ?_ ?_ rfl]
    · simp only[aa]
      unfold cz
      obtain⟨k1,k2,k3⟩:=iZ key nonce
      have kb:=i0 key nonce
      rw[gO hk hn]
      generalize dU key nonce=ks at*
      have hpl:=fK (l:=l) (x:=x) (by omega) (by omega)
      simp only[aa]
      rw[lU k1 kb (by simp) (by omega)]
      have ml:=gi ks.Box (List.replicate 16 0) (dK l x)
      simp only[aa]
      generalize fG ks.Box (List.replicate 16 0) (dK l x)=M at*
      rw[mS (by omega) hn (by omega)]
      simp only[aa]
      have hl16:(tagO ks l nonce M).length=16:=gl _ _
      rw[wrap64 (by omega)]
      have g2:mkB 0 (32+(M.length:Int))=true:=by unfold mkB;rw[hroomI];simp;omega
      have e00:List.replicate (Int.toNat 0) (0:Int)=[]:=rfl
      rw[g2,cond_true,e00,aN (by rw[hroom];simp;omega)]
      simp only[aa,List.nil_append]
      rw[aN (by rw[hroom];omega)]
      simp only[aa]
      rw[aN (by rw[hroom,List.length_append];omega)]
      rfl
    · intro i _ hi
      have h1:decide ((i:Int)<(x.length:Int))=true:=decide_eq_true (by omega)
      simp only[h1,cond_true]
      rw[ai rfl hi,wrap64 (x:=2+(i:Int)) (by omega)]
      simp only[aa]
      have hlen:(A::B::(x.take i++List.replicate (aB l - 32 - 2 - i) (0:Int))).length=aB l - 32:=by simp;omega
      rw[ai (z:=2+(i:Int)) (i:=2+i) (by omega) (by rw[hlen];omega),wrap64 (x:=(i:Int)+1) (by omega)]
      simp only[aa]
      have e:Int.toNat (2+(i:Int))=2+i:=by omega
      rw[e,lD A B hi (by omega)]
      rfl
    · have h1:decide ((x.length:Int)<(x.length:Int))=false:=decide_eq_false (by omega)
      simp only[h1,cond_false,List.take_length]
      have:aB l - 32 - 2 - x.length=aB l - 34 - x.length:=by omega
      rw[this]
      unfold dK
      rw[hA,hB]
theorem nu (x:List Int):be x=cy x:=by
 by_cases h:x.length≤320
 · rw[mR h,jO h]
 · unfold be cy
   have e:decide ((x.length:Int)>320)=true:=decide_eq_true (by omega)
   rw[e];rfl
end Go.Proofs.YtdkfkpbijdimkaaGreatDoor

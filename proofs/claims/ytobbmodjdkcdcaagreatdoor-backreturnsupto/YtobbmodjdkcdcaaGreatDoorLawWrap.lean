import Derived.Test.YtobbmodjdkcdcaaGreatDoorLawPeel
set_option linter.unusedVariables false
set_option linter.unusedSimpArgs false
set_option linter.unusedSectionVars false
set_option maxRecDepth 20000
set_option maxHeartbeats 1000000
namespace Go.Proofs.YtobbmodjdkcdcaaGreatDoor
open Go Go.Sim
variable [Fu]
def fR (l:Int) (x:List Int):List Int:=IntKind.wrap .u8 (shrI .i64 (x.length:Int) 8)::IntKind.wrap .u8 (x.length:Int)::(x++List.replicate (ba l - 34 - x.length) 0)
def boxW (key nonce:List Int) (l:Int) (x:List Int):List Int:=gj (gP key nonce).Box (List.replicate 16 0) (fR l x)
def kq (key nonce:List Int) (l:Int) (x:List Int):List Int×Int:=
 bif ba l==0 then([],2) else bif decide ((x.length:Int)>(ba l:Int) - 34) then([],1) else(nonce++tagO (gP key nonce) l nonce (boxW key nonce l x)++boxW key nonce l x,0)
theorem nU {l:Int} {x:List Int} (h:82≤ba l) (hx:x.length≤ba l - 34):(fR l x).length=ba l - 32:=by
 unfold fR
 simp only[List.length_cons,List.length_append,List.length_replicate];omega
theorem vj {x:List Int} {m:Nat} (a b:Int) (hm:x.length+2≤m):over (List.set (List.set (List.replicate m (0:Int)) 0 a) 1 b) 2 m x=a::b::(x++List.replicate (m - 2 - x.length) 0):=by
 obtain⟨k,rfl⟩:∃k,m=k+2:=⟨m - 2,by omega⟩
 have e:List.set (List.set (List.replicate (k+2) (0:Int)) 0 a) 1 b=a::b::List.replicate k 0:=by simp[List.replicate_succ]
 rw[e,kP (by omega) (by simp)]
 have t:x.take (k+2 - 2)=x:=List.take_of_length_le (by omega)
 have d:(a::b::List.replicate k (0:Int)).drop (2+min x.length (k+2 - 2))=List.replicate (k - x.length) 0:=by
  have:2+min x.length (k+2 - 2)=x.length+1+1:=by omega
  rw[this,List.drop_succ_cons,List.drop_succ_cons,List.drop_replicate]
 rw[t,d]
 simp
theorem wt {key nonce x:List Int} {l:Int} (hk:key.length=32) (hn:nonce.length=16):iP key nonce l x=some (kq key nonce l x):=by
 unfold iP jS kq boxW
 have hroom:room=17179869184:=rfl
 have hroomI:(room:Int)=17179869184:=rfl
 rw[tU hk hn]
 obtain⟨k1,k2,k3⟩:=sI key nonce
 have kb:=sJ key nonce
 generalize gP key nonce=ks at*
 simp only[af,rj,bne_self_eq_false,cond_false]
 have hb:((ba l:Int)==0)=(ba l==0):=oQ (n:=ba l) (m:=0)
 rw[hb]
 cases h0:(ba l==0) with
 |true=>rfl
 |false=>
  obtain⟨l1,l2,l3⟩:=sH (l:=l) (by simpa using h0)
  rw[cond_false,cond_false,wrap64 (x:=(ba l:Int) - 34) (by omega)]
  cases hc:decide ((x.length:Int)>(ba l:Int) - 34) with
  |true=>rfl
  |false=>
   have hc:=of_decide_eq_false hc
   rw[cond_false,cond_false,wrap64 (x:=(ba l:Int) - 32) (by omega)]
   have g:mkB ((ba l:Int) - 32) ((ba l:Int) - 32)=true:=by unfold mkB;rw[hroomI];simp;omega
   have tn:Int.toNat ((ba l:Int) - 32)=ba l - 32:=by omega
   rw[g,cond_true,tn]
   have hs:=lB l
   rw[ar (z:=0) (i:=0) rfl (by simp;omega)]
   simp only[af]
   rw[ar (z:=1) (i:=1) rfl (by simp;omega)]
   simp only[af,List.length_set,List.length_replicate]
   have g1:decide ((0:Int)≤2∧(2:Int)≤((ba l - 32:Nat):Int)∧(((ba l - 32:Nat):Int):Int)≤((ba l - 32:Nat):Int))=true:=decide_eq_true (by omega)
   have g2:decide ((Int.toNat 2)≤(Int.toNat ((ba l - 32:Nat):Int))∧(Int.toNat ((ba l - 32:Nat):Int))≤ba l - 32)=true:=decide_eq_true (by simp;omega)
   rw[g1,g2,cond_true,cond_true]
   have hp:over (List.set (List.set (List.replicate (ba l - 32) (0:Int)) (Int.toNat 0) (IntKind.wrap .u8 (shrI .i64 (x.length:Int) 8))) (Int.toNat 1) (IntKind.wrap .u8 (x.length:Int))) (Int.toNat 2) (Int.toNat ((ba l - 32:Nat):Int)) x=fR l x:=by
    show over (List.set (List.set (List.replicate (ba l - 32) (0:Int)) 0 (IntKind.wrap .u8 (shrI .i64 (x.length:Int) 8))) 1 (IntKind.wrap .u8 (x.length:Int))) 2 (Int.toNat ((ba l - 32:Nat):Int)) x=fR l x
    rw[Int.toNat_natCast,vj _ _ (by omega)]
    unfold fR
    rw[show ba l - 32 - 2 - x.length=ba l - 34 - x.length by omega]
   rw[hp]
   have hpl:=nU (l:=l) (x:=x) (by omega) (by omega)
   rw[vU k1 kb (by simp) (by omega)]
   simp only[af]
   have ml:=ly ks.Box (List.replicate 16 0) (fR l x)
   rw[bK (by rw[hroom];simp;omega)]
   simp only[af,List.nil_append]
   rw[tW (by omega) hn (by omega)]
   simp only[af]
   have hl16:(tagO ks l nonce (gj ks.Box (List.replicate 16 0) (fR l x))).length=16:=pL _ _
   rw[bK (by rw[hroom];omega)]
   simp only[af]
   rw[bK (by rw[hroom,List.length_append];omega)]
   rfl
def zi (key nonce:List Int) (l:Int) (x:List Int):List Int×Int:=bif key.length != 32 then([],2) else kq key nonce l x
theorem xY {x:List Int} {m i:Nat} (a b:Int) (hi:i<x.length) (hm:x.length+2≤m):
  List.set (a::b::(x.take i++List.replicate (m - 2 - i) 0)) (2+i) (x.getD i 0)=a::b::(x.take (i+1)++List.replicate (m - 2 - (i+1)) 0):=by
 have e:m - 2 - i=(m - 2 - (i+1))+1:=by omega
 have e2:2+i=i+1+1:=by omega
 rw[e2,List.set_cons_succ,List.set_cons_succ,e,List.replicate_succ]
 congr 2
 have ht:(x.take i).length=i:=by simp;omega
 rw[List.set_append_right _ _ (by omega),ht,Nat.sub_self,List.set_cons_zero,List.take_succ_eq_append_getElem hi]
 simp only[List.getD,List.getElem?_eq_getElem hi,Option.getD_some,List.append_assoc,List.singleton_append]
theorem xZ {key nonce x:List Int} {l:Int} (hn:nonce.length=16):ft key nonce l x=some (zi key nonce l x):=by
 unfold ft zi
 have ek:((key.length:Int) != 32)=(key.length != 32):=l8 (n:=32)
 rw[ek]
 cases hk:key.length != 32 with
 |true=>rfl
 |false=>
  have hk:key.length=32:=by simpa using hk
  unfold kq boxW
  simp only[cond_false,uS,af]
  have hb:((ba l:Int)==0)=(ba l==0):=oQ (n:=ba l) (m:=0)
  rw[hb]
  cases h0:(ba l==0) with
  |true=>rfl
  |false=>
   obtain⟨l1,l2,l3⟩:=sH (l:=l) (by simpa using h0)
   rw[cond_false,cond_false,wrap64 (x:=(ba l:Int) - 34) (by omega)]
   cases hc:decide ((x.length:Int)>(ba l:Int) - 34) with
   |true=>rfl
   |false=>
    have hc:=of_decide_eq_false hc
    have hroom:room=17179869184:=rfl
    have hroomI:(room:Int)=17179869184:=rfl
    rw[cond_false,cond_false,wrap64 (x:=(ba l:Int) - 32) (by omega)]
    have g:mkB ((ba l:Int) - 32) ((ba l:Int) - 32)=true:=by unfold mkB;rw[hroomI];simp;omega
    have tn:Int.toNat ((ba l:Int) - 32)=ba l - 32:=by omega
    rw[g,cond_true,tn]
    have hs:=lB l
    rw[ar (z:=0) (i:=0) rfl (by simp;omega)]
    simp only[af]
    rw[ar (z:=1) (i:=1) rfl (by simp;omega)]
    simp only[af]
    have ea:IntKind.wrap .u8 (IntKind.wrap .i64 (Int.tdiv (x.length:Int) 256))=IntKind.wrap .u8 (shrI .i64 (x.length:Int) 8):=by
      have h1:Int.tdiv (x.length:Int) 256=((x.length / 256:Nat):Int):=by
       rw[Int.tdiv_eq_ediv_of_nonneg (by omega)];omega
      have h2:shrI .i64 (x.length:Int) 8=((x.length / 256:Nat):Int):=by
       unfold shrI
       show(x.length:Int).fdiv 256=_
       rw[Int.fdiv_eq_ediv_of_nonneg _ (by omega)];omega
      rw[h1,h2,wrap64 (by omega)]
    have eb:IntKind.wrap .u8 (Int.tmod (x.length:Int) 256)=IntKind.wrap .u8 (x.length:Int):=by
      rw[wrap8,wrap8,Int.tmod_eq_emod_of_nonneg (by omega)];omega
    rw[ea,eb]
    have st0:∀a b:Int,List.set (List.set (List.replicate (ba l - 32) (0:Int)) (Int.toNat 0) a) (Int.toNat 1) b=a::b::(x.take 0++List.replicate (ba l - 32 - 2 - 0) 0):=fun a b=>by
      obtain⟨k,hk2⟩:∃k,ba l - 32=k+2:=⟨ba l - 34,by omega⟩
      rw[hk2]
      show List.set (List.set (List.replicate (k+2) (0:Int)) 0 a) 1 b=_
      simp[List.replicate_succ]
    rw[st0]
    generalize hA:IntKind.wrap .u8 (shrI .i64 (x.length:Int) 8)=A
    generalize hB:IntKind.wrap .u8 (x.length:Int)=B
    rw[aW (s0:=(A::B::(x.take 0++List.replicate (ba l - 32 - 2 - 0) 0),0)) (r:=fR l x) (fun i=>(A::B::(x.take i++List.replicate (ba l - 32 - 2 - i) 0),(i:Int))) 0 x.length (Nat.zero_le _) ?_ ?_ rfl]
    · simp only[af]
      unfold gb
      obtain⟨k1,k2,k3⟩:=sI key nonce
      have kb:=sJ key nonce
      rw[qr hk hn]
      generalize gP key nonce=ks at*
      have hpl:=nU (l:=l) (x:=x) (by omega) (by omega)
      simp only[af]
      rw[yF k1 kb (by simp) (by omega)]
      have ml:=ly ks.Box (List.replicate 16 0) (fR l x)
      simp only[af]
      generalize gj ks.Box (List.replicate 16 0) (fR l x)=M at*
      rw[Aj (by omega) hn (by omega)]
      simp only[af]
      have hl16:(tagO ks l nonce M).length=16:=pL _ _
      rw[wrap64 (by omega)]
      have g2:mkB 0 (32+(M.length:Int))=true:=by unfold mkB;rw[hroomI];simp;omega
      have e00:List.replicate (Int.toNat 0) (0:Int)=[]:=rfl
      rw[g2,cond_true,e00,bK (by rw[hroom];simp;omega)]
      simp only[af,List.nil_append]
      rw[bK (by rw[hroom];omega)]
      simp only[af]
      rw[bK (by rw[hroom,List.length_append];omega)]
      rfl
    · intro i _ hi
      have h1:decide ((i:Int)<(x.length:Int))=true:=decide_eq_true (by omega)
      simp only[h1,cond_true]
      rw[ar rfl hi,wrap64 (x:=2+(i:Int)) (by omega)]
      simp only[af]
      have hlen:(A::B::(x.take i++List.replicate (ba l - 32 - 2 - i) (0:Int))).length=ba l - 32:=by simp;omega
      rw[ar (z:=2+(i:Int)) (i:=2+i) (by omega) (by rw[hlen];omega),wrap64 (x:=(i:Int)+1) (by omega)]
      simp only[af]
      have e:Int.toNat (2+(i:Int))=2+i:=by omega
      rw[e,xY A B hi (by omega)]
      rfl
    · have h1:decide ((x.length:Int)<(x.length:Int))=false:=decide_eq_false (by omega)
      simp only[h1,cond_false,List.take_length]
      have:ba l - 32 - 2 - x.length=ba l - 34 - x.length:=by omega
      rw[this]
      unfold fR
      rw[hA,hB]
end Go.Proofs.YtobbmodjdkcdcaaGreatDoor

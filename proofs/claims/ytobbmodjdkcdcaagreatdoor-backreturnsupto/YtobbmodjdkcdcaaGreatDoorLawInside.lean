import Derived.Test.YtobbmodjdkcdcaaGreatDoorLawUnwrap
import Derived.Test.YtobbmodjdkcdcaaGreatDoorLawCellO
set_option linter.unusedVariables false
set_option linter.unusedSimpArgs false
set_option linter.unusedSectionVars false
set_option maxRecDepth 20000
set_option maxHeartbeats 1000000
namespace Go.Proofs.YtobbmodjdkcdcaaGreatDoor
open Go Go.Sim
variable [Fu]
def insS (l:Int) (x:List Int):List Int×Bool:=
 bif l==1 then((pY x).1,(pY x).2.1&&((pY x).2.2==0)) else bif !nz x then([],false) else((cutS x (ba (l - 1))).1,(cutS x (ba (l - 1))).2==0)
theorem Ag (x:List Int) (i:Nat) (h:i<x.length):(nz (x.take (i+1)))=(nz (x.take i)||x.getD i 0 != 0):=by
 unfold nz;rw[List.take_succ_eq_append_getElem h,List.any_append,gAt h];simp only[List.any_cons,List.any_nil,Bool.or_false]
theorem uO {x:List Int} {l:Int} (hx:x.length=320) (hb:aS x) (hl:1≤l∧l≤8):ij x l=some (insS l x):=by
 unfold ij insS
 cases h1:(l==1) with
 |true=>rw[cond_true,cond_true,xv hb];rfl
 |false=>
  rw[cond_false,cond_false,aW (s0:=(true,0)) (r:= !nz x) (fun i=>(!nz (x.take i),(i:Int))) 0 x.length (by omega) ?_ ?_ rfl]
  · simp only[af]
    cases nz x with
    |false=>rfl
    |true=>
     simp only[Bool.not_true,cond_false]
     rw[wrap64 (by omega),rj]
     simp only[af]
     rw[yY rfl (lB _)]
     rfl
  · intro i _ hi
    have h3:decide ((i:Int)<(x.length:Int))=true:=decide_eq_true (by omega)
    simp only[h3,cond_true]
    rw[ar rfl (by omega)]
    simp only[af]
    rw[wrap64 (by omega),Ag x i hi]
    generalize x.getD i 0=a
    cases nz (x.take i)<;>cases h:a==0<;>simp[bne,h]
  · have h3:decide ((x.length:Int)<(x.length:Int))=false:=decide_eq_false (by omega)
    simp only[h3,cond_false,List.take_length]
theorem oW (x:List Int):(x==List.replicate x.length (0:Int))= !nz x:=by
 rw[Bool.eq_iff_iff,beq_iff_eq]
 simp only[nz,Bool.not_eq_true',List.any_eq_false,bne_iff_ne,ne_eq,Decidable.not_not,bne_eq_false_iff_eq]
 constructor
 · intro h a ha;rw[h] at ha;exact List.eq_of_mem_replicate ha
 · intro h;exact List.eq_replicate_iff.2 ⟨rfl,h⟩
theorem mT {l:Int} (hl:1≤l∧l≤8):(ba l:Int)=48+34*l:=by
 unfold ba
 have:(decide (l<1)||decide (l>8))=false:=by simp;omega
 rw[this,cond_false];omega
theorem sF {x:List Int} {n:Nat} (h:nz (x.drop n)=false):x.drop n=List.replicate (x.length - n) 0:=by
 have:=oW (x.drop n)
 rw[h] at this
 have:=eq_of_beq this
 rw[this];simp
theorem ra {x:List Int} {l:Int} (hx:x.length=320) (hb:aS x) (hl:1≤l∧l≤8) (hy:(insS l x).2=true):
  aS (insS l x).1∧(insS l x).1.length≤ba l - 34∧(bif decide (l>1) then padS (insS l x).1 else tT (insS l x).1)=x:=by
 have hs:=mT hl
 unfold insS at hy⊢
 cases h1:(l==1) with
 |true=>
  have h1:l=1:=by simpa using h1
  subst h1
  have hlen:(x.length != 320)=false:=by rw[hx];rfl
  simp only[beq_self_eq_true,cond_true] at hy⊢
  unfold pY at hy⊢
  rw[hlen,cond_false] at hy⊢
  have b1:=fP hb 1
  cases h0:x.getD 0 0==0 with
  |true=>rw[h0] at hy;simp at hy
  |false=>
   rw[h0,cond_false] at hy
   rw[cond_false]
   cases h2:x.getD 0 0==1 with
   |false=>rw[h2] at hy;simp at hy
   |true=>
    rw[h2,cond_true] at hy
    rw[cond_true]
    cases h3:decide (x.getD 1 0>48) with
    |true=>rw[h3] at hy;simp at hy
    |false=>
     rw[h3,cond_false] at hy
     rw[cond_false]
     have h3:=of_decide_eq_false h3
     cases h4:nz (x.drop (2+(x.getD 1 0).toNat)) with
     |true=>rw[h4] at hy;simp at hy
     |false=>
      rw[cond_false]
      have hz:=sF h4
      obtain⟨n,hn⟩:∃n:Nat,x.getD 1 0=n:=⟨(x.getD 1 0).toNat,by omega⟩
      rw[hn,Int.toNat_natCast] at hz⊢
      have e0:=eq_of_beq h2
      have hbl:((x.take (2+n)).drop 2).length=n:=by simp;omega
      refine⟨fun b h=>hb b (List.mem_of_mem_take (List.mem_of_mem_drop h)),by rw[hbl];omega,?_⟩
      have d:decide ((1:Int)>1)=false:=by decide
      rw[d,cond_false]
      unfold tT
      rw[hbl,wrap8,show((n:Int)%256)=n by omega]
      have h02:[1,(n:Int)]=x.take 2:=by
       match x,hx,e0,hn with
       |a::b::t,_,e0,hn=>simp at e0 hn;simp[e0,hn]
      have t2:x.take 2=(x.take (2+n)).take 2:=by rw[List.take_take];congr 1;omega
      rw[h02,t2,List.take_append_drop,show(318 - n)=x.length - (2+n) by omega,←hz,List.take_append_drop]
 |false=>
  rw[h1,cond_false] at hy
  have h1:l≠1:=by simpa using h1
  have hlen:(x.length != 320)=false:=by rw[hx];rfl
  rw[cond_false]
  cases hz:nz x with
  |false=>rw[hz] at hy;simp at hy
  |true=>
   rw[hz,Bool.not_true,cond_false] at hy
   rw[Bool.not_true,cond_false]
   unfold cutS at hy⊢
   rw[hlen,cond_false] at hy⊢
   cases hd:nz (x.drop (ba (l - 1))) with
   |true=>rw[hd] at hy;simp at hy
   |false=>
    rw[cond_false]
    have hs1:=mT (l:=l - 1) (by omega)
    have h320:=lB l
    have hr:=sF hd
    have hbl:(x.take (ba (l - 1))).length=ba (l - 1):=by simp;omega
    refine⟨fun b h=>hb b (List.mem_of_mem_take h),by show(x.take (ba (l - 1))).length≤_;omega,?_⟩
    have d:decide (l>1)=true:=decide_eq_true (by omega)
    rw[d,cond_true]
    show padS (x.take (ba (l - 1)))=x
    unfold padS
    rw[hbl,show 320=x.length from hx.symm,←hr,List.take_append_drop]
def BKS:List Int:=[99,104,117,114,110,32,98,97,99,107]
def ownS (key nonce:List Int):List Int:=derS key nonce BKS 32
def ansB (key nonce:List Int) (l:Int) (x:List Int):List Int×Bool:=
 bif !(insS l x).2 then([],false) else(padS (kq (ownS key nonce) nonce l (insS l x).1).1,true)
theorem tP {key nonce:List Int} (hk:key.length=32) (hn:nonce.length=16):ju key nonce=some (ownS key nonce,0):=by
 unfold ju ownS
 have e0:((key.length:Int) != 32)=false:=by rw[hk];rfl
 have e1:decide (0<[99,104,117,114,110,32,98,97,99,107].length)=true:=by decide
 have e2:([99,104,117,114,110,32,98,97,99,107]:List Int)=BKS:=rfl
 rw[e0,e1,cond_false,cond_true,e2,nS (z:=32) (n:=32) rfl (by omega) (by omega) (by omega) (by simp[BKS])]
 simp only[af]
theorem oY (key nonce:List Int):(ownS key nonce).length=32:=lC _ _ _ _
theorem uP {key nonce x:List Int} {l:Int} (hk:key.length=32) (hn:nonce.length=16) (hx:x.length=320) (hb:aS x) (hl:1≤l∧l≤8):ge key nonce l x=some (ansB key nonce l x):=by
 unfold ge ansB
 rw[uO hx hb hl]
 simp only[af]
 cases h:(insS l x).2 with
 |false=>rfl
 |true=>
  obtain⟨h1,h2,_⟩:=ra hx hb hl h
  obtain⟨p1,p2,_⟩:=pM (key:=ownS key nonce) (nonce:=nonce) (x:=(insS l x).1) (oY _ _) hn hl (mT hl) h1 h2
  simp only[Bool.not_true,cond_false]
  unfold jT
  rw[tP hk hn]
  simp only[af,bne_self_eq_false,cond_false]
  rw[wt (oY _ _) hn]
  simp only[af]
  rw[p1]
  simp only[bne_self_eq_false,cond_false]
  rw[yZ p2]
  simp only[af,beq_self_eq_true]
theorem wd {x:List Int} (h:aS x):aS (padS x):=by
 intro b hb
 unfold padS at hb
 simp only[List.mem_append,List.mem_replicate] at hb
 rcases hb with hb|⟨_,rfl⟩
 · exact h b hb
 · omega
theorem uQ {key nonce x:List Int} {l:Int} (hnb:aS nonce):aS (kq key nonce l x).1:=by
 unfold kq
 cases ba l==0 with
 |true=>intro b hb;simp at hb
 |false=>
  rw[cond_false]
  cases decide ((x.length:Int)>(ba l:Int) - 34) with
  |true=>intro b hb;simp at hb
  |false=>
   intro b hb
   simp only[cond_false,List.mem_append] at hb
   rcases hb with(hb|hb)|hb
   · exact hnb b hb
   · exact uT _ _ b hb
   · exact um _ _ _ b hb
theorem xQ {key nonce x:List Int} {l:Int} (hn:nonce.length=16) (hnb:aS nonce) (hx:x.length=320) (hb:aS x) (hl:1≤l∧l≤8) (h:(insS l x).2=true):
  (ansB key nonce l x).2=true∧(ansB key nonce l x).1.length=320∧aS (ansB key nonce l x).1∧(qd (ownS key nonce) l (ansB key nonce l x).1).2=0∧(qd (ownS key nonce) l (ansB key nonce l x).1).1.Cell=x:=by
 obtain⟨h1,h2,h3⟩:=ra hx hb hl h
 obtain⟨p1,p2,p3,p4⟩:=pM (key:=ownS key nonce) (nonce:=nonce) (x:=(insS l x).1) (oY _ _) hn hl (mT hl) h1 h2
 unfold ansB
 rw[h,Bool.not_true,cond_false]
 exact⟨rfl,by simp[padS];omega,wd (uQ hnb),p3,by rw[p4,h3]⟩
end Go.Proofs.YtobbmodjdkcdcaaGreatDoor

import Derived.Test.YtobbmodjdkcdcaaGreatDoorLawUnwrap
import Derived.Test.YtobbmodjdkcdcaaGreatDoorLawCellO
set_option linter.unusedVariables false
set_option linter.unusedSimpArgs false
set_option linter.unusedSectionVars false
set_option maxRecDepth 20000
set_option maxHeartbeats 1000000
namespace Go.Proofs.YtobbmodjdkcdcaaGreatDoor
open Go Go.Sim
variable [Fu]
def insS (l:Int) (x:List Int):List Int×Bool:=
 bif l==1 then((nm x).1,(nm x).2.1&&((nm x).2.2==0)) else bif !nz x then([],false) else((cutS x (aU (l - 1))).1,(cutS x (aU (l - 1))).2==0)
theorem xc (x:List Int) (i:Nat) (h:i<x.length):(nz (x.take (i+1)))=(nz (x.take i)||x.getD i 0 != 0):=by
 unfold nz;rw[List.take_succ_eq_append_getElem h,List.any_append,gAt h];simp only[List.any_cons,List.any_nil,Bool.or_false]
theorem rY {x:List Int} {l:Int} (hx:x.length=320) (hb:be x) (hl:1≤l∧l≤8):fL x l=some (insS l x):=by
 unfold fL insS
 cases h1:(l==1) with
 |true=>rw[cond_true,cond_true,qp hb];rfl
 |false=>
  rw[cond_false,cond_false,bw (s0:=(true,0)) (r:= !nz x) (fun i=>(!nz (x.take i),(i:Int))) 0 x.length (by omega) ?_ ?_ rfl]
  · simp only[ae]
    cases nz x with
    |false=>rfl
    |true=>
     simp only[Bool.not_true,cond_false]
     rw[wrap64 (by omega),jf]
     simp only[ae]
     rw[oW rfl (jL _)]
     rfl
  · intro i _ hi
    have h3:decide ((i:Int)<(x.length:Int))=true:=decide_eq_true (by omega)
    simp only[h3,cond_true]
    rw[aW rfl (by omega)]
    simp only[ae]
    rw[wrap64 (by omega),xc x i hi]
    generalize x.getD i 0=a
    cases nz (x.take i)<;>cases h:a==0<;>simp[bne,h]
  · have h3:decide ((x.length:Int)<(x.length:Int))=false:=decide_eq_false (by omega)
    simp only[h3,cond_false,List.take_length]
theorem qt {t:List Int} (hb:be t):strB t=t:=by
 unfold strB
 conv=>rhs;rw[←List.map_id t]
 apply List.map_congr_left
 intro a ha
 have:=hb a ha
 show((UInt8.ofNat a.toNat).toNat:Int)=a
 rw[UInt8.toNat_ofNat']
 omega
theorem kZ (x:List Int):(x==List.replicate x.length (0:Int))= !nz x:=by
 rw[Bool.eq_iff_iff,beq_iff_eq]
 simp only[nz,Bool.not_eq_true',List.any_eq_false,bne_iff_ne,ne_eq,Decidable.not_not,bne_eq_false_iff_eq]
 constructor
 · intro h a ha;rw[h] at ha;exact List.eq_of_mem_replicate ha
 · intro h;exact List.eq_replicate_iff.2 ⟨rfl,h⟩
theorem wg {x:List Int} {l:Int} (hx:x.length=320) (hb:be x) (hl:1≤l∧l≤8):dX l x=some (!(insS l x).2):=by
 unfold dX insS
 cases h1:(l==1) with
 |true=>
  rw[cond_true,cond_true,qp hb]
  simp only[ae,bne]
  cases (nm x).2.2==0<;>cases (nm x).2.1<;>rfl
 |false=>
  rw[cond_false,cond_false,wrap64 (by omega),jf]
  simp only[ae]
  rw[oW rfl (jL _)]
  simp only[ae]
  have hc:(cutS x (aU (l - 1)))=bif nz (x.drop (aU (l - 1))) then([],51) else(x.take (aU (l - 1)),0):=by
   unfold cutS
   have:(x.length != 320)=false:=by rw[hx];rfl
   rw[this];rfl
  rw[hc]
  have hsplit:nz x=(nz (x.take (aU (l - 1)))||nz (x.drop (aU (l - 1)))):=by
   unfold nz;rw[←List.any_append,List.take_append_drop]
  cases hd:nz (x.drop (aU (l - 1))) with
  |true=>rw[hsplit,hd];simp
  |false=>
   rw[hsplit,hd,Bool.or_false]
   simp only[cond_false,bne_self_eq_false]
   generalize hP:x.take (aU (l - 1))=P
   have hpb:be P:=fun b h=>hb b (List.mem_of_mem_take (hP▸h))
   have hpl:P.length≤320:=by rw[←hP];simp;omega
   have g:mkB (P.length:Int) (P.length:Int)=true:=by unfold mkB;have:(room:Int)=17179869184:=rfl;rw[this];simp;omega
   have hz:be (List.replicate P.length (0:Int)):=fun b h=>by rw[List.eq_of_mem_replicate h];omega
   rw[g,cond_true,Int.toNat_natCast,qt hpb,qt hz,kZ]
   cases nz P<;>rfl
theorem ms {l:Int} (hl:1≤l∧l≤8):(aU l:Int)=48+34*l:=by
 unfold aU
 have:(decide (l<1)||decide (l>8))=false:=by simp;omega
 rw[this,cond_false];omega
theorem qu {x:List Int} {n:Nat} (h:nz (x.drop n)=false):x.drop n=List.replicate (x.length - n) 0:=by
 have:=kZ (x.drop n)
 rw[h] at this
 have:=eq_of_beq this
 rw[this];simp
theorem rZ {x:List Int} {l:Int} (hx:x.length=320) (hb:be x) (hl:1≤l∧l≤8) (hy:(insS l x).2=true):
  be (insS l x).1∧(insS l x).1.length≤aU l - 34∧(bif decide (l>1) then padS (insS l x).1 else oY (insS l x).1)=x:=by
 have hs:=ms hl
 unfold insS at hy⊢
 cases h1:(l==1) with
 |true=>
  have h1:l=1:=by simpa using h1
  subst h1
  have hlen:(x.length != 320)=false:=by rw[hx];rfl
  simp only[beq_self_eq_true,cond_true] at hy⊢
  unfold nm at hy⊢
  rw[hlen,cond_false] at hy⊢
  have b1:=dP hb 1
  cases h0:x.getD 0 0==0 with
  |true=>rw[h0] at hy;simp at hy
  |false=>
   rw[h0,cond_false] at hy
   rw[cond_false]
   cases h2:x.getD 0 0==1 with
   |false=>rw[h2] at hy;simp at hy
   |true=>
    rw[h2,cond_true] at hy
    rw[cond_true]
    cases h3:decide (x.getD 1 0>48) with
    |true=>rw[h3] at hy;simp at hy
    |false=>
     rw[h3,cond_false] at hy
     rw[cond_false]
     have h3:=of_decide_eq_false h3
     cases h4:nz (x.drop (2+(x.getD 1 0).toNat)) with
     |true=>rw[h4] at hy;simp at hy
     |false=>
      rw[cond_false]
      have hz:=qu h4
      obtain⟨n,hn⟩:∃n:Nat,x.getD 1 0=n:=⟨(x.getD 1 0).toNat,by omega⟩
      rw[hn,Int.toNat_natCast] at hz⊢
      have e0:=eq_of_beq h2
      have hbl:((x.take (2+n)).drop 2).length=n:=by simp;omega
      refine⟨fun b h=>hb b (List.mem_of_mem_take (List.mem_of_mem_drop h)),by rw[hbl];omega,?_⟩
      have d:decide ((1:Int)>1)=false:=by decide
      rw[d,cond_false]
      unfold oY
      rw[hbl,wrap8,show((n:Int)%256)=n by omega]
      have h02:[1,(n:Int)]=x.take 2:=by
       match x,hx,e0,hn with
       |a::b::t,_,e0,hn=>simp at e0 hn;simp[e0,hn]
      have t2:x.take 2=(x.take (2+n)).take 2:=by rw[List.take_take];congr 1;omega
      rw[h02,t2,List.take_append_drop,show(318 - n)=x.length - (2+n) by omega,←hz,List.take_append_drop]
 |false=>
  rw[h1,cond_false] at hy
  have h1:l≠1:=by simpa using h1
  have hlen:(x.length != 320)=false:=by rw[hx];rfl
  rw[cond_false]
  cases hz:nz x with
  |false=>rw[hz] at hy;simp at hy
  |true=>
   rw[hz,Bool.not_true,cond_false] at hy
   rw[Bool.not_true,cond_false]
   unfold cutS at hy⊢
   rw[hlen,cond_false] at hy⊢
   cases hd:nz (x.drop (aU (l - 1))) with
   |true=>rw[hd] at hy;simp at hy
   |false=>
    rw[cond_false]
    have hs1:=ms (l:=l - 1) (by omega)
    have h320:=jL l
    have hr:=qu hd
    have hbl:(x.take (aU (l - 1))).length=aU (l - 1):=by simp;omega
    refine⟨fun b h=>hb b (List.mem_of_mem_take h),by show(x.take (aU (l - 1))).length≤_;omega,?_⟩
    have d:decide (l>1)=true:=decide_eq_true (by omega)
    rw[d,cond_true]
    show padS (x.take (aU (l - 1)))=x
    unfold padS
    rw[hbl,show 320=x.length from hx.symm,←hr,List.take_append_drop]
def BKS:List Int:=[99,104,117,114,110,32,98,97,99,107]
def ownS (key nonce:List Int):List Int:=derS key nonce BKS 32
def ansB (key nonce:List Int) (l:Int) (x:List Int):List Int×Bool:=
 bif !(insS l x).2 then([],false) else(padS (lj (ownS key nonce) nonce l (insS l x).1).1,true)
theorem mt {key nonce:List Int} (hk:key.length=32) (hn:nonce.length=16):ga key nonce=some (ownS key nonce,0):=by
 unfold ga ownS
 have e0:((key.length:Int) != 32)=false:=by rw[hk];rfl
 have e1:decide (0<[99,104,117,114,110,32,98,97,99,107].length)=true:=by decide
 have e2:([99,104,117,114,110,32,98,97,99,107]:List Int)=BKS:=rfl
 rw[e0,e1,cond_false,cond_true,e2,lU (z:=32) (n:=32) rfl (by omega) (by omega) (by omega) (by simp[BKS])]
 simp only[ae]
theorem mu (key nonce:List Int):(ownS key nonce).length=32:=my _ _ _ _
theorem sa {key nonce x:List Int} {l:Int} (hk:key.length=32) (hn:nonce.length=16) (hx:x.length=320) (hb:be x) (hl:1≤l∧l≤8):eV key nonce l x=some (ansB key nonce l x):=by
 unfold eV ansB
 rw[rY hx hb hl]
 simp only[ae]
 cases h:(insS l x).2 with
 |false=>rfl
 |true=>
  obtain⟨h1,h2,_⟩:=rZ hx hb hl h
  obtain⟨p1,p2,_⟩:=qO (key:=ownS key nonce) (nonce:=nonce) (x:=(insS l x).1) (mu _ _) hn hl (ms hl) h1 h2
  simp only[Bool.not_true,cond_false]
  unfold iQ
  rw[mt hk hn]
  simp only[ae,bne_self_eq_false,cond_false]
  rw[tS (mu _ _) hn]
  simp only[ae]
  rw[p1]
  simp only[bne_self_eq_false,cond_false]
  rw[sf p2]
  simp only[ae,beq_self_eq_true]
theorem tq {x:List Int} (h:be x):be (padS x):=by
 intro b hb
 unfold padS at hb
 simp only[List.mem_append,List.mem_replicate] at hb
 rcases hb with hb|⟨_,rfl⟩
 · exact h b hb
 · omega
theorem sd {key nonce x:List Int} {l:Int} (hnb:be nonce):be (lj key nonce l x).1:=by
 unfold lj
 cases aU l==0 with
 |true=>intro b hb;simp at hb
 |false=>
  rw[cond_false]
  cases decide ((x.length:Int)>(aU l:Int) - 34) with
  |true=>intro b hb;simp at hb
  |false=>
   intro b hb
   simp only[cond_false,List.mem_append] at hb
   rcases hb with(hb|hb)|hb
   · exact hnb b hb
   · exact nr _ _ b hb
   · exact nj _ _ _ b hb
theorem qv {key nonce x:List Int} {l:Int} (hn:nonce.length=16) (hnb:be nonce) (hx:x.length=320) (hb:be x) (hl:1≤l∧l≤8) (h:(insS l x).2=true):
  (ansB key nonce l x).2=true∧(ansB key nonce l x).1.length=320∧be (ansB key nonce l x).1∧(lM (ownS key nonce) l (ansB key nonce l x).1).2=0∧(lM (ownS key nonce) l (ansB key nonce l x).1).1.Cell=x:=by
 obtain⟨h1,h2,h3⟩:=rZ hx hb hl h
 obtain⟨p1,p2,p3,p4⟩:=qO (key:=ownS key nonce) (nonce:=nonce) (x:=(insS l x).1) (mu _ _) hn hl (ms hl) h1 h2
 unfold ansB
 rw[h,Bool.not_true,cond_false]
 exact⟨rfl,by simp[padS];omega,tq (sd hnb),p3,by rw[p4,h3]⟩
end Go.Proofs.YtobbmodjdkcdcaaGreatDoor

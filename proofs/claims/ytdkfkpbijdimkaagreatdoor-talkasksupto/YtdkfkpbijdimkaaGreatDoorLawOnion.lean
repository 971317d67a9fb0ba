import Derived.Test.YtdkfkpbijdimkaaGreatDoorLawAes5
set_option linter.unusedVariables false
set_option linter.unusedSimpArgs false
set_option maxRecDepth 20000
set_option maxHeartbeats 1000000
namespace Go.Proofs.YtdkfkpbijdimkaaGreatDoor
open Go Go.Sim
set_option linter.unusedSectionVars false
variable [Fu]
theorem gX {c:List Int} {n:Nat}:((c.length:Int) != (n:Int))=(c.length != n):=by
 rw[Bool.eq_iff_iff];simp only[bne_iff_ne];omega
def padS (x:List Int):List Int:=x++List.replicate (320 - x.length) 0
theorem lx {x front:List Int} {off:Nat} (hf:front.length=off) (hx:off+x.length≤320):over (over (List.replicate 320 (0:Int)) 0 320 front) off 320 x=front++x++List.replicate (320 - off - x.length) 0:=by
 have e1:over (List.replicate 320 (0:Int)) 0 320 front=front++List.replicate (320 - off) 0:=by
  rw[eP (by omega) (by simp)]
  have:front.take (320 - 0)=front:=List.take_of_length_le (by omega)
  rw[this,List.take_zero,List.nil_append,List.drop_replicate]
  congr 2;omega
 rw[e1,eP (by omega) (by simp;omega)]
 have t1:(front++List.replicate (320 - off) (0:Int)).take off=front:=by rw[List.take_append_of_le_length (by omega),List.take_of_length_le (by omega)]
 have t2:x.take (320 - off)=x:=List.take_of_length_le (by omega)
 have t3:(front++List.replicate (320 - off) (0:Int)).drop (off+min x.length (320 - off))=List.replicate (320 - off - x.length) 0:=by
  have:off+min x.length (320 - off)=front.length+x.length:=by omega
  rw[this,List.drop_append,List.drop_replicate]
  simp
 rw[t1,t2,t3]
theorem ly {x front:List Int} {z:Int} {off:Nat} (hz:z=off) (hf:front.length=off) (hx:off+x.length≤320):c5 x z front=some (front++x++List.replicate (320 - off - x.length) 0):=by
 subst hz
 unfold c5
 have g0:mkB 320 320=true:=by decide
 have e0:List.replicate (Int.toNat 320) (0:Int)=List.replicate 320 0:=rfl
 rw[g0,cond_true,e0,List.length_replicate]
 have ho:(over (List.replicate 320 (0:Int)) 0 320 front).length=320:=by rw[eI (by omega) (by simp)];simp
 rw[ho]
 have g1:decide ((0:Int)≤(off:Int)∧(off:Int)≤((320:Nat):Int)∧(((320:Nat):Int):Int)≤((320:Nat):Int))=true:=decide_eq_true (by omega)
 have g2:decide ((Int.toNat (off:Int))≤(Int.toNat ((320:Nat):Int))∧(Int.toNat ((320:Nat):Int))≤320)=true:=decide_eq_true (by omega)
 first
  |rw[g1,g2]
  |skip
 simp only[cond_true,Int.toNat_natCast]
 rw[lx hf hx]
 try rfl
theorem jO {x:List Int} (h:x.length≤320):cy x=some (padS x,0):=by
 unfold cy
 have e:decide ((x.length:Int)>320)=false:=decide_eq_false (by omega)
 rw[e,cond_false,ly (z:=0) (off:=0) rfl rfl (by omega)];rfl
theorem l8 {x:List Int} (h:x.length≤320):cf x=some (padS x):=by
 unfold cf
 have hroom:room=17179869184:=rfl
 rw[aN (by rw[hroom];simp;omega)]
 simp only[aa,List.nil_append]
 rw[aq (fun i=>x++List.replicate i (0:Int)) 0 (320 - x.length) (r:=padS x) (by omega) ?_ (bP (decide_eq_false (by simp;omega))) (by simp)]
 · rfl
 · intro i _ hi
   have h1:decide (((x++List.replicate i (0:Int)).length:Int)<320)=true:=decide_eq_true (by simp;omega)
   rw[h1,cond_true,aN (by rw[hroom];simp;omega)]
   simp only[aa]
   rw[List.append_assoc,←List.replicate_succ']
theorem mR {x:List Int} (h:x.length≤320):be x=some (padS x,0):=by
 unfold be
 have e:decide ((x.length:Int)>320)=false:=decide_eq_false (by omega)
 rw[e,cond_false,l8 h];rfl
def aB (l:Int):Nat:=bif decide (l<1)||decide (l>8) then 0 else(48+34*l).toNat
theorem ik (l:Int):aB l≤320:=by
 unfold aB
 cases h:decide (l<1)||decide (l>8) with
 |true=>simp
 |false=>rw[Bool.or_eq_false_iff] at h;simp at h;simp only[cond_false];omega
theorem gj {l:Int} (h:aB l≠0):1≤l∧l≤8∧(aB l:Int)=48+34*l:=by
 unfold aB at h⊢
 cases hc:decide (l<1)||decide (l>8) with
 |true=>rw[hc] at h;simp at h
 |false=>rw[Bool.or_eq_false_iff] at hc;simp at hc;simp only[cond_false];omega
theorem kw (l:Int):bK l=some (aB l:Int):=by
 unfold bK aB
 cases h:decide (l<1)||decide (l>8) with
 |true=>rfl
 |false=>
  rw[Bool.or_eq_false_iff] at h;simp at h
  simp only[cond_false]
  rw[wrap64 (x:=34*l) (by omega),wrap64 (by omega)]
  congr 1;omega
theorem l9 (l:Int):aU l=some (aB l:Int):=by
 unfold aU aB
 cases h:decide (l<1)||decide (l>8) with
 |true=>rfl
 |false=>
  rw[Bool.or_eq_false_iff] at h;simp at h
  simp only[cond_false]
  rw[wrap64 (x:=l - 1) (by omega),wrap64 (x:=34*(l - 1)) (by omega),wrap64 (by omega)]
  congr 1;omega
def CH:List Int:=[99,104,117,114,110]
def dU (key nonce:List Int):ab:=⟨(derS key nonce CH 80).take 16,((derS key nonce CH 80).take 48).drop 16,(derS key nonce CH 80).drop 48⟩
theorem il (a b c:List Int) (n:Nat):(derS a b c n).length=n:=mQ _ _ _
theorem kx (a b c:List Int) (n:Nat):cj (derS a b c n):=lw _ _ _
theorem iZ (key nonce:List Int):(dU key nonce).Box.length=16∧(dU key nonce).Mac.length=32∧(dU key nonce).Replay.length=32:=by
 have:=il key nonce CH 80
 simp[dU,this]
theorem i0 (key nonce:List Int):cj (dU key nonce).Box:=fun b h=>by
 simp only[dU] at h
 exact kx key nonce CH 80 b (List.mem_of_mem_take h)
theorem ju {key nonce:List Int} (hk:key.length=32) (hn:nonce.length=16):bT key nonce=some (dU key nonce,0):=by
 unfold bT
 have e0:((key.length:Int) != 32)=false:=by rw[hk];rfl
 have e1:decide (0<[99,104,117,114,110].length)=true:=by decide
 rw[e0,e1,cond_false,cond_true,ii (z:=80) (n:=80) rfl (by omega) (by omega) (by omega) (by simp)]
 simp only[aa]
 have hl:=il key nonce CH 80
 have hd:derS key nonce [99,104,117,114,110] 80=derS key nonce CH 80:=rfl
 have hK:dU key nonce=⟨(derS key nonce CH 80).take 16,((derS key nonce CH 80).take 48).drop 16,(derS key nonce CH 80).drop 48⟩:=rfl
 rw[hd,hK]
 generalize derS key nonce CH 80=P at*
 simp only[bne_self_eq_false,cond_false]
 rw[fY (h:=16) (j:=16) rfl (by omega)]
 simp only[aa]
 rw[gU (l:=16) (h:=48) (i:=16) (j:=48) rfl rfl (by omega) (by omega)]
 simp only[aa]
 rw[gU (l:=48) (i:=48) (j:=80) rfl (by omega) (by omega) (by omega)]
 simp only[aa]
 have g1:decide (16≤(P.take 16).length)=true:=decide_eq_true (by simp;omega)
 have g2:decide (32≤((P.take 48).drop 16).length)=true:=decide_eq_true (by simp;omega)
 have g3:decide (32≤((P.take 80).drop 48).length)=true:=decide_eq_true (by simp;omega)
 rw[g1,g2,g3,cond_true,cond_true,cond_true]
 have t1:(P.take 16).take 16=P.take 16:=List.take_of_length_le (by simp;omega)
 have t2:((P.take 48).drop 16).take 32=(P.take 48).drop 16:=List.take_of_length_le (by simp;omega)
 have t3:P.take 80=P:=List.take_of_length_le (by omega)
 have t4:(P.drop 48).take 32=P.drop 48:=List.take_of_length_le (by simp;omega)
 rw[t1,t2,t3,t4]
theorem gO {key nonce:List Int} (hk:key.length=32) (hn:nonce.length=16):bI key nonce=some (dU key nonce,0):=by
 unfold bI
 have e0:((key.length:Int) != 32)=false:=by rw[hk];rfl
 have e1:decide (0<[99,104,117,114,110].length)=true:=by decide
 rw[e0,e1,cond_false,cond_true,ij (z:=80) (n:=80) rfl (by omega) (by omega) (by omega) (by simp)]
 simp only[aa]
 have hl:=il key nonce CH 80
 have hd:derS key nonce [99,104,117,114,110] 80=derS key nonce CH 80:=rfl
 have hK:dU key nonce=⟨(derS key nonce CH 80).take 16,((derS key nonce CH 80).take 48).drop 16,(derS key nonce CH 80).drop 48⟩:=rfl
 rw[hd,hK]
 generalize derS key nonce CH 80=P at*
 rw[aq (fun i=>((i:Int),(⟨part1 16 (fun j=>P.getD j 0) (fun _=>0) i,part1 32 (fun j=>P.getD (16+j) 0) (fun _=>0) (i - 16),part1 32 (fun j=>P.getD (48+j) 0) (fun _=>0) (i - 48)⟩:ab))) 0 80 (r:=⟨P.take 16,(P.take 48).drop 16,P.drop 48⟩) (by omega) ?_ ?_ (by rfl)]
 · rfl
 · intro i _ hi
   have h1:decide ((i:Int)<80)=true:=decide_eq_true (by omega)
   simp only[h1,cond_true]
   by_cases c1:i<16
   · have d1:decide ((i:Int)<16)=true:=decide_eq_true (by omega)
     simp only[d1,cond_true]
     rw[ai (xs:=P) rfl (by omega)]
     simp only[aa]
     rw[aV rfl (by omega)]
     simp only[aa,Int.toNat_natCast]
     have z1:i+1 - 16=i - 16:=by omega
     have z2:i+1 - 48=i - 48:=by omega
     rw[wrap64 (by omega),aP (f:=fun j=>P.getD j 0) (by omega) rfl,z1,z2];rfl
   · have d1:decide ((i:Int)<16)=false:=decide_eq_false (by omega)
     simp only[d1,cond_false]
     have cap1:part1 16 (fun j=>P.getD j 0) (fun _=>0) i=part1 16 (fun j=>P.getD j 0) (fun _=>0) (i+1):=dS (by omega) (by omega)
     by_cases c2:i<48
     · have d2:decide ((i:Int)<48)=true:=decide_eq_true (by omega)
       simp only[d2,cond_true]
       rw[ai (xs:=P) rfl (by omega)]
       simp only[aa]
       rw[wrap64 (x:=(i:Int) - 16) (by omega),aV (k:=i - 16) (by omega) (by omega)]
       simp only[aa]
       have z0:Int.toNat ((i:Int) - 16)=i - 16:=by omega
       have z1:i - 16+1=i+1 - 16:=by omega
       have z2:i+1 - 48=i - 48:=by omega
       have z3:P.getD i 0=P.getD (16+(i - 16)) 0:=by rw[show 16+(i - 16)=i by omega]
       rw[wrap64 (by omega),z0,aP (f:=fun j=>P.getD (16+j) 0) (by omega) z3,z1,z2,cap1];rfl
     · have d2:decide ((i:Int)<48)=false:=decide_eq_false (by omega)
       simp only[d2,cond_false]
       have cap2:part1 32 (fun j=>P.getD (16+j) 0) (fun _=>0) (i - 16)=part1 32 (fun j=>P.getD (16+j) 0) (fun _=>0) (i+1 - 16):=dS (by omega) (by omega)
       rw[ai (xs:=P) rfl (by omega)]
       simp only[aa]
       rw[wrap64 (x:=(i:Int) - 48) (by omega),aV (k:=i - 48) (by omega) (by omega)]
       simp only[aa]
       have z0:Int.toNat ((i:Int) - 48)=i - 48:=by omega
       have z1:i - 48+1=i+1 - 48:=by omega
       have z3:P.getD i 0=P.getD (48+(i - 48)) 0:=by rw[show 48+(i - 48)=i by omega]
       rw[wrap64 (by omega),z0,aP (f:=fun j=>P.getD (48+j) 0) (by omega) z3,z1,cap1,cap2];rfl
 · have h1:decide (((80:Nat):Int)<80)=false:=by decide
   simp only[h1,cond_false]
   rw[dS (n:=16) (i:=80) (k:=16) (by omega) (by omega),dS (n:=32) (i:=80 - 16) (k:=32) (by omega) (by omega),show 80 - 48=32 from rfl,bV,bV,bV]
   have r1:(List.range 16).map (fun j=>P.getD j 0)=P.take 16:=by
     apply dy
     · simp;omega
     · intro j hj;simp at hj;simp[hj,List.getElem?_take]
   have r2:(List.range 32).map (fun j=>P.getD (16+j) 0)=(P.take 48).drop 16:=by
     apply dy
     · simp;omega
     · intro j hj;simp at hj;simp[hj,List.getElem?_take,List.getElem?_drop,show 16+j<48 by omega]
   have r3:(List.range 32).map (fun j=>P.getD (48+j) 0)=P.drop 48:=by
     apply dy
     · simp;omega
     · intro j hj;simp at hj;simp[hj,List.getElem?_drop]
   rw[r1,r2,r3]
def jP (key msg:List Int):List Int:=(tagS key msg).take 16
theorem gl (key msg:List Int):(jP key msg).length=16:=by simp[jP,c6]
theorem ma {key msg:List Int} (hk:key.length<2^30) (hm:msg.length<2^30):cd key msg=some (jP key msg):=by
 unfold cd
 rw[jt hk hm]
 simp only[aa]
 have hl:=c6 key msg
 have hh:jP key msg=(tagS key msg).take 16:=rfl
 rw[hh]
 generalize tagS key msg=P at*
 rw[aq (fun i=>((i:Int),part1 16 (fun j=>P.getD j 0) (fun _=>0) i)) 0 16 (r:=P.take 16) (by omega) ?_ ?_ (by rfl)]
 · rfl
 · intro i _ hi
   have h1:decide ((i:Int)<16)=true:=decide_eq_true (by omega)
   simp only[h1,cond_true]
   rw[ai (xs:=P) rfl (by omega)]
   simp only[aa]
   rw[aV rfl (by omega)]
   simp only[aa,Int.toNat_natCast]
   rw[wrap64 (by omega),aP (f:=fun j=>P.getD j 0) (by omega) rfl];rfl
 · have h1:decide (((16:Nat):Int)<16)=false:=by decide
   simp only[h1,cond_false]
   rw[bV]
   have r1:(List.range 16).map (fun j=>P.getD j 0)=P.take 16:=by
    apply dy
    · simp;omega
    · intro j hj;simp at hj;simp[hj,List.getElem?_take]
   rw[r1]
def tagO (ks:ab) (l:Int) (nonce box:List Int):List Int:=jP ks.Mac ([IntKind.wrap .u8 l]++nonce++box)
theorem jv {ks:ab} {l:Int} {nonce box:List Int} (hk:ks.Mac.length<2^30) (hn:nonce.length=16) (hb:box.length<2^29):cm ks l nonce box=some (tagO ks l nonce box):=by
 unfold cm
 have hroom:room=17179869184:=rfl
 rw[aN (by rw[hroom];simp;omega)]
 simp only[aa]
 rw[aN (by rw[hroom];simp;omega)]
 simp only[aa]
 rw[js hk (by simp;omega)]
 simp only[aa]
 rw[fY (h:=16) (j:=16) rfl (by rw[c6];omega)];rfl
theorem mS {ks:ab} {l:Int} {nonce box:List Int} (hk:ks.Mac.length<2^30) (hn:nonce.length=16) (hb:box.length<2^29):cp ks l nonce box=some (tagO ks l nonce box):=by
 unfold cp
 have hroom:room=17179869184:=rfl
 rw[aN (by rw[hroom];simp;omega)]
 simp only[aa]
 rw[aN (by rw[hroom];simp;omega)]
 simp only[aa]
 rw[ma hk (by simp;omega)];rfl
end Go.Proofs.YtdkfkpbijdimkaaGreatDoor

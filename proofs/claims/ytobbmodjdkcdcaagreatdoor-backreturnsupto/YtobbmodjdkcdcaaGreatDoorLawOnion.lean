import Derived.Test.YtobbmodjdkcdcaaGreatDoorLawAes5
set_option linter.unusedVariables false
set_option linter.unusedSimpArgs false
set_option maxRecDepth 20000
set_option maxHeartbeats 1000000
namespace Go.Proofs.YtobbmodjdkcdcaaGreatDoor
open Go Go.Sim
set_option linter.unusedSectionVars false
variable [Fu]
theorem ri {R:Type} {step:Int→Option (Ctl Int R)} {p:Nat→Bool} {good bad:R} {s0:Int} (b:Bool) (a n:Nat) (han:a≤n) (hb:b=true↔∃i,a≤i∧i<n∧p i=true)
  (h:∀i:Nat,a≤i→i<n→step (i:Int)=some (bif p i then .done bad else .next ((i+1:Nat):Int))) (hn:step (n:Int)=some (.done good)) (h0:s0=(a:Int)):
  Loop.run step s0=some (bif b then bad else good):=by
 subst h0
 have key:∀k a,n - a=k→a≤n→(∀i:Nat,a≤i→i<n→step (i:Int)=some (bif p i then .done bad else .next ((i+1:Nat):Int)))→
   ((∃i,a≤i∧i<n∧p i=true)→Loop.run step (a:Int)=some bad)∧((¬∃i,a≤i∧i<n∧p i=true)→Loop.run step (a:Int)=some good):=by
  intro k
  induction k with
  |zero=>
   intro a h1 h2 h3
   have:a=n:=by omega
   subst this
   exact⟨fun⟨i,h4,h5,_⟩=>by omega,fun _=>Loop.run_done hn⟩
  |succ k ih=>
   intro a h1 h2 h3
   have hs:=h3 a (Nat.le_refl _) (by omega)
   obtain⟨i1,i2⟩:=ih (a+1) (by omega) (by omega) (fun i h4 h5=>h3 i (by omega) h5)
   cases hp:p a with
   |true=>
    rw[hp,cond_true] at hs
    exact⟨fun _=>Loop.run_done hs,fun hno=>absurd ⟨a,Nat.le_refl _,by omega,hp⟩ hno⟩
   |false=>
    rw[hp,cond_false] at hs
    rw[Loop.run_next hs]
    refine⟨fun⟨i,h4,h5,h6⟩=>i1 ⟨i,?_,h5,h6⟩,fun hno=>i2 fun⟨i,h4,h5,h6⟩=>hno ⟨i,by omega,h5,h6⟩⟩
    have:i≠a:=fun e=>by rw[e,hp] at h6;cases h6
    omega
 obtain⟨k1,k2⟩:=key _ a rfl han h
 cases b with
 |true=>exact k1 (hb.1 rfl)
 |false=>exact k2 fun he=>by have:=hb.2 he;cases this
def nz (l:List Int):Bool:=l.any (· != 0)
theorem wh {l:List Int} {a:Nat}:nz (l.drop a)=true↔∃i,a≤i∧i<l.length∧(l.getD i 0 != 0)=true:=by
 unfold nz
 rw[List.any_eq_true]
 constructor
 · rintro⟨x,hx,h⟩
   obtain⟨j,hj,e⟩:=List.getElem_of_mem hx
   simp only[List.length_drop] at hj
   refine⟨a+j,by omega,by omega,?_⟩
   rw[List.getElem_drop] at e
   have:l.getD (a+j) 0=x:=by rw[←e];simp[show a+j<l.length by omega]
   rw[this];exact h
 · rintro⟨i,h1,h2,h3⟩
   have e:l.getD i 0=l[i]:=by simp[h2]
   rw[e] at h3
   refine⟨l[i],?_,h3⟩
   rw[List.mem_iff_getElem]
   exact⟨i - a,by simp;omega,by simp[show a+(i - a)=i by omega]⟩
theorem oZ {x:List Int} (h:x.length<2^30):fL x=some (!nz x):=by
 unfold fL
 rw[ri (p:=fun i=>x.getD i 0 != 0) (good:= .inl ()) (bad:= .inr false) (nz x) 0 x.length (by omega) (by have:=wh (l:=x) (a:=0);rw[List.drop_zero] at this;exact this) ?_ (ef (decide_eq_false (by omega))) (by rfl)]
 · cases nz x<;>rfl
 · intro i _ hi
   have h1:decide ((i:Int)<(x.length:Int))=true:=decide_eq_true (by omega)
   rw[h1,cond_true,ar rfl hi]
   simp only[af]
   rw[wrap64 (by omega)];cases x.getD i 0 != 0<;>rfl
theorem qc {x:List Int} {z:Int} {a:Nat} (hz:z=a) (ha:a≤x.length) (h:x.length<2^30):df x z=some (!nz (x.drop a)):=by
 unfold df
 rw[ri (p:=fun i=>x.getD i 0 != 0) (good:= .inl ()) (bad:= .inr false) (nz (x.drop a)) a x.length ha wh ?_ (ef (decide_eq_false (by omega))) hz]
 · cases nz (x.drop a)<;>rfl
 · intro i _ hi
   have h1:decide ((i:Int)<(x.length:Int))=true:=decide_eq_true (by omega)
   rw[h1,cond_true,ar rfl hi]
   simp only[af]
   rw[wrap64 (by omega)];cases x.getD i 0 != 0<;>rfl
def cutS (c:List Int) (n:Nat):List Int×Int:=bif c.length != 320 then([],50) else bif nz (c.drop n) then([],51) else(c.take n,0)
theorem l8 {c:List Int} {n:Nat}:((c.length:Int) != (n:Int))=(c.length != n):=by
 rw[Bool.eq_iff_iff];simp only[bne_iff_ne];omega
theorem yY {c:List Int} {z:Int} {n:Nat} (hz:z=n) (hn:n≤320):ki c z=some (cutS c n):=by
 unfold ki cutS
 have e0:((c.length:Int) != 320)=(c.length != 320):=l8 (n:=320)
 rw[e0]
 cases h:(c.length != 320) with
 |true=>rfl
 |false=>
  have hl:c.length=320:=by simpa using h
  simp only[cond_false]
  have e1:(decide (z<0)||decide (z>320))=false:=by rw[Bool.or_eq_false_iff];exact⟨decide_eq_false (by omega),decide_eq_false (by omega)⟩
  rw[e1,cond_false,jn (j:=320) hz (by omega) hn (by omega)]
  simp only[af]
  have e2:c.take 320=c:=List.take_of_length_le (by omega)
  rw[e2,oZ (by simp;omega)]
  simp only[af,Bool.not_not]
  cases nz (c.drop n) with
  |true=>rfl
  |false=>
   simp only[cond_false]
   rw[jy hz (by omega)]
   simp only[af]
   rw[bK (by simp[room];omega)];rfl
theorem Ai {c:List Int} {z:Int} {n:Nat} (hz:z=n) (hn:n≤320):fN c z=some (cutS c n):=by
 unfold fN cutS
 have e0:((c.length:Int) != 320)=(c.length != 320):=l8 (n:=320)
 rw[e0]
 cases h:(c.length != 320) with
 |true=>rfl
 |false=>
  have hl:c.length=320:=by simpa using h
  simp only[cond_false]
  have e1:(decide (z<0)||decide (z>320))=false:=by rw[Bool.or_eq_false_iff];exact⟨decide_eq_false (by omega),decide_eq_false (by omega)⟩
  rw[e1,cond_false,qc hz (by omega) (by omega)]
  simp only[af,Bool.not_not]
  cases nz (c.drop n) with
  |true=>rfl
  |false=>
   simp only[cond_false]
   rw[jy hz (by omega)]
   simp only[af]
   rw[bK (by simp[room];omega)];rfl
def padS (x:List Int):List Int:=x++List.replicate (320 - x.length) 0
def tT (x:List Int):List Int:=[1,IntKind.wrap .u8 (x.length:Int)]++x++List.replicate (318 - x.length) 0
theorem xS {x front:List Int} {off:Nat} (hf:front.length=off) (hx:off+x.length≤320):over (over (List.replicate 320 (0:Int)) 0 320 front) off 320 x=front++x++List.replicate (320 - off - x.length) 0:=by
 have e1:over (List.replicate 320 (0:Int)) 0 320 front=front++List.replicate (320 - off) 0:=by
  rw[kP (by omega) (by simp)]
  have:front.take (320 - 0)=front:=List.take_of_length_le (by omega)
  rw[this,List.take_zero,List.nil_append,List.drop_replicate]
  congr 2;omega
 rw[e1,kP (by omega) (by simp;omega)]
 have t1:(front++List.replicate (320 - off) (0:Int)).take off=front:=by rw[List.take_append_of_le_length (by omega),List.take_of_length_le (by omega)]
 have t2:x.take (320 - off)=x:=List.take_of_length_le (by omega)
 have t3:(front++List.replicate (320 - off) (0:Int)).drop (off+min x.length (320 - off))=List.replicate (320 - off - x.length) 0:=by
  have:off+min x.length (320 - off)=front.length+x.length:=by omega
  rw[this,List.drop_append,List.drop_replicate]
  simp
 rw[t1,t2,t3]
theorem xT {x front:List Int} {z:Int} {off:Nat} (hz:z=off) (hf:front.length=off) (hx:off+x.length≤320):iC x z front=some (front++x++List.replicate (320 - off - x.length) 0):=by
 subst hz
 unfold iC
 have g0:mkB 320 320=true:=by decide
 have e0:List.replicate (Int.toNat 320) (0:Int)=List.replicate 320 0:=rfl
 rw[g0,cond_true,e0,List.length_replicate]
 have ho:(over (List.replicate 320 (0:Int)) 0 320 front).length=320:=by rw[lG (by omega) (by simp)];simp
 rw[ho]
 have g1:decide ((0:Int)≤(off:Int)∧(off:Int)≤((320:Nat):Int)∧(((320:Nat):Int):Int)≤((320:Nat):Int))=true:=decide_eq_true (by omega)
 have g2:decide ((Int.toNat (off:Int))≤(Int.toNat ((320:Nat):Int))∧(Int.toNat ((320:Nat):Int))≤320)=true:=decide_eq_true (by omega)
 first
  |rw[g1,g2]
  |skip
 simp only[cond_true,Int.toNat_natCast]
 rw[xS hf hx]
 try rfl
theorem yZ {x:List Int} (h:x.length≤320):jb x=some (padS x,0):=by
 unfold jb
 have e:decide ((x.length:Int)>320)=false:=decide_eq_false (by omega)
 rw[e,cond_false,xT (z:=0) (off:=0) rfl rfl (by omega)];rfl
def ba (l:Int):Nat:=bif decide (l<1)||decide (l>8) then 0 else(48+34*l).toNat
theorem lB (l:Int):ba l≤320:=by
 unfold ba
 cases h:decide (l<1)||decide (l>8) with
 |true=>simp
 |false=>rw[Bool.or_eq_false_iff] at h;simp at h;simp only[cond_false];omega
theorem sH {l:Int} (h:ba l≠0):1≤l∧l≤8∧(ba l:Int)=48+34*l:=by
 unfold ba at h⊢
 cases hc:decide (l<1)||decide (l>8) with
 |true=>rw[hc] at h;simp at h
 |false=>rw[Bool.or_eq_false_iff] at hc;simp at hc;simp only[cond_false];omega
theorem rj (l:Int):eP l=some (ba l:Int):=by
 unfold eP ba
 cases h:decide (l<1)||decide (l>8) with
 |true=>rfl
 |false=>
  rw[Bool.or_eq_false_iff] at h;simp at h
  simp only[cond_false]
  rw[wrap64 (x:=34*l) (by omega),wrap64 (by omega)]
  congr 1;omega
theorem uS (l:Int):cU l=some (ba l:Int):=by
 unfold cU ba
 cases h:decide (l<1)||decide (l>8) with
 |true=>rfl
 |false=>
  rw[Bool.or_eq_false_iff] at h;simp at h
  simp only[cond_false]
  rw[wrap64 (x:=l - 1) (by omega),wrap64 (x:=34*(l - 1)) (by omega),wrap64 (by omega)]
  congr 1;omega
def CH:List Int:=[99,104,117,114,110]
def gP (key nonce:List Int):an:=⟨(derS key nonce CH 80).take 16,((derS key nonce CH 80).take 48).drop 16,(derS key nonce CH 80).drop 48⟩
theorem lC (a b c:List Int) (n:Nat):(derS a b c n).length=n:=Ah _ _ _
theorem wi (a b c:List Int) (n:Nat):aS (derS a b c n):=xR _ _ _
theorem sI (key nonce:List Int):(gP key nonce).Box.length=16∧(gP key nonce).Mac.length=32∧(gP key nonce).Replay.length=32:=by
 have:=lC key nonce CH 80
 simp[gP,this]
theorem sJ (key nonce:List Int):aS (gP key nonce).Box:=fun b h=>by
 simp only[gP] at h
 exact wi key nonce CH 80 b (List.mem_of_mem_take h)
theorem tU {key nonce:List Int} (hk:key.length=32) (hn:nonce.length=16):gN key nonce=some (gP key nonce,0):=by
 unfold gN
 have e0:((key.length:Int) != 32)=false:=by rw[hk];rfl
 have e1:decide (0<[99,104,117,114,110].length)=true:=by decide
 rw[e0,e1,cond_false,cond_true,nS (z:=80) (n:=80) rfl (by omega) (by omega) (by omega) (by simp)]
 simp only[af]
 have hl:=lC key nonce CH 80
 have hd:derS key nonce [99,104,117,114,110] 80=derS key nonce CH 80:=rfl
 have hK:gP key nonce=⟨(derS key nonce CH 80).take 16,((derS key nonce CH 80).take 48).drop 16,(derS key nonce CH 80).drop 48⟩:=rfl
 rw[hd,hK]
 generalize derS key nonce CH 80=P at*
 simp only[bne_self_eq_false,cond_false]
 rw[jy (h:=16) (j:=16) rfl (by omega)]
 simp only[af]
 rw[jn (l:=16) (h:=48) (i:=16) (j:=48) rfl rfl (by omega) (by omega)]
 simp only[af]
 rw[jn (l:=48) (i:=48) (j:=80) rfl (by omega) (by omega) (by omega)]
 simp only[af]
 have g1:decide (16≤(P.take 16).length)=true:=decide_eq_true (by simp;omega)
 have g2:decide (32≤((P.take 48).drop 16).length)=true:=decide_eq_true (by simp;omega)
 have g3:decide (32≤((P.take 80).drop 48).length)=true:=decide_eq_true (by simp;omega)
 rw[g1,g2,g3,cond_true,cond_true,cond_true]
 have t1:(P.take 16).take 16=P.take 16:=List.take_of_length_le (by simp;omega)
 have t2:((P.take 48).drop 16).take 32=(P.take 48).drop 16:=List.take_of_length_le (by simp;omega)
 have t3:P.take 80=P:=List.take_of_length_le (by omega)
 have t4:(P.drop 48).take 32=P.drop 48:=List.take_of_length_le (by simp;omega)
 rw[t1,t2,t3,t4]
theorem qr {key nonce:List Int} (hk:key.length=32) (hn:nonce.length=16):eF key nonce=some (gP key nonce,0):=by
 unfold eF
 have e0:((key.length:Int) != 32)=false:=by rw[hk];rfl
 have e1:decide (0<[99,104,117,114,110].length)=true:=by decide
 rw[e0,e1,cond_false,cond_true,nT (z:=80) (n:=80) rfl (by omega) (by omega) (by omega) (by simp)]
 simp only[af]
 have hl:=lC key nonce CH 80
 have hd:derS key nonce [99,104,117,114,110] 80=derS key nonce CH 80:=rfl
 have hK:gP key nonce=⟨(derS key nonce CH 80).take 16,((derS key nonce CH 80).take 48).drop 16,(derS key nonce CH 80).drop 48⟩:=rfl
 rw[hd,hK]
 generalize derS key nonce CH 80=P at*
 rw[aW (fun i=>((i:Int),(⟨part1 16 (fun j=>P.getD j 0) (fun _=>0) i,part1 32 (fun j=>P.getD (16+j) 0) (fun _=>0) (i - 16),part1 32 (fun j=>P.getD (48+j) 0) (fun _=>0) (i - 48)⟩:an))) 0 80 (r:=⟨P.take 16,(P.take 48).drop 16,P.drop 48⟩) (by omega) ?_ ?_ (by rfl)]
 · rfl
 · intro i _ hi
   have h1:decide ((i:Int)<80)=true:=decide_eq_true (by omega)
   simp only[h1,cond_true]
   by_cases c1:i<16
   · have d1:decide ((i:Int)<16)=true:=decide_eq_true (by omega)
     simp only[d1,cond_true]
     rw[ar (xs:=P) rfl (by omega)]
     simp only[af]
     rw[dk rfl (by omega)]
     simp only[af,Int.toNat_natCast]
     have z1:i+1 - 16=i - 16:=by omega
     have z2:i+1 - 48=i - 48:=by omega
     rw[wrap64 (by omega),cS (f:=fun j=>P.getD j 0) (by omega) rfl,z1,z2];rfl
   · have d1:decide ((i:Int)<16)=false:=decide_eq_false (by omega)
     simp only[d1,cond_false]
     have cap1:part1 16 (fun j=>P.getD j 0) (fun _=>0) i=part1 16 (fun j=>P.getD j 0) (fun _=>0) (i+1):=jV (by omega) (by omega)
     by_cases c2:i<48
     · have d2:decide ((i:Int)<48)=true:=decide_eq_true (by omega)
       simp only[d2,cond_true]
       rw[ar (xs:=P) rfl (by omega)]
       simp only[af]
       rw[wrap64 (x:=(i:Int) - 16) (by omega),dk (k:=i - 16) (by omega) (by omega)]
       simp only[af]
       have z0:Int.toNat ((i:Int) - 16)=i - 16:=by omega
       have z1:i - 16+1=i+1 - 16:=by omega
       have z2:i+1 - 48=i - 48:=by omega
       have z3:P.getD i 0=P.getD (16+(i - 16)) 0:=by rw[show 16+(i - 16)=i by omega]
       rw[wrap64 (by omega),z0,cS (f:=fun j=>P.getD (16+j) 0) (by omega) z3,z1,z2,cap1];rfl
     · have d2:decide ((i:Int)<48)=false:=decide_eq_false (by omega)
       simp only[d2,cond_false]
       have cap2:part1 32 (fun j=>P.getD (16+j) 0) (fun _=>0) (i - 16)=part1 32 (fun j=>P.getD (16+j) 0) (fun _=>0) (i+1 - 16):=jV (by omega) (by omega)
       rw[ar (xs:=P) rfl (by omega)]
       simp only[af]
       rw[wrap64 (x:=(i:Int) - 48) (by omega),dk (k:=i - 48) (by omega) (by omega)]
       simp only[af]
       have z0:Int.toNat ((i:Int) - 48)=i - 48:=by omega
       have z1:i - 48+1=i+1 - 48:=by omega
       have z3:P.getD i 0=P.getD (48+(i - 48)) 0:=by rw[show 48+(i - 48)=i by omega]
       rw[wrap64 (by omega),z0,cS (f:=fun j=>P.getD (48+j) 0) (by omega) z3,z1,cap1,cap2];rfl
 · have h1:decide (((80:Nat):Int)<80)=false:=by decide
   simp only[h1,cond_false]
   rw[jV (n:=16) (i:=80) (k:=16) (by omega) (by omega),jV (n:=32) (i:=80 - 16) (k:=32) (by omega) (by omega),show 80 - 48=32 from rfl,fb,fb,fb]
   have r1:(List.range 16).map (fun j=>P.getD j 0)=P.take 16:=by
     apply jz
     · simp;omega
     · intro j hj;simp at hj;simp[hj,List.getElem?_take]
   have r2:(List.range 32).map (fun j=>P.getD (16+j) 0)=(P.take 48).drop 16:=by
     apply jz
     · simp;omega
     · intro j hj;simp at hj;simp[hj,List.getElem?_take,List.getElem?_drop,show 16+j<48 by omega]
   have r3:(List.range 32).map (fun j=>P.getD (48+j) 0)=P.drop 48:=by
     apply jz
     · simp;omega
     · intro j hj;simp at hj;simp[hj,List.getElem?_drop]
   rw[r1,r2,r3]
def rk (key msg:List Int):List Int:=(tagS key msg).take 16
theorem pL (key msg:List Int):(rk key msg).length=16:=by simp[rk,iS]
theorem uT (key msg:List Int):aS (rk key msg):=fun b h=>re key msg b (List.mem_of_mem_take h)
theorem za {key msg:List Int} (hk:key.length<2^30) (hm:msg.length<2^30):fq key msg=some (rk key msg):=by
 unfold fq
 rw[tS hk hm]
 simp only[af]
 have hl:=iS key msg
 have hh:rk key msg=(tagS key msg).take 16:=rfl
 rw[hh]
 generalize tagS key msg=P at*
 rw[aW (fun i=>((i:Int),part1 16 (fun j=>P.getD j 0) (fun _=>0) i)) 0 16 (r:=P.take 16) (by omega) ?_ ?_ (by rfl)]
 · rfl
 · intro i _ hi
   have h1:decide ((i:Int)<16)=true:=decide_eq_true (by omega)
   simp only[h1,cond_true]
   rw[ar (xs:=P) rfl (by omega)]
   simp only[af]
   rw[dk rfl (by omega)]
   simp only[af,Int.toNat_natCast]
   rw[wrap64 (by omega),cS (f:=fun j=>P.getD j 0) (by omega) rfl];rfl
 · have h1:decide (((16:Nat):Int)<16)=false:=by decide
   simp only[h1,cond_false]
   rw[fb]
   have r1:(List.range 16).map (fun j=>P.getD j 0)=P.take 16:=by
    apply jz
    · simp;omega
    · intro j hj;simp at hj;simp[hj,List.getElem?_take]
   rw[r1]
def tagO (ks:an) (l:Int) (nonce box:List Int):List Int:=rk ks.Mac ([IntKind.wrap .u8 l]++nonce++box)
theorem tW {ks:an} {l:Int} {nonce box:List Int} (hk:ks.Mac.length<2^30) (hn:nonce.length=16) (hb:box.length<2^29):gO ks l nonce box=some (tagO ks l nonce box):=by
 unfold gO
 have hroom:room=17179869184:=rfl
 rw[bK (by rw[hroom];simp;omega)]
 simp only[af]
 rw[bK (by rw[hroom];simp;omega)]
 simp only[af]
 rw[tQ hk (by simp;omega)]
 simp only[af]
 rw[jy (h:=16) (j:=16) rfl (by rw[iS];omega)];rfl
theorem Aj {ks:an} {l:Int} {nonce box:List Int} (hk:ks.Mac.length<2^30) (hn:nonce.length=16) (hb:box.length<2^29):fO ks l nonce box=some (tagO ks l nonce box):=by
 unfold fO
 have hroom:room=17179869184:=rfl
 rw[bK (by rw[hroom];simp;omega)]
 simp only[af]
 rw[bK (by rw[hroom];simp;omega)]
 simp only[af]
 rw[za hk (by simp;omega)];rfl
end Go.Proofs.YtobbmodjdkcdcaaGreatDoor

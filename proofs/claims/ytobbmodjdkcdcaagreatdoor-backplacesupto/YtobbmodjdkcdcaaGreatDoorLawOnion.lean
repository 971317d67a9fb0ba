import Derived.Test.YtobbmodjdkcdcaaGreatDoorLawAes5
set_option linter.unusedVariables false
set_option linter.unusedSimpArgs false
set_option maxRecDepth 20000
set_option maxHeartbeats 1000000
namespace Go.Proofs.YtobbmodjdkcdcaaGreatDoor
open Go Go.Sim
set_option linter.unusedSectionVars false
variable [Fu]
theorem se {R:Type} {step:Int→Option (Ctl Int R)} {p:Nat→Bool} {good bad:R} {s0:Int} (b:Bool) (a n:Nat) (han:a≤n) (hb:b=true↔∃i,a≤i∧i<n∧p i=true)
  (h:∀i:Nat,a≤i→i<n→step (i:Int)=some (bif p i then .done bad else .next ((i+1:Nat):Int))) (hn:step (n:Int)=some (.done good)) (h0:s0=(a:Int)):
  Loop.run step s0=some (bif b then bad else good):=by
 subst h0
 have key:∀k a,n - a=k→a≤n→(∀i:Nat,a≤i→i<n→step (i:Int)=some (bif p i then .done bad else .next ((i+1:Nat):Int)))→
   ((∃i,a≤i∧i<n∧p i=true)→Loop.run step (a:Int)=some bad)∧((¬∃i,a≤i∧i<n∧p i=true)→Loop.run step (a:Int)=some good):=by
  intro k
  induction k with
  |zero=>
   intro a h1 h2 h3
   have:a=n:=by omega
   subst this
   exact⟨fun⟨i,h4,h5,_⟩=>by omega,fun _=>Loop.run_done hn⟩
  |succ k ih=>
   intro a h1 h2 h3
   have hs:=h3 a (Nat.le_refl _) (by omega)
   obtain⟨i1,i2⟩:=ih (a+1) (by omega) (by omega) (fun i h4 h5=>h3 i (by omega) h5)
   cases hp:p a with
   |true=>
    rw[hp,cond_true] at hs
    exact⟨fun _=>Loop.run_done hs,fun hno=>absurd ⟨a,Nat.le_refl _,by omega,hp⟩ hno⟩
   |false=>
    rw[hp,cond_false] at hs
    rw[Loop.run_next hs]
    refine⟨fun⟨i,h4,h5,h6⟩=>i1 ⟨i,?_,h5,h6⟩,fun hno=>i2 fun⟨i,h4,h5,h6⟩=>hno ⟨i,by omega,h5,h6⟩⟩
    have:i≠a:=fun e=>by rw[e,hp] at h6;cases h6
    omega
 obtain⟨k1,k2⟩:=key _ a rfl han h
 cases b with
 |true=>exact k1 (hb.1 rfl)
 |false=>exact k2 fun he=>by have:=hb.2 he;cases this
def nz (l:List Int):Bool:=l.any (· != 0)
theorem wk {l:List Int} {a:Nat}:nz (l.drop a)=true↔∃i,a≤i∧i<l.length∧(l.getD i 0 != 0)=true:=by
 unfold nz
 rw[List.any_eq_true]
 constructor
 · rintro⟨x,hx,h⟩
   obtain⟨j,hj,e⟩:=List.getElem_of_mem hx
   simp only[List.length_drop] at hj
   refine⟨a+j,by omega,by omega,?_⟩
   rw[List.getElem_drop] at e
   have:l.getD (a+j) 0=x:=by rw[←e];simp[show a+j<l.length by omega]
   rw[this];exact h
 · rintro⟨i,h1,h2,h3⟩
   have e:l.getD i 0=l[i]:=by simp[h2]
   rw[e] at h3
   refine⟨l[i],?_,h3⟩
   rw[List.mem_iff_getElem]
   exact⟨i - a,by simp;omega,by simp[show a+(i - a)=i by omega]⟩
theorem mx {x:List Int} (h:x.length<2^30):el x=some (!nz x):=by
 unfold el
 rw[se (p:=fun i=>x.getD i 0 != 0) (good:= .inl ()) (bad:= .inr false) (nz x) 0 x.length (by omega) (by have:=wk (l:=x) (a:=0);rw[List.drop_zero] at this;exact this) ?_ (hN (decide_eq_false (by omega))) (by rfl)]
 · cases nz x<;>rfl
 · intro i _ hi
   have h1:decide ((i:Int)<(x.length:Int))=true:=decide_eq_true (by omega)
   rw[h1,cond_true,aW rfl hi]
   simp only[ae]
   rw[wrap64 (by omega)];cases x.getD i 0 != 0<;>rfl
def cutS (c:List Int) (n:Nat):List Int×Int:=bif c.length != 320 then([],50) else bif nz (c.drop n) then([],51) else(c.take n,0)
theorem nX {c:List Int} {n:Nat}:((c.length:Int) != (n:Int))=(c.length != n):=by
 rw[Bool.eq_iff_iff];simp only[bne_iff_ne];omega
theorem oW {c:List Int} {z:Int} {n:Nat} (hz:z=n) (hn:n≤320):fW c z=some (cutS c n):=by
 unfold fW cutS
 have e0:((c.length:Int) != 320)=(c.length != 320):=nX (n:=320)
 rw[e0]
 cases h:(c.length != 320) with
 |true=>rfl
 |false=>
  have hl:c.length=320:=by simpa using h
  simp only[cond_false]
  have e1:(decide (z<0)||decide (z>320))=false:=by rw[Bool.or_eq_false_iff];exact⟨decide_eq_false (by omega),decide_eq_false (by omega)⟩
  rw[e1,cond_false,gx (j:=320) hz (by omega) hn (by omega)]
  simp only[ae]
  have e2:c.take 320=c:=List.take_of_length_le (by omega)
  rw[e2,mx (by simp;omega)]
  simp only[ae,Bool.not_not]
  cases nz (c.drop n) with
  |true=>rfl
  |false=>
   simp only[cond_false]
   rw[la hz (by omega)]
   simp only[ae]
   rw[dQ (by simp[room];omega)];rfl
def padS (x:List Int):List Int:=x++List.replicate (320 - x.length) 0
def oY (x:List Int):List Int:=[1,IntKind.wrap .u8 (x.length:Int)]++x++List.replicate (318 - x.length) 0
theorem vj {x front:List Int} {off:Nat} (hf:front.length=off) (hx:off+x.length≤320):over (over (List.replicate 320 (0:Int)) 0 320 front) off 320 x=front++x++List.replicate (320 - off - x.length) 0:=by
 have e1:over (List.replicate 320 (0:Int)) 0 320 front=front++List.replicate (320 - off) 0:=by
  rw[j9 (by omega) (by simp)]
  have:front.take (320 - 0)=front:=List.take_of_length_le (by omega)
  rw[this,List.take_zero,List.nil_append,List.drop_replicate]
  congr 2;omega
 rw[e1,j9 (by omega) (by simp;omega)]
 have t1:(front++List.replicate (320 - off) (0:Int)).take off=front:=by rw[List.take_append_of_le_length (by omega),List.take_of_length_le (by omega)]
 have t2:x.take (320 - off)=x:=List.take_of_length_le (by omega)
 have t3:(front++List.replicate (320 - off) (0:Int)).drop (off+min x.length (320 - off))=List.replicate (320 - off - x.length) 0:=by
  have:off+min x.length (320 - off)=front.length+x.length:=by omega
  rw[this,List.drop_append,List.drop_replicate]
  simp
 rw[t1,t2,t3]
theorem qy {x front:List Int} {z:Int} {off:Nat} (hz:z=off) (hf:front.length=off) (hx:off+x.length≤320):ft x z front=some (front++x++List.replicate (320 - off - x.length) 0):=by
 subst hz
 unfold ft
 have g0:mkB 320 320=true:=by decide
 have e0:List.replicate (Int.toNat 320) (0:Int)=List.replicate 320 0:=rfl
 rw[g0,cond_true,e0,List.length_replicate]
 have ho:(over (List.replicate 320 (0:Int)) 0 320 front).length=320:=by rw[jO (by omega) (by simp)];simp
 rw[ho]
 have g1:decide ((0:Int)≤(off:Int)∧(off:Int)≤((320:Nat):Int)∧(((320:Nat):Int):Int)≤((320:Nat):Int))=true:=decide_eq_true (by omega)
 have g2:decide ((Int.toNat (off:Int))≤(Int.toNat ((320:Nat):Int))∧(Int.toNat ((320:Nat):Int))≤320)=true:=decide_eq_true (by omega)
 first
  |rw[g1,g2]
  |skip
 simp only[cond_true,Int.toNat_natCast]
 rw[vj hf hx]
 try rfl
theorem sf {x:List Int} (h:x.length≤320):fX x=some (padS x,0):=by
 unfold fX
 have e:decide ((x.length:Int)>320)=false:=decide_eq_false (by omega)
 rw[e,cond_false,qy (z:=0) (off:=0) rfl rfl (by omega)];rfl
theorem tv {x:List Int} (h:x.length≤48):gj x=some (oY x,0):=by
 unfold gj
 have e:decide ((x.length:Int)>48)=false:=decide_eq_false (by omega)
 rw[e,cond_false,qy (z:=2) (off:=2) rfl rfl (by omega)];rfl
def aU (l:Int):Nat:=bif decide (l<1)||decide (l>8) then 0 else(48+34*l).toNat
theorem jL (l:Int):aU l≤320:=by
 unfold aU
 cases h:decide (l<1)||decide (l>8) with
 |true=>simp
 |false=>rw[Bool.or_eq_false_iff] at h;simp at h;simp only[cond_false];omega
theorem qz {l:Int} (h:aU l≠0):1≤l∧l≤8∧(aU l:Int)=48+34*l:=by
 unfold aU at h⊢
 cases hc:decide (l<1)||decide (l>8) with
 |true=>rw[hc] at h;simp at h
 |false=>rw[Bool.or_eq_false_iff] at hc;simp at hc;simp only[cond_false];omega
theorem jf (l:Int):cK l=some (aU l:Int):=by
 unfold cK aU
 cases h:decide (l<1)||decide (l>8) with
 |true=>rfl
 |false=>
  rw[Bool.or_eq_false_iff] at h;simp at h
  simp only[cond_false]
  rw[wrap64 (x:=34*l) (by omega),wrap64 (by omega)]
  congr 1;omega
def CH:List Int:=[99,104,117,114,110]
def fM (key nonce:List Int):aT:=⟨(derS key nonce CH 80).take 16,((derS key nonce CH 80).take 48).drop 16,(derS key nonce CH 80).drop 48⟩
theorem my (a b c:List Int) (n:Nat):(derS a b c n).length=n:=xf _ _ _
theorem tx (a b c:List Int) (n:Nat):be (derS a b c n):=vi _ _ _
theorem qF (key nonce:List Int):(fM key nonce).Box.length=16∧(fM key nonce).Mac.length=32∧(fM key nonce).Replay.length=32:=by
 have:=my key nonce CH 80
 simp[fM,this]
theorem qK (key nonce:List Int):be (fM key nonce).Box:=fun b h=>by
 simp only[fM] at h
 exact tx key nonce CH 80 b (List.mem_of_mem_take h)
theorem mz {key nonce:List Int} (hk:key.length=32) (hn:nonce.length=16):eu key nonce=some (fM key nonce,0):=by
 unfold eu
 have e0:((key.length:Int) != 32)=false:=by rw[hk];rfl
 have e1:decide (0<[99,104,117,114,110].length)=true:=by decide
 rw[e0,e1,cond_false,cond_true,lU (z:=80) (n:=80) rfl (by omega) (by omega) (by omega) (by simp)]
 simp only[ae]
 have hl:=my key nonce CH 80
 have hd:derS key nonce [99,104,117,114,110] 80=derS key nonce CH 80:=rfl
 have hK:fM key nonce=⟨(derS key nonce CH 80).take 16,((derS key nonce CH 80).take 48).drop 16,(derS key nonce CH 80).drop 48⟩:=rfl
 rw[hd,hK]
 generalize derS key nonce CH 80=P at*
 simp only[bne_self_eq_false,cond_false]
 rw[la (h:=16) (j:=16) rfl (by omega)]
 simp only[ae]
 rw[gx (l:=16) (h:=48) (i:=16) (j:=48) rfl rfl (by omega) (by omega)]
 simp only[ae]
 rw[gx (l:=48) (i:=48) (j:=80) rfl (by omega) (by omega) (by omega)]
 simp only[ae]
 have g1:decide (16≤(P.take 16).length)=true:=decide_eq_true (by simp;omega)
 have g2:decide (32≤((P.take 48).drop 16).length)=true:=decide_eq_true (by simp;omega)
 have g3:decide (32≤((P.take 80).drop 48).length)=true:=decide_eq_true (by simp;omega)
 rw[g1,g2,g3,cond_true,cond_true,cond_true]
 have t1:(P.take 16).take 16=P.take 16:=List.take_of_length_le (by simp;omega)
 have t2:((P.take 48).drop 16).take 32=(P.take 48).drop 16:=List.take_of_length_le (by simp;omega)
 have t3:P.take 80=P:=List.take_of_length_le (by omega)
 have t4:(P.drop 48).take 32=P.drop 48:=List.take_of_length_le (by simp;omega)
 rw[t1,t2,t3,t4]
def oZ (key msg:List Int):List Int:=(tagS key msg).take 16
theorem qL (key msg:List Int):(oZ key msg).length=16:=by simp[oZ,jd]
theorem nr (key msg:List Int):be (oZ key msg):=fun b h=>oU key msg b (List.mem_of_mem_take h)
def tagO (ks:aT) (l:Int) (nonce box:List Int):List Int:=oZ ks.Mac ([IntKind.wrap .u8 l]++nonce++box)
theorem mF {ks:aT} {l:Int} {nonce box:List Int} (hk:ks.Mac.length<2^30) (hn:nonce.length=16) (hb:box.length<2^29):ey ks l nonce box=some (tagO ks l nonce box):=by
 unfold ey
 have hroom:room=17179869184:=rfl
 rw[dQ (by rw[hroom];simp;omega)]
 simp only[ae]
 rw[dQ (by rw[hroom];simp;omega)]
 simp only[ae]
 rw[nW hk (by simp;omega)]
 simp only[ae]
 rw[la (h:=16) (j:=16) rfl (by rw[jd];omega)];rfl
end Go.Proofs.YtobbmodjdkcdcaaGreatDoor

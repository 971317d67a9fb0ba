import Derived.Test.YtobbmodjdkcdcaaGreatDoorLawScan
import Derived.Test.YtobbmodjdkcdcaaGreatDoorBm6
set_option linter.unusedVariables false
set_option linter.unusedSimpArgs false
set_option maxRecDepth 20000
namespace Go.Proofs.YtobbmodjdkcdcaaGreatDoor
open Go Go.Sim
set_option linter.unusedSectionVars false
variable [Fu]
theorem BP:(room:Int)=17179869184:=rfl
theorem dT:room=17179869184:=rfl
theorem pj {x:List Int} (h:x.length<2^31):bW x=some x:=by
 unfold bW
 rw[bj (by rw[dT];simp;omega)];rfl
theorem BQ {x:List Int} (h:x.length<2^31):fc x=some x:=by
 unfold fc
 rw[bj (by rw[dT];simp;omega)];rfl
theorem uY {α:Type} {xs:List α} {l h:Int} {i j:Nat} (hl:l=i) (hh:h=j) (h1:i≤j) (h2:j≤xs.length):sub xs l h=some ((xs.take j).drop i):=by
 subst hl;subst hh;unfold sub
 have:(decide ((0:Int)≤i)&&decide ((i:Int)≤j)&&decide ((j:Int)≤(xs.length:Int)))=true:=by simp;omega
 rw[this,cond_true];simp
theorem pm {α:Type} {xs:List α} {l:Int} {i:Nat} (hl:l=i) (h1:i≤xs.length):sub xs l (xs.length:Int)=some (xs.drop i):=by
 rw[uY hl rfl h1 (Nat.le_refl _),List.take_length]
theorem lj {α:Type} {xs:List α} {h:Int} {j:Nat} (hh:h=j) (h2:j≤xs.length):sub xs 0 h=some (xs.take j):=by
 rw[uY (l:=0) (i:=0) rfl hh (Nat.zero_le _) h2,List.drop_zero]
theorem mt {n:Nat} (h:n<2^31):mkB (n:Int) (n:Int)=true:=by unfold mkB;rw[BP];simp;omega
theorem we {n:Nat} (h:n<2^31):mkB 0 (n:Int)=true:=by unfold mkB;rw[BP];simp;omega
theorem eb {α:Type} (g:Nat→α) (i:Nat):(List.range i).map g++[g i]=(List.range (i+1)).map g:=by rw[List.range_succ,List.map_append];rfl
theorem xP {α R:Type} {step:List α×Int→Option (Ctl (List α×Int) R)} (g:Nat→α) (n:Nat) {r:R} (h:∀i,i<n→step ((List.range i).map g,(i:Int))=some (.next ((List.range (i+1)).map g,((i+1:Nat):Int))))
  (hn:step ((List.range n).map g,(n:Int))=some (.done r)):Loop.run step ([],0)=some r:=
 aV (fun i=>((List.range i).map g,(i:Int))) 0 n (Nat.zero_le _) (fun i _ hi=>h i hi) hn rfl
def zS (t:List Int):List Int:=(t.drop 18).drop ((t.length - 18) / 2)
def eS (t:List Int) (c:Nat):aP:=
 ⟨t.take 18,(t.drop 18).take ((t.length - 18) / 2),(List.range c).map fun j=>((zS t).take ((j+1)*((zS t).length / c))).drop (j*((zS t).length / c))⟩
def jH (t:List Int) (c:Int):aP×Int:=
 bif decide (c<1)||decide (c>64) then(⟨[],[],[]⟩,2) else bif decide ((t.length:Int)<18) then(⟨[],[],[]⟩,3) else(eS t c.toNat,0)
theorem tz {t:List Int} {c:Int} (h:t.length<2^31):gO t c=some (jH t c):=by
 unfold gO jH
 cases h1:decide (c<1)||decide (c>64) with
 |true=>rfl
 |false=>
  simp only[Bool.or_eq_false_iff,decide_eq_false_iff_not] at h1
  rw[cond_false,cond_false]
  cases h2:decide ((t.length:Int)<18) with
  |true=>rfl
  |false=>
   have h2:=of_decide_eq_false h2
   obtain⟨n,rfl⟩:∃n:Nat,c=n:=⟨c.toNat,by omega⟩
   have hl:(t.drop 18).length=t.length - 18:=by simp
   rw[cond_false,cond_false,pm (xs:=t) (l:=18) (i:=18) rfl (by omega)]
   simp only[ae]
   rw[lj (xs:=t) (h:=18) (j:=18) rfl (by omega)]
   simp only[ae]
   rw[pj (by simp;omega)]
   simp only[ae]
   have e2:∀m:Nat,m<2^31→IntKind.wrap .i64 (Int.tdiv (m:Int) 2)=((m / 2:Nat):Int):=fun m hm=>by
     rw[show Int.tdiv (m:Int) 2=((m / 2:Nat):Int) from l9,wrap64 (by omega)]
   rw[e2 _ (by omega),lj (j:=(t.drop 18).length / 2) rfl (by omega)]
   simp only[ae]
   rw[pj (by simp;omega)]
   simp only[ae]
   rw[pm (i:=(t.drop 18).length / 2) rfl (by omega)]
   simp only[ae]
   have hz:List.drop ((t.drop 18).length / 2) (t.drop 18)=zS t:=by rw[hl];rfl
   rw[hz]
   have hzl:(zS t).length≤t.length:=by simp only[zS,List.length_drop];omega
   have hne:decide ((n:Int)≠0)=true:=decide_eq_true (by omega)
   rw[hne,cond_true,l9]
   generalize hm:(zS t).length / n=m
   have hcm:n*m≤(zS t).length:=by rw[←hm];exact Nat.mul_div_le _ _
   have hmm:m≤n*m:=Nat.le_mul_of_pos_left _ (by omega)
   rw[wrap64 (x:=(m:Int)) (by omega)]
   rw[aV (s0:=(0,[])) (r:=eS t n) (fun i=>((i:Int),(List.range i).map fun j=>((zS t).take ((j+1)*m)).drop (j*m))) 0 n (Nat.zero_le _) ?_ ?_ rfl]
   · simp only[ae,Int.toNat_natCast]
   · intro i _ hi
     have hd:decide ((i:Int)<(n:Int))=true:=decide_eq_true (by omega)
     have h3:(i+1)*m≤n*m:=Nat.mul_le_mul_right _ hi
     have h4:(i+1)*m=i*m+m:=Nat.succ_mul _ _
     have w1:IntKind.wrap .i64 ((i:Int)*(m:Int))=((i*m:Nat):Int):=by rw[←Int.natCast_mul,wrap64 (by omega)]
     have w0:IntKind.wrap .i64 ((i:Int)+1)=((i+1:Nat):Int):=by rw[wrap64 (by omega)];rfl
     have w2:IntKind.wrap .i64 (((i+1:Nat):Int)*(m:Int))=(((i+1)*m:Nat):Int):=by rw[←Int.natCast_mul,wrap64 (by omega)]
     simp only[hd,cond_true,w0,w1,w2]
     rw[uY (i:=i*m) (j:=(i+1)*m) rfl rfl (by omega) (by omega)]
     simp only[ae]
     rw[BQ (by simp;omega)]
     simp only[ae]
     rw[bj (by rw[dT];simp;omega)]
     simp only[ae]
     rw[eb (fun j=>((zS t).take ((j+1)*m)).drop (j*m))]
   · have hd:decide ((n:Int)<(n:Int))=false:=decide_eq_false (by omega)
     simp only[hd,cond_false,eS,hm,hl]
theorem AR {t:List Int} {c:Nat}:(eS t c).Chunks.length=c:=by simp[eS]
theorem BR {t:List Int} (h:aS t):km t=some ⟨t,0⟩:=by
 unfold km
 have:strB t=t:=by
  unfold strB
  conv=>rhs;rw[←List.map_id t]
  apply List.map_congr_left
  intro b hb
  have:=h b hb
  simp[UInt8.toNat_ofNat'];omega
 rw[this]
theorem qt {bs:List Int} {u:Nat} (hu:u≤bs.length) (hl:bs.length<2^31):eu ⟨bs,u⟩=some (bif decide (u<bs.length) then(bs.getD u 0,⟨bs,((u+1:Nat):Int)⟩,0) else(0,⟨[],0⟩,3)):=by
 unfold eu gP
 simp only[ae]
 rw[wrap64 (by omega)]
 by_cases c:u<bs.length
 · have h1:(((bs.length:Int) - (u:Int))==0)=false:=by simp;omega
   rw[h1,cond_false,aK rfl c,decide_eq_true c,cond_true]
   simp only[ae]
   rw[wrap64 (x:=(u:Int)+1) (by omega)];rfl
 · have h1:(((bs.length:Int) - (u:Int))==0)=true:=by simp;omega
   rw[h1,cond_true,decide_eq_false c,cond_false]
end Go.Proofs.YtobbmodjdkcdcaaGreatDoor

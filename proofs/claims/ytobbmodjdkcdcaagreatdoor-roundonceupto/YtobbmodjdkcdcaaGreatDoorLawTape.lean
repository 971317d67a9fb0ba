import Derived.Test.YtobbmodjdkcdcaaGreatDoorLawScan
import Derived.Test.YtobbmodjdkcdcaaGreatDoorRo7
set_option linter.all false
set_option maxRecDepth 20000
namespace Go.Proofs.YtobbmodjdkcdcaaGreatDoor
open Go Go.Sim
variable [Fu]
theorem D6:(room:Int)=17179869184:=rfl
theorem dk:room=17179869184:=rfl
theorem pw {x:List Int} (h:x.length<2^31):bY x=some x:=by unfold bY;rw[aR (by rw[dk];simp;omega)];rfl
theorem D7 {x:List Int} (h:x.length<2^31):gb x=some x:=by unfold gb;rw[aR (by rw[dk];simp;omega)];rfl
theorem xk {α:Type} {xs:List α} {l h:Int} {i j:Nat} (hl:l=i) (hh:h=j) (h1:i≤j) (h2:j≤xs.length):sub xs l h=some ((xs.take j).drop i):=by subst hl;subst hh;unfold sub;(have:(decide ((0:Int)≤i)&&decide ((i:Int)≤j)&&decide ((j:Int)≤(xs.length:Int)))=true:=by simp;omega);rw[this,cond_true];simp
theorem px {α:Type} {xs:List α} {l:Int} {i:Nat} (hl:l=i) (h1:i≤xs.length):sub xs l (xs.length:Int)=some (xs.drop i):=by rw[xk hl rfl h1 (Nat.le_refl _),List.take_length]
theorem nk {α:Type} {xs:List α} {h:Int} {j:Nat} (hh:h=j) (h2:j≤xs.length):sub xs 0 h=some (xs.take j):=by rw[xk (l:=0) (i:=0) rfl hh (Nat.zero_le _) h2,List.drop_zero]
theorem qM {n:Nat} (h:n<2^31):mkB (n:Int) (n:Int)=true:=by unfold mkB;rw[D6];simp;omega
theorem yt {n:Nat} (h:n<2^31):mkB 0 (n:Int)=true:=by unfold mkB;rw[D6];simp;omega
theorem fp {α:Type} (g:Nat→α) (i:Nat):(List.range i).map g++[g i]=(List.range (i+1)).map g:=by rw[List.range_succ,List.map_append];rfl
theorem vg {α R:Type} {step:List α×Int→Option (Ctl (List α×Int) R)} (g:Nat→α) (n:Nat) {r:R} (h:∀i,i<n→step ((List.range i).map g,(i:Int))=some (.next ((List.range (i+1)).map g,((i+1:Nat):Int)))) (hn:step ((List.range n).map g,(n:Int))=some (.done r)):Loop.run step ([],0)=some r:=aP (λi=>((List.range i).map g,(i:Int))) 0 n (Nat.zero_le _) (λi _ hi=>h i hi) hn rfl
def zS (t:List Int):List Int:=(t.drop 18).drop ((t.length - 18) / 2)
def ey (t:List Int) (c:Nat):aT:=⟨t.take 18,(t.drop 18).take ((t.length - 18) / 2),(List.range c).map λj=>((zS t).take ((j+1)*((zS t).length / c))).drop (j*((zS t).length / c))⟩
def jq (t:List Int) (c:Int):aT×Int:=bif decide (c<1)||decide (c>64) then(⟨[],[],[]⟩,2) else bif decide ((t.length:Int)<18) then(⟨[],[],[]⟩,3) else(ey t c.toNat,0)
theorem vh {t:List Int} {c:Int} (h:t.length<2^31):jm t c=some (jq t c):=by unfold jm jq;cases h1:decide (c<1)||decide (c>64) with|true=>rfl|false=>simp only[Bool.or_eq_false_iff,decide_eq_false_iff_not] at h1;rw[cond_false,cond_false];cases h2:decide ((t.length:Int)<18) with|true=>rfl|false=>have h2:=of_decide_eq_false h2;obtain⟨n,rfl⟩:∃n:Nat,c=n:=⟨c.toNat,by omega⟩;(have hl:(t.drop 18).length=t.length - 18:=by simp);rw[cond_false,cond_false,px (xs:=t) (l:=18) (i:=18) rfl (by omega)];simp only[ab];rw[nk (xs:=t) (h:=18) (j:=18) rfl (by omega)];simp only[ab];rw[pw (by simp;omega)];simp only[ab];(have e2:∀m:Nat,m<2^31→IntKind.wrap .i64 (Int.tdiv (m:Int) 2)=((m / 2:Nat):Int):=λm hm=>by rw[show Int.tdiv (m:Int) 2=((m / 2:Nat):Int) from oZ,wrap64 (by omega)]);rw[e2 _ (by omega),nk (j:=(t.drop 18).length / 2) rfl (by omega)];simp only[ab];rw[pw (by simp;omega)];simp only[ab];rw[px (i:=(t.drop 18).length / 2) rfl (by omega)];simp only[ab];(have hz:List.drop ((t.drop 18).length / 2) (t.drop 18)=zS t:=by rw[hl];rfl);rw[hz];(have hzl:(zS t).length≤t.length:=by simp only[zS,List.length_drop];omega);have hne:decide ((n:Int)≠0)=true:=decide_eq_true (by omega);rw[hne,cond_true,oZ];generalize hm:(zS t).length / n=m;(have hcm:n*m≤(zS t).length:=by rw[←hm];exact Nat.mul_div_le _ _);have hmm:m≤n*m:=Nat.le_mul_of_pos_left _ (by omega);rw[wrap64 (x:=(m:Int)) (by omega)];rw[aP (s0:=(0,[])) (r:=ey t n) (λi=>((i:Int),(List.range i).map λj=>((zS t).take ((j+1)*m)).drop (j*m))) 0 n (Nat.zero_le _) ?_ ?_ rfl];simp only[ab,Int.toNat_natCast];intro i _ hi;have hd:decide ((i:Int)<(n:Int))=true:=decide_eq_true (by omega);have h3:(i+1)*m≤n*m:=Nat.mul_le_mul_right _ hi;have h4:(i+1)*m=i*m+m:=Nat.succ_mul _ _;(have w1:IntKind.wrap .i64 ((i:Int)*(m:Int))=((i*m:Nat):Int):=by rw[←Int.natCast_mul,wrap64 (by omega)]);(have w0:IntKind.wrap .i64 ((i:Int)+1)=((i+1:Nat):Int):=by rw[wrap64 (by omega)];rfl);(have w2:IntKind.wrap .i64 (((i+1:Nat):Int)*(m:Int))=(((i+1)*m:Nat):Int):=by rw[←Int.natCast_mul,wrap64 (by omega)]);simp only[hd,cond_true,w0,w1,w2];rw[xk (i:=i*m) (j:=(i+1)*m) rfl rfl (by omega) (by omega)];simp only[ab];rw[D7 (by simp;omega)];simp only[ab];rw[aR (by rw[dk];simp;omega)];simp only[ab];rw[fp (λj=>((zS t).take ((j+1)*m)).drop (j*m))];have hd:decide ((n:Int)<(n:Int))=false:=decide_eq_false (by omega);simp only[hd,cond_false,ey,hm,hl]
theorem C6 {t:List Int} {c:Nat}:(ey t c).Chunks.length=c:=by simp[ey]
theorem D8 {t:List Int} (h:aH t):mx t=some ⟨t,0⟩:=by
 unfold mx
 have:strB t=t:=by
  unfold strB
  conv=>rhs;rw[←List.map_id t]
  apply List.map_congr_left
  intro b hb
  have:=h b hb
  simp[UInt8.toNat_ofNat'];omega
 rw[this]
theorem sC {bs:List Int} {u:Nat} (hu:u≤bs.length) (hl:bs.length<2^31):fH ⟨bs,u⟩=some (bif decide (u<bs.length) then(bs.getD u 0,⟨bs,((u+1:Nat):Int)⟩,0) else(0,⟨[],0⟩,3)):=by unfold fH jn;simp only[ab];rw[wrap64 (by omega)];by_cases c:u<bs.length;(have h1:(((bs.length:Int) - (u:Int))==0)=false:=by simp;omega);rw[h1,cond_false,ar rfl c,decide_eq_true c,cond_true];simp only[ab];rw[wrap64 (x:=(u:Int)+1) (by omega)];rfl;(have h1:(((bs.length:Int) - (u:Int))==0)=true:=by simp;omega);rw[h1,cond_true,decide_eq_false c,cond_false]
end Go.Proofs.YtobbmodjdkcdcaaGreatDoor

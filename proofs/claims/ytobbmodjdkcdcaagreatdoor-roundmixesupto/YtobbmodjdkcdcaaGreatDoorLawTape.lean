import Derived.Test.YtobbmodjdkcdcaaGreatDoorLawScan
import Derived.Test.YtobbmodjdkcdcaaGreatDoorRm9
set_option autoImplicit true
set_option relaxedAutoImplicit true
set_option linter.all false
set_option maxRecDepth 20000
namespace Go.Proofs.YtobbmodjdkcdcaaGreatDoor
open Go Go.Sim
open Go.IntKind (wrap)
variable [Fu]
theorem Ff:(F_:Int)=17179869184:=rfl
theorem cR:F_=17179869184:=rfl
theorem tL {x:List Int} (h:x.length<2^31):cW x=some x:=by unfold cW;rw[aW (by rw[cR];simp;omega)];rfl
theorem Fg {x:List Int} (h:x.length<2^31):iA x=some x:=by unfold iA;rw[aW (by rw[cR];simp;omega)];rfl
theorem vg {α:Type} {xs:List α} {l h:Int} {i j:Nat} (hl:l=i) (hh:h=j) (h1:i≤j) (h2:j≤xs.length):sub xs l h=some ((xs.take j).drop i):=by subst hl;subst hh;unfold sub;(have:(decide ((0:Int)≤i)&&decide ((i:Int)≤j)&&decide ((j:Int)≤(xs.length:Int)))=true:=by simp;omega);rw[this,Hn];simp
theorem pt {α:Type} {xs:List α} {l:Int} {i:Nat} (hl:l=i) (h1:i≤xs.length):sub xs l (xs.length:Int)=some (xs.drop i):=by rw[vg hl rfl h1 (HK _),HY]
theorem nK {α:Type} {xs:List α} {h:Int} {j:Nat} (hh:h=j) (h2:j≤xs.length):sub xs 0 h=some (xs.take j):=by rw[vg (l:=0) (i:=0) rfl hh (HH _) h2,IP]
theorem oZ {n:Nat} (h:n<2^31):P2 (n:Int) (n:Int)=true:=by unfold P2;rw[Ff];simp;omega
theorem tM {n:Nat} (h:n<2^31):P2 0 (n:Int)=true:=by unfold P2;rw[Ff];simp;omega
theorem de {α:Type} (g:Nat→α) (i:Nat):(List.range i).map g++[g i]=(List.range (i+1)).map g:=by rw[Jw,Im];rfl
theorem pu {α R:Type} {step:List α×Int→Option (Qp (List α×Int) R)} (g:Nat→α) (n:Nat) {r:R} (h:∀i,i<n→step ((List.range i).map g,(i:Int))=some (.next ((List.range (i+1)).map g,((i+1:Nat):Int)))) (hn:step ((List.range n).map g,(n:Int))=some (.done r)):Loop.run step ([],0)=some r:=aY (λi=>((List.range i).map g,(i:Int))) 0 n (HH _) (λi _ hi=>h i hi) hn rfl
def zS (t:List Int):List Int:=(t.drop 18).drop ((t.length - 18) / 2)
def dW (t:List Int) (c:Nat):bf:=⟨t.take 18,(t.drop 18).take ((t.length - 18) / 2),(List.range c).map λj=>((zS t).take ((j+1)*((zS t).length / c))).drop (j*((zS t).length / c))⟩
def ii (t:List Int) (c:Int):bf×Int:=bif decide (c<1)||decide (c>64) then(⟨[],[],[]⟩,2) else bif decide ((t.length:Int)<18) then(⟨[],[],[]⟩,3) else(dW t c.toNat,0)
theorem w5 {t:List Int} {c:Int} (h:t.length<2^31):kx t c=some (ii t c):=by unfold kx ii;cases h1:decide (c<1)||decide (c>64) with|true=>rfl|false=>simp only[Hz,Hy] at h1;rw[Hm,Hm];cases h2:decide ((t.length:Int)<18) with|true=>rfl|false=>have h2:=HF h2;obtain⟨n,rfl⟩:∃n:Nat,c=n:=⟨c.toNat,by omega⟩;(have hl:(t.drop 18).length=t.length - 18:=by simp);rw[Hm,Hm,pt (xs:=t) (l:=18) (i:=18) rfl (by omega)];simp only[aB];rw[nK (xs:=t) (h:=18) (j:=18) rfl (by omega)];simp only[aB];rw[tL (by simp;omega)];simp only[aB];(have e2:∀m:Nat,m<2^31→wrap .i64 (Int.tdiv (m:Int) 2)=((m / 2:Nat):Int):=λm hm=>by rw[show Int.tdiv (m:Int) 2=((m / 2:Nat):Int) from im,wrap64 (by omega)]);rw[e2 _ (by omega),nK (j:=(t.drop 18).length / 2) rfl (by omega)];simp only[aB];rw[tL (by simp;omega)];simp only[aB];rw[pt (i:=(t.drop 18).length / 2) rfl (by omega)];simp only[aB];(have hz:List.drop ((t.drop 18).length / 2) (t.drop 18)=zS t:=by rw[hl];rfl);rw[hz];(have b:(zS t).length≤t.length:=by simp only[zS,HW];omega);have a:decide ((n:Int)≠0)=true:=Ho (by omega);rw[a,Hn,im];generalize hm:(zS t).length / n=m;(have d:n*m≤(zS t).length:=by rw[←hm];exact Nat.mul_div_le _ _);have e:m≤n*m:=KA _ (by omega);rw[wrap64 (x:=(m:Int)) (by omega)];rw[aY (s0:=(0,[])) (r:=dW t n) (λi=>((i:Int),(List.range i).map λj=>((zS t).take ((j+1)*m)).drop (j*m))) 0 n (HH _) ?_ ?_ rfl];simp only[aB,Hq];intro i _ hi;have hd:decide ((i:Int)<(n:Int))=true:=Ho (by omega);have h3:(i+1)*m≤n*m:=Hw _ hi;have h4:(i+1)*m=i*m+m:=Ib _ _;(have w1:wrap .i64 ((i:Int)*(m:Int))=((i*m:Nat):Int):=by rw[←Jh,wrap64 (by omega)]);(have w0:wrap .i64 ((i:Int)+1)=((i+1:Nat):Int):=by rw[wrap64 (by omega)];rfl);(have w2:wrap .i64 (((i+1:Nat):Int)*(m:Int))=(((i+1)*m:Nat):Int):=by rw[←Jh,wrap64 (by omega)]);simp only[hd,Hn,w0,w1,w2];rw[vg (i:=i*m) (j:=(i+1)*m) rfl rfl (by omega) (by omega)];simp only[aB];rw[Fg (by simp;omega)];simp only[aB];rw[aW (by rw[cR];simp;omega)];simp only[aB];rw[de (λj=>((zS t).take ((j+1)*m)).drop (j*m))];have hd:decide ((n:Int)<(n:Int))=false:=Hp (by omega);simp only[hd,Hm,dW,hm,hl]
theorem yY {t:List Int} {c:Nat}:(dW t c).Chunks.length=c:=by simp[dW]
theorem Fh {t:List Int} (h:aT t):og t=some ⟨t,0⟩:=by
 unfold og
 have:Qt t=t:=by
  unfold Qt
  conv=>rhs;rw[←List.map_id t]
  apply IJ
  intro b hb
  have:=h b hb
  simp[Ku];omega
 rw[this]
theorem uF {bs:List Int} {u:Nat} (hu:u≤bs.length) (hl:bs.length<2^31):gn ⟨bs,u⟩=some (bif decide (u<bs.length) then(bs.getD u 0,⟨bs,((u+1:Nat):Int)⟩,0) else(0,⟨[],0⟩,3)):=by unfold gn ky;simp only[aB];rw[wrap64 (by omega)];by_cases c:u<bs.length;(have h1:(((bs.length:Int) - (u:Int))==0)=false:=by simp;omega);rw[h1,Hm,aJ rfl c,Ho c,Hn];simp only[aB];rw[wrap64 (x:=(u:Int)+1) (by omega)];rfl;(have h1:(((bs.length:Int) - (u:Int))==0)=true:=by simp;omega);rw[h1,Hn,Hp c,Hm]
end Go.Proofs.YtobbmodjdkcdcaaGreatDoor

import Derived.Test.YtobbmodjdkcdcaaGreatDoorLawScan
import Derived.Test.YtobbmodjdkcdcaaGreatDoorRt8
set_option linter.all false
set_option maxRecDepth 20000
namespace Go.Proofs.YtobbmodjdkcdcaaGreatDoor
open Go Go.Sim
variable [Fu]
theorem Dx:(room:Int)=17179869184:=rfl
theorem dq:room=17179869184:=rfl
theorem oT {x:List Int} (h:x.length<2^31):cb x=some x:=by unfold cb;rw[aQ (by rw[dq];simp;omega)];rfl
theorem Dy {x:List Int} (h:x.length<2^31):f8 x=some x:=by unfold f8;rw[aQ (by rw[dq];simp;omega)];rfl
theorem wR {α:Type} {xs:List α} {l h:Int} {i j:Nat} (hl:l=i) (hh:h=j) (h1:i≤j) (h2:j≤xs.length):sub xs l h=some ((xs.take j).drop i):=by subst hl;subst hh;unfold sub;(have:(decide ((0:Int)≤i)&&decide ((i:Int)≤j)&&decide ((j:Int)≤(xs.length:Int)))=true:=by simp;omega);rw[this,FJ];simp
theorem m8 {α:Type} {xs:List α} {l:Int} {i:Nat} (hl:l=i) (h1:i≤xs.length):sub xs l (xs.length:Int)=some (xs.drop i):=by rw[wR hl rfl h1 (F9 _),Gm]
theorem lQ {α:Type} {xs:List α} {h:Int} {j:Nat} (hh:h=j) (h2:j≤xs.length):sub xs 0 h=some (xs.take j):=by rw[wR (l:=0) (i:=0) rfl hh (Gi _) h2,G9]
theorem oU {n:Nat} (h:n<2^31):mkB (n:Int) (n:Int)=true:=by unfold mkB;rw[Dx];simp;omega
theorem xX {n:Nat} (h:n<2^31):mkB 0 (n:Int)=true:=by unfold mkB;rw[Dx];simp;omega
theorem fj {α:Type} (g:Nat→α) (i:Nat):(List.range i).map g++[g i]=(List.range (i+1)).map g:=by rw[Hx,Gy];rfl
theorem zR {α R:Type} {step:List α×Int→Option (Ctl (List α×Int) R)} (g:Nat→α) (n:Nat) {r:R} (h:∀i,i<n→step ((List.range i).map g,(i:Int))=some (.next ((List.range (i+1)).map g,((i+1:Nat):Int)))) (hn:step ((List.range n).map g,(n:Int))=some (.done r)):Loop.run step ([],0)=some r:=aP (λi=>((List.range i).map g,(i:Int))) 0 n (Gi _) (λi _ hi=>h i hi) hn rfl
def zS (t:List Int):List Int:=(t.drop 18).drop ((t.length - 18) / 2)
def fS (t:List Int) (c:Nat):aT:=⟨t.take 18,(t.drop 18).take ((t.length - 18) / 2),(List.range c).map λj=>((zS t).take ((j+1)*((zS t).length / c))).drop (j*((zS t).length / c))⟩
def lC (t:List Int) (c:Int):aT×Int:=bif decide (c<1)||decide (c>64) then(⟨[],[],[]⟩,2) else bif decide ((t.length:Int)<18) then(⟨[],[],[]⟩,3) else(fS t c.toNat,0)
theorem uO {t:List Int} {c:Int} (h:t.length<2^31):jd t c=some (lC t c):=by unfold jd lC;cases h1:decide (c<1)||decide (c>64) with|true=>rfl|false=>simp only[FU,FW] at h1;rw[FI,FI];cases h2:decide ((t.length:Int)<18) with|true=>rfl|false=>have h2:=F5 h2;obtain⟨n,rfl⟩:∃n:Nat,c=n:=⟨c.toNat,by omega⟩;(have hl:(t.drop 18).length=t.length - 18:=by simp);rw[FI,FI,m8 (xs:=t) (l:=18) (i:=18) rfl (by omega)];simp only[ab];rw[lQ (xs:=t) (h:=18) (j:=18) rfl (by omega)];simp only[ab];rw[oT (by simp;omega)];simp only[ab];(have e2:∀m:Nat,m<2^31→IntKind.wrap .i64 (Int.tdiv (m:Int) 2)=((m / 2:Nat):Int):=λm hm=>by rw[show Int.tdiv (m:Int) 2=((m / 2:Nat):Int) from ot,wrap64 (by omega)]);rw[e2 _ (by omega),lQ (j:=(t.drop 18).length / 2) rfl (by omega)];simp only[ab];rw[oT (by simp;omega)];simp only[ab];rw[m8 (i:=(t.drop 18).length / 2) rfl (by omega)];simp only[ab];(have hz:List.drop ((t.drop 18).length / 2) (t.drop 18)=zS t:=by rw[hl];rfl);rw[hz];(have hzl:(zS t).length≤t.length:=by simp only[zS,Gh];omega);have hne:decide ((n:Int)≠0)=true:=FK (by omega);rw[hne,FJ,ot];generalize hm:(zS t).length / n=m;(have hcm:n*m≤(zS t).length:=by rw[←hm];exact Nat.mul_div_le _ _);have hmm:m≤n*m:=Nat.le_mul_of_pos_left _ (by omega);rw[wrap64 (x:=(m:Int)) (by omega)];rw[aP (s0:=(0,[])) (r:=fS t n) (λi=>((i:Int),(List.range i).map λj=>((zS t).take ((j+1)*m)).drop (j*m))) 0 n (Gi _) ?_ ?_ rfl];simp only[ab,FP];intro i _ hi;have hd:decide ((i:Int)<(n:Int))=true:=FK (by omega);have h3:(i+1)*m≤n*m:=FS _ hi;have h4:(i+1)*m=i*m+m:=Gx _ _;(have w1:IntKind.wrap .i64 ((i:Int)*(m:Int))=((i*m:Nat):Int):=by rw[←H1,wrap64 (by omega)]);(have w0:IntKind.wrap .i64 ((i:Int)+1)=((i+1:Nat):Int):=by rw[wrap64 (by omega)];rfl);(have w2:IntKind.wrap .i64 (((i+1:Nat):Int)*(m:Int))=(((i+1)*m:Nat):Int):=by rw[←H1,wrap64 (by omega)]);simp only[hd,FJ,w0,w1,w2];rw[wR (i:=i*m) (j:=(i+1)*m) rfl rfl (by omega) (by omega)];simp only[ab];rw[Dy (by simp;omega)];simp only[ab];rw[aQ (by rw[dq];simp;omega)];simp only[ab];rw[fj (λj=>((zS t).take ((j+1)*m)).drop (j*m))];have hd:decide ((n:Int)<(n:Int))=false:=FL (by omega);simp only[hd,FI,fS,hm,hl]
theorem Cy {t:List Int} {c:Nat}:(fS t c).Chunks.length=c:=by simp[fS]
theorem Dz {t:List Int} (h:aL t):mn t=some ⟨t,0⟩:=by
 unfold mn
 have:strB t=t:=by
  unfold strB
  conv=>rhs;rw[←List.map_id t]
  apply G2
  intro b hb
  have:=h b hb
  simp[II];omega
 rw[this]
theorem rZ {bs:List Int} {u:Nat} (hu:u≤bs.length) (hl:bs.length<2^31):fC ⟨bs,u⟩=some (bif decide (u<bs.length) then(bs.getD u 0,⟨bs,((u+1:Nat):Int)⟩,0) else(0,⟨[],0⟩,3)):=by unfold fC je;simp only[ab];rw[wrap64 (by omega)];by_cases c:u<bs.length;(have h1:(((bs.length:Int) - (u:Int))==0)=false:=by simp;omega);rw[h1,FI,ar rfl c,FK c,FJ];simp only[ab];rw[wrap64 (x:=(u:Int)+1) (by omega)];rfl;(have h1:(((bs.length:Int) - (u:Int))==0)=true:=by simp;omega);rw[h1,FJ,FL c,FI]
end Go.Proofs.YtobbmodjdkcdcaaGreatDoor

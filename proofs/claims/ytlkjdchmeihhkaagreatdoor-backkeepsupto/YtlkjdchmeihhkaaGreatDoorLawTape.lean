import Derived.Test.YtlkjdchmeihhkaaGreatDoorLawScan
import Derived.Test.YtlkjdchmeihhkaaGreatDoorBk8
set_option autoImplicit true
set_option relaxedAutoImplicit true
set_option linter.all false
set_option maxRecDepth 20000
namespace Go.Proofs.YtlkjdchmeihhkaaGreatDoor
open Go Go.Sim
open Go.IntKind (wrap)
variable [Fu]
theorem Ew:(dC:Int)=17179869184:=rfl
theorem fL:dC=17179869184:=rfl
theorem sw {x:List Int} (h:x.length<2^31):dk x=some x:=by unfold dk;rw[cf (by rw[fL];simp;omega)];rfl
theorem Ex {x:List Int} (h:x.length<2^31):gl x=some x:=by unfold gl;rw[cf (by rw[fL];simp;omega)];rfl
theorem xW {α:Type} {xs:List α} {l h:Int} {i j:Nat} (a:l=i) (b:h=j) (h1:i≤j) (h2:j≤xs.length):sub xs l h=some ((xs.take j).drop i):=by subst a;subst b;unfold sub;(have:(decide ((0:Int)≤i)&&decide ((i:Int)≤j)&&decide ((j:Int)≤(xs.length:Int)))=true:=by simp;omega);rw[this,Gy];simp
theorem sx {α:Type} {xs:List α} {l:Int} {i:Nat} (a:l=i) (h1:i≤xs.length):sub xs l (xs.length:Int)=some (xs.drop i):=by rw[xW a rfl h1 (GZ _),Hf]
theorem qg {α:Type} {xs:List α} {h:Int} {j:Nat} (a:h=j) (h2:j≤xs.length):sub xs 0 h=some (xs.take j):=by rw[xW (l:=0) (i:=0) rfl a (GX _) h2,H7]
theorem pv {n:Nat} (h:n<2^31):kN (n:Int) (n:Int)=true:=by unfold kN;rw[Ew];simp;omega
theorem zr {n:Nat} (h:n<2^31):kN 0 (n:Int)=true:=by unfold kN;rw[Ew];simp;omega
theorem fU {α:Type} (g:Nat→α) (i:Nat):(List.range i).map g++[g i]=(List.range (i+1)).map g:=by rw[JR,HT];rfl
theorem AM {α R:Type} {step:List α×Int→Option (md (List α×Int) R)} (g:Nat→α) (n:Nat) {r:R} (h:∀i,i<n→step ((List.range i).map g,(i:Int))=some (.next ((List.range (i+1)).map g,((i+1:Nat):Int)))) (a:step ((List.range n).map g,(n:Int))=some (.done r)):Loop.run step ([],0)=some r:=cb (λi=>((List.range i).map g,(i:Int))) 0 n (GX _) (λi _ b=>h i b) a rfl
def zS (t:List Int):List Int:=(t.drop 18).drop ((t.length - 18) / 2)
def gv (t:List Int) (c:Nat):bV:=⟨t.take 18,(t.drop 18).take ((t.length - 18) / 2),(List.range c).map λj=>((zS t).take ((j+1)*((zS t).length / c))).drop (j*((zS t).length / c))⟩
def lS (t:List Int) (c:Int):bV×Int:=bif decide (c<1)||decide (c>64) then(⟨[],[],[]⟩,2) else bif decide ((t.length:Int)<18) then(⟨[],[],[]⟩,3) else(gv t c.toNat,0)
theorem wa {t:List Int} {c:Int} (h:t.length<2^31):jm t c=some (lS t c):=by unfold jm lS;cases a:decide (c<1)||decide (c>64) with|true=>rfl|false=>simp only[GL,GJ] at a;rw[Gx,Gx];cases a:decide ((t.length:Int)<18) with|true=>rfl|false=>have a:=G7 a;obtain⟨n,rfl⟩:∃n:Nat,c=n:=⟨c.toNat,by omega⟩;(have f:(t.drop 18).length=t.length - 18:=by simp);rw[Gx,Gx,sx (xs:=t) (l:=18) (i:=18) rfl (by omega)];simp only[aF];rw[qg (xs:=t) (h:=18) (j:=18) rfl (by omega)];simp only[aF];rw[sw (by simp;omega)];simp only[aF];(have a:∀m:Nat,m<2^31→wrap .i64 (Int.tdiv (m:Int) 2)=((m / 2:Nat):Int):=λm k=>by rw[show Int.tdiv (m:Int) 2=((m / 2:Nat):Int) from oY,wrap64 (by omega)]);rw[a _ (by omega),qg (j:=(t.drop 18).length / 2) rfl (by omega)];simp only[aF];rw[sw (by simp;omega)];simp only[aF];rw[sx (i:=(t.drop 18).length / 2) rfl (by omega)];simp only[aF];(have a:List.drop ((t.drop 18).length / 2) (t.drop 18)=zS t:=by rw[f];rfl);rw[a];(have b:(zS t).length≤t.length:=by simp only[zS,Hj];omega);have a:decide ((n:Int)≠0)=true:=Gz (by omega);rw[a,Gy,oY];generalize k:(zS t).length / n=m;(have d:n*m≤(zS t).length:=by rw[←k];exact Nat.mul_div_le _ _);have e:m≤n*m:=Nat.le_mul_of_pos_left _ (by omega);rw[wrap64 (x:=(m:Int)) (by omega)];rw[cb (s0:=(0,[])) (r:=gv t n) (λi=>((i:Int),(List.range i).map λj=>((zS t).take ((j+1)*m)).drop (j*m))) 0 n (GX _) ?_ ?_ rfl];simp only[aF,GG];intro i _ a;have b:decide ((i:Int)<(n:Int))=true:=Gz (by omega);have d:(i+1)*m≤n*m:=GI _ a;have a:(i+1)*m=i*m+m:=Hl _ _;(have a:wrap .i64 ((i:Int)*(m:Int))=((i*m:Nat):Int):=by rw[←I6,wrap64 (by omega)]);(have w0:wrap .i64 ((i:Int)+1)=((i+1:Nat):Int):=by rw[wrap64 (by omega)];rfl);(have d:wrap .i64 (((i+1:Nat):Int)*(m:Int))=(((i+1)*m:Nat):Int):=by rw[←I6,wrap64 (by omega)]);simp only[b,Gy,w0,a,d];rw[xW (i:=i*m) (j:=(i+1)*m) rfl rfl (by omega) (by omega)];simp only[aF];rw[Ex (by simp;omega)];simp only[aF];rw[cf (by rw[fL];simp;omega)];simp only[aF];rw[fU (λj=>((zS t).take ((j+1)*m)).drop (j*m))];have b:decide ((n:Int)<(n:Int))=false:=GA (by omega);simp only[b,Gx,gv,k,f]
theorem Dw {t:List Int} {c:Nat}:(gv t c).Chunks.length=c:=by simp[gv]
theorem Ey {t:List Int} (h:bW t):mj t=some ⟨t,0⟩:=by
 unfold mj
 have:c5 t=t:=by
  unfold c5
  conv=>rhs;rw[←List.map_id t]
  apply HE
  intro b a
  have:=h b a
  simp[UInt8.toNat_ofNat'];omega
 rw[this]
theorem tc {bs:List Int} {u:Nat} (a:u≤bs.length) (a:bs.length<2^31):ga ⟨bs,u⟩=some (bif decide (u<bs.length) then(bs.getD u 0,⟨bs,((u+1:Nat):Int)⟩,0) else(0,⟨[],0⟩,3)):=by unfold ga jn;simp only[aF];rw[wrap64 (by omega)];by_cases c:u<bs.length;(have a:(((bs.length:Int) - (u:Int))==0)=false:=by simp;omega);rw[a,Gx,bP rfl c,Gz c,Gy];simp only[aF];rw[wrap64 (x:=(u:Int)+1) (by omega)];rfl;(have a:(((bs.length:Int) - (u:Int))==0)=true:=by simp;omega);rw[a,Gy,GA c,Gx]
end Go.Proofs.YtlkjdchmeihhkaaGreatDoor

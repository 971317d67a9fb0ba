import Derived.Test.YtlkjdchmeihhkaaGreatDoorLawScan
import Derived.Test.YtlkjdchmeihhkaaGreatDoorBf10
set_option autoImplicit true
set_option relaxedAutoImplicit true
set_option linter.all false
set_option maxRecDepth 20000
namespace Go.Proofs.YtlkjdchmeihhkaaGreatDoor
open Go Go.Sim
open Go.IntKind (wrap)
variable [Fu]
theorem Gp:(dJ:Int)=17179869184:=rfl
theorem cQ:dJ=17179869184:=rfl
theorem vf {x:List Int} (h:x.length<2^31):df x=some x:=by unfold df;rw[aW (by rw[cQ];simp;omega)];rfl
theorem Gq {x:List Int} (h:x.length<2^31):ir x=some x:=by unfold ir;rw[aW (by rw[cQ];simp;omega)];rfl
theorem wy {α:Type} {xs:List α} {l h:Int} {i j:Nat} (a:l=i) (b:h=j) (h1:i≤j) (h2:j≤xs.length):sub xs l h=some ((xs.take j).drop i):=by subst a;subst b;unfold sub;(have:(decide ((0:Int)≤i)&&decide ((i:Int)≤j)&&decide ((j:Int)≤(xs.length:Int)))=true:=by simp;omega);rw[this,Im];simp
theorem qo {α:Type} {xs:List α} {l:Int} {i:Nat} (a:l=i) (h1:i≤xs.length):sub xs l (xs.length:Int)=some (xs.drop i):=by rw[wy a rfl h1 (IL _),IY]
theorem oO {α:Type} {xs:List α} {h:Int} {j:Nat} (a:h=j) (h2:j≤xs.length):sub xs 0 h=some (xs.take j):=by rw[wy (l:=0) (i:=0) rfl a (IG _) h2,JX]
theorem pv {n:Nat} (h:n<2^31):pJ (n:Int) (n:Int)=true:=by unfold pJ;rw[Gp];simp;omega
theorem vg {n:Nat} (h:n<2^31):pJ 0 (n:Int)=true:=by unfold pJ;rw[Gp];simp;omega
theorem cZ {α:Type} (g:Nat→α) (i:Nat):(List.range i).map g++[g i]=(List.range (i+1)).map g:=by rw[Ky,Jn];rfl
theorem pw {α R:Type} {step:List α×Int→Option (tj (List α×Int) R)} (g:Nat→α) (n:Nat) {r:R} (h:∀i,i<n→step ((List.range i).map g,(i:Int))=some (.next ((List.range (i+1)).map g,((i+1:Nat):Int)))) (a:step ((List.range n).map g,(n:Int))=some (.done r)):Loop.run step ([],0)=some r:=aY (λi=>((List.range i).map g,(i:Int))) 0 n (IG _) (λi _ b=>h i b) a rfl
def zS (t:List Int):List Int:=(t.drop 18).drop ((t.length - 18) / 2)
def eF (t:List Int) (c:Nat):bp:=⟨t.take 18,(t.drop 18).take ((t.length - 18) / 2),(List.range c).map λj=>((zS t).take ((j+1)*((zS t).length / c))).drop (j*((zS t).length / c))⟩
def iN (t:List Int) (c:Int):bp×Int:=bif decide (c<1)||decide (c>64) then(⟨[],[],[]⟩,2) else bif decide ((t.length:Int)<18) then(⟨[],[],[]⟩,3) else(eF t c.toNat,0)
theorem yq {t:List Int} {c:Int} (h:t.length<2^31):ln t c=some (iN t c):=by unfold ln iN;cases a:decide (c<1)||decide (c>64) with|true=>rfl|false=>simp only[Iy,Iw] at a;rw[Il,Il];cases a:decide ((t.length:Int)<18) with|true=>rfl|false=>have a:=II a;obtain⟨n,rfl⟩:∃n:Nat,c=n:=⟨c.toNat,by omega⟩;(have f:(t.drop 18).length=t.length - 18:=by simp);rw[Il,Il,qo (xs:=t) (l:=18) (i:=18) rfl (by omega)];simp only[aB];rw[oO (xs:=t) (h:=18) (j:=18) rfl (by omega)];simp only[aB];rw[vf (by simp;omega)];simp only[aB];(have a:∀m:Nat,m<2^31→wrap .i64 (Int.tdiv (m:Int) 2)=((m / 2:Nat):Int):=λm k=>by rw[show Int.tdiv (m:Int) 2=((m / 2:Nat):Int) from jf,wrap64 (by omega)]);rw[a _ (by omega),oO (j:=(t.drop 18).length / 2) rfl (by omega)];simp only[aB];rw[vf (by simp;omega)];simp only[aB];rw[qo (i:=(t.drop 18).length / 2) rfl (by omega)];simp only[aB];(have a:List.drop ((t.drop 18).length / 2) (t.drop 18)=zS t:=by rw[f];rfl);rw[a];(have b:(zS t).length≤t.length:=by simp only[zS,IZ];omega);have a:decide ((n:Int)≠0)=true:=Io (by omega);rw[a,Im,jf];generalize k:(zS t).length / n=m;(have d:n*m≤(zS t).length:=by rw[←k];exact Nat.mul_div_le _ _);have e:m≤n*m:=LN _ (by omega);rw[wrap64 (x:=(m:Int)) (by omega)];rw[aY (s0:=(0,[])) (r:=eF t n) (λi=>((i:Int),(List.range i).map λj=>((zS t).take ((j+1)*m)).drop (j*m))) 0 n (IG _) ?_ ?_ rfl];simp only[aB,Iq];intro i _ a;have b:decide ((i:Int)<(n:Int))=true:=Io (by omega);have d:(i+1)*m≤n*m:=Iz _ a;have a:(i+1)*m=i*m+m:=Jk _ _;(have a:wrap .i64 ((i:Int)*(m:Int))=((i*m:Nat):Int):=by rw[←Kh,wrap64 (by omega)]);(have w0:wrap .i64 ((i:Int)+1)=((i+1:Nat):Int):=by rw[wrap64 (by omega)];rfl);(have d:wrap .i64 (((i+1:Nat):Int)*(m:Int))=(((i+1)*m:Nat):Int):=by rw[←Kh,wrap64 (by omega)]);simp only[b,Im,w0,a,d];rw[wy (i:=i*m) (j:=(i+1)*m) rfl rfl (by omega) (by omega)];simp only[aB];rw[Gq (by simp;omega)];simp only[aB];rw[aW (by rw[cQ];simp;omega)];simp only[aB];rw[cZ (λj=>((zS t).take ((j+1)*m)).drop (j*m))];have b:decide ((n:Int)<(n:Int))=false:=Ip (by omega);simp only[b,Il,eF,k,f]
theorem As {t:List Int} {c:Nat}:(eF t c).Chunks.length=c:=by simp[eF]
theorem Gr {t:List Int} (h:aV t):pa t=some ⟨t,0⟩:=by
 unfold pa
 have:q4 t=t:=by
  unfold q4
  conv=>rhs;rw[←List.map_id t]
  apply JH
  intro b a
  have:=h b a
  simp[LI];omega
 rw[this]
theorem vW {bs:List Int} {u:Nat} (a:u≤bs.length) (a:bs.length<2^31):gX ⟨bs,u⟩=some (bif decide (u<bs.length) then(bs.getD u 0,⟨bs,((u+1:Nat):Int)⟩,0) else(0,⟨[],0⟩,3)):=by unfold gX lu;simp only[aB];rw[wrap64 (by omega)];by_cases c:u<bs.length;(have a:(((bs.length:Int) - (u:Int))==0)=false:=by simp;omega);rw[a,Il,aK rfl c,Io c,Im];simp only[aB];rw[wrap64 (x:=(u:Int)+1) (by omega)];rfl;(have a:(((bs.length:Int) - (u:Int))==0)=true:=by simp;omega);rw[a,Im,Ip c,Il]
end Go.Proofs.YtlkjdchmeihhkaaGreatDoor

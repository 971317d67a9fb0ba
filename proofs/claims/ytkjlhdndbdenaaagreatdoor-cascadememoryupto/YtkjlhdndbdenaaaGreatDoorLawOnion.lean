import Derived.Test.YtkjlhdndbdenaaaGreatDoorLawAes5
set_option autoImplicit true
set_option relaxedAutoImplicit true
set_option linter.all false
set_option maxRecDepth 20000
set_option maxHeartbeats 1000000
namespace Go.Proofs.YtkjlhdndbdenaaaGreatDoor
open Go Go.Sim
variable [Fu]
theorem pm {R:Type} {step:Int→Option (j_ Int R)} {p:Nat→Bool} {good bad:R} {s0:Int} (b:Bool) (a n:Nat) (c:a≤n) (d:b=true↔∃i,a≤i∧i<n∧p i=true)
  (h:∀i:Nat,a≤i→i<n→step (i:Int)=some (bif p i then .done bad else .next ((i+1:Nat):Int))) (e:step (n:Int)=some (.done good)) (h0:s0=(a:Int)):
  Loop.run step s0=some (bif b then bad else good):=by
 subst h0
 have f:∀k a,n - a=k→a≤n→(∀i:Nat,a≤i→i<n→step (i:Int)=some (bif p i then .done bad else .next ((i+1:Nat):Int)))→
   ((∃i,a≤i∧i<n∧p i=true)→Loop.run step (a:Int)=some bad)∧((¬∃i,a≤i∧i<n∧p i=true)→Loop.run step (a:Int)=some good):=by
  intro k
  induction k with
  |zero=>
   intro a j l m
   have:a=n:=by omega
   subst this
   exact⟨λ⟨i,o,q,_⟩=>by omega,λ_=>zO e⟩
  |succ k e=>
   intro a j l m
   have j:=m a (wy _) (by omega)
   obtain⟨k,l⟩:=e (a+1) (by omega) (by omega) (λi o q=>m i (by omega) q)
   cases m:p a with
   |true=>
    rw[m,wd] at j
    exact⟨λ_=>zO j,λe=>absurd ⟨a,wy _,by omega,m⟩ e⟩
   |false=>
    rw[m,wc] at j
    rw[zV j]
    refine⟨λ⟨i,o,q,j⟩=>k ⟨i,?_,q,j⟩,λe=>l λ⟨i,o,q,j⟩=>e ⟨i,by omega,q,j⟩⟩
    have:i≠a:=λe=>by rw[e,m] at j;cases j
    omega
 obtain⟨e,j⟩:=f _ a rfl c h
 cases b with
 |true=>exact e (d.1 rfl)
 |false=>exact j λc=>by have:=d.2 c;cases this
def nz (l:List Int):Bool:=l.any (· != 0)
theorem tu {l:List Int} {a:Nat}:nz (l.drop a)=true↔∃i,a≤i∧i<l.length∧(l.getD i 0 != 0)=true:=by unfold nz;rw[List.any_eq_true];constructor;rintro⟨x,b,h⟩;obtain⟨j,c,e⟩:=List.getElem_of_mem b;simp only[wO] at c;refine⟨a+j,by omega,by omega,?_⟩;rw[List.getElem_drop] at e;(have:l.getD (a+j) 0=x:=by rw[←e];simp[show a+j<l.length by omega]);rw[this];exact h;rintro⟨i,b,b,c⟩;(have e:l.getD i 0=l[i]:=by simp[b]);rw[e] at c;refine⟨l[i],?_,c⟩;rw[List.mem_iff_getElem];exact⟨i - a,by simp;omega,by simp[show a+(i - a)=i by omega]⟩
theorem nY {x:List Int} (h:x.length<2^30):eL x=some (!nz x):=by unfold eL;rw[pm (p:=λi=>x.getD i 0 != 0) (good:= .inl ()) (bad:= .inr false) (nz x) 0 x.length (by omega) (by have:=tu (l:=x) (a:=0);rw[xk] at this;exact this) ?_ (dp (wk (by omega))) (by rfl)];cases nz x<;>rfl;intro i _ a;have b:decide ((i:Int)<(x.length:Int))=true:=wg (by omega);rw[b,wd,aI rfl a];simp only[aC];rw[bA (by omega)];cases x.getD i 0 != 0<;>rfl
theorem pq {x:List Int} {z:Int} {a:Nat} (b:z=a) (c:a≤x.length) (h:x.length<2^30):de x z=some (!nz (x.drop a)):=by unfold de;rw[pm (p:=λi=>x.getD i 0 != 0) (good:= .inl ()) (bad:= .inr false) (nz (x.drop a)) a x.length c tu ?_ (dp (wk (by omega))) b];cases nz (x.drop a)<;>rfl;intro i _ b;have c:decide ((i:Int)<(x.length:Int))=true:=wg (by omega);rw[c,wd,aI rfl b];simp only[aC];rw[bA (by omega)];cases x.getD i 0 != 0<;>rfl
theorem jx {c:List Int} {n:Nat}:((c.length:Int) != (n:Int))=(c.length != n):=by rw[wY];simp only[bne_iff_ne];omega
def y5 (x:List Int):List Int:=x++List.replicate (320 - x.length) 0
theorem se {x a:List Int} {off:Nat} (b:a.length=off) (b:off+x.length≤320):over (over (List.replicate 320 (0:Int)) 0 320 a) off 320 x=a++x++List.replicate (320 - off - x.length) 0:=by (have b:over (List.replicate 320 (0:Int)) 0 320 a=a++List.replicate (320 - off) 0:=by rw[iQ (by omega) (by simp)];have:a.take (320 - 0)=a:=wn (by omega);rw[this,yh,wQ,yS];congr 2;omega);rw[b,iQ (by omega) (by simp;omega)];(have t1:(a++List.replicate (320 - off) (0:Int)).take off=a:=by rw[xw (by omega),wn (by omega)]);have t2:x.take (320 - off)=x:=wn (by omega);(have t3:(a++List.replicate (320 - off) (0:Int)).drop (off+min x.length (320 - off))=List.replicate (320 - off - x.length) 0:=by (have:off+min x.length (320 - off)=a.length+x.length:=by omega);rw[this,List.drop_append,yS];simp);rw[t1,t2,t3]
theorem sf {x a:List Int} {z:Int} {off:Nat} (b:z=off) (c:a.length=off) (d:off+x.length≤320):gg x z a=some (a++x++List.replicate (320 - off - x.length) 0):=by subst b;unfold gg;(have b:mA 320 320=true:=by decide);have e:List.replicate (Int.toNat 320) (0:Int)=List.replicate 320 0:=rfl;rw[b,wd,e,xX];(have b:(over (List.replicate 320 (0:Int)) 0 320 a).length=320:=by rw[iK (by omega) (by simp)];simp);rw[b];have a:decide ((0:Int)≤(off:Int)∧(off:Int)≤((320:Nat):Int)∧(((320:Nat):Int):Int)≤((320:Nat):Int))=true:=wg (by omega);have b:decide ((Int.toNat (off:Int))≤(Int.toNat ((320:Nat):Int))∧(Int.toNat ((320:Nat):Int))≤320)=true:=wg (by omega);(first|rw[a,b]|skip);simp only[wd,wl];rw[se c d];try rfl
theorem lT {x:List Int} (h:x.length≤320):dQ x=some (y5 x,0):=by unfold dQ;have e:decide ((x.length:Int)>320)=false:=wk (by omega);rw[e,wc,sf (z:=0) (off:=0) rfl rfl (by omega)];rfl
theorem tv {x:List Int} (h:x.length≤320):d6 x=some (y5 x):=by unfold d6;have a:c7=17179869184:=rfl;rw[bb (by rw[a];simp;omega)];simp only[aC,wQ];rw[aQ (λi=>x++List.replicate i (0:Int)) 0 (320 - x.length) (r:=y5 x) (by omega) ?_ (dp (wk (by simp;omega))) (by simp)];rfl;intro i _ b;have b:decide (((x++List.replicate i (0:Int)).length:Int)<320)=true:=wg (by simp;omega);rw[b,wd,bb (by rw[a];simp;omega)];simp only[aC];rw[wM,←List.replicate_succ']
theorem uL {x:List Int} (h:x.length≤320):cY x=some (y5 x,0):=by unfold cY;have e:decide ((x.length:Int)>320)=false:=wk (by omega);rw[e,wc,tv h];rfl
def br (l:Int):Nat:=bif decide (l<1)||decide (l>8) then 0 else(48+34*l).toNat
theorem lU (l:Int):br l≤320:=by unfold br;cases h:decide (l<1)||decide (l>8) with|true=>simp|false=>rw[xe] at h;simp at h;simp only[wc];omega
theorem kx {l:Int} (h:br l≠0):1≤l∧l≤8∧(br l:Int)=48+34*l:=by unfold br at h⊢;cases a:decide (l<1)||decide (l>8) with|true=>rw[a] at h;simp at h|false=>rw[xe] at a;simp at a;simp only[wc];omega
theorem qz (l:Int):eT l=some (br l:Int):=by unfold eT br;cases h:decide (l<1)||decide (l>8) with|true=>rfl|false=>rw[xe] at h;simp at h;simp only[wc];rw[bA (x:=34*l) (by omega),bA (by omega)];congr 1;omega
theorem tx (l:Int):cy l=some (br l:Int):=by unfold cy br;cases h:decide (l<1)||decide (l>8) with|true=>rfl|false=>rw[xe] at h;simp at h;simp only[wc];rw[bA (x:=l - 1) (by omega),bA (x:=34*(l - 1)) (by omega),bA (by omega)];congr 1;omega
def CH:List Int:=[99,104,117,114,110]
def ig (key a:List Int):aG:=⟨(kD key a CH 80).take 16,((kD key a CH 80).take 48).drop 16,(kD key a CH 80).drop 48⟩
theorem lV (a b c:List Int) (n:Nat):(kD a b c n).length=n:=uF _ _ _
theorem qF (a b c:List Int) (n:Nat):aT (kD a b c n):=sa _ _ _
theorem mW (key a:List Int):(ig key a).Box.length=16∧(ig key a).Mac.length=32∧(ig key a).Replay.length=32:=by have:=lV key a CH 80;simp[ig,this]
theorem mX (key a:List Int):aT (ig key a).Box:=λb h=>by simp only[ig] at h;exact qF key a CH 80 b (xq h)
theorem nZ {key a:List Int} (b:key.length=32) (c:a.length=16):ey key a=some (ig key a,0):=by unfold ey;(have c:((key.length:Int) != 32)=false:=by rw[b];rfl);(have b:decide (0<[99,104,117,114,110].length)=true:=by decide);rw[c,b,wc,wd,lR (z:=80) (n:=80) rfl (by omega) (by omega) (by omega) (by simp)];simp only[aC];have b:=lV key a CH 80;have b:kD key a [99,104,117,114,110] 80=kD key a CH 80:=rfl;have c:ig key a=⟨(kD key a CH 80).take 16,((kD key a CH 80).take 48).drop 16,(kD key a CH 80).drop 48⟩:=rfl;rw[b,c];generalize kD key a CH 80=P at*;simp only[xi,wc];rw[iF (h:=16) (j:=16) rfl (by omega)];simp only[aC];rw[fM (l:=16) (h:=48) (i:=16) (j:=48) rfl rfl (by omega) (by omega)];simp only[aC];rw[fM (l:=48) (i:=48) (j:=80) rfl (by omega) (by omega) (by omega)];simp only[aC];have b:decide (16≤(P.take 16).length)=true:=wg (by simp;omega);have c:decide (32≤((P.take 48).drop 16).length)=true:=wg (by simp;omega);have d:decide (32≤((P.take 80).drop 48).length)=true:=wg (by simp;omega);rw[b,c,d,wd,wd,wd];have t1:(P.take 16).take 16=P.take 16:=wn (by simp;omega);have t2:((P.take 48).drop 16).take 32=(P.take 48).drop 16:=wn (by simp;omega);have t3:P.take 80=P:=wn (by omega);have t4:(P.drop 48).take 32=P.drop 48:=wn (by simp;omega);rw[t1,t2,t3,t4]
theorem li {key a:List Int} (b:key.length=32) (c:a.length=16):dx key a=some (ig key a,0):=by unfold dx;(have c:((key.length:Int) != 32)=false:=by rw[b];rfl);(have b:decide (0<[99,104,117,114,110].length)=true:=by decide);rw[c,b,wc,wd,lS (z:=80) (n:=80) rfl (by omega) (by omega) (by omega) (by simp)];simp only[aC];have b:=lV key a CH 80;have b:kD key a [99,104,117,114,110] 80=kD key a CH 80:=rfl;have c:ig key a=⟨(kD key a CH 80).take 16,((kD key a CH 80).take 48).drop 16,(kD key a CH 80).drop 48⟩:=rfl;rw[b,c];generalize kD key a CH 80=P at*;rw[aQ (λi=>((i:Int),(⟨co 16 (λj=>P.getD j 0) (λ_=>0) i,co 32 (λj=>P.getD (16+j) 0) (λ_=>0) (i - 16),co 32 (λj=>P.getD (48+j) 0) (λ_=>0) (i - 48)⟩:aG))) 0 80 (r:=⟨P.take 16,(P.take 48).drop 16,P.drop 48⟩) (by omega) ?_ ?_ (by rfl)];rfl;intro i _ b;have c:decide ((i:Int)<80)=true:=wg (by omega);simp only[c,wd];by_cases b:i<16;have d1:decide ((i:Int)<16)=true:=wg (by omega);simp only[d1,wd];rw[aI (xs:=P) rfl (by omega)];simp only[aC];rw[cN rfl (by omega)];simp only[aC,wl];(have d:i+1 - 16=i - 16:=by omega);(have e:i+1 - 48=i - 48:=by omega);rw[bA (by omega),ck (f:=λj=>P.getD j 0) (by omega) rfl,d,e];rfl;have d1:decide ((i:Int)<16)=false:=wk (by omega);simp only[d1,wc];have b:co 16 (λj=>P.getD j 0) (λ_=>0) i=co 16 (λj=>P.getD j 0) (λ_=>0) (i+1):=gS (by omega) (by omega);by_cases f:i<48;have d2:decide ((i:Int)<48)=true:=wg (by omega);simp only[d2,wd];rw[aI (xs:=P) rfl (by omega)];simp only[aC];rw[bA (x:=(i:Int) - 16) (by omega),cN (k:=i - 16) (by omega) (by omega)];simp only[aC];(have f:Int.toNat ((i:Int) - 16)=i - 16:=by omega);(have d:i - 16+1=i+1 - 16:=by omega);(have e:i+1 - 48=i - 48:=by omega);(have h:P.getD i 0=P.getD (16+(i - 16)) 0:=by rw[show 16+(i - 16)=i by omega]);rw[bA (by omega),f,ck (f:=λj=>P.getD (16+j) 0) (by omega) h,d,e,b];rfl;have d2:decide ((i:Int)<48)=false:=wk (by omega);simp only[d2,wc];have e:co 32 (λj=>P.getD (16+j) 0) (λ_=>0) (i - 16)=co 32 (λj=>P.getD (16+j) 0) (λ_=>0) (i+1 - 16):=gS (by omega) (by omega);rw[aI (xs:=P) rfl (by omega)];simp only[aC];rw[bA (x:=(i:Int) - 48) (by omega),cN (k:=i - 48) (by omega) (by omega)];simp only[aC];(have f:Int.toNat ((i:Int) - 48)=i - 48:=by omega);(have d:i - 48+1=i+1 - 48:=by omega);(have h:P.getD i 0=P.getD (48+(i - 48)) 0:=by rw[show 48+(i - 48)=i by omega]);rw[bA (by omega),f,ck (f:=λj=>P.getD (48+j) 0) (by omega) h,d,b,e];rfl;(have c:decide (((80:Nat):Int)<80)=false:=by decide);simp only[c,wc];rw[gS (n:=16) (i:=80) (k:=16) (by omega) (by omega),gS (n:=32) (i:=80 - 16) (k:=32) (by omega) (by omega),show 80 - 48=32 from rfl,ef,ef,ef];(have b:(List.range 16).map (λj=>P.getD j 0)=P.take 16:=by apply gn;simp;omega;intro j c;simp at c;simp[c,w8]);(have d:(List.range 32).map (λj=>P.getD (16+j) 0)=(P.take 48).drop 16:=by apply gn;simp;omega;intro j c;simp at c;simp[c,w8,wT,show 16+j<48 by omega]);(have e:(List.range 32).map (λj=>P.getD (48+j) 0)=P.drop 48:=by apply gn;simp;omega;intro j c;simp at c;simp[c,wT]);rw[b,d,e]
def pr (key a:List Int):List Int:=(tC key a).take 16
theorem ky (key a:List Int):(pr key a).length=16:=by simp[pr,fN]
theorem tF {key a:List Int} (b:key.length<2^30) (c:a.length<2^30):d5 key a=some (pr key a):=by unfold d5;rw[nW b c];simp only[aC];have b:=fN key a;have b:pr key a=(tC key a).take 16:=rfl;rw[b];generalize tC key a=P at*;rw[aQ (λi=>((i:Int),co 16 (λj=>P.getD j 0) (λ_=>0) i)) 0 16 (r:=P.take 16) (by omega) ?_ ?_ (by rfl)];rfl;intro i _ b;have b:decide ((i:Int)<16)=true:=wg (by omega);simp only[b,wd];rw[aI (xs:=P) rfl (by omega)];simp only[aC];rw[cN rfl (by omega)];simp only[aC,wl];rw[bA (by omega),ck (f:=λj=>P.getD j 0) (by omega) rfl];rfl;(have b:decide (((16:Nat):Int)<16)=false:=by decide);simp only[b,wc];rw[ef];(have b:(List.range 16).map (λj=>P.getD j 0)=P.take 16:=by apply gn;simp;omega;intro j c;simp at c;simp[c,w8]);rw[b]
def yD (b:aG) (l:Int) (a box:List Int):List Int:=pr b.Mac ([IntKind.wrap .u8 l]++a++box)
theorem n4 {b:aG} {l:Int} {a box:List Int} (c:b.Mac.length<2^30) (d:a.length=16) (d:box.length<2^29):fc b l a box=some (yD b l a box):=by unfold fc;have b:c7=17179869184:=rfl;rw[bb (by rw[b];simp;omega)];simp only[aC];rw[bb (by rw[b];simp;omega)];simp only[aC];rw[nV c (by simp;omega)];simp only[aC];rw[iF (h:=16) (j:=16) rfl (by rw[fN];omega)];rfl
theorem uM {b:aG} {l:Int} {a box:List Int} (c:b.Mac.length<2^30) (d:a.length=16) (d:box.length<2^29):eN b l a box=some (yD b l a box):=by unfold eN;have b:c7=17179869184:=rfl;rw[bb (by rw[b];simp;omega)];simp only[aC];rw[bb (by rw[b];simp;omega)];simp only[aC];rw[tF c (by simp;omega)];rfl
end Go.Proofs.YtkjlhdndbdenaaaGreatDoor

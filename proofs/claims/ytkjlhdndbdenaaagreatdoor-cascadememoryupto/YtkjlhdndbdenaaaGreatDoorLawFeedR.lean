import Derived.Test.YtkjlhdndbdenaaaGreatDoorLawFeed
set_option autoImplicit true
set_option relaxedAutoImplicit true
set_option linter.all false
set_option maxRecDepth 20000
set_option maxHeartbeats 1000000
namespace Go.Proofs.YtkjlhdndbdenaaaGreatDoor
open Go Go.Sim
open Go.IntKind (wrap)
variable [Fu]
theorem qo {v z:Int} {k:Nat} (a:z=k) (b:k≤8):dF v z=some (gG v k):=by subst a;unfold dF;rw[bA (x:=(k:Int) - 1) (by omega)];rw[aQ (s0:=([],(k:Int) - 1)) (r:=gG v k) (λi=>((List.range i).map (λj=>wrap .u8 (cv .i64 v ((8*(k - 1 - j):Nat):Int))),(k:Int) - 1 - (i:Int))) 0 k (xf _) ?_ ?_ ?_];rfl;intro i _ a;have a:decide ((k:Int) - 1 - (i:Int)≥0)=true:=wg (by omega);(have e:(k:Int) - 1 - (i:Int)=((k - 1 - i:Nat):Int):=by omega);(have b:wrap .i64 (8*((k:Int) - 1 - (i:Int)))=((8*(k - 1 - i):Nat):Int):=by rw[bA (by omega)];omega);have c:decide (0≤((8*(k - 1 - i):Nat):Int))=true:=wg (by omega);simp only[a,b,c,wd];rw[bb (by rw[fm];simp;omega)];simp only[aC];rw[pv (λj=>wrap .u8 (cv .i64 v ((8*(k - 1 - j):Nat):Int))),bA (by omega)];congr 3;omega;have a:decide ((k:Int) - 1 - (k:Int)≥0)=false:=wk (by omega);simp only[a,wc];rfl;simp
def jE (s:aF):Prop:=(0≤s.a∧s.a<65521)∧(0≤s.b∧s.b<65521)
theorem lH {x:Int} (h:0≤x):0≤Int.tmod x 65521∧Int.tmod x 65521<65521:=by rw[Int.tmod_eq_emod_of_nonneg h];omega
theorem oZ {s:aF} {b:Int} (a:jE s) (c:0≤b∧b≤255):mR s b=⟨Int.tmod (s.a+b) 65521,Int.tmod (s.b+Int.tmod (s.a+b) 65521) 65521⟩∧jE (mR s b):=by obtain⟨c,c⟩:=a;have a:=lH (x:=s.a+b) (by omega);have c:=lH (x:=s.b+Int.tmod (s.a+b) 65521) (by omega);(have w:∀x:Int,0≤x∧x<4294967296→wrap .u32 x=x:=λx d=>by rw[fW];omega);(have e:mR s b=⟨Int.tmod (s.a+b) 65521,Int.tmod (s.b+Int.tmod (s.a+b) 65521) 65521⟩:=by unfold mR;simp only[w b (by omega),w (s.a+b) (by omega),w (s.b+Int.tmod (s.a+b) 65521) (by omega)]);exact⟨e,by rw[e];exact⟨a,c⟩⟩
theorem pa:∀{p:List Int} {s:aF},jE s→aT p→jE (gH s p)|[],s,a,_=>a|b::p,s,a,c=>pa (p:=p) (oZ a (c b (by simp))).2 (λx a=>c x (by simp[a]))
theorem s4 {s:aF} (a:jE s):fF s=s.b*65536+s.a:=by obtain⟨⟨c,d⟩,⟨e,f⟩⟩:=a;obtain⟨a,b⟩:=s;simp only at c d e f;obtain⟨x,rfl⟩:∃x:Nat,a=x:=⟨a.toNat,by omega⟩;obtain⟨y,rfl⟩:∃y:Nat,b=y:=⟨b.toNat,by omega⟩;unfold fF;(have a:c5 .u32 (y:Int) 16=((y*65536:Nat):Int):=by show IntKind.u32.wrap ((y:Int)*65536)=_;rw[fW];omega);simp only;rw[a];unfold kC;(have f:(BitVec.ofInt IntKind.u32.bits ((y*65536:Nat):Int)|||BitVec.ofInt IntKind.u32.bits (x:Int)).toNat=y*65536+x:=by show(BitVec.ofInt 32 ((y*65536:Nat):Int)|||BitVec.ofInt 32 (x:Int)).toNat=_;rw[BitVec.toNat_or,xM,xM];(have a:((((y*65536:Nat):Int))%((2^32:Nat):Int)).toNat=y*65536:=by omega);(have b:(((x:Int))%((2^32:Nat):Int)).toNat=x:=by omega);rw[a,b];have:=Nat.shiftLeft_add_eq_or_of_lt (b:=x) (i:=16) (by omega) y;rw[Nat.shiftLeft_eq] at this;exact this.symm);rw[f,fW];omega
def e8 (p:List Int):aF:=gH ⟨1,0⟩ p
theorem lI {p:List Int} (a:aT p):jE (e8 p):=pa ⟨⟨by decide,by decide⟩,⟨by decide,by decide⟩⟩ a
theorem rU (p:List Int) (b:Int):e8 (p++[b])=mR (e8 p) b:=by simp[e8,gH]
theorem s5 {p:List Int} (a:aT p) (b:p.length<2^30):ed p=some (gG (fF (e8 p)) 4):=by unfold ed;have b:=lI a;rw[aQ (s0:=(1,0,0)) (r:=((e8 p).a,(e8 p).b)) (λi=>((e8 (p.take i)).a,(e8 (p.take i)).b,(i:Int))) 0 p.length (xf _) ?_ ?_ rfl];simp only[aC];obtain⟨⟨d,f⟩,⟨h,j⟩⟩:=b;rw[bA (x:=(e8 p).b*65536) (by omega),bA (by omega),qo (z:=4) (k:=4) rfl (by omega),s4 ⟨⟨d,f⟩,⟨h,j⟩⟩];rfl;intro i _ b;have k:decide ((i:Int)<(p.length:Int))=true:=wg (by omega);simp only[k,wd];rw[aI rfl b];have l:=fj a i;have c:=lI (eh a i);(have e:p.take (i+1)=p.take i++[p.getD i 0]:=by rw[xd b];simp[b]);rw[e,rU,(oZ c l).1];obtain⟨⟨d,f⟩,⟨h,j⟩⟩:=c;have a:=lH (x:=(e8 (p.take i)).a+p.getD i 0) (by omega);simp only[aC];rw[bA (x:=p.getD i 0) (by omega),bA (x:=(e8 (p.take i)).a+p.getD i 0) (by omega),bA (x:=(e8 (p.take i)).b+_) (by omega),bA (by omega)];rfl;have k:decide ((p.length:Int)<(p.length:Int))=false:=wk (by omega);simp only[k,wc,w5]
theorem qp:∀cs:List (List Int),(cs.all λc=>c.length==320)=true→(ip cs).length=322*cs.length:=by intro cs;induction cs with|nil=>intro _;rfl|cons c cs a=>intro h;simp only[zo,wq,yb] at h;have:=a h.2;simp only[ip] at this;simp[ip,gj,this,h.1];omega
theorem fX {p q:List Int} (a:aT p) (c:aT q):aT (p++q):=λb h=>(w6.1 h).elim (a b) (c b)
theorem pc (h:aB) (n:Nat):aT (j9 h n):=by unfold j9;refine fX (fX (fX (fX (λb a=>?_) (λb a=>?_)) (fY _ _)) (fY _ _)) (fY _ _);simp only[yc,List.not_mem_nil,or_false] at a;omega;simp only[yc,List.not_mem_nil,or_false] at a;rcases a with rfl|rfl;omega;exact io _
theorem pe {cs:List (List Int)} (a:∀c∈cs,aT c):aT (ip cs):=by intro b h;simp only[ip,List.mem_flatten,xj] at h;obtain⟨l,⟨c,d,rfl⟩,e⟩:=h;rcases w6.1 e with e|e;exact fY _ _ b e;exact a c d b e
theorem mQ {p:List Int} {b:Int} (a:p.length≤6∨bR p<2^55) (a:aT p) (h:0≤b∧b≤255) (c:p.length≤7):bR (p++[b])=bR p*256+b:=by obtain⟨v,d,c⟩:=eg p.length p rfl (by omega) a;(have a:v<2^56:=by have:256^p.length≤256^7:=zf (by omega) (by omega);omega);obtain⟨c,rfl⟩:∃c:Nat,b=c:=⟨b.toNat,by omega⟩;(have e:bR (p++[(c:Int)])=kC .u64 (c5 .u64 (bR p) 8) (wrap .u64 (c:Int)):=by unfold bR;rw[yl];rfl);rw[e,d,nQ a (by omega)];omega
theorem j8 {p:List Int} (a:aT p) (b:p.length≤8):0≤bR p∧bR p<((256^p.length:Nat):Int):=by obtain⟨v,c,c⟩:=eg p.length p rfl b a;omega
def hZ (w:List Int):Int:=bif decide (w.length=8)&&decide (bR (w.take 7)≥36028797018963968) then -1 else bR w
theorem ia {raw:List Int} {z y:Int} {a k:Nat} (b:z=a) (c:y=k) (d:k≤8) (d:1≤k) (d:a+k≤raw.length) (d:raw.length<2^30) (d:aT raw):aZ raw z y=some (hZ ((raw.drop a).take k)):=by
 subst b c
 have b:((raw.drop a).take k).length=k:=by simp;omega
 have c:aT ((raw.drop a).take k):=eh (iT d a) k
 have d:∀i,i<k→raw.getD (a+i) 0=((raw.drop a).take k).getD i 0:=λi f=>by
  simp[List.getD,w8,wT,f]
 generalize (raw.drop a).take k=w at*
 have V:=λi (f:i≤k)=>j8 (p:=w.take i) (eh c i) (by simp;omega)
 have h:∀i,i≤k→(w.take i).length=i:=λi f=>by simp;omega
 have step:∀i,i<k→bR (w.take i)<2^55→bR (w.take (i+1))=bR (w.take i)*256+w.getD i 0:=λi f j=>by
  have e:w.take (i+1)=w.take i++[w.getD i 0]:=by rw[xd (by omega)];simp[b,f]
  rw[e]
  exact mQ (.inr j) (eh c i) (fj c i) (by rw[h i (by omega)];omega)
 have b:∀i,i≤6→i≤k→bR (w.take i)<2^55:=λi e f=>by
  have:=(V i f).2
  rw[h i f] at this
  have h:256^i≤256^6:=zf (by omega) e
  omega
 unfold aZ
 have l:wrap .i64 ((a:Int)+(k:Int))=(a:Int)+(k:Int):=bA (by omega)
 rw[l]
 have nx : ∀ i, i < k → bR (w.take i) < 2 ^ 55 → (bif decide (((a : Int) + (i : Int)) < (a : Int) + (k : Int)) then
      bif decide (bR (w.take i)≥36028797018963968) then
       some (.done (.inr (-1)))
      else
       (idx raw ((a:Int)+(i:Int))).bind λl=>
       some (.next (wrap .i64 ((wrap .i64 (bR (w.take i)*256))+(wrap .i64 l)),wrap .i64 ((a:Int)+(i:Int)+1)))
    else
      some (.done (.inl (bR (w.take i)))) : Option (j_ (Int × Int) (Int ⊕ Int))) = some (.next (bR (w.take (i + 1)), (a : Int) + ((i + 1 : Nat) : Int))) := λi f j => by
  have l:decide (((a:Int)+(i:Int))<(a:Int)+(k:Int))=true:=wg (by omega)
  have h:decide (bR (w.take i)≥36028797018963968)=false:=wk (by omega)
  rw[l,h,wd,wc,aI (i:=a+i) (by omega) (by omega),d i f]
  simp only[aC]
  have d:=fj c i
  have c:=(V i (by omega)).1
  rw[bA (x:=bR (w.take i)*256) (by omega),bA (x:=w.getD i 0) (by omega),bA (x:=bR (w.take i)*256+_) (by omega),bA (by omega),step i f j]
  congr 3
 cases c:decide (w.length=8)&&decide (bR (w.take 7)≥36028797018963968) with
 |false=>
  have d:∀i,i<k→bR (w.take i)<2^55:=λi f=>by
    by_cases e:i≤6
    · exact b i e (by omega)
    · have:i=7:=by omega
      subst this
      have e:w.length=8:=by omega
      rw[wg e,yT] at c
      have:=wt c
      omega
  rw[aQ (s0:=(0,(a:Int))) (r:=Sum.inl (bR w)) (λi=>(bR (w.take i),(a:Int)+(i:Int))) 0 k (xf _) (λi _ f=>nx i f (d i f)) ?_ ?_]
  · simp only[aC,hZ,c,wc]
  · have l:decide (((a:Int)+(k:Int))<(a:Int)+(k:Int))=false:=wk (by omega)
    have:w.take k=w:=wn (by omega)
    simp only[l,wc,this]
  · simp[bR]
 |true=>
  rw[wq,wz,wz] at c
  obtain⟨d,h⟩:=c
  have e:k=8:=by omega
  rw[aQ (s0:=(0,(a:Int))) (r:=Sum.inr (-1)) (λi=>(bR (w.take i),(a:Int)+(i:Int))) 0 7 (xf _) (λi _ f=>nx i (by omega) (b i (by omega) (by omega))) ?_ ?_]
  · simp only[aC,hZ,d,decide_true,yT,wg h,wd]
  · have l:decide (((a:Int)+((7:Nat):Int))<(a:Int)+(k:Int))=true:=wg (by omega)
    simp only[l,wd,wg h]
  · simp[bR]
end Go.Proofs.YtkjlhdndbdenaaaGreatDoor

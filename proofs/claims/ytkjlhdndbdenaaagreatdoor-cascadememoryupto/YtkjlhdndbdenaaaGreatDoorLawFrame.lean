import Derived.Test.YtkjlhdndbdenaaaGreatDoorLawRiff
import Derived.Test.YtkjlhdndbdenaaaGreatDoorLawPeel
set_option autoImplicit true
set_option relaxedAutoImplicit true
set_option linter.all false
set_option maxRecDepth 20000
namespace Go.Proofs.YtkjlhdndbdenaaaGreatDoor
open Go Go.Sim
open Go.IntKind (wrap)
variable [Fu]
def gG (v:Int) (k:Nat):List Int:=(List.range k).map λj=>wrap .u8 (cv .u64 v ((8*(k - 1 - j):Nat):Int))
theorem gj (v:Int) (k:Nat):(gG v k).length=k:=by simp[gG]
theorem fL {x:List Int} {v z:Int} {k:Nat} (a:z=k) (b:k≤8) (b:x.length<2^31):cp x v z=some (x++gG v k):=by subst a;unfold cp;rw[bA (x:=(k:Int) - 1) (by omega)];rw[aQ (s0:=(x,(k:Int) - 1)) (r:=x++gG v k) (λi=>(x++(List.range i).map (λj=>wrap .u8 (cv .u64 v ((8*(k - 1 - j):Nat):Int))),(k:Int) - 1 - (i:Int))) 0 k (xf _) ?_ ?_ ?_];rfl;intro i _ a;have a:decide ((k:Int) - 1 - (i:Int)≥0)=true:=wg (by omega);(have e:(k:Int) - 1 - (i:Int)=((k - 1 - i:Nat):Int):=by omega);(have b:wrap .i64 (8*((k:Int) - 1 - (i:Int)))=((8*(k - 1 - i):Nat):Int):=by rw[bA (by omega)];omega);have c:decide (0≤((8*(k - 1 - i):Nat):Int))=true:=wg (by omega);simp only[a,b,c,wd];rw[bb (by rw[fm];simp;omega)];simp only[aC];rw[wM,pv (λj=>wrap .u8 (cv .u64 v ((8*(k - 1 - j):Nat):Int))),bA (by omega)];congr 3;omega;have a:decide ((k:Int) - 1 - (k:Int)≥0)=false:=wk (by omega);simp only[a,wc,gG];simp
theorem ux (x:List Int) (v k:Int):bV x v k=cp x v k:=rfl
def bR (p:List Int):Int:=p.foldl (λv b=>kC .u64 (c5 .u64 v 8) (wrap .u64 b)) 0
theorem lJ {p:List Int} (h:p.length<2^30):dL p=some (bR p):=by unfold dL;rw[aQ (s0:=(0,0)) (r:=bR p) (λi=>((p.take i).foldl (λv b=>kC .u64 (c5 .u64 v 8) (wrap .u64 b)) 0,(i:Int))) 0 p.length (xf _) ?_ ?_ rfl];rfl;intro i _ a;have b:decide ((i:Int)<(p.length:Int))=true:=wg (by omega);simp only[b,wd];rw[aI rfl a,bA (by omega)];simp only[aC];rw[xd a,yl];simp[List.getD,a];have b:decide ((p.length:Int)<(p.length:Int))=false:=wk (by omega);simp only[b,wc,w5,bR]
def mR (s:aF) (b:Int):aF:=({({s with a:=Int.tmod (wrap .u32 (s.a+(wrap .u32 b))) 65521}:aF) with b:=Int.tmod (wrap .u32 ((({s with a:=Int.tmod (wrap .u32 (s.a+(wrap .u32 b))) 65521}:aF).b)+(({s with a:=Int.tmod (wrap .u32 (s.a+(wrap .u32 b))) 65521}:aF).a))) 65521}:aF)
def gH (s:aF) (p:List Int):aF:=p.foldl mR s
theorem kT (s:aF) (p q:List Int):gH s (p++q)=gH (gH s p) q:=by simp[gH,yl]
theorem nP {s:aF} {p:List Int} (h:p.length<2^30):dS s p=some (gH s p):=by unfold dS;rw[aQ (s0:=(0,s)) (r:=gH s p) (λi=>((i:Int),gH s (p.take i))) 0 p.length (xf _) ?_ ?_ rfl];rfl;intro i _ hi;have h1:decide ((i:Int)<(p.length:Int))=true:=wg (by omega);simp only[h1,wd];rw[aI rfl hi,bA (by omega)];simp only[aC];rw[xd hi,kT];(have e:p.getD i 0=p[i]:=by simp[List.getD,hi]);rw[e];rfl;have h1:decide ((p.length:Int)<(p.length:Int))=false:=wk (by omega);simp only[h1,wc,w5]
def fF (s:aF):Int:=kC .u32 (c5 .u32 s.b 16) s.a
theorem jc (s:aF):0≤fF s∧fF s<4294967296:=by (have:∀x:Int,0≤IntKind.u32.wrap x∧IntKind.u32.wrap x<4294967296:=λx=>by rw[fW];omega);exact this _
theorem nQ {v b:Nat} (a:v<2^56) (a:b<256):kC .u64 (c5 .u64 (v:Int) 8) (wrap .u64 (b:Int))=((v*256+b:Nat):Int):=by (have c:c5 .u64 (v:Int) 8=((v*256:Nat):Int):=by show IntKind.u64.wrap ((v:Int)*256)=_;rw[eX (by omega)];omega);rw[c,eX (by omega)];unfold kC;(have c:(BitVec.ofInt IntKind.u64.bits ((v*256:Nat):Int)|||BitVec.ofInt IntKind.u64.bits (b:Int)).toNat=v*256+b:=by show(BitVec.ofInt 64 ((v*256:Nat):Int)|||BitVec.ofInt 64 (b:Int)).toNat=_;rw[BitVec.toNat_or,xM,xM];(have d:((((v*256:Nat):Int))%((2^64:Nat):Int)).toNat=v*256:=by omega);(have e:(((b:Int))%((2^64:Nat):Int)).toNat=b:=by omega);rw[d,e];have:=Nat.shiftLeft_add_eq_or_of_lt (b:=b) (i:=8) (by simpa using a) v;rw[Nat.shiftLeft_eq] at this;exact this.symm);rw[c,eX (by omega)]
theorem mS (v:Nat) (k:Nat) (a:k<8):gG (v:Int) (k+1)=gG ((v / 256:Nat):Int) k++[((v%256:Nat):Int)]:=by (have a:∀(x s:Nat),s≤64→wrap .u8 (cv .u64 (x:Int) (s:Int))=((x / 2^s%256:Nat):Int):=λx s b=>by rw[wA];unfold cv;(have e:min ((s:Int).toNat) (IntKind.u64.bits)=s:=by have:IntKind.u64.bits=64:=rfl;rw[this,wl];omega);rw[e];(have:((x:Int)).fdiv (2^s)=((x / 2^s:Nat):Int):=by rw[show((2:Int)^s)=((2^s:Nat):Int) by simp];rw[Int.fdiv_eq_ediv_of_nonneg _ (Int.natCast_nonneg _)];rfl);rw[this];omega);unfold gG;rw[yX,xz];congr 1;apply xm;intro j b;have b:=xy.1 b;rw[a _ _ (by omega),a _ _ (by omega),Nat.div_div_eq_div_mul];congr 2;rw[show(256:Nat)=2^8 by rfl,←Nat.pow_add];congr 2;omega;simp only[wS,x7];rw[a _ _ (by omega)];congr 2;simp
theorem pf:∀(k v:Nat),k≤8→v<256^k→v<2^63→bR (gG (v:Int) k)=(v:Int)|0,v,_,h,_=>by (have:v=0:=by simpa using h);subst this;rfl|k+1,v,hk,h,a=>by have ih:=pf k (v / 256) (by omega) (by rw[Nat.pow_succ] at h;omega) (by omega);rw[mS v k (by omega)];unfold bR at ih⊢;rw[yl,ih];simp only[zh,List.foldl_nil];rw[nQ (by omega) (by omega)];congr 1;omega
theorem fY (v:Int) (k:Nat):aT (gG v k):=by intro b a;obtain⟨j,_,rfl⟩:=xj.1 a;exact io _
def lK (h:aB):Bool:=((((((decide (h.Left≥0))&&(decide (h.Left≤8)))&&(decide (h.Round≥0)))&&(decide (h.Round≤4611686018427387903)))&&(decide (h.Epoch≥0)))&&(decide (h.Epoch≤4611686018427387904)))
def j9 (h:aB) (n:Nat):List Int:=[67,72,82,78]++[1,wrap .u8 h.Left]++gG (n:Int) 2++gG h.Round 8++gG h.Epoch 8
def ip (cs:List (List Int)):List Int:=(cs.map λc=>gG 320 2++c).flatten
def C9 (h:aB) (cs:List (List Int)):aF:=gH ⟨1,0⟩ (j9 h cs.length++ip cs)
def vQ (b:aP):List Int:=j9 b.Header b.Cells.length++ip b.Cells++gG (fF (C9 b.Header b.Cells)) 4
def gy (b:aP):List Int×Int:=bif !lK b.Header then([],62) else bif decide ((b.Cells.length:Int)>256) then([],63) else bif b.Cells.all λc=>c.length==320 then(vQ b,0) else([],64)
theorem mT (h:aB) (n:Nat):(j9 h n).length=24:=by simp[j9,gj]
def q8 (_:Nat) (x:List Int) (c:List Int):Option (List Int):=bif c.length==320 then some (x++(gG 320 2++c)) else none
theorem lL:∀(cs:List (List Int)) (i:Nat) (x:List Int),jY q8 i x cs=bif cs.all λc=>c.length==320 then some (x++ip cs) else none|[],i,x=>by simp[jY,ip]|c::cs,i,x=>by simp only[jY,q8,zo];cases a:(c.length==320) with|false=>rfl|true=>simp only[wd,yT];rw[lL cs];simp[ip]
theorem qq (b:aP):fJ b=some (gy b):=by unfold fJ gO gy;simp only[aC];show(bif !lK b.Header then _ else _)=_;cases a: !lK b.Header with|true=>rfl|false=>(have a:lK b.Header=true:=by simpa using a);simp only[lK,wq,wz] at a;obtain⟨⟨⟨⟨⟨f1,f2⟩,f3⟩,f4⟩,f5⟩,f6⟩:=a;rw[wc,wc];cases a:decide ((b.Cells.length:Int)>256) with|true=>rfl|false=>have a:=wt a;rw[wc,wc,bA (x:=(b.Cells.length:Int)*322) (by omega),bA (x:=24+(b.Cells.length:Int)*322) (by omega),bA (x:=24+(b.Cells.length:Int)*322+4) (by omega)];(have g:mA 0 (24+(b.Cells.length:Int)*322+4)=true:=by unfold mA;rw[vW];simp;omega);have a:List.replicate (Int.toNat 0) (0:Int)=[]:=rfl;rw[g,wd,a,bb (by rw[fm];simp)];simp only[aC,wQ];rw[bb (by rw[fm];simp)];simp only[aC,ux];rw[eX (x:=(b.Cells.length:Int)) (by omega),eX (x:=b.Header.Round) (by omega),eX (x:=b.Header.Epoch) (by omega)];rw[fL (z:=2) (k:=2) rfl (by omega) (by simp)];simp only[aC];rw[fL (z:=8) (k:=8) rfl (by omega) (by simp[gj])];simp only[aC];rw[fL (z:=8) (k:=8) rfl (by omega) (by simp[gj])];simp only[aC];have a:[67,72,82,78]++[1,wrap .u8 b.Header.Left]++gG (b.Cells.length:Int) 2++gG b.Header.Round 8++gG b.Header.Epoch 8=j9 b.Header b.Cells.length:=rfl;rw[a];have a:=mT b.Header b.Cells.length;rw[(sV (λ(i:Nat) (x:List Int)=>(x,(i:Int))) q8 b.Cells (λi r x=>x.length=24+322*i) (λx=>Sum.inl x) (Sum.inr (([],64):List Int×Int)) ?_ ?_ (j9 b.Header b.Cells.length) (by rw[a]) ?_).1];rw[lL];(cases d:b.Cells.all λc=>c.length==320 with|false=>rfl|true=>(have e:∀cs:List (List Int),(cs.all λc=>c.length==320)=true→(ip cs).length=322*cs.length:=by intro cs;induction cs with|nil=>intro _;rfl|cons c cs f=>intro h;simp only[zo,wq,yb] at h;have:=f h.2;simp only[ip] at this;simp[ip,gj,this,h.1];omega);have f:=e _ d;simp only[wd,aC];rw[nP (by rw[wi,f,a];omega)];simp only[aC,cT];have d:=jc (C9 b.Header b.Cells);show((cp _ (wrap .u64 (fF (C9 b.Header b.Cells))) 4).bind _)=_;rw[eX (by omega),fL (z:=4) (k:=4) rfl (by omega) (by rw[wi,f,a];omega)];rfl);intro i c r x a a d I;have e:decide ((i:Int)<(b.Cells.length:Int))=true:=wg (by omega);(have j:b.Cells.getD i []=c:=by simp[List.getD,d]);simp only[e,wd,q8];rw[fK (i:=i) [] rfl a,j];simp only[aC];(have f:((c.length:Int) != 320)= !(c.length==320):=by rw[wY];simp;omega);rw[f];(cases a:(c.length==320) with|false=>exact⟨λ_=>rfl,λy d=>(by cases d)⟩|true=>(have a:c.length=320:=by simpa using a);refine⟨λh=>(by cases h),λy d=>?_⟩;cases d;simp only[yV,wc];rw[fL (z:=2) (k:=2) rfl (by omega) (by omega)];simp only[aC];rw[bb (by rw[fm];simp[gj];omega),bA (by omega)];refine⟨by simp,by simp[gj,I,a];omega⟩);intro x I;have e:decide ((b.Cells.length:Int)<(b.Cells.length:Int))=false:=wk (by omega);simp only[e,wc];rfl
end Go.Proofs.YtkjlhdndbdenaaaGreatDoor
set_option maxRecDepth 20000
set_option maxHeartbeats 1000000
namespace Go.Proofs.YtkjlhdndbdenaaaGreatDoor
open Go Go.Sim
open Go.IntKind (wrap)
variable [Fu]
theorem eg:∀(n:Nat) (p:List Int),p.length=n→n≤8→aT p→∃v:Nat,bR p=v∧v<256^n|0,p,h,_,_=>by have:p=[]:=wR h;subst this;exact⟨0,rfl,by simp⟩|n+1,p,h,hn,hb=>by (have a:p≠[]:=by intro e;subst e;simp at h);have hp:p=p.dropLast++[p.getLast a]:=(List.dropLast_concat_getLast a).symm;obtain⟨v,h1,h2⟩:=eg n p.dropLast (by simp[h]) (by omega) (λb c=>hb b (List.dropLast_subset p c));have hl:=hb _ (List.getLast_mem a);obtain⟨b,d⟩:∃b:Nat,p.getLast a=b:=⟨(p.getLast a).toNat,by omega⟩;(have f:v<2^56:=by have:256^n≤256^7:=zf (by omega) (by omega);omega);refine⟨v*256+b,?_,by rw[Nat.pow_succ];omega⟩;rw[hp];unfold bR at h1⊢;rw[yl,h1,d];simp only[zh,List.foldl_nil];exact nQ f (by omega)
def uJ (h:aB):Prop:=(0≤h.Left∧h.Left≤8)∧(0≤h.Round∧h.Round≤4611686018427387903)∧(0≤h.Epoch∧h.Epoch≤4611686018427387904)
def aY (i:Nat):Nat:=[4,1,1,2,8,8,2,320,4,1].getD i 0
theorem gm {i:Nat} (h:i<10):1≤aY i∧aY i≤320∧idx [4,1,1,2,8,8,2,320,4,1] (i:Int)=some (aY i:Int):=by match i,h with|0,_=>exact⟨by decide,by decide,rfl⟩|1,_=>exact⟨by decide,by decide,rfl⟩|2,_=>exact⟨by decide,by decide,rfl⟩|3,_=>exact⟨by decide,by decide,rfl⟩|4,_=>exact⟨by decide,by decide,rfl⟩|5,_=>exact⟨by decide,by decide,rfl⟩|6,_=>exact⟨by decide,by decide,rfl⟩|7,_=>exact⟨by decide,by decide,rfl⟩|8,_=>exact⟨by decide,by decide,rfl⟩|9,_=>exact⟨by decide,by decide,rfl⟩
def Trans (i:Nat) (l:Int) (j a:Int):Prop:=(i=3→0≤a∧a≤256)∧(i=7→a=l - 1)∧(i≠3→i≠7→a=l)∧(i=5∨i=7→(a=0∧j=8)∨(a≠0∧j=6))∧(i≠5→i≠7→j=(i:Int)+1)∧i≠9
theorem pg {f:aL} {i:Nat} (a:f.stage=i) (h:i<10) (c:f.field.length=aY i) (d:aT f.field) (j:uJ f.header) (b:0≤f.left∧f.left≤256):
   ∃r,bj f=some r∧r.2.field=f.field∧r.2.at_=f.at_∧(r.1=0→uJ r.2.header∧Trans i f.left r.2.stage r.2.left):=by
 unfold bj
 have b:=gm h
 have b:f.field.length<2^30:=by omega
 rw[lJ b,nP b]
 simp only[aC,cT]
 have b:∀k:Nat,(((i:Nat):Int)==((k:Nat):Int))=decide (i=k):=λk=>by
   rw[wY];simp only[yb,wz];omega
 rw[a]
 have a:(((i:Nat):Int)==0)=decide (i=0):=b 0
 have e:(((i:Nat):Int)==1)=decide (i=1):=b 1
 have l:(((i:Nat):Int)==2)=decide (i=2):=b 2
 have m:(((i:Nat):Int)==3)=decide (i=3):=b 3
 have n:(((i:Nat):Int)==4)=decide (i=4):=b 4
 have o:(((i:Nat):Int)==5)=decide (i=5):=b 5
 have p:(((i:Nat):Int)==6)=decide (i=6):=b 6
 have q:(((i:Nat):Int)==7)=decide (i=7):=b 7
 have s:(((i:Nat):Int)==8)=decide (i=8):=b 8
 have t:(((i:Nat):Int)==9)=decide (i=9):=b 9
 rw[a,e,l,m,n,o,p,q,s,t]
 have a:wrap .i64 ((i:Int)+1)=(i:Int)+1:=bA (by omega)
 rw[a]
 have m:∀(l:Int) (a:aB),i≠9→uJ a→(i=3→0≤l∧l≤256)→(i=7→l=f.left - 1)→(i≠3→i≠7→l=f.left)→i≠8→∃r:Int×aL,(((bif (((i:Int)+1)==6)||(((i:Int)+1)==8) then
        bif l==0 then
         some 8
        else
         some 6
       else
        some ((i:Int)+1)
        :Option Int)).bind λb=>
       some ((0:Int),(⟨f.field,f.at_,b,l,a,gH f.sum f.field,f.err,f.place⟩:aL)))=some r∧r.2.field=f.field∧r.2.at_=f.at_∧(r.1=0→uJ r.2.header∧Trans i f.left r.2.stage r.2.left):=by
   intro l a n o p q s a
   by_cases t:i=5∨i=7
   · have e:((((i:Int)+1)==6)||(((i:Int)+1)==8))=true:=by simp;omega
     rw[e,wd]
     by_cases u:l=0
     · have v:(l==0)=true:=by simpa using u
       rw[v]
       exact⟨_,rfl,rfl,rfl,λ_=>⟨o,p,q,s,λ_=> .inl ⟨u,rfl⟩,λa b=>by omega,n⟩⟩
     · have v:(l==0)=false:=by simpa using u
       rw[v]
       exact⟨_,rfl,rfl,rfl,λ_=>⟨o,p,q,s,λ_=> .inr ⟨u,rfl⟩,λa b=>by omega,n⟩⟩
   · have e:((((i:Int)+1)==6)||(((i:Int)+1)==8))=false:=by simp;omega
     rw[e]
     exact⟨_,rfl,rfl,rfl,λ_=>⟨o,p,q,s,λa=>absurd a t,λ_ _=>rfl,n⟩⟩
 have b:∀(z:Int×aL),z.1≠0→z.2.field=f.field→z.2.at_=f.at_→∃r,(some z:Option (Int×aL))=some r∧r.2.field=f.field∧r.2.at_=f.at_∧(r.1=0→uJ r.2.header∧Trans i f.left r.2.stage r.2.left):=
   λz l n p=>⟨z,rfl,n,p,λh=>absurd h l⟩
 have D:∀k,i=k→decide (i=k)=true:=λk e=>wg e
 have N:∀k,i≠k→decide (i=k)=false:=λk e=>wk e
 have e:1≤f.field.length:=by omega
 by_cases e:i=8
 · rw[D 8 e,wd]
   cases bR f.field != wrap .u64 (kC .u32 (c5 .u32 f.sum.b 16) f.sum.a) with
   |true=>exact b _ (by simp) rfl rfl
   |false=>exact⟨_,rfl,rfl,rfl,λ_=>⟨j,by omega,by omega,λ_ _=>rfl,by omega,λ_ _=>by rw[e];rfl,by omega⟩⟩
 rw[N 8 e,wc]
 by_cases k:i=0
 · rw[D 0 k,wd]
   cases (cA f.field) != [67,72,82,78] with
   |true=>exact b _ (by simp) rfl rfl
   |false=>exact m _ _ (by omega) j (by omega) (by omega) (λ_ _=>rfl) e
 rw[N 0 k,wc]
 by_cases k:i=1
 · rw[D 1 k,wd,aI (z:=0) (i:=0) rfl (by omega)]
   simp only[aC]
   cases (f.field.getD 0 0) != 1 with
   |true=>exact b _ (by simp) rfl rfl
   |false=>exact m _ _ (by omega) j (by omega) (by omega) (λ_ _=>rfl) e
 rw[N 1 k,wc]
 by_cases k:i=2
 · rw[D 2 k,wd,aI (z:=0) (i:=0) rfl (by omega)]
   simp only[aC]
   have l:=fj d 0
   have n:wrap .i64 (f.field.getD 0 0)=f.field.getD 0 0:=bA (by omega)
   rw[n]
   cases t:decide ((({f.header with Left:=f.field.getD 0 0}:aB).Left)>8) with
   |true=>exact b _ (by simp) rfl rfl
   | false =>
     have t:¬f.field.getD 0 0>8:=wt t
     exact m _ _ (by omega) ⟨⟨l.1,by show f.field.getD 0 0≤8;omega⟩,j.2.1,j.2.2⟩ (by omega) (by omega) (λ_ _=>rfl) e
 rw[N 2 k,wc]
 by_cases k:i=3
 · rw[D 3 k,wd]
   obtain⟨v,l,o⟩:=eg 2 f.field (by rw[c,k];rfl) (by omega) d
   rw[l,bA (by omega)]
   cases t:decide ((v:Int)>256) with
   |true=>exact b _ (by simp) rfl rfl
   | false =>
     have t:=wt t
     exact m _ _ (by omega) j (λ_=>by omega) (by omega) (λa=>absurd k a) e
 rw[N 3 k,wc]
 by_cases k:i=4
 · rw[D 4 k,wd]
   obtain⟨v,l,o⟩:=eg 8 f.field (by rw[c,k];rfl) (by omega) d
   rw[l]
   cases t:decide ((v:Int)>4611686018427387903) with
   |true=>exact b _ (by simp) rfl rfl
   | false =>
     have t:=wt t
     have n:wrap .i64 (v:Int)=v:=bA (by omega)
     rw[n]
     exact m _ _ (by omega) ⟨j.1,⟨by show(0:Int)≤(v:Int);omega,by show(v:Int)≤_;omega⟩,j.2.2⟩ (by omega) (by omega) (λ_ _=>rfl) e
 rw[N 4 k,wc]
 by_cases k:i=5
 · rw[D 5 k,wd]
   obtain⟨v,l,o⟩:=eg 8 f.field (by rw[c,k];rfl) (by omega) d
   rw[l]
   cases t:decide ((v:Int)>4611686018427387904) with
   |true=>exact b _ (by simp) rfl rfl
   | false =>
     have t:=wt t
     have n:wrap .i64 (v:Int)=v:=bA (by omega)
     rw[n]
     exact m _ _ (by omega) ⟨j.1,j.2.1,⟨by show(0:Int)≤(v:Int);omega,by show(v:Int)≤_;omega⟩⟩ (by omega) (by omega) (λ_ _=>rfl) e
 rw[N 5 k,wc]
 by_cases c:i=6
 · rw[D 6 c,wd]
   cases bR f.field != 320 with
   |true=>exact b _ (by simp) rfl rfl
   |false=>exact m _ _ (by omega) j (by omega) (by omega) (λ_ _=>rfl) e
 rw[N 6 c,wc]
 by_cases c:i=7
 · rw[D 7 c,wd]
   exact m _ _ (by omega) j (by omega) (λ_=>bA (by omega)) (λ_ a=>absurd c a) e
 rw[N 7 c,wc]
 have a:i=9:=by omega
 rw[D 9 a,wd]
 exact b _ (by simp) rfl rfl
end Go.Proofs.YtkjlhdndbdenaaaGreatDoor
set_option maxRecDepth 20000
set_option maxHeartbeats 1000000
namespace Go.Proofs.YtkjlhdndbdenaaaGreatDoor
open Go Go.Sim
open Go.IntKind (wrap)
variable [Fu]
def p7 (cs:List (List Int)):Prop:=∀x∈cs,x.length=320∧aT x
def ic (j:Nat) (l:Int) (c:Nat):Prop:=(j≤3→c=0∧l=0)∧(j=4∨j=5→c=0∧0≤l∧l≤256)∧(j=6∨j=7→1≤l∧(c:Int)+l≤256)∧(8≤j→c≤256∧l=0)
theorem ic.left {j c:Nat} {l:Int} (h:ic j l c):0≤l∧l≤256:=by obtain⟨b,d,e,f⟩:=h;by_cases a:j≤3;have:=b a;omega;by_cases b:j=4∨j=5;have:=d b;omega;by_cases d:j=6∨j=7;have:=e d;omega;have:=f (by omega);omega
theorem ic.next {i c:Nat} {l a b:Int} (d:i<10) (h:ic i l c) (t:Trans i l a b):∃j:Nat,j<10∧a=j∧ic j b (if i=7 then c+1 else c):=by obtain⟨a,b,e,f⟩:=h;obtain⟨t3,t7,tn,k,m,t9⟩:=t;match i,d with|0,_=>exact⟨1,by omega,by simpa using m (by omega) (by omega),λ_=>by have:=a (by omega);have:=tn (by omega) (by omega);simp;omega,by omega,by omega,by omega⟩|1,_=>exact⟨2,by omega,by simpa using m (by omega) (by omega),λ_=>by have:=a (by omega);have:=tn (by omega) (by omega);simp;omega,by omega,by omega,by omega⟩|2,_=>exact⟨3,by omega,by simpa using m (by omega) (by omega),λ_=>by have:=a (by omega);have:=tn (by omega) (by omega);simp;omega,by omega,by omega,by omega⟩|3,_=>exact⟨4,by omega,by simpa using m (by omega) (by omega),by omega,λ_=>by have:=a (by omega);have:=t3 rfl;simp;omega,by omega,by omega⟩|4,_=>exact⟨5,by omega,by simpa using m (by omega) (by omega),by omega,λ_=>by have:=b (by omega);have:=tn (by omega) (by omega);simp;omega,by omega,by omega⟩|5,_=>have:=b (by omega);have:=tn (by omega) (by omega);rcases k (by omega) with⟨a,b⟩|⟨a,b⟩;exact⟨8,by omega,b,by omega,by omega,by omega,λ_=>by simp;omega⟩;exact⟨6,by omega,b,by omega,by omega,λ_=>by simp;omega,by omega⟩|6,_=>exact⟨7,by omega,by simpa using m (by omega) (by omega),by omega,by omega,λ_=>by have:=e (by omega);have:=tn (by omega) (by omega);simp;omega,by omega⟩|7,_=>have:=e (by omega);have:=t7 rfl;rcases k (by omega) with⟨a,b⟩|⟨a,b⟩;exact⟨8,by omega,b,by omega,by omega,by omega,λ_=>by simp;omega⟩;exact⟨6,by omega,b,by omega,by omega,λ_=>by simp;omega,by omega⟩|8,_=>exact⟨9,by omega,by simpa using m (by omega) (by omega),by omega,by omega,by omega,λ_=>by have:=f (by omega);have:=tn (by omega) (by omega);simp;omega⟩|9,_=>exact absurd rfl t9
structure Fk (n:Nat) (r:(List (List Int))×(List Int)×Int×Int×Int×aB×aF×Int×Int):Prop where
 ok:r.2.2.2.2.2.2.2.1=0→uJ r.2.2.2.2.2.1∧r.1.length≤256∧p7 r.1∧0≤r.2.2.1∧r.2.2.1≤n
 bad:r.2.2.2.2.2.2.2.1≠0→0≤r.2.2.2.2.2.2.2.2∧r.2.2.2.2.2.2.2.2≤n
theorem rV {raw:List Int} (a:raw.length<2^30) (c:aT raw): ∃r,cL ⟨[],0,0,0,⟨0,0,0⟩,⟨1,0⟩,0,0⟩ raw=some r∧(r.2.1=0→uJ r.2.2.header∧r.1.length≤256∧p7 r.1∧0≤r.2.2.at_∧r.2.2.at_≤raw.length)∧(r.2.1≠0→0≤r.2.2.place∧r.2.2.place≤raw.length)∧r.2.2.err=r.2.1:=by unfold cL;obtain⟨r,e,f⟩:=gd (S:=((List Int)×(List (List Int))×(List Int)×Int×Int×Int×aB×aF×Int×Int)) (R:=((List (List Int))×(List Int)×Int×Int×Int×aB×aF×Int×Int)) (P:=λs=>aT s.1∧p7 s.2.1∧s.2.2.1=[]∧s.2.2.2.1+(s.1.length:Int)=(raw.length:Int)∧0≤s.2.2.2.1∧s.2.2.2.2.2.2.2.2.1=0∧∃j:Nat,j<10∧s.2.2.2.2.1=j∧uJ s.2.2.2.2.2.2.1∧ic j s.2.2.2.2.2.1 s.2.1.length) (Q:=Fk raw.length) (λs=>s.1.length) (step:=(λ(a,b,d,h,i,k,l,m,n,o)=>bif n==0 then (bz (⟨d,h,i,k,l,m,n,o⟩:aL)).bind λp=>bif decide ((wrap .i64 (p - (d.length:Int)))>(a.length:Int)) then (app d a).bind λq=>some (.done (b,q,wrap .i64 (h+(a.length:Int)),i,k,l,m,n,o)) else (sub a 0 (wrap .i64 (p - (d.length:Int)))).bind λq=>(app d q).bind λq=>(sub a (wrap .i64 (p - (d.length:Int))) (a.length:Int)).bind λa=>((bif i==7 then (bZ q).bind λt=>(app b [t]).bind λu=>some u else some b :Option (List (List Int)))).bind λv=>(bj (⟨q,wrap .i64 (h+(wrap .i64 (p - (d.length:Int)))),i,k,l,m,n,o⟩:aL)).bind λp=>bif p.1 != 0 then some (.done (v,p.2.field,p.2.at_,p.2.stage,p.2.left,p.2.header,p.2.sum,p.1,wrap .i64 (p.2.at_ - (p.2.field.length:Int)))) else bif decide ((0:Int)≤0∧(0:Int)≤0∧(0:Int)≤(p.2.field.length:Int)) then some (.next (a,v,List.take (Int.toNat 0) p.2.field,p.2.at_,p.2.stage,p.2.left,p.2.header,p.2.sum,p.1,p.2.place)) else none else some (.done (b,d,h,i,k,l,m,n,o)):_→Option (j_ _ _))) (s:=(raw,[],[],0,0,0,⟨0,0,0⟩,⟨1,0⟩,0,0)) (λs a=>by obtain⟨i,k,b,at_,b,left,l,n,b,o⟩:=s;obtain⟨p1,p,b,d,h,m,j,q,s,v,x⟩:=a;simp only at p1 p b d h m s v x;subst b;subst m;subst s;obtain⟨a,a,h⟩:=gm q;have s:=x.left;(have w:k.length≤256:=by obtain⟨y,z,m,A⟩:=x;by_cases a:j≤3;have:=y a;omega;by_cases b:j=4∨j=5;have:=z b;omega;by_cases d:j=6∨j=7;have:=m d;omega;have:=A (by omega);omega);(have a:bz (⟨[],at_,(j:Int),left,l,n,0,o⟩:aL)=some (aY j:Int):=by unfold bz;simp only;rw[h];rfl);have b:((0:Int)==0)=true:=rfl;simp only[b,wd];rw[a];simp only[aC,xc];(have a:∀m:Int,m - ((0:Nat):Int)=m:=λm=>by simp);have b:wrap .i64 (aY j:Int)=(aY j:Int):=bA (by omega);simp only[a,b];cases a:decide ((aY j:Int)>(i.length:Int)) with|true=>left;simp only[wd];rw[bb (by rw[fm];simp;omega)];refine⟨_,rfl,λ_=>⟨v,w,p,?_,?_⟩,λh=>absurd rfl h⟩;show 0≤wrap .i64 (at_+(i.length:Int));rw[bA (by omega)];omega;show wrap .i64 (at_+(i.length:Int))≤_;rw[bA (by omega)];omega|false=>have b:=wt a;simp only[wc];rw[mZ (h:=(aY j:Int)) (j:=aY j) rfl (by omega)];simp only[aC];(have a:(i.take (aY j)).length=aY j:=by rw[wx];omega);have b:aT (i.take (aY j)):=eh p1 _;rw[bb (by rw[fm];simp;omega)];simp only[aC,wQ];rw[pu (l:=(aY j:Int)) (i:=aY j) rfl (by omega)];simp only[aC];generalize i.take (aY j)=w at*;have d:wrap .i64 (at_+(aY j:Int))=at_+(aY j:Int):=bA (by omega);rw[d];(have d:(bif (j:Int)==7 then(bZ w).bind λt=>(app k [t]).bind λu=>some u else some k:Option (List (List Int)))=some (if j=7 then k++[w] else k):=by by_cases m:j=7;(have:((j:Int)==7)=true:=by simp;omega);rw[this,wd,pt (by omega),xN m];simp only[aC];rw[bb (by rw[fm];simp;omega)];rfl;(have:((j:Int)==7)=false:=by simp;omega);rw[this,wc,xv m]);rw[d];simp only[aC];obtain⟨r,e,d,t,u⟩:=pg (f:=⟨w,at_+(aY j:Int),(j:Int),left,l,n,0,o⟩) rfl q (by simp only;omega) b v s;rw[e];simp only[aC];simp only at d t u;cases l:(r.1 != 0) with| true =>(have l:r.1≠0:=by simpa using l);left;simp only[wd];refine⟨_,rfl,λh=>absurd h l,λ_=>?_⟩;show 0≤wrap .i64 (r.2.at_ - (r.2.field.length:Int))∧wrap .i64 (r.2.at_ - (r.2.field.length:Int))≤_;rw[t,d,a,bA (by omega)];omega| false =>(have d:r.1=0:=by simpa using l);right;have g:decide ((0:Int)≤0∧(0:Int)≤0∧(0:Int)≤(r.2.field.length:Int))=true:=wg (by omega);obtain⟨h,l⟩:=u d;obtain⟨n,o,s,u⟩:=ic.next q x l;simp only[wc,g,wd];refine⟨_,rfl,⟨iT p1 _,?_,rfl,?_,?_,d,n,o,s,h,?_⟩,?_⟩;show p7 (if j=7 then k++[w] else k);split;rename_i m;intro x d;rcases w6.1 d with d|d;exact p x d;have:=xO.1 d;subst this;exact⟨by rw[a,m];rfl,b⟩;exact p;show r.2.at_+((i.drop (aY j)).length:Int)=_;rw[t,wO];omega;show 0≤r.2.at_;rw[t];omega;show ic n r.2.left (if j=7 then k++[w] else k).length;(have:(if j=7 then k++[w] else k).length=(if j=7 then k.length+1 else k.length):=by split<;>simp);rw[this];exact u;show(i.drop (aY j)).length<i.length;rw[wO];omega) ⟨c,λx d=>(by cases d),rfl,by simp,by simp,rfl,0,by omega,rfl,⟨by simp,by simp,by simp⟩,λ_=>⟨rfl,rfl⟩,by omega,by omega,by omega⟩;rw[e];obtain⟨y,z⟩:=f;exact⟨_,rfl,y,z,rfl⟩
theorem fZ {raw:List Int} (a:raw.length<2^30) (b:aT raw):∃r,dW raw=some r∧(r.2.2=0→uJ r.1.Header∧r.1.Cells.length≤256∧p7 r.1.Cells)∧0≤r.2.1∧r.2.1≤raw.length:=by unfold dW eF;simp only[aC];obtain⟨r,c,d,e,f⟩:=rV a b;rw[c];simp only[aC];cases a:r.2.1==0 with|false=>(have a:r.2.1≠0:=by simpa using a);exact⟨_,rfl,λh=>absurd h a,e a⟩|true=>(have a:r.2.1=0:=by simpa using a);obtain⟨b,c,e,i,j⟩:=d a;simp only[wd];unfold dR;simp only[f,a,xi,wc];cases decide (r.2.2.stage<9) with|true=>refine⟨_,rfl,λh=>?_,i,j⟩;simp at h|false=>exact⟨_,rfl,λ_=>⟨b,c,e⟩,by simp,by simp⟩
end Go.Proofs.YtkjlhdndbdenaaaGreatDoor

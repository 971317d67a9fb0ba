import Derived.Test.YtlkjdchmeihhkaaGreatDoorLawNoise
set_option autoImplicit true
set_option relaxedAutoImplicit true
set_option linter.all false
set_option maxRecDepth 20000
namespace Go.Proofs.YtlkjdchmeihhkaaGreatDoor
open Go Go.Sim
open Go.IntKind (wrap)
variable [Fu]
def cL (v:Int) (k:Nat):List Int:=(List.range k).map λj=>wrap .u8 (co .u64 v ((8*(k - 1 - j):Nat):Int))
theorem dP (v:Int) (k:Nat):(cL v k).length=k:=by simp[cL]
theorem kx {x:List Int} {v z:Int} {k:Nat} (a:z=k) (b:k≤8) (b:x.length<2^31):eP x v z=some (x++cL v k):=by subst a;unfold eP;rw[wrap64 (x:=(k:Int) - 1) (by omega)];rw[cb (s0:=(x,(k:Int) - 1)) (r:=x++cL v k) (λi=>(x++(List.range i).map (λj=>wrap .u8 (co .u64 v ((8*(k - 1 - j):Nat):Int))),(k:Int) - 1 - (i:Int))) 0 k (GX _) ?_ ?_ ?_];rfl;intro i _ a;have a:decide ((k:Int) - 1 - (i:Int)≥0)=true:=Gz (by omega);(have e:(k:Int) - 1 - (i:Int)=((k - 1 - i:Nat):Int):=by omega);(have b:wrap .i64 (8*((k:Int) - 1 - (i:Int)))=((8*(k - 1 - i):Nat):Int):=by rw[wrap64 (by omega)];omega);have c:decide (0≤((8*(k - 1 - i):Nat):Int))=true:=Gz (by omega);simp only[a,b,c,Gy];rw[cf (by rw[fL];simp;omega)];simp only[aF];rw[GW,fU (λj=>wrap .u8 (co .u64 v ((8*(k - 1 - j):Nat):Int))),wrap64 (by omega)];congr 3;omega;have a:decide ((k:Int) - 1 - (k:Int)≥0)=false:=GA (by omega);simp only[a,Gx,cL];simp
theorem Fm (x:List Int) (v k:Int):cu x v k=eP x v k:=rfl
def z1 (p:List Int):Int:=p.foldl (λv b=>nL .u64 (en .u64 v 8) (wrap .u64 b)) 0
theorem lj {p:List Int} (h:p.length<2^30):fY p=some (z1 p):=by unfold fY;rw[cb (s0:=(0,0)) (r:=z1 p) (λi=>((p.take i).foldl (λv b=>nL .u64 (en .u64 v 8) (wrap .u64 b)) 0,(i:Int))) 0 p.length (GX _) ?_ ?_ rfl];rfl;intro i _ a;have b:decide ((i:Int)<(p.length:Int))=true:=Gz (by omega);simp only[b,Gy];rw[bP rfl a,wrap64 (by omega)];simp only[aF];rw[GU a,Is];simp[List.getD,a];have b:decide ((p.length:Int)<(p.length:Int))=false:=GA (by omega);simp only[b,Gx,Hf,z1]
def Gn (s:bf) (b:Int):bf:=({({s with a:=Int.tmod (wrap .u32 (s.a+(wrap .u32 b))) 65521}:bf) with b:=Int.tmod (wrap .u32 ((({s with a:=Int.tmod (wrap .u32 (s.a+(wrap .u32 b))) 65521}:bf).b)+(({s with a:=Int.tmod (wrap .u32 (s.a+(wrap .u32 b))) 65521}:bf).a))) 65521}:bf)
def eK (s:bf) (p:List Int):bf:=p.foldl Gn s
theorem mY (s:bf) (p q:List Int):eK s (p++q)=eK (eK s p) q:=by simp[eK,Is]
theorem lA {s:bf} {p:List Int} (h:p.length<2^30):fN s p=some (eK s p):=by unfold fN;rw[cb (s0:=(0,s)) (r:=eK s p) (λi=>((i:Int),eK s (p.take i))) 0 p.length (GX _) ?_ ?_ rfl];rfl;intro i _ hi;have h1:decide ((i:Int)<(p.length:Int))=true:=Gz (by omega);simp only[h1,Gy];rw[bP rfl hi,wrap64 (by omega)];simp only[aF];rw[GU hi,mY];(have e:p.getD i 0=p[i]:=by simp[List.getD,hi]);rw[e];rfl;have h1:decide ((p.length:Int)<(p.length:Int))=false:=GA (by omega);simp only[h1,Gx,Hf]
def kV (s:bf):Int:=nL .u32 (en .u32 s.b 16) s.a
theorem tX (s:bf):0≤kV s∧kV s<4294967296:=by (have:∀x:Int,0≤IntKind.u32.wrap x∧IntKind.u32.wrap x<4294967296:=λx=>by rw[BG];omega);exact this _
theorem D6 {v b:Nat} (a:v<2^56) (a:b<256):nL .u64 (en .u64 (v:Int) 8) (wrap .u64 (b:Int))=((v*256+b:Nat):Int):=by (have c:en .u64 (v:Int) 8=((v*256:Nat):Int):=by show IntKind.u64.wrap ((v:Int)*256)=_;rw[jO (by omega)];omega);rw[c,jO (by omega)];unfold nL;(have c:(BitVec.ofInt IntKind.u64.bits ((v*256:Nat):Int)|||BitVec.ofInt IntKind.u64.bits (b:Int)).toNat=v*256+b:=by show(BitVec.ofInt 64 ((v*256:Nat):Int)|||BitVec.ofInt 64 (b:Int)).toNat=_;rw[BitVec.toNat_or,H9,H9];(have d:((((v*256:Nat):Int))%((2^64:Nat):Int)).toNat=v*256:=by omega);(have e:(((b:Int))%((2^64:Nat):Int)).toNat=b:=by omega);rw[d,e];have:=Nat.shiftLeft_add_eq_or_of_lt (b:=b) (i:=8) (by simpa using a) v;rw[Nat.shiftLeft_eq] at this;exact this.symm);rw[c,jO (by omega)]
theorem Dc (v:Nat) (k:Nat) (a:k<8):cL (v:Int) (k+1)=cL ((v / 256:Nat):Int) k++[((v%256:Nat):Int)]:=by (have a:∀(x s:Nat),s≤64→wrap .u8 (co .u64 (x:Int) (s:Int))=((x / 2^s%256:Nat):Int):=λx s b=>by rw[tC];unfold co;(have e:min ((s:Int).toNat) (IntKind.u64.bits)=s:=by have:IntKind.u64.bits=64:=rfl;rw[this,GG];omega);rw[e];(have:((x:Int)).fdiv (2^s)=((x / 2^s:Nat):Int):=by rw[show((2:Int)^s)=((2^s:Nat):Int) by simp];rw[Int.fdiv_eq_ediv_of_nonneg _ (Int.natCast_nonneg _)];rfl);rw[this];omega);unfold cL;rw[JR,HT];congr 1;apply HE;intro j b;have b:=H8.1 b;rw[a _ _ (by omega),a _ _ (by omega),Nat.div_div_eq_div_mul];congr 2;rw[show(256:Nat)=2^8 by rfl,←Nat.pow_add];congr 2;omega;simp only[G6,If];rw[a _ _ (by omega)];congr 2;simp
theorem ni:∀(k v:Nat),k≤8→v<256^k→v<2^63→z1 (cL (v:Int) k)=(v:Int)|0,v,_,h,_=>by (have:v=0:=by simpa using h);subst this;rfl|k+1,v,hk,h,a=>by have ih:=ni k (v / 256) (by omega) (by rw[Nat.pow_succ] at h;omega) (by omega);rw[Dc v k (by omega)];unfold z1 at ih⊢;rw[Is,ih];simp only[HI,List.foldl_nil];rw[D6 (by omega) (by omega)];congr 1;omega
def tY (h:aD):Bool:=((((((decide (h.Left≥0))&&(decide (h.Left≤8)))&&(decide (h.Round≥0)))&&(decide (h.Round≤4611686018427387903)))&&(decide (h.Epoch≥0)))&&(decide (h.Epoch≤4611686018427387904)))
def tZ (h:aD) (n:Nat):List Int:=[67,72,82,78]++[1,wrap .u8 h.Left]++cL (n:Int) 2++cL h.Round 8++cL h.Epoch 8
def kW (cs:List (List Int)):List Int:=(cs.map λc=>cL 320 2++c).flatten
def yG (h:aD) (cs:List (List Int)):bf:=eK ⟨1,0⟩ (tZ h cs.length++kW cs)
def vj (b:bg):List Int:=tZ b.Header b.Cells.length++kW b.Cells++cL (kV (yG b.Header b.Cells)) 4
def lJ (b:bg):List Int×Int:=bif !tY b.Header then([],62) else bif decide ((b.Cells.length:Int)>256) then([],63) else bif b.Cells.all λc=>c.length==320 then(vj b,0) else([],64)
theorem xr (h:aD) (n:Nat):(tZ h n).length=24:=by simp[tZ,dP]
def Cv (_:Nat) (x:List Int) (c:List Int):Option (List Int):=bif c.length==320 then some (x++(cL 320 2++c)) else none
theorem vk:∀(cs:List (List Int)) (i:Nat) (x:List Int),jG Cv i x cs=bif cs.all λc=>c.length==320 then some (x++kW cs) else none|[],i,x=>by simp[jG,kW]|c::cs,i,x=>by simp only[jG,Cv,List.all_cons];cases a:(c.length==320) with|false=>rfl|true=>simp only[Gy,HK];rw[vk cs];simp[kW]
theorem qS (b:bg):iL b=some (lJ b):=by unfold iL kv lJ;simp only[aF];show(bif !tY b.Header then _ else _)=_;cases a: !tY b.Header with|true=>rfl|false=>(have a:tY b.Header=true:=by simpa using a);simp only[tY,GH,GM] at a;obtain⟨⟨⟨⟨⟨f1,f2⟩,f3⟩,f4⟩,f5⟩,f6⟩:=a;rw[Gx,Gx];cases a:decide ((b.Cells.length:Int)>256) with|true=>rfl|false=>have a:=G7 a;rw[Gx,Gx,wrap64 (x:=(b.Cells.length:Int)*322) (by omega),wrap64 (x:=24+(b.Cells.length:Int)*322) (by omega),wrap64 (x:=24+(b.Cells.length:Int)*322+4) (by omega)];(have g:kN 0 (24+(b.Cells.length:Int)*322+4)=true:=by unfold kN;rw[Ew];simp;omega);have a:List.replicate (Int.toNat 0) (0:Int)=[]:=rfl;rw[g,Gy,a,cf (by rw[fL];simp)];simp only[aF,GS];rw[cf (by rw[fL];simp)];simp only[aF,Fm];rw[jO (x:=(b.Cells.length:Int)) (by omega),jO (x:=b.Header.Round) (by omega),jO (x:=b.Header.Epoch) (by omega)];rw[kx (z:=2) (k:=2) rfl (by omega) (by simp)];simp only[aF];rw[kx (z:=8) (k:=8) rfl (by omega) (by simp[dP])];simp only[aF];rw[kx (z:=8) (k:=8) rfl (by omega) (by simp[dP])];simp only[aF];have a:[67,72,82,78]++[1,wrap .u8 b.Header.Left]++cL (b.Cells.length:Int) 2++cL b.Header.Round 8++cL b.Header.Epoch 8=tZ b.Header b.Cells.length:=rfl;rw[a];have a:=xr b.Header b.Cells.length;rw[(rQ (λ(i:Nat) (x:List Int)=>(x,(i:Int))) Cv b.Cells (λi r x=>x.length=24+322*i) (λx=>Sum.inl x) (Sum.inr (([],64):List Int×Int)) ?_ ?_ (tZ b.Header b.Cells.length) (by rw[a]) ?_).1];rw[vk];(cases d:b.Cells.all λc=>c.length==320 with|false=>rfl|true=>(have e:∀cs:List (List Int),(cs.all λc=>c.length==320)=true→(kW cs).length=322*cs.length:=by intro cs;induction cs with|nil=>intro _;rfl|cons c cs f=>intro h;simp only[List.all_cons,GH,Ih] at h;have:=f h.2;simp only[kW] at this;simp[kW,dP,this,h.1];omega);have f:=e _ d;simp only[Gy,aF];rw[lA (by rw[GD,f,a];omega)];simp only[aF,eS];have d:=tX (yG b.Header b.Cells);show((eP _ (wrap .u64 (kV (yG b.Header b.Cells))) 4).bind _)=_;rw[jO (by omega),kx (z:=4) (k:=4) rfl (by omega) (by rw[GD,f,a];omega)];rfl);intro i c r x a a d I;have e:decide ((i:Int)<(b.Cells.length:Int))=true:=Gz (by omega);(have j:b.Cells.getD i []=c:=by simp[List.getD,d]);simp only[e,Gy,Cv];rw[dV (i:=i) [] rfl a,j];simp only[aF];(have f:((c.length:Int) != 320)= !(c.length==320):=by rw[Hm];simp;omega);rw[f];(cases a:(c.length==320) with|false=>exact⟨λ_=>rfl,λy d=>(by cases d)⟩|true=>(have a:c.length=320:=by simpa using a);refine⟨λh=>(by cases h),λy d=>?_⟩;cases d;simp only[G9,Gx];rw[kx (z:=2) (k:=2) rfl (by omega) (by omega)];simp only[aF];rw[cf (by rw[fL];simp[dP];omega),wrap64 (by omega)];refine⟨by simp,by simp[dP,I,a];omega⟩);intro x I;have e:decide ((b.Cells.length:Int)<(b.Cells.length:Int))=false:=GA (by omega);simp only[e,Gx];rfl
end Go.Proofs.YtlkjdchmeihhkaaGreatDoor
set_option maxRecDepth 20000
set_option maxHeartbeats 1000000
namespace Go.Proofs.YtlkjdchmeihhkaaGreatDoor
open Go Go.Sim
open Go.IntKind (wrap)
variable [Fu]
theorem nW:∀(n:Nat) (p:List Int),p.length=n→n≤8→bW p→∃v:Nat,z1 p=v∧v<256^n|0,p,h,_,_=>by have:p=[]:=G1 h;subst this;exact⟨0,rfl,by simp⟩|n+1,p,h,hn,hb=>by (have a:p≠[]:=by intro e;subst e;simp at h);have hp:p=p.dropLast++[p.getLast a]:=(List.dropLast_concat_getLast a).symm;obtain⟨v,h1,h2⟩:=nW n p.dropLast (by simp[h]) (by omega) (λb c=>hb b (List.dropLast_subset p c));have hl:=hb _ (List.getLast_mem a);obtain⟨b,d⟩:∃b:Nat,p.getLast a=b:=⟨(p.getLast a).toNat,by omega⟩;(have f:v<2^56:=by have:256^n≤256^7:=Nat.pow_le_pow_right (by omega) (by omega);omega);refine⟨v*256+b,?_,by rw[Nat.pow_succ];omega⟩;rw[hp];unfold z1 at h1⊢;rw[Is,h1,d];simp only[HI,List.foldl_nil];exact D6 f (by omega)
def wG (h:aD):Prop:=(0≤h.Left∧h.Left≤8)∧(0≤h.Round∧h.Round≤4611686018427387903)∧(0≤h.Epoch∧h.Epoch≤4611686018427387904)
def dZ (i:Nat):Nat:=[4,1,1,2,8,8,2,320,4,1].getD i 0
theorem vl {i:Nat} (h:i<10):1≤dZ i∧dZ i≤320∧idx [4,1,1,2,8,8,2,320,4,1] (i:Int)=some (dZ i:Int):=by match i,h with|0,_=>exact⟨by decide,by decide,rfl⟩|1,_=>exact⟨by decide,by decide,rfl⟩|2,_=>exact⟨by decide,by decide,rfl⟩|3,_=>exact⟨by decide,by decide,rfl⟩|4,_=>exact⟨by decide,by decide,rfl⟩|5,_=>exact⟨by decide,by decide,rfl⟩|6,_=>exact⟨by decide,by decide,rfl⟩|7,_=>exact⟨by decide,by decide,rfl⟩|8,_=>exact⟨by decide,by decide,rfl⟩|9,_=>exact⟨by decide,by decide,rfl⟩
def Trans (i:Nat) (l:Int) (j a:Int):Prop:=(i=3→0≤a∧a≤256)∧(i=7→a=l - 1)∧(i≠3→i≠7→a=l)∧(i=5∨i=7→(a=0∧j=8)∨(a≠0∧j=6))∧(i≠5→i≠7→j=(i:Int)+1)∧i≠9
theorem Aj {f:bv} {i:Nat} (a:f.stage=i) (h:i<10) (c:f.field.length=dZ i) (d:bW f.field) (j:wG f.header) (b:0≤f.left∧f.left≤256):
   ∃r,bo f=some r∧r.2.field=f.field∧r.2.at_=f.at_∧(r.1=0→wG r.2.header∧Trans i f.left r.2.stage r.2.left):=by
 unfold bo
 have b:=vl h
 have b:f.field.length<2^30:=by omega
 rw[lj b,lA b]
 simp only[aF,eS]
 have b:∀k:Nat,(((i:Nat):Int)==((k:Nat):Int))=decide (i=k):=λk=>by
   rw[Hm];simp only[Ih,GM];omega
 rw[a]
 have a:(((i:Nat):Int)==0)=decide (i=0):=b 0
 have c1:(((i:Nat):Int)==1)=decide (i=1):=b 1
 have c2:(((i:Nat):Int)==2)=decide (i=2):=b 2
 have c3:(((i:Nat):Int)==3)=decide (i=3):=b 3
 have e:(((i:Nat):Int)==4)=decide (i=4):=b 4
 have l:(((i:Nat):Int)==5)=decide (i=5):=b 5
 have m:(((i:Nat):Int)==6)=decide (i=6):=b 6
 have n:(((i:Nat):Int)==7)=decide (i=7):=b 7
 have o:(((i:Nat):Int)==8)=decide (i=8):=b 8
 have p:(((i:Nat):Int)==9)=decide (i=9):=b 9
 rw[a,c1,c2,c3,e,l,m,n,o,p]
 have a:wrap .i64 ((i:Int)+1)=(i:Int)+1:=wrap64 (by omega)
 rw[a]
 have m:∀(l:Int) (a:aD),i≠9→wG a→(i=3→0≤l∧l≤256)→(i=7→l=f.left - 1)→(i≠3→i≠7→l=f.left)→i≠8→∃r:Int×bv,(((bif (((i:Int)+1)==6)||(((i:Int)+1)==8) then
        bif l==0 then
         some 8
        else
         some 6
       else
        some ((i:Int)+1)
        :Option Int)).bind λb=>
       some ((0:Int),(⟨f.field,f.at_,b,l,a,eK f.sum f.field,f.err,f.place⟩:bv)))=some r∧r.2.field=f.field∧r.2.at_=f.at_∧(r.1=0→wG r.2.header∧Trans i f.left r.2.stage r.2.left):=by
   intro l a n o p q s a
   by_cases t:i=5∨i=7
   · have e:((((i:Int)+1)==6)||(((i:Int)+1)==8))=true:=by simp;omega
     rw[e,Gy]
     by_cases u:l=0
     · have v:(l==0)=true:=by simpa using u
       rw[v]
       exact⟨_,rfl,rfl,rfl,λ_=>⟨o,p,q,s,λ_=> .inl ⟨u,rfl⟩,λa b=>by omega,n⟩⟩
     · have v:(l==0)=false:=by simpa using u
       rw[v]
       exact⟨_,rfl,rfl,rfl,λ_=>⟨o,p,q,s,λ_=> .inr ⟨u,rfl⟩,λa b=>by omega,n⟩⟩
   · have e:((((i:Int)+1)==6)||(((i:Int)+1)==8))=false:=by simp;omega
     rw[e]
     exact⟨_,rfl,rfl,rfl,λ_=>⟨o,p,q,s,λa=>absurd a t,λ_ _=>rfl,n⟩⟩
 have b:∀(z:Int×bv),z.1≠0→z.2.field=f.field→z.2.at_=f.at_→∃r,(some z:Option (Int×bv))=some r∧r.2.field=f.field∧r.2.at_=f.at_∧(r.1=0→wG r.2.header∧Trans i f.left r.2.stage r.2.left):=
   λz l n p=>⟨z,rfl,n,p,λh=>absurd h l⟩
 have D:∀k,i=k→decide (i=k)=true:=λk e=>Gz e
 have N:∀k,i≠k→decide (i=k)=false:=λk e=>GA e
 have e:1≤f.field.length:=by omega
 by_cases e:i=8
 · rw[D 8 e,Gy]
   cases z1 f.field != wrap .u64 (nL .u32 (en .u32 f.sum.b 16) f.sum.a) with
   |true=>exact b _ (by simp) rfl rfl
   |false=>exact⟨_,rfl,rfl,rfl,λ_=>⟨j,by omega,by omega,λ_ _=>rfl,by omega,λ_ _=>by rw[e];rfl,by omega⟩⟩
 rw[N 8 e,Gx]
 by_cases k:i=0
 · rw[D 0 k,Gy]
   cases (c5 f.field) != [67,72,82,78] with
   |true=>exact b _ (by simp) rfl rfl
   |false=>exact m _ _ (by omega) j (by omega) (by omega) (λ_ _=>rfl) e
 rw[N 0 k,Gx]
 by_cases k:i=1
 · rw[D 1 k,Gy,bP (z:=0) (i:=0) rfl (by omega)]
   simp only[aF]
   cases (f.field.getD 0 0) != 1 with
   |true=>exact b _ (by simp) rfl rfl
   |false=>exact m _ _ (by omega) j (by omega) (by omega) (λ_ _=>rfl) e
 rw[N 1 k,Gx]
 by_cases k:i=2
 · rw[D 2 k,Gy,bP (z:=0) (i:=0) rfl (by omega)]
   simp only[aF]
   have l:=sT d 0
   have n:wrap .i64 (f.field.getD 0 0)=f.field.getD 0 0:=wrap64 (by omega)
   rw[n]
   cases t:decide ((({f.header with Left:=f.field.getD 0 0}:aD).Left)>8) with
   |true=>exact b _ (by simp) rfl rfl
   | false =>
     have t:¬f.field.getD 0 0>8:=G7 t
     exact m _ _ (by omega) ⟨⟨l.1,by show f.field.getD 0 0≤8;omega⟩,j.2.1,j.2.2⟩ (by omega) (by omega) (λ_ _=>rfl) e
 rw[N 2 k,Gx]
 by_cases k:i=3
 · rw[D 3 k,Gy]
   obtain⟨v,l,o⟩:=nW 2 f.field (by rw[c,k];rfl) (by omega) d
   rw[l,wrap64 (by omega)]
   cases t:decide ((v:Int)>256) with
   |true=>exact b _ (by simp) rfl rfl
   | false =>
     have t:=G7 t
     exact m _ _ (by omega) j (λ_=>by omega) (by omega) (λa=>absurd k a) e
 rw[N 3 k,Gx]
 by_cases k:i=4
 · rw[D 4 k,Gy]
   obtain⟨v,l,o⟩:=nW 8 f.field (by rw[c,k];rfl) (by omega) d
   rw[l]
   cases t:decide ((v:Int)>4611686018427387903) with
   |true=>exact b _ (by simp) rfl rfl
   | false =>
     have t:=G7 t
     have n:wrap .i64 (v:Int)=v:=wrap64 (by omega)
     rw[n]
     exact m _ _ (by omega) ⟨j.1,⟨by show(0:Int)≤(v:Int);omega,by show(v:Int)≤_;omega⟩,j.2.2⟩ (by omega) (by omega) (λ_ _=>rfl) e
 rw[N 4 k,Gx]
 by_cases k:i=5
 · rw[D 5 k,Gy]
   obtain⟨v,l,o⟩:=nW 8 f.field (by rw[c,k];rfl) (by omega) d
   rw[l]
   cases t:decide ((v:Int)>4611686018427387904) with
   |true=>exact b _ (by simp) rfl rfl
   | false =>
     have t:=G7 t
     have n:wrap .i64 (v:Int)=v:=wrap64 (by omega)
     rw[n]
     exact m _ _ (by omega) ⟨j.1,j.2.1,⟨by show(0:Int)≤(v:Int);omega,by show(v:Int)≤_;omega⟩⟩ (by omega) (by omega) (λ_ _=>rfl) e
 rw[N 5 k,Gx]
 by_cases c:i=6
 · rw[D 6 c,Gy]
   cases z1 f.field != 320 with
   |true=>exact b _ (by simp) rfl rfl
   |false=>exact m _ _ (by omega) j (by omega) (by omega) (λ_ _=>rfl) e
 rw[N 6 c,Gx]
 by_cases c:i=7
 · rw[D 7 c,Gy]
   exact m _ _ (by omega) j (by omega) (λ_=>wrap64 (by omega)) (λ_ a=>absurd c a) e
 rw[N 7 c,Gx]
 have a:i=9:=by omega
 rw[D 9 a,Gy]
 exact b _ (by simp) rfl rfl
end Go.Proofs.YtlkjdchmeihhkaaGreatDoor
set_option maxRecDepth 20000
set_option maxHeartbeats 1000000
namespace Go.Proofs.YtlkjdchmeihhkaaGreatDoor
open Go Go.Sim
open Go.IntKind (wrap)
variable [Fu]
def pI (cs:List (List Int)):Prop:=∀x∈cs,x.length=320∧bW x
def pf (j:Nat) (l:Int) (c:Nat):Prop:=(j≤3→c=0∧l=0)∧(j=4∨j=5→c=0∧0≤l∧l≤256)∧(j=6∨j=7→1≤l∧(c:Int)+l≤256)∧(8≤j→c≤256∧l=0)
theorem pf.left {j c:Nat} {l:Int} (h:pf j l c):0≤l∧l≤256:=by obtain⟨b,d,e,f⟩:=h;by_cases a:j≤3;have:=b a;omega;by_cases b:j=4∨j=5;have:=d b;omega;by_cases d:j=6∨j=7;have:=e d;omega;have:=f (by omega);omega
theorem pf.next {i c:Nat} {l a b:Int} (d:i<10) (h:pf i l c) (t:Trans i l a b):∃j:Nat,j<10∧a=j∧pf j b (if i=7 then c+1 else c):=by obtain⟨a,b,e,f⟩:=h;obtain⟨t3,t7,tn,k,m,t9⟩:=t;match i,d with|0,_=>exact⟨1,by omega,by simpa using m (by omega) (by omega),λ_=>by have:=a (by omega);have:=tn (by omega) (by omega);simp;omega,by omega,by omega,by omega⟩|1,_=>exact⟨2,by omega,by simpa using m (by omega) (by omega),λ_=>by have:=a (by omega);have:=tn (by omega) (by omega);simp;omega,by omega,by omega,by omega⟩|2,_=>exact⟨3,by omega,by simpa using m (by omega) (by omega),λ_=>by have:=a (by omega);have:=tn (by omega) (by omega);simp;omega,by omega,by omega,by omega⟩|3,_=>exact⟨4,by omega,by simpa using m (by omega) (by omega),by omega,λ_=>by have:=a (by omega);have:=t3 rfl;simp;omega,by omega,by omega⟩|4,_=>exact⟨5,by omega,by simpa using m (by omega) (by omega),by omega,λ_=>by have:=b (by omega);have:=tn (by omega) (by omega);simp;omega,by omega,by omega⟩|5,_=>have:=b (by omega);have:=tn (by omega) (by omega);rcases k (by omega) with⟨a,b⟩|⟨a,b⟩;exact⟨8,by omega,b,by omega,by omega,by omega,λ_=>by simp;omega⟩;exact⟨6,by omega,b,by omega,by omega,λ_=>by simp;omega,by omega⟩|6,_=>exact⟨7,by omega,by simpa using m (by omega) (by omega),by omega,by omega,λ_=>by have:=e (by omega);have:=tn (by omega) (by omega);simp;omega,by omega⟩|7,_=>have:=e (by omega);have:=t7 rfl;rcases k (by omega) with⟨a,b⟩|⟨a,b⟩;exact⟨8,by omega,b,by omega,by omega,by omega,λ_=>by simp;omega⟩;exact⟨6,by omega,b,by omega,by omega,λ_=>by simp;omega,by omega⟩|8,_=>exact⟨9,by omega,by simpa using m (by omega) (by omega),by omega,by omega,by omega,λ_=>by have:=f (by omega);have:=tn (by omega) (by omega);simp;omega⟩|9,_=>exact absurd rfl t9
structure Uk (n:Nat) (r:(List (List Int))×(List Int)×Int×Int×Int×aD×bf×Int×Int):Prop where
 ok:r.2.2.2.2.2.2.2.1=0→wG r.2.2.2.2.2.1∧r.1.length≤256∧pI r.1∧0≤r.2.2.1∧r.2.2.1≤n
 bad:r.2.2.2.2.2.2.2.1≠0→0≤r.2.2.2.2.2.2.2.2∧r.2.2.2.2.2.2.2.2≤n
theorem Dd {raw:List Int} (a:raw.length<2^30) (c:bW raw): ∃r,fe ⟨[],0,0,0,⟨0,0,0⟩,⟨1,0⟩,0,0⟩ raw=some r∧(r.2.1=0→wG r.2.2.header∧r.1.length≤256∧pI r.1∧0≤r.2.2.at_∧r.2.2.at_≤raw.length)∧(r.2.1≠0→0≤r.2.2.place∧r.2.2.place≤raw.length)∧r.2.2.err=r.2.1:=by unfold fe;obtain⟨r,e,f⟩:=Cs (S:=((List Int)×(List (List Int))×(List Int)×Int×Int×Int×aD×bf×Int×Int)) (R:=((List (List Int))×(List Int)×Int×Int×Int×aD×bf×Int×Int)) (P:=λs=>bW s.1∧pI s.2.1∧s.2.2.1=[]∧s.2.2.2.1+(s.1.length:Int)=(raw.length:Int)∧0≤s.2.2.2.1∧s.2.2.2.2.2.2.2.2.1=0∧∃j:Nat,j<10∧s.2.2.2.2.1=j∧wG s.2.2.2.2.2.2.1∧pf j s.2.2.2.2.2.1 s.2.1.length) (Q:=Uk raw.length) (λs=>s.1.length) (step:=(λ(a,b,d,h,i,k,l,m,n,o)=>bif n==0 then (da (⟨d,h,i,k,l,m,n,o⟩:bv)).bind λp=>bif decide ((wrap .i64 (p - (d.length:Int)))>(a.length:Int)) then (app d a).bind λq=>some (.done (b,q,wrap .i64 (h+(a.length:Int)),i,k,l,m,n,o)) else (sub a 0 (wrap .i64 (p - (d.length:Int)))).bind λq=>(app d q).bind λq=>(sub a (wrap .i64 (p - (d.length:Int))) (a.length:Int)).bind λa=>((bif i==7 then (dk q).bind λt=>(app b [t]).bind λu=>some u else some b :Option (List (List Int)))).bind λv=>(bo (⟨q,wrap .i64 (h+(wrap .i64 (p - (d.length:Int)))),i,k,l,m,n,o⟩:bv)).bind λp=>bif p.1 != 0 then some (.done (v,p.2.field,p.2.at_,p.2.stage,p.2.left,p.2.header,p.2.sum,p.1,wrap .i64 (p.2.at_ - (p.2.field.length:Int)))) else bif decide ((0:Int)≤0∧(0:Int)≤0∧(0:Int)≤(p.2.field.length:Int)) then some (.next (a,v,List.take (Int.toNat 0) p.2.field,p.2.at_,p.2.stage,p.2.left,p.2.header,p.2.sum,p.1,p.2.place)) else none else some (.done (b,d,h,i,k,l,m,n,o)):_→Option (md _ _))) (s:=(raw,[],[],0,0,0,⟨0,0,0⟩,⟨1,0⟩,0,0)) (λs a=>by obtain⟨i,k,b,at_,b,left,l,n,b,o⟩:=s;obtain⟨p1,p,b,d,h,m,j,q,s,v,x⟩:=a;simp only at p1 p b d h m s v x;subst b;subst m;subst s;obtain⟨a,a,h⟩:=vl q;have s:=x.left;(have w:k.length≤256:=by obtain⟨y,z,m,A⟩:=x;by_cases a:j≤3;have:=y a;omega;by_cases b:j=4∨j=5;have:=z b;omega;by_cases d:j=6∨j=7;have:=m d;omega;have:=A (by omega);omega);(have a:da (⟨[],at_,(j:Int),left,l,n,0,o⟩:bv)=some (dZ j:Int):=by unfold da;simp only;rw[h];rfl);have b:((0:Int)==0)=true:=rfl;simp only[b,Gy];rw[a];simp only[aF,Ha];(have a:∀m:Int,m - ((0:Nat):Int)=m:=λm=>by simp);have b:wrap .i64 (dZ j:Int)=(dZ j:Int):=wrap64 (by omega);simp only[a,b];cases a:decide ((dZ j:Int)>(i.length:Int)) with|true=>left;simp only[Gy];rw[cf (by rw[fL];simp;omega)];refine⟨_,rfl,λ_=>⟨v,w,p,?_,?_⟩,λh=>absurd rfl h⟩;show 0≤wrap .i64 (at_+(i.length:Int));rw[wrap64 (by omega)];omega;show wrap .i64 (at_+(i.length:Int))≤_;rw[wrap64 (by omega)];omega|false=>have b:=G7 a;simp only[Gx];rw[qg (h:=(dZ j:Int)) (j:=dZ j) rfl (by omega)];simp only[aF];(have a:(i.take (dZ j)).length=dZ j:=by rw[G4];omega);have b:bW (i.take (dZ j)):=mt p1 _;rw[cf (by rw[fL];simp;omega)];simp only[aF,GS];rw[sx (l:=(dZ j:Int)) (i:=dZ j) rfl (by omega)];simp only[aF];generalize i.take (dZ j)=w at*;have d:wrap .i64 (at_+(dZ j:Int))=at_+(dZ j:Int):=wrap64 (by omega);rw[d];(have d:(bif (j:Int)==7 then(dk w).bind λt=>(app k [t]).bind λu=>some u else some k:Option (List (List Int)))=some (if j=7 then k++[w] else k):=by by_cases m:j=7;(have:((j:Int)==7)=true:=by simp;omega);rw[this,Gy,sw (by omega),Hv m];simp only[aF];rw[cf (by rw[fL];simp;omega)];rfl;(have:((j:Int)==7)=false:=by simp;omega);rw[this,Gx,Hu m]);rw[d];simp only[aF];obtain⟨r,e,d,t,u⟩:=Aj (f:=⟨w,at_+(dZ j:Int),(j:Int),left,l,n,0,o⟩) rfl q (by simp only;omega) b v s;rw[e];simp only[aF];simp only at d t u;cases l:(r.1 != 0) with| true =>(have l:r.1≠0:=by simpa using l);left;simp only[Gy];refine⟨_,rfl,λh=>absurd h l,λ_=>?_⟩;show 0≤wrap .i64 (r.2.at_ - (r.2.field.length:Int))∧wrap .i64 (r.2.at_ - (r.2.field.length:Int))≤_;rw[t,d,a,wrap64 (by omega)];omega| false =>(have d:r.1=0:=by simpa using l);right;have g:decide ((0:Int)≤0∧(0:Int)≤0∧(0:Int)≤(r.2.field.length:Int))=true:=Gz (by omega);obtain⟨h,l⟩:=u d;obtain⟨n,o,s,u⟩:=pf.next q x l;simp only[Gx,g,Gy];refine⟨_,rfl,⟨ll p1 _,?_,rfl,?_,?_,d,n,o,s,h,?_⟩,?_⟩;show pI (if j=7 then k++[w] else k);split;rename_i m;intro x d;rcases G3.1 d with d|d;exact p x d;have:=Hp.1 d;subst this;exact⟨by rw[a,m];rfl,b⟩;exact p;show r.2.at_+((i.drop (dZ j)).length:Int)=_;rw[t,Hj];omega;show 0≤r.2.at_;rw[t];omega;show pf n r.2.left (if j=7 then k++[w] else k).length;(have:(if j=7 then k++[w] else k).length=(if j=7 then k.length+1 else k.length):=by split<;>simp);rw[this];exact u;show(i.drop (dZ j)).length<i.length;rw[Hj];omega) ⟨c,λx d=>(by cases d),rfl,by simp,by simp,rfl,0,by omega,rfl,⟨by simp,by simp,by simp⟩,λ_=>⟨rfl,rfl⟩,by omega,by omega,by omega⟩;rw[e];obtain⟨y,z⟩:=f;exact⟨_,rfl,y,z,rfl⟩
theorem nj {raw:List Int} (a:raw.length<2^30) (b:bW raw):∃r,cX raw=some r∧(r.2.2=0→wG r.1.Header∧r.1.Cells.length≤256∧pI r.1.Cells)∧0≤r.2.1∧r.2.1≤raw.length:=by unfold cX ii;simp only[aF];obtain⟨r,c,d,e,f⟩:=Dd a b;rw[c];simp only[aF];cases a:r.2.1==0 with|false=>(have a:r.2.1≠0:=by simpa using a);exact⟨_,rfl,λh=>absurd h a,e a⟩|true=>(have a:r.2.1=0:=by simpa using a);obtain⟨b,c,e,i,j⟩:=d a;simp only[Gy];unfold iF;simp only[f,a,GQ,Gx];cases decide (r.2.2.stage<9) with|true=>refine⟨_,rfl,λh=>?_,i,j⟩;simp at h|false=>exact⟨_,rfl,λ_=>⟨b,c,e⟩,by simp,by simp⟩
end Go.Proofs.YtlkjdchmeihhkaaGreatDoor

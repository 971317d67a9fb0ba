import Derived.Test.YtlkjdchmeihhkaaGreatDoorLawNoise
set_option autoImplicit true
set_option relaxedAutoImplicit true
set_option linter.all false
set_option maxRecDepth 20000
namespace Go.Proofs.YtlkjdchmeihhkaaGreatDoor
open Go Go.Sim
open Go.IntKind (wrap)
variable [Fu]
def qI (v:Int) (k:Nat):List Int:=(List.range k).map λj=>wrap .u8 (ef .u64 v ((8*(k - 1 - j):Nat):Int))
theorem jh (v:Int) (k:Nat):(qI v k).length=k:=by simp[qI]
theorem mQ {x:List Int} {v z:Int} {k:Nat} (a:z=k) (b:k≤8) (b:x.length<2^31):eT x v z=some (x++qI v k):=by subst a;unfold eT;rw[wrap64 (x:=(k:Int) - 1) (by omega)];rw[aY (s0:=(x,(k:Int) - 1)) (r:=x++qI v k) (λi=>(x++(List.range i).map (λj=>wrap .u8 (ef .u64 v ((8*(k - 1 - j):Nat):Int))),(k:Int) - 1 - (i:Int))) 0 k (IG _) ?_ ?_ ?_];rfl;intro i _ a;have a:decide ((k:Int) - 1 - (i:Int)≥0)=true:=Io (by omega);(have e:(k:Int) - 1 - (i:Int)=((k - 1 - i:Nat):Int):=by omega);(have b:wrap .i64 (8*((k:Int) - 1 - (i:Int)))=((8*(k - 1 - i):Nat):Int):=by rw[wrap64 (by omega)];omega);have c:decide (0≤((8*(k - 1 - i):Nat):Int))=true:=Io (by omega);simp only[a,b,c,Im];rw[aW (by rw[cQ];simp;omega)];simp only[aB];rw[IR,cZ (λj=>wrap .u8 (ef .u64 v ((8*(k - 1 - j):Nat):Int))),wrap64 (by omega)];congr 3;omega;have a:decide ((k:Int) - 1 - (k:Int)≥0)=false:=Ip (by omega);simp only[a,Il,qI];simp
theorem Hl (x:List Int) (v k:Int):dL x v k=eT x v k:=rfl
def cC (p:List Int):Int:=p.foldl (λv b=>qH .u64 (eD .u64 v 8) (wrap .u64 b)) 0
theorem xP {p:List Int} (h:p.length<2^30):gN p=some (cC p):=by unfold gN;rw[aY (s0:=(0,0)) (r:=cC p) (λi=>((p.take i).foldl (λv b=>qH .u64 (eD .u64 v 8) (wrap .u64 b)) 0,(i:Int))) 0 p.length (IG _) ?_ ?_ rfl];rfl;intro i _ a;have b:decide ((i:Int)<(p.length:Int))=true:=Io (by omega);simp only[b,Im];rw[aK rfl a,wrap64 (by omega)];simp only[aB];rw[IA a,Ka];simp[List.getD,a];have b:decide ((p.length:Int)<(p.length:Int))=false:=Ip (by omega);simp only[b,Il,IY,cC]
def zW (s:aR) (b:Int):aR:=({({s with a:=Int.tmod (wrap .u32 (s.a+(wrap .u32 b))) 65521}:aR) with b:=Int.tmod (wrap .u32 ((({s with a:=Int.tmod (wrap .u32 (s.a+(wrap .u32 b))) 65521}:aR).b)+(({s with a:=Int.tmod (wrap .u32 (s.a+(wrap .u32 b))) 65521}:aR).a))) 65521}:aR)
def rC (s:aR) (p:List Int):aR:=p.foldl zW s
theorem wn (s:aR) (p q:List Int):rC s (p++q)=rC (rC s p) q:=by simp[rC,Ka]
theorem Ba {s:aR} {p:List Int} (h:p.length<2^30):iP s p=some (rC s p):=by unfold iP;rw[aY (s0:=(0,s)) (r:=rC s p) (λi=>((i:Int),rC s (p.take i))) 0 p.length (IG _) ?_ ?_ rfl];rfl;intro i _ hi;have h1:decide ((i:Int)<(p.length:Int))=true:=Io (by omega);simp only[h1,Im];rw[aK rfl hi,wrap64 (by omega)];simp only[aB];rw[IA hi,wn];(have e:p.getD i 0=p[i]:=by simp[List.getD,hi]);rw[e];rfl;have h1:decide ((p.length:Int)<(p.length:Int))=false:=Ip (by omega);simp only[h1,Il,IY]
def mR (s:aR):Int:=qH .u32 (eD .u32 s.b 16) s.a
theorem rR (s:aR):0≤mR s∧mR s<4294967296:=by (have:∀x:Int,0≤IntKind.u32.wrap x∧IntKind.u32.wrap x<4294967296:=λx=>by rw[nf];omega);exact this _
theorem Bb {v b:Nat} (a:v<2^56) (a:b<256):qH .u64 (eD .u64 (v:Int) 8) (wrap .u64 (b:Int))=((v*256+b:Nat):Int):=by (have c:eD .u64 (v:Int) 8=((v*256:Nat):Int):=by show IntKind.u64.wrap ((v:Int)*256)=_;rw[ko (by omega)];omega);rw[c,ko (by omega)];unfold qH;(have c:(BitVec.ofInt IntKind.u64.bits ((v*256:Nat):Int)|||BitVec.ofInt IntKind.u64.bits (b:Int)).toNat=v*256+b:=by show(BitVec.ofInt 64 ((v*256:Nat):Int)|||BitVec.ofInt 64 (b:Int)).toNat=_;rw[BitVec.toNat_or,JM,JM];(have d:((((v*256:Nat):Int))%((2^64:Nat):Int)).toNat=v*256:=by omega);(have e:(((b:Int))%((2^64:Nat):Int)).toNat=b:=by omega);rw[d,e];have:=KY (b:=b) (i:=8) (by simpa using a) v;rw[LY] at this;exact this.symm);rw[c,ko (by omega)]
theorem zX (v:Nat) (k:Nat) (a:k<8):qI (v:Int) (k+1)=qI ((v / 256:Nat):Int) k++[((v%256:Nat):Int)]:=by (have a:∀(x s:Nat),s≤64→wrap .u8 (ef .u64 (x:Int) (s:Int))=((x / 2^s%256:Nat):Int):=λx s b=>by rw[S4];unfold ef;(have e:min ((s:Int).toNat) (IntKind.u64.bits)=s:=by have:IntKind.u64.bits=64:=rfl;rw[this,Iq];omega);rw[e];(have:((x:Int)).fdiv (2^s)=((x / 2^s:Nat):Int):=by rw[show((2:Int)^s)=((2^s:Nat):Int) by simp];rw[Int.fdiv_eq_ediv_of_nonneg _ (Int.natCast_nonneg _)];rfl);rw[this];omega);unfold qI;rw[Ky,Jn];congr 1;apply JH;intro j b;have b:=JY.1 b;rw[a _ _ (by omega),a _ _ (by omega),Nat.div_div_eq_div_mul];congr 2;rw[show(256:Nat)=2^8 by rfl,←Nat.pow_add];congr 2;omega;simp only[IU,JT];rw[a _ _ (by omega)];congr 2;simp
theorem Cb:∀(k v:Nat),k≤8→v<256^k→v<2^63→cC (qI (v:Int) k)=(v:Int)|0,v,_,h,_=>by (have:v=0:=by simpa using h);subst this;rfl|k+1,v,hk,h,a=>by have ih:=Cb k (v / 256) (by omega) (by rw[Nat.pow_succ] at h;omega) (by omega);rw[zX v k (by omega)];unfold cC at ih⊢;rw[Ka,ih];simp only[JK,List.foldl_nil];rw[Bb (by omega) (by omega)];congr 1;omega
theorem pg (v:Int) (k:Nat):aV (qI v k):=by intro b a;obtain⟨j,_,rfl⟩:=Jd.1 a;exact ml _
def wo (h:aC):Bool:=((((((decide (h.Left≥0))&&(decide (h.Left≤8)))&&(decide (h.Round≥0)))&&(decide (h.Round≤4611686018427387903)))&&(decide (h.Epoch≥0)))&&(decide (h.Epoch≤4611686018427387904)))
def rS (h:aC) (n:Nat):List Int:=[67,72,82,78]++[1,wrap .u8 h.Left]++qI (n:Int) 2++qI h.Round 8++qI h.Epoch 8
def pV (cs:List (List Int)):List Int:=(cs.map λc=>qI 320 2++c).flatten
def VB (h:aC) (cs:List (List Int)):aR:=rC ⟨1,0⟩ (rS h cs.length++pV cs)
def H8 (b:aS):List Int:=rS b.Header b.Cells.length++pV b.Cells++qI (mR (VB b.Header b.Cells)) 4
def oh (b:aS):List Int×Int:=bif !wo b.Header then([],62) else bif decide ((b.Cells.length:Int)>256) then([],63) else bif b.Cells.all λc=>c.length==320 then(H8 b,0) else([],64)
theorem zY (h:aC) (n:Nat):(rS h n).length=24:=by simp[rS,jh]
def zZ (_:Nat) (x:List Int) (c:List Int):Option (List Int):=bif c.length==320 then some (x++(qI 320 2++c)) else none
theorem tM:∀(cs:List (List Int)) (i:Nat) (x:List Int),jr zZ i x cs=bif cs.all λc=>c.length==320 then some (x++pV cs) else none|[],i,x=>by simp[jr,pV]|c::cs,i,x=>by simp only[jr,zZ,Mh];cases a:(c.length==320) with|false=>rfl|true=>simp only[Im,JE];rw[tM cs];simp[pV]
theorem xQ (b:aS):lv b=some (oh b):=by unfold lv ot oh;simp only[aB];show(bif !wo b.Header then _ else _)=_;cases a: !wo b.Header with|true=>rfl|false=>(have a:wo b.Header=true:=by simpa using a);simp only[wo,Ix,IB] at a;obtain⟨⟨⟨⟨⟨f1,f2⟩,f3⟩,f4⟩,f5⟩,f6⟩:=a;rw[Il,Il];cases a:decide ((b.Cells.length:Int)>256) with|true=>rfl|false=>have a:=II a;rw[Il,Il,wrap64 (x:=(b.Cells.length:Int)*322) (by omega),wrap64 (x:=24+(b.Cells.length:Int)*322) (by omega),wrap64 (x:=24+(b.Cells.length:Int)*322+4) (by omega)];(have g:pJ 0 (24+(b.Cells.length:Int)*322+4)=true:=by unfold pJ;rw[Gp];simp;omega);have a:List.replicate (Int.toNat 0) (0:Int)=[]:=rfl;rw[g,Im,a,aW (by rw[cQ];simp)];simp only[aB,IP];rw[aW (by rw[cQ];simp)];simp only[aB,Hl];rw[ko (x:=(b.Cells.length:Int)) (by omega),ko (x:=b.Header.Round) (by omega),ko (x:=b.Header.Epoch) (by omega)];rw[mQ (z:=2) (k:=2) rfl (by omega) (by simp)];simp only[aB];rw[mQ (z:=8) (k:=8) rfl (by omega) (by simp[jh])];simp only[aB];rw[mQ (z:=8) (k:=8) rfl (by omega) (by simp[jh])];simp only[aB];have a:[67,72,82,78]++[1,wrap .u8 b.Header.Left]++qI (b.Cells.length:Int) 2++qI b.Header.Round 8++qI b.Header.Epoch 8=rS b.Header b.Cells.length:=rfl;rw[a];have a:=zY b.Header b.Cells.length;rw[(nU (λ(i:Nat) (x:List Int)=>(x,(i:Int))) zZ b.Cells (λi r x=>x.length=24+322*i) (λx=>Sum.inl x) (Sum.inr (([],64):List Int×Int)) ?_ ?_ (rS b.Header b.Cells.length) (by rw[a]) ?_).1];rw[tM];(cases d:b.Cells.all λc=>c.length==320 with|false=>rfl|true=>(have e:∀cs:List (List Int),(cs.all λc=>c.length==320)=true→(pV cs).length=322*cs.length:=by intro cs;induction cs with|nil=>intro _;rfl|cons c cs f=>intro h;simp only[Mh,Ix,Ke] at h;have:=f h.2;simp only[pV] at this;simp[pV,jh,this,h.1];omega);have f:=e _ d;simp only[Im,aB];rw[Ba (by rw[Iu,f,a];omega)];simp only[aB,fC];have d:=rR (VB b.Header b.Cells);show((eT _ (wrap .u64 (mR (VB b.Header b.Cells))) 4).bind _)=_;rw[ko (by omega),mQ (z:=4) (k:=4) rfl (by omega) (by rw[Iu,f,a];omega)];rfl);intro i c r x a a d I;have e:decide ((i:Int)<(b.Cells.length:Int))=true:=Io (by omega);(have j:b.Cells.getD i []=c:=by simp[List.getD,d]);simp only[e,Im,zZ];rw[dk (i:=i) [] rfl a,j];simp only[aB];(have f:((c.length:Int) != 320)= !(c.length==320):=by rw[Ja];simp;omega);rw[f];(cases a:(c.length==320) with|false=>exact⟨λ_=>rfl,λy d=>(by cases d)⟩|true=>(have a:c.length=320:=by simpa using a);refine⟨λh=>(by cases h),λy d=>?_⟩;cases d;simp only[IQ,Il];rw[mQ (z:=2) (k:=2) rfl (by omega) (by omega)];simp only[aB];rw[aW (by rw[cQ];simp[jh];omega),wrap64 (by omega)];refine⟨by simp,by simp[jh,I,a];omega⟩);intro x I;have e:decide ((b.Cells.length:Int)<(b.Cells.length:Int))=false:=Ip (by omega);simp only[e,Il];rfl
end Go.Proofs.YtlkjdchmeihhkaaGreatDoor
set_option maxRecDepth 20000
set_option maxHeartbeats 1000000
namespace Go.Proofs.YtlkjdchmeihhkaaGreatDoor
open Go Go.Sim
open Go.IntKind (wrap)
variable [Fu]
theorem jo:∀(n:Nat) (p:List Int),p.length=n→n≤8→aV p→∃v:Nat,cC p=v∧v<256^n|0,p,h,_,_=>by have:p=[]:=IS h;subst this;exact⟨0,rfl,by simp⟩|n+1,p,h,hn,hb=>by (have a:p≠[]:=by intro e;subst e;simp at h);have hp:p=p.dropLast++[p.getLast a]:=(List.dropLast_concat_getLast a).symm;obtain⟨v,h1,h2⟩:=jo n p.dropLast (by simp[h]) (by omega) (λb c=>hb b (List.dropLast_subset p c));have hl:=hb _ (List.getLast_mem a);obtain⟨b,d⟩:∃b:Nat,p.getLast a=b:=⟨(p.getLast a).toNat,by omega⟩;(have f:v<2^56:=by have:256^n≤256^7:=L3 (by omega) (by omega);omega);refine⟨v*256+b,?_,by rw[Nat.pow_succ];omega⟩;rw[hp];unfold cC at h1⊢;rw[Ka,h1,d];simp only[JK,List.foldl_nil];exact Bb f (by omega)
def QX (h:aC):Prop:=(0≤h.Left∧h.Left≤8)∧(0≤h.Round∧h.Round≤4611686018427387903)∧(0≤h.Epoch∧h.Epoch≤4611686018427387904)
def ci (i:Nat):Nat:=[4,1,1,2,8,8,2,320,4,1].getD i 0
theorem nX {i:Nat} (h:i<10):1≤ci i∧ci i≤320∧idx [4,1,1,2,8,8,2,320,4,1] (i:Int)=some (ci i:Int):=by match i,h with|0,_=>exact⟨by decide,by decide,rfl⟩|1,_=>exact⟨by decide,by decide,rfl⟩|2,_=>exact⟨by decide,by decide,rfl⟩|3,_=>exact⟨by decide,by decide,rfl⟩|4,_=>exact⟨by decide,by decide,rfl⟩|5,_=>exact⟨by decide,by decide,rfl⟩|6,_=>exact⟨by decide,by decide,rfl⟩|7,_=>exact⟨by decide,by decide,rfl⟩|8,_=>exact⟨by decide,by decide,rfl⟩|9,_=>exact⟨by decide,by decide,rfl⟩
def Trans (i:Nat) (l:Int) (j a:Int):Prop:=(i=3→0≤a∧a≤256)∧(i=7→a=l - 1)∧(i≠3→i≠7→a=l)∧(i=5∨i=7→(a=0∧j=8)∨(a≠0∧j=6))∧(i≠5→i≠7→j=(i:Int)+1)∧i≠9
theorem Cc {f:bo} {i:Nat} (a:f.stage=i) (h:i<10) (c:f.field.length=ci i) (d:aV f.field) (j:QX f.header) (b:0≤f.left∧f.left≤256):
   ∃r,cU f=some r∧r.2.field=f.field∧r.2.at_=f.at_∧(r.1=0→QX r.2.header∧Trans i f.left r.2.stage r.2.left):=by
 unfold cU
 have b:=nX h
 have b:f.field.length<2^30:=by omega
 rw[xP b,Ba b]
 simp only[aB,fC]
 have b:∀k:Nat,(((i:Nat):Int)==((k:Nat):Int))=decide (i=k):=λk=>by
   rw[Ja];simp only[Ke,IB];omega
 rw[a]
 have a:(((i:Nat):Int)==0)=decide (i=0):=b 0
 have c1:(((i:Nat):Int)==1)=decide (i=1):=b 1
 have c2:(((i:Nat):Int)==2)=decide (i=2):=b 2
 have c3:(((i:Nat):Int)==3)=decide (i=3):=b 3
 have e:(((i:Nat):Int)==4)=decide (i=4):=b 4
 have l:(((i:Nat):Int)==5)=decide (i=5):=b 5
 have m:(((i:Nat):Int)==6)=decide (i=6):=b 6
 have n:(((i:Nat):Int)==7)=decide (i=7):=b 7
 have o:(((i:Nat):Int)==8)=decide (i=8):=b 8
 have p:(((i:Nat):Int)==9)=decide (i=9):=b 9
 rw[a,c1,c2,c3,e,l,m,n,o,p]
 have a:wrap .i64 ((i:Int)+1)=(i:Int)+1:=wrap64 (by omega)
 rw[a]
 have m:∀(l:Int) (a:aC),i≠9→QX a→(i=3→0≤l∧l≤256)→(i=7→l=f.left - 1)→(i≠3→i≠7→l=f.left)→i≠8→∃r:Int×bo,(((bif (((i:Int)+1)==6)||(((i:Int)+1)==8) then
        bif l==0 then
         some 8
        else
         some 6
       else
        some ((i:Int)+1)
        :Option Int)).bind λb=>
       some ((0:Int),(⟨f.field,f.at_,b,l,a,rC f.sum f.field,f.err,f.place⟩:bo)))=some r∧r.2.field=f.field∧r.2.at_=f.at_∧(r.1=0→QX r.2.header∧Trans i f.left r.2.stage r.2.left):=by
   intro l a n o p q s a
   by_cases t:i=5∨i=7
   · have e:((((i:Int)+1)==6)||(((i:Int)+1)==8))=true:=by simp;omega
     rw[e,Im]
     by_cases u:l=0
     · have v:(l==0)=true:=by simpa using u
       rw[v]
       exact⟨_,rfl,rfl,rfl,λ_=>⟨o,p,q,s,λ_=> .inl ⟨u,rfl⟩,λa b=>by omega,n⟩⟩
     · have v:(l==0)=false:=by simpa using u
       rw[v]
       exact⟨_,rfl,rfl,rfl,λ_=>⟨o,p,q,s,λ_=> .inr ⟨u,rfl⟩,λa b=>by omega,n⟩⟩
   · have e:((((i:Int)+1)==6)||(((i:Int)+1)==8))=false:=by simp;omega
     rw[e]
     exact⟨_,rfl,rfl,rfl,λ_=>⟨o,p,q,s,λa=>absurd a t,λ_ _=>rfl,n⟩⟩
 have b:∀(z:Int×bo),z.1≠0→z.2.field=f.field→z.2.at_=f.at_→∃r,(some z:Option (Int×bo))=some r∧r.2.field=f.field∧r.2.at_=f.at_∧(r.1=0→QX r.2.header∧Trans i f.left r.2.stage r.2.left):=
   λz l n p=>⟨z,rfl,n,p,λh=>absurd h l⟩
 have D:∀k,i=k→decide (i=k)=true:=λk e=>Io e
 have N:∀k,i≠k→decide (i=k)=false:=λk e=>Ip e
 have e:1≤f.field.length:=by omega
 by_cases e:i=8
 · rw[D 8 e,Im]
   cases cC f.field != wrap .u64 (qH .u32 (eD .u32 f.sum.b 16) f.sum.a) with
   |true=>exact b _ (by simp) rfl rfl
   |false=>exact⟨_,rfl,rfl,rfl,λ_=>⟨j,by omega,by omega,λ_ _=>rfl,by omega,λ_ _=>by rw[e];rfl,by omega⟩⟩
 rw[N 8 e,Il]
 by_cases k:i=0
 · rw[D 0 k,Im]
   cases (q4 f.field) != [67,72,82,78] with
   |true=>exact b _ (by simp) rfl rfl
   |false=>exact m _ _ (by omega) j (by omega) (by omega) (λ_ _=>rfl) e
 rw[N 0 k,Il]
 by_cases k:i=1
 · rw[D 1 k,Im,aK (z:=0) (i:=0) rfl (by omega)]
   simp only[aB]
   cases (f.field.getD 0 0) != 1 with
   |true=>exact b _ (by simp) rfl rfl
   |false=>exact m _ _ (by omega) j (by omega) (by omega) (λ_ _=>rfl) e
 rw[N 1 k,Il]
 by_cases k:i=2
 · rw[D 2 k,Im,aK (z:=0) (i:=0) rfl (by omega)]
   simp only[aB]
   have l:=gi d 0
   have n:wrap .i64 (f.field.getD 0 0)=f.field.getD 0 0:=wrap64 (by omega)
   rw[n]
   cases t:decide ((({f.header with Left:=f.field.getD 0 0}:aC).Left)>8) with
   |true=>exact b _ (by simp) rfl rfl
   | false =>
     have t:¬f.field.getD 0 0>8:=II t
     exact m _ _ (by omega) ⟨⟨l.1,by show f.field.getD 0 0≤8;omega⟩,j.2.1,j.2.2⟩ (by omega) (by omega) (λ_ _=>rfl) e
 rw[N 2 k,Il]
 by_cases k:i=3
 · rw[D 3 k,Im]
   obtain⟨v,l,o⟩:=jo 2 f.field (by rw[c,k];rfl) (by omega) d
   rw[l,wrap64 (by omega)]
   cases t:decide ((v:Int)>256) with
   |true=>exact b _ (by simp) rfl rfl
   | false =>
     have t:=II t
     exact m _ _ (by omega) j (λ_=>by omega) (by omega) (λa=>absurd k a) e
 rw[N 3 k,Il]
 by_cases k:i=4
 · rw[D 4 k,Im]
   obtain⟨v,l,o⟩:=jo 8 f.field (by rw[c,k];rfl) (by omega) d
   rw[l]
   cases t:decide ((v:Int)>4611686018427387903) with
   |true=>exact b _ (by simp) rfl rfl
   | false =>
     have t:=II t
     have n:wrap .i64 (v:Int)=v:=wrap64 (by omega)
     rw[n]
     exact m _ _ (by omega) ⟨j.1,⟨by show(0:Int)≤(v:Int);omega,by show(v:Int)≤_;omega⟩,j.2.2⟩ (by omega) (by omega) (λ_ _=>rfl) e
 rw[N 4 k,Il]
 by_cases k:i=5
 · rw[D 5 k,Im]
   obtain⟨v,l,o⟩:=jo 8 f.field (by rw[c,k];rfl) (by omega) d
   rw[l]
   cases t:decide ((v:Int)>4611686018427387904) with
   |true=>exact b _ (by simp) rfl rfl
   | false =>
     have t:=II t
     have n:wrap .i64 (v:Int)=v:=wrap64 (by omega)
     rw[n]
     exact m _ _ (by omega) ⟨j.1,j.2.1,⟨by show(0:Int)≤(v:Int);omega,by show(v:Int)≤_;omega⟩⟩ (by omega) (by omega) (λ_ _=>rfl) e
 rw[N 5 k,Il]
 by_cases c:i=6
 · rw[D 6 c,Im]
   cases cC f.field != 320 with
   |true=>exact b _ (by simp) rfl rfl
   |false=>exact m _ _ (by omega) j (by omega) (by omega) (λ_ _=>rfl) e
 rw[N 6 c,Il]
 by_cases c:i=7
 · rw[D 7 c,Im]
   exact m _ _ (by omega) j (by omega) (λ_=>wrap64 (by omega)) (λ_ a=>absurd c a) e
 rw[N 7 c,Il]
 have a:i=9:=by omega
 rw[D 9 a,Im]
 exact b _ (by simp) rfl rfl
end Go.Proofs.YtlkjdchmeihhkaaGreatDoor
set_option maxRecDepth 20000
set_option maxHeartbeats 1000000
namespace Go.Proofs.YtlkjdchmeihhkaaGreatDoor
open Go Go.Sim
open Go.IntKind (wrap)
variable [Fu]
def wG (cs:List (List Int)):Prop:=∀x∈cs,x.length=320∧aV x
def pi (j:Nat) (l:Int) (c:Nat):Prop:=(j≤3→c=0∧l=0)∧(j=4∨j=5→c=0∧0≤l∧l≤256)∧(j=6∨j=7→1≤l∧(c:Int)+l≤256)∧(8≤j→c≤256∧l=0)
theorem pi.left {j c:Nat} {l:Int} (h:pi j l c):0≤l∧l≤256:=by obtain⟨b,d,e,f⟩:=h;by_cases a:j≤3;have:=b a;omega;by_cases b:j=4∨j=5;have:=d b;omega;by_cases d:j=6∨j=7;have:=e d;omega;have:=f (by omega);omega
theorem pi.next {i c:Nat} {l a b:Int} (d:i<10) (h:pi i l c) (t:Trans i l a b):∃j:Nat,j<10∧a=j∧pi j b (if i=7 then c+1 else c):=by obtain⟨a,b,e,f⟩:=h;obtain⟨t3,t7,tn,k,m,t9⟩:=t;match i,d with|0,_=>exact⟨1,by omega,by simpa using m (by omega) (by omega),λ_=>by have:=a (by omega);have:=tn (by omega) (by omega);simp;omega,by omega,by omega,by omega⟩|1,_=>exact⟨2,by omega,by simpa using m (by omega) (by omega),λ_=>by have:=a (by omega);have:=tn (by omega) (by omega);simp;omega,by omega,by omega,by omega⟩|2,_=>exact⟨3,by omega,by simpa using m (by omega) (by omega),λ_=>by have:=a (by omega);have:=tn (by omega) (by omega);simp;omega,by omega,by omega,by omega⟩|3,_=>exact⟨4,by omega,by simpa using m (by omega) (by omega),by omega,λ_=>by have:=a (by omega);have:=t3 rfl;simp;omega,by omega,by omega⟩|4,_=>exact⟨5,by omega,by simpa using m (by omega) (by omega),by omega,λ_=>by have:=b (by omega);have:=tn (by omega) (by omega);simp;omega,by omega,by omega⟩|5,_=>have:=b (by omega);have:=tn (by omega) (by omega);rcases k (by omega) with⟨a,b⟩|⟨a,b⟩;exact⟨8,by omega,b,by omega,by omega,by omega,λ_=>by simp;omega⟩;exact⟨6,by omega,b,by omega,by omega,λ_=>by simp;omega,by omega⟩|6,_=>exact⟨7,by omega,by simpa using m (by omega) (by omega),by omega,by omega,λ_=>by have:=e (by omega);have:=tn (by omega) (by omega);simp;omega,by omega⟩|7,_=>have:=e (by omega);have:=t7 rfl;rcases k (by omega) with⟨a,b⟩|⟨a,b⟩;exact⟨8,by omega,b,by omega,by omega,by omega,λ_=>by simp;omega⟩;exact⟨6,by omega,b,by omega,by omega,λ_=>by simp;omega,by omega⟩|8,_=>exact⟨9,by omega,by simpa using m (by omega) (by omega),by omega,by omega,by omega,λ_=>by have:=f (by omega);have:=tn (by omega) (by omega);simp;omega⟩|9,_=>exact absurd rfl t9
structure X3 (n:Nat) (r:(List (List Int))×(List Int)×Int×Int×Int×aC×aR×Int×Int):Prop where
 ok:r.2.2.2.2.2.2.2.1=0→QX r.2.2.2.2.2.1∧r.1.length≤256∧wG r.1∧0≤r.2.2.1∧r.2.2.1≤n
 bad:r.2.2.2.2.2.2.2.1≠0→0≤r.2.2.2.2.2.2.2.2∧r.2.2.2.2.2.2.2.2≤n
theorem EP {raw:List Int} (a:raw.length<2^30) (c:aV raw): ∃r,fo ⟨[],0,0,0,⟨0,0,0⟩,⟨1,0⟩,0,0⟩ raw=some r∧(r.2.1=0→QX r.2.2.header∧r.1.length≤256∧wG r.1∧0≤r.2.2.at_∧r.2.2.at_≤raw.length)∧(r.2.1≠0→0≤r.2.2.place∧r.2.2.place≤raw.length)∧r.2.2.err=r.2.1:=by unfold fo;obtain⟨r,e,f⟩:=D2 (S:=((List Int)×(List (List Int))×(List Int)×Int×Int×Int×aC×aR×Int×Int)) (R:=((List (List Int))×(List Int)×Int×Int×Int×aC×aR×Int×Int)) (P:=λs=>aV s.1∧wG s.2.1∧s.2.2.1=[]∧s.2.2.2.1+(s.1.length:Int)=(raw.length:Int)∧0≤s.2.2.2.1∧s.2.2.2.2.2.2.2.2.1=0∧∃j:Nat,j<10∧s.2.2.2.2.1=j∧QX s.2.2.2.2.2.2.1∧pi j s.2.2.2.2.2.1 s.2.1.length) (Q:=X3 raw.length) (λs=>s.1.length) (step:=(λ(a,b,d,h,i,k,l,m,n,o)=>bif n==0 then (dn (⟨d,h,i,k,l,m,n,o⟩:bo)).bind λp=>bif decide ((wrap .i64 (p - (d.length:Int)))>(a.length:Int)) then (app d a).bind λq=>some (.done (b,q,wrap .i64 (h+(a.length:Int)),i,k,l,m,n,o)) else (sub a 0 (wrap .i64 (p - (d.length:Int)))).bind λq=>(app d q).bind λq=>(sub a (wrap .i64 (p - (d.length:Int))) (a.length:Int)).bind λa=>((bif i==7 then (df q).bind λt=>(app b [t]).bind λu=>some u else some b :Option (List (List Int)))).bind λv=>(cU (⟨q,wrap .i64 (h+(wrap .i64 (p - (d.length:Int)))),i,k,l,m,n,o⟩:bo)).bind λp=>bif p.1 != 0 then some (.done (v,p.2.field,p.2.at_,p.2.stage,p.2.left,p.2.header,p.2.sum,p.1,wrap .i64 (p.2.at_ - (p.2.field.length:Int)))) else bif decide ((0:Int)≤0∧(0:Int)≤0∧(0:Int)≤(p.2.field.length:Int)) then some (.next (a,v,List.take (Int.toNat 0) p.2.field,p.2.at_,p.2.stage,p.2.left,p.2.header,p.2.sum,p.1,p.2.place)) else none else some (.done (b,d,h,i,k,l,m,n,o)):_→Option (tj _ _))) (s:=(raw,[],[],0,0,0,⟨0,0,0⟩,⟨1,0⟩,0,0)) (λs a=>by obtain⟨i,k,b,at_,b,left,l,n,b,o⟩:=s;obtain⟨p1,p,b,d,h,m,j,q,s,v,x⟩:=a;simp only at p1 p b d h m s v x;subst b;subst m;subst s;obtain⟨a,a,h⟩:=nX q;have s:=x.left;(have w:k.length≤256:=by obtain⟨y,z,m,A⟩:=x;by_cases a:j≤3;have:=y a;omega;by_cases b:j=4∨j=5;have:=z b;omega;by_cases d:j=6∨j=7;have:=m d;omega;have:=A (by omega);omega);(have a:dn (⟨[],at_,(j:Int),left,l,n,0,o⟩:bo)=some (ci j:Int):=by unfold dn;simp only;rw[h];rfl);have b:((0:Int)==0)=true:=rfl;simp only[b,Im];rw[a];simp only[aB,I7];(have a:∀m:Int,m - ((0:Nat):Int)=m:=λm=>by simp);have b:wrap .i64 (ci j:Int)=(ci j:Int):=wrap64 (by omega);simp only[a,b];cases a:decide ((ci j:Int)>(i.length:Int)) with|true=>left;simp only[Im];rw[aW (by rw[cQ];simp;omega)];refine⟨_,rfl,λ_=>⟨v,w,p,?_,?_⟩,λh=>absurd rfl h⟩;show 0≤wrap .i64 (at_+(i.length:Int));rw[wrap64 (by omega)];omega;show wrap .i64 (at_+(i.length:Int))≤_;rw[wrap64 (by omega)];omega|false=>have b:=II a;simp only[Il];rw[oO (h:=(ci j:Int)) (j:=ci j) rfl (by omega)];simp only[aB];(have a:(i.take (ci j)).length=ci j:=by rw[IM];omega);have b:aV (i.take (ci j)):=ed p1 _;rw[aW (by rw[cQ];simp;omega)];simp only[aB,IP];rw[qo (l:=(ci j:Int)) (i:=ci j) rfl (by omega)];simp only[aB];generalize i.take (ci j)=w at*;have d:wrap .i64 (at_+(ci j:Int))=at_+(ci j:Int):=wrap64 (by omega);rw[d];(have d:(bif (j:Int)==7 then(df w).bind λt=>(app k [t]).bind λu=>some u else some k:Option (List (List Int)))=some (if j=7 then k++[w] else k):=by by_cases m:j=7;(have:((j:Int)==7)=true:=by simp;omega);rw[this,Im,vf (by omega),Jm m];simp only[aB];rw[aW (by rw[cQ];simp;omega)];rfl;(have:((j:Int)==7)=false:=by simp;omega);rw[this,Il,Jf m]);rw[d];simp only[aB];obtain⟨r,e,d,t,u⟩:=Cc (f:=⟨w,at_+(ci j:Int),(j:Int),left,l,n,0,o⟩) rfl q (by simp only;omega) b v s;rw[e];simp only[aB];simp only at d t u;cases l:(r.1 != 0) with| true =>(have l:r.1≠0:=by simpa using l);left;simp only[Im];refine⟨_,rfl,λh=>absurd h l,λ_=>?_⟩;show 0≤wrap .i64 (r.2.at_ - (r.2.field.length:Int))∧wrap .i64 (r.2.at_ - (r.2.field.length:Int))≤_;rw[t,d,a,wrap64 (by omega)];omega| false =>(have d:r.1=0:=by simpa using l);right;have g:decide ((0:Int)≤0∧(0:Int)≤0∧(0:Int)≤(r.2.field.length:Int))=true:=Io (by omega);obtain⟨h,l⟩:=u d;obtain⟨n,o,s,u⟩:=pi.next q x l;simp only[Il,g,Im];refine⟨_,rfl,⟨gn p1 _,?_,rfl,?_,?_,d,n,o,s,h,?_⟩,?_⟩;show wG (if j=7 then k++[w] else k);split;rename_i m;intro x d;rcases IK.1 d with d|d;exact p x d;have:=Ji.1 d;subst this;exact⟨by rw[a,m];rfl,b⟩;exact p;show r.2.at_+((i.drop (ci j)).length:Int)=_;rw[t,IZ];omega;show 0≤r.2.at_;rw[t];omega;show pi n r.2.left (if j=7 then k++[w] else k).length;(have:(if j=7 then k++[w] else k).length=(if j=7 then k.length+1 else k.length):=by split<;>simp);rw[this];exact u;show(i.drop (ci j)).length<i.length;rw[IZ];omega) ⟨c,λx d=>(by cases d),rfl,by simp,by simp,rfl,0,by omega,rfl,⟨by simp,by simp,by simp⟩,λ_=>⟨rfl,rfl⟩,by omega,by omega,by omega⟩;rw[e];obtain⟨y,z⟩:=f;exact⟨_,rfl,y,z,rfl⟩
theorem qi {raw:List Int} (a:raw.length<2^30) (b:aV raw):∃r,dO raw=some r∧(r.2.2=0→QX r.1.Header∧r.1.Cells.length≤256∧wG r.1.Cells)∧0≤r.2.1∧r.2.1≤raw.length:=by unfold dO jz;simp only[aB];obtain⟨r,c,d,e,f⟩:=EP a b;rw[c];simp only[aB];cases a:r.2.1==0 with|false=>(have a:r.2.1≠0:=by simpa using a);exact⟨_,rfl,λh=>absurd h a,e a⟩|true=>(have a:r.2.1=0:=by simpa using a);obtain⟨b,c,e,i,j⟩:=d a;simp only[Im];unfold io;simp only[f,a,IH,Il];cases decide (r.2.2.stage<9) with|true=>refine⟨_,rfl,λh=>?_,i,j⟩;simp at h|false=>exact⟨_,rfl,λ_=>⟨b,c,e⟩,by simp,by simp⟩
end Go.Proofs.YtlkjdchmeihhkaaGreatDoor

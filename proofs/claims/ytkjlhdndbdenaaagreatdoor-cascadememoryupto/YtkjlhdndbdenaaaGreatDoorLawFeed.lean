import Derived.Test.YtkjlhdndbdenaaaGreatDoorLawRead
set_option autoImplicit true
set_option relaxedAutoImplicit true
set_option linter.all false
set_option maxRecDepth 20000
set_option maxHeartbeats 1000000
namespace Go.Proofs.YtkjlhdndbdenaaaGreatDoor
open Go Go.Sim
open Go.IntKind (wrap)
variable [Fu]
def c9 (j:Nat) (w:List Int) (s:aF):Int:=match j with|0=>bif w != [67,72,82,78] then 60 else 0|1=>bif w.getD 0 0 != 1 then 61 else 0|2=>bif decide (w.getD 0 0>8) then 62 else 0|3=>bif decide (bR w>256) then 63 else 0|4=>bif decide (bR w>4611686018427387903) then 62 else 0|5=>bif decide (bR w>4611686018427387904) then 62 else 0|6=>bif bR w != 320 then 64 else 0|7=>0|8=>bif bR w != fF s then 65 else 0|_=>66
def dJ (j:Nat) (w:List Int) (l:Int):Int:=match j with|3=>bR w|7=>l - 1|_=>l
def kJ (j:Nat) (w:List Int) (hd:aB):aB:=match j with|2=>{hd with Left:=w.getD 0 0}|4=>{hd with Round:=wrap .i64 (bR w)}|5=>{hd with Epoch:=wrap .i64 (bR w)}|_=>hd
def tA (j:Nat) (w:List Int) (s:aF):aF:=if j=8 then s else gH s w
def ft (j:Nat) (l:Int):Nat:=if j=5∨j=7 then(if l=0 then 8 else 6) else j+1
theorem lj {t:List Int} (b:aT t):cA t=t:=by
 unfold cA
 conv=>rhs;rw[←List.map_id t]
 apply xm
 intro a c
 have:=b a c
 show((UInt8.ofNat a.toNat).toNat:Int)=a
 rw[UInt8.toNat_ofNat']
 omega
theorem rQ {f:aL} {i:Nat} (a:f.stage=i) (h:i<10) (b:f.field.length=aY i) (c:aT f.field) (d:0≤f.left∧f.left≤256):
   ∃q:Int,bj f=some (c9 i f.field f.sum,⟨f.field,f.at_,q,dJ i f.field f.left,kJ i f.field f.header,tA i f.field f.sum,f.err,f.place⟩)∧(c9 i f.field f.sum=0→q=(ft i (dJ i f.field f.left):Int)):=by
 unfold bj
 have d:=gm h
 have d:f.field.length<2^30:=by omega
 rw[lJ d,nP d,lj c]
 simp only[aC,cT]
 have d:∀k:Nat,(((i:Nat):Int)==((k:Nat):Int))=decide (i=k):=λk=>by
   rw[wY];simp only[yb,wz];omega
 rw[a]
 have a:(((i:Nat):Int)==0)=decide (i=0):=d 0
 have e:(((i:Nat):Int)==1)=decide (i=1):=d 1
 have j:(((i:Nat):Int)==2)=decide (i=2):=d 2
 have l:(((i:Nat):Int)==3)=decide (i=3):=d 3
 have m:(((i:Nat):Int)==4)=decide (i=4):=d 4
 have n:(((i:Nat):Int)==5)=decide (i=5):=d 5
 have o:(((i:Nat):Int)==6)=decide (i=6):=d 6
 have p:(((i:Nat):Int)==7)=decide (i=7):=d 7
 have r:(((i:Nat):Int)==8)=decide (i=8):=d 8
 have s:(((i:Nat):Int)==9)=decide (i=9):=d 9
 rw[a,e,j,l,m,n,o,p,r,s]
 have a:wrap .i64 ((i:Int)+1)=(i:Int)+1:=bA (by omega)
 rw[a]
 have a:∀(l:Int) (d:aB),i≠8→∃q:Int,(((bif (((i:Int)+1)==6)||(((i:Int)+1)==8) then
        bif l==0 then
         some 8
        else
         some 6
       else
        some ((i:Int)+1)
        :Option Int)).bind λe=>
       some ((0:Int),(⟨f.field,f.at_,e,l,d,gH f.sum f.field,f.err,f.place⟩:aL)))=some (0,⟨f.field,f.at_,q,l,d,gH f.sum f.field,f.err,f.place⟩)∧q=(ft i l:Int):=by
   intro l d d
   unfold ft
   by_cases d:i=5∨i=7
   · have e:((((i:Int)+1)==6)||(((i:Int)+1)==8))=true:=by simp;omega
     rw[e,wd,xN d]
     by_cases j:l=0
     · have m:(l==0)=true:=by simpa using j
       rw[m,xN j];exact⟨_,rfl,rfl⟩
     · have m:(l==0)=false:=by simpa using j
       rw[m,xv j];exact⟨_,rfl,rfl⟩
   · have e:((((i:Int)+1)==6)||(((i:Int)+1)==8))=false:=by simp;omega
     rw[e,xv d]
     exact⟨_,rfl,by omega⟩
 have D:∀k,i=k→decide (i=k)=true:=λk e=>wg e
 have N:∀k,i≠k→decide (i=k)=false:=λk e=>wk e
 by_cases j:i=8
 · rw[D 8 j,wd]
   have e:wrap .u64 (kC .u32 (c5 .u32 f.sum.b 16) f.sum.a)=fF f.sum:=by
     have:=jc f.sum
     unfold fF at this;exact eX (by omega)
   rw[e]
   subst j
   simp only[c9,dJ,kJ,tA,ft,zr]
   cases d:bR f.field != fF f.sum with
   |true=>exact⟨_,rfl,λe=>by cases e⟩
   |false=>exact⟨_,rfl,λ_=>rfl⟩
 rw[N 8 j,wc]
 have k:tA i f.field f.sum=gH f.sum f.field:=xv j
 rw[k]
 by_cases k:i=0
 · rw[D 0 k,wd]
   obtain⟨q,l,m⟩:=a f.left f.header j
   have e:c9 i f.field f.sum=bif f.field != [67,72,82,78] then 60 else 0:=by subst k;rfl
   have n:dJ i f.field f.left=f.left:=by subst k;rfl
   have o:kJ i f.field f.header=f.header:=by subst k;rfl
   rw[e,n,o]
   cases d:f.field != [67,72,82,78] with
   |true=>exact⟨_,rfl,λe=>by cases e⟩
   |false=>exact⟨q,l,λ_=>m⟩
 rw[N 0 k,wc]
 by_cases k:i=1
 · rw[D 1 k,wd,aI (z:=0) (i:=0) rfl (by omega)]
   simp only[aC]
   obtain⟨q,l,m⟩:=a f.left f.header j
   have e:c9 i f.field f.sum=bif f.field.getD 0 0 != 1 then 61 else 0:=by subst k;rfl
   have n:dJ i f.field f.left=f.left:=by subst k;rfl
   have o:kJ i f.field f.header=f.header:=by subst k;rfl
   rw[e,n,o]
   cases d:f.field.getD 0 0 != 1 with
   |true=>exact⟨_,rfl,λe=>by cases e⟩
   |false=>exact⟨q,l,λ_=>m⟩
 rw[N 1 k,wc]
 by_cases k:i=2
 · rw[D 2 k,wd,aI (z:=0) (i:=0) rfl (by omega)]
   simp only[aC]
   have p:=fj c 0
   have p:wrap .i64 (f.field.getD 0 0)=f.field.getD 0 0:=bA (by omega)
   rw[p]
   obtain⟨q,l,m⟩:=a f.left {f.header with Left:=f.field.getD 0 0} j
   have e:c9 i f.field f.sum=bif decide ((({f.header with Left:=f.field.getD 0 0}:aB).Left)>8) then 62 else 0:=by subst k;rfl
   have n:dJ i f.field f.left=f.left:=by subst k;rfl
   have o:kJ i f.field f.header={f.header with Left:=f.field.getD 0 0}:=by subst k;rfl
   rw[e,n,o]
   cases d:decide ((({f.header with Left:=f.field.getD 0 0}:aB).Left)>8) with
   |true=>exact⟨_,rfl,λe=>by cases e⟩
   |false=>exact⟨q,l,λ_=>m⟩
 rw[N 2 k,wc]
 by_cases k:i=3
 · rw[D 3 k,wd]
   obtain⟨v,p,r⟩:=eg 2 f.field (by rw[b,k];rfl) (by omega) c
   have e:c9 i f.field f.sum=bif decide (bR f.field>256) then 63 else 0:=by subst k;rfl
   have n:dJ i f.field f.left=bR f.field:=by subst k;rfl
   have o:kJ i f.field f.header=f.header:=by subst k;rfl
   rw[e,n,o,p,bA (by omega)]
   obtain⟨q,l,m⟩:=a (v:Int) f.header j
   cases d:decide ((v:Int)>256) with
   |true=>exact⟨_,rfl,λe=>by cases e⟩
   |false=>exact⟨q,l,λ_=>m⟩
 rw[N 3 k,wc]
 by_cases b:i=4
 · rw[D 4 b,wd]
   have e:c9 i f.field f.sum=bif decide (bR f.field>4611686018427387903) then 62 else 0:=by subst b;rfl
   have n:dJ i f.field f.left=f.left:=by subst b;rfl
   have o:kJ i f.field f.header={f.header with Round:=wrap .i64 (bR f.field)}:=by subst b;rfl
   rw[e,n,o]
   obtain⟨q,l,m⟩:=a f.left {f.header with Round:=wrap .i64 (bR f.field)} j
   cases d:decide (bR f.field>4611686018427387903) with
   |true=>exact⟨_,rfl,λe=>by cases e⟩
   |false=>exact⟨q,l,λ_=>m⟩
 rw[N 4 b,wc]
 by_cases b:i=5
 · rw[D 5 b,wd]
   have e:c9 i f.field f.sum=bif decide (bR f.field>4611686018427387904) then 62 else 0:=by subst b;rfl
   have n:dJ i f.field f.left=f.left:=by subst b;rfl
   have o:kJ i f.field f.header={f.header with Epoch:=wrap .i64 (bR f.field)}:=by subst b;rfl
   rw[e,n,o]
   obtain⟨q,l,m⟩:=a f.left {f.header with Epoch:=wrap .i64 (bR f.field)} j
   cases d:decide (bR f.field>4611686018427387904) with
   |true=>exact⟨_,rfl,λe=>by cases e⟩
   |false=>exact⟨q,l,λ_=>m⟩
 rw[N 5 b,wc]
 by_cases b:i=6
 · rw[D 6 b,wd]
   have e:c9 i f.field f.sum=bif bR f.field != 320 then 64 else 0:=by subst b;rfl
   have n:dJ i f.field f.left=f.left:=by subst b;rfl
   have o:kJ i f.field f.header=f.header:=by subst b;rfl
   rw[e,n,o]
   obtain⟨q,l,m⟩:=a f.left f.header j
   cases d:bR f.field != 320 with
   |true=>exact⟨_,rfl,λe=>by cases e⟩
   |false=>exact⟨q,l,λ_=>m⟩
 rw[N 6 b,wc]
 by_cases b:i=7
 · rw[D 7 b,wd]
   have e:c9 i f.field f.sum=0:=by subst b;rfl
   have n:dJ i f.field f.left=f.left - 1:=by subst b;rfl
   have o:kJ i f.field f.header=f.header:=by subst b;rfl
   rw[e,n,o,bA (by omega)]
   obtain⟨q,l,m⟩:=a (f.left - 1) f.header j
   exact⟨q,l,λ_=>m⟩
 rw[N 7 b,wc]
 have a:i=9:=by omega
 rw[D 9 a,wd]
 have e:c9 i f.field f.sum=66:=by subst a;rfl
 have n:dJ i f.field f.left=f.left:=by subst a;rfl
 have o:kJ i f.field f.header=f.header:=by subst a;rfl
 rw[e,n,o]
 exact⟨_,rfl,λe=>by cases e⟩
def gh:aP:=⟨⟨0,0,0⟩,[]⟩
def fE:Nat→List Int→Int→Nat→Int→aB→aF→List (List Int)→aP×Int×Int
 |0,_,_,_,_,_,_,_=>(gh,0,0)
 |n+1,z,a,j,l,b,s,cs=>
  bif decide (z.length<aY j) then(bif j==9 then(⟨b,cs⟩,0,0) else(gh,a+z.length,67)) else
  bif c9 j (z.take (aY j)) s != 0 then(gh,a,c9 j (z.take (aY j)) s) else
  fE n (z.drop (aY j)) (a+(aY j:Int)) (ft j (dJ j (z.take (aY j)) l)) (dJ j (z.take (aY j)) l) (kJ j (z.take (aY j)) b) (tA j (z.take (aY j)) s) (if j=7 then cs++[z.take (aY j)] else cs)
def CO (r:(List (List Int))×(List Int)×Int×Int×Int×aB×aF×Int×Int):aP×Int×Int:=bif r.2.2.2.2.2.2.2.1==0 then(bif decide (r.2.2.2.1<9) then(gh,r.2.2.1,67) else(⟨r.2.2.2.2.2.1,r.1⟩,0,0)) else(gh,r.2.2.2.2.2.2.2.2,r.2.2.2.2.2.2.2.1)
theorem jZ {j:Nat} (b:j<10) (a l:Int) (hd:aB) (s:aF):bz (⟨[],a,(j:Int),l,hd,s,0,0⟩:aL)=some (aY j:Int):=by unfold bz;simp only;rw[(gm b).2.2];rfl
theorem qn {z:List Int} {cs:List (List Int)} {a l:Int} {hd:aB} {s:aF} {j:Nat} (c:j<10) (b:z.length<aY j) (b:0≤a∧a≤2^40): Loop.run fu (z,cs,[],a,(j:Int),l,hd,s,0,0)=some (cs,z,a+(z.length:Int),(j:Int),l,hd,s,0,0):=by apply zO;have b:=gm c;unfold fu;have b:((0:Int)==0)=true:=rfl;simp only[b,wd];rw[jZ c];(have b:∀m:Int,m - ((0:Nat):Int)=m:=λm=>by simp);have d:wrap .i64 (aY j:Int)=(aY j:Int):=bA (by omega);have c:decide ((aY j:Int)>(z.length:Int))=true:=wg (by omega);simp only[aC,xc,b,d,c,wd];rw[bb (by rw[fm];simp;omega),bA (by omega)];simp only[aC,wQ]
theorem sY {z:List Int} {cs:List (List Int)} {a l:Int} {hd:aB} {s:aF} {j:Nat} (c:j<10) (d:aY j≤z.length) (b:0≤a∧a≤2^40) (b:z.length<2^30) (b:cs.length≤1000) (e:aT z) (f:0≤l∧l≤256):
   (c9 j (z.take (aY j)) s≠0→∃r,Loop.run fu (z,cs,[],a,(j:Int),l,hd,s,0,0)=some r∧CO r=(gh,a,c9 j (z.take (aY j)) s))∧
   (c9 j (z.take (aY j)) s=0→Loop.run fu (z,cs,[],a,(j:Int),l,hd,s,0,0)=Loop.run fu (z.drop (aY j),if j=7 then cs++[z.take (aY j)] else cs,[],a+(aY j:Int),(ft j (dJ j (z.take (aY j)) l):Int),dJ j (z.take (aY j)) l,kJ j (z.take (aY j)) hd,tA j (z.take (aY j)) s,0,0)):=by
 obtain⟨b,b,b⟩:=gm c
 generalize i:z.take (aY j)=w
 have k:w.length=aY j:=by rw[←i,wx];omega
 have m:aT w:=λb h=>e b (by rw[←i] at h;exact xq h)
 have J:=λb=>rQ (f:=⟨w,b,(j:Int),l,hd,s,0,0⟩) (i:=j) rfl c k m f
 simp only at J
 have step:∀q y,bj ⟨w,a+(aY j:Int),(j:Int),l,hd,s,0,0⟩=some (y,q)→fu (z,cs,[],a,(j:Int),l,hd,s,0,0)=
    (bif y != 0 then
        some (.done (if j=7 then cs++[w] else cs,q.field,q.at_,q.stage,q.left,q.header,q.sum,y,wrap .i64 (q.at_ - (q.field.length:Int))))
       else
        bif decide ((0:Int)≤0∧(0:Int)≤0∧(0:Int)≤(q.field.length:Int)) then
        some (.next (z.drop (aY j),if j=7 then cs++[w] else cs,List.take (Int.toNat 0) q.field,q.at_,q.stage,q.left,q.header,q.sum,y,q.place))
        else none):=by
   intro q y b
   unfold fu
   have f:((0:Int)==0)=true:=rfl
   simp only[f,wd]
   rw[jZ c]
   have c:∀m:Int,m - ((0:Nat):Int)=m:=λm=>by simp
   have f:wrap .i64 (aY j:Int)=(aY j:Int):=bA (by omega)
   have h:decide ((aY j:Int)>(z.length:Int))=false:=wk (by omega)
   simp only[aC,xc,c,f,h,wc]
   rw[mZ (h:=(aY j:Int)) (j:=aY j) rfl d,i]
   simp only[aC]
   rw[bb (by rw[fm];simp;omega)]
   simp only[aC,wQ]
   rw[pu (l:=(aY j:Int)) (i:=aY j) rfl d]
   simp only[aC]
   have c:wrap .i64 (a+(aY j:Int))=a+(aY j:Int):=bA (by omega)
   rw[c]
   have c:(bif (j:Int)==7 then(bZ w).bind λd=>(app cs [d]).bind λd=>some d else some cs:Option (List (List Int)))=some (if j=7 then cs++[w] else cs):=by
    by_cases d:j=7
    · have:((j:Int)==7)=true:=by simp;omega
      rw[this,wd,pt (by omega),xN d]
      simp only[aC]
      rw[bb (by rw[fm];simp;omega)];rfl
    · have:((j:Int)==7)=false:=by simp;omega
      rw[this,wc,xv d]
   rw[c]
   simp only[aC]
   rw[b]
   rfl
 obtain⟨q,b,c⟩:=J (a+(aY j:Int))
 have d:=step _ _ b
 constructor
 · intro b
   have e:(c9 j w s != 0)=true:=by simpa using b
   rw[e,wd] at d
   refine⟨_,zO d,?_⟩
   have f:(c9 j w s==0)=false:=by simpa using b
   simp only[CO,f,wc]
   rw[k,bA (by omega)]
   simp
 · intro b
   have e:(c9 j w s != 0)=false:=by simpa using b
   have g:decide ((0:Int)≤0∧(0:Int)≤0∧(0:Int)≤(w.length:Int))=true:=wg (by omega)
   rw[e,wc] at d
   simp only[g,wd] at d
   rw[zV d,c b,b]
   rfl
theorem oQ {j c:Nat} {l:Int} {w:List Int} {s:aF} (f:j<10) (h:ic j l c) (a:aT w) (d:w.length=aY j) (i:c9 j w s=0):ft j (dJ j w l)<10∧ic (ft j (dJ j w l)) (dJ j w l) (if j=7 then c+1 else c):=by (have t:Trans j l (ft j (dJ j w l):Int) (dJ j w l):=by (have k:j=3→0≤dJ j w l∧dJ j w l≤256:=λe=>by subst e;obtain⟨v,b,_⟩:=eg 2 w (by rw[d];rfl) (by omega) a;(have:bR w≤256:=by simp only[c9] at i;cases a:decide (bR w>256) with|true=>rw[a] at i;cases i|false=>have:=wt a;omega);show 0≤bR w∧bR w≤256;omega);(have m:j=7→dJ j w l=l - 1:=λe=>by subst e;rfl);(have n:j≠3→j≠7→dJ j w l=l:=λa b=>by match j,f with|0,_|1,_|2,_|4,_|5,_|6,_|8,_|9,_=>rfl|3,_=>exact absurd rfl a|7,_=>exact absurd rfl b);refine⟨k,m,n,λe=>?_,λa b=>?_,λe=>?_⟩;unfold ft;rw[xN e];by_cases a:dJ j w l=0;exact .inl ⟨a,by rw[xN a];rfl⟩;exact .inr ⟨a,by rw[xv a];rfl⟩;unfold ft;rw[xv (by omega)];omega;subst e;cases i);obtain⟨a,b,e,k⟩:=h.next f t;(have:ft j (dJ j w l)=a:=by omega);rw[this];exact⟨b,k⟩
theorem q6:∀(n:Nat) (z:List Int) (a:Int) (j:Nat) (l:Int) (hd:aB) (s:aF) (cs:List (List Int)),z.length<n→j<10→z.length<2^30→0≤a→a+(z.length:Int)≤2^40→aT z→ic j l cs.length→ ∃r,Loop.run fu (z,cs,[],a,(j:Int),l,hd,s,0,0)=some r∧CO r=fE n z a j l hd s cs|0,z,_,_,_,_,_,_,h,_,_,_,_,_,_=>by omega|n+1,z,a,j,l,hd,s,cs,h,hj,hr,h0,h1,hb,hS=>by (have hc:cs.length≤256:=by obtain⟨t1,t2,t3,t4⟩:=hS;by_cases a1:j≤3;have:=t1 a1;omega;by_cases a2:j=4∨j=5;have:=t2 a2;omega;by_cases a3:j=6∨j=7;have:=t3 a3;omega;have:=t4 (by omega);omega);have hs:=gm hj;unfold fE;by_cases hz:z.length<aY j;rw[wg hz,wd];refine⟨_,qn hj hz ⟨h0,by omega⟩,?_⟩;have f:((0:Int)==0)=true:=rfl;simp only[CO,f,wd];by_cases h9:j=9;have c:decide ((j:Int)<9)=false:=wk (by omega);(have d:(j==9)=true:=by simpa using h9);rw[c,d];rfl;have c:decide ((j:Int)<9)=true:=wg (by omega);(have d:(j==9)=false:=by simpa using h9);rw[c,d];rfl;rw[wk hz,wc];obtain⟨o1,o2⟩:=sY (hd:=hd) (s:=s) hj (by omega) ⟨h0,by omega⟩ hr (by omega) hb hS.left (cs:=cs) (a:=a);have i:aT (z.take (aY j)):=λb h=>hb b (xq h);cases he:c9 j (z.take (aY j)) s != 0 with|true=>exact o1 (by simpa using he)| false =>(have e:c9 j (z.take (aY j)) s=0:=by simpa using he);rw[o2 e,wc];obtain⟨q1,q2⟩:=oQ hj hS i (by rw[wx];omega) e;refine q6 n _ _ _ _ _ _ _ (by simp;omega) q1 (by simp;omega) (by omega) (by simp;omega) (λb h=>hb b (List.mem_of_mem_drop h)) ?_;(have e7:(if j=7 then cs++[z.take (aY j)] else cs).length=if j=7 then cs.length+1 else cs.length:=by by_cases h7:j=7<;>simp[h7]);rw[e7];exact q2
def nM (raw:List Int):aP×Int×Int:=fE (raw.length+1) raw 0 0 0 ⟨0,0,0⟩ ⟨1,0⟩ []
theorem jb {raw:List Int} (hl:raw.length<2^30) (hb:aT raw):dW raw=some (nM raw):=by obtain⟨r,hr,ha⟩:=q6 (raw.length+1) raw 0 0 0 ⟨0,0,0⟩ ⟨1,0⟩ [] (by omega) (by omega) hl (by omega) (by omega) hb ⟨λ_=>⟨rfl,rfl⟩,by omega,by omega,by omega⟩;unfold dW eF;simp only[aC];unfold cL;show(((Loop.run fu _).bind _).bind _).bind _=_;have a:Loop.run fu (raw,[],[],0,0,0,⟨0,0,0⟩,⟨1,0⟩,0,0)=some r:=hr;rw[a];show _=some (fE (raw.length+1) raw 0 0 0 ⟨0,0,0⟩ ⟨1,0⟩ []);rw[←ha];obtain⟨r1,r2,r3,r4,r5,r6,r7,r8,r9⟩:=r;simp only[aC,CO,dR];cases h8:r8==0 with|true=>((have b:(r8 != 0)=false:=by simp[bne,h8]);simp only[wd,b,wc];cases h9:decide (r4<9) with|true=>rfl|false=>rfl)|false=>rfl
end Go.Proofs.YtkjlhdndbdenaaaGreatDoor

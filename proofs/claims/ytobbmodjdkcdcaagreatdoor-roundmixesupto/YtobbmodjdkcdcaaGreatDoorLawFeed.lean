import Derived.Test.YtobbmodjdkcdcaaGreatDoorLawRead
set_option autoImplicit true
set_option relaxedAutoImplicit true
set_option linter.all false
set_option maxRecDepth 20000
set_option maxHeartbeats 1000000
namespace Go.Proofs.YtobbmodjdkcdcaaGreatDoor
open Go Go.Sim
open Go.IntKind (wrap)
variable [Fu]
def Pa (j:Nat) (w:List Int) (s:aN):Int:=match j with|0=>bif w != [67,72,82,78] then 60 else 0|1=>bif w.getD 0 0 != 1 then 61 else 0|2=>bif decide (w.getD 0 0>8) then 62 else 0|3=>bif decide (p_ w>256) then 63 else 0|4=>bif decide (p_ w>4611686018427387903) then 62 else 0|5=>bif decide (p_ w>4611686018427387904) then 62 else 0|6=>bif p_ w != 320 then 64 else 0|7=>0|8=>bif p_ w != lQ s then 65 else 0|_=>66
def Pu (j:Nat) (w:List Int) (l:Int):Int:=match j with|3=>p_ w|7=>l - 1|_=>l
def QP (j:Nat) (w:List Int) (hd:aD):aD:=match j with|2=>{hd with Left:=w.getD 0 0}|4=>{hd with Round:=wrap .i64 (p_ w)}|5=>{hd with Epoch:=wrap .i64 (p_ w)}|_=>hd
def Su (j:Nat) (w:List Int) (s:aN):aN:=if j=8 then s else Qb s w
def kP (j:Nat) (l:Int):Nat:=if j=5∨j=7 then(if l=0 then 8 else 6) else j+1
theorem vK {t:List Int} (hb:aT t):Qt t=t:=by
 unfold Qt
 conv=>rhs;rw[←List.map_id t]
 apply IJ
 intro a ha
 have:=hb a ha
 show((UInt8.ofNat a.toNat).toNat:Int)=a
 rw[Ku]
 omega
theorem DQ {f:be} {i:Nat} (hs:f.stage=i) (h:i<10) (hl:f.field.length=bY i) (hb:aT f.field) (hleft:0≤f.left∧f.left≤256):
   ∃q:Int,cM f=some (Pa i f.field f.sum,⟨f.field,f.at_,q,Pu i f.field f.left,QP i f.field f.header,Su i f.field f.sum,f.err,f.place⟩)∧(Pa i f.field f.sum=0→q=(kP i (Pu i f.field f.left):Int)):=by
 unfold cM
 have hsz:=m6 h
 have hl30:f.field.length<2^30:=by omega
 rw[wt hl30,zQ hl30,vK hb]
 simp only[aB,fo]
 have hc:∀k:Nat,(((i:Nat):Int)==((k:Nat):Int))=decide (i=k):=λk=>by
   rw[H3];simp only[Jg,HB];omega
 rw[hs]
 have c0:(((i:Nat):Int)==0)=decide (i=0):=hc 0
 have c1:(((i:Nat):Int)==1)=decide (i=1):=hc 1
 have c2:(((i:Nat):Int)==2)=decide (i=2):=hc 2
 have c3:(((i:Nat):Int)==3)=decide (i=3):=hc 3
 have c4:(((i:Nat):Int)==4)=decide (i=4):=hc 4
 have c5:(((i:Nat):Int)==5)=decide (i=5):=hc 5
 have c6:(((i:Nat):Int)==6)=decide (i=6):=hc 6
 have c7:(((i:Nat):Int)==7)=decide (i=7):=hc 7
 have c8:(((i:Nat):Int)==8)=decide (i=8):=hc 8
 have c9:(((i:Nat):Int)==9)=decide (i=9):=hc 9
 rw[c0,c1,c2,c3,c4,c5,c6,c7,c8,c9]
 have hw1:wrap .i64 ((i:Int)+1)=(i:Int)+1:=wrap64 (by omega)
 rw[hw1]
 have fin:∀(l:Int) (hd:aD),i≠8→∃q:Int,(((bif (((i:Int)+1)==6)||(((i:Int)+1)==8) then
        bif l==0 then
         some 8
        else
         some 6
       else
        some ((i:Int)+1)
        :Option Int)).bind λx30=>
       some ((0:Int),(⟨f.field,f.at_,x30,l,hd,Qb f.sum f.field,f.err,f.place⟩:be)))=some (0,⟨f.field,f.at_,q,l,hd,Qb f.sum f.field,f.err,f.place⟩)∧q=(kP i l:Int):=by
   intro l hd h8
   unfold kP
   by_cases hx:i=5∨i=7
   · have e:((((i:Int)+1)==6)||(((i:Int)+1)==8))=true:=by simp;omega
     rw[e,Hn,Il hx]
     by_cases hz:l=0
     · have ez:(l==0)=true:=by simpa using hz
       rw[ez,Il hz];exact⟨_,rfl,rfl⟩
     · have ez:(l==0)=false:=by simpa using hz
       rw[ez,Ic hz];exact⟨_,rfl,rfl⟩
   · have e:((((i:Int)+1)==6)||(((i:Int)+1)==8))=false:=by simp;omega
     rw[e,Ic hx]
     exact⟨_,rfl,by omega⟩
 have D:∀k,i=k→decide (i=k)=true:=λk e=>Ho e
 have N:∀k,i≠k→decide (i=k)=false:=λk e=>Hp e
 by_cases k8:i=8
 · rw[D 8 k8,Hn]
   have e:wrap .u64 (PV .u32 (OX .u32 f.sum.b 16) f.sum.a)=lQ f.sum:=by
     have:=qR f.sum
     unfold lQ at this;exact jG (by omega)
   rw[e]
   subst k8
   simp only[Pa,Pu,QP,Su,kP,Ks]
   cases hx:p_ f.field != lQ f.sum with
   |true=>exact⟨_,rfl,λe=>by cases e⟩
   |false=>exact⟨_,rfl,λ_=>rfl⟩
 rw[N 8 k8,Hm]
 have hj8:Su i f.field f.sum=Qb f.sum f.field:=Ic k8
 rw[hj8]
 by_cases k0:i=0
 · rw[D 0 k0,Hn]
   obtain⟨q,h1,h2⟩:=fin f.left f.header k8
   have e:Pa i f.field f.sum=bif f.field != [67,72,82,78] then 60 else 0:=by subst k0;rfl
   have e2:Pu i f.field f.left=f.left:=by subst k0;rfl
   have e3:QP i f.field f.header=f.header:=by subst k0;rfl
   rw[e,e2,e3]
   cases hx:f.field != [67,72,82,78] with
   |true=>exact⟨_,rfl,λe=>by cases e⟩
   |false=>exact⟨q,h1,λ_=>h2⟩
 rw[N 0 k0,Hm]
 by_cases k1:i=1
 · rw[D 1 k1,Hn,aJ (z:=0) (i:=0) rfl (by omega)]
   simp only[aB]
   obtain⟨q,h1,h2⟩:=fin f.left f.header k8
   have e:Pa i f.field f.sum=bif f.field.getD 0 0 != 1 then 61 else 0:=by subst k1;rfl
   have e2:Pu i f.field f.left=f.left:=by subst k1;rfl
   have e3:QP i f.field f.header=f.header:=by subst k1;rfl
   rw[e,e2,e3]
   cases hx:f.field.getD 0 0 != 1 with
   |true=>exact⟨_,rfl,λe=>by cases e⟩
   |false=>exact⟨q,h1,λ_=>h2⟩
 rw[N 1 k1,Hm]
 by_cases k2:i=2
 · rw[D 2 k2,Hn,aJ (z:=0) (i:=0) rfl (by omega)]
   simp only[aB]
   have hg:=fG hb 0
   have hw:wrap .i64 (f.field.getD 0 0)=f.field.getD 0 0:=wrap64 (by omega)
   rw[hw]
   obtain⟨q,h1,h2⟩:=fin f.left {f.header with Left:=f.field.getD 0 0} k8
   have e:Pa i f.field f.sum=bif decide ((({f.header with Left:=f.field.getD 0 0}:aD).Left)>8) then 62 else 0:=by subst k2;rfl
   have e2:Pu i f.field f.left=f.left:=by subst k2;rfl
   have e3:QP i f.field f.header={f.header with Left:=f.field.getD 0 0}:=by subst k2;rfl
   rw[e,e2,e3]
   cases hx:decide ((({f.header with Left:=f.field.getD 0 0}:aD).Left)>8) with
   |true=>exact⟨_,rfl,λe=>by cases e⟩
   |false=>exact⟨q,h1,λ_=>h2⟩
 rw[N 2 k2,Hm]
 by_cases k3:i=3
 · rw[D 3 k3,Hn]
   obtain⟨v,hv,hv2⟩:=iQ 2 f.field (by rw[hl,k3];rfl) (by omega) hb
   have e:Pa i f.field f.sum=bif decide (p_ f.field>256) then 63 else 0:=by subst k3;rfl
   have e2:Pu i f.field f.left=p_ f.field:=by subst k3;rfl
   have e3:QP i f.field f.header=f.header:=by subst k3;rfl
   rw[e,e2,e3,hv,wrap64 (by omega)]
   obtain⟨q,h1,h2⟩:=fin (v:Int) f.header k8
   cases hx:decide ((v:Int)>256) with
   |true=>exact⟨_,rfl,λe=>by cases e⟩
   |false=>exact⟨q,h1,λ_=>h2⟩
 rw[N 3 k3,Hm]
 by_cases k4:i=4
 · rw[D 4 k4,Hn]
   have e:Pa i f.field f.sum=bif decide (p_ f.field>4611686018427387903) then 62 else 0:=by subst k4;rfl
   have e2:Pu i f.field f.left=f.left:=by subst k4;rfl
   have e3:QP i f.field f.header={f.header with Round:=wrap .i64 (p_ f.field)}:=by subst k4;rfl
   rw[e,e2,e3]
   obtain⟨q,h1,h2⟩:=fin f.left {f.header with Round:=wrap .i64 (p_ f.field)} k8
   cases hx:decide (p_ f.field>4611686018427387903) with
   |true=>exact⟨_,rfl,λe=>by cases e⟩
   |false=>exact⟨q,h1,λ_=>h2⟩
 rw[N 4 k4,Hm]
 by_cases k5:i=5
 · rw[D 5 k5,Hn]
   have e:Pa i f.field f.sum=bif decide (p_ f.field>4611686018427387904) then 62 else 0:=by subst k5;rfl
   have e2:Pu i f.field f.left=f.left:=by subst k5;rfl
   have e3:QP i f.field f.header={f.header with Epoch:=wrap .i64 (p_ f.field)}:=by subst k5;rfl
   rw[e,e2,e3]
   obtain⟨q,h1,h2⟩:=fin f.left {f.header with Epoch:=wrap .i64 (p_ f.field)} k8
   cases hx:decide (p_ f.field>4611686018427387904) with
   |true=>exact⟨_,rfl,λe=>by cases e⟩
   |false=>exact⟨q,h1,λ_=>h2⟩
 rw[N 5 k5,Hm]
 by_cases k6:i=6
 · rw[D 6 k6,Hn]
   have e:Pa i f.field f.sum=bif p_ f.field != 320 then 64 else 0:=by subst k6;rfl
   have e2:Pu i f.field f.left=f.left:=by subst k6;rfl
   have e3:QP i f.field f.header=f.header:=by subst k6;rfl
   rw[e,e2,e3]
   obtain⟨q,h1,h2⟩:=fin f.left f.header k8
   cases hx:p_ f.field != 320 with
   |true=>exact⟨_,rfl,λe=>by cases e⟩
   |false=>exact⟨q,h1,λ_=>h2⟩
 rw[N 6 k6,Hm]
 by_cases k7:i=7
 · rw[D 7 k7,Hn]
   have e:Pa i f.field f.sum=0:=by subst k7;rfl
   have e2:Pu i f.field f.left=f.left - 1:=by subst k7;rfl
   have e3:QP i f.field f.header=f.header:=by subst k7;rfl
   rw[e,e2,e3,wrap64 (by omega)]
   obtain⟨q,h1,h2⟩:=fin (f.left - 1) f.header k8
   exact⟨q,h1,λ_=>h2⟩
 rw[N 7 k7,Hm]
 have k9:i=9:=by omega
 rw[D 9 k9,Hn]
 have e:Pa i f.field f.sum=66:=by subst k9;rfl
 have e2:Pu i f.field f.left=f.left:=by subst k9;rfl
 have e3:QP i f.field f.header=f.header:=by subst k9;rfl
 rw[e,e2,e3]
 exact⟨_,rfl,λe=>by cases e⟩
def mZ:aV:=⟨⟨0,0,0⟩,[]⟩
def lD:Nat→List Int→Int→Nat→Int→aD→aN→List (List Int)→aV×Int×Int|0,_,_,_,_,_,_,_=>(mZ,0,0)|n+1,z,a,j,l,hd,s,cs=>bif decide (z.length<bY j) then(bif j==9 then(⟨hd,cs⟩,0,0) else(mZ,a+z.length,67)) else bif Pa j (z.take (bY j)) s != 0 then(mZ,a,Pa j (z.take (bY j)) s) else lD n (z.drop (bY j)) (a+(bY j:Int)) (kP j (Pu j (z.take (bY j)) l)) (Pu j (z.take (bY j)) l) (QP j (z.take (bY j)) hd) (Su j (z.take (bY j)) s) (if j=7 then cs++[z.take (bY j)] else cs)
def UU (r:(List (List Int))×(List Int)×Int×Int×Int×aD×aN×Int×Int):aV×Int×Int:=bif r.2.2.2.2.2.2.2.1==0 then(bif decide (r.2.2.2.1<9) then(mZ,r.2.2.1,67) else(⟨r.2.2.2.2.2.1,r.1⟩,0,0)) else(mZ,r.2.2.2.2.2.2.2.2,r.2.2.2.2.2.2.2.1)
theorem tc {j:Nat} (hj:j<10) (a l:Int) (hd:aD) (s:aN):db (⟨[],a,(j:Int),l,hd,s,0,0⟩:be)=some (bY j:Int):=by unfold db;simp only;rw[(m6 hj).2.2];rfl
theorem Ct {z:List Int} {cs:List (List Int)} {a l:Int} {hd:aD} {s:aN} {j:Nat} (hj:j<10) (hz:z.length<bY j) (ha:0≤a∧a≤2^40): Loop.run kS (z,cs,[],a,(j:Int),l,hd,s,0,0)=some (cs,z,a+(z.length:Int),(j:Int),l,hd,s,0,0):=by apply Lr;have hs:=m6 hj;unfold kS;have b:((0:Int)==0)=true:=rfl;simp only[b,Hn];rw[tc hj];(have e0:∀m:Int,m - ((0:Nat):Int)=m:=λm=>by simp);have en:wrap .i64 (bY j:Int)=(bY j:Int):=wrap64 (by omega);have c:decide ((bY j:Int)>(z.length:Int))=true:=Ho (by omega);simp only[aB,H1,e0,en,c,Hn];rw[aW (by rw[cR];simp;omega),wrap64 (by omega)];simp only[aB,HM]
theorem EO {z:List Int} {cs:List (List Int)} {a l:Int} {hd:aD} {s:aN} {j:Nat} (hj:j<10) (hz:bY j≤z.length) (ha:0≤a∧a≤2^40) (hr:z.length<2^30) (hc:cs.length≤1000) (hb:aT z) (hl:0≤l∧l≤256):
   (Pa j (z.take (bY j)) s≠0→∃r,Loop.run kS (z,cs,[],a,(j:Int),l,hd,s,0,0)=some r∧UU r=(mZ,a,Pa j (z.take (bY j)) s))∧
   (Pa j (z.take (bY j)) s=0→Loop.run kS (z,cs,[],a,(j:Int),l,hd,s,0,0)=Loop.run kS (z.drop (bY j),if j=7 then cs++[z.take (bY j)] else cs,[],a+(bY j:Int),(kP j (Pu j (z.take (bY j)) l):Int),Pu j (z.take (bY j)) l,QP j (z.take (bY j)) hd,Su j (z.take (bY j)) s,0,0)):=by
 obtain⟨z1,z2,z3⟩:=m6 hj
 generalize hw:z.take (bY j)=w
 have hwl:w.length=bY j:=by rw[←hw,HN];omega
 have hwb:aT w:=λb h=>hb b (by rw[←hw] at h;exact Ih h)
 have J:=λa'=>DQ (f:=⟨w,a',(j:Int),l,hd,s,0,0⟩) (i:=j) rfl hj hwl hwb hl
 simp only at J
 have step:∀q y,cM ⟨w,a+(bY j:Int),(j:Int),l,hd,s,0,0⟩=some (y,q)→kS (z,cs,[],a,(j:Int),l,hd,s,0,0)=
    (bif y != 0 then
        some (.done (if j=7 then cs++[w] else cs,q.field,q.at_,q.stage,q.left,q.header,q.sum,y,wrap .i64 (q.at_ - (q.field.length:Int))))
       else
        bif decide ((0:Int)≤0∧(0:Int)≤0∧(0:Int)≤(q.field.length:Int)) then
        some (.next (z.drop (bY j),if j=7 then cs++[w] else cs,List.take (Int.toNat 0) q.field,q.at_,q.stage,q.left,q.header,q.sum,y,q.place))
        else none):=by
   intro q y hq
   unfold kS
   have e00:((0:Int)==0)=true:=rfl
   simp only[e00,Hn]
   rw[tc hj]
   have e0:∀m:Int,m - ((0:Nat):Int)=m:=λm=>by simp
   have en:wrap .i64 (bY j:Int)=(bY j:Int):=wrap64 (by omega)
   have hcd:decide ((bY j:Int)>(z.length:Int))=false:=Hp (by omega)
   simp only[aB,H1,e0,en,hcd,Hm]
   rw[nK (h:=(bY j:Int)) (j:=bY j) rfl hz,hw]
   simp only[aB]
   rw[aW (by rw[cR];simp;omega)]
   simp only[aB,HM]
   rw[pt (l:=(bY j:Int)) (i:=bY j) rfl hz]
   simp only[aB]
   have hatw:wrap .i64 (a+(bY j:Int))=a+(bY j:Int):=wrap64 (by omega)
   rw[hatw]
   have ecl:(bif (j:Int)==7 then(cW w).bind λy430=>(app cs [y430]).bind λz433=>some z433 else some cs:Option (List (List Int)))=some (if j=7 then cs++[w] else cs):=by
    by_cases h7:j=7
    · have:((j:Int)==7)=true:=by simp;omega
      rw[this,Hn,tL (by omega),Il h7]
      simp only[aB]
      rw[aW (by rw[cR];simp;omega)];rfl
    · have:((j:Int)==7)=false:=by simp;omega
      rw[this,Hm,Ic h7]
   rw[ecl]
   simp only[aB]
   rw[hq]
   rfl
 obtain⟨q,h1,h2⟩:=J (a+(bY j:Int))
 have st:=step _ _ h1
 constructor
 · intro hne
   have hb:(Pa j w s != 0)=true:=by simpa using hne
   rw[hb,Hn] at st
   refine⟨_,Lr st,?_⟩
   have hb2:(Pa j w s==0)=false:=by simpa using hne
   simp only[UU,hb2,Hm]
   rw[hwl,wrap64 (by omega)]
   simp
 · intro he
   have hb:(Pa j w s != 0)=false:=by simpa using he
   have g:decide ((0:Int)≤0∧(0:Int)≤0∧(0:Int)≤(w.length:Int))=true:=Ho (by omega)
   rw[hb,Hm] at st
   simp only[g,Hn] at st
   rw[Ly st,h2 he,he]
   rfl
theorem AZ {j c:Nat} {l:Int} {w:List Int} {s:aN} (hj:j<10) (h:nQ j l c) (hw:aT w) (d:w.length=bY j) (he:Pa j w s=0):kP j (Pu j w l)<10∧nQ (kP j (Pu j w l)) (Pu j w l) (if j=7 then c+1 else c):=by (have t:Trans j l (kP j (Pu j w l):Int) (Pu j w l):=by (have h3:j=3→0≤Pu j w l∧Pu j w l≤256:=λe=>by subst e;obtain⟨v,hv,_⟩:=iQ 2 w (by rw[d];rfl) (by omega) hw;(have:p_ w≤256:=by simp only[Pa] at he;cases hd:decide (p_ w>256) with|true=>rw[hd] at he;cases he|false=>have:=HF hd;omega);show 0≤p_ w∧p_ w≤256;omega);(have h7:j=7→Pu j w l=l - 1:=λe=>by subst e;rfl);(have hn:j≠3→j≠7→Pu j w l=l:=λa b=>by match j,hj with|0,_|1,_|2,_|4,_|5,_|6,_|8,_|9,_=>rfl|3,_=>exact absurd rfl a|7,_=>exact absurd rfl b);refine⟨h3,h7,hn,λe=>?_,λa b=>?_,λe=>?_⟩;unfold kP;rw[Il e];by_cases hz:Pu j w l=0;exact .inl ⟨hz,by rw[Il hz];rfl⟩;exact .inr ⟨hz,by rw[Ic hz];rfl⟩;unfold kP;rw[Ic (by omega)];omega;subst e;cases he);obtain⟨j',h1,h2,h3⟩:=h.next hj t;(have:kP j (Pu j w l)=j':=by omega);rw[this];exact⟨h1,h3⟩
theorem Db:∀(n:Nat) (z:List Int) (a:Int) (j:Nat) (l:Int) (hd:aD) (s:aN) (cs:List (List Int)),z.length<n→j<10→z.length<2^30→0≤a→a+(z.length:Int)≤2^40→aT z→nQ j l cs.length→ ∃r,Loop.run kS (z,cs,[],a,(j:Int),l,hd,s,0,0)=some r∧UU r=lD n z a j l hd s cs|0,z,_,_,_,_,_,_,h,_,_,_,_,_,_=>by omega|n+1,z,a,j,l,hd,s,cs,h,hj,hr,h0,h1,hb,hS=>by (have hc:cs.length≤256:=by obtain⟨t1,t2,t3,t4⟩:=hS;by_cases a1:j≤3;have:=t1 a1;omega;by_cases a2:j=4∨j=5;have:=t2 a2;omega;by_cases a3:j=6∨j=7;have:=t3 a3;omega;have:=t4 (by omega);omega);have hs:=m6 hj;unfold lD;by_cases hz:z.length<bY j;rw[Ho hz,Hn];refine⟨_,Ct hj hz ⟨h0,by omega⟩,?_⟩;have f:((0:Int)==0)=true:=rfl;simp only[UU,f,Hn];by_cases h9:j=9;have c:decide ((j:Int)<9)=false:=Hp (by omega);(have d:(j==9)=true:=by simpa using h9);rw[c,d];rfl;have c:decide ((j:Int)<9)=true:=Ho (by omega);(have d:(j==9)=false:=by simpa using h9);rw[c,d];rfl;rw[Hp hz,Hm];obtain⟨o1,o2⟩:=EO (hd:=hd) (s:=s) hj (by omega) ⟨h0,by omega⟩ hr (by omega) hb hS.left (cs:=cs) (a:=a);have i:aT (z.take (bY j)):=λb h=>hb b (Ih h);cases he:Pa j (z.take (bY j)) s != 0 with|true=>exact o1 (by simpa using he)| false =>(have e:Pa j (z.take (bY j)) s=0:=by simpa using he);rw[o2 e,Hm];obtain⟨q1,q2⟩:=AZ hj hS i (by rw[HN];omega) e;refine Db n _ _ _ _ _ _ _ (by simp;omega) q1 (by simp;omega) (by omega) (by simp;omega) (λb h=>hb b (JD h)) ?_;(have e7:(if j=7 then cs++[z.take (bY j)] else cs).length=if j=7 then cs.length+1 else cs.length:=by by_cases h7:j=7<;>simp[h7]);rw[e7];exact q2
def Cu (raw:List Int):aV×Int×Int:=lD (raw.length+1) raw 0 0 0 ⟨0,0,0⟩ ⟨1,0⟩ []
theorem wm {raw:List Int} (hl:raw.length<2^30) (hb:aT raw):iu raw=some (Cu raw):=by obtain⟨r,hr,ha⟩:=Db (raw.length+1) raw 0 0 0 ⟨0,0,0⟩ ⟨1,0⟩ [] (by omega) (by omega) hl (by omega) (by omega) hb ⟨λ_=>⟨rfl,rfl⟩,by omega,by omega,by omega⟩;unfold iu jd;simp only[aB];unfold eV;show(((Loop.run kS _).bind _).bind _).bind _=_;have a:Loop.run kS (raw,[],[],0,0,0,⟨0,0,0⟩,⟨1,0⟩,0,0)=some r:=hr;rw[a];show _=some (lD (raw.length+1) raw 0 0 0 ⟨0,0,0⟩ ⟨1,0⟩ []);rw[←ha];obtain⟨r1,r2,r3,r4,r5,r6,r7,r8,r9⟩:=r;simp only[aB,UU,gy];cases h8:r8==0 with|true=>((have b:(r8 != 0)=false:=by simp[bne,h8]);simp only[Hn,b,Hm];cases h9:decide (r4<9) with|true=>rfl|false=>rfl)|false=>rfl
end Go.Proofs.YtobbmodjdkcdcaaGreatDoor

import Derived.Test.YtobbmodjdkcdcaaGreatDoorLawRead
set_option linter.all false
set_option maxRecDepth 20000
set_option maxHeartbeats 1000000
namespace Go.Proofs.YtobbmodjdkcdcaaGreatDoor
open Go Go.Sim
variable [Fu]
def judE (j:Nat) (w:List Int) (s:an):Int:=match j with|0=>bif w != [67,72,82,78] then 60 else 0|1=>bif w.getD 0 0 != 1 then 61 else 0|2=>bif decide (w.getD 0 0>8) then 62 else 0|3=>bif decide (bigS w>256) then 63 else 0|4=>bif decide (bigS w>4611686018427387903) then 62 else 0|5=>bif decide (bigS w>4611686018427387904) then 62 else 0|6=>bif bigS w != 320 then 64 else 0|7=>0|8=>bif bigS w != fh s then 65 else 0|_=>66
def judL (j:Nat) (w:List Int) (l:Int):Int:=match j with|3=>bigS w|7=>l - 1|_=>l
def judH (j:Nat) (w:List Int) (hd:af):af:=match j with|2=>{hd with Left:=w.getD 0 0}|4=>{hd with Round:=IntKind.wrap .i64 (bigS w)}|5=>{hd with Epoch:=IntKind.wrap .i64 (bigS w)}|_=>hd
def judS (j:Nat) (w:List Int) (s:an):an:=if j=8 then s else addS s w
def jk (j:Nat) (l:Int):Nat:=if j=5∨j=7 then(if l=0 then 8 else 6) else j+1
theorem tq {t:List Int} (hb:aL t):strB t=t:=by
 unfold strB
 conv=>rhs;rw[←List.map_id t]
 apply G2
 intro a ha
 have:=hb a ha
 show((UInt8.ofNat a.toNat).toNat:Int)=a
 rw[II]
 omega
theorem B7 {f:aF} {i:Nat} (hs:f.stage=i) (h:i<10) (hl:f.field.length=aV i) (hb:aL f.field) (hleft:0≤f.left∧f.left≤256):
   ∃q:Int,aA f=some (judE i f.field f.sum,⟨f.field,f.at_,q,judL i f.field f.left,judH i f.field f.header,judS i f.field f.sum,f.err,f.place⟩)∧(judE i f.field f.sum=0→q=(jk i (judL i f.field f.left):Int)):=by
 unfold aA
 have hsz:=jY h
 have hl30:f.field.length<2^30:=by omega
 rw[jB hl30,jX hl30,tq hb]
 simp only[ab,dM]
 have hc:∀k:Nat,(((i:Nat):Int)==((k:Nat):Int))=decide (i=k):=λk=>by
   rw[Gk];simp only[Hj,FX];omega
 rw[hs]
 have c0:(((i:Nat):Int)==0)=decide (i=0):=hc 0
 have c1:(((i:Nat):Int)==1)=decide (i=1):=hc 1
 have c2:(((i:Nat):Int)==2)=decide (i=2):=hc 2
 have c3:(((i:Nat):Int)==3)=decide (i=3):=hc 3
 have c4:(((i:Nat):Int)==4)=decide (i=4):=hc 4
 have c5:(((i:Nat):Int)==5)=decide (i=5):=hc 5
 have c6:(((i:Nat):Int)==6)=decide (i=6):=hc 6
 have c7:(((i:Nat):Int)==7)=decide (i=7):=hc 7
 have c8:(((i:Nat):Int)==8)=decide (i=8):=hc 8
 have c9:(((i:Nat):Int)==9)=decide (i=9):=hc 9
 rw[c0,c1,c2,c3,c4,c5,c6,c7,c8,c9]
 have hw1:IntKind.wrap .i64 ((i:Int)+1)=(i:Int)+1:=wrap64 (by omega)
 rw[hw1]
 have fin:∀(l:Int) (hd:af),i≠8→∃q:Int,(((bif (((i:Int)+1)==6)||(((i:Int)+1)==8) then
        bif l==0 then
         some 8
        else
         some 6
       else
        some ((i:Int)+1)
        :Option Int)).bind λx30=>
       some ((0:Int),(⟨f.field,f.at_,x30,l,hd,addS f.sum f.field,f.err,f.place⟩:aF)))=some (0,⟨f.field,f.at_,q,l,hd,addS f.sum f.field,f.err,f.place⟩)∧q=(jk i l:Int):=by
   intro l hd h8
   unfold jk
   by_cases hx:i=5∨i=7
   · have e:((((i:Int)+1)==6)||(((i:Int)+1)==8))=true:=by simp;omega
     rw[e,FJ,Gz hx]
     by_cases hz:l=0
     · have ez:(l==0)=true:=by simpa using hz
       rw[ez,Gz hz];exact⟨_,rfl,rfl⟩
     · have ez:(l==0)=false:=by simpa using hz
       rw[ez,Gt hz];exact⟨_,rfl,rfl⟩
   · have e:((((i:Int)+1)==6)||(((i:Int)+1)==8))=false:=by simp;omega
     rw[e,Gt hx]
     exact⟨_,rfl,by omega⟩
 have D:∀k,i=k→decide (i=k)=true:=λk e=>FK e
 have N:∀k,i≠k→decide (i=k)=false:=λk e=>FL e
 by_cases k8:i=8
 · rw[D 8 k8,FJ]
   have e:IntKind.wrap .u64 (orI .u32 (shlI .u32 f.sum.b 16) f.sum.a)=fh f.sum:=by
     have:=mu f.sum
     unfold fh at this;exact gW (by omega)
   rw[e]
   subst k8
   simp only[judE,judL,judH,judS,jk,IE]
   cases hx:bigS f.field != fh f.sum with
   |true=>exact⟨_,rfl,λe=>by cases e⟩
   |false=>exact⟨_,rfl,λ_=>rfl⟩
 rw[N 8 k8,FI]
 have hj8:judS i f.field f.sum=addS f.sum f.field:=Gt k8
 rw[hj8]
 by_cases k0:i=0
 · rw[D 0 k0,FJ]
   obtain⟨q,h1,h2⟩:=fin f.left f.header k8
   have e:judE i f.field f.sum=bif f.field != [67,72,82,78] then 60 else 0:=by subst k0;rfl
   have e2:judL i f.field f.left=f.left:=by subst k0;rfl
   have e3:judH i f.field f.header=f.header:=by subst k0;rfl
   rw[e,e2,e3]
   cases hx:f.field != [67,72,82,78] with
   |true=>exact⟨_,rfl,λe=>by cases e⟩
   |false=>exact⟨q,h1,λ_=>h2⟩
 rw[N 0 k0,FI]
 by_cases k1:i=1
 · rw[D 1 k1,FJ,ar (z:=0) (i:=0) rfl (by omega)]
   simp only[ab]
   obtain⟨q,h1,h2⟩:=fin f.left f.header k8
   have e:judE i f.field f.sum=bif f.field.getD 0 0 != 1 then 61 else 0:=by subst k1;rfl
   have e2:judL i f.field f.left=f.left:=by subst k1;rfl
   have e3:judH i f.field f.header=f.header:=by subst k1;rfl
   rw[e,e2,e3]
   cases hx:f.field.getD 0 0 != 1 with
   |true=>exact⟨_,rfl,λe=>by cases e⟩
   |false=>exact⟨q,h1,λ_=>h2⟩
 rw[N 1 k1,FI]
 by_cases k2:i=2
 · rw[D 2 k2,FJ,ar (z:=0) (i:=0) rfl (by omega)]
   simp only[ab]
   have hg:=gp hb 0
   have hw:IntKind.wrap .i64 (f.field.getD 0 0)=f.field.getD 0 0:=wrap64 (by omega)
   rw[hw]
   obtain⟨q,h1,h2⟩:=fin f.left {f.header with Left:=f.field.getD 0 0} k8
   have e:judE i f.field f.sum=bif decide ((({f.header with Left:=f.field.getD 0 0}:af).Left)>8) then 62 else 0:=by subst k2;rfl
   have e2:judL i f.field f.left=f.left:=by subst k2;rfl
   have e3:judH i f.field f.header={f.header with Left:=f.field.getD 0 0}:=by subst k2;rfl
   rw[e,e2,e3]
   cases hx:decide ((({f.header with Left:=f.field.getD 0 0}:af).Left)>8) with
   |true=>exact⟨_,rfl,λe=>by cases e⟩
   |false=>exact⟨q,h1,λ_=>h2⟩
 rw[N 2 k2,FI]
 by_cases k3:i=3
 · rw[D 3 k3,FJ]
   obtain⟨v,hv,hv2⟩:=gh 2 f.field (by rw[hl,k3];rfl) (by omega) hb
   have e:judE i f.field f.sum=bif decide (bigS f.field>256) then 63 else 0:=by subst k3;rfl
   have e2:judL i f.field f.left=bigS f.field:=by subst k3;rfl
   have e3:judH i f.field f.header=f.header:=by subst k3;rfl
   rw[e,e2,e3,hv,wrap64 (by omega)]
   obtain⟨q,h1,h2⟩:=fin (v:Int) f.header k8
   cases hx:decide ((v:Int)>256) with
   |true=>exact⟨_,rfl,λe=>by cases e⟩
   |false=>exact⟨q,h1,λ_=>h2⟩
 rw[N 3 k3,FI]
 by_cases k4:i=4
 · rw[D 4 k4,FJ]
   have e:judE i f.field f.sum=bif decide (bigS f.field>4611686018427387903) then 62 else 0:=by subst k4;rfl
   have e2:judL i f.field f.left=f.left:=by subst k4;rfl
   have e3:judH i f.field f.header={f.header with Round:=IntKind.wrap .i64 (bigS f.field)}:=by subst k4;rfl
   rw[e,e2,e3]
   obtain⟨q,h1,h2⟩:=fin f.left {f.header with Round:=IntKind.wrap .i64 (bigS f.field)} k8
   cases hx:decide (bigS f.field>4611686018427387903) with
   |true=>exact⟨_,rfl,λe=>by cases e⟩
   |false=>exact⟨q,h1,λ_=>h2⟩
 rw[N 4 k4,FI]
 by_cases k5:i=5
 · rw[D 5 k5,FJ]
   have e:judE i f.field f.sum=bif decide (bigS f.field>4611686018427387904) then 62 else 0:=by subst k5;rfl
   have e2:judL i f.field f.left=f.left:=by subst k5;rfl
   have e3:judH i f.field f.header={f.header with Epoch:=IntKind.wrap .i64 (bigS f.field)}:=by subst k5;rfl
   rw[e,e2,e3]
   obtain⟨q,h1,h2⟩:=fin f.left {f.header with Epoch:=IntKind.wrap .i64 (bigS f.field)} k8
   cases hx:decide (bigS f.field>4611686018427387904) with
   |true=>exact⟨_,rfl,λe=>by cases e⟩
   |false=>exact⟨q,h1,λ_=>h2⟩
 rw[N 5 k5,FI]
 by_cases k6:i=6
 · rw[D 6 k6,FJ]
   have e:judE i f.field f.sum=bif bigS f.field != 320 then 64 else 0:=by subst k6;rfl
   have e2:judL i f.field f.left=f.left:=by subst k6;rfl
   have e3:judH i f.field f.header=f.header:=by subst k6;rfl
   rw[e,e2,e3]
   obtain⟨q,h1,h2⟩:=fin f.left f.header k8
   cases hx:bigS f.field != 320 with
   |true=>exact⟨_,rfl,λe=>by cases e⟩
   |false=>exact⟨q,h1,λ_=>h2⟩
 rw[N 6 k6,FI]
 by_cases k7:i=7
 · rw[D 7 k7,FJ]
   have e:judE i f.field f.sum=0:=by subst k7;rfl
   have e2:judL i f.field f.left=f.left - 1:=by subst k7;rfl
   have e3:judH i f.field f.header=f.header:=by subst k7;rfl
   rw[e,e2,e3,wrap64 (by omega)]
   obtain⟨q,h1,h2⟩:=fin (f.left - 1) f.header k8
   exact⟨q,h1,λ_=>h2⟩
 rw[N 7 k7,FI]
 have k9:i=9:=by omega
 rw[D 9 k9,FJ]
 have e:judE i f.field f.sum=66:=by subst k9;rfl
 have e2:judL i f.field f.left=f.left:=by subst k9;rfl
 have e3:judH i f.field f.header=f.header:=by subst k9;rfl
 rw[e,e2,e3]
 exact⟨_,rfl,λe=>by cases e⟩
def lh:av:=⟨⟨0,0,0⟩,[]⟩
def jJ:Nat→List Int→Int→Nat→Int→af→an→List (List Int)→av×Int×Int|0,_,_,_,_,_,_,_=>(lh,0,0)|n+1,z,a,j,l,hd,s,cs=>bif decide (z.length<aV j) then(bif j==9 then(⟨hd,cs⟩,0,0) else(lh,a+z.length,67)) else bif judE j (z.take (aV j)) s != 0 then(lh,a,judE j (z.take (aV j)) s) else jJ n (z.drop (aV j)) (a+(aV j:Int)) (jk j (judL j (z.take (aV j)) l)) (judL j (z.take (aV j)) l) (judH j (z.take (aV j)) hd) (judS j (z.take (aV j)) s) (if j=7 then cs++[z.take (aV j)] else cs)
def ansS (r:(List (List Int))×(List Int)×Int×Int×Int×af×an×Int×Int):av×Int×Int:=bif r.2.2.2.2.2.2.2.1==0 then(bif decide (r.2.2.2.1<9) then(lh,r.2.2.1,67) else(⟨r.2.2.2.2.2.1,r.1⟩,0,0)) else(lh,r.2.2.2.2.2.2.2.2,r.2.2.2.2.2.2.2.1)
theorem qP {j:Nat} (hj:j<10) (a l:Int) (hd:af) (s:an):bL (⟨[],a,(j:Int),l,hd,s,0,0⟩:aF)=some (aV j:Int):=by unfold bL;simp only;rw[(jY hj).2.2];rfl
theorem AK {z:List Int} {cs:List (List Int)} {a l:Int} {hd:af} {s:an} {j:Nat} (hj:j<10) (hz:z.length<aV j) (ha:0≤a∧a≤2^40): Loop.run dQ (z,cs,[],a,(j:Int),l,hd,s,0,0)=some (cs,z,a+(z.length:Int),(j:Int),l,hd,s,0,0):=by apply Jv;have hs:=jY hj;unfold dQ;have e00:((0:Int)==0)=true:=rfl;simp only[e00,FJ];rw[qP hj];(have e0:∀m:Int,m - ((0:Nat):Int)=m:=λm=>by simp);have en:IntKind.wrap .i64 (aV j:Int)=(aV j:Int):=wrap64 (by omega);have hcd:decide ((aV j:Int)>(z.length:Int))=true:=FK (by omega);simp only[ab,Gg,e0,en,hcd,FJ];rw[aQ (by rw[dq];simp;omega),wrap64 (by omega)];simp only[ab,F8]
theorem Da {z:List Int} {cs:List (List Int)} {a l:Int} {hd:af} {s:an} {j:Nat} (hj:j<10) (hz:aV j≤z.length) (ha:0≤a∧a≤2^40) (hr:z.length<2^30) (hc:cs.length≤1000) (hb:aL z) (hl:0≤l∧l≤256):
   (judE j (z.take (aV j)) s≠0→∃r,Loop.run dQ (z,cs,[],a,(j:Int),l,hd,s,0,0)=some r∧ansS r=(lh,a,judE j (z.take (aV j)) s))∧
   (judE j (z.take (aV j)) s=0→Loop.run dQ (z,cs,[],a,(j:Int),l,hd,s,0,0)=Loop.run dQ (z.drop (aV j),if j=7 then cs++[z.take (aV j)] else cs,[],a+(aV j:Int),(jk j (judL j (z.take (aV j)) l):Int),judL j (z.take (aV j)) l,judH j (z.take (aV j)) hd,judS j (z.take (aV j)) s,0,0)):=by
 obtain⟨z1,z2,z3⟩:=jY hj
 generalize hw:z.take (aV j)=w
 have hwl:w.length=aV j:=by rw[←hw,Ga];omega
 have hwb:aL w:=λb h=>hb b (by rw[←hw] at h;exact Gv h)
 have J:=λa'=>B7 (f:=⟨w,a',(j:Int),l,hd,s,0,0⟩) (i:=j) rfl hj hwl hwb hl
 simp only at J
 have step:∀q y,aA ⟨w,a+(aV j:Int),(j:Int),l,hd,s,0,0⟩=some (y,q)→dQ (z,cs,[],a,(j:Int),l,hd,s,0,0)=
    (bif y != 0 then
        some (.done (if j=7 then cs++[w] else cs,q.field,q.at_,q.stage,q.left,q.header,q.sum,y,IntKind.wrap .i64 (q.at_ - (q.field.length:Int))))
       else
        bif decide ((0:Int)≤0∧(0:Int)≤0∧(0:Int)≤(q.field.length:Int)) then
        some (.next (z.drop (aV j),if j=7 then cs++[w] else cs,List.take (Int.toNat 0) q.field,q.at_,q.stage,q.left,q.header,q.sum,y,q.place))
        else none):=by
   intro q y hq
   unfold dQ
   have e00:((0:Int)==0)=true:=rfl
   simp only[e00,FJ]
   rw[qP hj]
   have e0:∀m:Int,m - ((0:Nat):Int)=m:=λm=>by simp
   have en:IntKind.wrap .i64 (aV j:Int)=(aV j:Int):=wrap64 (by omega)
   have hcd:decide ((aV j:Int)>(z.length:Int))=false:=FL (by omega)
   simp only[ab,Gg,e0,en,hcd,FI]
   rw[lQ (h:=(aV j:Int)) (j:=aV j) rfl hz,hw]
   simp only[ab]
   rw[aQ (by rw[dq];simp;omega)]
   simp only[ab,F8]
   rw[m8 (l:=(aV j:Int)) (i:=aV j) rfl hz]
   simp only[ab]
   have hatw:IntKind.wrap .i64 (a+(aV j:Int))=a+(aV j:Int):=wrap64 (by omega)
   rw[hatw]
   have ecl:(bif (j:Int)==7 then(cb w).bind λy430=>(app cs [y430]).bind λz433=>some z433 else some cs:Option (List (List Int)))=some (if j=7 then cs++[w] else cs):=by
    by_cases h7:j=7
    · have:((j:Int)==7)=true:=by simp;omega
      rw[this,FJ,oT (by omega),Gz h7]
      simp only[ab]
      rw[aQ (by rw[dq];simp;omega)];rfl
    · have:((j:Int)==7)=false:=by simp;omega
      rw[this,FI,Gt h7]
   rw[ecl]
   simp only[ab]
   rw[hq]
   rfl
 obtain⟨q,h1,h2⟩:=J (a+(aV j:Int))
 have st:=step _ _ h1
 constructor
 · intro hne
   have hb:(judE j w s != 0)=true:=by simpa using hne
   rw[hb,FJ] at st
   refine⟨_,Jv st,?_⟩
   have hb2:(judE j w s==0)=false:=by simpa using hne
   simp only[ansS,hb2,FI]
   rw[hwl,wrap64 (by omega)]
   simp
 · intro he
   have hb:(judE j w s != 0)=false:=by simpa using he
   have g:decide ((0:Int)≤0∧(0:Int)≤0∧(0:Int)≤(w.length:Int))=true:=FK (by omega)
   rw[hb,FI] at st
   simp only[g,FJ] at st
   rw[JB st,h2 he,he]
   rfl
theorem yU {j c:Nat} {l:Int} {w:List Int} {s:an} (hj:j<10) (h:lX j l c) (hw:aL w) (hwl:w.length=aV j) (he:judE j w s=0):jk j (judL j w l)<10∧lX (jk j (judL j w l)) (judL j w l) (if j=7 then c+1 else c):=by (have t:Trans j l (jk j (judL j w l):Int) (judL j w l):=by (have h3:j=3→0≤judL j w l∧judL j w l≤256:=λe=>by subst e;obtain⟨v,hv,_⟩:=gh 2 w (by rw[hwl];rfl) (by omega) hw;(have:bigS w≤256:=by simp only[judE] at he;cases hd:decide (bigS w>256) with|true=>rw[hd] at he;cases he|false=>have:=F5 hd;omega);show 0≤bigS w∧bigS w≤256;omega);(have h7:j=7→judL j w l=l - 1:=λe=>by subst e;rfl);(have hn:j≠3→j≠7→judL j w l=l:=λa b=>by match j,hj with|0,_|1,_|2,_|4,_|5,_|6,_|8,_|9,_=>rfl|3,_=>exact absurd rfl a|7,_=>exact absurd rfl b);refine⟨h3,h7,hn,λe=>?_,λa b=>?_,λe=>?_⟩;unfold jk;rw[Gz e];by_cases hz:judL j w l=0;exact .inl ⟨hz,by rw[Gz hz];rfl⟩;exact .inr ⟨hz,by rw[Gt hz];rfl⟩;unfold jk;rw[Gt (by omega)];omega;subst e;cases he);obtain⟨j',h1,h2,h3⟩:=h.next hj t;(have:jk j (judL j w l)=j':=by omega);rw[this];exact⟨h1,h3⟩
theorem Bp:∀(n:Nat) (z:List Int) (a:Int) (j:Nat) (l:Int) (hd:af) (s:an) (cs:List (List Int)),z.length<n→j<10→z.length<2^30→0≤a→a+(z.length:Int)≤2^40→aL z→lX j l cs.length→ ∃r,Loop.run dQ (z,cs,[],a,(j:Int),l,hd,s,0,0)=some r∧ansS r=jJ n z a j l hd s cs|0,z,_,_,_,_,_,_,h,_,_,_,_,_,_=>by omega|n+1,z,a,j,l,hd,s,cs,h,hj,hr,h0,h1,hb,hS=>by (have hc:cs.length≤256:=by obtain⟨t1,t2,t3,t4⟩:=hS;by_cases a1:j≤3;have:=t1 a1;omega;by_cases a2:j=4∨j=5;have:=t2 a2;omega;by_cases a3:j=6∨j=7;have:=t3 a3;omega;have:=t4 (by omega);omega);have hs:=jY hj;unfold jJ;by_cases hz:z.length<aV j;rw[FK hz,FJ];refine⟨_,AK hj hz ⟨h0,by omega⟩,?_⟩;have e00:((0:Int)==0)=true:=rfl;simp only[ansS,e00,FJ];by_cases h9:j=9;have hd1:decide ((j:Int)<9)=false:=FL (by omega);(have hd2:(j==9)=true:=by simpa using h9);rw[hd1,hd2];rfl;have hd1:decide ((j:Int)<9)=true:=FK (by omega);(have hd2:(j==9)=false:=by simpa using h9);rw[hd1,hd2];rfl;rw[FL hz,FI];obtain⟨o1,o2⟩:=Da (hd:=hd) (s:=s) hj (by omega) ⟨h0,by omega⟩ hr (by omega) hb hS.left (cs:=cs) (a:=a);have hwb:aL (z.take (aV j)):=λb h=>hb b (Gv h);cases he:judE j (z.take (aV j)) s != 0 with|true=>exact o1 (by simpa using he)| false =>(have he':judE j (z.take (aV j)) s=0:=by simpa using he);rw[o2 he',FI];obtain⟨q1,q2⟩:=yU hj hS hwb (by rw[Ga];omega) he';refine Bp n _ _ _ _ _ _ _ (by simp;omega) q1 (by simp;omega) (by omega) (by simp;omega) (λb h=>hb b (HJ h)) ?_;(have e7:(if j=7 then cs++[z.take (aV j)] else cs).length=if j=7 then cs.length+1 else cs.length:=by by_cases h7:j=7<;>simp[h7]);rw[e7];exact q2
def AL (raw:List Int):av×Int×Int:=jJ (raw.length+1) raw 0 0 0 ⟨0,0,0⟩ ⟨1,0⟩ []
theorem ud {raw:List Int} (hl:raw.length<2^30) (hb:aL raw):dg raw=some (AL raw):=by obtain⟨r,hr,ha⟩:=Bp (raw.length+1) raw 0 0 0 ⟨0,0,0⟩ ⟨1,0⟩ [] (by omega) (by omega) hl (by omega) (by omega) hb ⟨λ_=>⟨rfl,rfl⟩,by omega,by omega,by omega⟩;unfold dg fB;simp only[ab];unfold dj;show(((Loop.run dQ _).bind _).bind _).bind _=_;have hr':Loop.run dQ (raw,[],[],0,0,0,⟨0,0,0⟩,⟨1,0⟩,0,0)=some r:=hr;rw[hr'];show _=some (jJ (raw.length+1) raw 0 0 0 ⟨0,0,0⟩ ⟨1,0⟩ []);rw[←ha];obtain⟨r1,r2,r3,r4,r5,r6,r7,r8,r9⟩:=r;simp only[ab,ansS,fI];cases h8:r8==0 with|true=>((have h8':(r8 != 0)=false:=by simp[bne,h8]);simp only[FJ,h8',FI];cases h9:decide (r4<9) with|true=>rfl|false=>rfl)|false=>rfl
end Go.Proofs.YtobbmodjdkcdcaaGreatDoor

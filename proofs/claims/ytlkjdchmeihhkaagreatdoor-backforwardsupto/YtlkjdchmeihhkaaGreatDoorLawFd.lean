import Derived.Test.YtlkjdchmeihhkaaGreatDoorLawRead
set_option autoImplicit true
set_option relaxedAutoImplicit true
set_option linter.all false
set_option maxRecDepth 20000
set_option maxHeartbeats 1000000
namespace Go.Proofs.YtlkjdchmeihhkaaGreatDoor
open Go Go.Sim
open Go.IntKind (wrap)
variable [Fu]
def gS (j:Nat) (w:List Int) (s:aR):Int:=match j with|0=>bif w != [67,72,82,78] then 60 else 0|1=>bif w.getD 0 0 != 1 then 61 else 0|2=>bif decide (w.getD 0 0>8) then 62 else 0|3=>bif decide (cC w>256) then 63 else 0|4=>bif decide (cC w>4611686018427387903) then 62 else 0|5=>bif decide (cC w>4611686018427387904) then 62 else 0|6=>bif cC w != 320 then 64 else 0|7=>0|8=>bif cC w != mR s then 65 else 0|_=>66
def mE (j:Nat) (w:List Int) (l:Int):Int:=match j with|3=>cC w|7=>l - 1|_=>l
def wE (j:Nat) (w:List Int) (hd:aC):aC:=match j with|2=>{hd with Left:=w.getD 0 0}|4=>{hd with Round:=wrap .i64 (cC w)}|5=>{hd with Epoch:=wrap .i64 (cC w)}|_=>hd
def QB (j:Nat) (w:List Int) (s:aR):aR:=if j=8 then s else rC s w
def lO (j:Nat) (l:Int):Nat:=if j=5∨j=7 then(if l=0 then 8 else 6) else j+1
theorem wY {t:List Int} (b:aV t):q4 t=t:=by
 unfold q4
 conv=>rhs;rw[←List.map_id t]
 apply JH
 intro a c
 have:=b a c
 show((UInt8.ofNat a.toNat).toNat:Int)=a
 rw[LI]
 omega
theorem EH {f:bo} {i:Nat} (a:f.stage=i) (h:i<10) (b:f.field.length=ci i) (c:aV f.field) (d:0≤f.left∧f.left≤256):
   ∃q:Int,cU f=some (gS i f.field f.sum,⟨f.field,f.at_,q,mE i f.field f.left,wE i f.field f.header,QB i f.field f.sum,f.err,f.place⟩)∧(gS i f.field f.sum=0→q=(lO i (mE i f.field f.left):Int)):=by
 unfold cU
 have d:=nX h
 have d:f.field.length<2^30:=by omega
 rw[xP d,Ba d,wY c]
 simp only[aB,fC]
 have d:∀k:Nat,(((i:Nat):Int)==((k:Nat):Int))=decide (i=k):=λk=>by
   rw[Ja];simp only[Ke,IB];omega
 rw[a]
 have a:(((i:Nat):Int)==0)=decide (i=0):=d 0
 have c1:(((i:Nat):Int)==1)=decide (i=1):=d 1
 have c2:(((i:Nat):Int)==2)=decide (i=2):=d 2
 have c3:(((i:Nat):Int)==3)=decide (i=3):=d 3
 have e:(((i:Nat):Int)==4)=decide (i=4):=d 4
 have j:(((i:Nat):Int)==5)=decide (i=5):=d 5
 have l:(((i:Nat):Int)==6)=decide (i=6):=d 6
 have m:(((i:Nat):Int)==7)=decide (i=7):=d 7
 have n:(((i:Nat):Int)==8)=decide (i=8):=d 8
 have o:(((i:Nat):Int)==9)=decide (i=9):=d 9
 rw[a,c1,c2,c3,e,j,l,m,n,o]
 have a:wrap .i64 ((i:Int)+1)=(i:Int)+1:=wrap64 (by omega)
 rw[a]
 have a:∀(l:Int) (d:aC),i≠8→∃q:Int,(((bif (((i:Int)+1)==6)||(((i:Int)+1)==8) then
        bif l==0 then
         some 8
        else
         some 6
       else
        some ((i:Int)+1)
        :Option Int)).bind λe=>
       some ((0:Int),(⟨f.field,f.at_,e,l,d,rC f.sum f.field,f.err,f.place⟩:bo)))=some (0,⟨f.field,f.at_,q,l,d,rC f.sum f.field,f.err,f.place⟩)∧q=(lO i l:Int):=by
   intro l d d
   unfold lO
   by_cases d:i=5∨i=7
   · have e:((((i:Int)+1)==6)||(((i:Int)+1)==8))=true:=by simp;omega
     rw[e,Im,Jm d]
     by_cases j:l=0
     · have m:(l==0)=true:=by simpa using j
       rw[m,Jm j];exact⟨_,rfl,rfl⟩
     · have m:(l==0)=false:=by simpa using j
       rw[m,Jf j];exact⟨_,rfl,rfl⟩
   · have e:((((i:Int)+1)==6)||(((i:Int)+1)==8))=false:=by simp;omega
     rw[e,Jf d]
     exact⟨_,rfl,by omega⟩
 have D:∀k,i=k→decide (i=k)=true:=λk e=>Io e
 have N:∀k,i≠k→decide (i=k)=false:=λk e=>Ip e
 by_cases j:i=8
 · rw[D 8 j,Im]
   have e:wrap .u64 (qH .u32 (eD .u32 f.sum.b 16) f.sum.a)=mR f.sum:=by
     have:=rR f.sum
     unfold mR at this;exact ko (by omega)
   rw[e]
   subst j
   simp only[gS,mE,wE,QB,lO,LH]
   cases d:cC f.field != mR f.sum with
   |true=>exact⟨_,rfl,λe=>by cases e⟩
   |false=>exact⟨_,rfl,λ_=>rfl⟩
 rw[N 8 j,Il]
 have k:QB i f.field f.sum=rC f.sum f.field:=Jf j
 rw[k]
 by_cases k:i=0
 · rw[D 0 k,Im]
   obtain⟨q,l,m⟩:=a f.left f.header j
   have e:gS i f.field f.sum=bif f.field != [67,72,82,78] then 60 else 0:=by subst k;rfl
   have n:mE i f.field f.left=f.left:=by subst k;rfl
   have o:wE i f.field f.header=f.header:=by subst k;rfl
   rw[e,n,o]
   cases d:f.field != [67,72,82,78] with
   |true=>exact⟨_,rfl,λe=>by cases e⟩
   |false=>exact⟨q,l,λ_=>m⟩
 rw[N 0 k,Il]
 by_cases k:i=1
 · rw[D 1 k,Im,aK (z:=0) (i:=0) rfl (by omega)]
   simp only[aB]
   obtain⟨q,l,m⟩:=a f.left f.header j
   have e:gS i f.field f.sum=bif f.field.getD 0 0 != 1 then 61 else 0:=by subst k;rfl
   have n:mE i f.field f.left=f.left:=by subst k;rfl
   have o:wE i f.field f.header=f.header:=by subst k;rfl
   rw[e,n,o]
   cases d:f.field.getD 0 0 != 1 with
   |true=>exact⟨_,rfl,λe=>by cases e⟩
   |false=>exact⟨q,l,λ_=>m⟩
 rw[N 1 k,Il]
 by_cases k:i=2
 · rw[D 2 k,Im,aK (z:=0) (i:=0) rfl (by omega)]
   simp only[aB]
   have p:=gi c 0
   have p:wrap .i64 (f.field.getD 0 0)=f.field.getD 0 0:=wrap64 (by omega)
   rw[p]
   obtain⟨q,l,m⟩:=a f.left {f.header with Left:=f.field.getD 0 0} j
   have e:gS i f.field f.sum=bif decide ((({f.header with Left:=f.field.getD 0 0}:aC).Left)>8) then 62 else 0:=by subst k;rfl
   have n:mE i f.field f.left=f.left:=by subst k;rfl
   have o:wE i f.field f.header={f.header with Left:=f.field.getD 0 0}:=by subst k;rfl
   rw[e,n,o]
   cases d:decide ((({f.header with Left:=f.field.getD 0 0}:aC).Left)>8) with
   |true=>exact⟨_,rfl,λe=>by cases e⟩
   |false=>exact⟨q,l,λ_=>m⟩
 rw[N 2 k,Il]
 by_cases k:i=3
 · rw[D 3 k,Im]
   obtain⟨v,p,r⟩:=jo 2 f.field (by rw[b,k];rfl) (by omega) c
   have e:gS i f.field f.sum=bif decide (cC f.field>256) then 63 else 0:=by subst k;rfl
   have n:mE i f.field f.left=cC f.field:=by subst k;rfl
   have o:wE i f.field f.header=f.header:=by subst k;rfl
   rw[e,n,o,p,wrap64 (by omega)]
   obtain⟨q,l,m⟩:=a (v:Int) f.header j
   cases d:decide ((v:Int)>256) with
   |true=>exact⟨_,rfl,λe=>by cases e⟩
   |false=>exact⟨q,l,λ_=>m⟩
 rw[N 3 k,Il]
 by_cases b:i=4
 · rw[D 4 b,Im]
   have e:gS i f.field f.sum=bif decide (cC f.field>4611686018427387903) then 62 else 0:=by subst b;rfl
   have n:mE i f.field f.left=f.left:=by subst b;rfl
   have o:wE i f.field f.header={f.header with Round:=wrap .i64 (cC f.field)}:=by subst b;rfl
   rw[e,n,o]
   obtain⟨q,l,m⟩:=a f.left {f.header with Round:=wrap .i64 (cC f.field)} j
   cases d:decide (cC f.field>4611686018427387903) with
   |true=>exact⟨_,rfl,λe=>by cases e⟩
   |false=>exact⟨q,l,λ_=>m⟩
 rw[N 4 b,Il]
 by_cases b:i=5
 · rw[D 5 b,Im]
   have e:gS i f.field f.sum=bif decide (cC f.field>4611686018427387904) then 62 else 0:=by subst b;rfl
   have n:mE i f.field f.left=f.left:=by subst b;rfl
   have o:wE i f.field f.header={f.header with Epoch:=wrap .i64 (cC f.field)}:=by subst b;rfl
   rw[e,n,o]
   obtain⟨q,l,m⟩:=a f.left {f.header with Epoch:=wrap .i64 (cC f.field)} j
   cases d:decide (cC f.field>4611686018427387904) with
   |true=>exact⟨_,rfl,λe=>by cases e⟩
   |false=>exact⟨q,l,λ_=>m⟩
 rw[N 5 b,Il]
 by_cases b:i=6
 · rw[D 6 b,Im]
   have e:gS i f.field f.sum=bif cC f.field != 320 then 64 else 0:=by subst b;rfl
   have n:mE i f.field f.left=f.left:=by subst b;rfl
   have o:wE i f.field f.header=f.header:=by subst b;rfl
   rw[e,n,o]
   obtain⟨q,l,m⟩:=a f.left f.header j
   cases d:cC f.field != 320 with
   |true=>exact⟨_,rfl,λe=>by cases e⟩
   |false=>exact⟨q,l,λ_=>m⟩
 rw[N 6 b,Il]
 by_cases b:i=7
 · rw[D 7 b,Im]
   have e:gS i f.field f.sum=0:=by subst b;rfl
   have n:mE i f.field f.left=f.left - 1:=by subst b;rfl
   have o:wE i f.field f.header=f.header:=by subst b;rfl
   rw[e,n,o,wrap64 (by omega)]
   obtain⟨q,l,m⟩:=a (f.left - 1) f.header j
   exact⟨q,l,λ_=>m⟩
 rw[N 7 b,Il]
 have a:i=9:=by omega
 rw[D 9 a,Im]
 have e:gS i f.field f.sum=66:=by subst a;rfl
 have n:mE i f.field f.left=f.left:=by subst a;rfl
 have o:wE i f.field f.header=f.header:=by subst a;rfl
 rw[e,n,o]
 exact⟨_,rfl,λe=>by cases e⟩
def nV:aS:=⟨⟨0,0,0⟩,[]⟩
def mn:Nat→List Int→Int→Nat→Int→aC→aR→List (List Int)→aS×Int×Int|0,_,_,_,_,_,_,_=>(nV,0,0)|n+1,z,a,j,l,b,s,cs=>bif decide (z.length<ci j) then(bif j==9 then(⟨b,cs⟩,0,0) else(nV,a+z.length,67)) else bif gS j (z.take (ci j)) s != 0 then(nV,a,gS j (z.take (ci j)) s) else mn n (z.drop (ci j)) (a+(ci j:Int)) (lO j (mE j (z.take (ci j)) l)) (mE j (z.take (ci j)) l) (wE j (z.take (ci j)) b) (QB j (z.take (ci j)) s) (if j=7 then cs++[z.take (ci j)] else cs)
def Tb (r:(List (List Int))×(List Int)×Int×Int×Int×aC×aR×Int×Int):aS×Int×Int:=bif r.2.2.2.2.2.2.2.1==0 then(bif decide (r.2.2.2.1<9) then(nV,r.2.2.1,67) else(⟨r.2.2.2.2.2.1,r.1⟩,0,0)) else(nV,r.2.2.2.2.2.2.2.2,r.2.2.2.2.2.2.2.1)
theorem uM {j:Nat} (b:j<10) (a l:Int) (hd:aC) (s:aR):dn (⟨[],a,(j:Int),l,hd,s,0,0⟩:bo)=some (ci j:Int):=by unfold dn;simp only;rw[(nX b).2.2];rfl
theorem Dj {z:List Int} {cs:List (List Int)} {a l:Int} {hd:aC} {s:aR} {j:Nat} (c:j<10) (b:z.length<ci j) (b:0≤a∧a≤2^40): Loop.run lS (z,cs,[],a,(j:Int),l,hd,s,0,0)=some (cs,z,a+(z.length:Int),(j:Int),l,hd,s,0,0):=by apply Mp;have b:=nX c;unfold lS;have b:((0:Int)==0)=true:=rfl;simp only[b,Im];rw[uM c];(have b:∀m:Int,m - ((0:Nat):Int)=m:=λm=>by simp);have d:wrap .i64 (ci j:Int)=(ci j:Int):=wrap64 (by omega);have c:decide ((ci j:Int)>(z.length:Int))=true:=Io (by omega);simp only[aB,I7,b,d,c,Im];rw[aW (by rw[cQ];simp;omega),wrap64 (by omega)];simp only[aB,IP]
theorem FY {z:List Int} {cs:List (List Int)} {a l:Int} {hd:aC} {s:aR} {j:Nat} (c:j<10) (d:ci j≤z.length) (b:0≤a∧a≤2^40) (b:z.length<2^30) (b:cs.length≤1000) (e:aV z) (f:0≤l∧l≤256):
   (gS j (z.take (ci j)) s≠0→∃r,Loop.run lS (z,cs,[],a,(j:Int),l,hd,s,0,0)=some r∧Tb r=(nV,a,gS j (z.take (ci j)) s))∧
   (gS j (z.take (ci j)) s=0→Loop.run lS (z,cs,[],a,(j:Int),l,hd,s,0,0)=Loop.run lS (z.drop (ci j),if j=7 then cs++[z.take (ci j)] else cs,[],a+(ci j:Int),(lO j (mE j (z.take (ci j)) l):Int),mE j (z.take (ci j)) l,wE j (z.take (ci j)) hd,QB j (z.take (ci j)) s,0,0)):=by
 obtain⟨b,b,b⟩:=nX c
 generalize i:z.take (ci j)=w
 have k:w.length=ci j:=by rw[←i,IM];omega
 have m:aV w:=λb h=>e b (by rw[←i] at h;exact Jo h)
 have J:=λb=>EH (f:=⟨w,b,(j:Int),l,hd,s,0,0⟩) (i:=j) rfl c k m f
 simp only at J
 have step:∀q y,cU ⟨w,a+(ci j:Int),(j:Int),l,hd,s,0,0⟩=some (y,q)→lS (z,cs,[],a,(j:Int),l,hd,s,0,0)=
    (bif y != 0 then
        some (.done (if j=7 then cs++[w] else cs,q.field,q.at_,q.stage,q.left,q.header,q.sum,y,wrap .i64 (q.at_ - (q.field.length:Int))))
       else
        bif decide ((0:Int)≤0∧(0:Int)≤0∧(0:Int)≤(q.field.length:Int)) then
        some (.next (z.drop (ci j),if j=7 then cs++[w] else cs,List.take (Int.toNat 0) q.field,q.at_,q.stage,q.left,q.header,q.sum,y,q.place))
        else none):=by
   intro q y b
   unfold lS
   have f:((0:Int)==0)=true:=rfl
   simp only[f,Im]
   rw[uM c]
   have c:∀m:Int,m - ((0:Nat):Int)=m:=λm=>by simp
   have f:wrap .i64 (ci j:Int)=(ci j:Int):=wrap64 (by omega)
   have h:decide ((ci j:Int)>(z.length:Int))=false:=Ip (by omega)
   simp only[aB,I7,c,f,h,Il]
   rw[oO (h:=(ci j:Int)) (j:=ci j) rfl d,i]
   simp only[aB]
   rw[aW (by rw[cQ];simp;omega)]
   simp only[aB,IP]
   rw[qo (l:=(ci j:Int)) (i:=ci j) rfl d]
   simp only[aB]
   have c:wrap .i64 (a+(ci j:Int))=a+(ci j:Int):=wrap64 (by omega)
   rw[c]
   have c:(bif (j:Int)==7 then(df w).bind λd=>(app cs [d]).bind λd=>some d else some cs:Option (List (List Int)))=some (if j=7 then cs++[w] else cs):=by
    by_cases d:j=7
    · have:((j:Int)==7)=true:=by simp;omega
      rw[this,Im,vf (by omega),Jm d]
      simp only[aB]
      rw[aW (by rw[cQ];simp;omega)];rfl
    · have:((j:Int)==7)=false:=by simp;omega
      rw[this,Il,Jf d]
   rw[c]
   simp only[aB]
   rw[b]
   rfl
 obtain⟨q,b,c⟩:=J (a+(ci j:Int))
 have d:=step _ _ b
 constructor
 · intro b
   have e:(gS j w s != 0)=true:=by simpa using b
   rw[e,Im] at d
   refine⟨_,Mp d,?_⟩
   have f:(gS j w s==0)=false:=by simpa using b
   simp only[Tb,f,Il]
   rw[k,wrap64 (by omega)]
   simp
 · intro b
   have e:(gS j w s != 0)=false:=by simpa using b
   have g:decide ((0:Int)≤0∧(0:Int)≤0∧(0:Int)≤(w.length:Int))=true:=Io (by omega)
   rw[e,Il] at d
   simp only[g,Im] at d
   rw[My d,c b,b]
   rfl
theorem BW {j c:Nat} {l:Int} {w:List Int} {s:aR} (f:j<10) (h:pi j l c) (a:aV w) (d:w.length=ci j) (i:gS j w s=0):lO j (mE j w l)<10∧pi (lO j (mE j w l)) (mE j w l) (if j=7 then c+1 else c):=by (have t:Trans j l (lO j (mE j w l):Int) (mE j w l):=by (have k:j=3→0≤mE j w l∧mE j w l≤256:=λe=>by subst e;obtain⟨v,b,_⟩:=jo 2 w (by rw[d];rfl) (by omega) a;(have:cC w≤256:=by simp only[gS] at i;cases a:decide (cC w>256) with|true=>rw[a] at i;cases i|false=>have:=II a;omega);show 0≤cC w∧cC w≤256;omega);(have m:j=7→mE j w l=l - 1:=λe=>by subst e;rfl);(have n:j≠3→j≠7→mE j w l=l:=λa b=>by match j,f with|0,_|1,_|2,_|4,_|5,_|6,_|8,_|9,_=>rfl|3,_=>exact absurd rfl a|7,_=>exact absurd rfl b);refine⟨k,m,n,λe=>?_,λa b=>?_,λe=>?_⟩;unfold lO;rw[Jm e];by_cases a:mE j w l=0;exact .inl ⟨a,by rw[Jm a];rfl⟩;exact .inr ⟨a,by rw[Jf a];rfl⟩;unfold lO;rw[Jf (by omega)];omega;subst e;cases i);obtain⟨a,b,e,k⟩:=h.next f t;(have:lO j (mE j w l)=a:=by omega);rw[this];exact⟨b,k⟩
theorem D3:∀(n:Nat) (z:List Int) (a:Int) (j:Nat) (l:Int) (hd:aC) (s:aR) (cs:List (List Int)),z.length<n→j<10→z.length<2^30→0≤a→a+(z.length:Int)≤2^40→aV z→pi j l cs.length→ ∃r,Loop.run lS (z,cs,[],a,(j:Int),l,hd,s,0,0)=some r∧Tb r=mn n z a j l hd s cs|0,z,_,_,_,_,_,_,h,_,_,_,_,_,_=>by omega|n+1,z,a,j,l,hd,s,cs,h,k,b,e,c,m,o=>by (have c:cs.length≤256:=by obtain⟨t1,t2,t3,t4⟩:=o;by_cases c:j≤3;have:=t1 c;omega;by_cases c:j=4∨j=5;have:=t2 c;omega;by_cases c:j=6∨j=7;have:=t3 c;omega;have:=t4 (by omega);omega);have c:=nX k;unfold mn;by_cases i:z.length<ci j;rw[Io i,Im];refine⟨_,Dj k i ⟨e,by omega⟩,?_⟩;have f:((0:Int)==0)=true:=rfl;simp only[Tb,f,Im];by_cases f:j=9;have c:decide ((j:Int)<9)=false:=Ip (by omega);(have d:(j==9)=true:=by simpa using f);rw[c,d];rfl;have c:decide ((j:Int)<9)=true:=Io (by omega);(have d:(j==9)=false:=by simpa using f);rw[c,d];rfl;rw[Ip i,Il];obtain⟨o1,o2⟩:=FY (hd:=hd) (s:=s) k (by omega) ⟨e,by omega⟩ b (by omega) m o.left (cs:=cs) (a:=a);have i:aV (z.take (ci j)):=λb h=>m b (Jo h);cases c:gS j (z.take (ci j)) s != 0 with|true=>exact o1 (by simpa using c)| false =>(have e:gS j (z.take (ci j)) s=0:=by simpa using c);rw[o2 e,Il];obtain⟨c,d⟩:=BW k o i (by rw[IM];omega) e;refine D3 n _ _ _ _ _ _ _ (by simp;omega) c (by simp;omega) (by omega) (by simp;omega) (λb h=>m b (KF h)) ?_;(have b:(if j=7 then cs++[z.take (ci j)] else cs).length=if j=7 then cs.length+1 else cs.length:=by by_cases c:j=7<;>simp[c]);rw[b];exact d
def Dk (raw:List Int):aS×Int×Int:=mn (raw.length+1) raw 0 0 0 ⟨0,0,0⟩ ⟨1,0⟩ []
theorem rP {raw:List Int} (hl:raw.length<2^30) (hb:aV raw):dO raw=some (Dk raw):=by obtain⟨r,hr,ha⟩:=D3 (raw.length+1) raw 0 0 0 ⟨0,0,0⟩ ⟨1,0⟩ [] (by omega) (by omega) hl (by omega) (by omega) hb ⟨λ_=>⟨rfl,rfl⟩,by omega,by omega,by omega⟩;unfold dO jz;simp only[aB];unfold fo;show(((Loop.run lS _).bind _).bind _).bind _=_;have a:Loop.run lS (raw,[],[],0,0,0,⟨0,0,0⟩,⟨1,0⟩,0,0)=some r:=hr;rw[a];show _=some (mn (raw.length+1) raw 0 0 0 ⟨0,0,0⟩ ⟨1,0⟩ []);rw[←ha];obtain⟨r1,r2,r3,r4,r5,r6,r7,r8,r9⟩:=r;simp only[aB,Tb,io];cases h8:r8==0 with|true=>((have b:(r8 != 0)=false:=by simp[bne,h8]);simp only[Im,b,Il];cases h9:decide (r4<9) with|true=>rfl|false=>rfl)|false=>rfl
theorem pc {v z:Int} {k:Nat} (a:z=k) (b:k≤8):dp v z=some (qI v k):=by subst a;unfold dp;rw[wrap64 (x:=(k:Int) - 1) (by omega)];rw[aY (s0:=([],(k:Int) - 1)) (r:=qI v k) (λi=>((List.range i).map (λj=>wrap .u8 (ef .i64 v ((8*(k - 1 - j):Nat):Int))),(k:Int) - 1 - (i:Int))) 0 k (IG _) ?_ ?_ ?_];rfl;intro i _ a;have a:decide ((k:Int) - 1 - (i:Int)≥0)=true:=Io (by omega);(have e:(k:Int) - 1 - (i:Int)=((k - 1 - i:Nat):Int):=by omega);(have b:wrap .i64 (8*((k:Int) - 1 - (i:Int)))=((8*(k - 1 - i):Nat):Int):=by rw[wrap64 (by omega)];omega);have c:decide (0≤((8*(k - 1 - i):Nat):Int))=true:=Io (by omega);simp only[a,b,c,Im];rw[aW (by rw[cQ];simp;omega)];simp only[aB];rw[cZ (λj=>wrap .u8 (ef .i64 v ((8*(k - 1 - j):Nat):Int))),wrap64 (by omega)];congr 3;omega;have a:decide ((k:Int) - 1 - (k:Int)≥0)=false:=Ip (by omega);simp only[a,Il];rfl;simp
def tK (s:aR):Prop:=(0≤s.a∧s.a<65521)∧(0≤s.b∧s.b<65521)
theorem xN {x:Int} (h:0≤x):0≤Int.tmod x 65521∧Int.tmod x 65521<65521:=by rw[Int.tmod_eq_emod_of_nonneg h];omega
theorem B5 {s:aR} {b:Int} (a:tK s) (c:0≤b∧b≤255):zW s b=⟨Int.tmod (s.a+b) 65521,Int.tmod (s.b+Int.tmod (s.a+b) 65521) 65521⟩∧tK (zW s b):=by obtain⟨c,c⟩:=a;have a:=xN (x:=s.a+b) (by omega);have c:=xN (x:=s.b+Int.tmod (s.a+b) 65521) (by omega);(have w:∀x:Int,0≤x∧x<4294967296→wrap .u32 x=x:=λx d=>by rw[nf];omega);(have e:zW s b=⟨Int.tmod (s.a+b) 65521,Int.tmod (s.b+Int.tmod (s.a+b) 65521) 65521⟩:=by unfold zW;simp only[w b (by omega),w (s.a+b) (by omega),w (s.b+Int.tmod (s.a+b) 65521) (by omega)]);exact⟨e,by rw[e];exact⟨a,c⟩⟩
theorem B6:∀{p:List Int} {s:aR},tK s→aV p→tK (rC s p)|[],s,a,_=>a|b::p,s,a,c=>B6 (p:=p) (B5 a (c b (by simp))).2 (λx a=>c x (by simp[a]))
theorem F1 {s:aR} (a:tK s):mR s=s.b*65536+s.a:=by obtain⟨⟨c,d⟩,⟨e,f⟩⟩:=a;obtain⟨a,b⟩:=s;simp only at c d e f;obtain⟨x,rfl⟩:∃x:Nat,a=x:=⟨a.toNat,by omega⟩;obtain⟨y,rfl⟩:∃y:Nat,b=y:=⟨b.toNat,by omega⟩;unfold mR;(have a:eD .u32 (y:Int) 16=((y*65536:Nat):Int):=by show IntKind.u32.wrap ((y:Int)*65536)=_;rw[nf];omega);simp only;rw[a];unfold qH;(have f:(BitVec.ofInt IntKind.u32.bits ((y*65536:Nat):Int)|||BitVec.ofInt IntKind.u32.bits (x:Int)).toNat=y*65536+x:=by show(BitVec.ofInt 32 ((y*65536:Nat):Int)|||BitVec.ofInt 32 (x:Int)).toNat=_;rw[BitVec.toNat_or,JM,JM];(have a:((((y*65536:Nat):Int))%((2^32:Nat):Int)).toNat=y*65536:=by omega);(have b:(((x:Int))%((2^32:Nat):Int)).toNat=x:=by omega);rw[a,b];have:=KY (b:=x) (i:=16) (by omega) y;rw[LY] at this;exact this.symm);rw[f,nf];omega
def oG (p:List Int):aR:=rC ⟨1,0⟩ p
theorem xO {p:List Int} (a:aV p):tK (oG p):=B6 ⟨⟨by decide,by decide⟩,⟨by decide,by decide⟩⟩ a
theorem EL (p:List Int) (b:Int):oG (p++[b])=zW (oG p) b:=by simp[oG,rC]
theorem B7 {p:List Int} (a:aV p) (b:p.length<2^30):f7 p=some (qI (mR (oG p)) 4):=by unfold f7;have b:=xO a;rw[aY (s0:=(1,0,0)) (r:=((oG p).a,(oG p).b)) (λi=>((oG (p.take i)).a,(oG (p.take i)).b,(i:Int))) 0 p.length (IG _) ?_ ?_ rfl];simp only[aB];obtain⟨⟨d,f⟩,⟨h,j⟩⟩:=b;rw[wrap64 (x:=(oG p).b*65536) (by omega),wrap64 (by omega),pc (z:=4) (k:=4) rfl (by omega),F1 ⟨⟨d,f⟩,⟨h,j⟩⟩];rfl;intro i _ b;have k:decide ((i:Int)<(p.length:Int))=true:=Io (by omega);simp only[k,Im];rw[aK rfl b];have l:=gi a i;have c:=xO (ed a i);(have e:p.take (i+1)=p.take i++[p.getD i 0]:=by rw[IA b];simp[b]);rw[e,EL,(B5 c l).1];obtain⟨⟨d,f⟩,⟨h,j⟩⟩:=c;have a:=xN (x:=(oG (p.take i)).a+p.getD i 0) (by omega);simp only[aB];rw[wrap64 (x:=p.getD i 0) (by omega),wrap64 (x:=(oG (p.take i)).a+p.getD i 0) (by omega),wrap64 (x:=(oG (p.take i)).b+_) (by omega),wrap64 (by omega)];rfl;have k:decide ((p.length:Int)<(p.length:Int))=false:=Ip (by omega);simp only[k,Il,IY]
theorem Hj (p:List Int):jd p=f7 p:=rfl
theorem F2 (h:aC):((((((decide (h.Left<0))||(decide (h.Left>8)))||(decide (h.Round<0)))||(decide (h.Round≥4611686018427387904)))||(decide (h.Epoch<0)))||(decide (h.Epoch>4611686018427387904)))= !wo h:=by unfold wo;rw[Ja];simp only[J5,IB,JJ,LU,Iw];omega
theorem Dl:∀cs:List (List Int),(cs.all λc=>c.length==320)=true→(pV cs).length=322*cs.length:=by intro cs;induction cs with|nil=>intro _;rfl|cons c cs a=>intro h;simp only[Mh,Ix,Ke] at h;have:=a h.2;simp only[pV] at this;simp[pV,jh,this,h.1];omega
theorem qT {p q:List Int} (a:aV p) (c:aV q):aV (p++q):=λb h=>(IK.1 h).elim (a b) (c b)
theorem B8 (h:aC) (n:Nat):aV (rS h n):=by unfold rS;refine qT (qT (qT (qT (λb a=>?_) (λb a=>?_)) (pg _ _)) (pg _ _)) (pg _ _);simp only[I9,LX,or_false] at a;omega;simp only[I9,LX,or_false] at a;rcases a with rfl|rfl;omega;exact ml _
theorem B9 {cs:List (List Int)} (a:∀c∈cs,aV c):aV (pV cs):=by intro b h;simp only[pV,List.mem_flatten,Jd] at h;obtain⟨l,⟨c,d,rfl⟩,e⟩:=h;rcases IK.1 e with e|e;exact pg _ _ b e;exact a c d b e
theorem F3 (b:aS) (a:∀c∈b.Cells,aV c):je b=some (oh b):=by unfold je oh;rw[F2];cases d: !wo b.Header with|true=>rfl|false=>rw[Il,Il];cases d:decide ((b.Cells.length:Int)>256) with|true=>rfl|false=>have d:=II d;rw[Il,Il,pc (z:=2) (k:=2) rfl (by omega)];simp only[aB];rw[aW (by rw[cQ];simp[jh]),pc (z:=8) (k:=8) rfl (by omega)];simp only[aB];rw[aW (by rw[cQ];simp[jh]),pc (z:=8) (k:=8) rfl (by omega)];simp only[aB];rw[aW (by rw[cQ];simp[jh])];simp only[aB];have d:[67,72,82,78,1,wrap .u8 b.Header.Left]++qI (b.Cells.length:Int) 2++qI b.Header.Round 8++qI b.Header.Epoch 8=rS b.Header b.Cells.length:=rfl;rw[d];have d:=zY b.Header b.Cells.length;rw[(nU (λ(i:Nat) (x:List Int)=>(x,(i:Int))) zZ b.Cells (λi r x=>x.length=24+322*i) (λx=>Sum.inl x) (Sum.inr (([],64):List Int×Int)) ?_ ?_ (rS b.Header b.Cells.length) (by rw[d]) ?_).1];rw[tM];(cases e:b.Cells.all λc=>c.length==320 with|false=>rfl|true=>have f:=Dl _ e;simp only[Im,aB];(have e:aV (rS b.Header b.Cells.length++pV b.Cells):=λx h=>by rcases IK.1 h with h|h;exact B8 _ _ x h;exact B9 a x h);rw[Hj,B7 e (by rw[Iu,f,d];omega)];simp only[aB];rw[aW (by rw[cQ,Iu,f,d,jh];omega)];rfl);intro i c r x d d e I;have f:decide ((i:Int)<(b.Cells.length:Int))=true:=Io (by omega);(have h:b.Cells.getD i []=c:=by simp[List.getD,e]);simp only[f,Im,zZ];rw[dk (i:=i) [] rfl d,h];simp only[aB];(have a:((c.length:Int) != 320)= !(c.length==320):=by rw[Ja];simp;omega);rw[a];(cases a:(c.length==320) with|false=>exact⟨λ_=>rfl,λy d=>(by cases d)⟩|true=>(have a:c.length=320:=by simpa using a);refine⟨λh=>(by cases h),λy d=>?_⟩;cases d;simp only[IQ,Il];rw[pc (z:=2) (k:=2) rfl (by omega)];simp only[aB];rw[aW (by rw[cQ];simp[jh];omega)];simp only[aB];rw[aW (by rw[cQ];simp[jh];omega),wrap64 (by omega)];refine⟨by simp,by simp[jh,I,a];omega⟩);intro x I;have f:decide ((b.Cells.length:Int)<(b.Cells.length:Int))=false:=Ip (by omega);simp only[f,Il];rfl
theorem zT {p:List Int} {b:Int} (a:p.length≤6∨cC p<2^55) (a:aV p) (h:0≤b∧b≤255) (c:p.length≤7):cC (p++[b])=cC p*256+b:=by obtain⟨v,d,c⟩:=jo p.length p rfl (by omega) a;(have a:v<2^56:=by have:256^p.length≤256^7:=L3 (by omega) (by omega);omega);obtain⟨c,rfl⟩:∃c:Nat,b=c:=⟨b.toNat,by omega⟩;(have e:cC (p++[(c:Int)])=qH .u64 (eD .u64 (cC p) 8) (wrap .u64 (c:Int)):=by unfold cC;rw[Ka];rfl);rw[e,d,Bb a (by omega)];omega
theorem uP {p:List Int} (a:aV p) (b:p.length≤8):0≤cC p∧cC p<((256^p.length:Nat):Int):=by obtain⟨v,c,c⟩:=jo p.length p rfl b a;omega
def pe (w:List Int):Int:=bif decide (w.length=8)&&decide (cC (w.take 7)≥36028797018963968) then -1 else cC w
theorem pf {raw:List Int} {z y:Int} {a k:Nat} (b:z=a) (c:y=k) (d:k≤8) (d:1≤k) (d:a+k≤raw.length) (d:raw.length<2^30) (d:aV raw):cp raw z y=some (pe ((raw.drop a).take k)):=by
 subst b c
 have b:((raw.drop a).take k).length=k:=by simp;omega
 have c:aV ((raw.drop a).take k):=ed (gn d a) k
 have d:∀i,i<k→raw.getD (a+i) 0=((raw.drop a).take k).getD i 0:=λi f=>by
  simp[List.getD,JB,Jc,f]
 generalize (raw.drop a).take k=w at*
 have V:=λi (f:i≤k)=>uP (p:=w.take i) (ed c i) (by simp;omega)
 have h:∀i,i≤k→(w.take i).length=i:=λi f=>by simp;omega
 have step:∀i,i<k→cC (w.take i)<2^55→cC (w.take (i+1))=cC (w.take i)*256+w.getD i 0:=λi f j=>by
  have e:w.take (i+1)=w.take i++[w.getD i 0]:=by rw[IA (by omega)];simp[b,f]
  rw[e]
  exact zT (.inr j) (ed c i) (gi c i) (by rw[h i (by omega)];omega)
 have b:∀i,i≤6→i≤k→cC (w.take i)<2^55:=λi e f=>by
  have:=(V i f).2
  rw[h i f] at this
  have h:256^i≤256^6:=L3 (by omega) e
  omega
 unfold cp
 have l:wrap .i64 ((a:Int)+(k:Int))=(a:Int)+(k:Int):=wrap64 (by omega)
 rw[l]
 have nx : ∀ i, i < k → cC (w.take i) < 2 ^ 55 → (bif decide (((a : Int) + (i : Int)) < (a : Int) + (k : Int)) then
      bif decide (cC (w.take i)≥36028797018963968) then
       some (.done (.inr (-1)))
      else
       (idx raw ((a:Int)+(i:Int))).bind λl=>
       some (.next (wrap .i64 ((wrap .i64 (cC (w.take i)*256))+(wrap .i64 l)),wrap .i64 ((a:Int)+(i:Int)+1)))
    else
      some (.done (.inl (cC (w.take i)))) : Option (tj (Int × Int) (Int ⊕ Int))) = some (.next (cC (w.take (i + 1)), (a : Int) + ((i + 1 : Nat) : Int))) := λi f j => by
  have l:decide (((a:Int)+(i:Int))<(a:Int)+(k:Int))=true:=Io (by omega)
  have h:decide (cC (w.take i)≥36028797018963968)=false:=Ip (by omega)
  rw[l,h,Im,Il,aK (i:=a+i) (by omega) (by omega),d i f]
  simp only[aB]
  have d:=gi c i
  have c:=(V i (by omega)).1
  rw[wrap64 (x:=cC (w.take i)*256) (by omega),wrap64 (x:=w.getD i 0) (by omega),wrap64 (x:=cC (w.take i)*256+_) (by omega),wrap64 (by omega),step i f j]
  congr 3
 cases c:decide (w.length=8)&&decide (cC (w.take 7)≥36028797018963968) with
 |false=>
  have d:∀i,i<k→cC (w.take i)<2^55:=λi f=>by
    by_cases e:i≤6
    · exact b i e (by omega)
    · have:i=7:=by omega
      subst this
      have e:w.length=8:=by omega
      rw[Io e,JE] at c
      have:=II c
      omega
  rw[aY (s0:=(0,(a:Int))) (r:=Sum.inl (cC w)) (λi=>(cC (w.take i),(a:Int)+(i:Int))) 0 k (IG _) (λi _ f=>nx i f (d i f)) ?_ ?_]
  · simp only[aB,pe,c,Il]
  · have l:decide (((a:Int)+(k:Int))<(a:Int)+(k:Int))=false:=Ip (by omega)
    have:w.take k=w:=ID (by omega)
    simp only[l,Il,this]
  · simp[cC]
 |true=>
  rw[Ix,IB,IB] at c
  obtain⟨d,h⟩:=c
  have e:k=8:=by omega
  rw[aY (s0:=(0,(a:Int))) (r:=Sum.inr (-1)) (λi=>(cC (w.take i),(a:Int)+(i:Int))) 0 7 (IG _) (λi _ f=>nx i (by omega) (b i (by omega) (by omega))) ?_ ?_]
  · simp only[aB,pe,d,JA,JE,Io h,Im]
  · have l:decide (((a:Int)+((7:Nat):Int))<(a:Int)+(k:Int))=true:=Io (by omega)
    simp only[l,Im,Io h]
  · simp[cC]
def kH (j:Nat):Nat:=[0,4,5,6,8,16,24].getD j 0
def bQ (raw:List Int) (j:Nat):List Int:=(raw.drop (kH j)).take (ci j)
theorem vQ {j:Nat} (h:j<6):kH (j+1)=kH j+ci j:=by match j,h with|0,_|1,_|2,_|3,_|4,_|5,_=>rfl
theorem zR {w:List Int} (a:aV w) (b:w.length=8):cC w=cC (w.take 7)*256+w.getD 7 0:=by (have e:w=w.take 7++[w.getD 7 0]:=by have:=IA (l:=w) (i:=7) (by omega);rw[ID (by omega)] at this;simp only[List.getD,IW (show 7<w.length by omega),Jb];exact this);(have b:(w.take 7).length=7:=by simp;omega);obtain⟨v,d,c⟩:=jo 7 (w.take 7) b (by omega) (ed a 7);have b:=gi a 7;obtain⟨c,a⟩:∃c:Nat,w.getD 7 0=c:=⟨(w.getD 7 0).toNat,by omega⟩;(have b:cC (w.take 7++[w.getD 7 0])=qH .u64 (eD .u64 (cC (w.take 7)) 8) (IntKind.wrap .u64 (w.getD 7 0)):=by unfold cC;rw[Ka];rfl);rw[←e] at b;rw[b,d,a,Bb (by omega) (by omega)];omega
theorem D4 {w:List Int} (a:aV w) (b:w.length=8) {c:Int} (h0:0≤c) (d:c<9223372036854775807):(decide (pe w<0)||decide (pe w>c))=decide (cC w>c):=by have d:=zR a b;have d:=gi a 7;obtain⟨d,d⟩:=uP a (by omega);unfold pe;have d8:decide ((8:Nat)=8)=true:=rfl;rw[b,d8,JE];cases a:decide (cC (w.take 7)≥36028797018963968) with|true=>have a:=Ir a;have e:decide (cC w>c)=true:=Io (by omega);rw[e];rfl|false=>simp only[Il];have e:decide (cC w<0)=false:=Ip (by omega);rw[e,Kr]
theorem A8 {w:List Int} (h2:w.length=2):pe w=cC w:=by unfold pe;rw[h2];rfl
theorem BX {w:List Int} (a:aV w) (b:w.length=8) (h:cC w≤4611686018427387904):pe w=cC w:=by have c:=zR a b;have b:=gi a 7;unfold pe;have e:decide (cC (w.take 7)≥36028797018963968)=false:=Ip (by omega);rw[e,Mf];rfl
theorem xM {raw:List Int} {j i:Nat} (a:i<ci j):(bQ raw j).getD i 0=raw.getD (kH j+i) 0:=by simp[bQ,List.getD,JB,Jc,a]
theorem sM {raw:List Int} {j:Nat} (a:j<6) (h:kH (j+1)≤raw.length):(bQ raw j).length=ci j:=by rw[vQ a] at h;simp[bQ];omega
theorem wm {raw:List Int} (a:aV raw) (j:Nat):aV (bQ raw j):=ed (gn a _) _
theorem EI {raw:List Int} (a:aV raw) (b:raw.length<2^30) {j:Nat} (c:j<6) (h:kH (j+1)≤raw.length) (s:aR) {z:Int} (i:z=kH j):cX raw z=some (gS j (bQ raw j) s):=by have d:=sM c h;have f:=wm a j;match j,c with|0,_=>(have i:z=0:=i;have h:4≤raw.length:=h;subst i;unfold cX;rw[lQ (h:=4) (j:=4) rfl h];have e:raw.take 4=bQ raw 0:=rfl;rw[e];simp only[aB,Int.reduceBEq,Im,wY f,gS];cases bQ raw 0 != [67,72,82,78] with|true=>rfl|false=>rfl)|1,_=>(have i:z=4:=i;have h:5≤raw.length:=h;subst i;unfold cX;have e:(bQ raw 1).getD 0 0=raw.getD 4 0:=xM (by decide);rw[aK (z:=4) (i:=4) rfl (by omega)];simp only[aB,Int.reduceBEq,Im,Il,gS,e];cases raw.getD 4 0 != 1 with|true=>rfl|false=>rfl)|2,_=>(have i:z=5:=i;have h:6≤raw.length:=h;subst i;unfold cX;have e:(bQ raw 2).getD 0 0=raw.getD 5 0:=xM (by decide);rw[aK (z:=5) (i:=5) rfl (by omega)];simp only[aB,Int.reduceBEq,Im,Il,gS,e];cases decide (raw.getD 5 0>8) with|true=>rfl|false=>rfl)|3,_=>(have i:z=6:=i;have h:8≤raw.length:=h;subst i;unfold cX;have e:(raw.drop 6).take 2=bQ raw 3:=rfl;rw[pf (z:=6) (y:=2) (a:=6) (k:=2) rfl rfl (by omega) (by omega) (by omega) b a,e,A8 d];simp only[aB,Int.reduceBEq,Im,Il,gS];cases decide (cC (bQ raw 3)>256) with|true=>rfl|false=>rfl)|4,_=>(have i:z=8:=i;have h:16≤raw.length:=h;subst i;unfold cX;have e:(raw.drop 8).take 8=bQ raw 4:=rfl;rw[pf (z:=8) (y:=8) (a:=8) (k:=8) rfl rfl (by omega) (by omega) (by omega) b a,e];have c:=D4 f d (c:=4611686018427387903) (by omega) (by omega);(have k:decide (pe (bQ raw 4)≥4611686018427387904)=decide (pe (bQ raw 4)>4611686018427387903):=by rw[Lu];omega);simp only[aB,Int.reduceBEq,Im,Il,gS,k,c];cases decide (cC (bQ raw 4)>4611686018427387903) with|true=>rfl|false=>rfl)|5,_=>have i:z=16:=i;have h:24≤raw.length:=h;subst i;unfold cX;have e:(raw.drop 16).take 8=bQ raw 5:=rfl;rw[pf (z:=16) (y:=8) (a:=16) (k:=8) rfl rfl (by omega) (by omega) (by omega) b a,e];have c:=D4 f d (c:=4611686018427387904) (by omega) (by omega);simp only[aB,Int.reduceBEq,Im,Il,gS,c];cases decide (cC (bQ raw 5)>4611686018427387904) with|true=>rfl|false=>rfl
theorem BY {raw:List Int} {j n:Nat} (a:j<6) (b:kH j≤raw.length) {l:Int} {hd:aC} {s:aR} {cs:List (List Int)}: mn (n+1) (raw.drop (kH j)) (kH j:Int) j l hd s cs=bif decide ((raw.length:Int)<(kH (j+1):Int)) then(nV,(raw.length:Int),67) else bif gS j (bQ raw j) s != 0 then(nV,(kH j:Int),gS j (bQ raw j) s) else mn n (raw.drop (kH (j+1))) (kH (j+1):Int) (lO j (mE j (bQ raw j) l)) (mE j (bQ raw j) l) (wE j (bQ raw j) hd) (QB j (bQ raw j) s) cs:=by have b:=vQ a;(have a:decide ((raw.drop (kH j)).length<ci j)=decide ((raw.length:Int)<(kH (j+1):Int)):=by rw[Lu,IZ];omega);(have c:(j==9)=false:=by simp;omega);have d:(if j=7 then cs++[bQ raw j] else cs)=cs:=Jf (by omega);(have e:(kH j:Int)+((raw.drop (kH j)).length:Int)=(raw.length:Int):=by rw[IZ];omega);(have f:(raw.drop (kH j)).drop (ci j)=raw.drop (kH (j+1)):=by rw[Js,b]);(have b:(kH j:Int)+(ci j:Int)=(kH (j+1):Int):=by omega);rw[mn];show(bif decide ((raw.drop (kH j)).length<ci j) then _ else bif gS j (bQ raw j) s != 0 then(nV,_,gS j (bQ raw j) s) else mn n _ _ (lO j (mE j (bQ raw j) l)) (mE j (bQ raw j) l) (wE j (bQ raw j) hd) (QB j (bQ raw j) s) (if j=7 then cs++[bQ raw j] else cs))=_;rw[a,c,d,e,f,b];rfl
noncomputable def uN (c : List Int) : (Int × Int) → Option (tj (Int × Int) (Int ⊕ aF)) := λ(b, a) =>bif decide (a<([4,5,6,8,16,24].length:Int)) then (idx [4,5,6,8,16,24] a).bind λd=>bif decide ((c.length:Int)<d) then some (.done (.inr (⟨false,(⟨(0:Int),(0:Int),(0:Int)⟩:aC),[],(c.length:Int),67⟩:aF))) else (cX c b).bind λc=>bif c != 0 then some (.done (.inr (⟨false,(⟨(0:Int),(0:Int),(0:Int)⟩:aC),[],b,c⟩:aF))) else (idx [4,5,6,8,16,24] a).bind λe=>some (.next (e,IntKind.wrap .i64 (a+1))) else some (.done (.inl b))
theorem BZ {raw:List Int} (b:aV raw) (a:raw.length<2^30) {j:Nat} (c:j<6) (s:aR):uN raw ((kH j:Int),(j:Int))= bif decide ((raw.length:Int)<(kH (j+1):Int)) then some (.done (.inr ⟨false,⟨0,0,0⟩,[],(raw.length:Int),67⟩)) else bif gS j (bQ raw j) s != 0 then some (.done (.inr ⟨false,⟨0,0,0⟩,[],(kH j:Int),gS j (bQ raw j) s⟩)) else some (.next ((kH (j+1):Int),((j+1:Nat):Int))):=by unfold uN;have d:decide ((j:Int)<([4,5,6,8,16,24].length:Int))=true:=Io (by simp;omega);(have e:idx [4,5,6,8,16,24] (j:Int)=some (kH (j+1):Int):=by match j,c with|0,_|1,_|2,_|3,_|4,_|5,_=>rfl);simp only[d,Im,e,aB];cases d:decide ((raw.length:Int)<(kH (j+1):Int)) with|true=>rfl|false=>have d:=II d;simp only[Il];rw[EI b a c (by omega) s rfl,wrap64 (by omega)];rfl
def Tt (J:aF):aS×Int×Int:=bif J.Err != 0 then(nV,J.Place,J.Err) else(⟨J.Header,J.Cells⟩,0,0)
theorem B0 {j:Nat} (a:j<6) (w:List Int) (s t:aR):gS j w s=gS j w t:=by match j,a with|0,_|1,_|2,_|3,_|4,_|5,_=>rfl
def Xm (raw:List Int):Nat→Nat→Int→Int|0,_,l=>l|k+1,j,l=>Xm raw k (j+1) (mE j (bQ raw j) l)
def Y3 (raw:List Int):Nat→Nat→aC→aC|0,_,h=>h|k+1,j,h=>Y3 raw k (j+1) (wE j (bQ raw j) h)
def YX (raw:List Int):Nat→Nat→aR→aR|0,_,s=>s|k+1,j,s=>YX raw k (j+1) (QB j (bQ raw j) s)
theorem FZ {raw:List Int} (a:aV raw) (b:raw.length<2^30):∀(k j:Nat) (n:Nat) (l:Int) (hd:aC) (s:aR),j+k=5→kH j≤raw.length→raw.length<n+kH j→ ∃r,Loop.run (uN raw) ((kH j:Int),(j:Int))=some r∧ ((∃J:aF,r= .inr J∧J.Err≠0∧mn n (raw.drop (kH j)) (kH j:Int) j l hd s []=(nV,J.Place,J.Err))∨ (r= .inl 24∧24≤raw.length∧(∀i,j≤i→i<6→gS i (bQ raw i) ⟨1,0⟩=0)∧ ∃m,raw.length<m+24∧mn n (raw.drop (kH j)) (kH j:Int) j l hd s []=mn m (raw.drop 24) 24 (lO 5 (Xm raw (k+1) j l)) (Xm raw (k+1) j l) (Y3 raw (k+1) j hd) (YX raw (k+1) j s) [])):=by intro k;induction k with|zero=>(intro j n l hd s c d e;(have f:j=5:=by omega);subst f;obtain⟨n,rfl⟩:∃q,n=q+1:=⟨n - 1,by omega⟩;have f:=BZ a b (j:=5) (by omega) s;rw[BY (by omega) d];cases h:decide ((raw.length:Int)<(kH (5+1):Int)) with|true=>rw[h,Im] at f;exact⟨_,Mp f,.inl ⟨_,rfl,(by show(67:Int)≠0;decide),rfl⟩⟩|false=>have o:=II h;(have p:24≤raw.length:=by have:(kH (5+1):Int)=24:=rfl;omega);rw[h,Il] at f;rw[Il];cases t:gS 5 (bQ raw 5) s != 0 with| true =>rw[t,Im] at f;exact⟨_,Mp f,.inl ⟨_,rfl,by simpa using t,rfl⟩⟩| false =>rw[t,Il] at f;rw[Il,My f];refine⟨.inl 24,Mp rfl,.inr ⟨rfl,p,λi p u=>?_,n,?_,rfl⟩⟩;(have:i=5:=by omega);subst this;rw[B0 (by omega) _ _ s];simpa using t;have:kH 5=16:=rfl;omega)|succ k v=>intro j n l hd s c d e;(have c:j<5:=by omega);obtain⟨n,rfl⟩:∃q,n=q+1:=⟨n - 1,by omega⟩;have f:=BZ a b (j:=j) (by omega) s;have a:=vQ (j:=j) (by omega);have a:=nX (i:=j) (by omega);rw[BY (by omega) d];cases h:decide ((raw.length:Int)<(kH (j+1):Int)) with|true=>rw[h,Im] at f;exact⟨_,Mp f,.inl ⟨_,rfl,(by show(67:Int)≠0;decide),rfl⟩⟩|false=>have o:=II h;rw[h,Il] at f;rw[Il];cases t:gS j (bQ raw j) s != 0 with| true =>rw[t,Im] at f;exact⟨_,Mp f,.inl ⟨_,rfl,by simpa using t,rfl⟩⟩| false =>rw[t,Il] at f;rw[Il,My f];have a:lO j (mE j (bQ raw j) l)=j+1:=Jf (by omega);rw[a];obtain⟨r,p,u⟩:=v (j+1) n (mE j (bQ raw j) l) (wE j (bQ raw j) hd) (QB j (bQ raw j) s) (by omega) (by omega) (by omega);refine⟨r,p,?_⟩;rcases u with u|⟨a,b,c,d⟩;exact .inl u;refine .inr ⟨a,b,λi a a=>?_,d⟩;by_cases b:i=j;subst b;rw[B0 (by omega) _ _ s];simpa using t;exact c i (by omega) a
theorem B3:∀(k:Nat) (w:List Int),w.length=k→k≤7→aV w→qI (cC w) k=w|0,w,h,_,_=>by have:w=[]:=IS h;subst this;rfl|k+1,w,h,a,f=>by (have a:w≠[]:=by intro e;subst e;simp at h);have j:w=w.dropLast++[w.getLast a]:=(List.dropLast_concat_getLast a).symm;(have d:w.dropLast.length=k:=by simp[h]);have c:aV w.dropLast:=λb i=>f b (List.dropLast_subset w i);have h:=B3 k w.dropLast d (by omega) c;have i:=f _ (List.getLast_mem a);obtain⟨v,l,f⟩:=jo k w.dropLast d (by omega) c;obtain⟨b,f⟩:∃b:Nat,w.getLast a=b:=⟨(w.getLast a).toNat,by omega⟩;(have e:cC w=((v*256+b:Nat):Int):=by rw[j,zT (.inl (by omega)) c i (by omega),l,f];omega);rw[e,zX _ k (by omega)];(have a:(v*256+b) / 256=v:=by omega);(have c:(v*256+b)%256=b:=by omega);rw[a,c,←l,h,←f];exact j.symm
theorem Hi {w:List Int} {s:aR} (a:aV w) (b:w.length=4) (c:tK s):(w != qI (mR s) 4)=(cC w != mR s):=by have c:=rR s;obtain⟨v,c⟩:∃v:Nat,mR s=v:=⟨(mR s).toNat,by omega⟩;(have d:cC (qI (mR s) 4)=mR s:=by rw[c];exact Cb 4 v (by omega) (by omega) (by omega));rw[Ja];simp only[bne_iff_ne,ne_eq];constructor;intro h e;apply h;rw[←e];exact(B3 4 w b (by omega) a).symm;intro h e;apply h;rw[e];exact d
theorem EJ {raw:List Int} (e:aV raw) (d:raw.length<2^30) {a:Nat} (b:a≤raw.length) (H:aC) (cs:List (List Int)) {n:Nat} (c:raw.length<n+a): ∃J,eV raw (a:Int) ⟨true,H,cs,0,0⟩=some J∧Tt J=mn n (raw.drop a) (a:Int) 8 0 H (oG (raw.take a)) cs:=by obtain⟨n,rfl⟩:∃q,n=q+1:=⟨n - 1,by omega⟩;unfold eV;rw[wrap64 (x:=(a:Int)+4) (by omega),mn];have f:ci 8=4:=rfl;(have c:decide ((raw.drop a).length<ci 8)=decide ((raw.length:Int)<(a:Int)+4):=by rw[Lu,IZ,f];omega);rw[c];cases c:decide ((raw.length:Int)<(a:Int)+4) with|true=>refine⟨_,rfl,?_⟩;(have h:(a:Int)+((raw.drop a).length:Int)=(raw.length:Int):=by rw[IZ];omega);show(nV,(raw.length:Int),(67:Int))=(nV,(a:Int)+((raw.drop a).length:Int),67);rw[h]|false=>have c:=II c;rw[Il,Il,lQ (h:=(a:Int)) (j:=a) rfl b];simp only[aB];rw[B7 (ed e a) (by simp;omega)];simp only[aB];rw[lx (l:=(a:Int)) (h:=(a:Int)+4) (i:=a) (j:=a+4) rfl (by omega) (by omega) (by omega)];(have h:(raw.take (a+4)).drop a=(raw.drop a).take 4:=by rw[KO];congr 1;omega);(have c:((raw.drop a).take 4).length=4:=by simp;omega);have b:aV ((raw.drop a).take 4):=ed (gn e a) 4;rw[h,f];simp only[aB];rw[wY b,wY (pg _ _),Hi b c (xO (ed e a))];have b:gS 8 ((raw.drop a).take 4) (oG (raw.take a))=bif cC ((raw.drop a).take 4) != mR (oG (raw.take a)) then 65 else 0:=rfl;rw[b];cases b:cC ((raw.drop a).take 4) != mR (oG (raw.take a)) with|true=>exact⟨_,rfl,rfl⟩|false=>simp only[Il,IH];obtain⟨n,rfl⟩:∃q,n=q+1:=⟨n - 1,by omega⟩;rw[mn];(have b:decide (((raw.drop a).drop 4).length<ci (lO 8 (mE 8 ((raw.drop a).take 4) 0)))= !decide ((raw.length:Int)>(a:Int)+4):=by have:ci (lO 8 (mE 8 ((raw.drop a).take 4) 0))=1:=rfl;rw[this];cases c:decide ((raw.length:Int)>(a:Int)+4) with|true=>have:=Ir c;exact Ip (by simp;omega)|false=>have:=II c;exact Io (by simp;omega));rw[b];cases c:decide ((raw.length:Int)>(a:Int)+4) with|true=>exact⟨_,rfl,rfl⟩|false=>exact⟨_,rfl,rfl⟩
noncomputable def nW (a : List Int) (b : Int) (H : aC) : (Int × Int × (List (List Int))) → Option (tj (Int × Int × (List (List Int))) ((aF × Int) ⊕ aF)) := λ(c, d, e) =>bif decide (d<b) then ((bif decide ((a.length:Int)≥(wrap .i64 (c+2))) then (cp a c 2).bind λb=>some (b != 320) else some false :Option Bool)).bind λb=>bif b then some (.done (.inr (⟨true,H,e,c,64⟩:aF))) else bif decide ((a.length:Int)<(wrap .i64 ((wrap .i64 (c+2))+320))) then some (.done (.inr (⟨true,H,e,(a.length:Int),67⟩:aF))) else (sub a (wrap .i64 (c+2)) (wrap .i64 ((wrap .i64 (c+2))+320))).bind λa=>(gt a).bind λa=>(app e [a]).bind λa=>some (.next (wrap .i64 ((wrap .i64 (c+2))+320),wrap .i64 (d+1),a)) else some (.done (.inl ((⟨true,H,e,(0:Int),(0:Int)⟩:aF),c)))
noncomputable def Ym (raw : List Int) : (aF × Int) ⊕ aF → Option aF| .inl q=>eV raw q.2 q.1| .inr J=>some J
theorem B4 (p q:List Int):rC (oG p) q=oG (p++q):=by simp[oG,rC]
theorem EK {raw:List Int} (hb:aV raw) (h30:raw.length<2^30) (H:aC) {N:Int} (hN:N≤256):∀(k a:Nat) (i:Int) (cs:List (List Int)) (n:Nat),a≤raw.length→i+k=N→i=cs.length→raw.length<n+a→ ∃r J,Loop.run (nW raw N H) ((a:Int),i,cs)=some r∧Ym raw r=some J∧Tt J=mn n (raw.drop a) (a:Int) (if(k:Int)=0 then 8 else 6) (k:Int) H (oG (raw.take a)) cs:=by intro k;induction k with|zero=>intro a i cs n ha hi hc hn;have h1:decide (i<N)=false:=Ip (by omega);obtain⟨J,j1,j2⟩:=EJ hb h30 ha H cs hn;refine⟨.inl (⟨true,H,cs,0,0⟩,(a:Int)),J,Mp (by unfold nW;simp only[h1,Il]),j1,j2⟩|succ k ih=>intro a i cs n ha hi hc hn;obtain⟨n,rfl⟩:∃q,n=q+1:=⟨n - 1,by omega⟩;have h1:decide (i<N)=true:=Io (by omega);(have hne:¬(((k+1:Nat):Int)=0):=by omega);rw[Jf hne,mn];have e6:ci 6=2:=rfl;have e7:ci 7=320:=rfl;have w2:wrap .i64 ((a:Int)+2)=(a:Int)+2:=wrap64 (by omega);(have w3:wrap .i64 ((a:Int)+2+320)=(a:Int)+322:=by rw[wrap64 (by omega)];omega);rw[e6];by_cases hs:raw.length<a+2;have d1:decide ((raw.length:Int)≥(a:Int)+2)=false:=Ip (by omega);have d2:decide ((raw.length:Int)<(a:Int)+322)=true:=Io (by omega);have d3:decide ((raw.drop a).length<2)=true:=Io (by simp;omega);refine⟨_,_,Mp (by unfold nW;simp only[h1,w2,w3,d1,d2,Im,Il,aB];rfl),rfl,?_⟩;rw[d3,Im];(have e2:(a:Int)+((raw.drop a).length:Int)=(raw.length:Int):=by rw[IZ];omega);show(nV,(raw.length:Int),(67:Int))=(nV,(a:Int)+((raw.drop a).length:Int),67);rw[e2];have d1:decide ((raw.length:Int)≥(a:Int)+2)=true:=Io (by omega);have d3:decide ((raw.drop a).length<2)=false:=Ip (by simp;omega);(have hw2:((raw.drop a).take 2).length=2:=by simp;omega);have hrd:=pf (raw:=raw) (z:=(a:Int)) (y:=2) (a:=a) (k:=2) rfl rfl (by omega) (by omega) (by omega) h30 hb;rw[A8 hw2] at hrd;rw[d3,Il];have ej:gS 6 ((raw.drop a).take 2) (oG (raw.take a))=bif cC ((raw.drop a).take 2) != 320 then 64 else 0:=rfl;rw[ej];cases hx:cC ((raw.drop a).take 2) != 320 with|true=>refine⟨_,_,Mp (by unfold nW;simp only[h1,w2,d1,Im,hrd,aB,hx];rfl),rfl,?_⟩;rfl|false=>simp only[Il,IH];have st6:lO 6 (mE 6 ((raw.drop a).take 2) ((k+1:Nat):Int))=7:=rfl;have l6:mE 6 ((raw.drop a).take 2) ((k+1:Nat):Int)=((k+1:Nat):Int):=rfl;have h6:wE 6 ((raw.drop a).take 2) H=H:=rfl;have i6:(if(6:Nat)=7 then cs++[(raw.drop a).take 2] else cs)=cs:=rfl;(have s6:QB 6 ((raw.drop a).take 2) (oG (raw.take a))=oG (raw.take (a+2)):=by show rC (oG (raw.take a)) ((raw.drop a).take 2)=_;rw[B4,←KU]);(have dd:(raw.drop a).drop 2=raw.drop (a+2):=by rw[Js]);(have aa:(a:Int)+((2:Nat):Int)=((a+2:Nat):Int):=by omega);rw[st6,l6,h6,i6,s6,dd,aa];obtain⟨n,rfl⟩:∃q,n=q+1:=⟨n - 1,by omega⟩;rw[mn,e7];by_cases hs2:raw.length<a+322;have d2:decide ((raw.length:Int)<(a:Int)+322)=true:=Io (by omega);have d4:decide ((raw.drop (a+2)).length<320)=true:=Io (by simp;omega);refine⟨_,_,Mp (by unfold nW;simp only[h1,w2,w3,d1,d2,Im,hrd,aB,hx,Il];rfl),rfl,?_⟩;rw[d4,Im];(have e2:((a+2:Nat):Int)+((raw.drop (a+2)).length:Int)=(raw.length:Int):=by rw[IZ];omega);show(nV,(raw.length:Int),(67:Int))=(nV,((a+2:Nat):Int)+((raw.drop (a+2)).length:Int),67);rw[e2];have d2:decide ((raw.length:Int)<(a:Int)+322)=false:=Ip (by omega);have d4:decide ((raw.drop (a+2)).length<320)=false:=Ip (by simp;omega);rw[d4,Il];have j7:gS 7 ((raw.drop (a+2)).take 320) (oG (raw.take (a+2)))=0:=rfl;(have l7:mE 7 ((raw.drop (a+2)).take 320) ((k+1:Nat):Int)=(k:Int):=by show((k+1:Nat):Int) - 1=(k:Int);omega);have h7:wE 7 ((raw.drop (a+2)).take 320) H=H:=rfl;have i7:(if(7:Nat)=7 then cs++[(raw.drop (a+2)).take 320] else cs)=cs++[(raw.drop (a+2)).take 320]:=rfl;(have s7:QB 7 ((raw.drop (a+2)).take 320) (oG (raw.take (a+2)))=oG (raw.take (a+322)):=by show rC (oG (raw.take (a+2))) ((raw.drop (a+2)).take 320)=_;rw[B4,←KU]);(have dd7:(raw.drop (a+2)).drop 320=raw.drop (a+322):=by rw[Js]);(have aa7:((a+2:Nat):Int)+((320:Nat):Int)=((a+322:Nat):Int):=by omega);have n7:lO 7 (k:Int)=if(k:Int)=0 then 8 else 6:=rfl;rw[j7,l7,h7,i7,s7,dd7,aa7,n7];simp only[IH,Il];(have ew:(raw.take (a+322)).drop (a+2)=(raw.drop (a+2)).take 320:=by rw[KO];congr 1;omega);obtain⟨r,J,q1,q2,q3⟩:=ih (a+322) (i+1) (cs++[(raw.drop (a+2)).take 320]) n (by omega) (by omega) (by simp;omega) (by omega);refine⟨r,J,?_,q2,q3⟩;rw[←q1];apply My;unfold nW;simp only[h1,w2,w3,d1,d2,Im,hrd,aB,hx,Il];rw[lx (l:=(a:Int)+2) (h:=(a:Int)+322) (i:=a+2) (j:=a+322) (by omega) (by omega) (by omega) (by omega),ew];simp only[aB,gt];rw[aW (by rw[cQ];simp;omega)];simp only[aB,IP];rw[aW (by rw[cQ];simp;omega),wrap64 (x:=i+1) (by omega)];rfl
theorem uO {raw:List Int} (hl:raw.length<2^30) (hb:aV raw):f8 raw=some (Dk raw):=by obtain⟨r,hr,h2⟩:=FZ hb hl 5 0 (raw.length+1) 0 ⟨0,0,0⟩ ⟨1,0⟩ (by omega) (by show 0≤_;omega) (by omega);have e0:mn (raw.length+1) (raw.drop (kH 0)) (kH 0:Int) 0 0 ⟨0,0,0⟩ ⟨1,0⟩ []=Dk raw:=rfl;rw[e0] at h2;have hr':Loop.run (uN raw) (0,0)=some r:=hr;unfold f8 jZ;show((((Loop.run (uN raw) (0,0)).bind _).bind _).bind _)=_;rw[hr'];rcases h2 with⟨J,rfl,hJ,hf⟩|⟨rfl,h24,hall,m,hm,hf⟩;(have hJ':(J.Err != 0)=true:=by simpa using hJ);simp only[aB,hJ',Im,hf];rfl;have hfb:=λj=>wm hb (j:=j);have j3:=hall 3 (by omega) (by omega);have j4:=hall 4 (by omega) (by omega);have j5:=hall 5 (by omega) (by omega);have f3:=sM (raw:=raw) (j:=3) (by omega) (by show 8≤_;omega);have f4:=sM (raw:=raw) (j:=4) (by omega) (by show 16≤_;omega);have f5:=sM (raw:=raw) (j:=5) (by omega) (by show 24≤_;omega);(have b3:cC (bQ raw 3)≤256:=by simp only[gS] at j3;cases hd:decide (cC (bQ raw 3)>256) with|true=>rw[hd] at j3;cases j3|false=>have:=II hd;omega);(have b4:cC (bQ raw 4)≤4611686018427387903:=by simp only[gS] at j4;cases hd:decide (cC (bQ raw 4)>4611686018427387903) with|true=>rw[hd] at j4;cases j4|false=>have:=II hd;omega);(have b5:cC (bQ raw 5)≤4611686018427387904:=by simp only[gS] at j5;cases hd:decide (cC (bQ raw 5)>4611686018427387904) with|true=>rw[hd] at j5;cases j5|false=>have:=II hd;omega);have p3:=(uP (hfb 3) (by rw[f3];decide)).1;have p4:=(uP (hfb 4) (by rw[f4];decide)).1;have p5:=(uP (hfb 5) (by rw[f5];decide)).1;(have r4:cp raw 8 8=some (cC (bQ raw 4)):=by rw[pf (z:=8) (y:=8) (a:=8) (k:=8) rfl rfl (by omega) (by omega) (by omega) hl hb];show some (pe (bQ raw 4))=_;rw[BX (hfb 4) f4 (by omega)]);(have r5:cp raw 16 8=some (cC (bQ raw 5)):=by rw[pf (z:=16) (y:=8) (a:=16) (k:=8) rfl rfl (by omega) (by omega) (by omega) hl hb];show some (pe (bQ raw 5))=_;rw[BX (hfb 5) f5 (by omega)]);(have r3:cp raw 6 2=some (cC (bQ raw 3)):=by rw[pf (z:=6) (y:=2) (a:=6) (k:=2) rfl rfl (by omega) (by omega) (by omega) hl hb];show some (pe (bQ raw 3))=_;rw[A8 f3]);have g5:=gi hb 5;have r2:idx raw 5=some (raw.getD 5 0):=aK (z:=5) (i:=5) rfl (by omega);obtain⟨N,hN⟩:∃N:Nat,cC (bQ raw 3)=N:=⟨(cC (bQ raw 3)).toNat,by omega⟩;(have hL:Xm raw 6 0 0=(N:Int):=by rw[←hN];rfl);(have hH:Y3 raw 6 0 ⟨0,0,0⟩=⟨cC (bQ raw 4),cC (bQ raw 5),raw.getD 5 0⟩:=by have e:(bQ raw 2).getD 0 0=raw.getD 5 0:=xM (by decide);show(⟨wrap .i64 (cC (bQ raw 4)),wrap .i64 (cC (bQ raw 5)),(bQ raw 2).getD 0 0⟩:aC)=_;rw[wrap64 (by omega),wrap64 (by omega),e]);(have hS:YX raw 6 0 ⟨1,0⟩=oG (raw.take 24):=by show rC (rC (rC (rC (rC (rC ⟨1,0⟩ (bQ raw 0)) (bQ raw 1)) (bQ raw 2)) (bQ raw 3)) (bQ raw 4)) (bQ raw 5)=_;simp only[←wn,oG];congr 1;simp only[bQ,kH,ci];show(raw.drop 0).take 4++(raw.drop 4).take 1++(raw.drop 5).take 1++(raw.drop 6).take 2++(raw.drop 8).take 8++(raw.drop 16).take 8=raw.take 24;rw[JX,←KU,←KU,←KU,←KU,←KU]);rw[hf,hL,hH,hS];have n5:lO 5 (N:Int)=if(N:Int)=0 then 8 else 6:=rfl;obtain⟨r,J,q1,q2,q3⟩:=EK hb hl ⟨cC (bQ raw 4),cC (bQ raw 5),raw.getD 5 0⟩ (N:=(N:Int)) (by omega) N 24 0 [] m h24 (by omega) rfl hm;have q3':Tt J=mn m (raw.drop 24) 24 (if(N:Int)=0 then 8 else 6) (N:Int) ⟨cC (bQ raw 4),cC (bQ raw 5),raw.getD 5 0⟩ (oG (raw.take 24)) []:=q3;rw[n5,←q3'];simp only[aB,r4,r5,r3,r2,hN];rw[wrap64 (x:=raw.getD 5 0) (by omega)];show((((Loop.run (nW raw (N:Int) ⟨cC (bQ raw 4),cC (bQ raw 5),raw.getD 5 0⟩) (24,0,[])).bind _).bind _).bind _)=_;have q1':Loop.run (nW raw (N:Int) ⟨cC (bQ raw 4),cC (bQ raw 5),raw.getD 5 0⟩) (24,0,[])=some r:=q1;rw[q1'];cases r with|inl q=>(obtain⟨J0,a0⟩:=q;have q2:eV raw a0 J0=some J:=q2;simp only[aB,q2,Tt];cases hc:J.Err != 0 with|true=>rfl|false=>rfl)|inr J0=>have q2:(some J0:Option aF)=some J:=q2;cases q2;simp only[aB,Tt];cases hc:J.Err != 0 with|true=>rfl|false=>rfl
end Go.Proofs.YtlkjdchmeihhkaaGreatDoor

import Derived.Test.YtlkjdchmeihhkaaGreatDoorLawFw
set_option autoImplicit true
set_option relaxedAutoImplicit true
set_option linter.all false
set_option maxRecDepth 20000
set_option maxHeartbeats 1000000
namespace Go.Proofs.YtlkjdchmeihhkaaGreatDoor
open Go Go.Sim
open Go.IntKind (wrap)
variable [Fu]
theorem qW {x:List Int} (h:x.length<2^31):ey x=some x:=by unfold ey;rw[aW (by rw[cQ];simp;omega)];rfl
theorem wv {t:List Int} {c:Int} (h:t.length<2^31):fH t c=some (iN t c):=by unfold fH iN;cases a:decide (c<1)||decide (c>64) with|true=>rfl|false=>simp only[Iy,Iw] at a;rw[Il,Il];cases a:decide ((t.length:Int)<18) with|true=>rfl|false=>have a:=II a;obtain⟨n,rfl⟩:∃n:Nat,c=n:=⟨c.toNat,by omega⟩;(have f:(t.drop 18).length=t.length - 18:=by simp);rw[Il,Il,oO (xs:=t) (h:=18) (j:=18) rfl (by omega)];simp only[aB];rw[qW (by simp;omega),qo (xs:=t) (l:=18) (i:=18) rfl (by omega)];simp only[aB];(have a:∀m:Nat,m<2^31→wrap .i64 (Int.tdiv (m:Int) 2)=((m / 2:Nat):Int):=λm k=>by rw[show Int.tdiv (m:Int) 2=((m / 2:Nat):Int) from jf,wrap64 (by omega)]);rw[a _ (by omega),oO (j:=(t.drop 18).length / 2) rfl (by omega)];simp only[aB];rw[qW (by simp;omega)];simp only[aB];rw[qo (i:=(t.drop 18).length / 2) rfl (by omega)];simp only[aB];(have a:List.drop ((t.drop 18).length / 2) (t.drop 18)=zS t:=by rw[f];rfl);rw[a];(have b:(zS t).length≤t.length:=by simp only[zS,IZ];omega);have a:decide ((n:Int)≠0)=true:=Io (by omega);rw[a,Im,jf];generalize k:(zS t).length / n=m;(have d:n*m≤(zS t).length:=by rw[←k];exact Nat.mul_div_le _ _);have e:m≤n*m:=LN _ (by omega);rw[wrap64 (x:=(m:Int)) (by omega)];rw[aY (s0:=(0,[])) (r:=eF t n) (λi=>((i:Int),(List.range i).map λj=>((zS t).take ((j+1)*m)).drop (j*m))) 0 n (IG _) ?_ ?_ rfl];simp only[aB,Iq];intro i _ a;have b:decide ((i:Int)<(n:Int))=true:=Io (by omega);have d:(i+1)*m≤n*m:=Iz _ a;have a:(i+1)*m=i*m+m:=Jk _ _;(have d:wrap .i64 ((i:Int)*(m:Int))=((i*m:Nat):Int):=by rw[←Kh,wrap64 (by omega)]);(have w0:wrap .i64 ((i:Int)+1)=((i+1:Nat):Int):=by rw[wrap64 (by omega)];rfl);(have e:wrap .i64 (((i*m:Nat):Int)+(m:Int))=(((i+1)*m:Nat):Int):=by rw[wrap64 (by omega),a];rfl);simp only[b,Im,w0,d,e];rw[wy (i:=i*m) (j:=(i+1)*m) rfl rfl (by omega) (by omega)];simp only[aB];rw[qW (by simp;omega)];simp only[aB];rw[aW (by rw[cQ];simp;omega)];simp only[aB];rw[cZ (λj=>((zS t).take ((j+1)*m)).drop (j*m))];have b:decide ((n:Int)<(n:Int))=false:=Ip (by omega);simp only[b,Il,eF,k,f]
theorem An {v b:Int} (a:0≤v) (a:1≤b):decide (Int.tdiv v b<Int.tdiv 256 b)=decide (v<256 - Int.tmod 256 b):=by obtain⟨n,rfl⟩:∃n:Nat,v=n:=⟨v.toNat,by omega⟩;obtain⟨m,rfl⟩:∃m:Nat,b=m:=⟨b.toNat,by omega⟩;have a:Int.tdiv (n:Int) (m:Int)=((n / m:Nat):Int):=jf;have c:Int.tdiv 256 (m:Int)=((256 / m:Nat):Int):=jf (n:=256);have d:Int.tmod 256 (m:Int)=((256%m:Nat):Int):=xK (n:=256);rw[a,c,d];have a:=L5 256 m;have a:n / m<256 / m↔n<256 / m*m:=Nat.div_lt_iff_lt_mul (by omega);rw[Nat.mul_comm] at a;(have a:(((n / m:Nat):Int)<((256 / m:Nat):Int))↔(n:Int)<256 - ((256%m:Nat):Int):=by omega);exact Lu.2 a
def DG (bs:List Int) (u:Nat) (b:Int):Int×Int×Int:=bif !Qh b then(0,0,2) else match tH bs u b with|some (d,v)=>(d,(v:Int),0)|none=>(0,0,3)
theorem Cx {bs:List Int} {u:Nat} {b:Int} (a:aV bs) (c:bs.length<2^31) (c:u≤bs.length):iJ bs (u:Int) b=some (DG bs u b):=by
 unfold iJ DG
 cases d:(decide (b<1))||(decide (b>256)) with
 |true=>
  have:Qh b=false:=by simp only[Qh];simp at d⊢;omega
  rw[this];rfl
 |false=>
  simp only[Iy,Iw] at d
  have:Qh b=true:=by simp only[Qh];simp;omega
  rw[this]
  simp only[IQ,Il,tH]
  cases f:(b==1) with
  |true=>rfl
  |false=>
   have d:decide (b≠0)=true:=Io (by omega)
   have h:wrap .i64 (Int.tdiv 256 b)=Int.tdiv 256 b:=by
    obtain⟨m,rfl⟩:∃m:Nat,b=m:=⟨b.toNat,by omega⟩
    have e:Int.tdiv 256 (m:Int)=((256 / m:Nat):Int):=jf (n:=256)
    have:=Ld 256 m
    rw[e];generalize 256 / m=q at*;exact wrap64 (by omega)
   simp only[Il,d,Im,h]
   have h : ∀ k u, bs.length - u = k → u ≤ bs.length → Loop.run (S := Int) (R := (Unit ⊕ (Int × Int × Int))) (λx =>
     bif decide (x<(bs.length:Int)) then
      (idx bs x).bind λy=>
      bif decide ((wrap .i64 (Int.tdiv (wrap .i64 y) b))<Int.tdiv 256 b) then
       some (.done (.inr (Int.tmod (wrap .i64 y) b,wrap .i64 (x+1),0)))
      else
       some (.next (wrap .i64 (x+1)))
     else
      some (.done (.inl ()))) (u:Int)=some (match qR bs b k u with|some (d,v)=> .inr (d,(v:Int),0)|none=> .inl ()):=by
    intro k
    induction k with
    |zero=>
     intro u f d
     refine Mp ?_
     rw[Ip (by omega:¬(u:Int)<(bs.length:Int))]
     rfl
    |succ k i=>
     intro u f d
     have d:u<bs.length:=by omega
     have f:=gi a u
     have a:wrap .i64 (bs.getD u 0)=bs.getD u 0:=wrap64 (by omega)
     have j:wrap .i64 (Int.tdiv (bs.getD u 0) b)=Int.tdiv (bs.getD u 0) b:=by
      obtain⟨m,rfl⟩:∃m:Nat,b=m:=⟨b.toNat,by omega⟩
      obtain⟨v,k⟩:∃v:Nat,bs.getD u 0=v:=⟨(bs.getD u 0).toNat,by omega⟩
      have e:Int.tdiv (v:Int) (m:Int)=((v / m:Nat):Int):=jf
      have:=Ld v m
      rw[k,e];generalize v / m=q at*;exact wrap64 (by omega)
     have e:decide ((u:Int)<(bs.length:Int))=true:=Io (by omega)
     simp only[qR]
     cases k:decide (bs.getD u 0<256 - Int.tmod 256 b) with
     |true=>
      refine Mp ?_
      rw[e,Im,aK rfl d]
      simp only[aB,a,j]
      rw[An f.1 (by omega),k,wrap64 (by omega)];rfl
     |false=>
      simp only[Il]
      rw[←i (u+1) (by omega) (by omega)]
      refine My ?_
      rw[e,Im,aK rfl d]
      simp only[aB,a,j]
      rw[An f.1 (by omega),k,wrap64 (by omega)];rfl
   rw[h _ u rfl c]
   cases qR bs b (bs.length - u) u with
   |none=>rfl
   |some q=>rfl
theorem Cy {l:List Int} (a:l.length<2^31):iI l=some (!Qw l):=by unfold iI Qw;rw[vd (s0:=0) (λi=>(i:Int)) (Sum.inl ()) (Sum.inr true) (λi=>Qh (l.getD i 0)) l.length ?_ ?_ rfl];cases fN (λi=>Qh (l.getD i 0)) l.length 0<;>rfl;intro i a;have b:decide ((i:Int)<(l.length:Int))=true:=Io (by omega);simp only[b,Im];rw[aK rfl a,wrap64 (x:=(i:Int)+1) (by omega)];simp only[aB,Qh];by_cases c1:l.getD i 0<1;rw[Io c1,Ip (by omega:¬l.getD i 0≥1)];exact⟨λh=>(by cases h),λ_=>rfl⟩;rw[Ip c1,Io (by omega:l.getD i 0≥1)];by_cases c2:l.getD i 0>256;rw[Ip (by omega:¬l.getD i 0≤256),Il];simp only[Io c2,aB];exact⟨λh=>(by cases h),λ_=>rfl⟩;rw[Io (by omega:l.getD i 0≤256),Il];simp only[Ip c2,aB];exact⟨λ_=>rfl,λh=>(by cases h)⟩;have b:decide ((l.length:Int)<(l.length:Int))=false:=Ip (by omega);simp only[b,Il]
def Ee (bs:List Int) (_:Nat) (x:List Int×Nat) (b:Int):Option (List Int×Nat):=match tH bs x.2 b with|none=>none|some (d,v)=>some (x.1++[d],v)
theorem yg (bs:List Int):∀(l:List Int) (i:Nat) (ds:List Int) (u:Nat),jr (Ee bs) i (ds,u) l=match uD bs l u with
  |none=>none
  |some (a,w)=>some (ds++a,w)
 |[],i,ds,u=>by simp[jr,uD]
 |b::l,i,ds,u=>by
  simp only[jr,Ee,uD]
  cases tH bs u b with
  |none=>rfl
  |some q=>
   obtain⟨d,v⟩:=q
   simp only
   rw[yg bs l]
   cases uD bs l v with
   |none=>rfl
   |some r=>simp
theorem Ao {bs l:List Int} (h:aV bs) (d:bs.length<2^31) (a:l.length<2^30):ic bs l=some (wl bs l):=by unfold ic wl;rw[Cy (by omega)];simp only[aB];cases e:Qw l with|false=>rfl|true=>simp only[IQ,Il,Im];rw[vg (by omega),Im];have c:=uL e;rw[(nU (λ(i:Nat) (x:List Int×Nat)=>(x.1,(x.2:Int),(i:Int))) (Ee bs) l (λi r x=>x.1.length=i∧x.2≤bs.length) (λx=>Sum.inl (x.1,(x.2:Int))) (Sum.inr ([],0,3)) (s0:=(List.replicate (Int.toNat 0) (0:Int),0,0)) ?_ ?_ ([],0) ⟨rfl,IG _⟩ rfl).1];rw[yg];(cases uD bs l 0 with|none=>rfl|some q=>rfl);intro i b r x k e a I;have k:decide ((i:Int)<(l.length:Int))=true:=Io (by omega);(have f:l.getD i 0=b:=by simp[List.getD,a]);have j:=c b (I0 a);(have a:Qh b=true:=by simp only[Qh];simp;omega);simp only[k,Im];rw[aK rfl e,f];simp only[aB];rw[Cx h d I.2];simp only[aB,DG,a,IQ,Il,Ee];(cases a:tH bs x.2 b with|none=>exact⟨λ_=>rfl,λy b=>(by cases b)⟩|some q=>obtain⟨d,v⟩:=q;have c:=qS h j.1 I.2 a;refine⟨λh=>(by cases h),λy b=>?_⟩;cases b;simp only[IH,Il];rw[aW (by rw[cQ];simp;omega)];simp only[aB];rw[wrap64 (by omega)];exact⟨rfl,by simp[I.1],c.2.2.2⟩);intro x I;have k:decide ((l.length:Int)<(l.length:Int))=false:=Ip (by omega);simp only[k,Il]
theorem uZ {n:Int} (h0:0≤n) (h1:n≤256):ft n=some (nZ n):=by unfold ft;rw[aY (s0:=([],n)) (r:=nZ n) (λi=>((List.range i).map λk:Nat=>n - (k:Int),n - (i:Int))) 0 (n.toNat - 1) (IG _) ?_ ?_ ?_];rfl;intro i _ a;have a:decide (n - (i:Int)>1)=true:=Io (by omega);simp only[a,Im];rw[aW (by rw[cQ];simp;omega),cZ (λk:Nat=>n - (k:Int)),wrap64 (by omega)];simp only[aB];congr 3;omega;have a:decide (n - ((n.toNat - 1:Nat):Int)>1)=false:=Ip (by omega);simp only[a,Il,nZ];simp
theorem yh {n:Nat} (h1:n≤256):eO (n:Int)=some (SD n):=by unfold eO;rw[aY (s0:=([],0)) (r:=SD n) (λi=>((List.range i).map λk:Nat=>(k:Int),(i:Int))) 0 n (IG _) ?_ ?_ rfl];rfl;intro i _ a;have a:decide ((i:Int)<(n:Int))=true:=Io (by omega);simp only[a,Im];rw[aW (by rw[cQ];simp;omega),cZ (λk:Nat=>(k:Int)),wrap64 (by omega)];rfl;have a:decide ((n:Int)<(n:Int))=false:=Ip (by omega);simp only[a,Il,SD]
theorem Fb {n:Nat} {ds:List Int} (h:n≤256) (a:ds.length=n - 1) (b:S0 (n:Int) ds=true):jI (n:Int) ds=some true:=by unfold jI;rw[uZ (by omega) (by omega)];(have e:((ds.length:Int) != ((nZ (n:Int)).length:Int))=false:=by rw[ql,Iq,a];simp);simp only[aB,e,Il];rw[vd (s0:=0) (λi=>(i:Int)) (Sum.inl ()) (Sum.inr false) (λi=>decide (0≤ds.getD i 0)&&decide (ds.getD i 0<(n:Int) - (i:Int))) ds.length ?_ ?_ rfl];have a:fN (λi=>decide (0≤ds.getD i 0)&&decide (ds.getD i 0<(n:Int) - (i:Int))) ds.length 0=true:=b;rw[a];rfl;intro i a;have b:decide ((i:Int)<(ds.length:Int))=true:=Io (by omega);simp only[b,Im];rw[aK rfl a,wrap64 (x:=(n:Int) - (i:Int)) (by omega),wrap64 (x:=(i:Int)+1) (by omega)];simp only[aB];by_cases c1:ds.getD i 0<0;rw[Io c1,Ip (by omega:¬0≤ds.getD i 0)];exact⟨λh=>(by cases h),λ_=>rfl⟩;rw[Ip c1,Io (by omega:0≤ds.getD i 0)];by_cases c2:ds.getD i 0<(n:Int) - (i:Int);rw[Io c2,Ip (by omega:¬ds.getD i 0≥(n:Int) - (i:Int))];exact⟨λ_=>rfl,λh=>(by cases h)⟩;rw[Ip c2,Io (by omega:ds.getD i 0≥(n:Int) - (i:Int))];exact⟨λh=>(by cases h),λ_=>rfl⟩;have b:decide ((ds.length:Int)<(ds.length:Int))=false:=Ip (by omega);simp only[b,Il]
theorem zz {n:Nat} {ds:List Int} (h:n≤256) (a:ds.length=n - 1) (b:S0 (n:Int) ds=true):jb (n:Int) ds=some (js n ds ds.length,0):=by unfold jb;(have e:(((n:Int) != (wrap .i64 ((ds.length:Int)+1)))&&(!(((n:Int)==0)&&((ds.length:Int)==0))))=false:=by rw[wrap64 (by omega)];by_cases c:n=0;subst c;simp at a;subst a;rfl;(have:((n:Int) != (ds.length:Int)+1)=false:=by simp;omega);rw[this];rfl);rw[Ip (by omega:¬(n:Int)<0),Il,e,Il,Fb h a b,yh h];simp only[aB,IQ,Il];(have a:∀i,i<ds.length→0≤ds.getD i 0∧ds.getD i 0<(n:Int) - (i:Int):=λi c=>by have:=fv.1 b i (IG _) (by omega);simpa using this);rw[aY (s0:=(SD n,0)) (r:=js n ds ds.length) (λi=>(js n ds i,(i:Int))) 0 ds.length (IG _) ?_ ?_ rfl];rfl;intro i _ c;have b:decide ((i:Int)<(ds.length:Int))=true:=Io (by omega);have d:=a i c;have a:=nj n ds i;have a:wrap .i64 ((n:Int) - 1)=(n:Int) - 1:=wrap64 (by omega);(have d:wrap .i64 ((n:Int) - 1 - (i:Int))=((n - 1 - i:Nat):Int):=by rw[wrap64 (by omega)];omega);simp only[b,Im,a,d];rw[aK rfl c];simp only[aB];rw[aK (xs:=js n ds i) (i:=n - 1 - i) rfl (by omega)];simp only[aB];rw[aK (xs:=js n ds i) (z:=ds.getD i 0) (i:=(ds.getD i 0).toNat) (by omega) (by omega)];simp only[aB,Iq];rw[aK (i:=(ds.getD i 0).toNat) (by omega) (by rw[Kw];omega)];simp only[aB];rw[wrap64 (x:=(i:Int)+1) (by omega)];rfl;have b:decide ((ds.length:Int)<(ds.length:Int))=false:=Ip (by omega);simp only[b,Il]
end Go.Proofs.YtlkjdchmeihhkaaGreatDoor
set_option maxRecDepth 20000
set_option maxHeartbeats 1000000
namespace Go.Proofs.YtlkjdchmeihhkaaGreatDoor
open Go Go.Sim
open Go.IntKind (wrap)
variable [Fu]
theorem Cr (n c:Int):iH n c=some (j8 n c):=by unfold iH j8;cases a:(((decide (n<0))||(decide (n>256)))||(decide (c<1)))||(decide (c>64)) with|true=>rfl|false=>simp only[Iy,Iw] at a;obtain⟨k,rfl⟩:∃k:Nat,n=k:=⟨n.toNat,by omega⟩;obtain⟨m,rfl⟩:∃m:Nat,c=m:=⟨c.toNat,by omega⟩;have a:decide ((m:Int)≠0)=true:=Io (by omega);have b:k / m≤k:=Ld _ _;have d:k%m≤k:=Nat.mod_le _ _;simp only[Iq,jf,xK,jL];obtain⟨f,e⟩:∃f,f=k / m:=⟨_,rfl⟩;obtain⟨h,i⟩:∃h,h=k%m:=⟨_,rfl⟩;simp only[←e,←i] at b d⊢;have b:wrap .i64 (f:Int)=(f:Int):=wrap64 (by omega);simp only[a,Im,Il,b];rw[pw (λj=>((f+(if j<h then 1 else 0):Nat):Int)) m (r:=(List.range m).map λj=>((f+(if j<h then 1 else 0):Nat):Int)) ?_ ?_];rfl;intro i a;have a:decide ((i:Int)<(m:Int))=true:=Io (by omega);simp only[a,Im];(have e:(bif decide ((i:Int)<(h:Int)) then some (wrap .i64 ((f:Int)+1)) else some (f:Int):Option Int)=some ((f+(if i<h then 1 else 0):Nat):Int):=by by_cases c1:i<h;rw[Io (by omega),Im,Jm c1,wrap64 (by omega)];rfl;rw[Ip (by omega),Il,Jf c1];rfl);rw[e];simp only[aB];rw[aW (by rw[cQ];simp;omega),cZ (λj=>((f+(if j<h then 1 else 0):Nat):Int)),wrap64 (by omega)];rfl;have a:decide ((m:Int)<(m:Int))=false:=Ip (by omega);simp only[a,Il]
theorem Bn {n:Nat} (h:n≤256):gF (n:Int)=some (ju n):=by unfold gF;rw[Ip (by omega:¬(n:Int)>256),Il];rw[aY (s0:=(([]:List Int),(n:Int))) (r:=ju n) (λi=>((List.range i).map λk:Nat=>(n:Int) - (k:Int),(n:Int) - (i:Int))) 0 n (IG _) ?_ ?_ ?_];rfl;intro i _ a;have a:decide ((n:Int) - (i:Int)≥1)=true:=Io (by omega);simp only[a,Im];rw[aW (by rw[cQ];simp;omega),cZ (λk:Nat=>(n:Int) - (k:Int)),wrap64 (by omega)];simp only[aB];congr 3;omega;have a:decide ((n:Int) - (n:Int)≥1)=false:=Ip (by omega);simp only[a,Il,ju];simp
theorem Cs {l:List Int} (a:∀x∈l,0≤x∧x≤256) (i:Nat):(l.take i).sum≤l.sum:=by (have e:l.sum=(l.take i).sum+(l.drop i).sum:=by rw[←List.sum_append,Jl]);(have:∀m:List Int,(∀x∈m,0≤x)→0≤m.sum:=λm b=>by induction m with|nil=>simp|cons x m c=>have d:=b x (by simp);have d:=c λy c=>b y (by simp[c]);simp;omega);have:=this (l.drop i) λx b=>(a x (KF b)).1;omega
theorem Ct {l:List Int} (h1:1≤l.length) (h2:l.length≤64) (c:∀x∈l,0≤x∧x≤256) (a:l.sum≤256):iK l=some l.sum:=by unfold iK;(have a:((decide ((l.length:Int)<1))||(decide ((l.length:Int)>64)))=false:=by simp;omega);rw[a,Il];rw[aY (s0:=(0,0)) (r:=Sum.inl l.sum) (λi=>((l.take i).sum,(i:Int))) 0 l.length (IG _) ?_ ?_ rfl];rfl;intro i _ d;have e:decide ((i:Int)<(l.length:Int))=true:=Io (by omega);have a:=c _ (ng d);have b:=jg c i;have a:=Cs c (i+1);rw[jn d] at a;simp only[e,Im];rw[aK rfl d];simp only[aB,Ip (by omega:¬l.getD i 0<0),Il];rw[wrap64 (x:=256 - (l.take i).sum) (by omega),Ip (by omega:¬l.getD i 0>256 - (l.take i).sum),Il,jn d,wrap64 (by omega),wrap64 (x:=(i:Int)+1) (by omega)];rfl;have e:decide ((l.length:Int)<(l.length:Int))=false:=Ip (by omega);simp only[e,Il,IY]
theorem zy {sizes ds:List Int} {n:Nat} (hc1:1≤sizes.length) (hc2:sizes.length≤64) (g:rr sizes n) (hn:n≤256) (hd:wX n ds): fT sizes ds=some (SH sizes.length (q0 sizes ds)):=by obtain⟨hdl,hdr⟩:=hd;unfold fT;rw[Ct hc1 hc2 g.rng (by rw[g.sum];omega)];simp only[aB];(have e1:((decide (sizes.sum<0))||((ds.length:Int) != sizes.sum))=false:=by rw[g.sum];simp;omega);rw[e1,Il,aW (by rw[cQ];simp;omega)];simp only[aB,IP];rw[pv (by omega),Im,g.sum,Iq];generalize hc:sizes.length=c at*;obtain⟨z,hz⟩:=rN ds 0 [] sizes;rw[(nU (λ(i:Nat) (x:List (Nat×Int)×List Int)=>(x.2,cF c x.1,x.1.map λq=>(q.1:Int),(i:Int))) Ue ds (WE ds c n) (λx=>Sum.inl (cF c x.1,x.1.map λq=>(q.1:Int))) (Sum.inr (([],[],2):List Int×List Int×Int)) ?_ ?_ ([],sizes) ⟨by rw[hdl];exact g,hc,rfl,λq hq=>(by cases hq),by simp[hdl]⟩ ?_).1];rw[hz];simp only[IP,aB];generalize hps:q0 sizes ds=ps at*;(have hpl:ps.length=n:=by rw[←hps,sL,hdl]);(have hrows:∀k,((cF c ps).take k).flatten.length≤256*k:=by intro k;induction k with|zero=>simp| succ k ih =>by_cases hk:k<(cF c ps).length;rw[IA hk,Lw,Iu];(have:((cF c ps)[k]).length≤256:=by simp only[cF,Kk,J2,I8];exact Jv (Jr _ _) (by omega));simp only[KI,List.flatten_nil,JW];omega;rw[ID (by omega)];rw[ID (by omega)] at ih;omega);rw[aY (s0:=([],0)) (r:=(cF c ps).flatten) (λi=>(((cF c ps).take i).flatten,(i:Int))) 0 (cF c ps).length (IG _) ?_ ?_ ?_];rfl;intro i _ hi;have hd:decide ((i:Int)<((cF c ps).length:Int))=true:=Io (by omega);have h1:=hrows i;(have h2:((cF c ps).getD i []).length≤256:=by have:(cF c ps).getD i []=(ps.filter λq=>q.1==i).map (·.2):=pU (by rw[mm] at hi;exact hi);rw[this,I8];exact Jv (Jr _ _) (by omega));(have hi2:i<c:=by rw[mm] at hi;exact hi);simp only[hd,Im];rw[dk (i:=i) [] rfl hi];simp only[aB];rw[aW (by rw[cQ];omega),wrap64 (by omega)];simp only[aB];rw[IA hi,Lw];simp[List.getD,hi];have hd:decide (((cF c ps).length:Int)<((cF c ps).length:Int))=false:=Ip (by omega);simp only[hd,Il,IY];simp;intro i d r x hdr2 hi hget I;refine⟨λh=>(by cases h),λy hy=>?_⟩;obtain⟨pp,left⟩:=x;cases hy;obtain⟨I1,I2,I3,I4,I5⟩:=I;simp only at I1 I2 I3 I4 I5;simp only[IN] at I1 I5;(have hdi:ds.getD i 0=d:=by simp[List.getD,hget]);have hr:=hdr i (by omega);rw[hdi] at hr;(have hd1:d<((r.length+1:Nat):Int):=by omega);have L:=rO I1 hr.1 hd1;have Lx:=vP (λx hx=>(I1.rng x hx).1) hr.1 (by rw[I1.sum];exact hd1);have hlt:decide ((i:Int)<(n:Int))=true:=Io (by omega);have hw:wrap .i64 ((n:Int) - (i:Int))=(n:Int) - (i:Int):=wrap64 (by omega);(have hg1:((decide (d<0))||(decide (d≥(n:Int) - (i:Int))))=false:=by simp only[Iy,Iw];omega);have hloc:=tx I1.rng (by omega) left [] d rfl hr.1 (by rw[I1.sum];exact hd1) (by omega);simp only[I7,IX] at hloc;rw[show(((0:Nat):Int))=0 from rfl] at hloc;have hm:=I1.rng _ (ng L.1);generalize hq:f_ left d=q at*;obtain⟨j,e⟩:=q;simp only at L Lx hm hloc;(have hfl:((pp.filter λz=>z.1==j).map (·.2)).length≤pp.length:=by rw[I8];exact Jr _ _);refine⟨?_,?_⟩;simp only[hlt,Im];rw[aK rfl (by omega),hdi];simp only[aB,hw,hg1,Il];rw[hloc];simp only[aB];rw[aW (by rw[cQ];simp;omega)];simp only[aB];rw[dk (xs:=cF c pp) (i:=j) [] rfl (by rw[mm];omega),pU (by omega)];simp only[aB];rw[aW (by rw[cQ];simp only[IN,I7];omega)];simp only[aB,Iq];rw[aK (xs:=left) (i:=j) rfl (by omega)];simp only[aB];have hv:=uJ (c:=c) (ps:=pp) (q:=(j,e)) (by simp only;omega);simp only at hv;rw[hv,wrap64 (x:=left.getD j 0 - 1) (by omega),wrap64 (x:=(i:Int)+1) (by omega)];simp[Qb];have gs:=OF I1 hr.1 hd1;rw[hq] at gs;refine⟨gs,by simp[Qb,I2],by simp[I3],λq hq2=>?_,by omega⟩;rcases IK.1 hq2 with h|h;exact I4 q h;have:=Ji.1 h;subst this;simp only;omega;intro x I;have hlt:decide ((ds.length:Int)<(n:Int))=false:=Ip (by omega);simp only[hlt,Il];simp only[JT,cF,List.filter_nil];rw[Prod.mk.injEq,Prod.mk.injEq,Prod.mk.injEq];refine⟨rfl,?_,rfl,rfl⟩;apply Jt;simp;intro k h1 h2;simp
end Go.Proofs.YtlkjdchmeihhkaaGreatDoor

import Derived.Test.YtobbmodjdkcdcaaGreatDoorLawOrder
set_option autoImplicit true
set_option relaxedAutoImplicit true
set_option linter.all false
set_option maxRecDepth 20000
set_option maxHeartbeats 1000000
namespace Go.Proofs.YtobbmodjdkcdcaaGreatDoor
open Go Go.Sim
open Go.IntKind (wrap)
variable [Fu]
theorem qb {x:List Int} (h:x.length<2^31):dX x=some x:=by unfold dX;rw[aW (by rw[cR];simp;omega)];rfl
theorem ve {t:List Int} {c:Int} (h:t.length<2^31):fv t c=some (ii t c):=by unfold fv ii;cases h1:decide (c<1)||decide (c>64) with|true=>rfl|false=>simp only[Hz,Hy] at h1;rw[Hm,Hm];cases h2:decide ((t.length:Int)<18) with|true=>rfl|false=>have h2:=HF h2;obtain⟨n,rfl⟩:∃n:Nat,c=n:=⟨c.toNat,by omega⟩;(have hl:(t.drop 18).length=t.length - 18:=by simp);rw[Hm,Hm,nK (xs:=t) (h:=18) (j:=18) rfl (by omega)];simp only[aB];rw[qb (by simp;omega),pt (xs:=t) (l:=18) (i:=18) rfl (by omega)];simp only[aB];(have e2:∀m:Nat,m<2^31→wrap .i64 (Int.tdiv (m:Int) 2)=((m / 2:Nat):Int):=λm hm=>by rw[show Int.tdiv (m:Int) 2=((m / 2:Nat):Int) from im,wrap64 (by omega)]);rw[e2 _ (by omega),nK (j:=(t.drop 18).length / 2) rfl (by omega)];simp only[aB];rw[qb (by simp;omega)];simp only[aB];rw[pt (i:=(t.drop 18).length / 2) rfl (by omega)];simp only[aB];(have hz:List.drop ((t.drop 18).length / 2) (t.drop 18)=zS t:=by rw[hl];rfl);rw[hz];(have b:(zS t).length≤t.length:=by simp only[zS,HW];omega);have a:decide ((n:Int)≠0)=true:=Ho (by omega);rw[a,Hn,im];generalize hm:(zS t).length / n=m;(have d:n*m≤(zS t).length:=by rw[←hm];exact Nat.mul_div_le _ _);have e:m≤n*m:=KA _ (by omega);rw[wrap64 (x:=(m:Int)) (by omega)];rw[aY (s0:=(0,[])) (r:=dW t n) (λi=>((i:Int),(List.range i).map λj=>((zS t).take ((j+1)*m)).drop (j*m))) 0 n (HH _) ?_ ?_ rfl];simp only[aB,Hq];intro i _ hi;have hd:decide ((i:Int)<(n:Int))=true:=Ho (by omega);have h3:(i+1)*m≤n*m:=Hw _ hi;have h4:(i+1)*m=i*m+m:=Ib _ _;(have w1:wrap .i64 ((i:Int)*(m:Int))=((i*m:Nat):Int):=by rw[←Jh,wrap64 (by omega)]);(have w0:wrap .i64 ((i:Int)+1)=((i+1:Nat):Int):=by rw[wrap64 (by omega)];rfl);(have w2:wrap .i64 (((i*m:Nat):Int)+(m:Int))=(((i+1)*m:Nat):Int):=by rw[wrap64 (by omega),h4];rfl);simp only[hd,Hn,w0,w1,w2];rw[vg (i:=i*m) (j:=(i+1)*m) rfl rfl (by omega) (by omega)];simp only[aB];rw[qb (by simp;omega)];simp only[aB];rw[aW (by rw[cR];simp;omega)];simp only[aB];rw[de (λj=>((zS t).take ((j+1)*m)).drop (j*m))];have hd:decide ((n:Int)<(n:Int))=false:=Hp (by omega);simp only[hd,Hm,dW,hm,hl]
theorem yS {v b:Int} (hv:0≤v) (hb:1≤b):decide (Int.tdiv v b<Int.tdiv 256 b)=decide (v<256 - Int.tmod 256 b):=by obtain⟨n,rfl⟩:∃n:Nat,v=n:=⟨v.toNat,by omega⟩;obtain⟨m,rfl⟩:∃m:Nat,b=m:=⟨b.toNat,by omega⟩;have e1:Int.tdiv (n:Int) (m:Int)=((n / m:Nat):Int):=im;have e2:Int.tdiv 256 (m:Int)=((256 / m:Nat):Int):=im (n:=256);have e3:Int.tmod 256 (m:Int)=((256%m:Nat):Int):=wk (n:=256);rw[e1,e2,e3];have h1:=KS 256 m;have h2:n / m<256 / m↔n<256 / m*m:=Nat.div_lt_iff_lt_mul (by omega);rw[Nat.mul_comm] at h2;(have h3:(((n / m:Nat):Int)<((256 / m:Nat):Int))↔(n:Int)<256 - ((256%m:Nat):Int):=by omega);exact Ki.2 h3
def CO (bs:List Int) (u:Nat) (b:Int):Int×Int×Int:=bif !R8 b then(0,0,2) else match Qu bs u b with|some (d,v)=>(d,(v:Int),0)|none=>(0,0,3)
theorem BC {bs:List Int} {u:Nat} {b:Int} (hb:aT bs) (hl:bs.length<2^31) (hu:u≤bs.length):gZ bs (u:Int) b=some (CO bs u b):=by
 unfold gZ CO
 cases hB:(decide (b<1))||(decide (b>256)) with
 |true=>
  have:R8 b=false:=by simp only[R8];simp at hB⊢;omega
  rw[this];rfl
 |false=>
  simp only[Hz,Hy] at hB
  have:R8 b=true:=by simp only[R8];simp;omega
  rw[this]
  simp only[HU,Hm,Qu]
  cases h1:(b==1) with
  |true=>rfl
  |false=>
   have hne:decide (b≠0)=true:=Ho (by omega)
   have hw:wrap .i64 (Int.tdiv 256 b)=Int.tdiv 256 b:=by
    obtain⟨m,rfl⟩:∃m:Nat,b=m:=⟨b.toNat,by omega⟩
    have e:Int.tdiv 256 (m:Int)=((256 / m:Nat):Int):=im (n:=256)
    have:=J1 256 m
    rw[e];generalize 256 / m=q at*;exact wrap64 (by omega)
   simp only[Hm,hne,Hn,hw]
   have key : ∀ k u, bs.length - u = k → u ≤ bs.length → Loop.run (S := Int) (R := (Unit ⊕ (Int × Int × Int))) (λx =>
     bif decide (x<(bs.length:Int)) then
      (idx bs x).bind λy=>
      bif decide ((wrap .i64 (Int.tdiv (wrap .i64 y) b))<Int.tdiv 256 b) then
       some (.done (.inr (Int.tmod (wrap .i64 y) b,wrap .i64 (x+1),0)))
      else
       some (.next (wrap .i64 (x+1)))
     else
      some (.done (.inl ()))) (u:Int)=some (match pW bs b k u with|some (d,v)=> .inr (d,(v:Int),0)|none=> .inl ()):=by
    intro k
    induction k with
    |zero=>
     intro u h1 h2
     refine Lr ?_
     rw[Hp (by omega:¬(u:Int)<(bs.length:Int))]
     rfl
    |succ k ih=>
     intro u h1 h2
     have hlt:u<bs.length:=by omega
     have hg:=fG hb u
     have hwx:wrap .i64 (bs.getD u 0)=bs.getD u 0:=wrap64 (by omega)
     have hwd:wrap .i64 (Int.tdiv (bs.getD u 0) b)=Int.tdiv (bs.getD u 0) b:=by
      obtain⟨m,rfl⟩:∃m:Nat,b=m:=⟨b.toNat,by omega⟩
      obtain⟨v,hv⟩:∃v:Nat,bs.getD u 0=v:=⟨(bs.getD u 0).toNat,by omega⟩
      have e:Int.tdiv (v:Int) (m:Int)=((v / m:Nat):Int):=im
      have:=J1 v m
      rw[hv,e];generalize v / m=q at*;exact wrap64 (by omega)
     have hs:decide ((u:Int)<(bs.length:Int))=true:=Ho (by omega)
     simp only[pW]
     cases hc:decide (bs.getD u 0<256 - Int.tmod 256 b) with
     |true=>
      refine Lr ?_
      rw[hs,Hn,aJ rfl hlt]
      simp only[aB,hwx,hwd]
      rw[yS hg.1 (by omega),hc,wrap64 (by omega)];rfl
     |false=>
      simp only[Hm]
      rw[←ih (u+1) (by omega) (by omega)]
      refine Ly ?_
      rw[hs,Hn,aJ rfl hlt]
      simp only[aB,hwx,hwd]
      rw[yS hg.1 (by omega),hc,wrap64 (by omega)];rfl
   rw[key _ u rfl hu]
   cases pW bs b (bs.length - u) u with
   |none=>rfl
   |some q=>rfl
theorem BD {l:List Int} (hl:l.length<2^31):gY l=some (!Sl l):=by unfold gY Sl;rw[tF (s0:=0) (λi=>(i:Int)) (Sum.inl ()) (Sum.inr true) (λi=>R8 (l.getD i 0)) l.length ?_ ?_ rfl];cases fw (λi=>R8 (l.getD i 0)) l.length 0<;>rfl;intro i hi;have hd:decide ((i:Int)<(l.length:Int))=true:=Ho (by omega);simp only[hd,Hn];rw[aJ rfl hi,wrap64 (x:=(i:Int)+1) (by omega)];simp only[aB,R8];by_cases c1:l.getD i 0<1;rw[Ho c1,Hp (by omega:¬l.getD i 0≥1)];exact⟨λh=>(by cases h),λ_=>rfl⟩;rw[Hp c1,Ho (by omega:l.getD i 0≥1)];by_cases c2:l.getD i 0>256;rw[Hp (by omega:¬l.getD i 0≤256),Hm];simp only[Ho c2,aB];exact⟨λh=>(by cases h),λ_=>rfl⟩;rw[Ho (by omega:l.getD i 0≤256),Hm];simp only[Hp c2,aB];exact⟨λ_=>rfl,λh=>(by cases h)⟩;have hd:decide ((l.length:Int)<(l.length:Int))=false:=Hp (by omega);simp only[hd,Hm]
def Dk (bs:List Int) (_:Nat) (x:List Int×Nat) (b:Int):Option (List Int×Nat):=match Qu bs x.2 b with|none=>none|some (d,v)=>some (x.1++[d],v)
theorem wT (bs:List Int):∀(l:List Int) (i:Nat) (ds:List Int) (u:Nat),iU (Dk bs) i (ds,u) l=match Qw bs l u with
  |none=>none
  |some (es,w)=>some (ds++es,w)
 |[],i,ds,u=>by simp[iU,Qw]
 |b::l,i,ds,u=>by
  simp only[iU,Dk,Qw]
  cases Qu bs u b with
  |none=>rfl
  |some q=>
   obtain⟨d,v⟩:=q
   simp only
   rw[wT bs l]
   cases Qw bs l v with
   |none=>rfl
   |some r=>simp
theorem yT {bs l:List Int} (hb:aT bs) (hl:bs.length<2^31) (hn:l.length<2^30):gt bs l=some (uV bs l):=by unfold gt uV;rw[BD (by omega)];simp only[aB];cases e:Sl l with|false=>rfl|true=>simp only[HU,Hm,Hn];rw[tM (by omega),Hn];have c:=s9 e;rw[(mY (λ(i:Nat) (x:List Int×Nat)=>(x.1,(x.2:Int),(i:Int))) (Dk bs) l (λi r x=>x.1.length=i∧x.2≤bs.length) (λx=>Sum.inl (x.1,(x.2:Int))) (Sum.inr ([],0,3)) (s0:=(List.replicate (Int.toNat 0) (0:Int),0,0)) ?_ ?_ ([],0) ⟨rfl,HH _⟩ rfl).1];rw[wT];(cases Qw bs l 0 with|none=>rfl|some q=>rfl);intro i b r x k hi a I;have hd:decide ((i:Int)<(l.length:Int))=true:=Ho (by omega);(have f:l.getD i 0=b:=by simp[List.getD,a]);have j:=c b (HZ a);(have hB:R8 b=true:=by simp only[R8];simp;omega);simp only[hd,Hn];rw[aJ rfl hi,f];simp only[aB];rw[BC hb hl I.2];simp only[aB,CO,hB,HU,Hm,Dk];(cases hx:Qu bs x.2 b with|none=>exact⟨λ_=>rfl,λy hy=>(by cases hy)⟩|some q=>obtain⟨d,v⟩:=q;have hr:=pX hb j.1 I.2 hx;refine⟨λh=>(by cases h),λy hy=>?_⟩;cases hy;simp only[HJ,Hm];rw[aW (by rw[cR];simp;omega)];simp only[aB];rw[wrap64 (by omega)];exact⟨rfl,by simp[I.1],hr.2.2.2⟩);intro x I;have hd:decide ((l.length:Int)<(l.length:Int))=false:=Hp (by omega);simp only[hd,Hm]
theorem tx {n:Int} (h0:0≤n) (h1:n≤256):eY n=some (m8 n):=by unfold eY;rw[aY (s0:=([],n)) (r:=m8 n) (λi=>((List.range i).map λk:Nat=>n - (k:Int),n - (i:Int))) 0 (n.toNat - 1) (HH _) ?_ ?_ ?_];rfl;intro i _ hi;have hd:decide (n - (i:Int)>1)=true:=Ho (by omega);simp only[hd,Hn];rw[aW (by rw[cR];simp;omega),de (λk:Nat=>n - (k:Int)),wrap64 (by omega)];simp only[aB];congr 3;omega;have hd:decide (n - ((n.toNat - 1:Nat):Int)>1)=false:=Hp (by omega);simp only[hd,Hm,m8];simp
theorem wU {n:Nat} (h1:n≤256):ei (n:Int)=some (UF n):=by unfold ei;rw[aY (s0:=([],0)) (r:=UF n) (λi=>((List.range i).map λk:Nat=>(k:Int),(i:Int))) 0 n (HH _) ?_ ?_ rfl];rfl;intro i _ hi;have hd:decide ((i:Int)<(n:Int))=true:=Ho (by omega);simp only[hd,Hn];rw[aW (by rw[cR];simp;omega),de (λk:Nat=>(k:Int)),wrap64 (by omega)];rfl;have hd:decide ((n:Int)<(n:Int))=false:=Hp (by omega);simp only[hd,Hm,UF]
theorem Eh {n:Nat} {ds:List Int} (h:n≤256) (hl:ds.length=n - 1) (ho:Vs (n:Int) ds=true):jm (n:Int) ds=some true:=by unfold jm;rw[tx (by omega) (by omega)];(have e:((ds.length:Int) != ((m8 (n:Int)).length:Int))=false:=by rw[pm,Hq,hl];simp);simp only[aB,e,Hm];rw[tF (s0:=0) (λi=>(i:Int)) (Sum.inl ()) (Sum.inr false) (λi=>decide (0≤ds.getD i 0)&&decide (ds.getD i 0<(n:Int) - (i:Int))) ds.length ?_ ?_ rfl];have a:fw (λi=>decide (0≤ds.getD i 0)&&decide (ds.getD i 0<(n:Int) - (i:Int))) ds.length 0=true:=ho;rw[a];rfl;intro i hi;have hd:decide ((i:Int)<(ds.length:Int))=true:=Ho (by omega);simp only[hd,Hn];rw[aJ rfl hi,wrap64 (x:=(n:Int) - (i:Int)) (by omega),wrap64 (x:=(i:Int)+1) (by omega)];simp only[aB];by_cases c1:ds.getD i 0<0;rw[Ho c1,Hp (by omega:¬0≤ds.getD i 0)];exact⟨λh=>(by cases h),λ_=>rfl⟩;rw[Hp c1,Ho (by omega:0≤ds.getD i 0)];by_cases c2:ds.getD i 0<(n:Int) - (i:Int);rw[Ho c2,Hp (by omega:¬ds.getD i 0≥(n:Int) - (i:Int))];exact⟨λ_=>rfl,λh=>(by cases h)⟩;rw[Hp c2,Ho (by omega:ds.getD i 0≥(n:Int) - (i:Int))];exact⟨λh=>(by cases h),λ_=>rfl⟩;have hd:decide ((ds.length:Int)<(ds.length:Int))=false:=Hp (by omega);simp only[hd,Hm]
theorem yk {n:Nat} {ds:List Int} (h:n≤256) (hl:ds.length=n - 1) (ho:Vs (n:Int) ds=true):iJ (n:Int) ds=some (iV n ds ds.length,0):=by unfold iJ;(have e:(((n:Int) != (wrap .i64 ((ds.length:Int)+1)))&&(!(((n:Int)==0)&&((ds.length:Int)==0))))=false:=by rw[wrap64 (by omega)];by_cases c:n=0;subst c;simp at hl;subst hl;rfl;(have:((n:Int) != (ds.length:Int)+1)=false:=by simp;omega);rw[this];rfl);rw[Hp (by omega:¬(n:Int)<0),Hm,e,Hm,Eh h hl ho,wU h];simp only[aB,HU,Hm];(have rng:∀i,i<ds.length→0≤ds.getD i 0∧ds.getD i 0<(n:Int) - (i:Int):=λi hi=>by have:=eZ.1 ho i (HH _) (by omega);simpa using this);rw[aY (s0:=(UF n,0)) (r:=iV n ds ds.length) (λi=>(iV n ds i,(i:Int))) 0 ds.length (HH _) ?_ ?_ rfl];rfl;intro i _ hi;have hd:decide ((i:Int)<(ds.length:Int))=true:=Ho (by omega);have hr:=rng i hi;have hlen:=mx n ds i;have w1:wrap .i64 ((n:Int) - 1)=(n:Int) - 1:=wrap64 (by omega);(have w2:wrap .i64 ((n:Int) - 1 - (i:Int))=((n - 1 - i:Nat):Int):=by rw[wrap64 (by omega)];omega);simp only[hd,Hn,w1,w2];rw[aJ rfl hi];simp only[aB];rw[aJ (xs:=iV n ds i) (i:=n - 1 - i) rfl (by omega)];simp only[aB];rw[aJ (xs:=iV n ds i) (z:=ds.getD i 0) (i:=(ds.getD i 0).toNat) (by omega) (by omega)];simp only[aB,Hq];rw[aJ (i:=(ds.getD i 0).toNat) (by omega) (by rw[Jy];omega)];simp only[aB];rw[wrap64 (x:=(i:Int)+1) (by omega)];rfl;have hd:decide ((ds.length:Int)<(ds.length:Int))=false:=Hp (by omega);simp only[hd,Hm]
end Go.Proofs.YtobbmodjdkcdcaaGreatDoor
set_option maxRecDepth 20000
set_option maxHeartbeats 1000000
namespace Go.Proofs.YtobbmodjdkcdcaaGreatDoor
open Go Go.Sim
open Go.IntKind (wrap)
variable [Fu]
theorem Bu (n c:Int):gX n c=some (jq n c):=by unfold gX jq;cases hc:(((decide (n<0))||(decide (n>256)))||(decide (c<1)))||(decide (c>64)) with|true=>rfl|false=>simp only[Hz,Hy] at hc;obtain⟨k,rfl⟩:∃k:Nat,n=k:=⟨n.toNat,by omega⟩;obtain⟨m,rfl⟩:∃m:Nat,c=m:=⟨c.toNat,by omega⟩;have hne:decide ((m:Int)≠0)=true:=Ho (by omega);have hdiv:k / m≤k:=J1 _ _;have hmod:k%m≤k:=Nat.mod_le _ _;simp only[Hq,im,wk,i8];obtain⟨dv,hdv⟩:∃dv,dv=k / m:=⟨_,rfl⟩;obtain⟨md,hmd⟩:∃md,md=k%m:=⟨_,rfl⟩;simp only[←hdv,←hmd] at hdiv hmod⊢;have hw:wrap .i64 (dv:Int)=(dv:Int):=wrap64 (by omega);simp only[hne,Hn,Hm,hw];rw[pu (λj=>((dv+(if j<md then 1 else 0):Nat):Int)) m (r:=(List.range m).map λj=>((dv+(if j<md then 1 else 0):Nat):Int)) ?_ ?_];rfl;intro i hi;have hd:decide ((i:Int)<(m:Int))=true:=Ho (by omega);simp only[hd,Hn];(have e:(bif decide ((i:Int)<(md:Int)) then some (wrap .i64 ((dv:Int)+1)) else some (dv:Int):Option Int)=some ((dv+(if i<md then 1 else 0):Nat):Int):=by by_cases c1:i<md;rw[Ho (by omega),Hn,Il c1,wrap64 (by omega)];rfl;rw[Hp (by omega),Hm,Ic c1];rfl);rw[e];simp only[aB];rw[aW (by rw[cR];simp;omega),de (λj=>((dv+(if j<md then 1 else 0):Nat):Int)),wrap64 (by omega)];rfl;have hd:decide ((m:Int)<(m:Int))=false:=Hp (by omega);simp only[hd,Hm]
theorem Ae {n:Nat} (h:n≤256):gd (n:Int)=some (iY n):=by unfold gd;rw[Hp (by omega:¬(n:Int)>256),Hm];rw[aY (s0:=(([]:List Int),(n:Int))) (r:=iY n) (λi=>((List.range i).map λk:Nat=>(n:Int) - (k:Int),(n:Int) - (i:Int))) 0 n (HH _) ?_ ?_ ?_];rfl;intro i _ hi;have hd:decide ((n:Int) - (i:Int)≥1)=true:=Ho (by omega);simp only[hd,Hn];rw[aW (by rw[cR];simp;omega),de (λk:Nat=>(n:Int) - (k:Int)),wrap64 (by omega)];simp only[aB];congr 3;omega;have hd:decide ((n:Int) - (n:Int)≥1)=false:=Hp (by omega);simp only[hd,Hm,iY];simp
theorem Bv {l:List Int} (hl:∀x∈l,0≤x∧x≤256) (i:Nat):(l.take i).sum≤l.sum:=by (have e:l.sum=(l.take i).sum+(l.drop i).sum:=by rw[←List.sum_append,Ie]);(have:∀m:List Int,(∀x∈m,0≤x)→0≤m.sum:=λm hm=>by induction m with|nil=>simp|cons x m ih=>have h1:=hm x (by simp);have h2:=ih λy hy=>hm y (by simp[hy]);simp;omega);have:=this (l.drop i) λx hx=>(hl x (JD hx)).1;omega
theorem Bw {l:List Int} (h1:1≤l.length) (h2:l.length≤64) (hl:∀x∈l,0≤x∧x≤256) (hs:l.sum≤256):hZ l=some l.sum:=by unfold hZ;(have hc:((decide ((l.length:Int)<1))||(decide ((l.length:Int)>64)))=false:=by simp;omega);rw[hc,Hm];rw[aY (s0:=(0,0)) (r:=Sum.inl l.sum) (λi=>((l.take i).sum,(i:Int))) 0 l.length (HH _) ?_ ?_ rfl];rfl;intro i _ hi;have hd:decide ((i:Int)<(l.length:Int))=true:=Ho (by omega);have hr:=hl _ (mt hi);have b:=io hl i;have a:=Bv hl (i+1);rw[iP hi] at a;simp only[hd,Hn];rw[aJ rfl hi];simp only[aB,Hp (by omega:¬l.getD i 0<0),Hm];rw[wrap64 (x:=256 - (l.take i).sum) (by omega),Hp (by omega:¬l.getD i 0>256 - (l.take i).sum),Hm,iP hi,wrap64 (by omega),wrap64 (x:=(i:Int)+1) (by omega)];rfl;have hd:decide ((l.length:Int)<(l.length:Int))=false:=Hp (by omega);simp only[hd,Hm,HY]
theorem yj {sizes ds:List Int} {n:Nat} (hc1:1≤sizes.length) (hc2:sizes.length≤64) (g:qt sizes n) (hn:n≤256) (hd:vF n ds): fD sizes ds=some (Ux sizes.length (P5 sizes ds)):=by obtain⟨hdl,hdr⟩:=hd;unfold fD;rw[Bw hc1 hc2 g.rng (by rw[g.sum];omega)];simp only[aB];(have e1:((decide (sizes.sum<0))||((ds.length:Int) != sizes.sum))=false:=by rw[g.sum];simp;omega);rw[e1,Hm,aW (by rw[cR];simp;omega)];simp only[aB,HM];rw[oZ (by omega),Hn,g.sum,Hq];generalize hc:sizes.length=c at*;obtain⟨z,hz⟩:=qO ds 0 [] sizes;rw[(mY (λ(i:Nat) (x:List (Nat×Int)×List Int)=>(x.2,cp c x.1,x.1.map λq=>(q.1:Int),(i:Int))) V8 ds (Yw ds c n) (λx=>Sum.inl (cp c x.1,x.1.map λq=>(q.1:Int))) (Sum.inr (([],[],2):List Int×List Int×Int)) ?_ ?_ ([],sizes) ⟨by rw[hdl];exact g,hc,rfl,λq hq=>(by cases hq),by simp[hdl]⟩ ?_).1];rw[hz];simp only[HM,aB];generalize hps:P5 sizes ds=ps at*;(have hpl:ps.length=n:=by rw[←hps,rF,hdl]);(have hrows:∀k,((cp c ps).take k).flatten.length≤256*k:=by intro k;induction k with|zero=>simp| succ k ih =>by_cases hk:k<(cp c ps).length;rw[HA hk,Kn,Hu];(have:((cp c ps)[k]).length≤256:=by simp only[cp,JA,Jn,Ji];exact Iq (Ii _ _) (by omega));simp only[JG,List.flatten_nil,IS];omega;rw[HD (by omega)];rw[HD (by omega)] at ih;omega);rw[aY (s0:=([],0)) (r:=(cp c ps).flatten) (λi=>(((cp c ps).take i).flatten,(i:Int))) 0 (cp c ps).length (HH _) ?_ ?_ ?_];rfl;intro i _ hi;have hd:decide ((i:Int)<((cp c ps).length:Int))=true:=Ho (by omega);have h1:=hrows i;(have h2:((cp c ps).getD i []).length≤256:=by have:(cp c ps).getD i []=(ps.filter λq=>q.1==i).map (·.2):=ot (by rw[lC] at hi;exact hi);rw[this,Ji];exact Iq (Ii _ _) (by omega));(have hi2:i<c:=by rw[lC] at hi;exact hi);simp only[hd,Hn];rw[dn (i:=i) [] rfl hi];simp only[aB];rw[aW (by rw[cR];omega),wrap64 (by omega)];simp only[aB];rw[HA hi,Kn];simp[List.getD,hi];have hd:decide (((cp c ps).length:Int)<((cp c ps).length:Int))=false:=Hp (by omega);simp only[hd,Hm,HY];simp;intro i d r x hdr2 hi hget I;refine⟨λh=>(by cases h),λy hy=>?_⟩;obtain⟨pp,left⟩:=x;cases hy;obtain⟨I1,I2,I3,I4,I5⟩:=I;simp only at I1 I2 I3 I4 I5;simp only[HL] at I1 I5;(have hdi:ds.getD i 0=d:=by simp[List.getD,hget]);have hr:=hdr i (by omega);rw[hdi] at hr;(have hd1:d<((r.length+1:Nat):Int):=by omega);have L:=qP I1 hr.1 hd1;have Lx:=ur (λx hx=>(I1.rng x hx).1) hr.1 (by rw[I1.sum];exact hd1);have hlt:decide ((i:Int)<(n:Int))=true:=Ho (by omega);have hw:wrap .i64 ((n:Int) - (i:Int))=(n:Int) - (i:Int):=wrap64 (by omega);(have hg1:((decide (d<0))||(decide (d≥(n:Int) - (i:Int))))=false:=by simp only[Hz,Hy];omega);have hloc:=sx I1.rng (by omega) left [] d rfl hr.1 (by rw[I1.sum];exact hd1) (by omega);simp only[H1,HV] at hloc;rw[show(((0:Nat):Int))=0 from rfl] at hloc;have hm:=I1.rng _ (mt L.1);generalize hq:O3 left d=q at*;obtain⟨j,e⟩:=q;simp only at L Lx hm hloc;(have hfl:((pp.filter λz=>z.1==j).map (·.2)).length≤pp.length:=by rw[Ji];exact Ii _ _);refine⟨?_,?_⟩;simp only[hlt,Hn];rw[aJ rfl (by omega),hdi];simp only[aB,hw,hg1,Hm];rw[hloc];simp only[aB];rw[aW (by rw[cR];simp;omega)];simp only[aB];rw[dn (xs:=cp c pp) (i:=j) [] rfl (by rw[lC];omega),ot (by omega)];simp only[aB];rw[aW (by rw[cR];simp only[HL,H1];omega)];simp only[aB,Hq];rw[aJ (xs:=left) (i:=j) rfl (by omega)];simp only[aB];have hv:=sY (c:=c) (ps:=pp) (q:=(j,e)) (by simp only;omega);simp only at hv;rw[hv,wrap64 (x:=left.getD j 0 - 1) (by omega),wrap64 (x:=(i:Int)+1) (by omega)];simp[RV];have gs:=ND I1 hr.1 hd1;rw[hq] at gs;refine⟨gs,by simp[RV,I2],by simp[I3],λq hq2=>?_,by omega⟩;rcases HO.1 hq2 with h|h;exact I4 q h;have:=Iv.1 h;subst this;simp only;omega;intro x I;have hlt:decide ((ds.length:Int)<(n:Int))=false:=Hp (by omega);simp only[hlt,Hm];simp only[IX,cp,List.filter_nil];rw[Prod.mk.injEq,Prod.mk.injEq,Prod.mk.injEq];refine⟨rfl,?_,rfl,rfl⟩;apply IA;simp;intro k h1 h2;simp
end Go.Proofs.YtobbmodjdkcdcaaGreatDoor

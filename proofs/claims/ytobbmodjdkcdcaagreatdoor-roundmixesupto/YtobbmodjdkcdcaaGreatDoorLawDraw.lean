import Derived.Test.YtobbmodjdkcdcaaGreatDoorLawTape
set_option linter.all false
set_option maxRecDepth 20000
namespace Go.Proofs.YtobbmodjdkcdcaaGreatDoor
open Go Go.Sim
open Go.IntKind (wrap)
variable [Fu]
def pW (bs:List Int) (b:Int):Nat→Nat→Option (Int×Nat)|0,_=>none|k+1,u=>bif decide (bs.getD u 0<256 - Int.tmod 256 b) then some (Int.tmod (bs.getD u 0) b,u+1) else pW bs b k (u+1)
def Qu (bs:List Int) (u:Nat) (b:Int):Option (Int×Nat):=bif b==1 then some (0,u) else pW bs b (bs.length - u) u
def R8 (b:Int):Bool:=decide (b≥1)&&decide (b≤256)
def Cr (bs:List Int) (u:Nat) (b:Int):Int×bo×Int:=bif !R8 b then(0,⟨[],0⟩,2) else match Qu bs u b with|some (d,v)=>(d,⟨bs,(v:Int)⟩,0)|none=>(0,⟨[],0⟩,3)
theorem fG {bs:List Int} (h:aT bs) (u:Nat):0≤bs.getD u 0∧bs.getD u 0≤255:=by by_cases c:u<bs.length;simp only[List.getD,H4 c,If];exact h _ (HG c);simp only[List.getD,Is (by omega:bs.length≤u),JL];omega
theorem sZ {bs:List Int} {b:Int} (hb:aT bs) (h1:1≤b):∀{k u:Nat} {d:Int} {v:Nat},pW bs b k u=some (d,v)→0≤d∧d<b∧u<v∧v≤u+k|0,_,_,_,h=>by cases h|k+1,u,d,v,h=>by simp only[pW] at h;cases hc:decide (bs.getD u 0<256 - Int.tmod 256 b) with|true=>rw[hc,Hn] at h;cases h;exact⟨Int.tmod_nonneg _ (fG hb u).1,Int.tmod_lt_of_pos _ (by omega),by omega,by omega⟩|false=>rw[hc,Hm] at h;have:=sZ hb h1 h;omega
theorem pX {bs:List Int} {b:Int} {u:Nat} {d:Int} {v:Nat} (hb:aT bs) (h1:1≤b) (hu:u≤bs.length) (h:Qu bs u b=some (d,v)):0≤d∧d<b∧u≤v∧v≤bs.length:=by unfold Qu at h;cases hc:(b==1) with|true=>have:=eq_of_beq hc;rw[hc,Hn] at h;cases h;omega|false=>rw[hc,Hm] at h;have:=sZ hb h1 h;omega
theorem Cs {bs:List Int} {u:Nat} {b:Int} (hb:aT bs) (hl:bs.length<2^31) (hu:u≤bs.length):iB ⟨bs,(u:Int)⟩ b=some (Cr bs u b):=by
 unfold iB jg Cr
 simp only[aB]
 show(bif !R8 b then _ else _)=_
 cases hB:R8 b with
 |false=>rfl
 |true=>
  simp only[R8,Hx,HB] at hB
  simp only[HU,Hm,Qu]
  cases h1:(b==1) with
  |true=>rfl
  |false=>
   have hb1:b≠1:=by simpa using h1
   have hne:decide (b≠0)=true:=Ho (by omega)
   have hm0:0≤Int.tmod 256 b:=Int.tmod_nonneg _ (by omega)
   have hm1:Int.tmod 256 b<b:=Int.tmod_lt_of_pos _ (by omega)
   have hw:wrap .i64 (256 - Int.tmod 256 b)=256 - Int.tmod 256 b:=wrap64 (by omega)
   simp only[Hm,hne,Hn,hw]
   have key:∀k u,bs.length - u=k→u≤bs.length→Loop.run (S:=bo) (R:=(Int×bo×Int)) (λyA=>
     (gn yA).bind λxA=>
     bif xA.2.2 != 0 then
      some (.done (0,(⟨[],(0:Int)⟩:bo),xA.2.2))
     else
      bif decide ((wrap .i64 xA.1)<256 - Int.tmod 256 b) then
       some (.done (Int.tmod (wrap .i64 xA.1) b,xA.2.1,0))
      else
       some (.next xA.2.1)) ⟨bs,(u:Int)⟩=some (match pW bs b k u with|some (d,v)=>(d,⟨bs,(v:Int)⟩,0)|none=>(0,⟨[],0⟩,3)):=by
    intro k
    induction k with
    |zero=>
     intro u h1 h2
     refine Lr ?_
     rw[uF h2 hl,Hp (by omega:¬u<bs.length)]
     rfl
    |succ k ih=>
     intro u h1 h2
     have hlt:u<bs.length:=by omega
     have hg:=fG hb u
     have hwx:wrap .i64 (bs.getD u 0)=bs.getD u 0:=wrap64 (by omega)
     simp only[pW]
     cases hc:decide (bs.getD u 0<256 - Int.tmod 256 b) with
     |true=>
      refine Lr ?_
      rw[uF h2 hl,Ho hlt]
      simp only[Hn,aB,HJ,Hm,hwx,hc]
     |false=>
      simp only[Hm]
      rw[←ih (u+1) (by omega) (by omega)]
      refine Ly ?_
      rw[uF h2 hl,Ho hlt]
      simp only[Hn,aB,HJ,Hm,hwx,hc]
   rw[key _ u rfl hu]
   rfl
theorem F5 {step : Int → Option (Qp Int (Unit ⊕ Int))} (f : Nat → Bool) (n : Nat) (hd : ∀ i : Nat, i < n → (f i = true → step (i : Int) = some (.next ((i + 1 : Nat) : Int))) ∧ (f i = false → step (i : Int) = some (.done (.inr (i : Int))))) (hn : step (n : Int) = some (.done (.inl ()))) : ∃r,Loop.run step 0=some r∧((r= .inl ()∧fw f n 0=true)∨∃i:Nat,i<n∧r= .inr (i:Int)∧fw f n 0=false):=by (have key:∀c i:Nat,n - i=c→i≤n→∃r,Loop.run step (i:Int)=some r∧((r= .inl ()∧fw f c i=true)∨∃j:Nat,j<n∧r= .inr (j:Int)∧fw f c i=false):=by intro c;induction c with| zero => (intro i h1 h2; have : i = n := by omega);subst this;exact⟨_,Lr hn,.inl ⟨rfl,rfl⟩⟩|succ c ih=>intro i h1 h2;obtain⟨a,b⟩:=hd i (by omega);cases hf:f i with|true=>obtain⟨r,h3,h4⟩:=ih (i+1) (by omega) (by omega);refine⟨r,by rw[Ly (a hf)];exact h3,?_⟩;simp only[fw,hf,ID];exact h4|false=>exact⟨_,Lr (b hf),.inr ⟨i,by omega,rfl,by simp only[fw,hf,Kx]⟩⟩);exact key n 0 (by omega) (by omega)
def Sl (l:List Int):Bool:=fw (λi=>R8 (l.getD i 0)) l.length 0
theorem AX {l:List Int} (hl:l.length<2^31):cS l=some (!Sl l):=by
 unfold cS dU mU jg
 simp only[aB]
 obtain⟨r,h1,h2⟩:=F5 (step:=(λxA=>
    bif decide (xA<(l.length:Int)) then
     (idx l xA).bind λyA=>
     bif !((decide (yA≥1))&&(decide (yA≤256))) then
      some (.done (.inr xA))
     else
      some (.next (wrap .i64 (xA+1)))
    else
     some (.done (.inl ())) : Int → Option (Qp Int (Unit ⊕ Int)))) (λi => R8 (l.getD i 0)) l.length (λi hi => by
   have hd:decide ((i:Int)<(l.length:Int))=true:=Ho (by omega)
   simp only[hd,Hn]
   rw[aJ rfl hi,wrap64 (x:=(i:Int)+1) (by omega)]
   simp only[aB]
   show(R8 (l.getD i 0)=true→(bif !R8 (l.getD i 0) then _ else _)=_)∧(R8 (l.getD i 0)=false→(bif !R8 (l.getD i 0) then _ else _)=_)
   cases R8 (l.getD i 0) with
   |true=>exact⟨λ_=>rfl,λh=>(by cases h)⟩
   |false=>exact⟨λh=>(by cases h),λ_=>rfl⟩) (by
   have hd:decide ((l.length:Int)<(l.length:Int))=false:=Hp (by omega)
   simp only[hd,Hm])
 rw[h1]
 simp only[aB,Sl]
 rcases h2 with⟨rfl,h⟩|⟨i,hi,rfl,h⟩
 · rw[h];rfl
 · rw[h]
   simp only[aB,IT]
   rw[Ho (show(i:Int)≥0 by omega)]
def Qw (bs:List Int):List Int→Nat→Option (List Int×Nat)|[],u=>some ([],u)|b::r,u=>match Qu bs u b with|none=>none|some (d,v)=>match Qw bs r v with|none=>none|some (ds,w)=>some (d::ds,w)
def uV (bs l:List Int):List Int×Int×Int:=bif Sl l then(match Qw bs l 0 with|some (ds,w)=>(ds,(w:Int),0)|none=>([],0,3)) else([],0,2)
theorem s9 {l:List Int} (h:Sl l=true):∀b∈l,1≤b∧b≤256:=by intro b hb;obtain⟨i,hi,rfl⟩:=Ix hb;have:=eZ.1 h i (HH _) (by omega);simp only[List.getD,H4 hi,If,R8,Hx,HB] at this;omega
theorem sy {bs:List Int} (hb:aT bs):∀{l:List Int} {u:Nat} {ds:List Int} {w:Nat},(∀b∈l,1≤b∧b≤256)→u≤bs.length→Qw bs l u=some (ds,w)→ds.length=l.length∧(∀i,i<l.length→0≤ds.getD i 0∧ds.getD i 0<l.getD i 0)∧u≤w∧w≤bs.length|[],u,ds,w,_,hu,h=>by cases h;exact⟨rfl,λi hi=>by simp at hi,by omega,hu⟩|b::r,u,ds,w,hl,hu,h=>by simp only[Qw] at h;split at h;cases h;rename_i d v h1;have r1:=pX hb (hl b (by simp)).1 hu h1;split at h;cases h;rename_i ds' w' h2;cases h;have r2:=sy hb (λq hq=>hl q (by simp[hq])) (by omega) h2;refine⟨by simp[r2.1],λi hi=>?_,by omega,by omega⟩;cases i with|zero=>simpa using⟨r1.1,r1.2.1⟩|succ i=>simpa using r2.2.1 i (by simpa using hi)
theorem DP {ds:List Int} {m:Nat} {d:Int}:List.set (ds++List.replicate (m+1) 0) ds.length d=(ds++[d])++List.replicate m 0:=by rw[J4 _ _ (HK _),JQ,Iy,Kv,HS];rfl
theorem AY {bs l:List Int} (hb:aT bs) (hl:bs.length<2^31) (hn:l.length<2^31):mN bs l=some (uV bs l):=by
 unfold mN uV
 rw[oZ hn,Hn,Hq]
 unfold gi
 rw[AX hn]
 simp only[aB]
 cases hok:Sl l with
 |false=>rfl
 |true=>
  simp only[HU,Hm,Hn]
  rw[Fh hb]
  simp only[aB]
  have hall:=s9 hok
  have key:∀(r pre ds:List Int) (u:Nat),l=pre++r→ds.length=pre.length→u≤bs.length→(match Qw bs r u with
    | some (es, w) => Loop.run (S := (Int × bo × (List Int))) (R := ((bo × (List Int)) ⊕ (Int × Int × (List Int)))) (λx =>
    bif decide (x.1<(l.length:Int)) then
     (idx l x.1).bind λx108=>
     (iB x.2.1 x108).bind λy110=>
     bif y110.2.2 != 0 then
      some (.done (.inr (0,y110.2.2,x.2.2)))
     else
      (eM y110.2.1).bind λy116=>
      (jx x.1 (wrap .i64 (y116 - 1)) y110.1 x.2.2).bind λy118=>
      some (.next (wrap .i64 (x.1+1),y110.2.1,y118))
    else
     some (.done (.inl (x.2.1,x.2.2)))) ((pre.length:Int),⟨bs,(u:Int)⟩,ds++List.replicate r.length 0)=some (.inl (⟨bs,(w:Int)⟩,ds++es))
    | none => ∃ z, Loop.run (S := (Int × bo × (List Int))) (R := ((bo × (List Int)) ⊕ (Int × Int × (List Int)))) (λx =>
    bif decide (x.1<(l.length:Int)) then
     (idx l x.1).bind λx108=>
     (iB x.2.1 x108).bind λy110=>
     bif y110.2.2 != 0 then
      some (.done (.inr (0,y110.2.2,x.2.2)))
     else
      (eM y110.2.1).bind λy116=>
      (jx x.1 (wrap .i64 (y116 - 1)) y110.1 x.2.2).bind λy118=>
      some (.next (wrap .i64 (x.1+1),y110.2.1,y118))
    else
     some (.done (.inl (x.2.1,x.2.2)))) ((pre.length:Int),⟨bs,(u:Int)⟩,ds++List.replicate r.length 0)=some (.inr (0,3,z))):=by
   intro r
   induction r with
   |nil=>
    intro pre ds u e hd hu
    simp only[Qw,H1,Jv,IS]
    refine Lr ?_
    have:decide ((pre.length:Int)<(l.length:Int))=false:=Hp (by rw[e];simp)
    simp only[this,Hm]
   |cons b r ih=>
    intro pre ds u e hd hu
    have hlen:l.length=pre.length+(r.length+1):=by rw[e];simp
    have hlt:decide ((pre.length:Int)<(l.length:Int))=true:=Ho (by omega)
    have hget:l.getD pre.length 0=b:=by rw[e];simp[List.getD]
    have hbB:R8 b=true:=by
     have:=hall b (by rw[e];simp)
     simp only[R8,Hx,HB];omega
    have hbe:=Cs (u:=u) (b:=b) hb hl hu
    unfold Cr at hbe
    rw[hbB,HU,Hm] at hbe
    simp only[Qw]
    cases hx:Qu bs u b with
    |none=>
     rw[hx] at hbe
     refine⟨ds++List.replicate (b::r).length 0,Lr ?_⟩
     simp only[hlt,Hn]
     rw[aJ rfl (by omega),hget]
     simp only[aB]
     rw[hbe];rfl
    |some q=>
     obtain⟨d,v⟩:=q
     rw[hx] at hbe
     have rng:=pX hb (hall b (by rw[e];simp)).1 hu hx
     have stp:(bif decide ((pre.length:Int)<(l.length:Int)) then
      (idx l (pre.length:Int)).bind λx108=>
      (iB ⟨bs,(u:Int)⟩ x108).bind λy110=>
      bif y110.2.2 != 0 then
       some (.done (.inr (0,y110.2.2,ds++List.replicate (b::r).length 0)))
      else
       (eM y110.2.1).bind λy116=>
       (jx (pre.length:Int) (wrap .i64 (y116 - 1)) y110.1 (ds++List.replicate (b::r).length 0)).bind λy118=>
       some (.next (wrap .i64 ((pre.length:Int)+1),y110.2.1,y118))
     else
      some (.done (.inl ((⟨bs, (u : Int)⟩ : bo), ds ++ List.replicate (b :: r).length 0)))) = (some (.next (((pre ++ [b]).length : Int), (⟨bs, (v : Int)⟩ : bo), (ds ++ [d]) ++ List.replicate r.length 0)) : Option (Qp (Int × bo × (List Int)) ((bo × (List Int)) ⊕ (Int × Int × (List Int))))) := by
      rw[hlt,Hn,aJ rfl (by omega),hget]
      simp only[aB]
      rw[hbe]
      simp only[aB,HJ,Hm,eM,jx]
      rw[aJ (i:=pre.length) rfl (by simp;omega)]
      simp only[aB]
      rw[Hq,←hd,HL,DP,wrap64 (by omega),hd]
      simp
     have ih2:=ih (pre++[b]) (ds++[d]) v (by rw[e];simp) (by simp[hd]) rng.2.2.2
     cases hy:Qw bs r v with
     |none=>
      rw[hy] at ih2
      obtain⟨z,hz⟩:=ih2
      simp only[hy]
      exact⟨z,(Ly stp).trans hz⟩
     |some q=>
      obtain⟨es,w⟩:=q
      rw[hy] at ih2
      simp only at ih2
      simp only[hy]
      rw[Ly stp,ih2]
      simp
  have k0:=key l [] [] 0 rfl rfl (HH _)
  cases hd:Qw bs l 0 with
  |none=>
   rw[hd] at k0
   obtain⟨z,hz⟩:=k0
   have hz':=hz
   simp only[H1,HM] at hz'
   rw[show(((0:Nat):Int))=0 from rfl] at hz'
   rw[hz'];rfl
  |some q=>
   obtain⟨es,w⟩:=q
   rw[hd] at k0
   simp only[H1,HM] at k0
   rw[show(((0:Nat):Int))=0 from rfl] at k0
   rw[k0];rfl
end Go.Proofs.YtobbmodjdkcdcaaGreatDoor

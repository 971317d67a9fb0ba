import Derived.Test.YtobbmodjdkcdcaaGreatDoorLawTape
set_option linter.all false
set_option maxRecDepth 20000
namespace Go.Proofs.YtobbmodjdkcdcaaGreatDoor
open Go Go.Sim
variable [Fu]
def rP (bs:List Int) (b:Int):Nat→Nat→Option (Int×Nat)|0,_=>none|k+1,u=>bif decide (bs.getD u 0<256 - Int.tmod 256 b) then some (Int.tmod (bs.getD u 0) b,u+1) else rP bs b k (u+1)
def below1 (bs:List Int) (u:Nat) (b:Int):Option (Int×Nat):=bif b==1 then some (0,u) else rP bs b (bs.length - u) u
def isB (b:Int):Bool:=decide (b≥1)&&decide (b≤256)
def AI (bs:List Int) (u:Nat) (b:Int):Int×aR×Int:=bif !isB b then(0,⟨[],0⟩,2) else match below1 bs u b with|some (d,v)=>(d,⟨bs,(v:Int)⟩,0)|none=>(0,⟨[],0⟩,3)
theorem gp {bs:List Int} (h:aL bs) (u:Nat):0≤bs.getD u 0∧bs.getD u 0≤255:=by by_cases c:u<bs.length;simp only[List.getD,GP c,GR];exact h _ (F7 c);simp only[List.getD,GS (by omega:bs.length≤u),H8];omega
theorem qN {bs:List Int} {b:Int} (hb:aL bs) (h1:1≤b):∀{k u:Nat} {d:Int} {v:Nat},rP bs b k u=some (d,v)→0≤d∧d<b∧u<v∧v≤u+k|0,_,_,_,h=>by cases h|k+1,u,d,v,h=>by simp only[rP] at h;cases hc:decide (bs.getD u 0<256 - Int.tmod 256 b) with|true=>rw[hc,FJ] at h;cases h;exact⟨Int.tmod_nonneg _ (gp hb u).1,Int.tmod_lt_of_pos _ (by omega),by omega,by omega⟩|false=>rw[hc,FI] at h;have:=qN hb h1 h;omega
theorem qO {bs:List Int} {b:Int} {u:Nat} {d:Int} {v:Nat} (hb:aL bs) (h1:1≤b) (hu:u≤bs.length) (h:below1 bs u b=some (d,v)):0≤d∧d<b∧u≤v∧v≤bs.length:=by unfold below1 at h;cases hc:(b==1) with|true=>have:=eq_of_beq hc;rw[hc,FJ] at h;cases h;omega|false=>rw[hc,FI] at h;have:=qN hb h1 h;omega
theorem AJ {bs:List Int} {u:Nat} {b:Int} (hb:aL bs) (hl:bs.length<2^31) (hu:u≤bs.length):f9 ⟨bs,(u:Int)⟩ b=some (AI bs u b):=by
 unfold f9 gz AI
 simp only[ab]
 show(bif !isB b then _ else _)=_
 cases hB:isB b with
 |false=>rfl
 |true=>
  simp only[isB,FT,FX] at hB
  simp only[Gr,FI,below1]
  cases h1:(b==1) with
  |true=>rfl
  |false=>
   have hb1:b≠1:=by simpa using h1
   have hne:decide (b≠0)=true:=FK (by omega)
   have hm0:0≤Int.tmod 256 b:=Int.tmod_nonneg _ (by omega)
   have hm1:Int.tmod 256 b<b:=Int.tmod_lt_of_pos _ (by omega)
   have hw:IntKind.wrap .i64 (256 - Int.tmod 256 b)=256 - Int.tmod 256 b:=wrap64 (by omega)
   simp only[FI,hne,FJ,hw]
   have key:∀k u,bs.length - u=k→u≤bs.length→Loop.run (S:=aR) (R:=(Int×aR×Int)) (λyA=>
     (fC yA).bind λxA=>
     bif xA.2.2 != 0 then
      some (.done (0,(⟨[],(0:Int)⟩:aR),xA.2.2))
     else
      bif decide ((IntKind.wrap .i64 xA.1)<256 - Int.tmod 256 b) then
       some (.done (Int.tmod (IntKind.wrap .i64 xA.1) b,xA.2.1,0))
      else
       some (.next xA.2.1)) ⟨bs,(u:Int)⟩=some (match rP bs b k u with|some (d,v)=>(d,⟨bs,(v:Int)⟩,0)|none=>(0,⟨[],0⟩,3)):=by
    intro k
    induction k with
    |zero=>
     intro u h1 h2
     refine Jv ?_
     rw[rZ h2 hl,FL (by omega:¬u<bs.length)]
     rfl
    |succ k ih=>
     intro u h1 h2
     have hlt:u<bs.length:=by omega
     have hg:=gp hb u
     have hwx:IntKind.wrap .i64 (bs.getD u 0)=bs.getD u 0:=wrap64 (by omega)
     simp only[rP]
     cases hc:decide (bs.getD u 0<256 - Int.tmod 256 b) with
     |true=>
      refine Jv ?_
      rw[rZ h2 hl,FK hlt]
      simp only[FJ,ab,F4,FI,hwx,hc]
     |false=>
      simp only[FI]
      rw[←ih (u+1) (by omega) (by omega)]
      refine JB ?_
      rw[rZ h2 hl,FK hlt]
      simp only[FJ,ab,F4,FI,hwx,hc]
   rw[key _ u rfl hu]
   rfl
theorem En {step : Int → Option (Ctl Int (Unit ⊕ Int))} (f : Nat → Bool) (n : Nat) (hd : ∀ i : Nat, i < n → (f i = true → step (i : Int) = some (.next ((i + 1 : Nat) : Int))) ∧ (f i = false → step (i : Int) = some (.done (.inr (i : Int))))) (hn : step (n : Int) = some (.done (.inl ()))) : ∃r,Loop.run step 0=some r∧((r= .inl ()∧fw f n 0=true)∨∃i:Nat,i<n∧r= .inr (i:Int)∧fw f n 0=false):=by (have key:∀c i:Nat,n - i=c→i≤n→∃r,Loop.run step (i:Int)=some r∧((r= .inl ()∧fw f c i=true)∨∃j:Nat,j<n∧r= .inr (j:Int)∧fw f c i=false):=by intro c;induction c with| zero => (intro i h1 h2; have : i = n := by omega);subst this;exact⟨_,Jv hn,.inl ⟨rfl,rfl⟩⟩|succ c ih=>intro i h1 h2;obtain⟨a,b⟩:=hd i (by omega);cases hf:f i with|true=>obtain⟨r,h3,h4⟩:=ih (i+1) (by omega) (by omega);refine⟨r,by rw[JB (a hf)];exact h3,?_⟩;simp only[fw,hf,GV];exact h4|false=>exact⟨_,Jv (b hf),.inr ⟨i,by omega,rfl,by simp only[fw,hf,IR]⟩⟩);exact key n 0 (by omega) (by omega)
def okBs (l:List Int):Bool:=fw (λi=>isB (l.getD i 0)) l.length 0
theorem yS {l:List Int} (hl:l.length<2^31):ci l=some (!okBs l):=by
 unfold ci dh kV gz
 simp only[ab]
 obtain⟨r,h1,h2⟩:=En (step:=(λxA=>
    bif decide (xA<(l.length:Int)) then
     (idx l xA).bind λyA=>
     bif !((decide (yA≥1))&&(decide (yA≤256))) then
      some (.done (.inr xA))
     else
      some (.next (IntKind.wrap .i64 (xA+1)))
    else
     some (.done (.inl ())) : Int → Option (Ctl Int (Unit ⊕ Int)))) (λi => isB (l.getD i 0)) l.length (λi hi => by
   have hd:decide ((i:Int)<(l.length:Int))=true:=FK (by omega)
   simp only[hd,FJ]
   rw[ar rfl hi,wrap64 (x:=(i:Int)+1) (by omega)]
   simp only[ab]
   show(isB (l.getD i 0)=true→(bif !isB (l.getD i 0) then _ else _)=_)∧(isB (l.getD i 0)=false→(bif !isB (l.getD i 0) then _ else _)=_)
   cases isB (l.getD i 0) with
   |true=>exact⟨λ_=>rfl,λh=>(by cases h)⟩
   |false=>exact⟨λh=>(by cases h),λ_=>rfl⟩) (by
   have hd:decide ((l.length:Int)<(l.length:Int))=false:=FL (by omega)
   simp only[hd,FI])
 rw[h1]
 simp only[ab,okBs]
 rcases h2 with⟨rfl,h⟩|⟨i,hi,rfl,h⟩
 · rw[h];rfl
 · rw[h]
   simp only[ab,HB]
   rw[FK (show(i:Int)≥0 by omega)]
def allD (bs:List Int):List Int→Nat→Option (List Int×Nat)|[],u=>some ([],u)|b::r,u=>match below1 bs u b with|none=>none|some (d,v)=>match allD bs r v with|none=>none|some (ds,w)=>some (d::ds,w)
def Bo (bs l:List Int):List Int×Int×Int:=bif okBs l then(match allD bs l 0 with|some (ds,w)=>(ds,(w:Int),0)|none=>([],0,3)) else([],0,2)
theorem uc {l:List Int} (h:okBs l=true):∀b∈l,1≤b∧b≤256:=by intro b hb;obtain⟨i,hi,rfl⟩:=Ht hb;have:=gP.1 h i (Gi _) (by omega);simp only[List.getD,GP hi,GR,isB,FT,FX] at this;omega
theorem qf {bs:List Int} (hb:aL bs):∀{l:List Int} {u:Nat} {ds:List Int} {w:Nat},(∀b∈l,1≤b∧b≤256)→u≤bs.length→allD bs l u=some (ds,w)→ds.length=l.length∧(∀i,i<l.length→0≤ds.getD i 0∧ds.getD i 0<l.getD i 0)∧u≤w∧w≤bs.length|[],u,ds,w,_,hu,h=>by cases h;exact⟨rfl,λi hi=>by simp at hi,by omega,hu⟩|b::r,u,ds,w,hl,hu,h=>by simp only[allD] at h;split at h;cases h;rename_i d v h1;have r1:=qO hb (hl b (by simp)).1 hu h1;split at h;cases h;rename_i ds' w' h2;cases h;have r2:=qf hb (λq hq=>hl q (by simp[hq])) (by omega) h2;refine⟨by simp[r2.1],λi hi=>?_,by omega,by omega⟩;cases i with|zero=>simpa using⟨r1.1,r1.2.1⟩|succ i=>simpa using r2.2.1 i (by simpa using hi)
theorem B6 {ds:List Int} {m:Nat} {d:Int}:List.set (ds++List.replicate (m+1) 0) ds.length d=(ds++[d])++List.replicate m 0:=by rw[Ih _ _ (F9 _),Iu,GU,IK,F6];rfl
theorem yT {bs l:List Int} (hb:aL bs) (hl:bs.length<2^31) (hn:l.length<2^31):kN bs l=some (Bo bs l):=by
 unfold kN Bo
 rw[oU hn,FJ,FP]
 unfold fA
 rw[yS hn]
 simp only[ab]
 cases hok:okBs l with
 |false=>rfl
 |true=>
  simp only[Gr,FI,FJ]
  rw[Dz hb]
  simp only[ab]
  have hall:=uc hok
  have key:∀(r pre ds:List Int) (u:Nat),l=pre++r→ds.length=pre.length→u≤bs.length→(match allD bs r u with
    | some (es, w) => Loop.run (S := (Int × aR × (List Int))) (R := ((aR × (List Int)) ⊕ (Int × Int × (List Int)))) (λx =>
    bif decide (x.1<(l.length:Int)) then
     (idx l x.1).bind λx108=>
     (f9 x.2.1 x108).bind λy110=>
     bif y110.2.2 != 0 then
      some (.done (.inr (0,y110.2.2,x.2.2)))
     else
      (dN y110.2.1).bind λy116=>
      (ii x.1 (IntKind.wrap .i64 (y116 - 1)) y110.1 x.2.2).bind λy118=>
      some (.next (IntKind.wrap .i64 (x.1+1),y110.2.1,y118))
    else
     some (.done (.inl (x.2.1,x.2.2)))) ((pre.length:Int),⟨bs,(u:Int)⟩,ds++List.replicate r.length 0)=some (.inl (⟨bs,(w:Int)⟩,ds++es))
    | none => ∃ z, Loop.run (S := (Int × aR × (List Int))) (R := ((aR × (List Int)) ⊕ (Int × Int × (List Int)))) (λx =>
    bif decide (x.1<(l.length:Int)) then
     (idx l x.1).bind λx108=>
     (f9 x.2.1 x108).bind λy110=>
     bif y110.2.2 != 0 then
      some (.done (.inr (0,y110.2.2,x.2.2)))
     else
      (dN y110.2.1).bind λy116=>
      (ii x.1 (IntKind.wrap .i64 (y116 - 1)) y110.1 x.2.2).bind λy118=>
      some (.next (IntKind.wrap .i64 (x.1+1),y110.2.1,y118))
    else
     some (.done (.inl (x.2.1,x.2.2)))) ((pre.length:Int),⟨bs,(u:Int)⟩,ds++List.replicate r.length 0)=some (.inr (0,3,z))):=by
   intro r
   induction r with
   |nil=>
    intro pre ds u e hd hu
    simp only[allD,Gg,H7,Hr]
    refine Jv ?_
    have:decide ((pre.length:Int)<(l.length:Int))=false:=FL (by rw[e];simp)
    simp only[this,FI]
   |cons b r ih=>
    intro pre ds u e hd hu
    have hlen:l.length=pre.length+(r.length+1):=by rw[e];simp
    have hlt:decide ((pre.length:Int)<(l.length:Int))=true:=FK (by omega)
    have hget:l.getD pre.length 0=b:=by rw[e];simp[List.getD]
    have hbB:isB b=true:=by
     have:=hall b (by rw[e];simp)
     simp only[isB,FT,FX];omega
    have hbe:=AJ (u:=u) (b:=b) hb hl hu
    unfold AI at hbe
    rw[hbB,Gr,FI] at hbe
    simp only[allD]
    cases hx:below1 bs u b with
    |none=>
     rw[hx] at hbe
     refine⟨ds++List.replicate (b::r).length 0,Jv ?_⟩
     simp only[hlt,FJ]
     rw[ar rfl (by omega),hget]
     simp only[ab]
     rw[hbe];rfl
    |some q=>
     obtain⟨d,v⟩:=q
     rw[hx] at hbe
     have rng:=qO hb (hall b (by rw[e];simp)).1 hu hx
     have stp:(bif decide ((pre.length:Int)<(l.length:Int)) then
      (idx l (pre.length:Int)).bind λx108=>
      (f9 ⟨bs,(u:Int)⟩ x108).bind λy110=>
      bif y110.2.2 != 0 then
       some (.done (.inr (0,y110.2.2,ds++List.replicate (b::r).length 0)))
      else
       (dN y110.2.1).bind λy116=>
       (ii (pre.length:Int) (IntKind.wrap .i64 (y116 - 1)) y110.1 (ds++List.replicate (b::r).length 0)).bind λy118=>
       some (.next (IntKind.wrap .i64 ((pre.length:Int)+1),y110.2.1,y118))
     else
      some (.done (.inl ((⟨bs, (u : Int)⟩ : aR), ds ++ List.replicate (b :: r).length 0)))) = (some (.next (((pre ++ [b]).length : Int), (⟨bs, (v : Int)⟩ : aR), (ds ++ [d]) ++ List.replicate r.length 0)) : Option (Ctl (Int × aR × (List Int)) ((aR × (List Int)) ⊕ (Int × Int × (List Int))))) := by
      rw[hlt,FJ,ar rfl (by omega),hget]
      simp only[ab]
      rw[hbe]
      simp only[ab,F4,FI,dN,ii]
      rw[ar (i:=pre.length) rfl (by simp;omega)]
      simp only[ab]
      rw[FP,←hd,F2,B6,wrap64 (by omega),hd]
      simp
     have ih2:=ih (pre++[b]) (ds++[d]) v (by rw[e];simp) (by simp[hd]) rng.2.2.2
     cases hy:allD bs r v with
     |none=>
      rw[hy] at ih2
      obtain⟨z,hz⟩:=ih2
      simp only[hy]
      exact⟨z,(JB stp).trans hz⟩
     |some q=>
      obtain⟨es,w⟩:=q
      rw[hy] at ih2
      simp only at ih2
      simp only[hy]
      rw[JB stp,ih2]
      simp
  have k0:=key l [] [] 0 rfl rfl (Gi _)
  cases hd:allD bs l 0 with
  |none=>
   rw[hd] at k0
   obtain⟨z,hz⟩:=k0
   have hz':=hz
   simp only[Gg,F8] at hz'
   rw[show(((0:Nat):Int))=0 from rfl] at hz'
   rw[hz'];rfl
  |some q=>
   obtain⟨es,w⟩:=q
   rw[hd] at k0
   simp only[Gg,F8] at k0
   rw[show(((0:Nat):Int))=0 from rfl] at k0
   rw[k0];rfl
end Go.Proofs.YtobbmodjdkcdcaaGreatDoor

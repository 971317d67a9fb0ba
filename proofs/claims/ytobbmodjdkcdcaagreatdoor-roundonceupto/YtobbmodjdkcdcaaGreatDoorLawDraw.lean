import Derived.Test.YtobbmodjdkcdcaaGreatDoorLawTape
set_option linter.all false
set_option maxRecDepth 20000
namespace Go.Proofs.YtobbmodjdkcdcaaGreatDoor
open Go Go.Sim
variable [Fu]
def su (bs:List Int) (b:Int):Nat→Nat→Option (Int×Nat)|0,_=>none|k+1,u=>bif decide (bs.getD u 0<256 - Int.tmod 256 b) then some (Int.tmod (bs.getD u 0) b,u+1) else su bs b k (u+1)
def below1 (bs:List Int) (u:Nat) (b:Int):Option (Int×Nat):=bif b==1 then some (0,u) else su bs b (bs.length - u) u
def isB (b:Int):Bool:=decide (b≥1)&&decide (b≤256)
def A7 (bs:List Int) (u:Nat) (b:Int):Int×aQ×Int:=bif !isB b then(0,⟨[],0⟩,2) else match below1 bs u b with|some (d,v)=>(d,⟨bs,(v:Int)⟩,0)|none=>(0,⟨[],0⟩,3)
theorem gz {bs:List Int} (h:aH bs) (u:Nat):0≤bs.getD u 0∧bs.getD u 0≤255:=by by_cases c:u<bs.length;simp only[List.getD,List.getElem?_eq_getElem c,Option.getD_some];exact h _ (List.getElem_mem c);simp only[List.getD,List.getElem?_eq_none (by omega:bs.length≤u),Option.getD_none];omega
theorem ri {bs:List Int} {b:Int} (hb:aH bs) (h1:1≤b):∀{k u:Nat} {d:Int} {v:Nat},su bs b k u=some (d,v)→0≤d∧d<b∧u<v∧v≤u+k|0,_,_,_,h=>by cases h|k+1,u,d,v,h=>by simp only[su] at h;cases hc:decide (bs.getD u 0<256 - Int.tmod 256 b) with|true=>rw[hc,cond_true] at h;cases h;exact⟨Int.tmod_nonneg _ (gz hb u).1,Int.tmod_lt_of_pos _ (by omega),by omega,by omega⟩|false=>rw[hc,cond_false] at h;have:=ri hb h1 h;omega
theorem rj {bs:List Int} {b:Int} {u:Nat} {d:Int} {v:Nat} (hb:aH bs) (h1:1≤b) (hu:u≤bs.length) (h:below1 bs u b=some (d,v)):0≤d∧d<b∧u≤v∧v≤bs.length:=by unfold below1 at h;cases hc:(b==1) with|true=>have:=eq_of_beq hc;rw[hc,cond_true] at h;cases h;omega|false=>rw[hc,cond_false] at h;have:=ri hb h1 h;omega
theorem A8 {bs:List Int} {u:Nat} {b:Int} (hb:aH bs) (hl:bs.length<2^31) (hu:u≤bs.length):gd ⟨bs,(u:Int)⟩ b=some (A7 bs u b):=by
 unfold gd gP A7
 simp only[ab]
 show(bif !isB b then _ else _)=_
 cases hB:isB b with
 |false=>rfl
 |true=>
  simp only[isB,Bool.and_eq_true,decide_eq_true_eq] at hB
  simp only[Bool.not_true,cond_false,below1]
  cases h1:(b==1) with
  |true=>rfl
  |false=>
   have hb1:b≠1:=by simpa using h1
   have hne:decide (b≠0)=true:=decide_eq_true (by omega)
   have hm0:0≤Int.tmod 256 b:=Int.tmod_nonneg _ (by omega)
   have hm1:Int.tmod 256 b<b:=Int.tmod_lt_of_pos _ (by omega)
   have hw:IntKind.wrap .i64 (256 - Int.tmod 256 b)=256 - Int.tmod 256 b:=wrap64 (by omega)
   simp only[cond_false,hne,cond_true,hw]
   have key:∀k u,bs.length - u=k→u≤bs.length→Loop.run (S:=aQ) (R:=(Int×aQ×Int)) (λyA=>
     (fH yA).bind λxA=>
     bif xA.2.2 != 0 then
      some (.done (0,(⟨[],(0:Int)⟩:aQ),xA.2.2))
     else
      bif decide ((IntKind.wrap .i64 xA.1)<256 - Int.tmod 256 b) then
       some (.done (Int.tmod (IntKind.wrap .i64 xA.1) b,xA.2.1,0))
      else
       some (.next xA.2.1)) ⟨bs,(u:Int)⟩=some (match su bs b k u with|some (d,v)=>(d,⟨bs,(v:Int)⟩,0)|none=>(0,⟨[],0⟩,3)):=by
    intro k
    induction k with
    |zero=>
     intro u h1 h2
     refine Loop.run_done ?_
     rw[sC h2 hl,decide_eq_false (by omega:¬u<bs.length)]
     rfl
    |succ k ih=>
     intro u h1 h2
     have hlt:u<bs.length:=by omega
     have hg:=gz hb u
     have hwx:IntKind.wrap .i64 (bs.getD u 0)=bs.getD u 0:=wrap64 (by omega)
     simp only[su]
     cases hc:decide (bs.getD u 0<256 - Int.tmod 256 b) with
     |true=>
      refine Loop.run_done ?_
      rw[sC h2 hl,decide_eq_true hlt]
      simp only[cond_true,ab,bne_self_eq_false,cond_false,hwx,hc]
     |false=>
      simp only[cond_false]
      rw[←ih (u+1) (by omega) (by omega)]
      refine Loop.run_next ?_
      rw[sC h2 hl,decide_eq_true hlt]
      simp only[cond_true,ab,bne_self_eq_false,cond_false,hwx,hc]
   rw[key _ u rfl hu]
   rfl
theorem ER {step : Int → Option (Ctl Int (Unit ⊕ Int))} (f : Nat → Bool) (n : Nat) (hd : ∀ i : Nat, i < n → (f i = true → step (i : Int) = some (.next ((i + 1 : Nat) : Int))) ∧ (f i = false → step (i : Int) = some (.done (.inr (i : Int))))) (hn : step (n : Int) = some (.done (.inl ()))) : ∃r,Loop.run step 0=some r∧((r= .inl ()∧fB f n 0=true)∨∃i:Nat,i<n∧r= .inr (i:Int)∧fB f n 0=false):=by (have key:∀c i:Nat,n - i=c→i≤n→∃r,Loop.run step (i:Int)=some r∧((r= .inl ()∧fB f c i=true)∨∃j:Nat,j<n∧r= .inr (j:Int)∧fB f c i=false):=by intro c;induction c with| zero => (intro i h1 h2; have : i = n := by omega);subst this;exact⟨_,Loop.run_done hn,.inl ⟨rfl,rfl⟩⟩|succ c ih=>intro i h1 h2;obtain⟨a,b⟩:=hd i (by omega);cases hf:f i with|true=>obtain⟨r,h3,h4⟩:=ih (i+1) (by omega) (by omega);refine⟨r,by rw[Loop.run_next (a hf)];exact h3,?_⟩;simp only[fB,hf,Bool.true_and];exact h4|false=>exact⟨_,Loop.run_done (b hf),.inr ⟨i,by omega,rfl,by simp only[fB,hf,Bool.false_and]⟩⟩);exact key n 0 (by omega) (by omega)
def okBs (l:List Int):Bool:=fB (λi=>isB (l.getD i 0)) l.length 0
theorem zm {l:List Int} (hl:l.length<2^31):cf l=some (!okBs l):=by
 unfold cf df ll gP
 simp only[ab]
 obtain⟨r,h1,h2⟩:=ER (step:=(λxA=>
    bif decide (xA<(l.length:Int)) then
     (idx l xA).bind λyA=>
     bif !((decide (yA≥1))&&(decide (yA≤256))) then
      some (.done (.inr xA))
     else
      some (.next (IntKind.wrap .i64 (xA+1)))
    else
     some (.done (.inl ())) : Int → Option (Ctl Int (Unit ⊕ Int)))) (λi => isB (l.getD i 0)) l.length (λi hi => by
   have hd:decide ((i:Int)<(l.length:Int))=true:=decide_eq_true (by omega)
   simp only[hd,cond_true]
   rw[ar rfl hi,wrap64 (x:=(i:Int)+1) (by omega)]
   simp only[ab]
   show(isB (l.getD i 0)=true→(bif !isB (l.getD i 0) then _ else _)=_)∧(isB (l.getD i 0)=false→(bif !isB (l.getD i 0) then _ else _)=_)
   cases isB (l.getD i 0) with
   |true=>exact⟨λ_=>rfl,λh=>(by cases h)⟩
   |false=>exact⟨λh=>(by cases h),λ_=>rfl⟩) (by
   have hd:decide ((l.length:Int)<(l.length:Int))=false:=decide_eq_false (by omega)
   simp only[hd,cond_false])
 rw[h1]
 simp only[ab,okBs]
 rcases h2 with⟨rfl,h⟩|⟨i,hi,rfl,h⟩
 · rw[h];rfl
 · rw[h]
   simp only[ab,Bool.not_false]
   rw[decide_eq_true (show(i:Int)≥0 by omega)]
def allD (bs:List Int):List Int→Nat→Option (List Int×Nat)|[],u=>some ([],u)|b::r,u=>match below1 bs u b with|none=>none|some (d,v)=>match allD bs r v with|none=>none|some (ds,w)=>some (d::ds,w)
def BP (bs l:List Int):List Int×Int×Int:=bif okBs l then(match allD bs l 0 with|some (ds,w)=>(ds,(w:Int),0)|none=>([],0,3)) else([],0,2)
theorem uu {l:List Int} (h:okBs l=true):∀b∈l,1≤b∧b≤256:=by intro b hb;obtain⟨i,hi,rfl⟩:=List.getElem_of_mem hb;have:=eR.1 h i (Nat.zero_le _) (by omega);simp only[List.getD,List.getElem?_eq_getElem hi,Option.getD_some,isB,Bool.and_eq_true,decide_eq_true_eq] at this;omega
theorem qy {bs:List Int} (hb:aH bs):∀{l:List Int} {u:Nat} {ds:List Int} {w:Nat},(∀b∈l,1≤b∧b≤256)→u≤bs.length→allD bs l u=some (ds,w)→ds.length=l.length∧(∀i,i<l.length→0≤ds.getD i 0∧ds.getD i 0<l.getD i 0)∧u≤w∧w≤bs.length|[],u,ds,w,_,hu,h=>by cases h;exact⟨rfl,λi hi=>by simp at hi,by omega,hu⟩|b::r,u,ds,w,hl,hu,h=>by simp only[allD] at h;split at h;cases h;rename_i d v h1;have r1:=rj hb (hl b (by simp)).1 hu h1;split at h;cases h;rename_i ds' w' h2;cases h;have r2:=qy hb (λq hq=>hl q (by simp[hq])) (by omega) h2;refine⟨by simp[r2.1],λi hi=>?_,by omega,by omega⟩;cases i with|zero=>simpa using⟨r1.1,r1.2.1⟩|succ i=>simpa using r2.2.1 i (by simpa using hi)
theorem Cv {ds:List Int} {m:Nat} {d:Int}:List.set (ds++List.replicate (m+1) 0) ds.length d=(ds++[d])++List.replicate m 0:=by rw[List.set_append_right _ _ (Nat.le_refl _),Nat.sub_self,List.replicate_succ,List.set_cons_zero,List.append_assoc];rfl
theorem zn {bs l:List Int} (hb:aH bs) (hl:bs.length<2^31) (hn:l.length<2^31):kW bs l=some (BP bs l):=by
 unfold kW BP
 rw[qM hn,cond_true,Int.toNat_natCast]
 unfold fE
 rw[zm hn]
 simp only[ab]
 cases hok:okBs l with
 |false=>rfl
 |true=>
  simp only[Bool.not_true,cond_false,cond_true]
  rw[D8 hb]
  simp only[ab]
  have hall:=uu hok
  have key:∀(r pre ds:List Int) (u:Nat),l=pre++r→ds.length=pre.length→u≤bs.length→(match allD bs r u with
    | some (es, w) => Loop.run (S := (Int × aQ × (List Int))) (R := ((aQ × (List Int)) ⊕ (Int × Int × (List Int)))) (λx =>
    bif decide (x.1<(l.length:Int)) then
     (idx l x.1).bind λx108=>
     (gd x.2.1 x108).bind λy110=>
     bif y110.2.2 != 0 then
      some (.done (.inr (0,y110.2.2,x.2.2)))
     else
      (dO y110.2.1).bind λy116=>
      (ir x.1 (IntKind.wrap .i64 (y116 - 1)) y110.1 x.2.2).bind λy118=>
      some (.next (IntKind.wrap .i64 (x.1+1),y110.2.1,y118))
    else
     some (.done (.inl (x.2.1,x.2.2)))) ((pre.length:Int),⟨bs,(u:Int)⟩,ds++List.replicate r.length 0)=some (.inl (⟨bs,(w:Int)⟩,ds++es))
    | none => ∃ z, Loop.run (S := (Int × aQ × (List Int))) (R := ((aQ × (List Int)) ⊕ (Int × Int × (List Int)))) (λx =>
    bif decide (x.1<(l.length:Int)) then
     (idx l x.1).bind λx108=>
     (gd x.2.1 x108).bind λy110=>
     bif y110.2.2 != 0 then
      some (.done (.inr (0,y110.2.2,x.2.2)))
     else
      (dO y110.2.1).bind λy116=>
      (ir x.1 (IntKind.wrap .i64 (y116 - 1)) y110.1 x.2.2).bind λy118=>
      some (.next (IntKind.wrap .i64 (x.1+1),y110.2.1,y118))
    else
     some (.done (.inl (x.2.1,x.2.2)))) ((pre.length:Int),⟨bs,(u:Int)⟩,ds++List.replicate r.length 0)=some (.inr (0,3,z))):=by
   intro r
   induction r with
   |nil=>
    intro pre ds u e hd hu
    simp only[allD,List.length_nil,List.replicate_zero,List.append_nil]
    refine Loop.run_done ?_
    have:decide ((pre.length:Int)<(l.length:Int))=false:=decide_eq_false (by rw[e];simp)
    simp only[this,cond_false]
   |cons b r ih=>
    intro pre ds u e hd hu
    have hlen:l.length=pre.length+(r.length+1):=by rw[e];simp
    have hlt:decide ((pre.length:Int)<(l.length:Int))=true:=decide_eq_true (by omega)
    have hget:l.getD pre.length 0=b:=by rw[e];simp[List.getD]
    have hbB:isB b=true:=by
     have:=hall b (by rw[e];simp)
     simp only[isB,Bool.and_eq_true,decide_eq_true_eq];omega
    have hbe:=A8 (u:=u) (b:=b) hb hl hu
    unfold A7 at hbe
    rw[hbB,Bool.not_true,cond_false] at hbe
    simp only[allD]
    cases hx:below1 bs u b with
    |none=>
     rw[hx] at hbe
     refine⟨ds++List.replicate (b::r).length 0,Loop.run_done ?_⟩
     simp only[hlt,cond_true]
     rw[ar rfl (by omega),hget]
     simp only[ab]
     rw[hbe];rfl
    |some q=>
     obtain⟨d,v⟩:=q
     rw[hx] at hbe
     have rng:=rj hb (hall b (by rw[e];simp)).1 hu hx
     have stp:(bif decide ((pre.length:Int)<(l.length:Int)) then
      (idx l (pre.length:Int)).bind λx108=>
      (gd ⟨bs,(u:Int)⟩ x108).bind λy110=>
      bif y110.2.2 != 0 then
       some (.done (.inr (0,y110.2.2,ds++List.replicate (b::r).length 0)))
      else
       (dO y110.2.1).bind λy116=>
       (ir (pre.length:Int) (IntKind.wrap .i64 (y116 - 1)) y110.1 (ds++List.replicate (b::r).length 0)).bind λy118=>
       some (.next (IntKind.wrap .i64 ((pre.length:Int)+1),y110.2.1,y118))
     else
      some (.done (.inl ((⟨bs, (u : Int)⟩ : aQ), ds ++ List.replicate (b :: r).length 0)))) = (some (.next (((pre ++ [b]).length : Int), (⟨bs, (v : Int)⟩ : aQ), (ds ++ [d]) ++ List.replicate r.length 0)) : Option (Ctl (Int × aQ × (List Int)) ((aQ × (List Int)) ⊕ (Int × Int × (List Int))))) := by
      rw[hlt,cond_true,ar rfl (by omega),hget]
      simp only[ab]
      rw[hbe]
      simp only[ab,bne_self_eq_false,cond_false,dO,ir]
      rw[ar (i:=pre.length) rfl (by simp;omega)]
      simp only[ab]
      rw[Int.toNat_natCast,←hd,List.length_cons,Cv,wrap64 (by omega),hd]
      simp
     have ih2:=ih (pre++[b]) (ds++[d]) v (by rw[e];simp) (by simp[hd]) rng.2.2.2
     cases hy:allD bs r v with
     |none=>
      rw[hy] at ih2
      obtain⟨z,hz⟩:=ih2
      simp only[hy]
      exact⟨z,(Loop.run_next stp).trans hz⟩
     |some q=>
      obtain⟨es,w⟩:=q
      rw[hy] at ih2
      simp only at ih2
      simp only[hy]
      rw[Loop.run_next stp,ih2]
      simp
  have k0:=key l [] [] 0 rfl rfl (Nat.zero_le _)
  cases hd:allD bs l 0 with
  |none=>
   rw[hd] at k0
   obtain⟨z,hz⟩:=k0
   have hz':=hz
   simp only[List.length_nil,List.nil_append] at hz'
   rw[show(((0:Nat):Int))=0 from rfl] at hz'
   rw[hz'];rfl
  |some q=>
   obtain⟨es,w⟩:=q
   rw[hd] at k0
   simp only[List.length_nil,List.nil_append] at k0
   rw[show(((0:Nat):Int))=0 from rfl] at k0
   rw[k0];rfl
end Go.Proofs.YtobbmodjdkcdcaaGreatDoor

import Derived.Test.YtdkfkpbijdimkaaGreatDoorLawWrap
set_option linter.unusedVariables false
set_option linter.unusedSimpArgs false
set_option linter.unusedSectionVars false
set_option maxRecDepth 20000
set_option maxHeartbeats 1000000
namespace Go.Proofs.YtdkfkpbijdimkaaGreatDoor
open Go Go.Sim
variable [Fu]
theorem nq {α β:Type} {o:Option α} {f g:α→Option β} (h:∀x,o=some x→f x=g x):o.bind f=o.bind g:=by
 cases o with
 |none=>rfl
 |some x=>exact h x rfl
theorem mc {α:Type} {xs:List α} {i:Int} {x:α} (h:idx xs i=some x):x∈xs:=by
 obtain⟨_,_,h3⟩:=cU h
 exact List.mem_of_getElem? h3
theorem mU {keys nonces:List (List Int)} {p:List Int} (hn:∀x∈nonces,x.length=16):cg keys nonces p=bY keys nonces p:=by
 unfold cg bY
 have key:∀(i:Int) (k x:List Int) (l:Int) {β:Type} (g:List Int×Int→Option β),((idx nonces i).bind fun n=>(bq k n l x).bind g)=((idx nonces i).bind fun n=>(bL k n l x).bind g):=fun i k x l β g=>
  nq fun n h=>by rw[lE (hn n (mc h)),gw (hn n (mc h))]
 simp only[key,nu]<;>rfl
theorem lz {key nonce x:List Int} {l:Int} (hn:nonce.length=16):(im key nonce l x).1.length≤320:=by
 unfold im
 cases key.length != 32 with
 |true=>simp
 |false=>exact lC hn
noncomputable def jw (a0 a1 : List (List Int)) : ((List Int) × Int) → Option (Ctl ((List Int) × Int) ((List Int) ⊕ ((List Int) × Int))) := (fun (x102, x103) =>
 bif decide (x103≥0) then
  (idx a0 x103).bind fun x119=>
  (idx a1 x103).bind fun x121=>
  (bL x119 x121 (IntKind.wrap .i64 ((a0.length:Int) - x103)) x102).bind fun y123=>
  bif y123.2 != 0 then
   some (.done (.inr ([],y123.2)))
  else
   some (.next (y123.1,IntKind.wrap .i64 (x103 - 1)))
 else
  some (.done (.inl x102)))
theorem nr {keys nonces:List (List Int)} (hn:∀x∈nonces,x.length=16) (hl:nonces.length=keys.length) (h8:keys.length≤8) {p:List Int} (hp:p.length≤320):
  ∃r,Loop.run (jw keys nonces) (p,(keys.length:Int) - 1)=some r∧(match r with| .inl x=>x.length≤320| .inr _=>True):=by
 refine gQ (S := ((List Int) × Int)) (R := ((List Int) ⊕ ((List Int) × Int))) (step := jw keys nonces) (P := fun s => ∃ i : Nat, s.2 = (i : Int) - 1 ∧ i ≤ keys.length ∧ s.1.length ≤ 320) (Q := fun r => match r with | .inl x => x.length ≤ 320 | .inr _ => True) (fun s => (s.2 + 1).toNat) (fun s hs => ?_) ⟨keys.length, rfl, Nat.le_refl _, hp⟩
 obtain⟨x,z⟩:=s
 obtain⟨i,hz,hi,hx⟩:=hs
 simp only at hz hx
 subst hz
 unfold jw
 simp only
 cases i with
 |zero=>
  have h1:decide (((0:Nat):Int) - 1≥0)=false:=by decide
  rw[h1,cond_false]
  exact .inl ⟨_,rfl,hx⟩
 |succ i=>
  have e:((i+1:Nat):Int) - 1=(i:Int):=by omega
  have h1:decide ((i:Int)≥0)=true:=decide_eq_true (by omega)
  rw[e,h1,cond_true,fB (show i<keys.length by omega)]
  simp only[aa]
  have hi2:i<nonces.length:=by omega
  rw[fB hi2]
  have hm:=hn _ (List.getElem_mem hi2)
  simp only[aa]
  rw[gw hm]
  simp only[aa]
  cases (im keys[i] nonces[i] (IntKind.wrap .i64 ((keys.length:Int) - (i:Int))) x).2 != 0 with
  |true=>exact .inl ⟨_,rfl,trivial⟩
  |false=>
   rw[cond_false,wrap64 (x:=(i:Int) - 1) (by omega)]
   exact .inr ⟨_,rfl,⟨i,rfl,by omega,lz hm⟩,by simp only;omega⟩
theorem md {keys : List (List Int)} (h8 : keys.length ≤ 8) : ∃ r, Loop.run (S := Int) (R := (Unit ⊕ ((List Int) × Int))) (fun x140 =>
     bif decide (x140<(keys.length:Int)) then
      (idx keys x140).bind fun x148=>
      bif (x148.length:Int) != 32 then
       some (.done (.inr ([],2)))
      else
       some (.next (IntKind.wrap .i64 (x140+1)))
     else
      some (.done (.inl ()))) 0=some r:=by
 obtain ⟨r, h, _⟩ := gQ (S := Int) (R := (Unit ⊕ ((List Int) × Int))) (P := fun s => ∃ i : Nat, s = i ∧ i ≤ keys.length) (Q := fun _ => True) (fun s => ((keys.length : Int) - s).toNat) (step := (fun x140 =>
     bif decide (x140<(keys.length:Int)) then
      (idx keys x140).bind fun x148=>
      bif (x148.length:Int) != 32 then
       some (.done (.inr ([],2)))
      else
       some (.next (IntKind.wrap .i64 (x140+1)))
     else
      some (.done (.inl ())))) (fun s hs=>by
  obtain⟨i,hz,hi⟩:=hs
  subst hz
  by_cases hlt:i<keys.length
  · have h1:decide ((i:Int)<(keys.length:Int))=true:=decide_eq_true (by omega)
    simp only[h1,cond_true]
    rw[fB hlt]
    simp only[aa]
    cases ((keys[i].length:Int) != 32) with
    |true=>exact .inl ⟨_,rfl,trivial⟩
    |false=>
     rw[cond_false,wrap64 (by omega)]
     exact .inr ⟨_,rfl,⟨i+1,by omega,by omega⟩,by omega⟩
  · have h1:decide ((i:Int)<(keys.length:Int))=false:=decide_eq_false (by omega)
    simp only[h1,cond_false]
    exact .inl ⟨_,rfl,trivial⟩) (s:=0) ⟨0,rfl,by omega⟩
 exact⟨r,h⟩
theorem mV {keys nonces:List (List Int)} {p:List Int} (hn:∀x∈nonces,x.length=16):∃r,bY keys nonces p=some r:=by
 unfold bY
 cases hg:((decide ((keys.length:Int)<1))||(decide ((keys.length:Int)>8)))||((nonces.length:Int) != (keys.length:Int)) with
 |true=>exact⟨_,rfl⟩
 |false=>
  simp only[Bool.or_eq_false_iff,decide_eq_false_iff_not,bne_eq_false_iff_eq] at hg
  obtain⟨⟨g1,g2⟩,g3⟩:=hg
  obtain⟨r,hr⟩:=md (keys:=keys) (by omega)
  rw[cond_false,hr]
  cases r with
  |inr q=>exact⟨_,rfl⟩
  |inl u=>
   show∃r,(bif decide ((p.length:Int)>48) then some ([],1) else _)=some r
   cases hp:decide ((p.length:Int)>48) with
   |true=>exact⟨_,rfl⟩
   |false=>
    have hp:=of_decide_eq_false hp
    rw[cond_false,wrap64 (x:=(keys.length:Int) - 1) (by omega)]
    show∃r,(((Loop.run (jw keys nonces) (p,(keys.length:Int) - 1)).bind _).bind _)=some r
    obtain⟨q,hq,hl⟩:=nr (keys:=keys) hn (by omega) (by omega) (p:=p) (by omega)
    rw[hq]
    cases q with
    |inr z=>exact⟨_,rfl⟩
    |inl x=>
     have hl:x.length≤320:=hl
     show∃r,(cy x).bind _=some r
     rw[jO hl]
     exact⟨_,rfl⟩
theorem lA {ms nonces:List (List Int)} {e:Int} {p:List Int} (hn:∀x∈nonces,x.length=16):bJ ms e nonces p=ba ms e nonces p:=by
 unfold bJ ba
 simp only[mT,i8,mU hn]<;>rfl
noncomputable def gY (a0 : List (List Int)) (a1 : Int) : ((List (List Int)) × Int) → Option (Ctl ((List (List Int)) × Int) ((List (List Int)) ⊕ ((List Int) × Int))) := (fun (x70, x71) =>
 bif decide (x71<(a0.length:Int)) then
  (idx a0 x71).bind fun x85=>
  (cJ x85 a1).bind fun y87=>
  bif y87.2 != 0 then
   some (.done (.inr ([],y87.2)))
  else
   (app x70 [y87.1]).bind fun z92=>
   some (.next (z92,IntKind.wrap .i64 (x71+1)))
 else
  some (.done (.inl x70)))
theorem mW {ms:List (List Int)} {e:Int} (hl:ms.length<2^30):∃r,Loop.run (gY ms e) ([],0)=some r:=by
 obtain⟨r,h,_⟩:=gQ (step:=gY ms e) (P:=fun s=>∃i:Nat,s.2=i∧i≤ms.length∧s.1.length≤i) (Q:=fun _=>True) (fun s=>((ms.length:Int) - s.2).toNat) (fun s hs=>by
  obtain⟨x,z⟩:=s
  obtain⟨i,hz,hi,hx⟩:=hs
  simp only at hz hx
  subst hz
  unfold gY
  simp only
  by_cases hlt:i<ms.length
  · have h1:decide ((i:Int)<(ms.length:Int))=true:=decide_eq_true (by omega)
    rw[h1,cond_true,fB hlt]
    simp only[aa,i8]
    cases (keyS ms[i] e).2 != 0 with
    |true=>exact .inl ⟨_,rfl,trivial⟩
    |false=>
     have hroom:room=17179869184:=rfl
     rw[cond_false,aN (by rw[hroom];simp;omega),wrap64 (by omega)]
     simp only[aa]
     exact .inr ⟨_,rfl,⟨i+1,by simp only;omega,by omega,by simp;omega⟩,by simp only;omega⟩
  · have h1:decide ((i:Int)<(ms.length:Int))=false:=decide_eq_false (by omega)
    rw[h1,cond_false]
    exact .inl ⟨_,rfl,trivial⟩) (s:=([],0)) ⟨0,rfl,by omega,by simp⟩
 exact⟨r,h⟩
theorem lB {ms nonces:List (List Int)} {e:Int} {p:List Int} (hn:∀x∈nonces,x.length=16) (hl:ms.length<2^30):∃r,ba ms e nonces p=some r:=by
 unfold ba
 show∃r,(((Loop.run (gY ms e) ([],0)).bind _).bind _)=some r
 obtain⟨q,hq⟩:=mW (ms:=ms) (e:=e) hl
 rw[hq]
 cases q with
 |inr z=>exact⟨_,rfl⟩
 |inl ks=>
  obtain⟨r,hr⟩:=mV (keys:=ks) (nonces:=nonces) (p:=p) hn
  show∃r,(bY ks nonces p).bind _=some r
  rw[hr]
  exact⟨_,rfl⟩
end Go.Proofs.YtdkfkpbijdimkaaGreatDoor

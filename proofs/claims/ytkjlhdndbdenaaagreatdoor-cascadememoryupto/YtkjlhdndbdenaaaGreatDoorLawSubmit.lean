import Derived.Test.YtkjlhdndbdenaaaGreatDoorLawWrap
set_option autoImplicit true
set_option relaxedAutoImplicit true
set_option linter.all false
set_option maxRecDepth 20000
set_option maxHeartbeats 1000000
namespace Go.Proofs.YtkjlhdndbdenaaaGreatDoor
open Go Go.Sim
open Go.IntKind (wrap)
variable [Fu]
theorem vw {α β:Type} {o:Option α} {f g:α→Option β} (h:∀x,o=some x→f x=g x):o.bind f=o.bind g:=by cases o with|none=>rfl|some x=>exact h x rfl
theorem tL {α:Type} {xs:List α} {i:Int} {x:α} (h:idx xs i=some x):x∈xs:=by obtain⟨_,_,a⟩:=eO h;exact ww a
theorem uO {keys nonces:List (List Int)} {p:List Int} (a:∀x∈nonces,x.length=16):d7 keys nonces p=cw keys nonces p:=by unfold d7 cw;(have b:∀(i:Int) (k x:List Int) (l:Int) {β:Type} (g:List Int×Int→Option β),((idx nonces i).bind λn=>(di k n l x).bind g)=((idx nonces i).bind λn=>(cZ k n l x).bind g):=λi k x l β g=>vw λn h=>by rw[su (a n (tL h)),kU (a n (tL h))]);simp only[b,vy]<;>rfl
theorem sg {key a x:List Int} {l:Int} (b:a.length=16):(lW key a l x).1.length≤320:=by unfold lW;cases key.length != 32 with|true=>simp|false=>exact sn b
noncomputable def n6 (a b : List (List Int)) : ((List Int) × Int) → Option (j_ ((List Int) × Int) ((List Int) ⊕ ((List Int) × Int))) := (λ(c, d) =>bif decide (d≥0) then (idx a d).bind λe=>(idx b d).bind λb=>(cZ e b (wrap .i64 ((a.length:Int) - d)) c).bind λa=>bif a.2 != 0 then some (.done (.inr ([],a.2))) else some (.next (a.1,wrap .i64 (d - 1))) else some (.done (.inl c)))
theorem vx {keys nonces:List (List Int)} (hn:∀x∈nonces,x.length=16) (hl:nonces.length=keys.length) (h8:keys.length≤8) {p:List Int} (hp:p.length≤320): ∃r,Loop.run (n6 keys nonces) (p,(keys.length:Int) - 1)=some r∧(match r with| .inl x=>x.length≤320| .inr _=>True):=by refine gd (S := ((List Int) × Int)) (R := ((List Int) ⊕ ((List Int) × Int))) (step := n6 keys nonces) (P := λs => ∃ i : Nat, s.2 = (i : Int) - 1 ∧ i ≤ keys.length ∧ s.1.length ≤ 320) (Q := λr => match r with | .inl x => x.length ≤ 320 | .inr _ => True) (λs => (s.2 + 1).toNat) (λs hs => ?_) ⟨keys.length, rfl, wy _, hp⟩;obtain⟨x,z⟩:=s;obtain⟨i,hz,hi,hx⟩:=hs;simp only at hz hx;subst hz;unfold n6;simp only;cases i with|zero=>(have h1:decide (((0:Nat):Int) - 1≥0)=false:=by decide);rw[h1,wc];exact .inl ⟨_,rfl,hx⟩|succ i=>(have e:((i+1:Nat):Int) - 1=(i:Int):=by omega);have h1:decide ((i:Int)≥0)=true:=wg (by omega);rw[e,h1,wd,el (show i<keys.length by omega)];simp only[aC];(have hi2:i<nonces.length:=by omega);rw[el hi2];have hm:=hn _ (xQ hi2);simp only[aC];rw[kU hm];simp only[aC];cases (lW keys[i] nonces[i] (wrap .i64 ((keys.length:Int) - (i:Int))) x).2 != 0 with|true=>exact .inl ⟨_,rfl,trivial⟩|false=>rw[wc,bA (x:=(i:Int) - 1) (by omega)];exact .inr ⟨_,rfl,⟨i,rfl,by omega,sg hm⟩,by simp only;omega⟩
theorem tM {keys : List (List Int)} (a : keys.length ≤ 8) : ∃ r, Loop.run (S := Int) (R := (Unit ⊕ ((List Int) × Int))) (fun a =>
     bif decide (a<(keys.length:Int)) then
      (idx keys a).bind λb=>
      bif (b.length:Int) != 32 then
       some (.done (.inr ([],2)))
      else
       some (.next (wrap .i64 (a+1)))
     else
      some (.done (.inl ()))) 0=some r:=by
 obtain ⟨r, h, _⟩ := gd (S := Int) (R := (Unit ⊕ ((List Int) × Int))) (P := fun s => ∃ i : Nat, s = i ∧ i ≤ keys.length) (Q := fun _ => True) (fun s => ((keys.length : Int) - s).toNat) (step := (fun a =>
     bif decide (a<(keys.length:Int)) then
      (idx keys a).bind λb=>
      bif (b.length:Int) != 32 then
       some (.done (.inr ([],2)))
      else
       some (.next (wrap .i64 (a+1)))
     else
      some (.done (.inl ())))) (λs a=>by
  obtain⟨i,b,c⟩:=a
  subst b
  by_cases a:i<keys.length
  · have b:decide ((i:Int)<(keys.length:Int))=true:=wg (by omega)
    simp only[b,wd]
    rw[el a]
    simp only[aC]
    cases ((keys[i].length:Int) != 32) with
    |true=>exact .inl ⟨_,rfl,trivial⟩
    |false=>
     rw[wc,bA (by omega)]
     exact .inr ⟨_,rfl,⟨i+1,by omega,by omega⟩,by omega⟩
  · have b:decide ((i:Int)<(keys.length:Int))=false:=wk (by omega)
    simp only[b,wc]
    exact .inl ⟨_,rfl,trivial⟩) (s:=0) ⟨0,rfl,by omega⟩
 exact⟨r,h⟩
theorem uP {keys nonces:List (List Int)} {p:List Int} (hn:∀x∈nonces,x.length=16):∃r,cw keys nonces p=some r:=by unfold cw;cases hg:((decide ((keys.length:Int)<1))||(decide ((keys.length:Int)>8)))||((nonces.length:Int) != (keys.length:Int)) with|true=>exact⟨_,rfl⟩|false=>simp only[xe,za,bne_eq_false_iff_eq] at hg;obtain⟨⟨g1,g2⟩,g3⟩:=hg;obtain⟨r,hr⟩:=tM (keys:=keys) (by omega);rw[wc,hr];cases r with|inr q=>exact⟨_,rfl⟩|inl u=>show∃r,(bif decide ((p.length:Int)>48) then some ([],1) else _)=some r;cases hp:decide ((p.length:Int)>48) with|true=>exact⟨_,rfl⟩|false=>have hp:=wt hp;rw[wc,bA (x:=(keys.length:Int) - 1) (by omega)];show∃r,(((Loop.run (n6 keys nonces) (p,(keys.length:Int) - 1)).bind _).bind _)=some r;obtain⟨q,hq,hl⟩:=vx (keys:=keys) hn (by omega) (by omega) (p:=p) (by omega);rw[hq];cases q with|inr z=>exact⟨_,rfl⟩|inl x=>have hl:x.length≤320:=hl;show∃r,(dQ x).bind _=some r;rw[lT hl];exact⟨_,rfl⟩
theorem si {ms nonces:List (List Int)} {e:Int} {p:List Int} (a:∀x∈nonces,x.length=16):dy ms e nonces p=bP ms e nonces p:=by unfold dy bP;simp only[uN,mY,uO a]<;>rfl
noncomputable def lw (a : List (List Int)) (b : Int) : ((List (List Int)) × Int) → Option (j_ ((List (List Int)) × Int) ((List (List Int)) ⊕ ((List Int) × Int))) := (λ(c, d) =>bif decide (d<(a.length:Int)) then (idx a d).bind λa=>(eZ a b).bind λa=>bif a.2 != 0 then some (.done (.inr ([],a.2))) else (app c [a.1]).bind λa=>some (.next (a,wrap .i64 (d+1))) else some (.done (.inl c)))
theorem uQ {ms:List (List Int)} {e:Int} (a:ms.length<2^30):∃r,Loop.run (lw ms e) ([],0)=some r:=by obtain⟨r,h,_⟩:=gd (step:=lw ms e) (P:=λs=>∃i:Nat,s.2=i∧i≤ms.length∧s.1.length≤i) (Q:=λ_=>True) (λs=>((ms.length:Int) - s.2).toNat) (λs a=>by obtain⟨x,z⟩:=s;obtain⟨i,b,c,c⟩:=a;simp only at b c;subst b;unfold lw;simp only;by_cases a:i<ms.length;have b:decide ((i:Int)<(ms.length:Int))=true:=wg (by omega);rw[b,wd,el a];simp only[aC,mY];(cases (z0 ms[i] e).2 != 0 with|true=>exact .inl ⟨_,rfl,trivial⟩|false=>have a:c7=17179869184:=rfl;rw[wc,bb (by rw[a];simp;omega),bA (by omega)];simp only[aC];exact .inr ⟨_,rfl,⟨i+1,by simp only;omega,by omega,by simp;omega⟩,by simp only;omega⟩);have b:decide ((i:Int)<(ms.length:Int))=false:=wk (by omega);rw[b,wc];exact .inl ⟨_,rfl,trivial⟩) (s:=([],0)) ⟨0,rfl,by omega,by simp⟩;exact⟨r,h⟩
theorem sj {ms nonces:List (List Int)} {e:Int} {p:List Int} (a:∀x∈nonces,x.length=16) (b:ms.length<2^30):∃r,bP ms e nonces p=some r:=by unfold bP;show∃r,(((Loop.run (lw ms e) ([],0)).bind _).bind _)=some r;obtain⟨q,c⟩:=uQ (ms:=ms) (e:=e) b;rw[c];cases q with|inr z=>exact⟨_,rfl⟩|inl b=>obtain⟨r,c⟩:=uP (keys:=b) (nonces:=nonces) (p:=p) a;show∃r,(cw b nonces p).bind _=some r;rw[c];exact⟨_,rfl⟩
end Go.Proofs.YtkjlhdndbdenaaaGreatDoor

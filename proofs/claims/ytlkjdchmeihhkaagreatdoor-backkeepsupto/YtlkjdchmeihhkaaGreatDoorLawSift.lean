import Derived.Test.YtlkjdchmeihhkaaGreatDoorLawPeel
set_option autoImplicit true
set_option relaxedAutoImplicit true
set_option linter.all false
set_option maxRecDepth 20000
set_option maxHeartbeats 1000000
namespace Go.Proofs.YtlkjdchmeihhkaaGreatDoor
open Go Go.Sim
open Go.IntKind (wrap)
variable [Fu]
theorem xU {R:Type} {step:Int→Option (md Int R)} {p:Nat→Bool} {good:R} {bad:Nat→R} {s0:Int} (b:Bool) (n:Nat) (hb:b=true↔∃i,i<n∧p i=true) (h:∀i:Nat,i<n→step (i:Int)=some (bif p i then .done (bad i) else .next ((i+1:Nat):Int))) (hn:step (n:Int)=some (.done good)) (h0:s0=0): ∃r,Loop.run step s0=some r∧(b=false→r=good)∧(b=true→∃i,i<n∧r=bad i):=by subst h0;(have key:∀k a,n - a=k→a≤n→(∃i,a≤i∧i<n∧p i=true∧Loop.run step (a:Int)=some (bad i))∨((¬∃i,a≤i∧i<n∧p i=true)∧Loop.run step (a:Int)=some good):=by intro k;induction k with|zero=>intro a h1 h2;(have:a=n:=by omega);subst this;exact .inr ⟨λ⟨i,h4,h5,_⟩=>by omega,Km hn⟩|succ k ih=>intro a h1 h2;have hs:=h a (by omega);cases hp:p a with|true=>rw[hp,Gy] at hs;exact .inl ⟨a,GZ _,by omega,hp,Km hs⟩|false=>rw[hp,Gx] at hs;rw[Kx hs];rcases ih (a+1) (by omega) (by omega) with⟨i,i1,i2,i3,i4⟩|⟨i1,i2⟩;exact .inl ⟨i,by omega,i2,i3,i4⟩;refine .inr ⟨λ⟨i,h4,h5,h6⟩=>i1 ⟨i,?_,h5,h6⟩,i2⟩;(have:i≠a:=λe=>by rw[e,hp] at h6;cases h6);omega);rcases key _ 0 rfl (by omega) with⟨i,i1,i2,i3,i4⟩|⟨i1,i2⟩;exact⟨_,i4,λhf=>(by have:=hb.2 ⟨i,i2,i3⟩;rw[hf] at this;cases this),λ_=>⟨i,i2,rfl⟩⟩;exact⟨_,i2,λ_=>rfl,λht=>by obtain⟨i,j1,j2⟩:=hb.1 ht;exact absurd ⟨i,by omega,j1,j2⟩ i1⟩
def Pf (a:List (List Int)) (t:List Int):Bool:=a.any λx=>x==t
def PN (w:aA) (t:List Int):Bool:=w.Epochs.any λe=>Pf e.Tags t
structure zo (w:aA):Prop where
 eps:w.Epochs.length≤1048576
 tags:∀e∈w.Epochs,e.Tags.length≤1048576
theorem CC {α:Type} {xs:List α} {p:α→Bool} (d:α):xs.any p=true↔∃i,i<xs.length∧p (xs.getD i d)=true:=by rw[List.any_eq_true];constructor;rintro⟨x,a,h⟩;obtain⟨i,b,rfl⟩:=Ii a;exact⟨i,b,by simpa[b] using h⟩;rintro⟨i,b,h⟩;exact⟨xs[i],GV b,by simpa[b] using h⟩
theorem AJ {ts:List (List Int)} {t:List Int} (hl:ts.length≤1048576):gO ts t=some (Pf ts t):=by
 unfold gO ko
 obtain⟨r,h1,h2,h3⟩:=xU (step:=(λx29=>
  bif decide (x29<(ts.length:Int)) then
   (idx ts x29).bind λx37=>
   bif t==x37 then
    some (.done (.inr x29))
   else
    some (.next (wrap .i64 (x29+1)))
  else
   some (.done (.inl ())) : Int → Option (md Int (Unit ⊕ Int)))) (p := λi => ts.getD i [] == t) (good := .inl ()) (bad := λi => .inr (i : Int)) (Pf ts t) ts.length (CC []) (by
   intro i hi
   have h1:decide ((i:Int)<(ts.length:Int))=true:=Gz (by omega)
   rw[h1,Gy,dV [] rfl hi]
   simp only[aF]
   have e:(t==ts.getD i [])=(ts.getD i []==t):=Bool.beq_comm
   rw[e,wrap64 (by omega)];cases ts.getD i []==t<;>rfl) (jt (GA (by omega))) rfl
 rw[h1]
 cases hc:Pf ts t with
 |true=>obtain⟨i,_,rfl⟩:=h3 hc;simp
 |false=>rw[h2 hc];rfl
theorem vW {w:aA} (hw:zo w) {t:List Int}:jk w t=some (PN w t):=by
 unfold jk dz dW
 have he:=hw.eps
 obtain⟨r,h1,h2,h3⟩:=xU (step:=(λx29=>
  bif decide (x29<(w.Epochs.length:Int)) then
   (idx w.Epochs x29).bind λx37=>
   (jb x37 t).bind λy40=>
   bif y40 then
    some (.done (.inr x29))
   else
    some (.next (wrap .i64 (x29+1)))
  else
   some (.done (.inl ())) : Int → Option (md Int (Unit ⊕ Int)))) (p := λi => Pf (w.Epochs.getD i ⟨0, []⟩).Tags t) (good := .inl ()) (bad := λi => .inr (i : Int)) (PN w t) w.Epochs.length (CC (xs := w.Epochs) (p := λe => Pf e.Tags t) ⟨0, []⟩) (by
   intro i hi
   have h1:decide ((i:Int)<(w.Epochs.length:Int))=true:=Gz (by omega)
   rw[h1,Gy,dV ⟨0,[]⟩ rfl hi]
   simp only[aF]
   have ht:=hw.tags _ (GV hi)
   have e:w.Epochs.getD i ⟨0,[]⟩=w.Epochs[i]:=by simp[hi]
   unfold jb
   rw[e,AJ ht]
   simp only[aF]
   rw[wrap64 (by omega)];cases Pf w.Epochs[i].Tags t<;>rfl) (jt (GA (by omega))) rfl
 rw[h1]
 cases hc:PN w t with
 |true=>obtain⟨i,_,rfl⟩:=h3 hc;simp
 |false=>rw[h2 hc];rfl
theorem lk (c:aW):∃b,ef c=some b:=by unfold ef;(have h:∀(x a b e:Int) (y:Bool),∃z,(bif y then(dj x a b).bind λd=>some d else some false:Option Bool)=some z:=λx a b e y=>by cases y<;>exact⟨_,rfl⟩);obtain⟨a,d⟩:=h c.Left 1 8 0 ((c.Master.length:Int)==32);rw[d];simp only[aF];obtain⟨d,e⟩:=h c.Span 1 8 0 a;rw[e];simp only[aF];obtain⟨a,e⟩:=h c.Room 0 4096 0 d;rw[e];simp only[aF];obtain⟨z4,d⟩:=h c.Den 1 1000 0 a;rw[d];simp only[aF];obtain⟨a,d⟩:=h c.Num 0 c.Den 0 z4;rw[d];simp only[aF];obtain⟨d,e⟩:=h c.Noise 0 16 0 a;rw[e];simp only[aF];obtain⟨a,e⟩:=h c.Chunks 1 64 0 d;rw[e];simp only[aF];obtain⟨d,e⟩:=h c.Workers 1 64 0 a;rw[e];simp only[aF];obtain⟨a,e⟩:=h c.Cap 0 1024 0 d;rw[e];simp only[aF];obtain⟨f,d⟩:=h c.Shards 1 64 0 a;rw[d];exact⟨_,rfl⟩
theorem jJ {α β:Type} [BEq α] [LawfulBEq α] {x y:α} {v:β} (h:(x==y)=false):∀{ps:List (α×β)},gL x (cH y v ps)=gL x ps|[]=>by simp[cH,gL,h]|p::ps=>by unfold cH;cases a:(y==p.1) with|true=>have:=J4 a;simp only[Gy];unfold gL;rw[←this,h];rfl|false=>simp only[Gx];unfold gL;rw[jJ h]
section
variable (P:Nat→bd×Int) (w:aA)
def C_ (i:Nat):Bool:=(P i).2==0
def pC (i:Nat):List Int:=(P i).1.Replay
def Ol (r:List Int) (i:Nat):Bool:=(List.range i).any λk=>C_ P k&&pC P k==r
def OI (i:Nat):Bool:=PN w (pC P i)||Ol P (pC P i) i
def vX (s:List bd×aK) (i:Nat):List bd×aK:=bif C_ P i then(bif OI P w i then(s.1,{s.2 with Replays:=wrap .i64 (s.2.Replays+1)}) else(s.1++[(P i).1],s.2)) else(s.1,{s.2 with Malformed:=wrap .i64 (s.2.Malformed+1)})
def u9 (n:Nat):Nat→List bd×aK|0=>([],⟨(n:Int),0,0,0,0⟩)|i+1=>vX P w (u9 n i) i
def fT:Nat→List (List Int×Int)|0=>[]|i+1=>bif C_ P i then cH (pC P i) (wrap .i64 (dm (pC P i) (fT i) 0+1)) (cH (pC P i) (dm (pC P i) (fT i) 0) (fT i)) else fT i
theorem xV (r:List Int) (i:Nat):Ol P r (i+1)=(Ol P r i||(C_ P i&&pC P i==r)):=by unfold Ol;rw[JR,List.any_append];simp
theorem vY:∀(i:Nat) (r:List Int),i<2^40→0≤dm r (fT P i) 0∧dm r (fT P i) 0≤i∧(decide (dm r (fT P i) 0>0)=Ol P r i)|0,r,_=>by simp[fT,dm,gL,Ol]|i+1,r,h=>by obtain⟨a,b,b⟩:=vY i r (by omega);unfold fT;rw[xV];cases c:C_ P i with|false=>simp only[Gx,J1,IC];exact⟨a,by omega,b⟩|true=>simp only[Gy,HK];by_cases c:pC P i=r;subst c;(have e:dm (pC P i) (cH (pC P i) (wrap .i64 (dm (pC P i) (fT P i) 0+1)) (cH (pC P i) (dm (pC P i) (fT P i) 0) (fT P i))) 0=dm (pC P i) (fT P i) 0+1:=by rw[rp,wrap64 (by omega)]);refine⟨by rw[e];omega,by rw[e];omega,?_⟩;simp only[e];simp;omega;have d:(pC P i==r)=false:=Ju c;have f:(r==pC P i)=false:=Ju λe=>c e.symm;(have e:dm r (cH (pC P i) (wrap .i64 (dm (pC P i) (fT P i) 0+1)) (cH (pC P i) (dm (pC P i) (fT P i) 0) (fT P i))) 0=dm r (fT P i) 0:=by unfold dm;rw[jJ f,jJ f]);refine⟨by rw[e];exact a,by rw[e];omega,?_⟩;simp only[e];rw[d,IC];exact b
theorem Ev (n:Nat):∀i,(u9 P w n i).1.length≤i|0=>by simp[u9]|i+1=>by have:=Ev n i;unfold u9 vX;cases C_ P i<;>cases OI P w i<;>simp<;>omega
end
noncomputable def sj (c:aW) (w:aA) (b:bg):List bd×aK×Int:=bif !((ef c).getD false) then([],⟨0,0,0,0,0⟩,210) else bif (kL c.Master b.Header.Epoch).2 != 0 then([],⟨0,0,0,0,0⟩,(kL c.Master b.Header.Epoch).2) else((u9 (λi=>jI (kL c.Master b.Header.Epoch).1 c.Left (b.Cells.getD i [])) w b.Cells.length b.Cells.length).1,(u9 (λi=>jI (kL c.Master b.Header.Epoch).1 c.Left (b.Cells.getD i [])) w b.Cells.length b.Cells.length).2,0)
theorem B5 {c:aW} {w:aA} {b:bg} (hw:zo w) (hc:∀x∈b.Cells,bW x) (hn:b.Cells.length<2^30):jl c w b=some (sj c w b):=by unfold jl sj;obtain⟨rb,hr⟩:=lk c;rw[hr];simp only[aF,Hi];cases rb with|false=>rfl|true=>simp only[G9,Gx];rw[sZ];simp only[aF];cases hk:((kL c.Master b.Header.Epoch).2 != 0) with|true=>rfl|false=>simp only[Gx];have hkl:=vO (key:=c.Master) (e:=b.Header.Epoch) (by simpa using hk);generalize (kL c.Master b.Header.Epoch).1=key at*;obtain⟨Q,hQ⟩:∃Q:Nat→bd×Int,Q=λi=>jI key c.Left (b.Cells.getD i []):=⟨_,rfl⟩;(have hpe:∀i (hi:i<b.Cells.length),gF key c.Left (b.Cells.getD i [])=some (Q i):=λi hi=>by rw[hQ];(have e:b.Cells.getD i []=b.Cells[i]:=by simp[hi]);show _=some (jI key c.Left (b.Cells.getD i []));rw[e,vF (by omega) (hc _ (GV hi))]);rw[←hQ];rw[cb (λi=>((u9 Q w b.Cells.length i).1,(i:Int),(u9 Q w b.Cells.length i).2,fT Q i)) 0 b.Cells.length (r:=((u9 Q w b.Cells.length b.Cells.length).2,(u9 Q w b.Cells.length b.Cells.length).1)) (by omega) ?_ (jt (GA (by show¬(b.Cells.length:Int)<(b.Cells.length:Int);omega))) (by rfl)];rfl;intro i _ hi;have h1:decide ((i:Int)<(b.Cells.length:Int))=true:=Gz (by omega);simp only[h1,Gy];rw[dV [] rfl hi];simp only[aF];rw[hpe i hi];simp only[aF];obtain⟨s1,s2,s3⟩:=vY Q i (pC Q i) (by omega);have hlen:=Ev Q w b.Cells.length i;have hst:u9 Q w b.Cells.length (i+1)=vX Q w (u9 Q w b.Cells.length i) i:=rfl;have hse:fT Q (i+1)=bif C_ Q i then cH (pC Q i) (wrap .i64 (dm (pC Q i) (fT Q i) 0+1)) (cH (pC Q i) (dm (pC Q i) (fT Q i) 0) (fT Q i)) else fT Q i:=rfl;rw[hst,hse,wrap64 (x:=(i:Int)+1) (by omega)];generalize u9 Q w b.Cells.length i=st at*;generalize fT Q i=se at*;unfold vX OI;have ho:((Q i).2 != 0)= !C_ Q i:=rfl;rw[ho];cases C_ Q i with|false=>rfl|true=>have hrp:(Q i).1.Replay=pC Q i:=rfl;simp only[G9,Gx,Gy];rw[hrp,vW hw,s3];cases Ol Q (pC Q i) i with|true=>rw[JD];rfl|false=>rw[IC];simp only[Gx,aF];cases PN w (pC Q i) with|true=>rfl|false=>simp only[Gx];rw[cf (by simp[dC];omega)];rfl
end Go.Proofs.YtlkjdchmeihhkaaGreatDoor

import Derived.Test.YtobbmodjdkcdcaaGreatDoorLawRead
import Derived.Test.YtobbmodjdkcdcaaGreatDoorLawRiff
import Derived.Test.YtobbmodjdkcdcaaGreatDoorLawNoise
import Derived.Test.YtobbmodjdkcdcaaGreatDoorLawSift
import Derived.Test.YtobbmodjdkcdcaaGreatDoorLawWinP
set_option autoImplicit true
set_option relaxedAutoImplicit true
set_option linter.all false
set_option maxRecDepth 20000
set_option maxHeartbeats 1000000
namespace Go.Proofs.YtobbmodjdkcdcaaGreatDoor
open Go Go.Sim
variable [Fu]
theorem wX {a:Bool} {p q:aH×Int} (h:(bif a then p else q).2=0) (hp:p.2≠0):(bif a then p else q)=q∧q.2=0:=by cases a with|true=>exact absurd h hp|false=>exact⟨rfl,h⟩
theorem BG {key:List Int} {l:Int} {c:List Int} (h:(jO key l c).2=0):(jO key l c).1.Replay.length=16∧aT (jO key l c).1.Replay:=by unfold jO at h⊢;obtain⟨e1,h1⟩:=wX h (by simp);rw[e1];cases h2:(Rd c (bQ l)).2 != 0 with|true=>rw[h2,Hn] at h1;simp only at h1;rw[h1] at h2;cases h2|false=>rw[h2,Hm] at h1;simp only[Hm];unfold Bq at h1⊢;obtain⟨e3,h3⟩:=wX h1 (by simp);rw[e3];obtain⟨e4,h4⟩:=wX h3 (by simp);rw[e4];simp only;exact⟨Ea _ _,vc _ _⟩
section
variable {P:Nat→aH×Int} {w:aA}
theorem Fa (hP:∀i,(P i).2=0→(P i).1.Replay.length=16∧aT (P i).1.Replay) (n:Nat):∀i,∀p∈(QZ P w n i).1,p.Replay.length=16∧aT p.Replay|0=>λp hp=>(by cases hp)|i+1=>λp hp=>by have ih:=Fa hP n i;unfold QZ sg at hp;cases ho:SD P i with|false=>rw[ho] at hp;exact ih p hp|true=>rw[ho] at hp;simp only[Hn] at hp;cases hh:Sv P w i with|true=>rw[hh] at hp;exact ih p hp|false=>rw[hh] at hp;simp only[Hm] at hp;rcases HO.1 hp with hp|hp;exact ih p hp;have:=Iv.1 hp;subst this;exact hP i (by simpa[SD] using ho)
theorem Fb (n:Nat):∀i,i<2^30→((QZ P w n i).1.length:Int)+(QZ P w n i).2.Malformed+(QZ P w n i).2.Replays=i∧0≤(QZ P w n i).2.Malformed∧0≤(QZ P w n i).2.Replays∧(QZ P w n i).2.In=n∧(QZ P w n i).2.Noise=0∧(QZ P w n i).2.Out=0|0,_=>by simp[QZ]|i+1,hi=>by obtain⟨a,b,c,d,e,f⟩:=Fb n i (by omega);unfold QZ sg;generalize QZ P w n i=st at*;cases SD P i with|false=>simp only[Hm];rw[wrap64 (by omega)];exact⟨by omega,by omega,c,d,e,f⟩|true=>cases Sv P w i with|true=>simp only[Hn];rw[wrap64 (by omega)];exact⟨by omega,b,by omega,d,e,f⟩|false=>simp only[Hn,Hm];refine⟨?_,b,c,d,e,f⟩;simp only[Hu,List.length_singleton];omega
end
theorem dY.ofEp {w:aA} (hw:dY w) {e:aE} (he:e∈w.Epochs):e.Tags.length≤1048576:=by obtain⟨i,hi,rfl⟩:=List.mem_iff_getElem.1 he;exact Iq (tP hi) hw.len
theorem dY.small {w:aA} (hw:dY w):uz w:=⟨hw.eps,λe he=>hw.ofEp he⟩
theorem Aj {s:aM} (hw:dY s.Window):jW s=some s:=by unfold jW ig;have hl:=hw.eps;rw[aW (by rw[cR];simp;omega)];simp only[aB,HM];rw[aY (s0:=(0,s.Window.Epochs)) (r:=s) (λi=>((i:Int),s.Window.Epochs)) 0 s.Window.Epochs.length (HH _) ?_ ?_ rfl];rfl;intro i _ hi;have h1:decide ((i:Int)<(s.Window.Epochs.length:Int))=true:=Ho (by omega);simp only[h1,Hn];have hx:=hw.ofEp (HG hi);rw[cq hi];simp only[aB];rw[BQ hx];simp only[aB];rw[wrap64 (by omega),Hq];(have:s.Window.Epochs.set i {s.Window.Epochs[i] with Tags:=s.Window.Epochs[i].Tags}=s.Window.Epochs:=by show s.Window.Epochs.set i s.Window.Epochs[i]=_;simp);rw[this];rfl;have h1:decide ((s.Window.Epochs.length:Int)<(s.Window.Epochs.length:Int))=false:=Hp (by omega);simp only[h1,Hm]
theorem yl {s:aM} (hw:dY s.Window) (e a:Int):dm s e a=some ⟨[],s,⟨0,0,0,0,0⟩,e,a⟩:=by unfold dm;rw[Aj hw];simp only[aB]
theorem BH {c:aP} {s:aM} (hw:dY s.Window):∃z,gl c s=some z∧(z=0↔eh c=some true∧0≤s.Next∧s.Next≤4611686018427387904∧c1 c.Span c.Room=true∧VW s.Window c.Span c.Room):=by obtain⟨b,hb⟩:=qd c;unfold gl;rw[hb];simp only[aB];cases hc:((!b)||(decide (s.Next<0)))||(decide (s.Next>4611686018427387904)) with|true=>refine⟨210,rfl,Iff.intro (λh=>absurd h (by decide)) (λh=>?_)⟩;obtain⟨h1,h2,h3,_⟩:=h;cases h1;simp at hc;omega|false=>simp only[Hz,Hy] at hc;obtain⟨⟨a,e⟩,f⟩:=hc;(have d:b=true:=by simpa using a);subst d;simp only[Hm];rw[nm hw];simp only[aB];have key:=zf hw (s:=c.Span) (r:=c.Room);cases hk:(c1 c.Span c.Room&&c2 s.Window c.Room&&c3 s.Window&&kT (TG s.Window c.Span) s.Window.Epochs.length 0) with|true=>exact⟨0,rfl,Iff.intro (λ_=>⟨trivial,by omega,by omega,key.1 hk⟩) (λ_=>rfl)⟩|false=>refine⟨210,rfl,Iff.intro (λh=>absurd h (by decide)) (λh=>?_)⟩;have:=key.2 ⟨h.2.2.2.1,h.2.2.2.2⟩;rw[hk] at this;cases this
end Go.Proofs.YtobbmodjdkcdcaaGreatDoor

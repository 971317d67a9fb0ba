import Derived.Test.YtobbmodjdkcdcaaGreatDoorLawRead
import Derived.Test.YtobbmodjdkcdcaaGreatDoorLawRiff
import Derived.Test.YtobbmodjdkcdcaaGreatDoorLawNoise
import Derived.Test.YtobbmodjdkcdcaaGreatDoorLawSift
import Derived.Test.YtobbmodjdkcdcaaGreatDoorLawWinP
set_option linter.all false
set_option maxRecDepth 20000
set_option maxHeartbeats 1000000
namespace Go.Proofs.YtobbmodjdkcdcaaGreatDoor
open Go Go.Sim
variable [Fu]
theorem uF {a:Bool} {p q:ai×Int} (h:(bif a then p else q).2=0) (hp:p.2≠0):(bif a then p else q)=q∧q.2=0:=by cases a with|true=>exact absurd h hp|false=>exact⟨rfl,h⟩
theorem zz {key:List Int} {l:Int} {c:List Int} (h:(fW key l c).2=0):(fW key l c).1.Replay.length=16∧aL (fW key l c).1.Replay:=by unfold fW at h⊢;obtain⟨e1,h1⟩:=uF h (by simp);rw[e1];cases h2:(cutS c (bo l)).2 != 0 with|true=>rw[h2,FJ] at h1;simp only at h1;rw[h1] at h2;cases h2|false=>rw[h2,FI] at h1;simp only[FI];unfold Bv at h1⊢;obtain⟨e3,h3⟩:=uF h1 (by simp);rw[e3];obtain⟨e4,h4⟩:=uF h3 (by simp);rw[e4];simp only;exact⟨Cp _ _,sL _ _⟩
section
variable {P:Nat→ai×Int} {w:ae}
theorem Dt (hP:∀i,(P i).2=0→(P i).1.Replay.length=16∧aL (P i).1.Replay) (n:Nat):∀i,∀p∈(stS P w n i).1,p.Replay.length=16∧aL p.Replay|0=>λp hp=>(by cases hp)|i+1=>λp hp=>by have ih:=Dt hP n i;unfold stS m7 at hp;cases ho:okS P i with|false=>rw[ho] at hp;exact ih p hp|true=>rw[ho] at hp;simp only[FJ] at hp;cases hh:hitS P w i with|true=>rw[hh] at hp;exact ih p hp|false=>rw[hh] at hp;simp only[FI] at hp;rcases Gd.1 hp with hp|hp;exact ih p hp;have:=GA.1 hp;subst this;exact hP i (by simpa[okS] using ho)
theorem Du (n:Nat):∀i,i<2^30→((stS P w n i).1.length:Int)+(stS P w n i).2.Malformed+(stS P w n i).2.Replays=i∧0≤(stS P w n i).2.Malformed∧0≤(stS P w n i).2.Replays∧(stS P w n i).2.In=n∧(stS P w n i).2.Noise=0∧(stS P w n i).2.Out=0|0,_=>by simp[stS]|i+1,hi=>by obtain⟨a,b,c,d,e,f⟩:=Du n i (by omega);unfold stS m7;generalize stS P w n i=st at*;cases okS P i with|false=>simp only[FI];rw[wrap64 (by omega)];exact⟨by omega,by omega,c,d,e,f⟩|true=>cases hitS P w i with|true=>simp only[FJ];rw[wrap64 (by omega)];exact⟨by omega,b,by omega,d,e,f⟩|false=>simp only[FJ,FI];refine⟨?_,b,c,d,e,f⟩;simp only[FM,List.length_singleton];omega
end
theorem dL.ofEp {w:ae} (hw:dL w) {e:aj} (he:e∈w.Epochs):e.Tags.length≤1048576:=by obtain⟨i,hi,rfl⟩:=List.mem_iff_getElem.1 he;exact G7 (uQ hi) hw.len
theorem dL.small {w:ae} (hw:dL w):uJ w:=⟨hw.eps,λe he=>hw.ofEp he⟩
theorem xV {s:aN} (hw:dL s.Window):iJ s=some s:=by unfold iJ fQ;have hl:=hw.eps;rw[aQ (by rw[dq];simp;omega)];simp only[ab,F8];rw[aP (s0:=(0,s.Window.Epochs)) (r:=s) (λi=>((i:Int),s.Window.Epochs)) 0 s.Window.Epochs.length (Gi _) ?_ ?_ rfl];rfl;intro i _ hi;have h1:decide ((i:Int)<(s.Window.Epochs.length:Int))=true:=FK (by omega);simp only[h1,FJ];have hx:=hw.ofEp (F7 hi);rw[cw hi];simp only[ab];rw[Aa hx];simp only[ab];rw[wrap64 (by omega),FP];(have:s.Window.Epochs.set i {s.Window.Epochs[i] with Tags:=s.Window.Epochs[i].Tags}=s.Window.Epochs:=by show s.Window.Epochs.set i s.Window.Epochs[i]=_;simp);rw[this];rfl;have h1:decide ((s.Window.Epochs.length:Int)<(s.Window.Epochs.length:Int))=false:=FL (by omega);simp only[h1,FI]
theorem pZ {s:aN} (hw:dL s.Window) (e a:Int):cy s e a=some ⟨[],s,⟨0,0,0,0,0⟩,e,a⟩:=by unfold cy;rw[xV hw];simp only[ab]
theorem zF {c:aC} {s:aN} (hw:dL s.Window):∃z,eM c s=some z∧(z=0↔cO c=some true∧0≤s.Next∧s.Next≤4611686018427387904∧c1 c.Span c.Room=true∧VW s.Window c.Span c.Room):=by obtain⟨b,hb⟩:=nM c;unfold eM;rw[hb];simp only[ab];cases hc:((!b)||(decide (s.Next<0)))||(decide (s.Next>4611686018427387904)) with|true=>refine⟨210,rfl,Iff.intro (λh=>absurd h (by decide)) (λh=>?_)⟩;obtain⟨h1,h2,h3,_⟩:=h;cases h1;simp at hc;omega|false=>simp only[FU,FW] at hc;obtain⟨⟨c1',c2'⟩,c3'⟩:=hc;(have hb1:b=true:=by simpa using c1');subst hb1;simp only[FI];rw[lJ hw];simp only[ab];have key:=sd hw (s:=c.Span) (r:=c.Room);cases hk:(c1 c.Span c.Room&&c2 s.Window c.Room&&c3 s.Window&&jL (okW s.Window c.Span) s.Window.Epochs.length 0) with|true=>exact⟨0,rfl,Iff.intro (λ_=>⟨trivial,by omega,by omega,key.1 hk⟩) (λ_=>rfl)⟩|false=>refine⟨210,rfl,Iff.intro (λh=>absurd h (by decide)) (λh=>?_)⟩;have:=key.2 ⟨h.2.2.2.1,h.2.2.2.2⟩;rw[hk] at this;cases this
end Go.Proofs.YtobbmodjdkcdcaaGreatDoor

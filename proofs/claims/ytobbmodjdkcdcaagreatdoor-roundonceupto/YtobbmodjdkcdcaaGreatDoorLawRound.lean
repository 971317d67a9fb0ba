import Derived.Test.YtobbmodjdkcdcaaGreatDoorLawRead
import Derived.Test.YtobbmodjdkcdcaaGreatDoorLawRiff
import Derived.Test.YtobbmodjdkcdcaaGreatDoorLawNoise
import Derived.Test.YtobbmodjdkcdcaaGreatDoorLawSift
import Derived.Test.YtobbmodjdkcdcaaGreatDoorLawWinP
set_option linter.all false
set_option maxRecDepth 20000
set_option maxHeartbeats 1000000
namespace Go.Proofs.YtobbmodjdkcdcaaGreatDoor
open Go Go.Sim
variable [Fu]
theorem uY {a:Bool} {p q:ai×Int} (h:(bif a then p else q).2=0) (hp:p.2≠0):(bif a then p else q)=q∧q.2=0:=by cases a with|true=>exact absurd h hp|false=>exact⟨rfl,h⟩
theorem Af {key:List Int} {l:Int} {c:List Int} (h:(fZ key l c).2=0):(fZ key l c).1.Replay.length=16∧aH (fZ key l c).1.Replay:=by unfold fZ at h⊢;obtain⟨e1,h1⟩:=uY h (by simp);rw[e1];cases h2:(cutS c (bi l)).2 != 0 with|true=>rw[h2,cond_true] at h1;simp only at h1;rw[h1] at h2;cases h2|false=>rw[h2,cond_false] at h1;simp only[cond_false];unfold BX at h1⊢;obtain⟨e3,h3⟩:=uY h1 (by simp);rw[e3];obtain⟨e4,h4⟩:=uY h3 (by simp);rw[e4];simp only;exact⟨CY _ _,sY _ _⟩
section
variable {P:Nat→ai×Int} {w:ae}
theorem D1 (hP:∀i,(P i).2=0→(P i).1.Replay.length=16∧aH (P i).1.Replay) (n:Nat):∀i,∀p∈(stS P w n i).1,p.Replay.length=16∧aH p.Replay|0=>λp hp=>(by cases hp)|i+1=>λp hp=>by have ih:=D1 hP n i;unfold stS nj at hp;cases ho:okS P i with|false=>rw[ho] at hp;exact ih p hp|true=>rw[ho] at hp;simp only[cond_true] at hp;cases hh:hitS P w i with|true=>rw[hh] at hp;exact ih p hp|false=>rw[hh] at hp;simp only[cond_false] at hp;rcases List.mem_append.1 hp with hp|hp;exact ih p hp;have:=List.mem_singleton.1 hp;subst this;exact hP i (by simpa[okS] using ho)
theorem Br (n:Nat):∀i,i<2^30→((stS P w n i).1.length:Int)+(stS P w n i).2.Malformed+(stS P w n i).2.Replays=i∧0≤(stS P w n i).2.Malformed∧0≤(stS P w n i).2.Replays∧(stS P w n i).2.In=n∧(stS P w n i).2.Noise=0∧(stS P w n i).2.Out=0|0,_=>by simp[stS]|i+1,hi=>by obtain⟨a,b,c,d,e,f⟩:=Br n i (by omega);unfold stS nj;generalize stS P w n i=st at*;cases okS P i with|false=>simp only[cond_false];rw[wrap64 (by omega)];exact⟨by omega,by omega,c,d,e,f⟩|true=>cases hitS P w i with|true=>simp only[cond_true];rw[wrap64 (by omega)];exact⟨by omega,b,by omega,d,e,f⟩|false=>simp only[cond_true,cond_false];refine⟨?_,b,c,d,e,f⟩;simp only[List.length_append,List.length_singleton];omega
end
theorem dp.ofEp {w:ae} (hw:dp w) {e:aj} (he:e∈w.Epochs):e.Tags.length≤1048576:=by obtain⟨i,hi,rfl⟩:=List.mem_iff_getElem.1 he;exact Nat.le_trans (vi hi) hw.len
theorem dp.small {w:ae} (hw:dp w):uZ w:=⟨hw.eps,λe he=>hw.ofEp he⟩
theorem yq {s:aO} (hw:dp s.Window):iR s=some s:=by unfold iR fU;have hl:=hw.eps;rw[aR (by rw[dk];simp;omega)];simp only[ab,List.nil_append];rw[aP (s0:=(0,s.Window.Epochs)) (r:=s) (λi=>((i:Int),s.Window.Epochs)) 0 s.Window.Epochs.length (Nat.zero_le _) ?_ ?_ rfl];rfl;intro i _ hi;have h1:decide ((i:Int)<(s.Window.Epochs.length:Int))=true:=decide_eq_true (by omega);simp only[h1,cond_true];have hx:=hw.ofEp (List.getElem_mem hi);rw[cy hi];simp only[ab];rw[Ap hx];simp only[ab];rw[wrap64 (by omega),Int.toNat_natCast];(have:s.Window.Epochs.set i {s.Window.Epochs[i] with Tags:=s.Window.Epochs[i].Tags}=s.Window.Epochs:=by show s.Window.Epochs.set i s.Window.Epochs[i]=_;simp);rw[this];rfl;have h1:decide ((s.Window.Epochs.length:Int)<(s.Window.Epochs.length:Int))=false:=decide_eq_false (by omega);simp only[h1,cond_false]
theorem qq {s:aO} (hw:dp s.Window) (e a:Int):cz s e a=some ⟨[],s,⟨0,0,0,0,0⟩,e,a⟩:=by unfold cz;rw[yq hw];simp only[ab]
theorem mN {c:au} {s:aO} (hw:dp s.Window):∃z,dq c s=some z∧(z=0↔cp c=some true∧0≤s.Next∧s.Next≤4611686018427387904∧c1 c.Span c.Room=true∧VW s.Window c.Span c.Room):=by obtain⟨b,hb⟩:=nW c;unfold dq;rw[hb];simp only[ab];cases hc:((!b)||(decide (s.Next<0)))||(decide (s.Next>4611686018427387904)) with|true=>refine⟨210,rfl,Iff.intro (λh=>absurd h (by decide)) (λh=>?_)⟩;obtain⟨h1,h2,h3,_⟩:=h;cases h1;simp at hc;omega|false=>simp only[Bool.or_eq_false_iff,decide_eq_false_iff_not] at hc;obtain⟨⟨c1',c2'⟩,c3'⟩:=hc;(have hb1:b=true:=by simpa using c1');subst hb1;simp only[cond_false];rw[lT hw];simp only[ab];have key:=sE hw (s:=c.Span) (r:=c.Room);cases hk:(c1 c.Span c.Room&&c2 s.Window c.Room&&c3 s.Window&&jS (okW s.Window c.Span) s.Window.Epochs.length 0) with|true=>exact⟨0,rfl,Iff.intro (λ_=>⟨trivial,by omega,by omega,key.1 hk⟩) (λ_=>rfl)⟩|false=>refine⟨210,rfl,Iff.intro (λh=>absurd h (by decide)) (λh=>?_)⟩;have:=key.2 ⟨h.2.2.2.1,h.2.2.2.2⟩;rw[hk] at this;cases this
end Go.Proofs.YtobbmodjdkcdcaaGreatDoor

import Derived.Test.YtobbmodjdkcdcaaGreatDoorLawAlike
set_option linter.all false
set_option maxRecDepth 20000
set_option maxHeartbeats 1000000
namespace Go.Proofs.YtobbmodjdkcdcaaGreatDoor
open Go Go.Sim
variable [Fu]
theorem wL {t:List Int} {c:Int} {xs:List (List Int)} (h:(ek t c xs).2=0): (eu t xs.length c).2=0∧(eu t xs.length c).1.length=xs.length∧oQ (eu t xs.length c).1=true∧(ek t c xs).1=sZ (eu t xs.length c).1 xs:=by unfold ek at h⊢;cases h1:(eu t xs.length c).2 != 0 with|true=>rw[h1,cond_true] at h;simp only at h;rw[h] at h1;cases h1|false=>rw[h1,cond_false] at h;simp only[cond_false];cases h2:decide ((eu t xs.length c).1.length≠xs.length)|| !oQ (eu t xs.length c).1 with|true=>rw[h2,cond_true] at h;cases h|false=>simp only[Bool.or_eq_false_iff,decide_eq_false_iff_not,ne_eq,Decidable.not_not] at h2;exact⟨by simpa using h1,h2.1,by simpa using h2.2,rfl⟩
theorem E8 {p:List Int} (h:oQ p=true) {i:Nat} (hi:i<p.length):0≤p.getD i 0∧p.getD i 0<p.length:=by have:=eR.1 h i (Nat.zero_le _) (by omega);unfold fitP at this;simp only[Bool.and_eq_true,decide_eq_true_eq] at this;exact this.1
theorem E9 {c:au} {s:aO} {w2:ae} {ep:Int} {tags:List (List Int)} (hw:dp s.Window) (hep:gInt .i64 ep) (ht:∀t∈tags,t.length=16∧aH t) (hadd:addW (fW s.Window ep c.Span).1 ep tags c.Room=(w2,0)) {t:List Int} (h:t∈tags):t∈bZ w2:=by have hw1:=mg hw hep (s:=c.Span);generalize (fW s.Window ep c.Span).1=w1 at*;(have h2:(addW w1 ep tags c.Room).2=0:=by rw[hadd]);obtain⟨_,_,hp⟩:=vF hw1 (r:=c.Room) ht h2;rw[hadd] at hp;have hp:w2=put w1 ep tags:=hp;rw[hp];exact vz.2 (.inr h)
end Go.Proofs.YtobbmodjdkcdcaaGreatDoor

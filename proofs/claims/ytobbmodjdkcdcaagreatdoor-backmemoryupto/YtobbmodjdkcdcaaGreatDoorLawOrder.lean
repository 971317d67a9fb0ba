import Derived.Test.YtobbmodjdkcdcaaGreatDoorLawAlike
set_option linter.unusedVariables false
set_option linter.unusedSimpArgs false
set_option linter.unusedSectionVars false
set_option maxRecDepth 20000
set_option maxHeartbeats 1000000
namespace Go.Proofs.YtobbmodjdkcdcaaGreatDoor
open Go Go.Sim
variable [Fu]
theorem nj {t:List Int} {c:Int} {xs:List (List Int)} (h:(hZ t c xs).2=0):
  (cW t xs.length c).2=0∧(cW t xs.length c).1.length=xs.length∧mn (cW t xs.length c).1=true∧(hZ t c xs).1=pc (cW t xs.length c).1 xs:=by
 unfold hZ at h⊢
 cases h1:(cW t xs.length c).2 != 0 with
 |true=>rw[h1,cond_true] at h;simp only at h;rw[h] at h1;cases h1
 |false=>
  rw[h1,cond_false] at h
  simp only[cond_false]
  cases h2:decide ((cW t xs.length c).1.length≠xs.length)|| !mn (cW t xs.length c).1 with
  |true=>rw[h2,cond_true] at h;cases h
  |false=>
   simp only[Bool.or_eq_false_iff,decide_eq_false_iff_not,ne_eq,Decidable.not_not] at h2
   exact⟨by simpa using h1,h2.1,by simpa using h2.2,rfl⟩
theorem pa {p:List Int} (h:mn p=true) {i:Nat} (hi:i<p.length):0≤p.getD i 0∧p.getD i 0<p.length:=by
 have:=dO.1 h i (Nat.zero_le _) (by omega)
 unfold fitP at this
 simp only[Bool.and_eq_true,decide_eq_true_eq] at this
 exact this.1
end Go.Proofs.YtobbmodjdkcdcaaGreatDoor

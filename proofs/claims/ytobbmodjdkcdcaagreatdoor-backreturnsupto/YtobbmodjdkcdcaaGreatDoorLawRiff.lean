import Derived.Test.YtobbmodjdkcdcaaGreatDoorLawBraid2
set_option linter.unusedVariables false
set_option linter.unusedSimpArgs false
set_option maxRecDepth 20000
namespace Go.Proofs.YtobbmodjdkcdcaaGreatDoor
open Go Go.Sim
set_option linter.unusedSectionVars false
variable [Fu]
structure Read where
 parts:aQ
 sizes:List Int
 pk:List (Nat×Int)
 perms:List (List Int)
theorem fD {x:List Int} (h:aS x) (n:Nat):aS (x.take n):=fun b hb=>h b (List.mem_of_mem_take hb)
theorem l9 {x:List Int} (h:aS x) (n:Nat):aS (x.drop n):=fun b hb=>h b (List.mem_of_mem_drop hb)
structure Bb (t:List Int) (n c:Int) (r:Read):Prop where
 n0:0≤n∧n≤256
 c0:1≤c∧c≤64
 sizes:r.sizes=AQ n.toNat c.toNat
 pk:r.pk.length=n.toNat
 perms:r.perms.length=c.toNat∧∀j,j<c.toNat→(r.perms.getD j []).length=(r.sizes.getD j 0).toNat
 val:∀k j,0≤(r.perms.getD k []).getD j 0∧(r.perms.getD k []).getD j 0≤256
 at_:∀pre q s,r.pk=pre++q::s→q.1<c.toNat∧(cntP pre q.1:Int)<r.sizes.getD q.1 0
end Go.Proofs.YtobbmodjdkcdcaaGreatDoor

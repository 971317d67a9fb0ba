import Derived.Test.YtdkfkpbijdimkaaGreatDoorLawAes
set_option linter.unusedVariables false
set_option linter.unusedSimpArgs false
set_option maxRecDepth 20000
namespace Go.Proofs.YtdkfkpbijdimkaaGreatDoor
open Go Go.Sim
set_option linter.unusedSectionVars false
variable [Fu]
def box (x:Int):Int:=boxT.getD x.toNat 0
def table:List Int:=(List.range 256).map fun i:Nat=>box (i:Int)
def acc (co:Nat→Int) (v:Nat→Int) (i:Nat):Nat→Int
 |0=>0
 |j+1=>xorI .u8 (acc co v i j) (mul8 (co ((j+4 - i)%4)) (v j))
end Go.Proofs.YtdkfkpbijdimkaaGreatDoor

import Derived.Test.YtdkfkpbijdimkaaGreatDoorLawBits
import Derived.Test.YtdkfkpbijdimkaaGreatDoorCe3
set_option linter.unusedVariables false
set_option linter.unusedSimpArgs false
set_option maxRecDepth 20000
namespace Go.Proofs.YtdkfkpbijdimkaaGreatDoor
open Go Go.Sim
set_option linter.unusedSectionVars false
variable [Fu]
def rotR (x n:Int):Int:=orI .u32 (shrI .u32 x n) (shlI .u32 x (32 - n))
def g (l:List Int) (i:Nat):Int:=l.getD i 0
def word (b:List Int) (i:Nat):Int:=orI .u32 (orI .u32 (orI .u32 (shlI .u32 (IntKind.u32.wrap (g b (4*i))) 24) (shlI .u32 (IntKind.u32.wrap (g b (4*i+1))) 16)) (shlI .u32 (IntKind.u32.wrap (g b (4*i+2))) 8)) (IntKind.u32.wrap (g b (4*i+3)))
def mixW (w:List Int) (t:Nat):Int:=
 IntKind.wrap .u32 ((IntKind.wrap .u32 ((IntKind.wrap .u32 ((xorI .u32 (xorI .u32 (rotR (g w (t - 2)) 17) (rotR (g w (t - 2)) 19)) (shrI .u32 (g w (t - 2)) 10))+g w (t - 7)))+(xorI .u32 (xorI .u32 (rotR (g w (t - 15)) 7) (rotR (g w (t - 15)) 18)) (shrI .u32 (g w (t - 15)) 3))))+g w (t - 16))
def wAt (b:List Int):Nat→List Int
 |0=>List.replicate 64 0
 |i+1=>(wAt b i).set i (if i<16 then word b i else mixW (wAt b i) i)
def mV (k w:List Int) (i:Nat) (v:List Int):List Int:=
 let one:=IntKind.wrap .u32 ((IntKind.wrap .u32 ((IntKind.wrap .u32 ((IntKind.wrap .u32 (g v 7+(xorI .u32 (xorI .u32 (rotR (g v 4) 6) (rotR (g v 4) 11)) (rotR (g v 4) 25))))+(xorI .u32 (andI .u32 (g v 4) (g v 5)) (andI .u32 (cplI .u32 (g v 4)) (g v 6)))))+g k i))+g w i)
 let two:=IntKind.wrap .u32 ((xorI .u32 (xorI .u32 (rotR (g v 0) 2) (rotR (g v 0) 13)) (rotR (g v 0) 22))+(xorI .u32 (xorI .u32 (andI .u32 (g v 0) (g v 1)) (andI .u32 (g v 0) (g v 2))) (andI .u32 (g v 1) (g v 2))))
 [IntKind.wrap .u32 (one+two),g v 0,g v 1,g v 2,IntKind.wrap .u32 (g v 3+one),g v 4,g v 5,g v 6]
def rAt (k w s:List Int):Nat→List Int
 |0=>s
 |i+1=>mV k w i (rAt k w s i)
def aAt (s v:List Int):Nat→List Int
 |0=>s
 |i+1=>(aAt s v i).set i (IntKind.wrap .u32 (g (aAt s v i) i+g v i))
def blk (k s b:List Int):List Int:=aAt s (rAt k (wAt b 64) s 64) 8
section
variable {s b k m:List Int}
end
end Go.Proofs.YtdkfkpbijdimkaaGreatDoor

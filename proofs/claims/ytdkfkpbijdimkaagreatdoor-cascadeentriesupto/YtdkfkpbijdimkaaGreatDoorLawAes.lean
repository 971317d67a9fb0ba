import Derived.Test.YtdkfkpbijdimkaaGreatDoorLawMac
set_option linter.unusedVariables false
set_option linter.unusedSimpArgs false
set_option maxRecDepth 20000
namespace Go.Proofs.YtdkfkpbijdimkaaGreatDoor
open Go Go.Sim
set_option linter.unusedSectionVars false
variable [Fu]
abbrev b8 (x:Int):BitVec 8:=BitVec.ofInt 8 x
def mstep (s:Int×Int×Int):Int×Int×Int:=
 (bif (andI .u8 s.1 128) != 0 then xorI .u8 (shlI .u8 s.1 1) 27 else shlI .u8 s.1 1,shrI .u8 s.2.1 1,bif (andI .u8 s.2.1 1)==1 then xorI .u8 s.2.2 s.1 else s.2.2)
def mAt (a b:Int):Nat→Int×Int×Int
 |0=>(a,b,0)
 |i+1=>mstep (mAt a b i)
def mul8 (a b:Int):Int:=(mAt a b 8).2.2
def mulN:Nat→Nat→Nat→Nat→Nat
 |0,_,_,c=>c
 |k+1,a,b,c=>mulN k ((a*2)%256^^^(a / 128)*27) (b / 2) (c^^^(b%2)*a)
def invN:Nat→Nat→Nat→Nat
 |0,r,_=>r
 |k+1,r,q=>invN k (mulN 8 r (mulN 8 q q 0) 0) (mulN 8 q q 0)
def rotN (a n:Nat):Nat:=(a*2^n)%256|||a / 2^(8 - n)
def subN (a:Nat):Nat:=let v:=invN 7 1 a;v^^^rotN v 1^^^rotN v 2^^^rotN v 3^^^rotN v 4^^^99
def boxT:List Int:=(List.range 256).map fun a=>((subN a:Nat):Int)
end Go.Proofs.YtdkfkpbijdimkaaGreatDoor

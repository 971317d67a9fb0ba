import Derived.Test.YtkjlhdndbdenaaaGreatDoorLawFrame
set_option autoImplicit true
set_option relaxedAutoImplicit true
set_option linter.all false
set_option maxRecDepth 20000
set_option maxHeartbeats 1000000
namespace Go.Proofs.YtkjlhdndbdenaaaGreatDoor
open Go Go.Sim
open Go.IntKind (wrap)
variable [Fu]
abbrev FS:=(List Int)×(List (List Int))×(List Int)×Int×Int×Int×aB×aF×Int×Int
noncomputable def fu:FS→Option (j_ FS ((List (List Int))×(List Int)×Int×Int×Int×aB×aF×Int×Int)):=λ(a,b,c,d,e,f,h,i,j,k)=>bif j==0 then (bz (⟨c,d,e,f,h,i,j,k⟩:aL)).bind λl=>bif decide ((wrap .i64 (l - (c.length:Int)))>(a.length:Int)) then (app c a).bind λm=>some (.done (b,m,wrap .i64 (d+(a.length:Int)),e,f,h,i,j,k)) else (sub a 0 (wrap .i64 (l - (c.length:Int)))).bind λm=>(app c m).bind λm=>(sub a (wrap .i64 (l - (c.length:Int))) (a.length:Int)).bind λa=>((bif e==7 then (bZ m).bind λn=>(app b [n]).bind λn=>some n else some b :Option (List (List Int)))).bind λn=>(bj (⟨m,wrap .i64 (d+(wrap .i64 (l - (c.length:Int)))),e,f,h,i,j,k⟩:aL)).bind λl=>bif l.1 != 0 then some (.done (n,l.2.field,l.2.at_,l.2.stage,l.2.left,l.2.header,l.2.sum,l.1,wrap .i64 (l.2.at_ - (l.2.field.length:Int)))) else bif decide ((0:Int)≤0∧(0:Int)≤0∧(0:Int)≤(l.2.field.length:Int)) then some (.next (a,n,List.take (Int.toNat 0) l.2.field,l.2.at_,l.2.stage,l.2.left,l.2.header,l.2.sum,l.1,l.2.place)) else none else some (.done (b,c,d,e,f,h,i,j,k))
end Go.Proofs.YtkjlhdndbdenaaaGreatDoor

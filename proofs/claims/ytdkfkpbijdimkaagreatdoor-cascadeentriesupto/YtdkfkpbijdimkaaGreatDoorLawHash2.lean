import Derived.Test.YtdkfkpbijdimkaaGreatDoorLawHash
set_option linter.unusedVariables false
set_option linter.unusedSimpArgs false
set_option maxRecDepth 20000
namespace Go.Proofs.YtdkfkpbijdimkaaGreatDoor
open Go Go.Sim
set_option linter.unusedSectionVars false
variable [Fu]
def IV:List Int:=[1779033703,3144134277,1013904242,2773480762,1359893119,2600822924,528734635,1541459225]
def chunk (m:List Int) (i:Nat):List Int:=(m.drop (64*i)).take 64
def cmp (m:List Int):Nat→List Int
 |0=>IV
 |n+1=>blk glob0 (cmp m n) (chunk m n)
structure HR (h:am) (q:List Int):Prop where
 n:h.n=q.length
 tl:h.tail.length=64
 tail:h.tail.take (q.length%64)=q.drop (64*(q.length / 64))
 words:h.words=cmp q (q.length / 64)
structure HR0 (h:am) (q:List Int):Prop where
 n:h.n=q.length
 tl:h.tail.length=64
 tail:h.tail.take (q.length%64)=q.drop (64*(q.length / 64))
 words:64≤q.length→h.words=cmp q (q.length / 64)
theorem HR.zero {h:am} {q:List Int} (r:HR h q):HR0 h q:=⟨r.n,r.tl,r.tail,fun _=>r.words⟩
end Go.Proofs.YtdkfkpbijdimkaaGreatDoor

import Derived.Test.YtdkfkpbijdimkaaGreatDoorLawOnion
set_option linter.unusedVariables false
set_option linter.unusedSimpArgs false
set_option maxRecDepth 20000
set_option maxHeartbeats 1000000
namespace Go.Proofs.YtdkfkpbijdimkaaGreatDoor
open Go Go.Sim
set_option linter.unusedSectionVars false
variable [Fu]
def HP:List Int:=[99,104,117,114,110,32,104,111,112]
def epL (e:Int):List Int:=(List.range 8).map fun i=>IntKind.wrap .u8 (shrI .i64 e ((56 - 8*i:Nat):Int))
def badK (key:List Int) (e:Int):Bool:=key.length != 32||decide (e<0)||decide (e>4611686018427387904)
def keyS (key:List Int) (e:Int):List Int×Int:=bif badK key e then([],2) else(derS key (epL e) HP 32,0)
theorem i8 {key:List Int} {e:Int}:cJ key e=some (keyS key e):=by
 unfold cJ keyS
 have a:((key.length:Int) != 32)=(key.length != 32):=gX (n:=32)
 have hB:badK key e=(key.length != 32||decide (e<0)||decide (e>4611686018427387904)):=rfl
 rw[a,←hB]
 cases hb:badK key e with
 |true=>rfl
 |false=>
  rw[hB,Bool.or_eq_false_iff,Bool.or_eq_false_iff] at hb
  have hk:key.length=32:=by simpa using hb.1.1
  have g:mkB 8 8=true:=by decide
  have g2:decide (0<[99,104,117,114,110,32,104,111,112].length)=true:=by decide
  simp only[cond_false]
  have hp:[99,104,117,114,110,32,104,111,112]=HP:=rfl
  rw[g,cond_true,g2,hp]
  simp only[cond_true]
  rw[aq (fun i=>(part1 8 (fun i=>IntKind.wrap .u8 (shrI .i64 e ((56 - 8*i:Nat):Int))) (fun _=>0) i,(i:Int))) 0 8 (r:=epL e) (by omega) ?_ ?_ (by rfl)]
  · simp only[aa]
    rw[ii (z:=32) (n:=32) rfl (by omega) (by omega) (by simp[epL]) (by simp[HP])]
    simp only[aa]
  · intro i _ hi
    have h1:decide ((i:Int)<((List.replicate (Int.toNat 8) (0:Int)).length:Int))=true:=decide_eq_true (by simp;omega)
    simp only[h1,cond_true]
    rw[wrap64 (x:=8*(i:Int)) (by omega),wrap64 (x:=56 - 8*(i:Int)) (by omega)]
    have g3:decide (0≤56 - 8*(i:Int))=true:=decide_eq_true (by omega)
    rw[g3,cond_true,aV rfl hi]
    simp only[aa,Int.toNat_natCast]
    have e3:56 - 8*(i:Int)=((56 - 8*i:Nat):Int):=by omega
    rw[wrap64 (by omega),e3,aP (f:=fun i=>IntKind.wrap .u8 (shrI .i64 e ((56 - 8*i:Nat):Int))) hi rfl];rfl
  · have h1:decide (((8:Nat):Int)<((List.replicate (Int.toNat 8) (0:Int)).length:Int))=false:=by decide
    simp only[h1,cond_false]
    rw[bV];rfl
theorem mT {key:List Int} {e:Int}:cn key e=some (keyS key e):=by
 unfold cn keyS
 have a:((key.length:Int) != 32)=(key.length != 32):=gX (n:=32)
 have hB:badK key e=(key.length != 32||decide (e<0)||decide (e>4611686018427387904)):=rfl
 rw[a,←hB]
 cases hb:badK key e with
 |true=>rfl
 |false=>
  rw[hB,Bool.or_eq_false_iff,Bool.or_eq_false_iff] at hb
  have hk:key.length=32:=by simpa using hb.1.1
  have g2:decide (0<[99,104,117,114,110,32,104,111,112].length)=true:=by decide
  simp only[cond_false]
  have hp:[99,104,117,114,110,32,104,111,112]=HP:=rfl
  rw[g2,hp]
  simp only[cond_true]
  rw[aq (fun i=>((List.range i).map (fun i=>IntKind.wrap .u8 (shrI .i64 e ((56 - 8*i:Nat):Int))),56 - 8*(i:Int))) 0 8 (r:=epL e) (by omega) ?_ (bP rfl) (by rfl)]
  · simp only[aa]
    rw[ij (z:=32) (n:=32) rfl (by omega) (by omega) (by simp[epL]) (by simp[HP])]
    simp only[aa]
  · intro i _ hi
    have h1:decide (56 - 8*(i:Int)≥0)=true:=decide_eq_true (by omega)
    simp only[h1,cond_true]
    rw[fA (x:=56 - 8*(i:Int)) (by omega)]
    have g3:decide (0≤56 - 8*(i:Int))=true:=decide_eq_true (by omega)
    rw[g3,cond_true,aN (by simp[room];omega)]
    simp only[aa]
    have e3:56 - 8*(i:Int)=((56 - 8*i:Nat):Int):=by omega
    have e4:((56 - 8*i:Nat):Int) - 8=56 - 8*((i+1:Nat):Int):=by omega
    rw[wrap64 (by omega),e3,e4,List.range_succ,List.map_append];rfl
end Go.Proofs.YtdkfkpbijdimkaaGreatDoor

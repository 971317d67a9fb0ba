import Derived.Test.YtobbmodjdkcdcaaGreatDoorLawOnion
set_option linter.unusedVariables false
set_option linter.unusedSimpArgs false
set_option maxRecDepth 20000
set_option maxHeartbeats 1000000
namespace Go.Proofs.YtobbmodjdkcdcaaGreatDoor
open Go Go.Sim
set_option linter.unusedSectionVars false
variable [Fu]
def w5:dx:=⟨[],List.replicate 16 0⟩
def lenS (p:List Int):Nat:=256*(p.getD 0 0).toNat+(p.getD 1 0).toNat
def badS (l:Int) (p:List Int):Bool:=decide (lenS p>ba l - 34)||nz (p.drop (2+lenS p))
def innS (p:List Int):List Int:=(p.take (2+lenS p)).drop 2
def zb (key:List Int) (l:Int) (o:List Int):dx×Int:=
 bif (o.take 32).drop 16 != tagO (gP key (o.take 16)) l (o.take 16) (o.drop 32) then(w5,70)
 else bif badS l (gj (gP key (o.take 16)).Box (List.replicate 16 0) (o.drop 32)) then(w5,71)
 else(⟨bif decide (l>1) then padS (innS (gj (gP key (o.take 16)).Box (List.replicate 16 0) (o.drop 32))) else tT (innS (gj (gP key (o.take 16)).Box (List.replicate 16 0) (o.drop 32))),rk (gP key (o.take 16)).Replay (o.take 32)⟩,0)
def qd (key:List Int) (l:Int) (c:List Int):dx×Int:=
 bif key.length != 32||ba l==0 then(w5,2)
 else bif (cutS c (ba l)).2 != 0 then(w5,(cutS c (ba l)).2)
 else zb key l (cutS c (ba l)).1
def HP:List Int:=[99,104,117,114,110,32,104,111,112]
def epL (e:Int):List Int:=(List.range 8).map fun i=>IntKind.wrap .u8 (shrI .i64 e ((56 - 8*i:Nat):Int))
def badK (key:List Int) (e:Int):Bool:=key.length != 32||decide (e<0)||decide (e>4611686018427387904)
def keyS (key:List Int) (e:Int):List Int×Int:=bif badK key e then([],2) else(derS key (epL e) HP 32,0)
theorem xU {key:List Int} {e:Int}:gK key e=some (keyS key e):=by
 unfold gK keyS
 have a:((key.length:Int) != 32)=(key.length != 32):=l8 (n:=32)
 have hB:badK key e=(key.length != 32||decide (e<0)||decide (e>4611686018427387904)):=rfl
 rw[a,←hB]
 cases hb:badK key e with
 |true=>rfl
 |false=>
  rw[hB,Bool.or_eq_false_iff,Bool.or_eq_false_iff] at hb
  have hk:key.length=32:=by simpa using hb.1.1
  have g:mkB 8 8=true:=by decide
  have g2:decide (0<[99,104,117,114,110,32,104,111,112].length)=true:=by decide
  simp only[cond_false]
  have hp:[99,104,117,114,110,32,104,111,112]=HP:=rfl
  rw[g,cond_true,g2,hp]
  simp only[cond_true]
  rw[aW (fun i=>(part1 8 (fun i=>IntKind.wrap .u8 (shrI .i64 e ((56 - 8*i:Nat):Int))) (fun _=>0) i,(i:Int))) 0 8 (r:=epL e) (by omega) ?_ ?_ (by rfl)]
  · simp only[af]
    rw[nS (z:=32) (n:=32) rfl (by omega) (by omega) (by simp[epL]) (by simp[HP])]
    simp only[af]
  · intro i _ hi
    have h1:decide ((i:Int)<((List.replicate (Int.toNat 8) (0:Int)).length:Int))=true:=decide_eq_true (by simp;omega)
    simp only[h1,cond_true]
    rw[wrap64 (x:=8*(i:Int)) (by omega),wrap64 (x:=56 - 8*(i:Int)) (by omega)]
    have g3:decide (0≤56 - 8*(i:Int))=true:=decide_eq_true (by omega)
    rw[g3,cond_true,dk rfl hi]
    simp only[af,Int.toNat_natCast]
    have e3:56 - 8*(i:Int)=((56 - 8*i:Nat):Int):=by omega
    rw[wrap64 (by omega),e3,cS (f:=fun i=>IntKind.wrap .u8 (shrI .i64 e ((56 - 8*i:Nat):Int))) hi rfl];rfl
  · have h1:decide (((8:Nat):Int)<((List.replicate (Int.toNat 8) (0:Int)).length:Int))=false:=by decide
    simp only[h1,cond_false]
    rw[fb];rfl
theorem Ak {key:List Int} {e:Int}:fM key e=some (keyS key e):=by
 unfold fM keyS
 have a:((key.length:Int) != 32)=(key.length != 32):=l8 (n:=32)
 have hB:badK key e=(key.length != 32||decide (e<0)||decide (e>4611686018427387904)):=rfl
 rw[a,←hB]
 cases hb:badK key e with
 |true=>rfl
 |false=>
  rw[hB,Bool.or_eq_false_iff,Bool.or_eq_false_iff] at hb
  have hk:key.length=32:=by simpa using hb.1.1
  have g2:decide (0<[99,104,117,114,110,32,104,111,112].length)=true:=by decide
  simp only[cond_false]
  have hp:[99,104,117,114,110,32,104,111,112]=HP:=rfl
  rw[g2,hp]
  simp only[cond_true]
  rw[aW (fun i=>((List.range i).map (fun i=>IntKind.wrap .u8 (shrI .i64 e ((56 - 8*i:Nat):Int))),56 - 8*(i:Int))) 0 8 (r:=epL e) (by omega) ?_ (ef rfl) (by rfl)]
  · simp only[af]
    rw[nT (z:=32) (n:=32) rfl (by omega) (by omega) (by simp[epL]) (by simp[HP])]
    simp only[af]
  · intro i _ hi
    have h1:decide (56 - 8*(i:Int)≥0)=true:=decide_eq_true (by omega)
    simp only[h1,cond_true]
    rw[gl (x:=56 - 8*(i:Int)) (by omega)]
    have g3:decide (0≤56 - 8*(i:Int))=true:=decide_eq_true (by omega)
    rw[g3,cond_true,bK (by simp[room];omega)]
    simp only[af]
    have e3:56 - 8*(i:Int)=((56 - 8*i:Nat):Int):=by omega
    have e4:((56 - 8*i:Nat):Int) - 8=56 - 8*((i+1:Nat):Int):=by omega
    rw[wrap64 (by omega),e3,e4,List.range_succ,List.map_append];rfl
theorem zc {key:List Int} {e:Int} (h:(keyS key e).2=0):(keyS key e).1.length=32:=by
 unfold keyS at h⊢
 cases hb:badK key e with
 |true=>rw[hb] at h;simp at h
 |false=>simp only[cond_false];exact lC _ _ _ _
end Go.Proofs.YtobbmodjdkcdcaaGreatDoor

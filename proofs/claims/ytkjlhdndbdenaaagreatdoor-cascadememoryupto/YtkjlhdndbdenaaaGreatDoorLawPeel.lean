import Derived.Test.YtkjlhdndbdenaaaGreatDoorLawOnion
set_option autoImplicit true
set_option relaxedAutoImplicit true
set_option linter.all false
set_option maxRecDepth 20000
set_option maxHeartbeats 1000000
namespace Go.Proofs.YtkjlhdndbdenaaaGreatDoor
open Go Go.Sim
open Go.IntKind (wrap)
variable [Fu]
def HP:List Int:=[99,104,117,114,110,32,104,111,112]
def Et (e:Int):List Int:=(List.range 8).map λi=>wrap .u8 (cv .i64 e ((56 - 8*i:Nat):Int))
def A_ (key:List Int) (e:Int):Bool:=key.length != 32||decide (e<0)||decide (e>4611686018427387904)
def z0 (key:List Int) (e:Int):List Int×Int:=bif A_ key e then([],2) else(kD key (Et e) HP 32,0)
theorem mY {key:List Int} {e:Int}:eZ key e=some (z0 key e):=by unfold eZ z0;have a:((key.length:Int) != 32)=(key.length != 32):=jx (n:=32);have b:A_ key e=(key.length != 32||decide (e<0)||decide (e>4611686018427387904)):=rfl;rw[a,←b];cases a:A_ key e with|true=>rfl|false=>rw[b,xe,xe] at a;(have b:key.length=32:=by simpa using a.1.1);(have g:mA 8 8=true:=by decide);(have a:decide (0<[99,104,117,114,110,32,104,111,112].length)=true:=by decide);simp only[wc];have b:[99,104,117,114,110,32,104,111,112]=HP:=rfl;rw[g,wd,a,b];simp only[wd];rw[aQ (λi=>(co 8 (λi=>wrap .u8 (cv .i64 e ((56 - 8*i:Nat):Int))) (λ_=>0) i,(i:Int))) 0 8 (r:=Et e) (by omega) ?_ ?_ (by rfl)];simp only[aC];rw[lR (z:=32) (n:=32) rfl (by omega) (by omega) (by simp[Et]) (by simp[HP])];simp only[aC];intro i _ a;have b:decide ((i:Int)<((List.replicate (Int.toNat 8) (0:Int)).length:Int))=true:=wg (by simp;omega);simp only[b,wd];rw[bA (x:=8*(i:Int)) (by omega),bA (x:=56 - 8*(i:Int)) (by omega)];have c:decide (0≤56 - 8*(i:Int))=true:=wg (by omega);rw[c,wd,cN rfl a];simp only[aC,wl];(have c:56 - 8*(i:Int)=((56 - 8*i:Nat):Int):=by omega);rw[bA (by omega),c,ck (f:=λi=>wrap .u8 (cv .i64 e ((56 - 8*i:Nat):Int))) a rfl];rfl;(have b:decide (((8:Nat):Int)<((List.replicate (Int.toNat 8) (0:Int)).length:Int))=false:=by decide);simp only[b,wc];rw[ef];rfl
theorem uN {key:List Int} {e:Int}:eM key e=some (z0 key e):=by unfold eM z0;have a:((key.length:Int) != 32)=(key.length != 32):=jx (n:=32);have b:A_ key e=(key.length != 32||decide (e<0)||decide (e>4611686018427387904)):=rfl;rw[a,←b];cases a:A_ key e with|true=>rfl|false=>rw[b,xe,xe] at a;(have b:key.length=32:=by simpa using a.1.1);(have a:decide (0<[99,104,117,114,110,32,104,111,112].length)=true:=by decide);simp only[wc];have b:[99,104,117,114,110,32,104,111,112]=HP:=rfl;rw[a,b];simp only[wd];rw[aQ (λi=>((List.range i).map (λi=>wrap .u8 (cv .i64 e ((56 - 8*i:Nat):Int))),56 - 8*(i:Int))) 0 8 (r:=Et e) (by omega) ?_ (dp rfl) (by rfl)];simp only[aC];rw[lS (z:=32) (n:=32) rfl (by omega) (by omega) (by simp[Et]) (by simp[HP])];simp only[aC];intro i _ a;have a:decide (56 - 8*(i:Int)≥0)=true:=wg (by omega);simp only[a,wd];rw[eX (x:=56 - 8*(i:Int)) (by omega)];have a:decide (0≤56 - 8*(i:Int))=true:=wg (by omega);rw[a,wd,bb (by simp[c7];omega)];simp only[aC];(have a:56 - 8*(i:Int)=((56 - 8*i:Nat):Int):=by omega);(have b:((56 - 8*i:Nat):Int) - 8=56 - 8*((i+1:Nat):Int):=by omega);rw[bA (by omega),a,b,yX,xz];rfl
end Go.Proofs.YtkjlhdndbdenaaaGreatDoor

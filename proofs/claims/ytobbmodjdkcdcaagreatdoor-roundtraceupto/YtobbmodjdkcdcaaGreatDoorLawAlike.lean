import Derived.Test.YtobbmodjdkcdcaaGreatDoorLawMix
set_option linter.all false
set_option maxRecDepth 20000
set_option maxHeartbeats 1000000
namespace Go.Proofs.YtobbmodjdkcdcaaGreatDoor
open Go Go.Sim
variable [Fu]
theorem yM {w:ae} (hw:dL w):dP w w=some true:=by have hl:=hw.eps;unfold dP;simp only[F4,Bool.or_self,FI];rw [aP (s0 := (0 : Int)) (r := (.inl () : Unit ⊕ Bool)) (λi => (i : Int)) 0 w.Epochs.length (Gi _) ?_ ?_ rfl];rfl;intro i _ hi;have h1:decide ((i:Int)<(w.Epochs.length:Int))=true:=FK (by omega);have hx:=hw.ofEp (F7 hi);simp only[h1,FJ];rw[cw hi];simp only[ab,F4,Bool.or_self,FI];rw [aP (s0 := (0 : Int)) (r := (.inl () : Unit ⊕ Bool)) (λi => (i : Int)) 0 w.Epochs[i].Tags.length (Gi _) ?_ ?_ rfl];simp only[ab];rw[wrap64 (by omega)];rfl;intro k _ hk;have h1:decide ((k:Int)<(w.Epochs[i].Tags.length:Int))=true:=FK (by omega);simp only[h1,FJ];rw[cw hk];simp only[ab,F4,FI];rw[wrap64 (by omega)];rfl;have h1:decide ((w.Epochs[i].Tags.length:Int)<(w.Epochs[i].Tags.length:Int))=false:=FL (by omega);simp only[h1,FI];have h1:decide ((w.Epochs.length:Int)<(w.Epochs.length:Int))=false:=FL (by omega);simp only[h1,FI]
end Go.Proofs.YtobbmodjdkcdcaaGreatDoor

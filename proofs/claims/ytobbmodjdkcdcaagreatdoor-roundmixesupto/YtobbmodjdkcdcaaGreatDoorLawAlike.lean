import Derived.Test.YtobbmodjdkcdcaaGreatDoorLawMix
set_option linter.all false
set_option maxRecDepth 20000
set_option maxHeartbeats 1000000
namespace Go.Proofs.YtobbmodjdkcdcaaGreatDoor
open Go Go.Sim
variable [Fu]
theorem AR {w:aA} (hw:dY w):eO w w=some true:=by have hl:=hw.eps;unfold eO;simp only[HJ,Bool.or_self,Hm];rw [aY (s0 := (0 : Int)) (r := (.inl () : Unit ⊕ Bool)) (λi => (i : Int)) 0 w.Epochs.length (HH _) ?_ ?_ rfl];rfl;intro i _ hi;have h1:decide ((i:Int)<(w.Epochs.length:Int))=true:=Ho (by omega);have hx:=hw.ofEp (HG hi);simp only[h1,Hn];rw[cq hi];simp only[aB,HJ,Bool.or_self,Hm];rw [aY (s0 := (0 : Int)) (r := (.inl () : Unit ⊕ Bool)) (λi => (i : Int)) 0 w.Epochs[i].Tags.length (HH _) ?_ ?_ rfl];simp only[aB];rw[wrap64 (by omega)];rfl;intro k _ hk;have h1:decide ((k:Int)<(w.Epochs[i].Tags.length:Int))=true:=Ho (by omega);simp only[h1,Hn];rw[cq hk];simp only[aB,HJ,Hm];rw[wrap64 (by omega)];rfl;have h1:decide ((w.Epochs[i].Tags.length:Int)<(w.Epochs[i].Tags.length:Int))=false:=Hp (by omega);simp only[h1,Hm];have h1:decide ((w.Epochs.length:Int)<(w.Epochs.length:Int))=false:=Hp (by omega);simp only[h1,Hm]
theorem Cp {s:aM} (hw:dY s.Window):eT s s=some true:=by unfold eT;rw[AR hw];simp only[Jz,Hn,aB]
end Go.Proofs.YtobbmodjdkcdcaaGreatDoor

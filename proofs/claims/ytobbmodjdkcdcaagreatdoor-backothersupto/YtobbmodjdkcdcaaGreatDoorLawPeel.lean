/- LawPeel: Peel and the hops' keys: the program's and the reference's are one. -/
import Derived.Test.YtobbmodjdkcdcaaGreatDoorLawOnion
set_option linter.unusedVariables false
set_option linter.unusedSimpArgs false
set_option maxRecDepth 20000
set_option maxHeartbeats 1000000
namespace Go.Proofs.YtobbmodjdkcdcaaGreatDoor
open Go Go.Sim
def lenS (p : List Int) : Nat := 256 * (p.getD 0 0).toNat + (p.getD 1 0).toNat
/-! ### Peel -/
/-! ### the hops' keys -/
def HP : List Int := [99, 104, 117, 114, 110, 32, 104, 111, 112]
def epL (e : Int) : List Int := (List.range 8).map fun i => IntKind.wrap .u8 (shrI .i64 e ((56 - 8 * i : Nat) : Int))
def badK (key : List Int) (e : Int) : Bool := key.length != 32 || decide (e < 0) || decide (e > 4611686018427387904)
def keyS (key : List Int) (e : Int) : List Int × Int := bif badK key e then ([], 2) else (derS key (epL e) HP 32, 0)
theorem route_Key {key : List Int} {e : Int} : f_route_Key key e = some (keyS key e) := by
  unfold f_route_Key keyS
  have a : ((key.length : Int) != 32) = (key.length != 32) := ilen_ne (n := 32)
  have hB : badK key e = (key.length != 32 || decide (e < 0) || decide (e > 4611686018427387904)) := rfl
  rw [a, ← hB]
  cases hb : badK key e with
  | true => rfl
  | false =>
    rw [hB, Bool.or_eq_false_iff, Bool.or_eq_false_iff] at hb
    have hk : key.length = 32 := by simpa using hb.1.1
    have g : mkB 8 8 = true := by decide
    have g2 : decide (0 < [99, 104, 117, 114, 110, 32, 104, 111, 112].length) = true := by decide
    simp only [cond_false]
    have hp : [99, 104, 117, 114, 110, 32, 104, 111, 112] = HP := rfl
    rw [g, cond_true, g2, hp]
    simp only [cond_true]
    rw [run_for (fun i => (part1 8 (fun i => IntKind.wrap .u8 (shrI .i64 e ((56 - 8 * i : Nat) : Int))) (fun _ => 0) i, (i : Int))) 0 8 (r := epL e) (by omega) ?_ ?_ (by rfl)]
    · simp only [bindS]
      rw [mac_Derive (z := 32) (n := 32) rfl (by omega) (by omega) (by simp [epL]) (by simp [HP])]
      simp only [bindS]
    · intro i _ hi
      have h1 : decide ((i : Int) < ((List.replicate (Int.toNat 8) (0 : Int)).length : Int)) = true := decide_eq_true (by simp; omega)
      simp only [h1, cond_true]
      rw [wrap64 (x := 8 * (i : Int)) (by omega), wrap64 (x := 56 - 8 * (i : Int)) (by omega)]
      have g3 : decide (0 ≤ 56 - 8 * (i : Int)) = true := decide_eq_true (by omega)
      rw [g3, cond_true, part1_idx rfl hi]
      simp only [bindS, Int.toNat_natCast]
      have e3 : 56 - 8 * (i : Int) = ((56 - 8 * i : Nat) : Int) := by omega
      rw [wrap64 (by omega), e3, part1_set (f := fun i => IntKind.wrap .u8 (shrI .i64 e ((56 - 8 * i : Nat) : Int))) hi rfl]; rfl
    · have h1 : decide (((8 : Nat) : Int) < ((List.replicate (Int.toNat 8) (0 : Int)).length : Int)) = false := by decide
      simp only [h1, cond_false]
      rw [part1_n]; rfl
theorem keyS_len {key : List Int} {e : Int} (h : (keyS key e).2 = 0) : (keyS key e).1.length = 32 := by
  unfold keyS at h ⊢
  cases hb : badK key e with
  | true => rw [hb] at h; simp at h
  | false => simp only [cond_false]; exact derS_len _ _ _ _
end Go.Proofs.YtobbmodjdkcdcaaGreatDoor

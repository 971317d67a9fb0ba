import Derived.Test.YtobbmodjdkcdcaaGreatDoorQawScan
import Derived.Test.YtobbmodjdkcdcaaGreatDoorRo5
set_option linter.unusedVariables false
set_option linter.unusedSimpArgs false
set_option maxRecDepth 20000
namespace Go.Proofs.YtobbmodjdkcdcaaGreatDoor
open Go Go.Sim
set_option linter.unusedSectionVars false
variable [Fu]
theorem Bm : (room : Int) = 17179869184 := rfl
theorem gu : room = 17179869184 := rfl
theorem px {x : List Int} (h : x.length < 2 ^ 31) : bU x = some x := by
 unfold bU
 rw [cr (by rw [gu]; simp; omega)]; rfl
theorem Bn {x : List Int} (h : x.length < 2 ^ 31) : dV x = some x := by
 unfold dV
 rw [cr (by rw [gu]; simp; omega)]; rfl
theorem uS {α : Type} {xs : List α} {l h : Int} {i j : Nat} (hl : l = i) (hh : h = j) (h1 : i ≤ j) (h2 : j ≤ xs.length) : sub xs l h = some ((xs.take j).drop i) := by
 subst hl; subst hh; unfold sub
 have : (decide ((0 : Int) ≤ i) && decide ((i : Int) ≤ j) && decide ((j : Int) ≤ (xs.length : Int))) = true := by simp; omega
 rw [this, cond_true]; simp
theorem py {α : Type} {xs : List α} {l : Int} {i : Nat} (hl : l = i) (h1 : i ≤ xs.length) : sub xs l (xs.length : Int) = some (xs.drop i) := by
 rw [uS hl rfl h1 (Nat.le_refl _), List.take_length]
theorem nL {α : Type} {xs : List α} {h : Int} {j : Nat} (hh : h = j) (h2 : j ≤ xs.length) : sub xs 0 h = some (xs.take j) := by
 rw [uS (l := 0) (i := 0) rfl hh (Nat.zero_le _) h2, List.drop_zero]
theorem oK {n : Nat} (h : n < 2 ^ 31) : mkB (n : Int) (n : Int) = true := by unfold mkB; rw [Bm]; simp; omega
theorem vP {n : Nat} (h : n < 2 ^ 31) : mkB 0 (n : Int) = true := by unfold mkB; rw [Bm]; simp; omega
theorem gv {α : Type} (g : Nat → α) (i : Nat) : (List.range i).map g ++ [g i] = (List.range (i + 1)).map g := by rw [List.range_succ, List.map_append]; rfl
theorem xh {α R : Type} {step : List α × Int → Option (Ctl (List α × Int) R)} (g : Nat → α) (n : Nat) {r : R} (h : ∀ i, i < n → step ((List.range i).map g, (i : Int)) = some (.next ((List.range (i + 1)).map g, ((i + 1 : Nat) : Int))))
  (hn : step ((List.range n).map g, (n : Int)) = some (.done r)) : Loop.run step ([], 0) = some r :=
 bV (fun i => ((List.range i).map g, (i : Int))) 0 n (Nat.zero_le _) (fun i _ hi => h i hi) hn rfl
def zS (t : List Int) : List Int := (t.drop 18).drop ((t.length - 18) / 2)
def im (t : List Int) (c : Nat) : aE :=
 ⟨t.take 18, (t.drop 18).take ((t.length - 18) / 2), (List.range c).map fun j => ((zS t).take ((j + 1) * ((zS t).length / c))).drop (j * ((zS t).length / c))⟩
def j7 (t : List Int) (c : Int) : aE × Int :=
 bif decide (c < 1) || decide (c > 64) then (⟨[], [], []⟩, 2) else bif decide ((t.length : Int) < 18) then (⟨[], [], []⟩, 3) else (im t c.toNat, 0)
theorem mu {t : List Int} {c : Int} (h : t.length < 2 ^ 31) : eO t c = some (j7 t c) := by
 unfold eO j7
 cases h1 : decide (c < 1) || decide (c > 64) with
 | true => rfl
 | false =>
  simp only [Bool.or_eq_false_iff, decide_eq_false_iff_not] at h1
  rw [cond_false, cond_false]
  cases h2 : decide ((t.length : Int) < 18) with
  | true => rfl
  | false =>
   have h2 := of_decide_eq_false h2
   obtain ⟨n, rfl⟩ : ∃ n : Nat, c = n := ⟨c.toNat, by omega⟩
   have hl : (t.drop 18).length = t.length - 18 := by simp
   rw [cond_false, cond_false, py (xs := t) (l := 18) (i := 18) rfl (by omega)]
   simp only [aj]
   rw [nL (xs := t) (h := 18) (j := 18) rfl (by omega)]
   simp only [aj]
   rw [px (by simp; omega)]
   simp only [aj]
   have e2 : ∀ m : Nat, m < 2 ^ 31 → IntKind.wrap .i64 (Int.tdiv (m : Int) 2) = ((m / 2 : Nat) : Int) := fun m hm => by
     rw [show Int.tdiv (m : Int) 2 = ((m / 2 : Nat) : Int) from m5, wrap64 (by omega)]
   rw [e2 _ (by omega), nL (j := (t.drop 18).length / 2) rfl (by omega)]
   simp only [aj]
   rw [px (by simp; omega)]
   simp only [aj]
   rw [py (i := (t.drop 18).length / 2) rfl (by omega)]
   simp only [aj]
   have hz : List.drop ((t.drop 18).length / 2) (t.drop 18) = zS t := by rw [hl]; rfl
   rw [hz]
   have hzl : (zS t).length ≤ t.length := by simp only [zS, List.length_drop]; omega
   have hne : decide ((n : Int) ≠ 0) = true := decide_eq_true (by omega)
   rw [hne, cond_true, m5]
   generalize hm : (zS t).length / n = m
   have hcm : n * m ≤ (zS t).length := by rw [← hm]; exact Nat.mul_div_le _ _
   have hmm : m ≤ n * m := Nat.le_mul_of_pos_left _ (by omega)
   rw [wrap64 (x := (m : Int)) (by omega)]
   rw [bV (s0 := (0, [])) (r := im t n) (fun i => ((i : Int), (List.range i).map fun j => ((zS t).take ((j + 1) * m)).drop (j * m))) 0 n (Nat.zero_le _) ?_ ?_ rfl]
   · simp only [aj, Int.toNat_natCast]
   · intro i _ hi
     have hd : decide ((i : Int) < (n : Int)) = true := decide_eq_true (by omega)
     have h3 : (i + 1) * m ≤ n * m := Nat.mul_le_mul_right _ hi
     have h4 : (i + 1) * m = i * m + m := Nat.succ_mul _ _
     have w1 : IntKind.wrap .i64 ((i : Int) * (m : Int)) = ((i * m : Nat) : Int) := by rw [← Int.natCast_mul, wrap64 (by omega)]
     have w0 : IntKind.wrap .i64 ((i : Int) + 1) = ((i + 1 : Nat) : Int) := by rw [wrap64 (by omega)]; rfl
     have w2 : IntKind.wrap .i64 (((i + 1 : Nat) : Int) * (m : Int)) = (((i + 1) * m : Nat) : Int) := by rw [← Int.natCast_mul, wrap64 (by omega)]
     simp only [hd, cond_true, w0, w1, w2]
     rw [uS (i := i * m) (j := (i + 1) * m) rfl rfl (by omega) (by omega)]
     simp only [aj]
     rw [Bn (by simp; omega)]
     simp only [aj]
     rw [cr (by rw [gu]; simp; omega)]
     simp only [aj]
     rw [gv (fun j => ((zS t).take ((j + 1) * m)).drop (j * m))]
   · have hd : decide ((n : Int) < (n : Int)) = false := decide_eq_false (by omega)
     simp only [hd, cond_false, im, hm, hl]
theorem Ar {t : List Int} {c : Nat} : (im t c).Chunks.length = c := by simp [im]
theorem Bo {t : List Int} (h : bz t) : iW t = some ⟨t, 0⟩ := by
 unfold iW
 have : strB t = t := by
  unfold strB
  conv => rhs; rw [← List.map_id t]
  apply List.map_congr_left
  intro b hb
  have := h b hb
  simp [UInt8.toNat_ofNat']; omega
 rw [this]
theorem qu {bs : List Int} {u : Nat} (hu : u ≤ bs.length) (hl : bs.length < 2 ^ 31) : dS ⟨bs, u⟩ = some (bif decide (u < bs.length) then (bs.getD u 0, ⟨bs, ((u + 1 : Nat) : Int)⟩, 0) else (0, ⟨[], 0⟩, 3)) := by
 unfold dS fk
 simp only [aj]
 rw [wrap64 (by omega)]
 by_cases c : u < bs.length
 · have h1 : (((bs.length : Int) - (u : Int)) == 0) = false := by simp; omega
   rw [h1, cond_false, ba rfl c, decide_eq_true c, cond_true]
   simp only [aj]
   rw [wrap64 (x := (u : Int) + 1) (by omega)]; rfl
 · have h1 : (((bs.length : Int) - (u : Int)) == 0) = true := by simp; omega
   rw [h1, cond_true, decide_eq_false c, cond_false]
end Go.Proofs.YtobbmodjdkcdcaaGreatDoor

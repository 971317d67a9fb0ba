/- Sim17: tools for the plain laws. -/
import Derived.Test.YtgllljocmpbooaaSim16
set_option linter.unusedVariables false
set_option linter.unusedSimpArgs false
namespace Go.Sim
open Go

theorem Loop.run_eq {S R : Type} {step : S → Option (Ctl S R)} (st : Nat → S) (res : Nat → R) (n : Nat)
    (hd : ∀ i, i < n → (step (st i) = some (.next (st (i + 1))) ∧ res i = res (i + 1)) ∨ step (st i) = some (.done (res i))) (hn : step (st n) = some (.done (res n))) :
    ∀ k i, n - i = k → i ≤ n → Loop.run step (st i) = some (res i)
  | 0, i, hk, hi => by
    have : i = n := by omega
    subst this; exact Loop.run_done hn
  | k + 1, i, hk, hi => by
    rcases hd i (by omega) with ⟨h1, h2⟩ | h1
    · rw [Loop.run_next h1, h2]; exact Loop.run_eq st res n hd hn k (i + 1) (by omega) (by omega)
    · exact Loop.run_done h1
theorem Loop.run_eq0 {S R : Type} {step : S → Option (Ctl S R)} (st : Nat → S) (res : Nat → R) (n : Nat)
    (hd : ∀ i, i < n → (step (st i) = some (.next (st (i + 1))) ∧ res i = res (i + 1)) ∨ step (st i) = some (.done (res i))) (hn : step (st n) = some (.done (res n))) {s0 : S} (h0 : s0 = st 0) :
    Loop.run step s0 = some (res 0) := by subst h0; exact Loop.run_eq st res n hd hn _ 0 rfl (by omega)

theorem idx_nat {α : Type} {xs : List α} {i : Nat} (h : i < xs.length) : idx xs (i : Int) = some xs[i] := by
  unfold idx
  have h1 : (0 : Int) ≤ (i : Int) := by omega
  have h2 : (i : Int) < (xs.length : Int) := by omega
  simp [h1, h2, h]
theorem wrap64 {x : Int} (h : -9223372036854775808 ≤ x ∧ x ≤ 9223372036854775807) : IntKind.i64.wrap x = x := IntWalk.i64_in _ (by omega)
theorem app_eq {α : Type} {xs ys : List α} (h : xs.length + ys.length ≤ room) : app xs ys = some (xs ++ ys) := by
  unfold app; simp [h]

/-! ### Byte lists in order -/
def ltL : List Int → List Int → Bool
  | x :: xs, y :: ys => if x = y then ltL xs ys else decide (x < y)
  | _, _ => false
theorem ltL_irrefl : ∀ x, ltL x x = false
  | [] => rfl
  | a :: x => by simp [ltL, ltL_irrefl x]
theorem ltL_trans : ∀ {x y z : List Int}, ltL x y = true → ltL y z = true → ltL x z = true
  | [], _, _, h, _ => by simp [ltL] at h
  | _ :: _, [], _, h, _ => by simp [ltL] at h
  | _ :: _, _ :: _, [], _, h => by simp [ltL] at h
  | a :: x, b :: y, c :: z, h1, h2 => by
    simp only [ltL] at h1 h2 ⊢
    by_cases hab : a = b
    · subst hab
      rw [if_pos rfl] at h1
      by_cases hac : a = c
      · subst hac; rw [if_pos rfl] at h2 ⊢; exact ltL_trans h1 h2
      · rw [if_neg hac] at h2 ⊢; exact h2
    · rw [if_neg hab] at h1
      by_cases hbc : b = c
      · subst hbc; rw [if_neg hab]; exact h1
      · rw [if_neg hbc] at h2
        have h1 := of_decide_eq_true h1
        have h2 := of_decide_eq_true h2
        rw [if_neg (by omega)]; exact decide_eq_true (by omega)
theorem ltL_total : ∀ {x y : List Int}, x.length = y.length → x ≠ y → ltL x y = true ∨ ltL y x = true
  | [], [], _, h => absurd rfl h
  | a :: x, b :: y, hl, h => by
    simp only [ltL]
    by_cases hab : a = b
    · subst hab; simp only [if_true]; exact ltL_total (by simpa using hl) (fun e => h (by rw [e]))
    · rw [if_neg hab, if_neg (fun e => hab e.symm)]; simp only [decide_eq_true_eq]; omega
  | [], _ :: _, hl, _ => by simp at hl
  | _ :: _, [], hl, _ => by simp at hl
def byteL (x : List Int) : Prop := ∀ b ∈ x, 0 ≤ b ∧ b ≤ 255
theorem cmpB_lt : ∀ {x y : List Int}, byteL x → byteL y → x.length = y.length → (cmpB x y < 0 ↔ ltL x y = true)
  | [], [], _, _, _ => by simp [cmpB, Lib.bytesOf, Lib.compareBytes, ltL]
  | a :: x, b :: y, hx, hy, hl => by
    have ih := cmpB_lt (x := x) (y := y) (fun c hc => hx c (by simp [hc])) (fun c hc => hy c (by simp [hc])) (by simpa using hl)
    have ha := hx a (by simp)
    have hb := hy b (by simp)
    have key : ∀ p q : Int, 0 ≤ p → p ≤ 255 → 0 ≤ q → q ≤ 255 → (UInt8.ofNat p.toNat < UInt8.ofNat q.toNat ↔ p < q) := by
      intro p q h1 h2 h3 h4
      rw [UInt8.lt_iff_toNat_lt, UInt8.toNat_ofNat', UInt8.toNat_ofNat', Nat.mod_eq_of_lt (by omega), Nat.mod_eq_of_lt (by omega)]
      omega
    have k1 := key a b ha.1 ha.2 hb.1 hb.2
    have k2 := key b a hb.1 hb.2 ha.1 ha.2
    simp only [cmpB, Lib.bytesOf, List.map_cons, Lib.compareBytes, ltL] at ih ⊢
    by_cases h1 : a < b
    · rw [if_pos (k1.2 h1), if_neg (by omega)]; simp [h1]
    · rw [if_neg (fun h => h1 (k1.1 h))]
      by_cases h2 : b < a
      · rw [if_pos (k2.2 h2), if_neg (by omega)]; simp; omega
      · rw [if_neg (fun h => h2 (k2.1 h)), if_pos (by omega)]; exact ih
  | [], _ :: _, _, _, hl => by simp at hl
  | _ :: _, [], _, _, hl => by simp at hl

/-! ### Sets of keys -/
def addk {α : Type} [BEq α] (ks : List α) (x : α) : List α := if ks.elem x then ks else ks ++ [x]
section
variable {α β : Type} [BEq α] [LawfulBEq α]
theorem addk_mem {ks : List α} {x y : α} : y ∈ addk ks x ↔ y ∈ ks ∨ y = x := by
  unfold addk; split
  · rename_i h
    have hx : x ∈ ks := by simpa using h
    exact ⟨.inl, fun h => h.elim id fun e => e ▸ hx⟩
  · simp
theorem addk_nodup {ks : List α} {x : α} (h : ks.Nodup) : (addk ks x).Nodup := by
  unfold addk; split
  · exact h
  · rename_i hx
    have hx : x ∉ ks := by simpa using hx
    rw [List.nodup_append]
    exact ⟨h, by simp, fun a ha b hb => by simp at hb; subst hb; exact fun e => hx (e ▸ ha)⟩
theorem foldk_mem {l ks : List α} {y : α} : y ∈ l.foldl addk ks ↔ y ∈ ks ∨ y ∈ l := by
  induction l generalizing ks with
  | nil => simp
  | cons x l ih => rw [List.foldl_cons, ih, addk_mem, List.mem_cons]; exact or_assoc
theorem foldk_nodup {l ks : List α} (h : ks.Nodup) : (l.foldl addk ks).Nodup := by
  induction l generalizing ks with
  | nil => exact h
  | cons x l ih => exact ih (addk_nodup h)
end
theorem foldk_len {α : Type} [BEq α] {l ks : List α} : (l.foldl addk ks).length ≤ ks.length + l.length := by
  induction l generalizing ks with
  | nil => simp
  | cons x l ih =>
    have := ih (ks := addk ks x)
    have h2 : (addk ks x).length ≤ ks.length + 1 := by unfold addk; split <;> simp
    simp only [List.foldl_cons, List.length_cons]; omega
section
variable {α β : Type} [BEq α] [LawfulBEq α]
theorem foldk_full {l ks : List α} (h : (l.foldl addk ks).length = ks.length + l.length) : l.Nodup ∧ ∀ x ∈ l, x ∉ ks := by
  induction l generalizing ks with
  | nil => simp
  | cons x l ih =>
    simp only [List.foldl_cons, List.length_cons] at h
    have h1 := foldk_len (l := l) (ks := addk ks x)
    by_cases hx : x ∈ ks
    · have : (addk ks x).length = ks.length := by simp [addk, hx]
      omega
    · have h2 : addk ks x = ks ++ [x] := by simp [addk, hx]
      have h3 : (addk ks x).length = ks.length + 1 := by rw [h2]; simp
      obtain ⟨h4, h5⟩ := ih (ks := addk ks x) (by omega)
      refine ⟨List.nodup_cons.2 ⟨fun hm => h5 x hm (addk_mem.2 (.inr rfl)), h4⟩, fun y hy => ?_⟩
      rcases List.mem_cons.1 hy with rfl | hy
      · exact hx
      · exact fun hk => h5 y hy (addk_mem.2 (.inl hk))
theorem mset_keys {x : α} {v : β} : ∀ {ps : List (α × β)}, (mset x v ps).map (·.1) = addk (ps.map (·.1)) x
  | [] => by simp [mset, addk]
  | p :: ps => by
    have ih := mset_keys (x := x) (v := v) (ps := ps)
    by_cases h : x = p.1
    · subst h; simp [mset, addk]
    · have hne : (x == p.1) = false := by simpa using h
      simp only [mset, hne, cond_false, List.map_cons, ih, addk]
      by_cases hm : x ∈ ps.map (·.1)
      · have h2 : (p.1 :: ps.map (·.1)).elem x = true := by simpa using Or.inr (by simpa using hm)
        have h3 : (ps.map (·.1)).elem x = true := by simpa using hm
        rw [if_pos h3, if_pos h2]
      · have h2 : ¬ (p.1 :: ps.map (·.1)).elem x = true := by
          rw [List.elem_iff]; intro h4; rcases List.mem_cons.1 h4 with h5 | h5
          · exact h h5
          · exact hm h5
        have h3 : ¬ (ps.map (·.1)).elem x = true := by rw [List.elem_iff]; exact hm
        rw [if_neg h3, if_neg h2]; rfl
end
end Go.Sim

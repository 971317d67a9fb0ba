/- LawBackA: an answer's cell is wrapped, or is none: back.answered answers. -/
import Derived.Test.YtobbmodjdkcdcaaGreatDoorLawBackC
set_option linter.unusedVariables false
set_option linter.unusedSimpArgs false
set_option maxRecDepth 20000
set_option maxHeartbeats 1000000
namespace Go.Proofs.YtobbmodjdkcdcaaGreatDoor
open Go Go.Sim
theorem cell_Open_ex {x : List Int} (hb : byteL x) : ∃ r, f_cell_Open x = some r ∧ r.1.length ≤ 320 := by
  unfold f_cell_Open
  have e0 : ((x.length : Int) != 320) = (x.length != 320) := ilen_ne (n := 320)
  rw [e0]
  cases h : (x.length != 320) with
  | true => exact ⟨_, rfl, by simp⟩
  | false =>
    have hl : x.length = 320 := by simpa using h
    have b1 := byteL_at hb 1
    rw [cond_false, idx_at (z := 0) (i := 0) rfl (by omega)]
    simp only [bindS]
    cases x.getD 0 0 == 0 with
    | true => exact ⟨_, rfl, by simp⟩
    | false =>
      cases x.getD 0 0 == 1 with
      | false => exact ⟨_, rfl, by simp⟩
      | true =>
        simp only [cond_false, cond_true]
        rw [idx_at (z := 1) (i := 1) rfl (by omega)]
        simp only [bindS]
        generalize x.getD 1 0 = n at *
        rw [wrap64 (x := n) (by omega)]
        cases hc : decide (n > 48) with
        | true => exact ⟨_, rfl, by simp⟩
        | false =>
          have hc := of_decide_eq_false hc
          rw [cond_false, wrap64 (x := 2 + n) (by omega), sub_nat (l := 2 + n) (i := 2 + n.toNat) (j := x.length) (by omega) rfl (by omega) (Nat.le_refl _)]
          simp only [bindS, List.take_length]
          rw [cell_noughts (by simp; omega)]
          simp only [bindS, Bool.not_not]
          cases nz (x.drop (2 + n.toNat)) with
          | true => exact ⟨_, rfl, by simp⟩
          | false =>
            rw [cond_false, sub_nat (l := 2) (i := 2) (j := 2 + n.toNat) rfl (by omega) (by omega) (by omega)]
            simp only [bindS]
            rw [app_eq (by simp [room]; omega)]
            exact ⟨_, rfl, by simp; omega⟩
theorem inside_ex {x : List Int} {l : Int} (hb : byteL x) (hx : x.length ≤ 320) : ∃ r, f_back_inside x l = some r ∧ r.1.length ≤ 320 := by
  unfold f_back_inside
  cases l == 1 with
  | true =>
    obtain ⟨r, hr, h1⟩ := cell_Open_ex hb
    rw [cond_true, hr]
    exact ⟨_, rfl, h1⟩
  | false =>
    rw [cond_false]
    have hrun : ∃ b : Bool, (((Loop.run (S := (Bool × Int)) (R := Bool) (fun (x62, x63) =>
        bif decide (x63 < (x.length : Int)) then
          (idx x x63).bind fun x75 =>
          some (.next (x62 && (x75 == 0), IntKind.wrap .i64 (x63 + 1)))
        else
          some (.done x62)) (true, 0)).bind fun x69 =>
    some x69
      : Option Bool)) = some b := by
      have hq : ∀ i : Nat, ∀ b : Bool, i ≤ x.length → ∃ r : Bool, Loop.run (S := (Bool × Int)) (R := Bool) (fun (x62, x63) =>
        bif decide (x63 < (x.length : Int)) then
          (idx x x63).bind fun x75 =>
          some (.next (x62 && (x75 == 0), IntKind.wrap .i64 (x63 + 1)))
        else
          some (.done x62)) (b, (i : Int)) = some r := by
        have key : ∀ k i : Nat, ∀ b : Bool, x.length - i = k → i ≤ x.length → ∃ r : Bool, Loop.run (S := (Bool × Int)) (R := Bool) (fun (x62, x63) =>
          bif decide (x63 < (x.length : Int)) then
            (idx x x63).bind fun x75 =>
            some (.next (x62 && (x75 == 0), IntKind.wrap .i64 (x63 + 1)))
          else
            some (.done x62)) (b, (i : Int)) = some r := by
          intro k
          induction k with
          | zero =>
            intro i b h1 h2
            have : i = x.length := by omega
            subst this
            exact ⟨b, Loop.run_done (bif_ff (decide_eq_false (by omega)))⟩
          | succ k ih =>
            intro i b h1 h2
            obtain ⟨r, hr⟩ := ih (i + 1) (b && (x.getD i 0 == 0)) (by omega) (by omega)
            refine ⟨r, (Loop.run_next ?_).trans hr⟩
            have h3 : decide ((i : Int) < (x.length : Int)) = true := decide_eq_true (by omega)
            simp only [h3, cond_true]
            rw [idx_at rfl (by omega)]
            simp only [bindS]
            rw [wrap64 (by omega)]; rfl
        exact fun i b h => key _ i b rfl h
      obtain ⟨r, hr⟩ := hq 0 true (by omega)
      exact ⟨r, by rw [show ((0 : Nat) : Int) = 0 from rfl] at hr; rw [hr]; rfl⟩
    obtain ⟨b, hb2⟩ := hrun
    rw [hb2]
    simp only [bindS]
    cases b with
    | true => exact ⟨_, rfl, by simp⟩
    | false =>
      rw [cond_false, onion_Size]
      simp only [bindS]
      rw [cell_Cut rfl (sizeS_le _)]
      refine ⟨_, rfl, ?_⟩
      show (cutS x _).1.length ≤ 320
      unfold cutS
      cases x.length != 320 with
      | true => simp
      | false =>
        cases nz (x.drop (sizeS (IntKind.wrap .i64 (l - 1)))) with
        | true => simp
        | false => simp; omega
theorem wrap_ex {key nonce x : List Int} {l : Int} (hk : key.length = 32) (hn : nonce.length = 16) (hx : x.length ≤ 320) : ∃ r, f_onion_Wrap key nonce l x = some r ∧ r.1.length ≤ 320 := by
  unfold f_onion_Wrap f_onion_room
  have hroom : room = 17179869184 := rfl
  have hroomI : (room : Int) = 17179869184 := rfl
  rw [onion_Derive hk hn]
  obtain ⟨k1, k2, k3⟩ := keysS_len key nonce
  have kb := keysS_box key nonce
  generalize keysS key nonce = ks at *
  simp only [bindS, onion_Size, bne_self_eq_false, cond_false]
  have hb : ((sizeS l : Int) == 0) = (sizeS l == 0) := beq_nat (n := sizeS l) (m := 0)
  rw [hb]
  cases h0 : (sizeS l == 0) with
  | true => exact ⟨_, rfl, by simp⟩
  | false =>
    obtain ⟨l1, l2, l3⟩ := sizeS_pos (l := l) (by simpa using h0)
    rw [cond_false, wrap64 (x := (sizeS l : Int) - 34) (by omega)]
    cases hc : decide ((x.length : Int) > (sizeS l : Int) - 34) with
    | true => exact ⟨_, rfl, by simp⟩
    | false =>
      have hc := of_decide_eq_false hc
      rw [cond_false, wrap64 (x := (sizeS l : Int) - 32) (by omega)]
      have g : mkB ((sizeS l : Int) - 32) ((sizeS l : Int) - 32) = true := by unfold mkB; rw [hroomI]; simp; omega
      have tn : Int.toNat ((sizeS l : Int) - 32) = sizeS l - 32 := by omega
      rw [g, cond_true, tn]
      have hs := sizeS_le l
      generalize hm : sizeS l - 32 = m at *
      rw [idx_at (z := 0) (i := 0) rfl (by simp; omega)]
      simp only [bindS]
      rw [idx_at (z := 1) (i := 1) rfl (by simp; omega)]
      simp only [bindS, List.length_set, List.length_replicate]
      have g1 : decide ((0 : Int) ≤ 2 ∧ (2 : Int) ≤ (m : Int) ∧ ((m : Int) : Int) ≤ (m : Int)) = true := decide_eq_true (by omega)
      have g2 : decide ((Int.toNat 2) ≤ (Int.toNat (m : Int)) ∧ (Int.toNat (m : Int)) ≤ m) = true := decide_eq_true (by simp; omega)
      rw [g1, g2, cond_true, cond_true]
      generalize hp : over _ _ _ x = p
      have hpl : p.length = m := by
        rw [← hp, over_len (by simp; omega) (by simp)]; simp
      rw [block_Mask k1 kb (by simp) (by omega)]
      simp only [bindS]
      have ml := maskS_len ks.Box (List.replicate 16 0) p
      rw [app_eq (by rw [hroom]; simp; omega)]
      simp only [bindS, List.nil_append]
      rw [onion_tagged (by omega) hn (by omega)]
      simp only [bindS]
      have hl16 : (tagO ks l nonce (maskS ks.Box (List.replicate 16 0) p)).length = 16 := halfS_len _ _
      rw [app_eq (by rw [hroom]; omega)]
      simp only [bindS]
      rw [app_eq (by rw [hroom, List.length_append]; omega)]
      exact ⟨_, rfl, by simp only [List.length_append]; omega⟩
def BK : List Int := [99, 104, 117, 114, 110, 32, 98, 97, 99, 107]
theorem reply_Wrap_ex {key nonce x : List Int} {l : Int} (hk : key.length = 32) (hn : nonce.length = 16) (hx : x.length ≤ 320) : ∃ r, f_reply_Wrap key nonce l x = some r ∧ r.1.length ≤ 320 := by
  unfold f_reply_Wrap f_reply_Key
  have e0 : ((key.length : Int) != 32) = false := by rw [hk]; rfl
  have e1 : decide (0 < [99, 104, 117, 114, 110, 32, 98, 97, 99, 107].length) = true := by decide
  have e2 : ([99, 104, 117, 114, 110, 32, 98, 97, 99, 107] : List Int) = BK := rfl
  rw [e0, e1, cond_false, cond_true, e2, mac_Derive (z := 32) (n := 32) rfl (by omega) (by omega) (by omega) (by simp [BK])]
  simp only [bindS, bne_self_eq_false, cond_false]
  obtain ⟨r, hr, h1⟩ := wrap_ex (key := derS key nonce BK 32) (nonce := nonce) (x := x) (l := l) (derS_len _ _ _ _) hn hx
  rw [hr]
  exact ⟨_, rfl, h1⟩
theorem answered_ex {key nonce x : List Int} {l : Int} (hk : key.length = 32) (hn : nonce.length = 16) (hb : byteL x) (hx : x.length ≤ 320) : ∃ r, f_back_answered key nonce l x = some r ∧ (r.2 = true → r.1.length = 320) := by
  unfold f_back_answered
  obtain ⟨r, hr, h1⟩ := inside_ex (l := l) hb hx
  rw [hr]
  simp only [bindS]
  cases r.2 with
  | false => exact ⟨_, rfl, fun h => (by cases h)⟩
  | true =>
    obtain ⟨q, hq, h2⟩ := reply_Wrap_ex (key := key) (nonce := nonce) (x := r.1) (l := l) hk hn h1
    simp only [Bool.not_true, cond_false]
    rw [hq]
    simp only [bindS]
    cases q.2 != 0 with
    | true => exact ⟨_, rfl, fun h => (by cases h)⟩
    | false =>
      rw [cond_false, cell_Pad h2]
      exact ⟨_, rfl, fun _ => by simp [padS]; omega⟩
end Go.Proofs.YtobbmodjdkcdcaaGreatDoor

/- LawBackS: back.Return answers; it reads the master key and the hops left alone. -/
import Derived.Test.YtobbmodjdkcdcaaGreatDoorLawBackR
set_option linter.unusedVariables false
set_option linter.unusedSimpArgs false
set_option maxRecDepth 20000
set_option maxHeartbeats 1000000
namespace Go.Proofs.YtobbmodjdkcdcaaGreatDoor
open Go Go.Sim
theorem right_some (c : Api_Config) : ∃ b, f_round_right c = some b := by
  unfold f_round_right
  have key : ∀ (x a b e : Int) (y : Bool), ∃ z, (bif y then (f_round_within x a b).bind fun y4 => some y4 else some false : Option Bool) = some z := fun x a b e y => by cases y <;> exact ⟨_, rfl⟩
  obtain ⟨z1, e1⟩ := key c.Left 1 8 0 ((c.Master.length : Int) == 32)
  rw [e1]; simp only [bindS]
  obtain ⟨z2, e2⟩ := key c.Span 1 8 0 z1
  rw [e2]; simp only [bindS]
  obtain ⟨z3, e3⟩ := key c.Room 0 4096 0 z2
  rw [e3]; simp only [bindS]
  obtain ⟨z4, e4⟩ := key c.Den 1 1000 0 z3
  rw [e4]; simp only [bindS]
  obtain ⟨z5, e5⟩ := key c.Num 0 c.Den 0 z4
  rw [e5]; simp only [bindS]
  obtain ⟨z6, e6⟩ := key c.Noise 0 16 0 z5
  rw [e6]; simp only [bindS]
  obtain ⟨z7, e7⟩ := key c.Chunks 1 64 0 z6
  rw [e7]; simp only [bindS]
  obtain ⟨z8, e8⟩ := key c.Workers 1 64 0 z7
  rw [e8]; simp only [bindS]
  obtain ⟨z9, e9⟩ := key c.Cap 0 1024 0 z8
  rw [e9]; simp only [bindS]
  obtain ⟨z10, e10⟩ := key c.Shards 1 64 0 z9
  rw [e10]; exact ⟨_, rfl⟩
theorem win_Len0 : f_window_Len ⟨0, []⟩ = some 0 := by
  unfold f_window_Len
  rw [Loop.run_done (r := 0) rfl]; rfl
theorem win_known0 : f_window_known ⟨0, []⟩ = some [] := by
  unfold f_window_known
  rw [Loop.run_done (r := []) rfl]; rfl
theorem win_Check0 (s r : Int) : ∃ v, f_window_Check ⟨0, []⟩ s r = some v := by
  unfold f_window_Check
  cases ((((decide (s < 1)) || (decide (s > 8))) || (decide (r < 0))) || (decide (r > 4096))) with
  | true => exact ⟨_, rfl⟩
  | false =>
    rw [cond_false, win_Len0, win_known0]
    have e1 : ((decide ((0 : Int) < 0)) || (decide ((0 : Int) > 4611686018427387904))) = false := by decide
    simp only [e1, cond_false, bindS]
    cases decide ((0 : Int) > r) with
    | true => exact ⟨_, rfl⟩
    | false =>
      have e2 : (((([] : List (List Int × Int)).length : Int)) != 0) = false := by decide
      simp only [cond_false, bindS, e2]
      rw [Loop.run_done (r := .inl ()) rfl]
      exact ⟨_, rfl⟩
def zeroSt : Api_State := ⟨0, ⟨0, []⟩⟩
theorem round_Check0 (c : Api_Config) : ∃ v, f_round_Check c zeroSt = some v ∧ (v = 0 ∨ v = 210) := by
  unfold f_round_Check zeroSt
  obtain ⟨b, hb⟩ := right_some c
  obtain ⟨v, hv⟩ := win_Check0 c.Span c.Room
  rw [hb]
  simp only [bindS]
  rw [hv]
  simp only [bindS]
  cases ((!b) || (decide ((0 : Int) < 0))) || (decide ((0 : Int) > 4611686018427387904)) with
  | true => exact ⟨210, rfl, .inr rfl⟩
  | false =>
    simp only [cond_false, bindS]
    cases v != 0 with
    | true => exact ⟨210, rfl, .inr rfl⟩
    | false => exact ⟨0, rfl, .inl rfl⟩
theorem return_bad {c : Api_Config} {m : Api_Memory} {raw : List Int} (h : f_round_Check c zeroSt = some 210) : f_back_Return c m raw = some ([], 0, 210) := by
  unfold f_back_Return
  have h' : f_round_Check c (⟨(0 : Int), (⟨(0 : Int), []⟩ : Api_Window)⟩ : Api_State) = some 210 := h
  rw [h']; rfl
theorem return_same {c d : Api_Config} {m : Api_Memory} {raw : List Int} (h : f_round_Check c zeroSt = some 0) (h2 : f_round_Check d zeroSt = some 0) (e1 : c.Master = d.Master) (e2 : c.Left = d.Left) : f_back_Return c m raw = f_back_Return d m raw := by
  have h' : f_round_Check c (⟨(0 : Int), (⟨(0 : Int), []⟩ : Api_Window)⟩ : Api_State) = some 0 := h
  have h2' : f_round_Check d (⟨(0 : Int), (⟨(0 : Int), []⟩ : Api_Window)⟩ : Api_State) = some 0 := h2
  unfold f_back_Return
  rw [h', h2', e1, e2]
theorem return_ex {c : Api_Config} {m : Api_Memory} {raw : List Int} (hl : raw.length < 2 ^ 30) (hb : byteL raw) (hn : ∀ x ∈ m.Nonces, x.length = 16) : ∃ r, f_back_Return c m raw = some r := by
  obtain ⟨v, hv, hv0⟩ := round_Check0 c
  rcases hv0 with rfl | rfl
  case inr => exact ⟨_, return_bad hv⟩
  have h' : f_round_Check c (⟨(0 : Int), (⟨(0 : Int), []⟩ : Api_Window)⟩ : Api_State) = some 0 := hv
  unfold f_back_Return
  have hroomI : (room : Int) = 17179869184 := rfl
  rw [h']
  simp only [bindS, bne_self_eq_false, cond_false]
  obtain ⟨k, hk, hk0⟩ := back_Check_ex m
  rw [hk]
  simp only [bindS]
  cases hc : (k != 0) || (m.Header.Left != (IntKind.wrap .i64 (c.Left - 1))) with
  | true => exact ⟨_, rfl⟩
  | false =>
    rw [Bool.or_eq_false_iff] at hc
    have gm := hk0 (by simpa using hc.1)
    obtain ⟨b, hbr, hcells⟩ := frame_Read_ex hl hb
    rw [cond_false, hbr]
    simp only [bindS]
    cases b.2.2 != 0 with
    | true => exact ⟨_, rfl⟩
    | false =>
      rw [cond_false]
      cases b.1.Header.Left != m.Header.Left with
      | true => exact ⟨_, rfl⟩
      | false =>
        rw [cond_false]
        cases b.1.Header.Round != m.Header.Round with
        | true => exact ⟨_, rfl⟩
        | false =>
          rw [cond_false]
          cases b.1.Header.Epoch != m.Header.Epoch with
          | true => exact ⟨_, rfl⟩
          | false =>
            rw [cond_false]
            cases hcl : (b.1.Cells.length : Int) != (m.From.length : Int) with
            | true => exact ⟨_, rfl⟩
            | false =>
              have hcl : b.1.Cells.length = m.From.length := by simp at hcl; omega
              rw [cond_false, route_Key]
              simp only [bindS]
              cases hke : (keyS c.Master m.Header.Epoch).2 != 0 with
              | true => exact ⟨_, rfl⟩
              | false =>
                have hkl := keyS_len (key := c.Master) (e := m.Header.Epoch) (by simpa using hke)
                generalize (keyS c.Master m.Header.Epoch).1 = key at *
                obtain ⟨g1, g2⟩ := gm.cnt
                have gn := gm.non
                have gf := gm.from_
                have g : mkB m.Count m.Count = true := by unfold mkB; rw [hroomI]; simp; omega
                have g3 : mkB 320 320 = true := by decide
                rw [cond_false, g, cond_true]
                obtain ⟨n, hnn⟩ : ∃ n : Nat, m.Count = n := ⟨m.Count.toNat, by omega⟩
                rw [hnn] at g1 g2 gn g ⊢
                rw [Int.toNat_natCast]
                rw [run_for (fun i => ((i : Int), part1 n (fun _ => List.replicate 320 (0 : Int)) (fun _ => ([] : List Int)) i)) 0 n (r := (List.range n).map fun _ => List.replicate 320 (0 : Int)) (by omega) ?_ ?_ ?_]
                · simp only [bindS]
                  have loop : ∀ (k i : Nat) (y : List (List Int)), m.From.length - i = k → i ≤ m.From.length → y.length = n → ∃ r : Api_Batch, Loop.run (S := (Int × (List (List Int)))) (R := Api_Batch) (fun (x283, x284) =>
                      bif decide (x283 < (m.From.length : Int)) then
                        (((idx m.From x283).bind fun x339 =>
                        bif decide (x339 < 0) then
                          some x284
                        else
                          (idx m.Nonces x339).bind fun x343 =>
                          (idx b.1.Cells x283).bind fun x345 =>
                          (f_back_answered key x343 c.Left x345).bind fun y347 =>
                          bif y347.2 then
                            (idx x284 x339).bind fun x350 =>
                            some (List.set x284 (Int.toNat x339) y347.1)
                          else
                            some x284
                          : Option (List (List Int)))).bind fun x335 =>
                        some (.next (IntKind.wrap .i64 (x283 + 1), x335))
                      else
                        some (.done (⟨({ m.Header with Left := c.Left } : Api_Header), x284⟩ : Api_Batch))) ((i : Int), y) = some r := by
                    intro k
                    induction k with
                    | zero =>
                      intro i y h1 h2 h3
                      have : i = m.From.length := by omega
                      subst this
                      exact ⟨_, Loop.run_done (bif_ff (decide_eq_false (by omega)))⟩
                    | succ k ih =>
                      intro i y h1 h2 h3
                      have hi : i < m.From.length := by omega
                      have hd : decide ((i : Int) < (m.From.length : Int)) = true := decide_eq_true (by omega)
                      have hat := gm.at_ i hi
                      rw [hnn] at hat
                      have st : ∃ y' : List (List Int), ((idx m.From (i : Int)).bind fun x339 =>
                        bif decide (x339 < 0) then
                          some y
                        else
                          (idx m.Nonces x339).bind fun x343 =>
                          (idx b.1.Cells (i : Int)).bind fun x345 =>
                          (f_back_answered key x343 c.Left x345).bind fun y347 =>
                          bif y347.2 then
                            (idx y x339).bind fun x350 =>
                            some (List.set y (Int.toNat x339) y347.1)
                          else
                            some y
                          : Option (List (List Int))) = some y' ∧ y'.length = n := by
                        rw [idx_nat hi]
                        simp only [bindS]
                        cases hneg : decide (m.From[i] < 0) with
                        | true => exact ⟨y, rfl, h3⟩
                        | false =>
                          have hneg := of_decide_eq_false hneg
                          generalize m.From[i] = z at *
                          obtain ⟨q, rfl⟩ : ∃ q : Nat, z = q := ⟨z.toNat, by omega⟩
                          have hq : q < m.Nonces.length := by omega
                          rw [cond_false, idx_nat hq]
                          simp only [bindS]
                          rw [idx_nat (show i < b.1.Cells.length by omega)]
                          simp only [bindS]
                          obtain ⟨c1, c2⟩ := hcells _ (List.getElem_mem (show i < b.1.Cells.length by omega))
                          obtain ⟨a, ha, _⟩ := answered_ex (key := key) (nonce := m.Nonces[q]) (x := b.1.Cells[i]'(by omega)) (l := c.Left) hkl (hn _ (List.getElem_mem hq)) c2 c1
                          rw [ha]
                          simp only [bindS]
                          cases a.2 with
                          | false => exact ⟨y, rfl, h3⟩
                          | true =>
                            rw [cond_true, idx_nat (show q < y.length by omega)]
                            exact ⟨_, rfl, by rw [List.length_set]; exact h3⟩
                      obtain ⟨y', hy, hl'⟩ := st
                      obtain ⟨r, hr⟩ := ih (i + 1) y' (by omega) (by omega) hl'
                      refine ⟨r, (Loop.run_next ?_).trans hr⟩
                      simp only [hd, cond_true]
                      rw [hy]
                      simp only [bindS]
                      rw [wrap64 (by omega)]; rfl
                  obtain ⟨r, hr⟩ := loop _ 0 ((List.range n).map fun _ => List.replicate 320 (0 : Int)) rfl (by omega) (by simp)
                  rw [show (((0 : Nat) : Int)) = 0 from rfl] at hr
                  rw [hr]
                  simp only [bindS]
                  obtain ⟨p, hp⟩ := frame_Pack_ex r
                  rw [hp]; exact ⟨_, rfl⟩
                · intro i _ hi
                  have h1 : decide ((i : Int) < ((List.replicate n ([] : List Int)).length : Int)) = true := decide_eq_true (by simp; omega)
                  simp only [h1, g3, cond_true]
                  rw [idx_atG (i := i) [] rfl (by rw [part1_len]; exact hi)]
                  simp only [bindS]
                  have t320 : List.replicate (Int.toNat 320) (0 : Int) = List.replicate 320 0 := rfl
                  rw [wrap64 (by omega), Int.toNat_natCast, t320, part1_set (f := fun _ => List.replicate 320 (0 : Int)) hi rfl]; rfl
                · have h1 : decide ((n : Int) < ((List.replicate n ([] : List Int)).length : Int)) = false := decide_eq_false (by simp)
                  simp only [h1, cond_false]
                  rw [part1_n]
                · rw [part1_0]
                  congr 1
                  apply List.ext_getElem
                  · simp
                  · intro i h1 h2; simp
end Go.Proofs.YtobbmodjdkcdcaaGreatDoor

/- LawFrameU: frame.Read answers on every input. -/
import Derived.Test.YtobbmodjdkcdcaaGreatDoorLawFrameT
set_option linter.unusedVariables false
set_option linter.unusedSimpArgs false
set_option maxRecDepth 20000
set_option maxHeartbeats 1000000
namespace Go.Proofs.YtobbmodjdkcdcaaGreatDoor
open Go Go.Sim
def GoodC (cs : List (List Int)) : Prop := ∀ x ∈ cs, x.length ≤ 320 ∧ byteL x
theorem put_ex {f : Frame_Feed} {raw : List Int} {i0 : Nat} (hs : f.stage = i0) (h0 : i0 < 10) (hf : f.field = []) (hl : raw.length < 2 ^ 30) (hb : byteL raw) :
    ∃ r, f_frame_Feed_Put_bv f raw = some r ∧ GoodC r.1 ∧ r.1.length ≤ raw.length := by
  unfold f_frame_Feed_Put_bv
  have hroom : room = 17179869184 := rfl
  obtain ⟨r, hr, hq⟩ := run_ind (S := ((List Int) × (List (List Int)) × (List Int) × Int × Int × Int × Api_Header × Frame_sum × Int × Int)) (R := ((List (List Int)) × (List Int) × Int × Int × Int × Api_Header × Frame_sum × Int × Int))
    (P := fun s => byteL s.1 ∧ s.1.length + s.2.1.length ≤ raw.length ∧ GoodC s.2.1 ∧ s.2.2.1 = [] ∧ (s.2.2.2.2.2.2.2.2.1 = 0 → ∃ j : Nat, j < 10 ∧ s.2.2.2.2.1 = j))
    (Q := fun r => GoodC r.1 ∧ r.1.length ≤ raw.length) (fun s => s.1.length + (if s.2.2.2.2.2.2.2.2.1 = 0 then 1 else 0)) (step := (fun (x324, x326, x328, x329, x330, x331, x332, x333, x334, x335) =>
      bif x334 == 0 then
        (f_frame_Feed_size_b (⟨x328, x329, x330, x331, x332, x333, x334, x335⟩ : Frame_Feed)).bind fun y394 =>
        bif decide ((IntKind.wrap .i64 (y394 - (x328.length : Int))) > (x324.length : Int)) then
          (app x328 x324).bind fun z396 =>
          some (.done (x326, z396, IntKind.wrap .i64 (x329 + (x324.length : Int)), x330, x331, x332, x333, x334, x335))
        else
          (sub x324 0 (IntKind.wrap .i64 (y394 - (x328.length : Int)))).bind fun x403 =>
          (app x328 x403).bind fun z405 =>
          (sub x324 (IntKind.wrap .i64 (y394 - (x328.length : Int))) (x324.length : Int)).bind fun x409 =>
          ((bif x330 == 7 then
            (f_slices_Clone_ro z405).bind fun y430 =>
            (app x326 [y430]).bind fun z433 =>
            some z433
          else
            some x326
            : Option (List (List Int)))).bind fun x418 =>
          (f_frame_Feed_judge_b (⟨z405, IntKind.wrap .i64 (x329 + (IntKind.wrap .i64 (y394 - (x328.length : Int)))), x330, x331, x332, x333, x334, x335⟩ : Frame_Feed)).bind fun y422 =>
          bif y422.1 != 0 then
            some (.done (x418, y422.2.field, y422.2.at_, y422.2.stage, y422.2.left, y422.2.header, y422.2.sum, y422.1, IntKind.wrap .i64 (y422.2.at_ - (y422.2.field.length : Int))))
          else
            bif decide ((0 : Int) ≤ 0 ∧ (0 : Int) ≤ 0 ∧ (0 : Int) ≤ (y422.2.field.length : Int)) then
            some (.next (x409, x418, List.take (Int.toNat 0) y422.2.field, y422.2.at_, y422.2.stage, y422.2.left, y422.2.header, y422.2.sum, y422.1, y422.2.place))
            else none
      else
        some (.done (x326, x328, x329, x330, x331, x332, x333, x334, x335)) : _ → Option (Ctl _ _)))
    (s := (raw, [], f.field, f.at_, f.stage, f.left, f.header, f.sum, f.err, f.place)) (fun s hs => by
      obtain ⟨piece, cells, field, at_, stage, left, header, sum, err, place⟩ := s
      obtain ⟨p1, p2, p3, p4, p5⟩ := hs
      simp only at p1 p2 p3 p4 p5
      subst p4
      cases he : (err == 0) with
      | false =>
        left
        simp only [he, cond_false]
        refine ⟨_, rfl, ?_, ?_⟩
        · exact p3
        · show cells.length ≤ raw.length; omega
      | true =>
        have he0 : err = 0 := by simpa using he
        subst he0
        obtain ⟨j, hj, hsj⟩ := p5 rfl
        obtain ⟨z1, z2, z3⟩ := sizes_at j hj
        simp only [cond_true]
        rw [feed_size (f := ⟨[], at_, stage, left, header, sum, 0, place⟩) hsj hj]
        simp only [bindS, List.length_nil]
        generalize hn : sizes.getD j 0 = n at *
        have e0 : ∀ m : Int, m - ((0 : Nat) : Int) = m := fun m => by simp
        have en : IntKind.wrap .i64 n = n := wrap64 (by omega)
        simp only [e0, en]
        cases hc : decide (n > (piece.length : Int)) with
        | true =>
          left
          simp only [cond_true]
          rw [app_eq (by rw [hroom]; simp; omega)]
          refine ⟨_, rfl, ?_, ?_⟩
          · exact p3
          · show cells.length ≤ raw.length; omega
        | false =>
          have hc' := of_decide_eq_false hc
          simp only [cond_false]
          rw [sub_take (h := n) (j := n.toNat) (by omega) (by omega)]
          simp only [bindS]
          have tl : (piece.take n.toNat).length = n.toNat := by rw [List.length_take]; omega
          have tb : byteL (piece.take n.toNat) := fun b h => p1 b (List.mem_of_mem_take h)
          rw [app_eq (by rw [hroom]; simp; omega)]
          simp only [bindS, List.nil_append]
          rw [sub_nat (l := n) (i := n.toNat) (j := piece.length) (by omega) rfl (by omega) (Nat.le_refl _)]
          simp only [bindS, List.take_length]
          generalize piece.take n.toNat = w at *
          have ecl : ∃ cs, (bif stage == 7 then (f_slices_Clone_ro w).bind fun y430 => (app cells [y430]).bind fun z433 => some z433 else some cells : Option (List (List Int))) = some cs ∧ GoodC cs ∧ cs.length ≤ cells.length + 1 := by
            cases stage == 7 with
            | false => exact ⟨_, rfl, p3, by omega⟩
            | true =>
              simp only [cond_true]
              have hcl : f_slices_Clone_ro w = some w := by
                unfold f_slices_Clone_ro
                rw [app_eq (by rw [hroom]; simp; omega)]; rfl
              rw [hcl]
              simp only [bindS]
              rw [app_eq (by rw [hroom]; simp; omega)]
              refine ⟨_, rfl, fun x hx => ?_, by simp⟩
              rcases List.mem_append.1 hx with hx | hx
              · exact p3 x hx
              · have := List.mem_singleton.1 hx; subst this; exact ⟨by omega, tb⟩
          obtain ⟨cs, e1, e2, e3⟩ := ecl
          rw [e1]
          simp only [bindS]
          obtain ⟨r, hr, hrf, hrs⟩ := judge_ex (f := ⟨w, IntKind.wrap .i64 (at_ + n), stage, left, header, sum, 0, place⟩) hsj hj (by simp only; omega) (by simp only; omega)
          rw [hr]
          simp only [bindS]
          have hdl : (piece.drop n.toNat).length = piece.length - n.toNat := by simp
          cases hr1 : (r.1 != 0) with
          | true =>
            left
            simp only [cond_true]
            refine ⟨_, rfl, ?_, ?_⟩
            · exact e2
            · show cs.length ≤ raw.length; omega
          | false =>
            have hr0 : r.1 = 0 := by simpa using hr1
            right
            have g : decide ((0 : Int) ≤ 0 ∧ (0 : Int) ≤ 0 ∧ (0 : Int) ≤ (r.2.field.length : Int)) = true := decide_eq_true (by omega)
            simp only [cond_false, g, cond_true]
            refine ⟨_, rfl, ⟨?_, ?_, ?_, ?_, ?_⟩, ?_⟩
            · exact fun b h => p1 b (List.mem_of_mem_drop h)
            · show (piece.drop n.toNat).length + cs.length ≤ raw.length; omega
            · exact e2
            · rfl
            · exact fun _ => hrs hr0
            · show (piece.drop n.toNat).length + (if r.1 = 0 then 1 else 0) < piece.length + (if (0 : Int) = 0 then 1 else 0)
              simp only [hr0, if_true]; omega) ⟨hb, by simp, fun x hx => (by cases hx), hf, fun _ => ⟨i0, h0, hs⟩⟩
  rw [hr]
  exact ⟨_, rfl, hq⟩
theorem frame_Read_ex {raw : List Int} (hl : raw.length < 2 ^ 30) (hb : byteL raw) : ∃ r, f_frame_Read raw = some r ∧ GoodC r.1.Cells := by
  unfold f_frame_Read f_frame_New_rbox
  simp only [bindS]
  obtain ⟨r, hr, hg, _⟩ := put_ex (f := ⟨[], 0, 0, 0, ⟨0, 0, 0⟩, ⟨1, 0⟩, 0, 0⟩) (i0 := 0) rfl (by omega) rfl hl hb
  rw [hr]
  simp only [bindS]
  cases r.2.1 == 0 with
  | false => exact ⟨_, rfl, fun x hx => (by cases hx)⟩
  | true =>
    simp only [cond_true]
    have he : ∃ y, f_frame_Feed_End_b (⟨r.2.2.field, r.2.2.at_, r.2.2.stage, r.2.2.left, r.2.2.header, r.2.2.sum, r.2.2.err, r.2.2.place⟩ : Frame_Feed) = some y := by
      unfold f_frame_Feed_End_b
      simp only
      cases r.2.2.err != 0 with
      | true => exact ⟨_, rfl⟩
      | false => cases decide (r.2.2.stage < 9) <;> exact ⟨_, rfl⟩
    obtain ⟨y, hy⟩ := he
    rw [hy]
    simp only [bindS]
    cases y.2 == 0 with
    | true => exact ⟨_, rfl, hg⟩
    | false => exact ⟨_, rfl, fun x hx => (by cases hx)⟩
end Go.Proofs.YtobbmodjdkcdcaaGreatDoor

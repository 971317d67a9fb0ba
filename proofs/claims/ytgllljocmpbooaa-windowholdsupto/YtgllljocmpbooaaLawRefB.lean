/- LawRefB: churnref16.Add: the loop over the epochs. -/
import Derived.Test.YtgllljocmpbooaaLawAddDB
set_option linter.unusedVariables false
set_option linter.unusedSimpArgs false
namespace Go.Proofs.Ytgllljocmpbooaa
open Go Go.Sim
theorem wrapN {i : Nat} (h : i ≤ 4000000) : IntKind.i64.wrap ((i : Int) + 1) = ((i + 1 : Nat) : Int) := by rw [wrap64 (by omega)]; simp
theorem sorted_is {xs : List (List Int)} (ht : Tags xs) (hl : xs.length ≤ 1048576) (hn : xs.Nodup) : f_churnref16_sorted 64 xs = some (msort xs) := by
  obtain ⟨ys, h1, h2, h3, _⟩ := sorted_eq 63 xs ht hl (Nat.le_trans hl (by decide))
  rw [h1, rises_unique h2 (msort_rises ht hn) fun t => by rw [h3, (msort_perm xs).mem_iff]]
theorem filter_rises {a : List (List Int)} {p : List Int → Bool} (h : Rises a) : Rises (a.filter p) := h.filter _
section
variable {w : Api_Window}
noncomputable def refStep (w : Api_Window) (ep : Int) (ad : List (List Int)) : Bool × Int × List Api_Epoch → Option (Ctl (Bool × Int × List Api_Epoch) Api_Window) := fun (x1417, x1418, x1420) =>
            bif decide (x1418 ≤ (w.Epochs.length : Int)) then
              ((((bif !x1417 then
                ((bif x1418 == (w.Epochs.length : Int) then
                  some true
                else
                  (idx w.Epochs x1418).bind fun x1554 =>
                  some (decide (x1554.Number > ep))
                  : Option Bool)).bind fun x1553 =>
                some x1553
              else
                some false
                : Option Bool)).bind fun x1550 =>
              bif x1550 then
                (app x1420 [(⟨ep, ad⟩ : Api_Epoch)]).bind fun z1556 =>
                some (true, z1556)
              else
                some (x1417, x1420)
                : Option (Bool × (List Api_Epoch)))).bind fun r1509 => match r1509 with
                | (x1506, x1508) =>
                  bif x1418 == (w.Epochs.length : Int) then
                    some (.done (⟨w.Newest, x1508⟩ : Api_Window))
                  else
                    (idx w.Epochs x1418).bind fun x1514 =>
                    (app [] x1514.Tags).bind fun z1517 =>
                    ((bif (x1514.Number == ep) && (!x1506) then
                      (app z1517 ad).bind fun z1540 =>
                      (f_churnref16_sorted 64 z1540).bind fun y1543 =>
                      some (true, y1543)
                    else
                      some (x1506, z1517)
                      : Option (Bool × (List (List Int))))).bind fun r1530 => match r1530 with
                      | (x1528, x1529) =>
                        (app x1508 [(⟨x1514.Number, x1529⟩ : Api_Epoch)]).bind fun z1533 =>
                        some (.next (x1528, IntKind.wrap .i64 (x1418 + 1), z1533))
            else
              some (.done (⟨w.Newest, x1420⟩ : Api_Window))
theorem ref_put (hw : GoodW w) {ep : Int} {ad : List (List Int)} (hre : ∀ e ∈ w.Epochs, Rises e.Tags) (hra : Rises ad) (hta : Tags ad) (hla : ad.length ≤ 4096) (hle : ∀ e ∈ w.Epochs, e.Tags.length ≤ 4096) (hnd : ∀ e ∈ w.Epochs, (ad ++ e.Tags).Nodup) {i : Nat} (hi : i < w.Epochs.length) (s : List Api_Epoch × Bool) (hs : s.1.length ≤ 4000000)  :
    refStep w ep ad (s.2, (i : Int), s.1.map sortE) = some (.next ((stepI ep ad s w.Epochs[i]).2, ((i + 1 : Nat) : Int), (stepI ep ad s w.Epochs[i]).1.map sortE)) := by
  have hwe := hw.eps
  have h1 : decide ((i : Int) ≤ (w.Epochs.length : Int)) = true := by simp; omega
  have h2 : ((i : Int) == (w.Epochs.length : Int)) = false := by simp; omega
  unfold refStep
  simp only [h1, h2, cond_true, cond_false, idx_nat hi, Option.bind_some, wrapN (show i ≤ 4000000 by omega)]
  obtain ⟨acc, m⟩ := s
  simp only at hs
  have hm := List.getElem_mem hi
  have hte := ep_tags hw hi
  have hse : sortE w.Epochs[i] = w.Epochs[i] := by unfold sortE; rw [msort_self hte (hre _ hm)]
  have hsa : sortE ⟨ep, ad⟩ = ⟨ep, ad⟩ := by unfold sortE; simp only; rw [msort_self hta hra]
  have hl2 := hle _ hm
  have hap : app [] w.Epochs[i].Tags = some w.Epochs[i].Tags := by rw [app_eq (by simp [room]; omega)]; rfl
  have happ : ∀ (x : List Api_Epoch) (y : Api_Epoch), x.length ≤ 4000001 → app x [y] = some (x ++ [y]) := fun x y h => app_eq (by simp [room]; omega)
  cases m with
  | true =>
    simp only [Bool.not_true, cond_false, Option.bind_some, hap, Bool.and_false]
    rw [happ _ _ (by simp; omega)]
    simp [stepI, hse]
  | false =>
    simp only [Bool.not_false, cond_true, Option.bind_some]
    cases hgt : decide (w.Epochs[i].Number > ep) with
    | true =>
      have hge : decide (w.Epochs[i].Number ≥ ep) = true := by simp at hgt ⊢; omega
      simp only [cond_true]
      rw [happ _ _ (by simp; omega)]
      simp only [Option.bind_some, hap, Bool.not_true, Bool.and_false, cond_false]
      rw [happ _ _ (by simp; omega)]
      simp [stepI, hge, hgt, hse, hsa]
    | false =>
      simp only [cond_false, Option.bind_some, hap, Bool.not_false, Bool.and_true]
      cases heq : (w.Epochs[i].Number == ep) with
      | true =>
        have hge : decide (w.Epochs[i].Number ≥ ep) = true := by simp at heq ⊢; omega
        have hnd' : (w.Epochs[i].Tags ++ ad).Nodup := (List.perm_append_comm.nodup_iff).1 (hnd _ hm)
        have htt : Tags (w.Epochs[i].Tags ++ ad) := fun t h => by
          rcases List.mem_append.1 h with h | h
          · exact hte t h
          · exact hta t h
        simp only [cond_true]
        rw [app_eq (by simp [room]; omega), Option.bind_some, sorted_is htt (by simp; omega) hnd']
        simp only [Option.bind_some]
        rw [happ _ _ (by simp; omega)]
        have : msort (w.Epochs[i].Tags ++ ad) = msort (ad ++ w.Epochs[i].Tags) := msort_congr htt hnd' List.perm_append_comm
        simp [stepI, hge, hgt, sortE, this]
      | false =>
        have hge : decide (w.Epochs[i].Number ≥ ep) = false := by simp at heq hgt ⊢; omega
        simp only [cond_false, Option.bind_some]
        rw [happ _ _ (by simp; omega)]
        simp [stepI, hge, hgt, hse]
/-- The whole loop. -/
theorem ref_loop (hw : GoodW w) {ep : Int} {ad : List (List Int)} (hre : ∀ e ∈ w.Epochs, Rises e.Tags) (hra : Rises ad) (hta : Tags ad) (hla : ad.length ≤ 4096) (hle : ∀ e ∈ w.Epochs, e.Tags.length ≤ 4096) (hnd : ∀ e ∈ w.Epochs, (ad ++ e.Tags).Nodup) :
    Loop.run (refStep w ep ad) ((ad.length : Int) == 0, 0, []) = some ⟨w.Newest, (putI w.Epochs ep ad).map sortE⟩ := by
  have hwe := hw.eps
  rw [Loop.run_eq0 (st := fun i => (((w.Epochs.take i).foldl (stepI ep ad) ([], (ad.length : Int) == 0)).2, (i : Int), ((w.Epochs.take i).foldl (stepI ep ad) ([], (ad.length : Int) == 0)).1.map sortE)) (res := fun _ => (⟨w.Newest, (putI w.Epochs ep ad).map sortE⟩ : Api_Window)) (n := w.Epochs.length)]
  · intro i hi
    left
    have hlen := foldI_len (ep := ep) (ad := ad) (es := w.Epochs.take i) (s := ([], (ad.length : Int) == 0))
    simp only [List.length_nil, List.length_take] at hlen
    refine ⟨?_, rfl⟩
    rw [ref_put hw hre hra hta hla hle hnd hi _ (by omega)]
    simp only [ep_step hi]
  · have hlen := foldI_len (ep := ep) (ad := ad) (es := w.Epochs) (s := ([], (ad.length : Int) == 0))
    have hsa : sortE ⟨ep, ad⟩ = ⟨ep, ad⟩ := by unfold sortE; simp only; rw [msort_self hta hra]
    simp only [List.take_length, putI, insI]
    simp only [List.length_nil] at hlen
    generalize w.Epochs.foldl (stepI ep ad) ([], (ad.length : Int) == 0) = s at hlen ⊢
    obtain ⟨acc, m⟩ := s
    simp only at hlen
    have h1 : decide ((w.Epochs.length : Int) ≤ (w.Epochs.length : Int)) = true := by simp
    unfold refStep
    cases m with
    | true => simp [h1]
    | false =>
      simp only [h1, cond_true, Bool.not_false, beq_self_eq_true, Option.bind_some, cond_false]
      rw [app_eq (by simp [room]; omega)]
      simp [hsa]
  · simp
end
end Go.Proofs.Ytgllljocmpbooaa

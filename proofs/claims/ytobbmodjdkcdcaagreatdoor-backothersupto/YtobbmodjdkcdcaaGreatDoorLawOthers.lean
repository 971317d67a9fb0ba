/- LawOthers: BackOthers, but for the look at the start. -/
import Derived.Test.YtobbmodjdkcdcaaGreatDoorLawBackS
import Derived.Test.YtobbmodjdkcdcaaGreatDoorBackOthersS
set_option linter.unusedVariables false
set_option linter.unusedSimpArgs false
set_option maxRecDepth 20000
namespace Go.Proofs.YtobbmodjdkcdcaaGreatDoor
open Go Go.Sim
theorem bytes_le (xs : List Int) : xs.length ≤ bSl (bOne (α := Int)) xs := by
  have h : bSl (bOne (α := Int)) xs = (xs.map (bOne (α := Int))).sum + 1 := rfl
  rw [h]
  have : ∀ ys : List Int, ys.length ≤ (ys.map (bOne (α := Int))).sum := by
    intro ys
    induction ys with
    | nil => simp
    | cons y ys ih => simp [bOne] at ih ⊢; omega
  have := this xs
  omega
theorem others_of (ha : f_churnlaw29_awake = some true) : DBackOthers.Law := by
  intro a x ga gx hb
  obtain ⟨gc, gm, gr, _⟩ := ga
  have hraw : byteL a.Raw := fun b h => gr.1 b h
  have hba : b_Churnlaw29_Answer a = b_Api_Config a.C + (b_Api_Memory a.M + (bSl bOne a.Raw + 0)) := rfl
  have hlen := bytes_le a.Raw
  have hl : a.Raw.length < 2 ^ 30 := by omega
  have hn : ∀ q ∈ a.M.Nonces, q.length = 16 := fun q hq => by
    obtain ⟨_, _, _, g4, _⟩ := gm
    exact (g4.1 q hq).2
  unfold f_churnlaw29_BackOthers
  rw [ha]
  simp only [bindS, Bool.not_true, cond_false]
  generalize hd : ({ ({ ({ ({ ({ ({ ({ ({ ({ a.C with Span := x.Span } : Api_Config) with Room := x.Room } : Api_Config) with Num := x.Num } : Api_Config) with Den := x.Den } : Api_Config) with Noise := x.Noise } : Api_Config) with Chunks := x.Chunks } : Api_Config) with Workers := x.Workers } : Api_Config) with Cap := x.Cap } : Api_Config) with Shards := x.Shards } : Api_Config) = d
  have e1 : a.C.Master = d.Master := by rw [← hd]
  have e2 : a.C.Left = d.Left := by rw [← hd]
  obtain ⟨r1, h1⟩ := return_ex (c := a.C) (m := a.M) hl hraw hn
  obtain ⟨r2, h2⟩ := return_ex (c := d) (m := a.M) hl hraw hn
  obtain ⟨v1, k1, o1⟩ := round_Check0 a.C
  obtain ⟨v2, k2, o2⟩ := round_Check0 d
  have k1' : f_round_Check a.C (⟨(0 : Int), (⟨(0 : Int), []⟩ : Api_Window)⟩ : Api_State) = some v1 := k1
  have k2' : f_round_Check d (⟨(0 : Int), (⟨(0 : Int), []⟩ : Api_Window)⟩ : Api_State) = some v2 := k2
  rw [h1, h2]
  simp only [bindS]
  rw [k1', k2']
  simp only [bindS]
  rcases o1 with rfl | rfl
  · simp only [bne_self_eq_false, cond_false]
    rcases o2 with rfl | rfl
    · have := return_same (m := a.M) (raw := a.Raw) k1 k2 e1 e2
      rw [h1, h2] at this
      have := Option.some.inj this
      subst this
      simp
    · have := return_bad (m := a.M) (raw := a.Raw) k2
      rw [h2] at this
      have := Option.some.inj this
      subst this
      rfl
  · have := return_bad (m := a.M) (raw := a.Raw) k1
    rw [h1] at this
    have := Option.some.inj this
    subst this
    rfl
end Go.Proofs.YtobbmodjdkcdcaaGreatDoor

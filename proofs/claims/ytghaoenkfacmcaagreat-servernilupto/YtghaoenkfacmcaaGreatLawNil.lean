/- LawNil: a nil server, asked anything, answers as the document's server that is none. -/
import Derived.Test.YtghaoenkfacmcaaGreatServerNilS
import Derived.Test.YtghaoenkfacmcaaGreatSim17
set_option linter.unusedVariables false
set_option linter.unusedSimpArgs false
set_option maxRecDepth 20000
namespace Go.Proofs.YtghaoenkfacmcaaGreat
open Go Go.Sim

/-- The server that is none. -/
def srv0 : Churnref24_Server := ⟨false, (⟨[], 0, 0, 0, 0, 0, 0, 0, 0, 0, 0⟩ : Api_Config), (⟨0, (⟨0, []⟩ : Api_Window)⟩ : Api_State), []⟩
def out0 : Api_Outcome := ⟨[], (⟨0, (⟨0, []⟩ : Api_Window)⟩ : Api_State), (⟨0, 0, 0, 0, 0⟩ : Api_Report), 210, 0⟩
theorem nil_awake : f_churnlaw24_awake = some true := by
  unfold f_churnlaw24_awake f_server_Server_Put_nv f_server_Server_Round_nvvvv f_server_Server_Finish_nv f_server_Server_State_n; rfl
theorem nil_round (e : Int) (r t : List Int) : f_churnref24_Round srv0 e r t = some (out0, srv0) := by unfold f_churnref24_Round; rfl
theorem nil_put (r : List Int) : f_churnref24_Put srv0 r = some srv0 := by unfold f_churnref24_Put; rfl
theorem nil_finish (t : List Int) : f_churnref24_Finish srv0 t = some (out0, srv0) := by
  unfold f_churnref24_Finish; rw [nil_round]; rfl
theorem nil_state : f_churnref24_SameState (⟨0, (⟨0, []⟩ : Api_Window)⟩ : Api_State) srv0.S = some true := by
  unfold f_churnref24_SameState
  rw [Loop.run_done (r := .inl ()) (by rfl)]; rfl
theorem nil_same : f_churnref24_SameOutcome out0 out0 = some true := by
  have h : f_churnref24_SameState out0.State out0.State = some true := nil_state
  unfold f_churnref24_SameOutcome
  rw [h]; rfl
theorem nil_played {l : List Churnlaw24_Step} (hl : l.length < 9223372036854775808) : f_churnlaw24_played_nvv srv0 l = some true := by
  unfold f_churnlaw24_played_nvv
  rw [Loop.run_eq0 (st := fun i => ((i : Int), srv0)) (res := fun _ => .inl ()) (n := l.length)]
  · rfl
  · intro i hi
    left
    refine ⟨?_, rfl⟩
    have h1 : (i : Int) < (l.length : Int) := by omega
    have hw : IntKind.wrap .i64 ((i : Int) + 1) = ((i + 1 : Nat) : Int) := by rw [wrap64 (by omega)]; omega
    simp only [h1, decide_true, cond_true, idx_nat hi, Option.bind_some, nil_round, nil_put, nil_finish, f_server_Server_Round_nvvvv, f_server_Server_Put_nv, f_server_Server_Finish_nv, f_server_Server_State_n, nil_state, hw]
    have hs : f_churnref24_SameOutcome (⟨[], (⟨0, (⟨0, []⟩ : Api_Window)⟩ : Api_State), (⟨0, 0, 0, 0, 0⟩ : Api_Report), 210, 0⟩ : Api_Outcome) out0 = some true := nil_same
    cases (l[i].Kind == 1) <;> cases (l[i].Kind == 2) <;> cases (l[i].Kind == 3) <;> cases (l[i].Kind == 4) <;> simp [hs]
  · simp
  · rfl
theorem serverNil : Rows.ServerNilUptoSaid := DServerNil.said fun x0 hg _ => by
  unfold f_churnlaw24_ServerNil
  rw [nil_awake]
  have h : x0.length < 9223372036854775808 := by have := hg.2; simp only [maxLen] at this; omega
  have := nil_played h
  simp only [Option.bind_some, Bool.not_true, cond_false]
  rw [show (⟨false, (⟨[], 0, 0, 0, 0, 0, 0, 0, 0, 0, 0⟩ : Api_Config), (⟨0, (⟨0, []⟩ : Api_Window)⟩ : Api_State), []⟩ : Churnref24_Server) = srv0 from rfl, this]
  rfl
end Go.Proofs.YtghaoenkfacmcaaGreat

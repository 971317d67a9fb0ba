/- Sim28: a row that lets goroutines leave, from the row that does not. -/
import Derived.Test.YtgllljocmpbooaaSim16
import Derived.ClaimOpenTies
import Derived.Leaving
set_option linter.unusedVariables false
namespace Go.Sim
open Go
theorem leaving_of_alone {P : Program} (m : Machine) (w : World) (t : Trace) (h : aloneAtReturn P m w t) : leavingAtReturn P m w t := ⟨h.2.1, onlyLeaving_of_quiet h.1, h.2.2⟩
def unleave (c : OpenClaim) : OpenClaim := { c with leaving := false }
theorem holds_leaving {p : Pinned} {s : OpenSpec} {c : OpenClaim} (hag : c.again = false) (hst : c.start = .entering) (hs : c.stops = []) (hl : c.leaving = true) (h : (unleave c).holds p s) : c.holds p s := by
  obtain ⟨h1, h2, h3, h4, h5, h6, h7, h8, f, fn, a1, a2, a3, a4, a5, a6, a7, a8, a9, b1, b2, b3, b4, b5, b6, b7, b8, b9, b10, b11, b12, L, c1, c2⟩ := h
  refine ⟨?_, h2, h3, h4, h5, h6, h7, h8, f, fn, a1, a2, a3, a4, a5, a6, a7, a8, a9, b1, b2, b3, b4, b5, b6, b7, b8, b9, b10, b11, b12, L, c1, fun os w1 w2 H enc inj => ?_⟩
  · have : (unleave c).wf s = c.wf s := by
      cases c; simp only at hag; subst hag; rfl
    rw [← this]; exact h1
  · have h9 := c2 os w1 w2 H enc inj
    unfold OpenClaim.form at h9 ⊢
    have e1 : (unleave c).start = .entering := hst
    have e2 : (unleave c).stops = [] := hs
    rw [e1, e2] at h9
    rw [hst, hs]
    intro F
    refine ReturnsInOpen.mono (fun m w t h => ?_) (fun _ h => h) (h9 F)
    have h : (unleave c).atReturn p.checked.prog m w t := h
    unfold OpenClaim.atReturn at h ⊢
    rw [hl]
    exact leaving_of_alone m w t h
end Go.Sim

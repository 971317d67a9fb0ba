/- LawBits: numbers of a width; loops; places. -/
import Derived.Test.YtobbmodjdkcdcaaGreatDoorSimC
set_option linter.unusedVariables false
set_option linter.unusedSimpArgs false
namespace Go.Sim
open Go
theorem idx_atG {α : Type} {xs : List α} {z : Int} {i : Nat} (d : α) (hz : z = i) (h : i < xs.length) : idx xs z = some (xs.getD i d) := by
  subst hz; rw [idx_nat h]; simp [h]
theorem bindS {α β : Type} (a : α) (f : α → Option β) : (some a).bind f = f a := rfl
/-! ### 32 bits -/
/-! ### Loops -/
end Go.Sim

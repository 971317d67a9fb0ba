/- Sim31: small rules for them. -/
import Derived.Test.YtgllljocmpbooaaSim30
set_option linter.unusedVariables false
set_option linter.unusedSimpArgs false
namespace Go.Sim
open Go
section
variable {P : Program} {ops : Array Oper} {Q : Exit → Act → World → Prop} {rest : List Oper} {F0 : Fz} {n : Nat} {E : List (Nat × SV)} {L : List Res}
variable {d : Nat} {op : Op} {ty : TypeId} {pos : String} {aft : Array Edge} {s : SV}
theorem Under.lenMany {β γ τ : Type} {KR : Kd γ} {KT : Kd τ} {mk : β → Value → γ} {tg : β → List τ} {TE TT e t : TypeId} {v : Value} {xs : List β} {X : Operand} (hR : Free KR) (hT : Free KT) (ht : P.underlying t = some (.slice e)) (hX : ev E X = some (.raw v)) (hd : Nat.blt d n = true)
    (k : Under F0 n ((d, .raw (.int .i64 xs.length)) :: E) (manyR KR KT mk tg TE TT v xs :: L) (wpList P ops Q rest)) : Under F0 n E (manyR KR KT mk tg TE TT v xs :: L) (wpList P ops Q (⟨some d, .call ⟨.builtin .len, #[X], #[t]⟩, ty, pos, aft, none⟩ :: rest)) := fun F a w h0 hE hS => by
  obtain ⟨qs, hl, hS2⟩ := hS.manyOpen hR hT
  have hlen : (List.zipWith mk xs qs).length = xs.length := by simp [hl]
  refine Under.lenO (L := owns KT tg TT xs qs ++ L) ht hX hd (fun F a w h0 hE hS3 => ?_) F a w h0 hE hS2
  rw [hlen] at hE
  exact k F a w h0 hE (St.manyClose hl hS3)
theorem Under.manyCell {β γ τ : Type} {KR : Kd γ} {KT : Kd τ} {mk : β → Value → γ} {tg : β → List τ} {TE TT : TypeId} {v : Value} {xs : List β} {X : Act → World → Prop} (hR : Free KR) (hT : Free KT) (k : v.oneCell' = true → Under F0 n E (manyR KR KT mk tg TE TT v xs :: L) X) : Under F0 n E (manyR KR KT mk tg TE TT v xs :: L) X := fun F a w h0 hE hS => by
  obtain ⟨qs, hl, hS2⟩ := hS.manyOpen hR hT
  obtain ⟨f, hf, _⟩ := hS2
  refine k ?_ F a w h0 hE hS
  rcases hf with ⟨rfl, _⟩ | ⟨g, cap, cur, rfl, _⟩ <;> rfl
theorem Under.modeD {b : Bool} {r : Res} {X : Act → World → Prop} (k : Under F0 n E (bif b then L else r :: L) X) : Under F0 n E (r :: L) X := by
  cases b with
  | true => exact Under.dropr k
  | false => exact k
theorem Under.back {L' : List Res} {X : Act → World → Prop} (h : ∀ F w, St F w L → St F w L') (k : Under F0 n E L' X) : Under F0 n E L X := fun F a w h0 hE hS => k F a w h0 hE (h F w hS)
/-- An operation of a group that gives an own slice. -/
theorem Aq.owr {α : Type} {K : Kd α} {v : Value} {e : TypeId} {xs : List α} {Q' : Exit → Act → World → Prop} : Under F0 n ((d, .raw v) :: E) (.own K v e xs :: L) (wpList P ops (Exit.then (PostA F0 n L d (fun v => .val kRaw v) (fun v => .own K v e xs)) Q') []) :=
  Under.ownCell fun hc F a w h0 hE hS => by
    refine ⟨F, v, h0, ⟨hE.defers, hE.size, fun u r e => ?_⟩, hS⟩
    rw [look_cons] at e; split at e
    · rename_i hk; subst hk; cases e
      obtain ⟨u, h1, h2⟩ := hE.at_ d (.raw v) (by rw [look_cons]; simp)
      simp only [SV.ok] at h2 ⊢
      subst h2
      exact ⟨_, h1, [u], ⟨rfl, hc⟩, rfl⟩
    · cases e
end
end Go.Sim

/- A part of the card: closed facts of the program and of the row. -/
import Derived.Test.YtcicblljnenhoaaGreatDoorRows
import Derived.Test.YtcicblljnenhoaaGreatDoorKa
import Derived.JoinedOf
import Derived.SevenTiedAt
namespace Go.Proofs.YtcicblljnenhoaaGreatDoor
open Go
set_option maxRecDepth 100000
theorem c_go (f : FuncId) : Tryz.pinned.checked.prog.goes f = false := by
  have h : ∀ g : Nat, (Tryz.pinned.checked.prog.funcs[g]?).any Func.goes = false := fun g => by
    cases e : Tryz.pinned.checked.prog.funcs[g]? with
    | none => rfl
    | some fn =>
      cases e2 : fn.goes with
      | false => simpa using e2
      | true =>
        have h1 := c_goes
        obtain ⟨hg, h2⟩ := Array.getElem?_eq_some_iff.1 e
        rw [Array.any_eq_false] at h1
        have := h1 g hg
        rw [h2, e2] at this
        exact absurd rfl this
  unfold Program.goes
  rw [c_goes, Bool.and_false, Bool.or_false, List.any_eq_false]
  intro g _
  rw [h g]
  decide
theorem goesBy_of {P : Program} (h : ∀ f, P.goes f = false) (c : OpenClaim) : false = c.goesBy P := by
  have h1 : ∀ o : Option FuncId, o.any P.goes = false := fun o => by cases o <;> simp [h]
  have h2 : P.inits.toList.any P.goes = false := by simp [h]
  unfold OpenClaim.goesBy Program.goesAt Program.goesFrom
  rw [h1]
  cases c.start
  · rfl
  · exact h2.symm
  · exact h2.symm
end Go.Proofs.YtcicblljnenhoaaGreatDoor

/- A part of the card: closed facts of the program and of the row. -/
import Derived.Test.YtcicblljnenhoaaGreatDoorRows
import Derived.Test.YtcicblljnenhoaaGreatDoorKb
import Derived.JoinedOf
import Derived.SevenTiedAt
namespace Go.Proofs.YtcicblljnenhoaaGreatDoor
open Go
set_option maxRecDepth 100000
theorem o5_name : Tryz.pinned.checked.prog.funcNamed Rows.labLinesRow.func = some 5 := by kernel_rfl
theorem o5_wf : Rows.labLinesRow.wf (OpenSpec.ofChange Rows.labLinesSpec) = true := by kernel_rfl
theorem o5_tie : namedTie Tryz.pinned.checked.prog Rows.labLinesRow.named Rows.labLinesSpec.vars = true := by kernel_rfl
theorem o5_place : (Rows.labLinesRow.inPlace == Tryz.pinned.checked.prog.inPlace 5) = true := by kernel_rfl
theorem o5_unf : (Rows.labLinesRow.unfollowed == Tryz.pinned.checked.prog.unfollowed 5) = true := by kernel_rfl
theorem o5_rec : (Rows.labLinesRow.recurses == Tryz.pinned.checked.prog.recurses 5) = true := by kernel_rfl
theorem o5_named : (Rows.labLinesRow.named == Tryz.pinned.checked.prog.varsNamed 5) = true := by kernel_rfl
theorem o5_keys : (Rows.labLinesRow.plainKeys == Tryz.pinned.checked.prog.plainKeys) = true := by kernel_rfl
theorem o5_lift : (Rows.labLinesRow.lifted == Tryz.pinned.checked.prog.liftsFinal) = true := by kernel_rfl
theorem o5_make : (Tryz.pinned.checked.prog.make == some Rows.labLinesRow.make) = true := by kernel_rfl
theorem o5_veil : Rows.labLinesRow.veiledFits Tryz.pinned.checked.prog Tryz.f5.params.toList (Tryz.f5.params.toList ++ Rows.labLinesSpec.plain.varTypes Tryz.pinned.checked.prog ++ Tryz.f5.resultTypes.toList) = true := by kernel_rfl
theorem o5_wft : Rows.labLinesRow.wfByText (OpenSpec.ofChange Rows.labLinesSpec) = true := by kernel_rfl
theorem o5_inst : Tryz.f5.isInstance Tryz.pinned.checked.prog Rows.labLinesRow.origin Rows.labLinesRow.targs := of_decide_eq_true (by kernel_rfl)
theorem o5_wrap : Tryz.f5.isWrapper Tryz.pinned.checked.prog Rows.labLinesRow.wrapper Rows.labLinesRow.mainSum := by unfold Func.isWrapper; rw [if_neg (of_decide_eq_false (by kernel_rfl))]; exact ⟨rfl, rfl⟩
theorem o5_st : ([9].all fun u => !Tryz.prog.wantsStandIn u) = true := by kernel_rfl
theorem o5_facts : joinedFacts Tryz.pinned.checked.prog 5 Tryz.f5 Rows.labLinesSpec Rows.labLinesRow = true := by
  unfold joinedFacts
  rw [o5_wf, c_laid, c_maps, o5_tie, o5_place, o5_unf, o5_rec, o5_named, o5_keys, c_heard, c_enter, o5_lift, o5_make, o5_veil]
  kernel_rfl
theorem o5_goes : false = Rows.labLinesRow.goesBy Tryz.pinned.checked.prog := goesBy_of c_go _
end Go.Proofs.YtcicblljnenhoaaGreatDoor

/- A part of the card: closed facts of the program and of the row. -/
import Derived.Test.YtcicblljnenhoaaGreatDoorRows
import Derived.Test.YtcicblljnenhoaaGreatDoorKb
import Derived.JoinedOf
import Derived.SevenTiedAt
namespace Go.Proofs.YtcicblljnenhoaaGreatDoor
open Go
set_option maxRecDepth 100000
theorem o4_name : Tryz.pinned.checked.prog.funcNamed Rows.labPlaysRow.func = some 4 := by kernel_rfl
theorem o4_wf : Rows.labPlaysRow.wf (OpenSpec.ofChange Rows.labPlaysSpec) = true := by kernel_rfl
theorem o4_tie : namedTie Tryz.pinned.checked.prog Rows.labPlaysRow.named Rows.labPlaysSpec.vars = true := by kernel_rfl
theorem o4_place : (Rows.labPlaysRow.inPlace == Tryz.pinned.checked.prog.inPlace 4) = true := by kernel_rfl
theorem o4_unf : (Rows.labPlaysRow.unfollowed == Tryz.pinned.checked.prog.unfollowed 4) = true := by kernel_rfl
theorem o4_rec : (Rows.labPlaysRow.recurses == Tryz.pinned.checked.prog.recurses 4) = true := by kernel_rfl
theorem o4_named : (Rows.labPlaysRow.named == Tryz.pinned.checked.prog.varsNamed 4) = true := by kernel_rfl
theorem o4_keys : (Rows.labPlaysRow.plainKeys == Tryz.pinned.checked.prog.plainKeys) = true := by kernel_rfl
theorem o4_lift : (Rows.labPlaysRow.lifted == Tryz.pinned.checked.prog.liftsFinal) = true := by kernel_rfl
theorem o4_make : (Tryz.pinned.checked.prog.make == some Rows.labPlaysRow.make) = true := by kernel_rfl
theorem o4_veil : Rows.labPlaysRow.veiledFits Tryz.pinned.checked.prog Tryz.f4.params.toList (Tryz.f4.params.toList ++ Rows.labPlaysSpec.plain.varTypes Tryz.pinned.checked.prog ++ Tryz.f4.resultTypes.toList) = true := by kernel_rfl
theorem o4_wft : Rows.labPlaysRow.wfByText (OpenSpec.ofChange Rows.labPlaysSpec) = true := by kernel_rfl
theorem o4_inst : Tryz.f4.isInstance Tryz.pinned.checked.prog Rows.labPlaysRow.origin Rows.labPlaysRow.targs := of_decide_eq_true (by kernel_rfl)
theorem o4_wrap : Tryz.f4.isWrapper Tryz.pinned.checked.prog Rows.labPlaysRow.wrapper Rows.labPlaysRow.mainSum := by unfold Func.isWrapper; rw [if_neg (of_decide_eq_false (by kernel_rfl))]; exact ⟨rfl, rfl⟩
theorem o4_st : ([27].all fun u => !Tryz.prog.wantsStandIn u) = true := by kernel_rfl
theorem o4_facts : joinedFacts Tryz.pinned.checked.prog 4 Tryz.f4 Rows.labPlaysSpec Rows.labPlaysRow = true := by
  unfold joinedFacts
  rw [o4_wf, c_laid, c_maps, o4_tie, o4_place, o4_unf, o4_rec, o4_named, o4_keys, c_heard, c_enter, o4_lift, o4_make, o4_veil]
  kernel_rfl
theorem o4_goes : false = Rows.labPlaysRow.goesBy Tryz.pinned.checked.prog := goesBy_of c_go _
end Go.Proofs.YtcicblljnenhoaaGreatDoor

/- A part of the card: closed facts of the program and of the row. -/
import Derived.Test.YtcicblljnenhoaaGreatDoorRows
import Derived.Test.YtcicblljnenhoaaGreatDoorKb
import Derived.JoinedOf
import Derived.SevenTiedAt
namespace Go.Proofs.YtcicblljnenhoaaGreatDoor
open Go
set_option maxRecDepth 100000
theorem o3_name : Tryz.pinned.checked.prog.funcNamed Rows.labOnwardRow.func = some 3 := by kernel_rfl
theorem o3_wf : Rows.labOnwardRow.wf (OpenSpec.ofChange Rows.labOnwardSpec) = true := by kernel_rfl
theorem o3_tie : namedTie Tryz.pinned.checked.prog Rows.labOnwardRow.named Rows.labOnwardSpec.vars = true := by kernel_rfl
theorem o3_place : (Rows.labOnwardRow.inPlace == Tryz.pinned.checked.prog.inPlace 3) = true := by kernel_rfl
theorem o3_unf : (Rows.labOnwardRow.unfollowed == Tryz.pinned.checked.prog.unfollowed 3) = true := by kernel_rfl
theorem o3_rec : (Rows.labOnwardRow.recurses == Tryz.pinned.checked.prog.recurses 3) = true := by kernel_rfl
theorem o3_named : (Rows.labOnwardRow.named == Tryz.pinned.checked.prog.varsNamed 3) = true := by kernel_rfl
theorem o3_keys : (Rows.labOnwardRow.plainKeys == Tryz.pinned.checked.prog.plainKeys) = true := by kernel_rfl
theorem o3_lift : (Rows.labOnwardRow.lifted == Tryz.pinned.checked.prog.liftsFinal) = true := by kernel_rfl
theorem o3_make : (Tryz.pinned.checked.prog.make == some Rows.labOnwardRow.make) = true := by kernel_rfl
theorem o3_veil : Rows.labOnwardRow.veiledFits Tryz.pinned.checked.prog Tryz.f3.params.toList (Tryz.f3.params.toList ++ Rows.labOnwardSpec.plain.varTypes Tryz.pinned.checked.prog ++ Tryz.f3.resultTypes.toList) = true := by kernel_rfl
theorem o3_wft : Rows.labOnwardRow.wfByText (OpenSpec.ofChange Rows.labOnwardSpec) = true := by kernel_rfl
theorem o3_inst : Tryz.f3.isInstance Tryz.pinned.checked.prog Rows.labOnwardRow.origin Rows.labOnwardRow.targs := of_decide_eq_true (by kernel_rfl)
theorem o3_wrap : Tryz.f3.isWrapper Tryz.pinned.checked.prog Rows.labOnwardRow.wrapper Rows.labOnwardRow.mainSum := by unfold Func.isWrapper; rw [if_neg (of_decide_eq_false (by kernel_rfl))]; exact ⟨rfl, rfl⟩
theorem o3_st : ([9, 9].all fun u => !Tryz.prog.wantsStandIn u) = true := by kernel_rfl
theorem o3_facts : joinedFacts Tryz.pinned.checked.prog 3 Tryz.f3 Rows.labOnwardSpec Rows.labOnwardRow = true := by
  unfold joinedFacts
  rw [o3_wf, c_laid, c_maps, o3_tie, o3_place, o3_unf, o3_rec, o3_named, o3_keys, c_heard, c_enter, o3_lift, o3_make, o3_veil]
  kernel_rfl
theorem o3_goes : false = Rows.labOnwardRow.goesBy Tryz.pinned.checked.prog := goesBy_of c_go _
end Go.Proofs.YtcicblljnenhoaaGreatDoor

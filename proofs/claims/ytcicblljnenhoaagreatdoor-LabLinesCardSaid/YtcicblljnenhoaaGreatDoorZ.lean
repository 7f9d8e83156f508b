/- LabLines: of every script, whatever its bytes: the first line that may not be is told, else there is an answer for each command: for every input, without conditions. -/
import Derived.Test.YtcicblljnenhoaaGreatDoorKd
import Derived.Test.YtcicblljnenhoaaGreatDoorKc
import Derived.Test.YtcicblljnenhoaaGreatDoorQF
namespace Go.Proofs.YtcicblljnenhoaaGreatDoor
open Go
set_option maxRecDepth 100000
theorem labLines_row_tie : Rows.labLinesRow.laidByTextAt .later Tryz.pinned Rows.labLinesCard.laidKinds true :=
  OpenClaim.laidByTextAt_pinned rfl rfl tie1 rfl rfl rfl rfl (fun y hy _e => by
    simp only [Rows.labLinesRow, Rows.labLinesCard, List.zip_cons_cons, List.zip_nil_right, List.mem_cons, List.mem_nil_iff, or_false] at hy
    rcases hy with rfl | rfl | rfl | rfl | rfl | rfl | rfl | rfl | rfl | rfl | rfl
    all_goals first | (cases _e; done) | exact ⟨pin_laid_unicode_utf8_first, by kernel_rfl⟩) fits1
theorem labLines_holds : Rows.LabLinesSaid :=
  OpenClaim.holds_of_wide 5 Tryz.f5 rfl rfl rfl rfl rfl rfl rfl ⟨rfl, rfl, rfl, rfl, rfl⟩ rfl rfl rfl rfl rfl o5_name Tryz.func5 o5_facts o5_inst o5_wrap
    (fun os started H enc _ => labLines_lifted os started H enc)
theorem labLines_card : Rows.LabLinesCardSaid :=
  Claim7.holds_tied_plain_at .later [] Rows.labLinesCard.laidKinds true (true, "cfa91a6776d07b36e8e2e30ec352ec175e72feca25a393ea1407c419dd28b063") true
    labLines_holds (fun _ h => by cases h) o5_wft (fun _ h => by cases h) labLines_row_tie rfl ⟨rfl, rfl⟩ c_main rfl
    (fun f fn hf hfn => by
      obtain rfl : f = 5 := Option.some.inj (o5_name.symm.trans hf) |>.symm
      obtain rfl : fn = Tryz.f5 := (Option.some.inj (Tryz.func5.symm.trans hfn)).symm
      exact ⟨c_looks, fun j t ht => by
        rw [Tryz.params5] at ht
        have hm : t ∈ [9] := by simpa using Array.mem_of_getElem? ht
        exact (show Tryz.prog.wantsStandIn t = false by simpa using List.all_eq_true.1 o5_st t hm)⟩)
    o5_goes
#print axioms labLines_card
end Go.Proofs.YtcicblljnenhoaaGreatDoor

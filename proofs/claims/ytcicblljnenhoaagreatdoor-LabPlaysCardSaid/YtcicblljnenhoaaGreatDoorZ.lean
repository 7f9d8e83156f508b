/- LabPlays: a script of raw commands, written in many ways, answers what the layers below answer to the same calls: for every input, without conditions. -/
import Derived.Test.YtcicblljnenhoaaGreatDoorKd
import Derived.Test.YtcicblljnenhoaaGreatDoorKc
import Derived.Test.YtcicblljnenhoaaGreatDoorQF
namespace Go.Proofs.YtcicblljnenhoaaGreatDoor
open Go
set_option maxRecDepth 100000
theorem labPlays_row_tie : Rows.labPlaysRow.laidByTextAt .later Tryz.pinned Rows.labPlaysCard.laidKinds true :=
  OpenClaim.laidByTextAt_pinned rfl rfl tie1 rfl rfl rfl rfl (fun y hy _e => by
    simp only [Rows.labPlaysRow, Rows.labPlaysCard, List.zip_cons_cons, List.zip_nil_right, List.mem_cons, List.mem_nil_iff, or_false] at hy
    rcases hy with rfl | rfl | rfl | rfl | rfl | rfl | rfl | rfl | rfl | rfl | rfl
    all_goals first | (cases _e; done) | exact ⟨pin_laid_unicode_utf8_first, by kernel_rfl⟩) fits1
theorem labPlays_holds : Rows.LabPlaysSaid :=
  OpenClaim.holds_of_wide 4 Tryz.f4 rfl rfl rfl rfl rfl rfl rfl ⟨rfl, rfl, rfl, rfl, rfl⟩ rfl rfl rfl rfl rfl o4_name Tryz.func4 o4_facts o4_inst o4_wrap
    (fun os started H enc _ => labPlays_lifted os started H enc)
theorem labPlays_card : Rows.LabPlaysCardSaid :=
  Claim7.holds_tied_plain_at .later [] Rows.labPlaysCard.laidKinds true (true, "cfa91a6776d07b36e8e2e30ec352ec175e72feca25a393ea1407c419dd28b063") true
    labPlays_holds (fun _ h => by cases h) o4_wft (fun _ h => by cases h) labPlays_row_tie rfl ⟨rfl, rfl⟩ c_main rfl
    (fun f fn hf hfn => by
      obtain rfl : f = 4 := Option.some.inj (o4_name.symm.trans hf) |>.symm
      obtain rfl : fn = Tryz.f4 := (Option.some.inj (Tryz.func4.symm.trans hfn)).symm
      exact ⟨c_looks, fun j t ht => by
        rw [Tryz.params4] at ht
        have hm : t ∈ [27] := by simpa using Array.mem_of_getElem? ht
        exact (show Tryz.prog.wantsStandIn t = false by simpa using List.all_eq_true.1 o4_st t hm)⟩)
    o4_goes
#print axioms labPlays_card
end Go.Proofs.YtcicblljnenhoaaGreatDoor

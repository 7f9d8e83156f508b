/- LabOnward: what stands behind a script changes nothing of its answers, and asked again it answers the same: for every input, without conditions. -/
import Derived.Test.YtcicblljnenhoaaGreatDoorKd
import Derived.Test.YtcicblljnenhoaaGreatDoorKc
import Derived.Test.YtcicblljnenhoaaGreatDoorQF
namespace Go.Proofs.YtcicblljnenhoaaGreatDoor
open Go
set_option maxRecDepth 100000
theorem labOnward_row_tie : Rows.labOnwardRow.laidByTextAt .later Tryz.pinned Rows.labOnwardCard.laidKinds true :=
  OpenClaim.laidByTextAt_pinned rfl rfl tie1 rfl rfl rfl rfl (fun y hy _e => by
    simp only [Rows.labOnwardRow, Rows.labOnwardCard, List.zip_cons_cons, List.zip_nil_right, List.mem_cons, List.mem_nil_iff, or_false] at hy
    rcases hy with rfl | rfl | rfl | rfl | rfl | rfl | rfl | rfl | rfl | rfl | rfl
    all_goals first | (cases _e; done) | exact ⟨pin_laid_unicode_utf8_first, by kernel_rfl⟩) fits1
theorem labOnward_holds : Rows.LabOnwardSaid :=
  OpenClaim.holds_of_wide 3 Tryz.f3 rfl rfl rfl rfl rfl rfl rfl ⟨rfl, rfl, rfl, rfl, rfl⟩ rfl rfl rfl rfl rfl o3_name Tryz.func3 o3_facts o3_inst o3_wrap
    (fun os started H enc _ => labOnward_lifted os started H enc)
theorem labOnward_card : Rows.LabOnwardCardSaid :=
  Claim7.holds_tied_plain_at .later [] Rows.labOnwardCard.laidKinds true (true, "cfa91a6776d07b36e8e2e30ec352ec175e72feca25a393ea1407c419dd28b063") true
    labOnward_holds (fun _ h => by cases h) o3_wft (fun _ h => by cases h) labOnward_row_tie rfl ⟨rfl, rfl⟩ c_main rfl
    (fun f fn hf hfn => by
      obtain rfl : f = 3 := Option.some.inj (o3_name.symm.trans hf) |>.symm
      obtain rfl : fn = Tryz.f3 := (Option.some.inj (Tryz.func3.symm.trans hfn)).symm
      exact ⟨c_looks, fun j t ht => by
        rw [Tryz.params3] at ht
        have hm : t ∈ [9, 9] := by simpa using Array.mem_of_getElem? ht
        exact (show Tryz.prog.wantsStandIn t = false by simpa using List.all_eq_true.1 o3_st t hm)⟩)
    o3_goes
#print axioms labOnward_card
end Go.Proofs.YtcicblljnenhoaaGreatDoor

import Derived.Test.YticddmmbphoioaaPModeRunsx2
namespace Go.Proofs.Yticddmmbphoioaa.Pure
open Go.RowKit Go.Proofs.Yticddmmbphoioaa.PModeRuns Go.Proofs.YticddmmbphoioaaW.PrintWords Go.Proofs.YticddmmbphoioaaW.PrintLast

/-- YOURS: ∃ k, cascadelaw16_ModeRuns.f k  = some true
What it reaches (each with k first where it has rounds; `.mono`: more rounds tell the same; `.l0`, ..: its loops, with `.mono_l`): tests_Result_Fails.f, mode_State_Next.f, mode_Run.f, cascadelaw16_ModeRuns.f -/
theorem ModeRuns : cascadelaw16_ModeRuns.Pure := by
  exact ⟨20, by kernel_rfl⟩

end Go.Proofs.Yticddmmbphoioaa.Pure

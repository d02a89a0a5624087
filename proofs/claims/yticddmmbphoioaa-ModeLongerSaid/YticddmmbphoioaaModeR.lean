import Derived.Test.YticddmmbphoioaaModeC
namespace Go.Proofs.Yticddmmbphoioaa
open Go.RowKit
set_option linter.unusedVariables false
set_option linter.unusedSimpArgs false
/-! ### The closed sentence of the chapter -/
theorem runA : runF 2 [⟨false, true, true, true⟩, ⟨true, true, true, true⟩, ⟨true, true, true, true⟩] = (0, 0) := by decide
theorem runB : runF 2 [⟨false, true, true, true⟩, ⟨true, true, true, true⟩, ⟨false, true, true, true⟩, ⟨true, true, true, true⟩] = (1, 1) := by decide
theorem runC : runF 2 [⟨true, false, true, true⟩, ⟨true, true, true, true⟩, ⟨true, true, true, true⟩, ⟨true, true, true, true⟩] = (2, 0) := by decide
set_option maxHeartbeats 4000000 in
set_option maxRecDepth 100000 in
theorem modeRuns_calls (w : World) : Calls Try.prog 3 #[] w fun e w' => e = .returned (.bool true) ∧ Below w.heap.size w w' := by
  have h1 := (Sts.nil w).add (g := w.heap.size) rfl #[.bool true, .bool true, .bool true, .bool true] 23
  have h2 := h1.add (g := w.heap.size + 1) (by unfold World.alloc; rw [Array.size_push]) #[.bool false, .bool true, .bool true, .bool true] 23
  have h3 := h2.add (g := w.heap.size + 1 + 1) (by unfold World.alloc; rw [Array.size_push, Array.size_push]) #[.bool true, .bool false, .bool true, .bool true] 23
  have HS := Lib.hid h3
  clear h1 h2 h3
  go_enter Try.func3, Try.ntmps3
  go_upto_region 4 with fail
  generalize ((w.alloc (.cells #[.bool true, .bool true, .bool true, .bool true] 23)).alloc (.cells #[.bool false, .bool true, .bool true, .bool true] 23)).alloc (.cells #[.bool true, .bool false, .bool true, .bool true] 23) = w3 at *
  generalize w.heap.size + 1 + 1 = g3 at *
  generalize w.heap.size + 1 = g2 at *
  generalize hg : w.heap.size = g1 at *
  have c0_0 := HS.out.cell 0 0 rfl (v := .bool true) rfl
  have c0_1 := HS.out.cell 0 1 rfl (v := .bool true) rfl
  have c0_2 := HS.out.cell 0 2 rfl (v := .bool true) rfl
  have c0_3 := HS.out.cell 0 3 rfl (v := .bool true) rfl
  have c1_0 := HS.out.cell 1 0 rfl (v := .bool false) rfl
  have c1_1 := HS.out.cell 1 1 rfl (v := .bool true) rfl
  have c1_2 := HS.out.cell 1 2 rfl (v := .bool true) rfl
  have c1_3 := HS.out.cell 1 3 rfl (v := .bool true) rfl
  have c2_0 := HS.out.cell 2 0 rfl (v := .bool true) rfl
  have c2_1 := HS.out.cell 2 1 rfl (v := .bool false) rfl
  have c2_2 := HS.out.cell 2 2 rfl (v := .bool true) rfl
  have c2_3 := HS.out.cell 2 3 rfl (v := .bool true) rfl
  have HC0 := Lib.hid (run_calls 2 (some ⟨w3.heap.size, 0, none⟩) 3 3 [⟨false, true, true, true⟩, ⟨true, true, true, true⟩, ⟨true, true, true, true⟩] (w3.alloc (.cells #[.bool false, .bool true, .bool true, .bool true, .bool true, .bool true, .bool true, .bool true, .bool true, .bool true, .bool true, .bool true] 23)) (Src.new (size := 4) (m := 3) rfl rfl) (by omega))
  rw [runA] at HC0
  simp only at HC0
  go_wp2_with fail
  refine HC0.out.mono ?_
  rintro e v0 ⟨rfl, hb⟩
  have HX := Lib.hid ((HS.out.skip _).below hb)
  clear HS hb HC0
  clear c0_0 c0_1 c0_2 c0_3 c1_0 c1_1 c1_2 c1_3 c2_0 c2_1 c2_2 c2_3
  have HS := HX
  clear HX
  have c0_0 := HS.out.cell 0 0 rfl (v := .bool true) rfl
  have c0_1 := HS.out.cell 0 1 rfl (v := .bool true) rfl
  have c0_2 := HS.out.cell 0 2 rfl (v := .bool true) rfl
  have c0_3 := HS.out.cell 0 3 rfl (v := .bool true) rfl
  have c1_0 := HS.out.cell 1 0 rfl (v := .bool false) rfl
  have c1_1 := HS.out.cell 1 1 rfl (v := .bool true) rfl
  have c1_2 := HS.out.cell 1 2 rfl (v := .bool true) rfl
  have c1_3 := HS.out.cell 1 3 rfl (v := .bool true) rfl
  have c2_0 := HS.out.cell 2 0 rfl (v := .bool true) rfl
  have c2_1 := HS.out.cell 2 1 rfl (v := .bool false) rfl
  have c2_2 := HS.out.cell 2 2 rfl (v := .bool true) rfl
  have c2_3 := HS.out.cell 2 3 rfl (v := .bool true) rfl
  have HC1 := Lib.hid (run_calls 2 (some ⟨v0.heap.size, 0, none⟩) 4 4 [⟨false, true, true, true⟩, ⟨true, true, true, true⟩, ⟨false, true, true, true⟩, ⟨true, true, true, true⟩] (v0.alloc (.cells #[.bool false, .bool true, .bool true, .bool true, .bool true, .bool true, .bool true, .bool true, .bool false, .bool true, .bool true, .bool true, .bool true, .bool true, .bool true, .bool true] 23)) (Src.new (size := 4) (m := 4) rfl rfl) (by omega))
  rw [runB] at HC1
  simp only at HC1
  go_wp2_with fail
  refine HC1.out.mono ?_
  rintro e v1 ⟨rfl, hb⟩
  have HX := Lib.hid ((HS.out.skip _).below hb)
  clear HS hb HC1
  clear c0_0 c0_1 c0_2 c0_3 c1_0 c1_1 c1_2 c1_3 c2_0 c2_1 c2_2 c2_3
  have HS := HX
  clear HX
  have c0_0 := HS.out.cell 0 0 rfl (v := .bool true) rfl
  have c0_1 := HS.out.cell 0 1 rfl (v := .bool true) rfl
  have c0_2 := HS.out.cell 0 2 rfl (v := .bool true) rfl
  have c0_3 := HS.out.cell 0 3 rfl (v := .bool true) rfl
  have c1_0 := HS.out.cell 1 0 rfl (v := .bool false) rfl
  have c1_1 := HS.out.cell 1 1 rfl (v := .bool true) rfl
  have c1_2 := HS.out.cell 1 2 rfl (v := .bool true) rfl
  have c1_3 := HS.out.cell 1 3 rfl (v := .bool true) rfl
  have c2_0 := HS.out.cell 2 0 rfl (v := .bool true) rfl
  have c2_1 := HS.out.cell 2 1 rfl (v := .bool false) rfl
  have c2_2 := HS.out.cell 2 2 rfl (v := .bool true) rfl
  have c2_3 := HS.out.cell 2 3 rfl (v := .bool true) rfl
  have HC2 := Lib.hid (run_calls 2 (some ⟨v1.heap.size, 0, none⟩) 4 4 [⟨true, false, true, true⟩, ⟨true, true, true, true⟩, ⟨true, true, true, true⟩, ⟨true, true, true, true⟩] (v1.alloc (.cells #[.bool true, .bool false, .bool true, .bool true, .bool true, .bool true, .bool true, .bool true, .bool true, .bool true, .bool true, .bool true, .bool true, .bool true, .bool true, .bool true] 23)) (Src.new (size := 4) (m := 4) rfl rfl) (by omega))
  rw [runC] at HC2
  simp only at HC2
  go_wp2_with fail
  refine HC2.out.mono ?_
  rintro e v2 ⟨rfl, hb⟩
  have HX := Lib.hid ((HS.out.skip _).below hb)
  clear HS hb HC2
  clear c0_0 c0_1 c0_2 c0_3 c1_0 c1_1 c1_2 c1_3 c2_0 c2_1 c2_2 c2_3
  have HS := HX
  clear HX
  have c0_0 := HS.out.cell 0 0 rfl (v := .bool true) rfl
  have c0_1 := HS.out.cell 0 1 rfl (v := .bool true) rfl
  have c0_2 := HS.out.cell 0 2 rfl (v := .bool true) rfl
  have c0_3 := HS.out.cell 0 3 rfl (v := .bool true) rfl
  have c1_0 := HS.out.cell 1 0 rfl (v := .bool false) rfl
  have c1_1 := HS.out.cell 1 1 rfl (v := .bool true) rfl
  have c1_2 := HS.out.cell 1 2 rfl (v := .bool true) rfl
  have c1_3 := HS.out.cell 1 3 rfl (v := .bool true) rfl
  have c2_0 := HS.out.cell 2 0 rfl (v := .bool true) rfl
  have c2_1 := HS.out.cell 2 1 rfl (v := .bool false) rfl
  have c2_2 := HS.out.cell 2 2 rfl (v := .bool true) rfl
  have c2_3 := HS.out.cell 2 3 rfl (v := .bool true) rfl
  go_wp2_with fail
  go_ret
  exact ⟨rfl, HS.out.bel⟩
end Go.Proofs.Yticddmmbphoioaa

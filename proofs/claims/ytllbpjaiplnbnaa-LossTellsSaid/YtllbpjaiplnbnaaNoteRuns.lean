import Derived.Test.YtllbpjaiplnbnaaNoteS
namespace Go.Proofs.Ytllbpjaiplnbnaa
open Go.RowKit
set_option linter.unusedVariables false
set_option linter.unusedSimpArgs false
set_option maxHeartbeats 2000000 in
set_option maxRecDepth 100000 in
theorem noteRuns_calls (w : World) : Calls Try.prog 3 #[] w fun e w' => e = .returned (.bool true) ∧ Below w.heap.size w w' := by
  have HS0 := Lib.hid (Sts.nil w)
  go_enter Try.func3, Try.ntmps3
  go_wp2_with fail
  refine (new_s 0 100 0 HS0.out).mono ?_
  rintro e w1 ⟨rfl, hs⟩
  have HS1 := Lib.hid ((hs.lit rfl : Sts w [] w1))
  clear HS0
  clear hs
  go_wp2_with fail
  have HS2 := Lib.hid ((HS1.out.add (g := w1.heap.size) (by simp) #[.int .i64 0, .int .i64 100, .int .i64 0, .int .i64 0, .int .i64 0, .int .i64 0, .int .i64 0] 27).lit (L' := [(w1.heap.size, #[.int .i64 0, .int .i64 100, .int .i64 0, .int .i64 0, .int .i64 0, .int .i64 0, .int .i64 0], 27)]) rfl)
  clear HS1
  generalize w1.heap.size = g at *
  refine (pay_s 30 0 100 0 0 0 0 0 30 0 HS2.out rfl ⟨by omega, by omega, by omega, by omega, by omega, by omega, by omega, by omega, by omega⟩ (by omega) (by omega) (by decide)).mono ?_
  rintro e w3 ⟨rfl, hs⟩
  have HS3 := Lib.hid ((hs.lit rfl : Sts w [(g, #[.int .i64 0, .int .i64 100, .int .i64 0, .int .i64 30, .int .i64 0, .int .i64 0, .int .i64 0], 27)] w3))
  clear HS2
  clear hs
  have c0_0 : w3.cell? ⟨g, 0, none⟩ = some (.int .i64 0) := HS3.out.cell 0 0 rfl rfl
  have c0_1 : w3.cell? ⟨g, 1, none⟩ = some (.int .i64 100) := HS3.out.cell 0 1 rfl rfl
  have c0_2 : w3.cell? ⟨g, 2, none⟩ = some (.int .i64 0) := HS3.out.cell 0 2 rfl rfl
  have c0_3 : w3.cell? ⟨g, 3, none⟩ = some (.int .i64 30) := HS3.out.cell 0 3 rfl rfl
  have c0_4 : w3.cell? ⟨g, 4, none⟩ = some (.int .i64 0) := HS3.out.cell 0 4 rfl rfl
  have c0_5 : w3.cell? ⟨g, 5, none⟩ = some (.int .i64 0) := HS3.out.cell 0 5 rfl rfl
  have c0_6 : w3.cell? ⟨g, 6, none⟩ = some (.int .i64 0) := HS3.out.cell 0 6 rfl rfl
  go_wp2_with fail
  clear c0_0 c0_1 c0_2 c0_3 c0_4 c0_5 c0_6
  refine (write_s 70 0 100 0 30 0 0 0 80 0 HS3.out rfl ⟨by omega, by omega, by omega, by omega, by omega, by omega, by omega, by omega, by omega⟩ (by omega) (by omega) (by decide)).mono ?_
  rintro e w4 ⟨rfl, hs⟩
  have HS4 := Lib.hid ((hs.lit rfl : Sts w [(g, #[.int .i64 0, .int .i64 100, .int .i64 0, .int .i64 30, .int .i64 0, .int .i64 0, .int .i64 70], 27)] w4))
  clear HS3
  clear hs
  have c0_0 : w4.cell? ⟨g, 0, none⟩ = some (.int .i64 0) := HS4.out.cell 0 0 rfl rfl
  have c0_1 : w4.cell? ⟨g, 1, none⟩ = some (.int .i64 100) := HS4.out.cell 0 1 rfl rfl
  have c0_2 : w4.cell? ⟨g, 2, none⟩ = some (.int .i64 0) := HS4.out.cell 0 2 rfl rfl
  have c0_3 : w4.cell? ⟨g, 3, none⟩ = some (.int .i64 30) := HS4.out.cell 0 3 rfl rfl
  have c0_4 : w4.cell? ⟨g, 4, none⟩ = some (.int .i64 0) := HS4.out.cell 0 4 rfl rfl
  have c0_5 : w4.cell? ⟨g, 5, none⟩ = some (.int .i64 0) := HS4.out.cell 0 5 rfl rfl
  have c0_6 : w4.cell? ⟨g, 6, none⟩ = some (.int .i64 70) := HS4.out.cell 0 6 rfl rfl
  go_wp2_with fail
  clear c0_0 c0_1 c0_2 c0_3 c0_4 c0_5 c0_6
  refine (restore_s 20 0 100 0 30 0 0 70 20 0 HS4.out rfl ⟨by omega, by omega, by omega, by omega, by omega, by omega, by omega, by omega, by omega⟩ (by omega) (by omega) (by decide)).mono ?_
  rintro e w5 ⟨rfl, hs⟩
  have HS5 := Lib.hid ((hs.lit rfl : Sts w [(g, #[.int .i64 0, .int .i64 100, .int .i64 0, .int .i64 30, .int .i64 0, .int .i64 0, .int .i64 50], 27)] w5))
  clear HS4
  clear hs
  have c0_0 : w5.cell? ⟨g, 0, none⟩ = some (.int .i64 0) := HS5.out.cell 0 0 rfl rfl
  have c0_1 : w5.cell? ⟨g, 1, none⟩ = some (.int .i64 100) := HS5.out.cell 0 1 rfl rfl
  have c0_2 : w5.cell? ⟨g, 2, none⟩ = some (.int .i64 0) := HS5.out.cell 0 2 rfl rfl
  have c0_3 : w5.cell? ⟨g, 3, none⟩ = some (.int .i64 30) := HS5.out.cell 0 3 rfl rfl
  have c0_4 : w5.cell? ⟨g, 4, none⟩ = some (.int .i64 0) := HS5.out.cell 0 4 rfl rfl
  have c0_5 : w5.cell? ⟨g, 5, none⟩ = some (.int .i64 0) := HS5.out.cell 0 5 rfl rfl
  have c0_6 : w5.cell? ⟨g, 6, none⟩ = some (.int .i64 50) := HS5.out.cell 0 6 rfl rfl
  go_wp2_with fail
  clear c0_0 c0_1 c0_2 c0_3 c0_4 c0_5 c0_6
  refine (balance_s 20 0 100 0 30 0 0 50 HS5.out ⟨by omega, by omega, by omega, by omega, by omega, by omega, by omega, by omega, by omega⟩ (by decide)).mono ?_
  rintro e w6 ⟨rfl, hs⟩
  have HS6 := Lib.hid ((hs.lit rfl : Sts w [(g, #[.int .i64 0, .int .i64 100, .int .i64 0, .int .i64 30, .int .i64 0, .int .i64 0, .int .i64 50], 27)] w6))
  clear HS5
  clear hs
  have c0_0 : w6.cell? ⟨g, 0, none⟩ = some (.int .i64 0) := HS6.out.cell 0 0 rfl rfl
  have c0_1 : w6.cell? ⟨g, 1, none⟩ = some (.int .i64 100) := HS6.out.cell 0 1 rfl rfl
  have c0_2 : w6.cell? ⟨g, 2, none⟩ = some (.int .i64 0) := HS6.out.cell 0 2 rfl rfl
  have c0_3 : w6.cell? ⟨g, 3, none⟩ = some (.int .i64 30) := HS6.out.cell 0 3 rfl rfl
  have c0_4 : w6.cell? ⟨g, 4, none⟩ = some (.int .i64 0) := HS6.out.cell 0 4 rfl rfl
  have c0_5 : w6.cell? ⟨g, 5, none⟩ = some (.int .i64 0) := HS6.out.cell 0 5 rfl rfl
  have c0_6 : w6.cell? ⟨g, 6, none⟩ = some (.int .i64 50) := HS6.out.cell 0 6 rfl rfl
  go_wp2_with fail
  clear c0_0 c0_1 c0_2 c0_3 c0_4 c0_5 c0_6
  refine (has_s 30 30 0 HS6.out (by omega) (by omega) (by omega) (by decide)).mono ?_
  rintro e w7 ⟨rfl, hs⟩
  have HS7 := Lib.hid ((hs.lit rfl : Sts w [(g, #[.int .i64 0, .int .i64 100, .int .i64 0, .int .i64 30, .int .i64 0, .int .i64 0, .int .i64 50], 27)] w7))
  clear HS6
  clear hs
  have c0_0 : w7.cell? ⟨g, 0, none⟩ = some (.int .i64 0) := HS7.out.cell 0 0 rfl rfl
  have c0_1 : w7.cell? ⟨g, 1, none⟩ = some (.int .i64 100) := HS7.out.cell 0 1 rfl rfl
  have c0_2 : w7.cell? ⟨g, 2, none⟩ = some (.int .i64 0) := HS7.out.cell 0 2 rfl rfl
  have c0_3 : w7.cell? ⟨g, 3, none⟩ = some (.int .i64 30) := HS7.out.cell 0 3 rfl rfl
  have c0_4 : w7.cell? ⟨g, 4, none⟩ = some (.int .i64 0) := HS7.out.cell 0 4 rfl rfl
  have c0_5 : w7.cell? ⟨g, 5, none⟩ = some (.int .i64 0) := HS7.out.cell 0 5 rfl rfl
  have c0_6 : w7.cell? ⟨g, 6, none⟩ = some (.int .i64 50) := HS7.out.cell 0 6 rfl rfl
  go_wp2_with fail
  clear c0_0 c0_1 c0_2 c0_3 c0_4 c0_5 c0_6
  refine (nright_s true 0 100 0 30 0 0 50 HS7.out (by omega) (by omega) (by omega) (by omega) (by omega) (by omega) (by omega) (by omega) (by omega) (by decide)).mono ?_
  rintro e w8 ⟨rfl, hs⟩
  have HS8 := Lib.hid ((hs.lit rfl : Sts w [(g, #[.int .i64 0, .int .i64 100, .int .i64 0, .int .i64 30, .int .i64 0, .int .i64 0, .int .i64 50], 27)] w8))
  clear HS7
  clear hs
  have c0_0 : w8.cell? ⟨g, 0, none⟩ = some (.int .i64 0) := HS8.out.cell 0 0 rfl rfl
  have c0_1 : w8.cell? ⟨g, 1, none⟩ = some (.int .i64 100) := HS8.out.cell 0 1 rfl rfl
  have c0_2 : w8.cell? ⟨g, 2, none⟩ = some (.int .i64 0) := HS8.out.cell 0 2 rfl rfl
  have c0_3 : w8.cell? ⟨g, 3, none⟩ = some (.int .i64 30) := HS8.out.cell 0 3 rfl rfl
  have c0_4 : w8.cell? ⟨g, 4, none⟩ = some (.int .i64 0) := HS8.out.cell 0 4 rfl rfl
  have c0_5 : w8.cell? ⟨g, 5, none⟩ = some (.int .i64 0) := HS8.out.cell 0 5 rfl rfl
  have c0_6 : w8.cell? ⟨g, 6, none⟩ = some (.int .i64 50) := HS8.out.cell 0 6 rfl rfl
  go_wp2
  go_ret
  exact ⟨rfl, HS8.out.bel⟩
theorem noteRuns_s {w0 W : World} {L : List (Nat × Array Value × TypeId)} (hS : Sts w0 L W) : Calls Try.prog 3 #[] W (Goes (.bool true) w0 L) := (noteRuns_calls W).mono fun _ _ h => ⟨h.1, hS.below h.2⟩
end Go.Proofs.Ytllbpjaiplnbnaa

import Derived.Test.YticddmmbphoioaaPurse2
namespace Go.Proofs.Yticddmmbphoioaa
open Go.RowKit
set_option linter.unusedVariables false
set_option linter.unusedSimpArgs false
set_option maxHeartbeats 1000000 in
set_option maxRecDepth 100000 in
theorem purseRuns_calls (w : World) : Calls Try.prog 5 #[] w fun e w' => e = .returned (.bool true) ∧ Below w.heap.size w w' := by
  go_enter Try.func5, Try.ntmps5
  go_wp2_with fail
  refine (of_yes 10 _ (by omega) (by omega)).mono ?_
  rintro e w1 ⟨rfl, hb⟩
  have HS0 := Lib.hid (((Sts.nil w).below hb).add rfl #[.int .i64 10, .int .i64 0] 35)
  clear hb
  go_wp2_with fail
  generalize w1.heap.size = g at *
  refine (take_s 3 10 0 3 0 HS0.out rfl (by omega) (by omega) (by omega) (by omega) (by omega) (by decide)).mono ?_
  rintro e w2 ⟨rfl, hs⟩
  have HS2 := Lib.hid ((hs.lit rfl : Sts w [(g, #[.int .i64 10, .int .i64 3], 35)] w2))
  clear HS0
  clear hs
  have c0_0 : w2.cell? ⟨g, 0, none⟩ = some (.int .i64 10) := HS2.out.cell 0 0 rfl rfl
  have c0_1 : w2.cell? ⟨g, 1, none⟩ = some (.int .i64 3) := HS2.out.cell 0 1 rfl rfl
  go_wp2_with fail
  clear c0_0 c0_1
  refine (take_s 7 10 3 9 0 HS2.out rfl (by omega) (by omega) (by omega) (by omega) (by omega) (by decide)).mono ?_
  rintro e w3 ⟨rfl, hs⟩
  have HS3 := Lib.hid ((hs.lit rfl : Sts w [(g, #[.int .i64 10, .int .i64 10], 35)] w3))
  clear HS2
  clear hs
  have c0_0 : w3.cell? ⟨g, 0, none⟩ = some (.int .i64 10) := HS3.out.cell 0 0 rfl rfl
  have c0_1 : w3.cell? ⟨g, 1, none⟩ = some (.int .i64 10) := HS3.out.cell 0 1 rfl rfl
  go_wp2_with fail
  clear c0_0 c0_1
  refine (has_s 0 10 10 HS3.out (by omega) (by omega) (by omega) (by omega)).mono ?_
  rintro e w4 ⟨rfl, hs⟩
  have HS4 := Lib.hid ((hs.lit rfl : Sts w [(g, #[.int .i64 10, .int .i64 10], 35)] w4))
  clear HS3
  clear hs
  have c0_0 : w4.cell? ⟨g, 0, none⟩ = some (.int .i64 10) := HS4.out.cell 0 0 rfl rfl
  have c0_1 : w4.cell? ⟨g, 1, none⟩ = some (.int .i64 10) := HS4.out.cell 0 1 rfl rfl
  go_wp2_with fail
  clear c0_0 c0_1
  refine (in_s 10 10 HS4.out).mono ?_
  rintro e w5 ⟨rfl, hs⟩
  have HS5 := Lib.hid ((hs.lit rfl : Sts w [(g, #[.int .i64 10, .int .i64 10], 35)] w5))
  clear HS4
  clear hs
  have c0_0 : w5.cell? ⟨g, 0, none⟩ = some (.int .i64 10) := HS5.out.cell 0 0 rfl rfl
  have c0_1 : w5.cell? ⟨g, 1, none⟩ = some (.int .i64 10) := HS5.out.cell 0 1 rfl rfl
  go_wp2_with fail
  clear c0_0 c0_1
  refine (out_s 10 10 HS5.out).mono ?_
  rintro e w6 ⟨rfl, hs⟩
  have HS6 := Lib.hid ((hs.lit rfl : Sts w [(g, #[.int .i64 10, .int .i64 10], 35)] w6))
  clear HS5
  clear hs
  have c0_0 : w6.cell? ⟨g, 0, none⟩ = some (.int .i64 10) := HS6.out.cell 0 0 rfl rfl
  have c0_1 : w6.cell? ⟨g, 1, none⟩ = some (.int .i64 10) := HS6.out.cell 0 1 rfl rfl
  go_wp2_with fail
  clear c0_0 c0_1
  refine (putno_s 10 10 (-1) 0 HS6.out rfl (by omega) (by omega) (by omega) (by omega) (by omega)).mono ?_
  rintro e w7 ⟨rfl, hs⟩
  have HS7 := Lib.hid ((hs.lit rfl : Sts w [(g, #[.int .i64 10, .int .i64 10], 35)] w7))
  clear HS6
  clear hs
  have c0_0 : w7.cell? ⟨g, 0, none⟩ = some (.int .i64 10) := HS7.out.cell 0 0 rfl rfl
  have c0_1 : w7.cell? ⟨g, 1, none⟩ = some (.int .i64 10) := HS7.out.cell 0 1 rfl rfl
  go_wp2_with fail
  clear c0_0 c0_1
  refine (put_s 10 10 4 0 HS7.out rfl (by omega) (by omega) (by omega)).mono ?_
  rintro e w8 ⟨rfl, hs⟩
  have HS8 := Lib.hid ((hs.lit rfl : Sts w [(g, #[.int .i64 14, .int .i64 10], 35)] w8))
  clear HS7
  clear hs
  have c0_0 : w8.cell? ⟨g, 0, none⟩ = some (.int .i64 14) := HS8.out.cell 0 0 rfl rfl
  have c0_1 : w8.cell? ⟨g, 1, none⟩ = some (.int .i64 10) := HS8.out.cell 0 1 rfl rfl
  go_wp2_with fail
  clear c0_0 c0_1
  refine (has_s 4 14 10 HS8.out (by omega) (by omega) (by omega) (by omega)).mono ?_
  rintro e w9 ⟨rfl, hs⟩
  have HS9 := Lib.hid ((hs.lit rfl : Sts w [(g, #[.int .i64 14, .int .i64 10], 35)] w9))
  clear HS8
  clear hs
  have c0_0 : w9.cell? ⟨g, 0, none⟩ = some (.int .i64 14) := HS9.out.cell 0 0 rfl rfl
  have c0_1 : w9.cell? ⟨g, 1, none⟩ = some (.int .i64 10) := HS9.out.cell 0 1 rfl rfl
  go_wp2
  go_ret
  exact ⟨rfl, HS9.out.bel⟩
theorem purseRuns_s {w0 W : World} {L : List (Nat × Array Value × TypeId)} (hS : Sts w0 L W) : Calls Try.prog 5 #[] W (Goes (.bool true) w0 L) := (purseRuns_calls W).mono fun _ _ h => ⟨h.1, hS.below h.2⟩

end Go.Proofs.Yticddmmbphoioaa

import Derived.Test.YtllbpjaiplnbnaaNoteRuns
namespace Go.Proofs.Ytllbpjaiplnbnaa
open Go.RowKit
set_option linter.unusedVariables false
set_option linter.unusedSimpArgs false
set_option maxHeartbeats 4000000 in
set_option maxRecDepth 100000 in
theorem noteRight_walk (a0 a1 : Int) (w : World) (h0 : -9223372036854775808 ≤ a0 ∧ a0 ≤ 9223372036854775807) (h1 : -9223372036854775808 ≤ a1 ∧ a1 ≤ 9223372036854775807) : Calls Try.prog 4 #[.int .i64 a0, .int .i64 a1] w fun e w' => e = .returned (.bool true) ∧ Below w.heap.size w w' := by
  obtain ⟨k, hk⟩ : ∃ v, v = 1 + within a1 0 1099511627776 := ⟨_, rfl⟩
  obtain ⟨bk0, bk1⟩ : 1 ≤ k ∧ k ≤ 1 + 1099511627776 := by have := within_bd a1 (show (0 : Int) ≤ 1099511627776 by omega); omega
  have Ek := Lib.hid hk
  clear hk
  obtain ⟨x, hx⟩ : ∃ v, v = within a0 0 8 := ⟨_, rfl⟩
  obtain ⟨bx0, bx1⟩ : 0 ≤ x ∧ x ≤ 8 := by rw [hx]; exact within_bd a0 (by omega)
  have Ex := Lib.hid hx
  clear hx
  have HS0 := Lib.hid (Sts.nil w)
  have wb := within_bd a1 (show (0 : Int) ≤ 1099511627776 by omega)
  go_enter Try.func4, Try.ntmps4
  go_wp2_with fail
  refine (within_s a1 0 1099511627776 HS0.out (by omega) (by omega) (by omega)).mono ?_
  rintro e w1 ⟨rfl, hs⟩
  have HS1 := Lib.hid ((hs.lit rfl : Sts w [] w1))
  clear HS0
  clear hs
  go_wp2_with fail
  rw [← Ek.out]
  clear wb
  refine (new_s 7 1099511627776 5000 HS1.out).mono ?_
  rintro e w2 ⟨rfl, hs⟩
  have HS2 := Lib.hid ((hs.lit rfl : Sts w [] w2))
  clear HS1
  clear hs
  go_upto_region 4 with fail
  have HS3 := Lib.hid ((HS2.out.add (g := w2.heap.size) (by simp) #[.int .i64 7, .int .i64 1099511627776, .int .i64 5000, .int .i64 0, .int .i64 0, .int .i64 1152921504606846976, .int .i64 0] 27).lit (L' := [(w2.heap.size, #[.int .i64 7, .int .i64 1099511627776, .int .i64 5000, .int .i64 0, .int .i64 0, .int .i64 1152921504606846976, .int .i64 0], 27)]) rfl)
  clear HS2
  generalize w2.heap.size = g at *
  generalize (w2.alloc (.cells #[.int .i64 7, .int .i64 1099511627776, .int .i64 5000, .int .i64 0, .int .i64 0, .int .i64 1152921504606846976, .int .i64 0] 27)) = v3 at *
  have c0_0 : v3.cell? ⟨g, 0, none⟩ = some (.int .i64 7) := HS3.out.cell 0 0 rfl rfl
  have c0_1 : v3.cell? ⟨g, 1, none⟩ = some (.int .i64 1099511627776) := HS3.out.cell 0 1 rfl rfl
  have c0_2 : v3.cell? ⟨g, 2, none⟩ = some (.int .i64 5000) := HS3.out.cell 0 2 rfl rfl
  have c0_3 : v3.cell? ⟨g, 3, none⟩ = some (.int .i64 0) := HS3.out.cell 0 3 rfl rfl
  have c0_4 : v3.cell? ⟨g, 4, none⟩ = some (.int .i64 0) := HS3.out.cell 0 4 rfl rfl
  have c0_5 : v3.cell? ⟨g, 5, none⟩ = some (.int .i64 1152921504606846976) := HS3.out.cell 0 5 rfl rfl
  have c0_6 : v3.cell? ⟨g, 6, none⟩ = some (.int .i64 0) := HS3.out.cell 0 6 rfl rfl
  go_wp2_with fail
  clear c0_0 c0_1 c0_2 c0_3 c0_4 c0_5 c0_6
  refine (nright_s true 7 1099511627776 5000 0 0 1152921504606846976 0 HS3.out (by omega) (by omega) (by omega) (by omega) (by omega) (by omega) (by omega) (by omega) (by omega) (by decide)).mono ?_
  rintro e w4 ⟨rfl, hs⟩
  have HS4 := Lib.hid ((hs.lit rfl : Sts w [(g, #[.int .i64 7, .int .i64 1099511627776, .int .i64 5000, .int .i64 0, .int .i64 0, .int .i64 1152921504606846976, .int .i64 0], 27)] w4))
  clear HS3
  clear hs
  have c0_0 : w4.cell? ⟨g, 0, none⟩ = some (.int .i64 7) := HS4.out.cell 0 0 rfl rfl
  have c0_1 : w4.cell? ⟨g, 1, none⟩ = some (.int .i64 1099511627776) := HS4.out.cell 0 1 rfl rfl
  have c0_2 : w4.cell? ⟨g, 2, none⟩ = some (.int .i64 5000) := HS4.out.cell 0 2 rfl rfl
  have c0_3 : w4.cell? ⟨g, 3, none⟩ = some (.int .i64 0) := HS4.out.cell 0 3 rfl rfl
  have c0_4 : w4.cell? ⟨g, 4, none⟩ = some (.int .i64 0) := HS4.out.cell 0 4 rfl rfl
  have c0_5 : w4.cell? ⟨g, 5, none⟩ = some (.int .i64 1152921504606846976) := HS4.out.cell 0 5 rfl rfl
  have c0_6 : w4.cell? ⟨g, 6, none⟩ = some (.int .i64 0) := HS4.out.cell 0 6 rfl rfl
  go_wp2_with fail
  clear c0_0 c0_1 c0_2 c0_3 c0_4 c0_5 c0_6
  refine (pay_s 549755813888 7 1099511627776 5000 0 0 1152921504606846976 0 549755813888 0 HS4.out rfl ⟨by omega, by omega, by omega, by omega, by omega, by omega, by omega, by omega, by omega⟩ (by omega) (by omega) (by decide)).mono ?_
  rintro e w5 ⟨rfl, hs⟩
  have HS5 := Lib.hid ((hs.lit rfl : Sts w [(g, #[.int .i64 7, .int .i64 1099511627776, .int .i64 5000, .int .i64 549755813888, .int .i64 0, .int .i64 1152921504606846976, .int .i64 0], 27)] w5))
  clear HS4
  clear hs
  have c0_0 : w5.cell? ⟨g, 0, none⟩ = some (.int .i64 7) := HS5.out.cell 0 0 rfl rfl
  have c0_1 : w5.cell? ⟨g, 1, none⟩ = some (.int .i64 1099511627776) := HS5.out.cell 0 1 rfl rfl
  have c0_2 : w5.cell? ⟨g, 2, none⟩ = some (.int .i64 5000) := HS5.out.cell 0 2 rfl rfl
  have c0_3 : w5.cell? ⟨g, 3, none⟩ = some (.int .i64 549755813888) := HS5.out.cell 0 3 rfl rfl
  have c0_4 : w5.cell? ⟨g, 4, none⟩ = some (.int .i64 0) := HS5.out.cell 0 4 rfl rfl
  have c0_5 : w5.cell? ⟨g, 5, none⟩ = some (.int .i64 1152921504606846976) := HS5.out.cell 0 5 rfl rfl
  have c0_6 : w5.cell? ⟨g, 6, none⟩ = some (.int .i64 0) := HS5.out.cell 0 6 rfl rfl
  go_wp2_with fail
  clear c0_0 c0_1 c0_2 c0_3 c0_4 c0_5 c0_6
  refine (write_s 549755813888 7 1099511627776 5000 549755813888 0 1152921504606846976 0 4611686018427387904 0 HS5.out rfl ⟨by omega, by omega, by omega, by omega, by omega, by omega, by omega, by omega, by omega⟩ (by omega) (by omega) (by decide)).mono ?_
  rintro e w6 ⟨rfl, hs⟩
  have HS6 := Lib.hid ((hs.lit rfl : Sts w [(g, #[.int .i64 7, .int .i64 1099511627776, .int .i64 5000, .int .i64 549755813888, .int .i64 0, .int .i64 1152921504606846976, .int .i64 549755813888], 27)] w6))
  clear HS5
  clear hs
  have c0_0 : w6.cell? ⟨g, 0, none⟩ = some (.int .i64 7) := HS6.out.cell 0 0 rfl rfl
  have c0_1 : w6.cell? ⟨g, 1, none⟩ = some (.int .i64 1099511627776) := HS6.out.cell 0 1 rfl rfl
  have c0_2 : w6.cell? ⟨g, 2, none⟩ = some (.int .i64 5000) := HS6.out.cell 0 2 rfl rfl
  have c0_3 : w6.cell? ⟨g, 3, none⟩ = some (.int .i64 549755813888) := HS6.out.cell 0 3 rfl rfl
  have c0_4 : w6.cell? ⟨g, 4, none⟩ = some (.int .i64 0) := HS6.out.cell 0 4 rfl rfl
  have c0_5 : w6.cell? ⟨g, 5, none⟩ = some (.int .i64 1152921504606846976) := HS6.out.cell 0 5 rfl rfl
  have c0_6 : w6.cell? ⟨g, 6, none⟩ = some (.int .i64 549755813888) := HS6.out.cell 0 6 rfl rfl
  go_wp2_with fail
  clear c0_0 c0_1 c0_2 c0_3 c0_4 c0_5 c0_6
  refine (nright_s true 7 1099511627776 5000 549755813888 0 1152921504606846976 549755813888 HS6.out (by omega) (by omega) (by omega) (by omega) (by omega) (by omega) (by omega) (by omega) (by omega) (by decide)).mono ?_
  rintro e w7 ⟨rfl, hs⟩
  have HS7 := Lib.hid ((hs.lit rfl : Sts w [(g, #[.int .i64 7, .int .i64 1099511627776, .int .i64 5000, .int .i64 549755813888, .int .i64 0, .int .i64 1152921504606846976, .int .i64 549755813888], 27)] w7))
  clear HS6
  clear hs
  have c0_0 : w7.cell? ⟨g, 0, none⟩ = some (.int .i64 7) := HS7.out.cell 0 0 rfl rfl
  have c0_1 : w7.cell? ⟨g, 1, none⟩ = some (.int .i64 1099511627776) := HS7.out.cell 0 1 rfl rfl
  have c0_2 : w7.cell? ⟨g, 2, none⟩ = some (.int .i64 5000) := HS7.out.cell 0 2 rfl rfl
  have c0_3 : w7.cell? ⟨g, 3, none⟩ = some (.int .i64 549755813888) := HS7.out.cell 0 3 rfl rfl
  have c0_4 : w7.cell? ⟨g, 4, none⟩ = some (.int .i64 0) := HS7.out.cell 0 4 rfl rfl
  have c0_5 : w7.cell? ⟨g, 5, none⟩ = some (.int .i64 1152921504606846976) := HS7.out.cell 0 5 rfl rfl
  have c0_6 : w7.cell? ⟨g, 6, none⟩ = some (.int .i64 549755813888) := HS7.out.cell 0 6 rfl rfl
  go_wp2_with fail
  clear c0_0 c0_1 c0_2 c0_3 c0_4 c0_5 c0_6
  refine (balance_s 0 7 1099511627776 5000 549755813888 0 1152921504606846976 549755813888 HS7.out ⟨by omega, by omega, by omega, by omega, by omega, by omega, by omega, by omega, by omega⟩ (by decide)).mono ?_
  rintro e w8 ⟨rfl, hs⟩
  have HS8 := Lib.hid ((hs.lit rfl : Sts w [(g, #[.int .i64 7, .int .i64 1099511627776, .int .i64 5000, .int .i64 549755813888, .int .i64 0, .int .i64 1152921504606846976, .int .i64 549755813888], 27)] w8))
  clear HS7
  clear hs
  have c0_0 : w8.cell? ⟨g, 0, none⟩ = some (.int .i64 7) := HS8.out.cell 0 0 rfl rfl
  have c0_1 : w8.cell? ⟨g, 1, none⟩ = some (.int .i64 1099511627776) := HS8.out.cell 0 1 rfl rfl
  have c0_2 : w8.cell? ⟨g, 2, none⟩ = some (.int .i64 5000) := HS8.out.cell 0 2 rfl rfl
  have c0_3 : w8.cell? ⟨g, 3, none⟩ = some (.int .i64 549755813888) := HS8.out.cell 0 3 rfl rfl
  have c0_4 : w8.cell? ⟨g, 4, none⟩ = some (.int .i64 0) := HS8.out.cell 0 4 rfl rfl
  have c0_5 : w8.cell? ⟨g, 5, none⟩ = some (.int .i64 1152921504606846976) := HS8.out.cell 0 5 rfl rfl
  have c0_6 : w8.cell? ⟨g, 6, none⟩ = some (.int .i64 549755813888) := HS8.out.cell 0 6 rfl rfl
  go_wp2_with fail
  clear c0_0 c0_1 c0_2 c0_3 c0_4 c0_5 c0_6
  refine (within_s a0 0 8 HS8.out (by omega) (by omega) (by omega)).mono ?_
  rintro e w9 ⟨rfl, hs⟩
  have HS9 := Lib.hid ((hs.lit rfl : Sts w [(g, #[.int .i64 7, .int .i64 1099511627776, .int .i64 5000, .int .i64 549755813888, .int .i64 0, .int .i64 1152921504606846976, .int .i64 549755813888], 27)] w9))
  clear HS8
  clear hs
  have c0_0 : w9.cell? ⟨g, 0, none⟩ = some (.int .i64 7) := HS9.out.cell 0 0 rfl rfl
  have c0_1 : w9.cell? ⟨g, 1, none⟩ = some (.int .i64 1099511627776) := HS9.out.cell 0 1 rfl rfl
  have c0_2 : w9.cell? ⟨g, 2, none⟩ = some (.int .i64 5000) := HS9.out.cell 0 2 rfl rfl
  have c0_3 : w9.cell? ⟨g, 3, none⟩ = some (.int .i64 549755813888) := HS9.out.cell 0 3 rfl rfl
  have c0_4 : w9.cell? ⟨g, 4, none⟩ = some (.int .i64 0) := HS9.out.cell 0 4 rfl rfl
  have c0_5 : w9.cell? ⟨g, 5, none⟩ = some (.int .i64 1152921504606846976) := HS9.out.cell 0 5 rfl rfl
  have c0_6 : w9.cell? ⟨g, 6, none⟩ = some (.int .i64 549755813888) := HS9.out.cell 0 6 rfl rfl
  rw [← Ex.out]
  clear c0_0 c0_1 c0_2 c0_3 c0_4 c0_5 c0_6
  have c0_0 : w9.cell? ⟨g, 0, none⟩ = some (.int .i64 7) := HS9.out.cell 0 0 rfl rfl
  have f0_0 := HS9.out.frozen 0 0 rfl
  have c0_1 : w9.cell? ⟨g, 1, none⟩ = some (.int .i64 1099511627776) := HS9.out.cell 0 1 rfl rfl
  have f0_1 := HS9.out.frozen 0 1 rfl
  have c0_2 : w9.cell? ⟨g, 2, none⟩ = some (.int .i64 5000) := HS9.out.cell 0 2 rfl rfl
  have f0_2 := HS9.out.frozen 0 2 rfl
  have c0_3 : w9.cell? ⟨g, 3, none⟩ = some (.int .i64 549755813888) := HS9.out.cell 0 3 rfl rfl
  have f0_3 := HS9.out.frozen 0 3 rfl
  have c0_4 : w9.cell? ⟨g, 4, none⟩ = some (.int .i64 0) := HS9.out.cell 0 4 rfl rfl
  have f0_4 := HS9.out.frozen 0 4 rfl
  have c0_5 : w9.cell? ⟨g, 5, none⟩ = some (.int .i64 1152921504606846976) := HS9.out.cell 0 5 rfl rfl
  have f0_5 := HS9.out.frozen 0 5 rfl
  have c0_6 : w9.cell? ⟨g, 6, none⟩ = some (.int .i64 549755813888) := HS9.out.cell 0 6 rfl rfl
  have f0_6 := HS9.out.frozen 0 6 rfl
  by_cases k0 : (x == 0) = true
  · skip
    go_wp2_with fail
    clear c0_0 f0_0 c0_1 f0_1 c0_2 f0_2 c0_3 f0_3 c0_4 f0_4 c0_5 f0_5 c0_6 f0_6
    have HS10 := Lib.hid (((HS9.out.set 0 0 (.int .i64 (7 + k)) rfl).lit rfl : Sts w [(g, #[.int .i64 (7 + k), .int .i64 1099511627776, .int .i64 5000, .int .i64 549755813888, .int .i64 0, .int .i64 1152921504606846976, .int .i64 549755813888], 27)] _))
    clear HS9
    refine (nright_s false (7 + k) 1099511627776 5000 549755813888 0 1152921504606846976 549755813888 HS10.out (by omega) (by omega) (by omega) (by omega) (by omega) (by omega) (by omega) (by omega) (by omega) (by unfold rightB; exact decide_eq_false (by omega))).mono ?_
    rintro e w11 ⟨rfl, hs⟩
    have HS11 := Lib.hid ((hs.lit rfl : Sts w [(g, #[.int .i64 (7 + k), .int .i64 1099511627776, .int .i64 5000, .int .i64 549755813888, .int .i64 0, .int .i64 1152921504606846976, .int .i64 549755813888], 27)] w11))
    clear HS10
    clear hs
    have c0_0 : w11.cell? ⟨g, 0, none⟩ = some (.int .i64 (7 + k)) := HS11.out.cell 0 0 rfl rfl
    have c0_1 : w11.cell? ⟨g, 1, none⟩ = some (.int .i64 1099511627776) := HS11.out.cell 0 1 rfl rfl
    have c0_2 : w11.cell? ⟨g, 2, none⟩ = some (.int .i64 5000) := HS11.out.cell 0 2 rfl rfl
    have c0_3 : w11.cell? ⟨g, 3, none⟩ = some (.int .i64 549755813888) := HS11.out.cell 0 3 rfl rfl
    have c0_4 : w11.cell? ⟨g, 4, none⟩ = some (.int .i64 0) := HS11.out.cell 0 4 rfl rfl
    have c0_5 : w11.cell? ⟨g, 5, none⟩ = some (.int .i64 1152921504606846976) := HS11.out.cell 0 5 rfl rfl
    have c0_6 : w11.cell? ⟨g, 6, none⟩ = some (.int .i64 549755813888) := HS11.out.cell 0 6 rfl rfl
    go_wp2_with fail
    clear c0_0 c0_1 c0_2 c0_3 c0_4 c0_5 c0_6
    refine (noteRuns_s HS11.out).mono ?_
    rintro e w12 ⟨rfl, hs⟩
    have HS12 := Lib.hid ((hs.lit rfl : Sts w [(g, #[.int .i64 (7 + k), .int .i64 1099511627776, .int .i64 5000, .int .i64 549755813888, .int .i64 0, .int .i64 1152921504606846976, .int .i64 549755813888], 27)] w12))
    clear HS11
    clear hs
    go_wp2
    go_ret
    exact ⟨rfl, HS12.out.bel⟩
  replace k0 := Bool.eq_false_iff.2 k0
  by_cases k1 : (x == 1) = true
  · skip
    go_wp2_with fail
    clear c0_0 f0_0 c0_1 f0_1 c0_2 f0_2 c0_3 f0_3 c0_4 f0_4 c0_5 f0_5 c0_6 f0_6
    have HS10 := Lib.hid (((HS9.out.set 0 0 (.int .i64 (-k)) rfl).lit rfl : Sts w [(g, #[.int .i64 (-k), .int .i64 1099511627776, .int .i64 5000, .int .i64 549755813888, .int .i64 0, .int .i64 1152921504606846976, .int .i64 549755813888], 27)] _))
    clear HS9
    refine (nright_s false (-k) 1099511627776 5000 549755813888 0 1152921504606846976 549755813888 HS10.out (by omega) (by omega) (by omega) (by omega) (by omega) (by omega) (by omega) (by omega) (by omega) (by unfold rightB; exact decide_eq_false (by omega))).mono ?_
    rintro e w11 ⟨rfl, hs⟩
    have HS11 := Lib.hid ((hs.lit rfl : Sts w [(g, #[.int .i64 (-k), .int .i64 1099511627776, .int .i64 5000, .int .i64 549755813888, .int .i64 0, .int .i64 1152921504606846976, .int .i64 549755813888], 27)] w11))
    clear HS10
    clear hs
    have c0_0 : w11.cell? ⟨g, 0, none⟩ = some (.int .i64 (-k)) := HS11.out.cell 0 0 rfl rfl
    have c0_1 : w11.cell? ⟨g, 1, none⟩ = some (.int .i64 1099511627776) := HS11.out.cell 0 1 rfl rfl
    have c0_2 : w11.cell? ⟨g, 2, none⟩ = some (.int .i64 5000) := HS11.out.cell 0 2 rfl rfl
    have c0_3 : w11.cell? ⟨g, 3, none⟩ = some (.int .i64 549755813888) := HS11.out.cell 0 3 rfl rfl
    have c0_4 : w11.cell? ⟨g, 4, none⟩ = some (.int .i64 0) := HS11.out.cell 0 4 rfl rfl
    have c0_5 : w11.cell? ⟨g, 5, none⟩ = some (.int .i64 1152921504606846976) := HS11.out.cell 0 5 rfl rfl
    have c0_6 : w11.cell? ⟨g, 6, none⟩ = some (.int .i64 549755813888) := HS11.out.cell 0 6 rfl rfl
    go_wp2_with fail
    clear c0_0 c0_1 c0_2 c0_3 c0_4 c0_5 c0_6
    refine (noteRuns_s HS11.out).mono ?_
    rintro e w12 ⟨rfl, hs⟩
    have HS12 := Lib.hid ((hs.lit rfl : Sts w [(g, #[.int .i64 (-k), .int .i64 1099511627776, .int .i64 5000, .int .i64 549755813888, .int .i64 0, .int .i64 1152921504606846976, .int .i64 549755813888], 27)] w12))
    clear HS11
    clear hs
    go_wp2
    go_ret
    exact ⟨rfl, HS12.out.bel⟩
  replace k1 := Bool.eq_false_iff.2 k1
  by_cases k2 : (x == 2) = true
  · skip
    go_wp2_with fail
    clear c0_0 f0_0 c0_1 f0_1 c0_2 f0_2 c0_3 f0_3 c0_4 f0_4 c0_5 f0_5 c0_6 f0_6
    have HS10 := Lib.hid (((HS9.out.set 0 1 (.int .i64 (1099511627776 + k)) rfl).lit rfl : Sts w [(g, #[.int .i64 7, .int .i64 (1099511627776 + k), .int .i64 5000, .int .i64 549755813888, .int .i64 0, .int .i64 1152921504606846976, .int .i64 549755813888], 27)] _))
    clear HS9
    refine (nright_s false 7 (1099511627776 + k) 5000 549755813888 0 1152921504606846976 549755813888 HS10.out (by omega) (by omega) (by omega) (by omega) (by omega) (by omega) (by omega) (by omega) (by omega) (by unfold rightB; exact decide_eq_false (by omega))).mono ?_
    rintro e w11 ⟨rfl, hs⟩
    have HS11 := Lib.hid ((hs.lit rfl : Sts w [(g, #[.int .i64 7, .int .i64 (1099511627776 + k), .int .i64 5000, .int .i64 549755813888, .int .i64 0, .int .i64 1152921504606846976, .int .i64 549755813888], 27)] w11))
    clear HS10
    clear hs
    have c0_0 : w11.cell? ⟨g, 0, none⟩ = some (.int .i64 7) := HS11.out.cell 0 0 rfl rfl
    have c0_1 : w11.cell? ⟨g, 1, none⟩ = some (.int .i64 (1099511627776 + k)) := HS11.out.cell 0 1 rfl rfl
    have c0_2 : w11.cell? ⟨g, 2, none⟩ = some (.int .i64 5000) := HS11.out.cell 0 2 rfl rfl
    have c0_3 : w11.cell? ⟨g, 3, none⟩ = some (.int .i64 549755813888) := HS11.out.cell 0 3 rfl rfl
    have c0_4 : w11.cell? ⟨g, 4, none⟩ = some (.int .i64 0) := HS11.out.cell 0 4 rfl rfl
    have c0_5 : w11.cell? ⟨g, 5, none⟩ = some (.int .i64 1152921504606846976) := HS11.out.cell 0 5 rfl rfl
    have c0_6 : w11.cell? ⟨g, 6, none⟩ = some (.int .i64 549755813888) := HS11.out.cell 0 6 rfl rfl
    go_wp2_with fail
    clear c0_0 c0_1 c0_2 c0_3 c0_4 c0_5 c0_6
    refine (noteRuns_s HS11.out).mono ?_
    rintro e w12 ⟨rfl, hs⟩
    have HS12 := Lib.hid ((hs.lit rfl : Sts w [(g, #[.int .i64 7, .int .i64 (1099511627776 + k), .int .i64 5000, .int .i64 549755813888, .int .i64 0, .int .i64 1152921504606846976, .int .i64 549755813888], 27)] w12))
    clear HS11
    clear hs
    go_wp2
    go_ret
    exact ⟨rfl, HS12.out.bel⟩
  replace k2 := Bool.eq_false_iff.2 k2
  by_cases k3 : (x == 3) = true
  · skip
    go_wp2_with fail
    clear c0_0 f0_0 c0_1 f0_1 c0_2 f0_2 c0_3 f0_3 c0_4 f0_4 c0_5 f0_5 c0_6 f0_6
    have HS10 := Lib.hid (((HS9.out.set 0 1 (.int .i64 (-k)) rfl).lit rfl : Sts w [(g, #[.int .i64 7, .int .i64 (-k), .int .i64 5000, .int .i64 549755813888, .int .i64 0, .int .i64 1152921504606846976, .int .i64 549755813888], 27)] _))
    clear HS9
    refine (nright_s false 7 (-k) 5000 549755813888 0 1152921504606846976 549755813888 HS10.out (by omega) (by omega) (by omega) (by omega) (by omega) (by omega) (by omega) (by omega) (by omega) (by unfold rightB; exact decide_eq_false (by omega))).mono ?_
    rintro e w11 ⟨rfl, hs⟩
    have HS11 := Lib.hid ((hs.lit rfl : Sts w [(g, #[.int .i64 7, .int .i64 (-k), .int .i64 5000, .int .i64 549755813888, .int .i64 0, .int .i64 1152921504606846976, .int .i64 549755813888], 27)] w11))
    clear HS10
    clear hs
    have c0_0 : w11.cell? ⟨g, 0, none⟩ = some (.int .i64 7) := HS11.out.cell 0 0 rfl rfl
    have c0_1 : w11.cell? ⟨g, 1, none⟩ = some (.int .i64 (-k)) := HS11.out.cell 0 1 rfl rfl
    have c0_2 : w11.cell? ⟨g, 2, none⟩ = some (.int .i64 5000) := HS11.out.cell 0 2 rfl rfl
    have c0_3 : w11.cell? ⟨g, 3, none⟩ = some (.int .i64 549755813888) := HS11.out.cell 0 3 rfl rfl
    have c0_4 : w11.cell? ⟨g, 4, none⟩ = some (.int .i64 0) := HS11.out.cell 0 4 rfl rfl
    have c0_5 : w11.cell? ⟨g, 5, none⟩ = some (.int .i64 1152921504606846976) := HS11.out.cell 0 5 rfl rfl
    have c0_6 : w11.cell? ⟨g, 6, none⟩ = some (.int .i64 549755813888) := HS11.out.cell 0 6 rfl rfl
    go_wp2_with fail
    clear c0_0 c0_1 c0_2 c0_3 c0_4 c0_5 c0_6
    refine (noteRuns_s HS11.out).mono ?_
    rintro e w12 ⟨rfl, hs⟩
    have HS12 := Lib.hid ((hs.lit rfl : Sts w [(g, #[.int .i64 7, .int .i64 (-k), .int .i64 5000, .int .i64 549755813888, .int .i64 0, .int .i64 1152921504606846976, .int .i64 549755813888], 27)] w12))
    clear HS11
    clear hs
    go_wp2
    go_ret
    exact ⟨rfl, HS12.out.bel⟩
  replace k3 := Bool.eq_false_iff.2 k3
  by_cases k4 : (x == 4) = true
  · skip
    go_wp2_with fail
    clear c0_0 f0_0 c0_1 f0_1 c0_2 f0_2 c0_3 f0_3 c0_4 f0_4 c0_5 f0_5 c0_6 f0_6
    have HS10 := Lib.hid (((HS9.out.set 0 2 (.int .i64 (5000 + k)) rfl).lit rfl : Sts w [(g, #[.int .i64 7, .int .i64 1099511627776, .int .i64 (5000 + k), .int .i64 549755813888, .int .i64 0, .int .i64 1152921504606846976, .int .i64 549755813888], 27)] _))
    clear HS9
    refine (nright_s false 7 1099511627776 (5000 + k) 549755813888 0 1152921504606846976 549755813888 HS10.out (by omega) (by omega) (by omega) (by omega) (by omega) (by omega) (by omega) (by omega) (by omega) (by unfold rightB; exact decide_eq_false (by omega))).mono ?_
    rintro e w11 ⟨rfl, hs⟩
    have HS11 := Lib.hid ((hs.lit rfl : Sts w [(g, #[.int .i64 7, .int .i64 1099511627776, .int .i64 (5000 + k), .int .i64 549755813888, .int .i64 0, .int .i64 1152921504606846976, .int .i64 549755813888], 27)] w11))
    clear HS10
    clear hs
    have c0_0 : w11.cell? ⟨g, 0, none⟩ = some (.int .i64 7) := HS11.out.cell 0 0 rfl rfl
    have c0_1 : w11.cell? ⟨g, 1, none⟩ = some (.int .i64 1099511627776) := HS11.out.cell 0 1 rfl rfl
    have c0_2 : w11.cell? ⟨g, 2, none⟩ = some (.int .i64 (5000 + k)) := HS11.out.cell 0 2 rfl rfl
    have c0_3 : w11.cell? ⟨g, 3, none⟩ = some (.int .i64 549755813888) := HS11.out.cell 0 3 rfl rfl
    have c0_4 : w11.cell? ⟨g, 4, none⟩ = some (.int .i64 0) := HS11.out.cell 0 4 rfl rfl
    have c0_5 : w11.cell? ⟨g, 5, none⟩ = some (.int .i64 1152921504606846976) := HS11.out.cell 0 5 rfl rfl
    have c0_6 : w11.cell? ⟨g, 6, none⟩ = some (.int .i64 549755813888) := HS11.out.cell 0 6 rfl rfl
    go_wp2_with fail
    clear c0_0 c0_1 c0_2 c0_3 c0_4 c0_5 c0_6
    refine (noteRuns_s HS11.out).mono ?_
    rintro e w12 ⟨rfl, hs⟩
    have HS12 := Lib.hid ((hs.lit rfl : Sts w [(g, #[.int .i64 7, .int .i64 1099511627776, .int .i64 (5000 + k), .int .i64 549755813888, .int .i64 0, .int .i64 1152921504606846976, .int .i64 549755813888], 27)] w12))
    clear HS11
    clear hs
    go_wp2
    go_ret
    exact ⟨rfl, HS12.out.bel⟩
  replace k4 := Bool.eq_false_iff.2 k4
  by_cases k5 : (x == 5) = true
  · skip
    go_wp2_with fail
    clear c0_0 f0_0 c0_1 f0_1 c0_2 f0_2 c0_3 f0_3 c0_4 f0_4 c0_5 f0_5 c0_6 f0_6
    have HS10 := Lib.hid (((HS9.out.set 0 2 (.int .i64 (-k)) rfl).lit rfl : Sts w [(g, #[.int .i64 7, .int .i64 1099511627776, .int .i64 (-k), .int .i64 549755813888, .int .i64 0, .int .i64 1152921504606846976, .int .i64 549755813888], 27)] _))
    clear HS9
    refine (nright_s false 7 1099511627776 (-k) 549755813888 0 1152921504606846976 549755813888 HS10.out (by omega) (by omega) (by omega) (by omega) (by omega) (by omega) (by omega) (by omega) (by omega) (by unfold rightB; exact decide_eq_false (by omega))).mono ?_
    rintro e w11 ⟨rfl, hs⟩
    have HS11 := Lib.hid ((hs.lit rfl : Sts w [(g, #[.int .i64 7, .int .i64 1099511627776, .int .i64 (-k), .int .i64 549755813888, .int .i64 0, .int .i64 1152921504606846976, .int .i64 549755813888], 27)] w11))
    clear HS10
    clear hs
    have c0_0 : w11.cell? ⟨g, 0, none⟩ = some (.int .i64 7) := HS11.out.cell 0 0 rfl rfl
    have c0_1 : w11.cell? ⟨g, 1, none⟩ = some (.int .i64 1099511627776) := HS11.out.cell 0 1 rfl rfl
    have c0_2 : w11.cell? ⟨g, 2, none⟩ = some (.int .i64 (-k)) := HS11.out.cell 0 2 rfl rfl
    have c0_3 : w11.cell? ⟨g, 3, none⟩ = some (.int .i64 549755813888) := HS11.out.cell 0 3 rfl rfl
    have c0_4 : w11.cell? ⟨g, 4, none⟩ = some (.int .i64 0) := HS11.out.cell 0 4 rfl rfl
    have c0_5 : w11.cell? ⟨g, 5, none⟩ = some (.int .i64 1152921504606846976) := HS11.out.cell 0 5 rfl rfl
    have c0_6 : w11.cell? ⟨g, 6, none⟩ = some (.int .i64 549755813888) := HS11.out.cell 0 6 rfl rfl
    go_wp2_with fail
    clear c0_0 c0_1 c0_2 c0_3 c0_4 c0_5 c0_6
    refine (noteRuns_s HS11.out).mono ?_
    rintro e w12 ⟨rfl, hs⟩
    have HS12 := Lib.hid ((hs.lit rfl : Sts w [(g, #[.int .i64 7, .int .i64 1099511627776, .int .i64 (-k), .int .i64 549755813888, .int .i64 0, .int .i64 1152921504606846976, .int .i64 549755813888], 27)] w12))
    clear HS11
    clear hs
    go_wp2
    go_ret
    exact ⟨rfl, HS12.out.bel⟩
  replace k5 := Bool.eq_false_iff.2 k5
  by_cases k6 : (x == 6) = true
  · skip
    go_wp2_with fail
    clear c0_0 f0_0 c0_1 f0_1 c0_2 f0_2 c0_3 f0_3 c0_4 f0_4 c0_5 f0_5 c0_6 f0_6
    have HS10 := Lib.hid (((HS9.out.set 0 5 (.int .i64 (1152921504606846976 + k)) rfl).lit rfl : Sts w [(g, #[.int .i64 7, .int .i64 1099511627776, .int .i64 5000, .int .i64 549755813888, .int .i64 0, .int .i64 (1152921504606846976 + k), .int .i64 549755813888], 27)] _))
    clear HS9
    refine (nright_s false 7 1099511627776 5000 549755813888 0 (1152921504606846976 + k) 549755813888 HS10.out (by omega) (by omega) (by omega) (by omega) (by omega) (by omega) (by omega) (by omega) (by omega) (by unfold rightB; exact decide_eq_false (by omega))).mono ?_
    rintro e w11 ⟨rfl, hs⟩
    have HS11 := Lib.hid ((hs.lit rfl : Sts w [(g, #[.int .i64 7, .int .i64 1099511627776, .int .i64 5000, .int .i64 549755813888, .int .i64 0, .int .i64 (1152921504606846976 + k), .int .i64 549755813888], 27)] w11))
    clear HS10
    clear hs
    have c0_0 : w11.cell? ⟨g, 0, none⟩ = some (.int .i64 7) := HS11.out.cell 0 0 rfl rfl
    have c0_1 : w11.cell? ⟨g, 1, none⟩ = some (.int .i64 1099511627776) := HS11.out.cell 0 1 rfl rfl
    have c0_2 : w11.cell? ⟨g, 2, none⟩ = some (.int .i64 5000) := HS11.out.cell 0 2 rfl rfl
    have c0_3 : w11.cell? ⟨g, 3, none⟩ = some (.int .i64 549755813888) := HS11.out.cell 0 3 rfl rfl
    have c0_4 : w11.cell? ⟨g, 4, none⟩ = some (.int .i64 0) := HS11.out.cell 0 4 rfl rfl
    have c0_5 : w11.cell? ⟨g, 5, none⟩ = some (.int .i64 (1152921504606846976 + k)) := HS11.out.cell 0 5 rfl rfl
    have c0_6 : w11.cell? ⟨g, 6, none⟩ = some (.int .i64 549755813888) := HS11.out.cell 0 6 rfl rfl
    go_wp2_with fail
    clear c0_0 c0_1 c0_2 c0_3 c0_4 c0_5 c0_6
    refine (noteRuns_s HS11.out).mono ?_
    rintro e w12 ⟨rfl, hs⟩
    have HS12 := Lib.hid ((hs.lit rfl : Sts w [(g, #[.int .i64 7, .int .i64 1099511627776, .int .i64 5000, .int .i64 549755813888, .int .i64 0, .int .i64 (1152921504606846976 + k), .int .i64 549755813888], 27)] w12))
    clear HS11
    clear hs
    go_wp2
    go_ret
    exact ⟨rfl, HS12.out.bel⟩
  replace k6 := Bool.eq_false_iff.2 k6
  by_cases k7 : (x == 7) = true
  · skip
    go_wp2_with fail
    clear c0_0 f0_0 c0_1 f0_1 c0_2 f0_2 c0_3 f0_3 c0_4 f0_4 c0_5 f0_5 c0_6 f0_6
    have HS10 := Lib.hid (((HS9.out.set 0 6 (.int .i64 (549755813888 + k)) rfl).lit rfl : Sts w [(g, #[.int .i64 7, .int .i64 1099511627776, .int .i64 5000, .int .i64 549755813888, .int .i64 0, .int .i64 1152921504606846976, .int .i64 (549755813888 + k)], 27)] _))
    clear HS9
    refine (nright_s false 7 1099511627776 5000 549755813888 0 1152921504606846976 (549755813888 + k) HS10.out (by omega) (by omega) (by omega) (by omega) (by omega) (by omega) (by omega) (by omega) (by omega) (by unfold rightB; exact decide_eq_false (by omega))).mono ?_
    rintro e w11 ⟨rfl, hs⟩
    have HS11 := Lib.hid ((hs.lit rfl : Sts w [(g, #[.int .i64 7, .int .i64 1099511627776, .int .i64 5000, .int .i64 549755813888, .int .i64 0, .int .i64 1152921504606846976, .int .i64 (549755813888 + k)], 27)] w11))
    clear HS10
    clear hs
    have c0_0 : w11.cell? ⟨g, 0, none⟩ = some (.int .i64 7) := HS11.out.cell 0 0 rfl rfl
    have c0_1 : w11.cell? ⟨g, 1, none⟩ = some (.int .i64 1099511627776) := HS11.out.cell 0 1 rfl rfl
    have c0_2 : w11.cell? ⟨g, 2, none⟩ = some (.int .i64 5000) := HS11.out.cell 0 2 rfl rfl
    have c0_3 : w11.cell? ⟨g, 3, none⟩ = some (.int .i64 549755813888) := HS11.out.cell 0 3 rfl rfl
    have c0_4 : w11.cell? ⟨g, 4, none⟩ = some (.int .i64 0) := HS11.out.cell 0 4 rfl rfl
    have c0_5 : w11.cell? ⟨g, 5, none⟩ = some (.int .i64 1152921504606846976) := HS11.out.cell 0 5 rfl rfl
    have c0_6 : w11.cell? ⟨g, 6, none⟩ = some (.int .i64 (549755813888 + k)) := HS11.out.cell 0 6 rfl rfl
    go_wp2_with fail
    clear c0_0 c0_1 c0_2 c0_3 c0_4 c0_5 c0_6
    refine (noteRuns_s HS11.out).mono ?_
    rintro e w12 ⟨rfl, hs⟩
    have HS12 := Lib.hid ((hs.lit rfl : Sts w [(g, #[.int .i64 7, .int .i64 1099511627776, .int .i64 5000, .int .i64 549755813888, .int .i64 0, .int .i64 1152921504606846976, .int .i64 (549755813888 + k)], 27)] w12))
    clear HS11
    clear hs
    go_wp2
    go_ret
    exact ⟨rfl, HS12.out.bel⟩
  replace k7 := Bool.eq_false_iff.2 k7
  skip
  go_wp2_with fail
  clear c0_0 f0_0 c0_1 f0_1 c0_2 f0_2 c0_3 f0_3 c0_4 f0_4 c0_5 f0_5 c0_6 f0_6
  have HS10 := Lib.hid (((HS9.out.set 0 6 (.int .i64 (-k)) rfl).lit rfl : Sts w [(g, #[.int .i64 7, .int .i64 1099511627776, .int .i64 5000, .int .i64 549755813888, .int .i64 0, .int .i64 1152921504606846976, .int .i64 (-k)], 27)] _))
  clear HS9
  refine (nright_s false 7 1099511627776 5000 549755813888 0 1152921504606846976 (-k) HS10.out (by omega) (by omega) (by omega) (by omega) (by omega) (by omega) (by omega) (by omega) (by omega) (by unfold rightB; exact decide_eq_false (by omega))).mono ?_
  rintro e w11 ⟨rfl, hs⟩
  have HS11 := Lib.hid ((hs.lit rfl : Sts w [(g, #[.int .i64 7, .int .i64 1099511627776, .int .i64 5000, .int .i64 549755813888, .int .i64 0, .int .i64 1152921504606846976, .int .i64 (-k)], 27)] w11))
  clear HS10
  clear hs
  have c0_0 : w11.cell? ⟨g, 0, none⟩ = some (.int .i64 7) := HS11.out.cell 0 0 rfl rfl
  have c0_1 : w11.cell? ⟨g, 1, none⟩ = some (.int .i64 1099511627776) := HS11.out.cell 0 1 rfl rfl
  have c0_2 : w11.cell? ⟨g, 2, none⟩ = some (.int .i64 5000) := HS11.out.cell 0 2 rfl rfl
  have c0_3 : w11.cell? ⟨g, 3, none⟩ = some (.int .i64 549755813888) := HS11.out.cell 0 3 rfl rfl
  have c0_4 : w11.cell? ⟨g, 4, none⟩ = some (.int .i64 0) := HS11.out.cell 0 4 rfl rfl
  have c0_5 : w11.cell? ⟨g, 5, none⟩ = some (.int .i64 1152921504606846976) := HS11.out.cell 0 5 rfl rfl
  have c0_6 : w11.cell? ⟨g, 6, none⟩ = some (.int .i64 (-k)) := HS11.out.cell 0 6 rfl rfl
  go_wp2_with fail
  clear c0_0 c0_1 c0_2 c0_3 c0_4 c0_5 c0_6
  refine (noteRuns_s HS11.out).mono ?_
  rintro e w12 ⟨rfl, hs⟩
  have HS12 := Lib.hid ((hs.lit rfl : Sts w [(g, #[.int .i64 7, .int .i64 1099511627776, .int .i64 5000, .int .i64 549755813888, .int .i64 0, .int .i64 1152921504606846976, .int .i64 (-k)], 27)] w12))
  clear HS11
  clear hs
  go_wp2
  go_ret
  exact ⟨rfl, HS12.out.bel⟩

end Go.Proofs.Ytllbpjaiplnbnaa

import Derived.Test.YticddmmbphoioaaMove
import Derived.Test.YticddmmbphoioaaPurseRuns
import Derived.Test.YticddmmbphoioaaWithin
namespace Go.Proofs.Yticddmmbphoioaa
open Go.RowKit
set_option linter.unusedVariables false
set_option linter.unusedSimpArgs false
attribute [local go_sem] bmax2 bmin2 bmax_two bmin_two bmax_three bmin_three
set_option maxHeartbeats 2000000 in
set_option maxRecDepth 100000 in
theorem purseMoves_walk (a0 a1 a2 a3 : Int) (w : World) : Calls Try.prog 9 #[.int .i64 a0, .int .i64 a1, .int .i64 a2, .int .i64 a3] w fun e w' => e = .returned (.bool true) ∧ Below w.heap.size w w' := by
  obtain ⟨h, hh⟩ : ∃ h, h = within a1 0 1125899906842624 := ⟨_, rfl⟩
  obtain ⟨va, hva⟩ : ∃ v, v = within a2 0 1125899906842624 := ⟨_, rfl⟩
  obtain ⟨vb, hvb⟩ : ∃ v, v = within a3 0 1125899906842624 := ⟨_, rfl⟩
  obtain ⟨k, hk⟩ : ∃ v, v = within a0 0 2251799813685248 := ⟨_, rfl⟩
  obtain ⟨bh0, bh1⟩ : 0 ≤ h ∧ h ≤ 1125899906842624 := by rw [hh]; exact within_bd a1 (by omega)
  have Eh := Lib.hid hh
  clear hh
  obtain ⟨bva0, bva1⟩ : 0 ≤ va ∧ va ≤ 1125899906842624 := by rw [hva]; exact within_bd a2 (by omega)
  have Eva := Lib.hid hva
  clear hva
  obtain ⟨bvb0, bvb1⟩ : 0 ≤ vb ∧ vb ≤ 1125899906842624 := by rw [hvb]; exact within_bd a3 (by omega)
  have Evb := Lib.hid hvb
  clear hvb
  obtain ⟨bk0, bk1⟩ : 0 ≤ k ∧ k ≤ 2251799813685248 := by rw [hk]; exact within_bd a0 (by omega)
  have Ek := Lib.hid hk
  clear hk
  obtain ⟨x, hx⟩ : ∃ v, v = 1152921504606846976 - va := ⟨_, rfl⟩
  obtain ⟨y, hy⟩ : ∃ v, v = 1152921504606846976 - vb := ⟨_, rfl⟩
  have bx0 : 0 ≤ x := by omega
  have bx1 : x ≤ 1152921504606846976 := by omega
  have Ex := Lib.hid hx
  clear hx
  have by0 : 0 ≤ y := by omega
  have by1 : y ≤ 1152921504606846976 := by omega
  have Ey := Lib.hid hy
  clear hy
  obtain ⟨want, hwant⟩ : ∃ v, v = takes h 0 k := ⟨_, rfl⟩
  obtain ⟨bw0, bw1⟩ := takes_bd h 0 k bh0
  rw [← hwant] at bw0 bw1
  have Ewant := Lib.hid hwant
  clear hwant
  have HS0 := Lib.hid (Sts.nil w)
  go_enter Try.func9, Try.ntmps9
  go_wp2_with fail
  refine (within_s a1 0 1125899906842624 HS0.out (by omega) (by omega) (by omega)).mono ?_
  rintro e w1 ⟨rfl, hs⟩
  have HS1 := Lib.hid ((hs.lit rfl : Sts w [] w1))
  clear HS0
  clear hs
  rw [← Eh.out]
  go_wp2_with fail
  refine (ofyes_s h h HS1.out (by omega) (by omega) rfl).mono ?_
  rintro e w2 ⟨rfl, hs⟩
  have HS2 := Lib.hid ((hs.lit rfl : Sts w [] w2))
  clear HS1
  clear hs
  go_wp2_with fail
  have HS3 := Lib.hid ((HS2.out.add (g := w2.heap.size) (by simp) #[.int .i64 h, .int .i64 0] 35).lit (L' := [(w2.heap.size, #[.int .i64 h, .int .i64 0], 35)]) rfl)
  clear HS2
  generalize w2.heap.size = gp at *
  refine (within_s a2 0 1125899906842624 HS3.out (by omega) (by omega) (by omega)).mono ?_
  rintro e w4 ⟨rfl, hs⟩
  have HS4 := Lib.hid ((hs.lit rfl : Sts w [(gp, #[.int .i64 h, .int .i64 0], 35)] w4))
  clear HS3
  clear hs
  have c0_0 : w4.cell? ⟨gp, 0, none⟩ = some (.int .i64 h) := HS4.out.cell 0 0 rfl rfl
  have c0_1 : w4.cell? ⟨gp, 1, none⟩ = some (.int .i64 0) := HS4.out.cell 0 1 rfl rfl
  rw [← Eva.out]
  go_wp2_with fail
  rw [← Ex.out]
  clear c0_0 c0_1
  refine (ofyes_s x x HS4.out (by omega) (by omega) rfl).mono ?_
  rintro e w5 ⟨rfl, hs⟩
  have HS5 := Lib.hid ((hs.lit rfl : Sts w [(gp, #[.int .i64 h, .int .i64 0], 35)] w5))
  clear HS4
  clear hs
  have c0_0 : w5.cell? ⟨gp, 0, none⟩ = some (.int .i64 h) := HS5.out.cell 0 0 rfl rfl
  have c0_1 : w5.cell? ⟨gp, 1, none⟩ = some (.int .i64 0) := HS5.out.cell 0 1 rfl rfl
  go_wp2_with fail
  clear c0_0 c0_1
  refine (within_s a3 0 1125899906842624 HS5.out (by omega) (by omega) (by omega)).mono ?_
  rintro e w6 ⟨rfl, hs⟩
  have HS6 := Lib.hid ((hs.lit rfl : Sts w [(gp, #[.int .i64 h, .int .i64 0], 35)] w6))
  clear HS5
  clear hs
  have c0_0 : w6.cell? ⟨gp, 0, none⟩ = some (.int .i64 h) := HS6.out.cell 0 0 rfl rfl
  have c0_1 : w6.cell? ⟨gp, 1, none⟩ = some (.int .i64 0) := HS6.out.cell 0 1 rfl rfl
  rw [← Evb.out]
  go_wp2_with fail
  rw [← Ey.out]
  clear c0_0 c0_1
  refine (ofyes_s y y HS6.out (by omega) (by omega) rfl).mono ?_
  rintro e w7 ⟨rfl, hs⟩
  have HS7 := Lib.hid ((hs.lit rfl : Sts w [(gp, #[.int .i64 h, .int .i64 0], 35)] w7))
  clear HS6
  clear hs
  have c0_0 : w7.cell? ⟨gp, 0, none⟩ = some (.int .i64 h) := HS7.out.cell 0 0 rfl rfl
  have c0_1 : w7.cell? ⟨gp, 1, none⟩ = some (.int .i64 0) := HS7.out.cell 0 1 rfl rfl
  go_wp2_with fail
  clear c0_0 c0_1
  have HS8 := Lib.hid (((HS7.out.add (g := w7.heap.size) (by simp) #[.int .i64 x, .int .i64 0] 35).add (g := w7.heap.size + 1) (by simp) #[.int .i64 y, .int .i64 0] 35).lit (L' := [(gp, #[.int .i64 h, .int .i64 0], 35), (w7.heap.size, #[.int .i64 x, .int .i64 0], 35), (w7.heap.size + 1, #[.int .i64 y, .int .i64 0], 35)]) rfl)
  clear HS7
  generalize w7.heap.size + 1 = gy at *
  generalize w7.heap.size = gx at *
  refine (within_s a0 0 2251799813685248 HS8.out (by omega) (by omega) (by omega)).mono ?_
  rintro e w9 ⟨rfl, hs⟩
  have HS9 := Lib.hid ((hs.lit rfl : Sts w [(gp, #[.int .i64 h, .int .i64 0], 35), (gx, #[.int .i64 x, .int .i64 0], 35), (gy, #[.int .i64 y, .int .i64 0], 35)] w9))
  clear HS8
  clear hs
  have c0_0 : w9.cell? ⟨gp, 0, none⟩ = some (.int .i64 h) := HS9.out.cell 0 0 rfl rfl
  have c0_1 : w9.cell? ⟨gp, 1, none⟩ = some (.int .i64 0) := HS9.out.cell 0 1 rfl rfl
  have c1_0 : w9.cell? ⟨gx, 0, none⟩ = some (.int .i64 x) := HS9.out.cell 1 0 rfl rfl
  have c1_1 : w9.cell? ⟨gx, 1, none⟩ = some (.int .i64 0) := HS9.out.cell 1 1 rfl rfl
  have c2_0 : w9.cell? ⟨gy, 0, none⟩ = some (.int .i64 y) := HS9.out.cell 2 0 rfl rfl
  have c2_1 : w9.cell? ⟨gy, 1, none⟩ = some (.int .i64 0) := HS9.out.cell 2 1 rfl rfl
  rw [← Ek.out]
  go_wp2_with fail
  clear c0_0 c0_1 c1_0 c1_1 c2_0 c2_1
  refine (has_s h h 0 HS9.out (by omega) (by omega) (by omega) (by omega)).mono ?_
  rintro e w10 ⟨rfl, hs⟩
  have HS10 := Lib.hid ((hs.lit rfl : Sts w [(gp, #[.int .i64 h, .int .i64 0], 35), (gx, #[.int .i64 x, .int .i64 0], 35), (gy, #[.int .i64 y, .int .i64 0], 35)] w10))
  clear HS9
  clear hs
  have c0_0 : w10.cell? ⟨gp, 0, none⟩ = some (.int .i64 h) := HS10.out.cell 0 0 rfl rfl
  have c0_1 : w10.cell? ⟨gp, 1, none⟩ = some (.int .i64 0) := HS10.out.cell 0 1 rfl rfl
  have c1_0 : w10.cell? ⟨gx, 0, none⟩ = some (.int .i64 x) := HS10.out.cell 1 0 rfl rfl
  have c1_1 : w10.cell? ⟨gx, 1, none⟩ = some (.int .i64 0) := HS10.out.cell 1 1 rfl rfl
  have c2_0 : w10.cell? ⟨gy, 0, none⟩ = some (.int .i64 y) := HS10.out.cell 2 0 rfl rfl
  have c2_1 : w10.cell? ⟨gy, 1, none⟩ = some (.int .i64 0) := HS10.out.cell 2 1 rfl rfl
  go_wp2_with fail
  clear c0_0 c0_1 c1_0 c1_1 c2_0 c2_1
  refine wp_region_sts HS10.out (by kernel_rfl) (by kernel_rfl) ?_
  have hne : Nonempty (Later w [(gp, #[.int .i64 h, .int .i64 0], 35), (gx, #[.int .i64 x, .int .i64 0], 35), (gy, #[.int .i64 y, .int .i64 0], 35)]) := ⟨⟨_, HS10.out⟩⟩
  have q0_0 : ∀ p : Later w [(gp, #[.int .i64 h, .int .i64 0], 35), (gx, #[.int .i64 x, .int .i64 0], 35), (gy, #[.int .i64 y, .int .i64 0], 35)], p.val.cell? ⟨gp, 0, none⟩ = some (.int .i64 h) := fun p => p.property.cell 0 0 rfl rfl
  have q0_1 : ∀ p : Later w [(gp, #[.int .i64 h, .int .i64 0], 35), (gx, #[.int .i64 x, .int .i64 0], 35), (gy, #[.int .i64 y, .int .i64 0], 35)], p.val.cell? ⟨gp, 1, none⟩ = some (.int .i64 0) := fun p => p.property.cell 0 1 rfl rfl
  have q1_0 : ∀ p : Later w [(gp, #[.int .i64 h, .int .i64 0], 35), (gx, #[.int .i64 x, .int .i64 0], 35), (gy, #[.int .i64 y, .int .i64 0], 35)], p.val.cell? ⟨gx, 0, none⟩ = some (.int .i64 x) := fun p => p.property.cell 1 0 rfl rfl
  have q1_1 : ∀ p : Later w [(gp, #[.int .i64 h, .int .i64 0], 35), (gx, #[.int .i64 x, .int .i64 0], 35), (gy, #[.int .i64 y, .int .i64 0], 35)], p.val.cell? ⟨gx, 1, none⟩ = some (.int .i64 0) := fun p => p.property.cell 1 1 rfl rfl
  have q2_0 : ∀ p : Later w [(gp, #[.int .i64 h, .int .i64 0], 35), (gx, #[.int .i64 x, .int .i64 0], 35), (gy, #[.int .i64 y, .int .i64 0], 35)], p.val.cell? ⟨gy, 0, none⟩ = some (.int .i64 y) := fun p => p.property.cell 2 0 rfl rfl
  have q2_1 : ∀ p : Later w [(gp, #[.int .i64 h, .int .i64 0], 35), (gx, #[.int .i64 x, .int .i64 0], 35), (gy, #[.int .i64 y, .int .i64 0], 35)], p.val.cell? ⟨gy, 1, none⟩ = some (.int .i64 0) := fun p => p.property.cell 2 1 rfl rfl
  repeat (go_big_quiet_step (first | (go_at_call 19; exact Goes.quiet (in_s _ _ (Later.property _)))))
  clear hne q0_0 q0_1 q1_0 q1_1 q2_0 q2_1
  refine wpQuiet_nil ?_
  rintro w11 ⟨⟨_, hs⟩, rfl⟩
  have HS11 := Lib.hid hs
  clear hs HS10
  have c0_0 : w11.cell? ⟨gp, 0, none⟩ = some (.int .i64 h) := HS11.out.cell 0 0 rfl rfl
  have c0_1 : w11.cell? ⟨gp, 1, none⟩ = some (.int .i64 0) := HS11.out.cell 0 1 rfl rfl
  have c1_0 : w11.cell? ⟨gx, 0, none⟩ = some (.int .i64 x) := HS11.out.cell 1 0 rfl rfl
  have c1_1 : w11.cell? ⟨gx, 1, none⟩ = some (.int .i64 0) := HS11.out.cell 1 1 rfl rfl
  have c2_0 : w11.cell? ⟨gy, 0, none⟩ = some (.int .i64 y) := HS11.out.cell 2 0 rfl rfl
  have c2_1 : w11.cell? ⟨gy, 1, none⟩ = some (.int .i64 0) := HS11.out.cell 2 1 rfl rfl
  go_wp2_with fail
  rw [show min k h = want from by rw [Ewant.out]; unfold takes; omega]
  clear c0_0 c0_1 c1_0 c1_1 c2_0 c2_1
  have hne : w11.heap.size ≠ gp := by have := HS11.out.lt 0 rfl; omega
  have HNE := Lib.hid hne
  clear hne
  by_cases q1 : x + want ≤ 1152921504606846976
  · skip
    refine (move_takes want h 0 k 0 0 (HS11.out.skip _) rfl rfl rfl (by omega) (by omega) (by omega) (by omega) (by omega) Ewant.out [some ⟨gx, 0, none⟩, some ⟨gy, 0, none⟩] _ 2 (by simp) HNE.out (ptr_cells _ _ _) 0 (by simp) (fun q hq => by omega) 1 gx 0 _ _ x rfl rfl rfl (by omega) (by omega)).mono ?_
    rintro e w12 ⟨rfl, hs⟩
    have HS12 := Lib.hid ((hs.lit (by simp) : Sts w [(gp, #[.int .i64 h, .int .i64 want], 35), (gx, #[.int .i64 (x + want), .int .i64 0], 35), (gy, #[.int .i64 y, .int .i64 0], 35)] w12))
    clear HS11
    clear hs
    have c0_0 : w12.cell? ⟨gp, 0, none⟩ = some (.int .i64 h) := HS12.out.cell 0 0 rfl rfl
    have c0_1 : w12.cell? ⟨gp, 1, none⟩ = some (.int .i64 want) := HS12.out.cell 0 1 rfl rfl
    have c1_0 : w12.cell? ⟨gx, 0, none⟩ = some (.int .i64 (x + want)) := HS12.out.cell 1 0 rfl rfl
    have c1_1 : w12.cell? ⟨gx, 1, none⟩ = some (.int .i64 0) := HS12.out.cell 1 1 rfl rfl
    have c2_0 : w12.cell? ⟨gy, 0, none⟩ = some (.int .i64 y) := HS12.out.cell 2 0 rfl rfl
    have c2_1 : w12.cell? ⟨gy, 1, none⟩ = some (.int .i64 0) := HS12.out.cell 2 1 rfl rfl
    go_wp2_with fail
    clear c0_0 c0_1 c1_0 c1_1 c2_0 c2_1
    refine wp_region_sts HS12.out (by kernel_rfl) (by kernel_rfl) ?_
    have hne : Nonempty (Later w [(gp, #[.int .i64 h, .int .i64 want], 35), (gx, #[.int .i64 (x + want), .int .i64 0], 35), (gy, #[.int .i64 y, .int .i64 0], 35)]) := ⟨⟨_, HS12.out⟩⟩
    have q0_0 : ∀ p : Later w [(gp, #[.int .i64 h, .int .i64 want], 35), (gx, #[.int .i64 (x + want), .int .i64 0], 35), (gy, #[.int .i64 y, .int .i64 0], 35)], p.val.cell? ⟨gp, 0, none⟩ = some (.int .i64 h) := fun p => p.property.cell 0 0 rfl rfl
    have q0_1 : ∀ p : Later w [(gp, #[.int .i64 h, .int .i64 want], 35), (gx, #[.int .i64 (x + want), .int .i64 0], 35), (gy, #[.int .i64 y, .int .i64 0], 35)], p.val.cell? ⟨gp, 1, none⟩ = some (.int .i64 want) := fun p => p.property.cell 0 1 rfl rfl
    have q1_0 : ∀ p : Later w [(gp, #[.int .i64 h, .int .i64 want], 35), (gx, #[.int .i64 (x + want), .int .i64 0], 35), (gy, #[.int .i64 y, .int .i64 0], 35)], p.val.cell? ⟨gx, 0, none⟩ = some (.int .i64 (x + want)) := fun p => p.property.cell 1 0 rfl rfl
    have q1_1 : ∀ p : Later w [(gp, #[.int .i64 h, .int .i64 want], 35), (gx, #[.int .i64 (x + want), .int .i64 0], 35), (gy, #[.int .i64 y, .int .i64 0], 35)], p.val.cell? ⟨gx, 1, none⟩ = some (.int .i64 0) := fun p => p.property.cell 1 1 rfl rfl
    have q2_0 : ∀ p : Later w [(gp, #[.int .i64 h, .int .i64 want], 35), (gx, #[.int .i64 (x + want), .int .i64 0], 35), (gy, #[.int .i64 y, .int .i64 0], 35)], p.val.cell? ⟨gy, 0, none⟩ = some (.int .i64 y) := fun p => p.property.cell 2 0 rfl rfl
    have q2_1 : ∀ p : Later w [(gp, #[.int .i64 h, .int .i64 want], 35), (gx, #[.int .i64 (x + want), .int .i64 0], 35), (gy, #[.int .i64 y, .int .i64 0], 35)], p.val.cell? ⟨gy, 1, none⟩ = some (.int .i64 0) := fun p => p.property.cell 2 1 rfl rfl
    have z1 : (((want + (h - want) : Int)) != h) = false := by rw [bne_eq_false_iff_eq]; omega
    have z2 : (((x + want + y : Int)) != 2305843009213693952 - (1152921504606846976 - x) - (1152921504606846976 - y) + want) = false := by rw [bne_eq_false_iff_eq]; omega
    repeat (go_big_quiet_step (first | (go_at_call 18; exact Goes.quiet (has_s _ _ _ (Later.property _) (by omega) (by omega) (by omega) rfl)) | (go_at_call 19; exact Goes.quiet (in_s _ _ (Later.property _))) | (go_at_call 20; exact Goes.quiet (out_s _ _ (Later.property _)))))
    clear hne q0_0 q0_1 q1_0 q1_1 q2_0 q2_1 z1 z2
    refine wpQuiet_nil ?_
    rintro w13 ⟨⟨_, hs⟩, rfl⟩
    have HS13 := Lib.hid hs
    clear hs HS12
    have c0_0 : w13.cell? ⟨gp, 0, none⟩ = some (.int .i64 h) := HS13.out.cell 0 0 rfl rfl
    have c0_1 : w13.cell? ⟨gp, 1, none⟩ = some (.int .i64 want) := HS13.out.cell 0 1 rfl rfl
    have c1_0 : w13.cell? ⟨gx, 0, none⟩ = some (.int .i64 (x + want)) := HS13.out.cell 1 0 rfl rfl
    have c1_1 : w13.cell? ⟨gx, 1, none⟩ = some (.int .i64 0) := HS13.out.cell 1 1 rfl rfl
    have c2_0 : w13.cell? ⟨gy, 0, none⟩ = some (.int .i64 y) := HS13.out.cell 2 0 rfl rfl
    have c2_1 : w13.cell? ⟨gy, 1, none⟩ = some (.int .i64 0) := HS13.out.cell 2 1 rfl rfl
    go_wp2_with fail
    have z3 : (((x + want : Int)) != 1152921504606846976 - (1152921504606846976 - x) + want) = false := by rw [bne_eq_false_iff_eq]; omega
    clear c0_0 c0_1 c1_0 c1_1 c2_0 c2_1
    refine (has_s (x + want) (x + want) 0 HS13.out (by omega) (by omega) (by omega) (by omega)).mono ?_
    rintro e w14 ⟨rfl, hs⟩
    have HS14 := Lib.hid ((hs.lit rfl : Sts w [(gp, #[.int .i64 h, .int .i64 want], 35), (gx, #[.int .i64 (x + want), .int .i64 0], 35), (gy, #[.int .i64 y, .int .i64 0], 35)] w14))
    clear HS13
    clear hs
    have c0_0 : w14.cell? ⟨gp, 0, none⟩ = some (.int .i64 h) := HS14.out.cell 0 0 rfl rfl
    have c0_1 : w14.cell? ⟨gp, 1, none⟩ = some (.int .i64 want) := HS14.out.cell 0 1 rfl rfl
    have c1_0 : w14.cell? ⟨gx, 0, none⟩ = some (.int .i64 (x + want)) := HS14.out.cell 1 0 rfl rfl
    have c1_1 : w14.cell? ⟨gx, 1, none⟩ = some (.int .i64 0) := HS14.out.cell 1 1 rfl rfl
    have c2_0 : w14.cell? ⟨gy, 0, none⟩ = some (.int .i64 y) := HS14.out.cell 2 0 rfl rfl
    have c2_1 : w14.cell? ⟨gy, 1, none⟩ = some (.int .i64 0) := HS14.out.cell 2 1 rfl rfl
    go_wp2_with fail
    clear c0_0 c0_1 c1_0 c1_1 c2_0 c2_1
    have hne : w14.heap.size ≠ gx := by have := HS14.out.lt 1 rfl; omega
    refine (move_none _ (x + want) 0 5 1 0 HS14.out rfl rfl rfl (by omega) (by omega) (by omega) (by omega) (by omega) rfl [] none w14.heap.size 0 (by simp) hne (.inr rfl) (fun q hq => by simp at hq) (fun q hq => by simp at hq)).mono ?_
    rintro e w15 ⟨rfl, hs⟩
    have HS15 := Lib.hid ((hs.lit (by simp) : Sts w [(gp, #[.int .i64 h, .int .i64 want], 35), (gx, #[.int .i64 (x + want), .int .i64 0], 35), (gy, #[.int .i64 y, .int .i64 0], 35)] w15))
    clear HS14
    clear hs
    have c0_0 : w15.cell? ⟨gp, 0, none⟩ = some (.int .i64 h) := HS15.out.cell 0 0 rfl rfl
    have c0_1 : w15.cell? ⟨gp, 1, none⟩ = some (.int .i64 want) := HS15.out.cell 0 1 rfl rfl
    have c1_0 : w15.cell? ⟨gx, 0, none⟩ = some (.int .i64 (x + want)) := HS15.out.cell 1 0 rfl rfl
    have c1_1 : w15.cell? ⟨gx, 1, none⟩ = some (.int .i64 0) := HS15.out.cell 1 1 rfl rfl
    have c2_0 : w15.cell? ⟨gy, 0, none⟩ = some (.int .i64 y) := HS15.out.cell 2 0 rfl rfl
    have c2_1 : w15.cell? ⟨gy, 1, none⟩ = some (.int .i64 0) := HS15.out.cell 2 1 rfl rfl
    go_wp2_with fail
    clear c0_0 c0_1 c1_0 c1_1 c2_0 c2_1
    refine (purseRuns_s HS15.out).mono ?_
    rintro e w16 ⟨rfl, hs⟩
    have HS16 := Lib.hid ((hs.lit rfl : Sts w [(gp, #[.int .i64 h, .int .i64 want], 35), (gx, #[.int .i64 (x + want), .int .i64 0], 35), (gy, #[.int .i64 y, .int .i64 0], 35)] w16))
    clear HS15
    clear hs
    go_wp2
    go_ret
    exact ⟨rfl, HS16.out.bel⟩
  by_cases q2 : y + want ≤ 1152921504606846976
  · skip
    refine (move_takes want h 0 k 0 0 (HS11.out.skip _) rfl rfl rfl (by omega) (by omega) (by omega) (by omega) (by omega) Ewant.out [some ⟨gx, 0, none⟩, some ⟨gy, 0, none⟩] _ 2 (by simp) HNE.out (ptr_cells _ _ _) 1 (by simp) (fun q hq => by obtain rfl : q = 0 := (by omega); exact (.inr ⟨1, gx, 0, _, _, x, rfl, rfl, rfl, (by omega), (by omega), (by omega)⟩)) 2 gy 0 _ _ y rfl rfl rfl (by omega) (by omega)).mono ?_
    rintro e w12 ⟨rfl, hs⟩
    have HS12 := Lib.hid ((hs.lit (by simp) : Sts w [(gp, #[.int .i64 h, .int .i64 want], 35), (gx, #[.int .i64 x, .int .i64 0], 35), (gy, #[.int .i64 (y + want), .int .i64 0], 35)] w12))
    clear HS11
    clear hs
    have c0_0 : w12.cell? ⟨gp, 0, none⟩ = some (.int .i64 h) := HS12.out.cell 0 0 rfl rfl
    have c0_1 : w12.cell? ⟨gp, 1, none⟩ = some (.int .i64 want) := HS12.out.cell 0 1 rfl rfl
    have c1_0 : w12.cell? ⟨gx, 0, none⟩ = some (.int .i64 x) := HS12.out.cell 1 0 rfl rfl
    have c1_1 : w12.cell? ⟨gx, 1, none⟩ = some (.int .i64 0) := HS12.out.cell 1 1 rfl rfl
    have c2_0 : w12.cell? ⟨gy, 0, none⟩ = some (.int .i64 (y + want)) := HS12.out.cell 2 0 rfl rfl
    have c2_1 : w12.cell? ⟨gy, 1, none⟩ = some (.int .i64 0) := HS12.out.cell 2 1 rfl rfl
    go_wp2_with fail
    clear c0_0 c0_1 c1_0 c1_1 c2_0 c2_1
    refine wp_region_sts HS12.out (by kernel_rfl) (by kernel_rfl) ?_
    have hne : Nonempty (Later w [(gp, #[.int .i64 h, .int .i64 want], 35), (gx, #[.int .i64 x, .int .i64 0], 35), (gy, #[.int .i64 (y + want), .int .i64 0], 35)]) := ⟨⟨_, HS12.out⟩⟩
    have q0_0 : ∀ p : Later w [(gp, #[.int .i64 h, .int .i64 want], 35), (gx, #[.int .i64 x, .int .i64 0], 35), (gy, #[.int .i64 (y + want), .int .i64 0], 35)], p.val.cell? ⟨gp, 0, none⟩ = some (.int .i64 h) := fun p => p.property.cell 0 0 rfl rfl
    have q0_1 : ∀ p : Later w [(gp, #[.int .i64 h, .int .i64 want], 35), (gx, #[.int .i64 x, .int .i64 0], 35), (gy, #[.int .i64 (y + want), .int .i64 0], 35)], p.val.cell? ⟨gp, 1, none⟩ = some (.int .i64 want) := fun p => p.property.cell 0 1 rfl rfl
    have q1_0 : ∀ p : Later w [(gp, #[.int .i64 h, .int .i64 want], 35), (gx, #[.int .i64 x, .int .i64 0], 35), (gy, #[.int .i64 (y + want), .int .i64 0], 35)], p.val.cell? ⟨gx, 0, none⟩ = some (.int .i64 x) := fun p => p.property.cell 1 0 rfl rfl
    have q1_1 : ∀ p : Later w [(gp, #[.int .i64 h, .int .i64 want], 35), (gx, #[.int .i64 x, .int .i64 0], 35), (gy, #[.int .i64 (y + want), .int .i64 0], 35)], p.val.cell? ⟨gx, 1, none⟩ = some (.int .i64 0) := fun p => p.property.cell 1 1 rfl rfl
    have q2_0 : ∀ p : Later w [(gp, #[.int .i64 h, .int .i64 want], 35), (gx, #[.int .i64 x, .int .i64 0], 35), (gy, #[.int .i64 (y + want), .int .i64 0], 35)], p.val.cell? ⟨gy, 0, none⟩ = some (.int .i64 (y + want)) := fun p => p.property.cell 2 0 rfl rfl
    have q2_1 : ∀ p : Later w [(gp, #[.int .i64 h, .int .i64 want], 35), (gx, #[.int .i64 x, .int .i64 0], 35), (gy, #[.int .i64 (y + want), .int .i64 0], 35)], p.val.cell? ⟨gy, 1, none⟩ = some (.int .i64 0) := fun p => p.property.cell 2 1 rfl rfl
    have z4 : (((want + (h - want) : Int)) != h) = false := by rw [bne_eq_false_iff_eq]; omega
    have z5 : (((x + (y + want) : Int)) != 2305843009213693952 - (1152921504606846976 - x) - (1152921504606846976 - y) + want) = false := by rw [bne_eq_false_iff_eq]; omega
    repeat (go_big_quiet_step (first | (go_at_call 18; exact Goes.quiet (has_s _ _ _ (Later.property _) (by omega) (by omega) (by omega) rfl)) | (go_at_call 19; exact Goes.quiet (in_s _ _ (Later.property _))) | (go_at_call 20; exact Goes.quiet (out_s _ _ (Later.property _)))))
    clear hne q0_0 q0_1 q1_0 q1_1 q2_0 q2_1 z4 z5
    refine wpQuiet_nil ?_
    rintro w13 ⟨⟨_, hs⟩, rfl⟩
    have HS13 := Lib.hid hs
    clear hs HS12
    have c0_0 : w13.cell? ⟨gp, 0, none⟩ = some (.int .i64 h) := HS13.out.cell 0 0 rfl rfl
    have c0_1 : w13.cell? ⟨gp, 1, none⟩ = some (.int .i64 want) := HS13.out.cell 0 1 rfl rfl
    have c1_0 : w13.cell? ⟨gx, 0, none⟩ = some (.int .i64 x) := HS13.out.cell 1 0 rfl rfl
    have c1_1 : w13.cell? ⟨gx, 1, none⟩ = some (.int .i64 0) := HS13.out.cell 1 1 rfl rfl
    have c2_0 : w13.cell? ⟨gy, 0, none⟩ = some (.int .i64 (y + want)) := HS13.out.cell 2 0 rfl rfl
    have c2_1 : w13.cell? ⟨gy, 1, none⟩ = some (.int .i64 0) := HS13.out.cell 2 1 rfl rfl
    go_wp2_with fail
    have z6 : (((y + want : Int)) != 1152921504606846976 - (1152921504606846976 - y) + want) = false := by rw [bne_eq_false_iff_eq]; omega
    clear c0_0 c0_1 c1_0 c1_1 c2_0 c2_1
    refine (has_s (y + want) (y + want) 0 HS13.out (by omega) (by omega) (by omega) (by omega)).mono ?_
    rintro e w14 ⟨rfl, hs⟩
    have HS14 := Lib.hid ((hs.lit rfl : Sts w [(gp, #[.int .i64 h, .int .i64 want], 35), (gx, #[.int .i64 x, .int .i64 0], 35), (gy, #[.int .i64 (y + want), .int .i64 0], 35)] w14))
    clear HS13
    clear hs
    have c0_0 : w14.cell? ⟨gp, 0, none⟩ = some (.int .i64 h) := HS14.out.cell 0 0 rfl rfl
    have c0_1 : w14.cell? ⟨gp, 1, none⟩ = some (.int .i64 want) := HS14.out.cell 0 1 rfl rfl
    have c1_0 : w14.cell? ⟨gx, 0, none⟩ = some (.int .i64 x) := HS14.out.cell 1 0 rfl rfl
    have c1_1 : w14.cell? ⟨gx, 1, none⟩ = some (.int .i64 0) := HS14.out.cell 1 1 rfl rfl
    have c2_0 : w14.cell? ⟨gy, 0, none⟩ = some (.int .i64 (y + want)) := HS14.out.cell 2 0 rfl rfl
    have c2_1 : w14.cell? ⟨gy, 1, none⟩ = some (.int .i64 0) := HS14.out.cell 2 1 rfl rfl
    go_wp2_with fail
    clear c0_0 c0_1 c1_0 c1_1 c2_0 c2_1
    have hne : w14.heap.size ≠ gx := by have := HS14.out.lt 1 rfl; omega
    refine (move_none _ (x) 0 5 1 0 HS14.out rfl rfl rfl (by omega) (by omega) (by omega) (by omega) (by omega) rfl [] none w14.heap.size 0 (by simp) hne (.inr rfl) (fun q hq => by simp at hq) (fun q hq => by simp at hq)).mono ?_
    rintro e w15 ⟨rfl, hs⟩
    have HS15 := Lib.hid ((hs.lit (by simp) : Sts w [(gp, #[.int .i64 h, .int .i64 want], 35), (gx, #[.int .i64 x, .int .i64 0], 35), (gy, #[.int .i64 (y + want), .int .i64 0], 35)] w15))
    clear HS14
    clear hs
    have c0_0 : w15.cell? ⟨gp, 0, none⟩ = some (.int .i64 h) := HS15.out.cell 0 0 rfl rfl
    have c0_1 : w15.cell? ⟨gp, 1, none⟩ = some (.int .i64 want) := HS15.out.cell 0 1 rfl rfl
    have c1_0 : w15.cell? ⟨gx, 0, none⟩ = some (.int .i64 x) := HS15.out.cell 1 0 rfl rfl
    have c1_1 : w15.cell? ⟨gx, 1, none⟩ = some (.int .i64 0) := HS15.out.cell 1 1 rfl rfl
    have c2_0 : w15.cell? ⟨gy, 0, none⟩ = some (.int .i64 (y + want)) := HS15.out.cell 2 0 rfl rfl
    have c2_1 : w15.cell? ⟨gy, 1, none⟩ = some (.int .i64 0) := HS15.out.cell 2 1 rfl rfl
    go_wp2_with fail
    clear c0_0 c0_1 c1_0 c1_1 c2_0 c2_1
    refine (purseRuns_s HS15.out).mono ?_
    rintro e w16 ⟨rfl, hs⟩
    have HS16 := Lib.hid ((hs.lit rfl : Sts w [(gp, #[.int .i64 h, .int .i64 want], 35), (gx, #[.int .i64 x, .int .i64 0], 35), (gy, #[.int .i64 (y + want), .int .i64 0], 35)] w16))
    clear HS15
    clear hs
    go_wp2
    go_ret
    exact ⟨rfl, HS16.out.bel⟩
  refine (move_none want h 0 k 0 0 (HS11.out.skip _) rfl rfl rfl (by omega) (by omega) (by omega) (by omega) (by omega) Ewant.out [some ⟨gx, 0, none⟩, some ⟨gy, 0, none⟩] _ _ 2 (by simp) HNE.out (.inl rfl) (ptr_cells _ _ _) (refuses_two (.inr ⟨1, gx, 0, _, _, x, rfl, rfl, rfl, (by omega), (by omega), (by omega)⟩) (.inr ⟨2, gy, 0, _, _, y, rfl, rfl, rfl, (by omega), (by omega), (by omega)⟩))).mono ?_
  rintro e w12 ⟨rfl, hs⟩
  have HS12 := Lib.hid ((hs.lit (by simp) : Sts w [(gp, #[.int .i64 h, .int .i64 0], 35), (gx, #[.int .i64 x, .int .i64 0], 35), (gy, #[.int .i64 y, .int .i64 0], 35)] w12))
  clear HS11
  clear hs
  have c0_0 : w12.cell? ⟨gp, 0, none⟩ = some (.int .i64 h) := HS12.out.cell 0 0 rfl rfl
  have c0_1 : w12.cell? ⟨gp, 1, none⟩ = some (.int .i64 0) := HS12.out.cell 0 1 rfl rfl
  have c1_0 : w12.cell? ⟨gx, 0, none⟩ = some (.int .i64 x) := HS12.out.cell 1 0 rfl rfl
  have c1_1 : w12.cell? ⟨gx, 1, none⟩ = some (.int .i64 0) := HS12.out.cell 1 1 rfl rfl
  have c2_0 : w12.cell? ⟨gy, 0, none⟩ = some (.int .i64 y) := HS12.out.cell 2 0 rfl rfl
  have c2_1 : w12.cell? ⟨gy, 1, none⟩ = some (.int .i64 0) := HS12.out.cell 2 1 rfl rfl
  go_wp2_with fail
  clear c0_0 c0_1 c1_0 c1_1 c2_0 c2_1
  refine wp_region_sts HS12.out (by kernel_rfl) (by kernel_rfl) ?_
  have hne : Nonempty (Later w [(gp, #[.int .i64 h, .int .i64 0], 35), (gx, #[.int .i64 x, .int .i64 0], 35), (gy, #[.int .i64 y, .int .i64 0], 35)]) := ⟨⟨_, HS12.out⟩⟩
  have q0_0 : ∀ p : Later w [(gp, #[.int .i64 h, .int .i64 0], 35), (gx, #[.int .i64 x, .int .i64 0], 35), (gy, #[.int .i64 y, .int .i64 0], 35)], p.val.cell? ⟨gp, 0, none⟩ = some (.int .i64 h) := fun p => p.property.cell 0 0 rfl rfl
  have q0_1 : ∀ p : Later w [(gp, #[.int .i64 h, .int .i64 0], 35), (gx, #[.int .i64 x, .int .i64 0], 35), (gy, #[.int .i64 y, .int .i64 0], 35)], p.val.cell? ⟨gp, 1, none⟩ = some (.int .i64 0) := fun p => p.property.cell 0 1 rfl rfl
  have q1_0 : ∀ p : Later w [(gp, #[.int .i64 h, .int .i64 0], 35), (gx, #[.int .i64 x, .int .i64 0], 35), (gy, #[.int .i64 y, .int .i64 0], 35)], p.val.cell? ⟨gx, 0, none⟩ = some (.int .i64 x) := fun p => p.property.cell 1 0 rfl rfl
  have q1_1 : ∀ p : Later w [(gp, #[.int .i64 h, .int .i64 0], 35), (gx, #[.int .i64 x, .int .i64 0], 35), (gy, #[.int .i64 y, .int .i64 0], 35)], p.val.cell? ⟨gx, 1, none⟩ = some (.int .i64 0) := fun p => p.property.cell 1 1 rfl rfl
  have q2_0 : ∀ p : Later w [(gp, #[.int .i64 h, .int .i64 0], 35), (gx, #[.int .i64 x, .int .i64 0], 35), (gy, #[.int .i64 y, .int .i64 0], 35)], p.val.cell? ⟨gy, 0, none⟩ = some (.int .i64 y) := fun p => p.property.cell 2 0 rfl rfl
  have q2_1 : ∀ p : Later w [(gp, #[.int .i64 h, .int .i64 0], 35), (gx, #[.int .i64 x, .int .i64 0], 35), (gy, #[.int .i64 y, .int .i64 0], 35)], p.val.cell? ⟨gy, 1, none⟩ = some (.int .i64 0) := fun p => p.property.cell 2 1 rfl rfl
  have z7 : (((0 + (h - 0) : Int)) != h) = false := by rw [bne_eq_false_iff_eq]; omega
  have z8 : (((x + y : Int)) != 2305843009213693952 - (1152921504606846976 - x) - (1152921504606846976 - y)) = false := by rw [bne_eq_false_iff_eq]; omega
  repeat (go_big_quiet_step (first | (go_at_call 18; exact Goes.quiet (has_s _ _ _ (Later.property _) (by omega) (by omega) (by omega) rfl)) | (go_at_call 19; exact Goes.quiet (in_s _ _ (Later.property _))) | (go_at_call 20; exact Goes.quiet (out_s _ _ (Later.property _)))))
  clear hne q0_0 q0_1 q1_0 q1_1 q2_0 q2_1 z7 z8
  refine wpQuiet_nil ?_
  rintro w13 ⟨⟨_, hs⟩, rfl⟩
  have HS13 := Lib.hid hs
  clear hs HS12
  have c0_0 : w13.cell? ⟨gp, 0, none⟩ = some (.int .i64 h) := HS13.out.cell 0 0 rfl rfl
  have c0_1 : w13.cell? ⟨gp, 1, none⟩ = some (.int .i64 0) := HS13.out.cell 0 1 rfl rfl
  have c1_0 : w13.cell? ⟨gx, 0, none⟩ = some (.int .i64 x) := HS13.out.cell 1 0 rfl rfl
  have c1_1 : w13.cell? ⟨gx, 1, none⟩ = some (.int .i64 0) := HS13.out.cell 1 1 rfl rfl
  have c2_0 : w13.cell? ⟨gy, 0, none⟩ = some (.int .i64 y) := HS13.out.cell 2 0 rfl rfl
  have c2_1 : w13.cell? ⟨gy, 1, none⟩ = some (.int .i64 0) := HS13.out.cell 2 1 rfl rfl
  go_wp2_with fail
  clear c0_0 c0_1 c1_0 c1_1 c2_0 c2_1
  have hne : w13.heap.size ≠ gx := by have := HS13.out.lt 1 rfl; omega
  refine (move_none _ (x) 0 5 1 0 HS13.out rfl rfl rfl (by omega) (by omega) (by omega) (by omega) (by omega) rfl [] none w13.heap.size 0 (by simp) hne (.inr rfl) (fun q hq => by simp at hq) (fun q hq => by simp at hq)).mono ?_
  rintro e w14 ⟨rfl, hs⟩
  have HS14 := Lib.hid ((hs.lit (by simp) : Sts w [(gp, #[.int .i64 h, .int .i64 0], 35), (gx, #[.int .i64 x, .int .i64 0], 35), (gy, #[.int .i64 y, .int .i64 0], 35)] w14))
  clear HS13
  clear hs
  have c0_0 : w14.cell? ⟨gp, 0, none⟩ = some (.int .i64 h) := HS14.out.cell 0 0 rfl rfl
  have c0_1 : w14.cell? ⟨gp, 1, none⟩ = some (.int .i64 0) := HS14.out.cell 0 1 rfl rfl
  have c1_0 : w14.cell? ⟨gx, 0, none⟩ = some (.int .i64 x) := HS14.out.cell 1 0 rfl rfl
  have c1_1 : w14.cell? ⟨gx, 1, none⟩ = some (.int .i64 0) := HS14.out.cell 1 1 rfl rfl
  have c2_0 : w14.cell? ⟨gy, 0, none⟩ = some (.int .i64 y) := HS14.out.cell 2 0 rfl rfl
  have c2_1 : w14.cell? ⟨gy, 1, none⟩ = some (.int .i64 0) := HS14.out.cell 2 1 rfl rfl
  go_wp2_with fail
  clear c0_0 c0_1 c1_0 c1_1 c2_0 c2_1
  refine (purseRuns_s HS14.out).mono ?_
  rintro e w15 ⟨rfl, hs⟩
  have HS15 := Lib.hid ((hs.lit rfl : Sts w [(gp, #[.int .i64 h, .int .i64 0], 35), (gx, #[.int .i64 x, .int .i64 0], 35), (gy, #[.int .i64 y, .int .i64 0], 35)] w15))
  clear HS14
  clear hs
  go_wp2
  go_ret
  exact ⟨rfl, HS15.out.bel⟩
theorem purseMoves_row (a0 a1 a2 a3 : Int) (w : World) (_h0 : -9223372036854775808 ≤ a0 ∧ a0 ≤ 9223372036854775807) (_h1 : -9223372036854775808 ≤ a1 ∧ a1 ≤ 9223372036854775807) (_h2 : -9223372036854775808 ≤ a2 ∧ a2 ≤ 9223372036854775807) (_h3 : -9223372036854775808 ≤ a3 ∧ a3 ≤ 9223372036854775807) :
    Calls Try.prog 9 #[.int .i64 a0, .int .i64 a1, .int .i64 a2, .int .i64 a3] w fun e w' => e = .returned (.bool true) ∧ Below w.heap.size w w' := purseMoves_walk a0 a1 a2 a3 w

end Go.Proofs.Yticddmmbphoioaa

import Derived.Test.YtllbpjaiplnbnaaNoteRuns
namespace Go.Proofs.Ytllbpjaiplnbnaa
open Go.RowKit
set_option linter.unusedVariables false
set_option linter.unusedSimpArgs false
set_option maxHeartbeats 4000000 in
set_option maxRecDepth 100000 in
theorem notePromoted_walk (r0 o0 t0 c d wr : Int) (w : World) (h0 : (-9223372036854775808 ≤ r0 ∧ r0 ≤ 9223372036854775807) ∧ (-9223372036854775808 ≤ o0 ∧ o0 ≤ 9223372036854775807) ∧ -9223372036854775808 ≤ t0 ∧ t0 ≤ 9223372036854775807) (hc : (-9223372036854775808 ≤ c ∧ c ≤ 9223372036854775807)) (hd : (-9223372036854775808 ≤ d ∧ d ≤ 9223372036854775807)) (hw : (-9223372036854775808 ≤ wr ∧ wr ≤ 9223372036854775807)) :
    Calls Try.prog 5 #[.agg #[.int .i64 r0, .int .i64 o0, .int .i64 t0], .int .i64 c, .int .i64 d, .int .i64 wr] w fun e w' => e = .returned (.bool true) ∧ Below w.heap.size w w' := by
  obtain ⟨⟨lr0, lr1⟩, ⟨lo0, lo1⟩, lt0, lt1⟩ := h0
  clear lr0 lr1 lo0 lo1 lt0 lt1 hc hd hw
  obtain ⟨r, hr⟩ : ∃ v, v = within r0 0 7 := ⟨_, rfl⟩
  obtain ⟨br0, br1⟩ : 0 ≤ r ∧ r ≤ 7 := by rw [hr]; exact within_bd r0 (by omega)
  have Er := Lib.hid hr
  clear hr
  obtain ⟨og, hog⟩ : ∃ v, v = within o0 0 1073741824 := ⟨_, rfl⟩
  obtain ⟨bog0, bog1⟩ : 0 ≤ og ∧ og ≤ 1073741824 := by rw [hog]; exact within_bd o0 (by omega)
  have Eog := Lib.hid hog
  clear hog
  obtain ⟨rt, hrt⟩ : ∃ v, v = within t0 0 5000 := ⟨_, rfl⟩
  obtain ⟨brt0, brt1⟩ : 0 ≤ rt ∧ rt ≤ 5000 := by rw [hrt]; exact within_bd t0 (by omega)
  have Ert := Lib.hid hrt
  clear hrt
  obtain ⟨k, hk⟩ : ∃ v, v = within c 0 og := ⟨_, rfl⟩
  obtain ⟨bk0, bk1⟩ : 0 ≤ k ∧ k ≤ og := by rw [hk]; exact within_bd c (by omega)
  have Ek := Lib.hid hk
  clear hk
  obtain ⟨d', hd'⟩ : ∃ v, v = within d 0 2147483648 := ⟨_, rfl⟩
  obtain ⟨bd'0, bd'1⟩ : 0 ≤ d' ∧ d' ≤ 2147483648 := by rw [hd']; exact within_bd d (by omega)
  have Ed' := Lib.hid hd'
  clear hd'
  obtain ⟨w', hw'⟩ : ∃ v, v = within wr 0 2147483648 := ⟨_, rfl⟩
  obtain ⟨bw'0, bw'1⟩ : 0 ≤ w' ∧ w' ≤ 2147483648 := by rw [hw']; exact within_bd wr (by omega)
  have Ew' := Lib.hid hw'
  clear hw'
  have HS0 := Lib.hid (Sts.nil w)
  go_enter Try.func5, Try.ntmps5
  go_upto_region 1 with fail
  have HS1 := Lib.hid ((HS0.out.add (g := w.heap.size) (by simp) #[.int .i64 r0, .int .i64 o0, .int .i64 t0] 23).lit (L' := [(w.heap.size, #[.int .i64 r0, .int .i64 o0, .int .i64 t0], 23)]) rfl)
  clear HS0
  generalize w.heap.size = gt at *
  generalize (w.alloc (.cells #[.int .i64 r0, .int .i64 o0, .int .i64 t0] 23)) = v1 at *
  have c0_0 : v1.cell? ⟨gt, 0, none⟩ = some (.int .i64 r0) := HS1.out.cell 0 0 rfl rfl
  have f0_0 := HS1.out.frozen 0 0 rfl
  have c0_1 : v1.cell? ⟨gt, 1, none⟩ = some (.int .i64 o0) := HS1.out.cell 0 1 rfl rfl
  have f0_1 := HS1.out.frozen 0 1 rfl
  have c0_2 : v1.cell? ⟨gt, 2, none⟩ = some (.int .i64 t0) := HS1.out.cell 0 2 rfl rfl
  have f0_2 := HS1.out.frozen 0 2 rfl
  clear c0_0 f0_0 c0_1 f0_1 c0_2 f0_2
  refine wp_region_seg (by kernel_rfl) ?_
  have HS2 := Lib.hid ((HS1.out.drew : Sts w [(gt, #[.int .i64 r0, .int .i64 o0, .int .i64 t0], 23)] v1.drew))
  clear HS1
  refine seg_next 0 10 (by kernel_rfl) HS2.out ?_
  simp only [List.drop_succ_cons, List.drop_zero, List.take_succ_cons, List.take_zero, List.drop_nil, List.take_nil]
  have hne : Nonempty (Later w [(gt, #[.int .i64 r0, .int .i64 o0, .int .i64 t0], 23)]) := ⟨⟨_, HS2.out⟩⟩
  have q0_0 : ∀ p : Later w [(gt, #[.int .i64 r0, .int .i64 o0, .int .i64 t0], 23)], p.val.cell? ⟨gt, 0, none⟩ = some (.int .i64 r0) := fun p => p.property.cell 0 0 rfl rfl
  have q0_1 : ∀ p : Later w [(gt, #[.int .i64 r0, .int .i64 o0, .int .i64 t0], 23)], p.val.cell? ⟨gt, 1, none⟩ = some (.int .i64 o0) := fun p => p.property.cell 0 1 rfl rfl
  have q0_2 : ∀ p : Later w [(gt, #[.int .i64 r0, .int .i64 o0, .int .i64 t0], 23)], p.val.cell? ⟨gt, 2, none⟩ = some (.int .i64 t0) := fun p => p.property.cell 0 2 rfl rfl
  repeat (go_big_quiet_step (first | (go_at_call 20; exact Goes.quiet (within_s _ _ _ (Later.property _) (by omega) (by omega) (by omega)))))
  clear hne q0_0 q0_1 q0_2
  refine wpQuiet_nil ?_
  rintro w3 ⟨⟨_, hs⟩, rfl⟩
  have HS3 := Lib.hid hs
  clear hs HS2
  rw [← Eog.out, ← Er.out, ← Ert.out]
  have c0_0 : w3.cell? ⟨gt, 0, none⟩ = some (.int .i64 r0) := HS3.out.cell 0 0 rfl rfl
  have f0_0 := HS3.out.frozen 0 0 rfl
  have c0_1 : w3.cell? ⟨gt, 1, none⟩ = some (.int .i64 o0) := HS3.out.cell 0 1 rfl rfl
  have f0_1 := HS3.out.frozen 0 1 rfl
  have c0_2 : w3.cell? ⟨gt, 2, none⟩ = some (.int .i64 t0) := HS3.out.cell 0 2 rfl rfl
  have f0_2 := HS3.out.frozen 0 2 rfl
  go_wp2_with fail
  clear c0_0 f0_0 c0_1 f0_1 c0_2 f0_2
  have HS4 := Lib.hid (((((HS3.out.set 0 0 (.int .i64 r) rfl).set 0 1 (.int .i64 og) rfl).set 0 2 (.int .i64 rt) rfl).lit rfl : Sts w [(gt, #[.int .i64 r, .int .i64 og, .int .i64 rt], 23)] _))
  clear HS3
  refine seg_in ?_
  refine seg_done (by kernel_rfl) ?_
  generalize ((w3.setCell ⟨gt, 0, none⟩ (.int .i64 r)).setCell ⟨gt, 1, none⟩ (.int .i64 og)).setCell ⟨gt, 2, none⟩ (.int .i64 rt) = wz at *
  have c0_0 : wz.cell? ⟨gt, 0, none⟩ = some (.int .i64 r) := HS4.out.cell 0 0 rfl rfl
  have c0_1 : wz.cell? ⟨gt, 1, none⟩ = some (.int .i64 og) := HS4.out.cell 0 1 rfl rfl
  have c0_2 : wz.cell? ⟨gt, 2, none⟩ = some (.int .i64 rt) := HS4.out.cell 0 2 rfl rfl
  go_wp2_with fail
  clear c0_0 c0_1 c0_2
  refine (new_s r og rt HS4.out).mono ?_
  rintro e w5 ⟨rfl, hs⟩
  have HS5 := Lib.hid ((hs.lit rfl : Sts w [(gt, #[.int .i64 r, .int .i64 og, .int .i64 rt], 23)] w5))
  clear HS4
  clear hs
  have c0_0 : w5.cell? ⟨gt, 0, none⟩ = some (.int .i64 r) := HS5.out.cell 0 0 rfl rfl
  have c0_1 : w5.cell? ⟨gt, 1, none⟩ = some (.int .i64 og) := HS5.out.cell 0 1 rfl rfl
  have c0_2 : w5.cell? ⟨gt, 2, none⟩ = some (.int .i64 rt) := HS5.out.cell 0 2 rfl rfl
  go_upto_region 3 with fail
  clear c0_0 c0_1 c0_2
  have HS6 := Lib.hid ((HS5.out.add (g := w5.heap.size) (by simp) #[.int .i64 r, .int .i64 og, .int .i64 rt, .int .i64 0, .int .i64 0, .int .i64 0, .int .i64 0] 27).lit (L' := [(gt, #[.int .i64 r, .int .i64 og, .int .i64 rt], 23), (w5.heap.size, #[.int .i64 r, .int .i64 og, .int .i64 rt, .int .i64 0, .int .i64 0, .int .i64 0, .int .i64 0], 27)]) rfl)
  clear HS5
  generalize w5.heap.size = g at *
  generalize (w5.alloc (.cells #[.int .i64 r, .int .i64 og, .int .i64 rt, .int .i64 0, .int .i64 0, .int .i64 0, .int .i64 0] 27)) = v6 at *
  have c0_0 : v6.cell? ⟨gt, 0, none⟩ = some (.int .i64 r) := HS6.out.cell 0 0 rfl rfl
  have c0_1 : v6.cell? ⟨gt, 1, none⟩ = some (.int .i64 og) := HS6.out.cell 0 1 rfl rfl
  have c0_2 : v6.cell? ⟨gt, 2, none⟩ = some (.int .i64 rt) := HS6.out.cell 0 2 rfl rfl
  have c1_0 : v6.cell? ⟨g, 0, none⟩ = some (.int .i64 r) := HS6.out.cell 1 0 rfl rfl
  have c1_1 : v6.cell? ⟨g, 1, none⟩ = some (.int .i64 og) := HS6.out.cell 1 1 rfl rfl
  have c1_2 : v6.cell? ⟨g, 2, none⟩ = some (.int .i64 rt) := HS6.out.cell 1 2 rfl rfl
  have c1_3 : v6.cell? ⟨g, 3, none⟩ = some (.int .i64 0) := HS6.out.cell 1 3 rfl rfl
  have c1_4 : v6.cell? ⟨g, 4, none⟩ = some (.int .i64 0) := HS6.out.cell 1 4 rfl rfl
  have c1_5 : v6.cell? ⟨g, 5, none⟩ = some (.int .i64 0) := HS6.out.cell 1 5 rfl rfl
  have c1_6 : v6.cell? ⟨g, 6, none⟩ = some (.int .i64 0) := HS6.out.cell 1 6 rfl rfl
  go_wp2_with fail
  clear c0_0 c0_1 c0_2 c1_0 c1_1 c1_2 c1_3 c1_4 c1_5 c1_6
  refine (within_s c 0 og HS6.out (by omega) (by omega) (by omega)).mono ?_
  rintro e w7 ⟨rfl, hs⟩
  have HS7 := Lib.hid ((hs.lit rfl : Sts w [(gt, #[.int .i64 r, .int .i64 og, .int .i64 rt], 23), (g, #[.int .i64 r, .int .i64 og, .int .i64 rt, .int .i64 0, .int .i64 0, .int .i64 0, .int .i64 0], 27)] w7))
  clear HS6
  clear hs
  rw [← Ek.out]
  have c0_0 : w7.cell? ⟨gt, 0, none⟩ = some (.int .i64 r) := HS7.out.cell 0 0 rfl rfl
  have c0_1 : w7.cell? ⟨gt, 1, none⟩ = some (.int .i64 og) := HS7.out.cell 0 1 rfl rfl
  have c0_2 : w7.cell? ⟨gt, 2, none⟩ = some (.int .i64 rt) := HS7.out.cell 0 2 rfl rfl
  have c1_0 : w7.cell? ⟨g, 0, none⟩ = some (.int .i64 r) := HS7.out.cell 1 0 rfl rfl
  have c1_1 : w7.cell? ⟨g, 1, none⟩ = some (.int .i64 og) := HS7.out.cell 1 1 rfl rfl
  have c1_2 : w7.cell? ⟨g, 2, none⟩ = some (.int .i64 rt) := HS7.out.cell 1 2 rfl rfl
  have c1_3 : w7.cell? ⟨g, 3, none⟩ = some (.int .i64 0) := HS7.out.cell 1 3 rfl rfl
  have c1_4 : w7.cell? ⟨g, 4, none⟩ = some (.int .i64 0) := HS7.out.cell 1 4 rfl rfl
  have c1_5 : w7.cell? ⟨g, 5, none⟩ = some (.int .i64 0) := HS7.out.cell 1 5 rfl rfl
  have c1_6 : w7.cell? ⟨g, 6, none⟩ = some (.int .i64 0) := HS7.out.cell 1 6 rfl rfl
  go_upto_region 4 with fail
  clear c0_0 c0_1 c0_2 c1_0 c1_1 c1_2 c1_3 c1_4 c1_5 c1_6
  refine wp_region_seg (by kernel_rfl) ?_
  have HS8 := Lib.hid ((HS7.out.drew : Sts w [(gt, #[.int .i64 r, .int .i64 og, .int .i64 rt], 23), (g, #[.int .i64 r, .int .i64 og, .int .i64 rt, .int .i64 0, .int .i64 0, .int .i64 0, .int .i64 0], 27)] w7.drew))
  clear HS7
  refine seg_next 0 2 (by kernel_rfl) HS8.out ?_
  simp only [List.drop_succ_cons, List.drop_zero, List.take_succ_cons, List.take_zero, List.drop_nil, List.take_nil]
  have hne : Nonempty (Later w [(gt, #[.int .i64 r, .int .i64 og, .int .i64 rt], 23), (g, #[.int .i64 r, .int .i64 og, .int .i64 rt, .int .i64 0, .int .i64 0, .int .i64 0, .int .i64 0], 27)]) := ⟨⟨_, HS8.out⟩⟩
  have q0_0 : ∀ p : Later w [(gt, #[.int .i64 r, .int .i64 og, .int .i64 rt], 23), (g, #[.int .i64 r, .int .i64 og, .int .i64 rt, .int .i64 0, .int .i64 0, .int .i64 0, .int .i64 0], 27)], p.val.cell? ⟨gt, 0, none⟩ = some (.int .i64 r) := fun p => p.property.cell 0 0 rfl rfl
  have q0_1 : ∀ p : Later w [(gt, #[.int .i64 r, .int .i64 og, .int .i64 rt], 23), (g, #[.int .i64 r, .int .i64 og, .int .i64 rt, .int .i64 0, .int .i64 0, .int .i64 0, .int .i64 0], 27)], p.val.cell? ⟨gt, 1, none⟩ = some (.int .i64 og) := fun p => p.property.cell 0 1 rfl rfl
  have q0_2 : ∀ p : Later w [(gt, #[.int .i64 r, .int .i64 og, .int .i64 rt], 23), (g, #[.int .i64 r, .int .i64 og, .int .i64 rt, .int .i64 0, .int .i64 0, .int .i64 0, .int .i64 0], 27)], p.val.cell? ⟨gt, 2, none⟩ = some (.int .i64 rt) := fun p => p.property.cell 0 2 rfl rfl
  have q1_0 : ∀ p : Later w [(gt, #[.int .i64 r, .int .i64 og, .int .i64 rt], 23), (g, #[.int .i64 r, .int .i64 og, .int .i64 rt, .int .i64 0, .int .i64 0, .int .i64 0, .int .i64 0], 27)], p.val.cell? ⟨g, 0, none⟩ = some (.int .i64 r) := fun p => p.property.cell 1 0 rfl rfl
  have q1_1 : ∀ p : Later w [(gt, #[.int .i64 r, .int .i64 og, .int .i64 rt], 23), (g, #[.int .i64 r, .int .i64 og, .int .i64 rt, .int .i64 0, .int .i64 0, .int .i64 0, .int .i64 0], 27)], p.val.cell? ⟨g, 1, none⟩ = some (.int .i64 og) := fun p => p.property.cell 1 1 rfl rfl
  have q1_2 : ∀ p : Later w [(gt, #[.int .i64 r, .int .i64 og, .int .i64 rt], 23), (g, #[.int .i64 r, .int .i64 og, .int .i64 rt, .int .i64 0, .int .i64 0, .int .i64 0, .int .i64 0], 27)], p.val.cell? ⟨g, 2, none⟩ = some (.int .i64 rt) := fun p => p.property.cell 1 2 rfl rfl
  have q1_3 : ∀ p : Later w [(gt, #[.int .i64 r, .int .i64 og, .int .i64 rt], 23), (g, #[.int .i64 r, .int .i64 og, .int .i64 rt, .int .i64 0, .int .i64 0, .int .i64 0, .int .i64 0], 27)], p.val.cell? ⟨g, 3, none⟩ = some (.int .i64 0) := fun p => p.property.cell 1 3 rfl rfl
  have q1_4 : ∀ p : Later w [(gt, #[.int .i64 r, .int .i64 og, .int .i64 rt], 23), (g, #[.int .i64 r, .int .i64 og, .int .i64 rt, .int .i64 0, .int .i64 0, .int .i64 0, .int .i64 0], 27)], p.val.cell? ⟨g, 4, none⟩ = some (.int .i64 0) := fun p => p.property.cell 1 4 rfl rfl
  have q1_5 : ∀ p : Later w [(gt, #[.int .i64 r, .int .i64 og, .int .i64 rt], 23), (g, #[.int .i64 r, .int .i64 og, .int .i64 rt, .int .i64 0, .int .i64 0, .int .i64 0, .int .i64 0], 27)], p.val.cell? ⟨g, 5, none⟩ = some (.int .i64 0) := fun p => p.property.cell 1 5 rfl rfl
  have q1_6 : ∀ p : Later w [(gt, #[.int .i64 r, .int .i64 og, .int .i64 rt], 23), (g, #[.int .i64 r, .int .i64 og, .int .i64 rt, .int .i64 0, .int .i64 0, .int .i64 0, .int .i64 0], 27)], p.val.cell? ⟨g, 6, none⟩ = some (.int .i64 0) := fun p => p.property.cell 1 6 rfl rfl
  repeat (go_big_quiet_step (first | fail))
  clear hne q0_0 q0_1 q0_2 q1_0 q1_1 q1_2 q1_3 q1_4 q1_5 q1_6
  refine wpQuiet_nil ?_
  rintro w9 ⟨⟨_, hs⟩, rfl⟩
  have HS9 := Lib.hid hs
  clear hs HS8
  have c0_0 : w9.cell? ⟨gt, 0, none⟩ = some (.int .i64 r) := HS9.out.cell 0 0 rfl rfl
  have c0_1 : w9.cell? ⟨gt, 1, none⟩ = some (.int .i64 og) := HS9.out.cell 0 1 rfl rfl
  have c0_2 : w9.cell? ⟨gt, 2, none⟩ = some (.int .i64 rt) := HS9.out.cell 0 2 rfl rfl
  have c1_0 : w9.cell? ⟨g, 0, none⟩ = some (.int .i64 r) := HS9.out.cell 1 0 rfl rfl
  have c1_1 : w9.cell? ⟨g, 1, none⟩ = some (.int .i64 og) := HS9.out.cell 1 1 rfl rfl
  have c1_2 : w9.cell? ⟨g, 2, none⟩ = some (.int .i64 rt) := HS9.out.cell 1 2 rfl rfl
  have c1_3 : w9.cell? ⟨g, 3, none⟩ = some (.int .i64 0) := HS9.out.cell 1 3 rfl rfl
  have c1_4 : w9.cell? ⟨g, 4, none⟩ = some (.int .i64 0) := HS9.out.cell 1 4 rfl rfl
  have c1_5 : w9.cell? ⟨g, 5, none⟩ = some (.int .i64 0) := HS9.out.cell 1 5 rfl rfl
  have c1_6 : w9.cell? ⟨g, 6, none⟩ = some (.int .i64 0) := HS9.out.cell 1 6 rfl rfl
  go_wp2_with fail
  clear c0_0 c0_1 c0_2 c1_0 c1_1 c1_2 c1_3 c1_4 c1_5 c1_6
  refine (putn_s r og rt 0 0 0 0 k 1 HS9.out rfl (by omega) (by omega) (by omega)).mono ?_
  rintro e w10 ⟨rfl, hs⟩
  have HS10 := Lib.hid ((hs.lit (by simp) : Sts w [(gt, #[.int .i64 r, .int .i64 og, .int .i64 rt], 23), (g, #[.int .i64 r, .int .i64 og, .int .i64 rt, .int .i64 k, .int .i64 0, .int .i64 0, .int .i64 0], 27)] w10))
  clear HS9
  clear hs
  have c0_0 : w10.cell? ⟨gt, 0, none⟩ = some (.int .i64 r) := HS10.out.cell 0 0 rfl rfl
  have c0_1 : w10.cell? ⟨gt, 1, none⟩ = some (.int .i64 og) := HS10.out.cell 0 1 rfl rfl
  have c0_2 : w10.cell? ⟨gt, 2, none⟩ = some (.int .i64 rt) := HS10.out.cell 0 2 rfl rfl
  have c1_0 : w10.cell? ⟨g, 0, none⟩ = some (.int .i64 r) := HS10.out.cell 1 0 rfl rfl
  have c1_1 : w10.cell? ⟨g, 1, none⟩ = some (.int .i64 og) := HS10.out.cell 1 1 rfl rfl
  have c1_2 : w10.cell? ⟨g, 2, none⟩ = some (.int .i64 rt) := HS10.out.cell 1 2 rfl rfl
  have c1_3 : w10.cell? ⟨g, 3, none⟩ = some (.int .i64 k) := HS10.out.cell 1 3 rfl rfl
  have c1_4 : w10.cell? ⟨g, 4, none⟩ = some (.int .i64 0) := HS10.out.cell 1 4 rfl rfl
  have c1_5 : w10.cell? ⟨g, 5, none⟩ = some (.int .i64 0) := HS10.out.cell 1 5 rfl rfl
  have c1_6 : w10.cell? ⟨g, 6, none⟩ = some (.int .i64 0) := HS10.out.cell 1 6 rfl rfl
  go_wp2_with fail
  clear c0_0 c0_1 c0_2 c1_0 c1_1 c1_2 c1_3 c1_4 c1_5 c1_6
  refine seg_in ?_
  refine seg_last 3 (by kernel_rfl) HS10.out ?_
  simp only [List.drop_succ_cons, List.drop_zero, List.take_succ_cons, List.take_zero, List.drop_nil, List.take_nil]
  have hne : Nonempty (Later w [(gt, #[.int .i64 r, .int .i64 og, .int .i64 rt], 23), (g, #[.int .i64 r, .int .i64 og, .int .i64 rt, .int .i64 k, .int .i64 0, .int .i64 0, .int .i64 0], 27)]) := ⟨⟨_, HS10.out⟩⟩
  have q0_0 : ∀ p : Later w [(gt, #[.int .i64 r, .int .i64 og, .int .i64 rt], 23), (g, #[.int .i64 r, .int .i64 og, .int .i64 rt, .int .i64 k, .int .i64 0, .int .i64 0, .int .i64 0], 27)], p.val.cell? ⟨gt, 0, none⟩ = some (.int .i64 r) := fun p => p.property.cell 0 0 rfl rfl
  have q0_1 : ∀ p : Later w [(gt, #[.int .i64 r, .int .i64 og, .int .i64 rt], 23), (g, #[.int .i64 r, .int .i64 og, .int .i64 rt, .int .i64 k, .int .i64 0, .int .i64 0, .int .i64 0], 27)], p.val.cell? ⟨gt, 1, none⟩ = some (.int .i64 og) := fun p => p.property.cell 0 1 rfl rfl
  have q0_2 : ∀ p : Later w [(gt, #[.int .i64 r, .int .i64 og, .int .i64 rt], 23), (g, #[.int .i64 r, .int .i64 og, .int .i64 rt, .int .i64 k, .int .i64 0, .int .i64 0, .int .i64 0], 27)], p.val.cell? ⟨gt, 2, none⟩ = some (.int .i64 rt) := fun p => p.property.cell 0 2 rfl rfl
  have q1_0 : ∀ p : Later w [(gt, #[.int .i64 r, .int .i64 og, .int .i64 rt], 23), (g, #[.int .i64 r, .int .i64 og, .int .i64 rt, .int .i64 k, .int .i64 0, .int .i64 0, .int .i64 0], 27)], p.val.cell? ⟨g, 0, none⟩ = some (.int .i64 r) := fun p => p.property.cell 1 0 rfl rfl
  have q1_1 : ∀ p : Later w [(gt, #[.int .i64 r, .int .i64 og, .int .i64 rt], 23), (g, #[.int .i64 r, .int .i64 og, .int .i64 rt, .int .i64 k, .int .i64 0, .int .i64 0, .int .i64 0], 27)], p.val.cell? ⟨g, 1, none⟩ = some (.int .i64 og) := fun p => p.property.cell 1 1 rfl rfl
  have q1_2 : ∀ p : Later w [(gt, #[.int .i64 r, .int .i64 og, .int .i64 rt], 23), (g, #[.int .i64 r, .int .i64 og, .int .i64 rt, .int .i64 k, .int .i64 0, .int .i64 0, .int .i64 0], 27)], p.val.cell? ⟨g, 2, none⟩ = some (.int .i64 rt) := fun p => p.property.cell 1 2 rfl rfl
  have q1_3 : ∀ p : Later w [(gt, #[.int .i64 r, .int .i64 og, .int .i64 rt], 23), (g, #[.int .i64 r, .int .i64 og, .int .i64 rt, .int .i64 k, .int .i64 0, .int .i64 0, .int .i64 0], 27)], p.val.cell? ⟨g, 3, none⟩ = some (.int .i64 k) := fun p => p.property.cell 1 3 rfl rfl
  have q1_4 : ∀ p : Later w [(gt, #[.int .i64 r, .int .i64 og, .int .i64 rt], 23), (g, #[.int .i64 r, .int .i64 og, .int .i64 rt, .int .i64 k, .int .i64 0, .int .i64 0, .int .i64 0], 27)], p.val.cell? ⟨g, 4, none⟩ = some (.int .i64 0) := fun p => p.property.cell 1 4 rfl rfl
  have q1_5 : ∀ p : Later w [(gt, #[.int .i64 r, .int .i64 og, .int .i64 rt], 23), (g, #[.int .i64 r, .int .i64 og, .int .i64 rt, .int .i64 k, .int .i64 0, .int .i64 0, .int .i64 0], 27)], p.val.cell? ⟨g, 5, none⟩ = some (.int .i64 0) := fun p => p.property.cell 1 5 rfl rfl
  have q1_6 : ∀ p : Later w [(gt, #[.int .i64 r, .int .i64 og, .int .i64 rt], 23), (g, #[.int .i64 r, .int .i64 og, .int .i64 rt, .int .i64 k, .int .i64 0, .int .i64 0, .int .i64 0], 27)], p.val.cell? ⟨g, 6, none⟩ = some (.int .i64 0) := fun p => p.property.cell 1 6 rfl rfl
  have z1 : (((og - k : Int)) != og - k) = false := by simp
  have z2 : (((k : Int)) != k) = false := by simp
  repeat (go_big_quiet_step (first | (go_at_call 17; exact Goes.quiet (balance_s (og - k) _ _ _ _ _ _ _ (Later.property _) ⟨by omega, by omega, by omega, by omega, by omega, by omega, by omega, by omega, by omega⟩ (by omega))) | (go_at_call 18; exact Goes.quiet (has_s _ _ _ (Later.property _) (by omega) (by omega) (by omega) (show k = k - 0 by omega)))))
  clear hne q0_0 q0_1 q0_2 q1_0 q1_1 q1_2 q1_3 q1_4 q1_5 q1_6 z1 z2
  refine wpQuiet_nil ?_
  rintro w11 ⟨⟨_, hs⟩, rfl⟩
  have HS11 := Lib.hid hs
  clear hs HS10
  have c0_0 : w11.cell? ⟨gt, 0, none⟩ = some (.int .i64 r) := HS11.out.cell 0 0 rfl rfl
  have c0_1 : w11.cell? ⟨gt, 1, none⟩ = some (.int .i64 og) := HS11.out.cell 0 1 rfl rfl
  have c0_2 : w11.cell? ⟨gt, 2, none⟩ = some (.int .i64 rt) := HS11.out.cell 0 2 rfl rfl
  have c1_0 : w11.cell? ⟨g, 0, none⟩ = some (.int .i64 r) := HS11.out.cell 1 0 rfl rfl
  have c1_1 : w11.cell? ⟨g, 1, none⟩ = some (.int .i64 og) := HS11.out.cell 1 1 rfl rfl
  have c1_2 : w11.cell? ⟨g, 2, none⟩ = some (.int .i64 rt) := HS11.out.cell 1 2 rfl rfl
  have c1_3 : w11.cell? ⟨g, 3, none⟩ = some (.int .i64 k) := HS11.out.cell 1 3 rfl rfl
  have c1_4 : w11.cell? ⟨g, 4, none⟩ = some (.int .i64 0) := HS11.out.cell 1 4 rfl rfl
  have c1_5 : w11.cell? ⟨g, 5, none⟩ = some (.int .i64 0) := HS11.out.cell 1 5 rfl rfl
  have c1_6 : w11.cell? ⟨g, 6, none⟩ = some (.int .i64 0) := HS11.out.cell 1 6 rfl rfl
  clear c0_0 c0_1 c0_2 c1_0 c1_1 c1_2 c1_3 c1_4 c1_5 c1_6
  have c0_0 : w11.cell? ⟨gt, 0, none⟩ = some (.int .i64 r) := HS11.out.cell 0 0 rfl rfl
  have c0_1 : w11.cell? ⟨gt, 1, none⟩ = some (.int .i64 og) := HS11.out.cell 0 1 rfl rfl
  have c0_2 : w11.cell? ⟨gt, 2, none⟩ = some (.int .i64 rt) := HS11.out.cell 0 2 rfl rfl
  have c1_0 : w11.cell? ⟨g, 0, none⟩ = some (.int .i64 r) := HS11.out.cell 1 0 rfl rfl
  have c1_1 : w11.cell? ⟨g, 1, none⟩ = some (.int .i64 og) := HS11.out.cell 1 1 rfl rfl
  have c1_2 : w11.cell? ⟨g, 2, none⟩ = some (.int .i64 rt) := HS11.out.cell 1 2 rfl rfl
  have c1_3 : w11.cell? ⟨g, 3, none⟩ = some (.int .i64 k) := HS11.out.cell 1 3 rfl rfl
  have c1_4 : w11.cell? ⟨g, 4, none⟩ = some (.int .i64 0) := HS11.out.cell 1 4 rfl rfl
  have c1_5 : w11.cell? ⟨g, 5, none⟩ = some (.int .i64 0) := HS11.out.cell 1 5 rfl rfl
  have c1_6 : w11.cell? ⟨g, 6, none⟩ = some (.int .i64 0) := HS11.out.cell 1 6 rfl rfl
  go_upto_region 7 with fail
  clear c0_0 c0_1 c0_2 c1_0 c1_1 c1_2 c1_3 c1_4 c1_5 c1_6
  have HS12 := Lib.hid ((HS11.out.add (g := w11.heap.size) (by simp) #[.int .i64 r, .int .i64 og, .int .i64 rt, .int .i64 k, .int .i64 0, .int .i64 0, .int .i64 0] 27).lit (L' := [(gt, #[.int .i64 r, .int .i64 og, .int .i64 rt], 23), (g, #[.int .i64 r, .int .i64 og, .int .i64 rt, .int .i64 k, .int .i64 0, .int .i64 0, .int .i64 0], 27), (w11.heap.size, #[.int .i64 r, .int .i64 og, .int .i64 rt, .int .i64 k, .int .i64 0, .int .i64 0, .int .i64 0], 27)]) rfl)
  clear HS11
  generalize w11.heap.size = gm at *
  generalize (w11.alloc (.cells #[.int .i64 r, .int .i64 og, .int .i64 rt, .int .i64 k, .int .i64 0, .int .i64 0, .int .i64 0] 27)) = v12 at *
  have c0_0 : v12.cell? ⟨gt, 0, none⟩ = some (.int .i64 r) := HS12.out.cell 0 0 rfl rfl
  have c0_1 : v12.cell? ⟨gt, 1, none⟩ = some (.int .i64 og) := HS12.out.cell 0 1 rfl rfl
  have c0_2 : v12.cell? ⟨gt, 2, none⟩ = some (.int .i64 rt) := HS12.out.cell 0 2 rfl rfl
  have c1_0 : v12.cell? ⟨g, 0, none⟩ = some (.int .i64 r) := HS12.out.cell 1 0 rfl rfl
  have c1_1 : v12.cell? ⟨g, 1, none⟩ = some (.int .i64 og) := HS12.out.cell 1 1 rfl rfl
  have c1_2 : v12.cell? ⟨g, 2, none⟩ = some (.int .i64 rt) := HS12.out.cell 1 2 rfl rfl
  have c1_3 : v12.cell? ⟨g, 3, none⟩ = some (.int .i64 k) := HS12.out.cell 1 3 rfl rfl
  have c1_4 : v12.cell? ⟨g, 4, none⟩ = some (.int .i64 0) := HS12.out.cell 1 4 rfl rfl
  have c1_5 : v12.cell? ⟨g, 5, none⟩ = some (.int .i64 0) := HS12.out.cell 1 5 rfl rfl
  have c1_6 : v12.cell? ⟨g, 6, none⟩ = some (.int .i64 0) := HS12.out.cell 1 6 rfl rfl
  have c2_0 : v12.cell? ⟨gm, 0, none⟩ = some (.int .i64 r) := HS12.out.cell 2 0 rfl rfl
  have c2_1 : v12.cell? ⟨gm, 1, none⟩ = some (.int .i64 og) := HS12.out.cell 2 1 rfl rfl
  have c2_2 : v12.cell? ⟨gm, 2, none⟩ = some (.int .i64 rt) := HS12.out.cell 2 2 rfl rfl
  have c2_3 : v12.cell? ⟨gm, 3, none⟩ = some (.int .i64 k) := HS12.out.cell 2 3 rfl rfl
  have c2_4 : v12.cell? ⟨gm, 4, none⟩ = some (.int .i64 0) := HS12.out.cell 2 4 rfl rfl
  have c2_5 : v12.cell? ⟨gm, 5, none⟩ = some (.int .i64 0) := HS12.out.cell 2 5 rfl rfl
  have c2_6 : v12.cell? ⟨gm, 6, none⟩ = some (.int .i64 0) := HS12.out.cell 2 6 rfl rfl
  obtain ⟨x, hx⟩ : ∃ x, x = wi d' (og - k) := ⟨_, rfl⟩
  have x0 : 0 ≤ x := by rw [hx]; exact wi_bd _ _
  have x1 : x ≤ og - k := by rw [hx]; exact wi_le _ (by omega)
  have Ex := Lib.hid hx
  clear hx
  obtain ⟨y, hy⟩ : ∃ y, y = wi w' (og - k - x) := ⟨_, rfl⟩
  have y0 : 0 ≤ y := by rw [hy]; exact wi_bd _ _
  have y1 : y ≤ og - k - x := by rw [hy]; exact wi_le _ (by omega)
  have Ey := Lib.hid hy
  clear hy
  go_wp2_with fail
  clear c0_0 c0_1 c0_2 c1_0 c1_1 c1_2 c1_3 c1_4 c1_5 c1_6 c2_0 c2_1 c2_2 c2_3 c2_4 c2_5 c2_6
  refine (within_s d 0 2147483648 HS12.out (by omega) (by omega) (by omega)).mono ?_
  rintro e w13 ⟨rfl, hs⟩
  have HS13 := Lib.hid ((hs.lit rfl : Sts w [(gt, #[.int .i64 r, .int .i64 og, .int .i64 rt], 23), (g, #[.int .i64 r, .int .i64 og, .int .i64 rt, .int .i64 k, .int .i64 0, .int .i64 0, .int .i64 0], 27), (gm, #[.int .i64 r, .int .i64 og, .int .i64 rt, .int .i64 k, .int .i64 0, .int .i64 0, .int .i64 0], 27)] w13))
  clear HS12
  clear hs
  rw [← Ed'.out]
  have c0_0 : w13.cell? ⟨gt, 0, none⟩ = some (.int .i64 r) := HS13.out.cell 0 0 rfl rfl
  have c0_1 : w13.cell? ⟨gt, 1, none⟩ = some (.int .i64 og) := HS13.out.cell 0 1 rfl rfl
  have c0_2 : w13.cell? ⟨gt, 2, none⟩ = some (.int .i64 rt) := HS13.out.cell 0 2 rfl rfl
  have c1_0 : w13.cell? ⟨g, 0, none⟩ = some (.int .i64 r) := HS13.out.cell 1 0 rfl rfl
  have c1_1 : w13.cell? ⟨g, 1, none⟩ = some (.int .i64 og) := HS13.out.cell 1 1 rfl rfl
  have c1_2 : w13.cell? ⟨g, 2, none⟩ = some (.int .i64 rt) := HS13.out.cell 1 2 rfl rfl
  have c1_3 : w13.cell? ⟨g, 3, none⟩ = some (.int .i64 k) := HS13.out.cell 1 3 rfl rfl
  have c1_4 : w13.cell? ⟨g, 4, none⟩ = some (.int .i64 0) := HS13.out.cell 1 4 rfl rfl
  have c1_5 : w13.cell? ⟨g, 5, none⟩ = some (.int .i64 0) := HS13.out.cell 1 5 rfl rfl
  have c1_6 : w13.cell? ⟨g, 6, none⟩ = some (.int .i64 0) := HS13.out.cell 1 6 rfl rfl
  have c2_0 : w13.cell? ⟨gm, 0, none⟩ = some (.int .i64 r) := HS13.out.cell 2 0 rfl rfl
  have c2_1 : w13.cell? ⟨gm, 1, none⟩ = some (.int .i64 og) := HS13.out.cell 2 1 rfl rfl
  have c2_2 : w13.cell? ⟨gm, 2, none⟩ = some (.int .i64 rt) := HS13.out.cell 2 2 rfl rfl
  have c2_3 : w13.cell? ⟨gm, 3, none⟩ = some (.int .i64 k) := HS13.out.cell 2 3 rfl rfl
  have c2_4 : w13.cell? ⟨gm, 4, none⟩ = some (.int .i64 0) := HS13.out.cell 2 4 rfl rfl
  have c2_5 : w13.cell? ⟨gm, 5, none⟩ = some (.int .i64 0) := HS13.out.cell 2 5 rfl rfl
  have c2_6 : w13.cell? ⟨gm, 6, none⟩ = some (.int .i64 0) := HS13.out.cell 2 6 rfl rfl
  go_wp2_with fail
  clear c0_0 c0_1 c0_2 c1_0 c1_1 c1_2 c1_3 c1_4 c1_5 c1_6 c2_0 c2_1 c2_2 c2_3 c2_4 c2_5 c2_6
  refine (pay_s x r og rt k 0 0 0 d' 2 HS13.out rfl ⟨by omega, by omega, by omega, by omega, by omega, by omega, by omega, by omega, by omega⟩ (by omega) (by omega) (by rw [Ex.out]; congr 1 <;> omega)).mono ?_
  rintro e w14 ⟨rfl, hs⟩
  have HS14 := Lib.hid ((hs.lit rfl : Sts w [(gt, #[.int .i64 r, .int .i64 og, .int .i64 rt], 23), (g, #[.int .i64 r, .int .i64 og, .int .i64 rt, .int .i64 k, .int .i64 0, .int .i64 0, .int .i64 0], 27), (gm, #[.int .i64 r, .int .i64 og, .int .i64 rt, .int .i64 (k + x), .int .i64 0, .int .i64 0, .int .i64 0], 27)] w14))
  clear HS13
  clear hs
  have c0_0 : w14.cell? ⟨gt, 0, none⟩ = some (.int .i64 r) := HS14.out.cell 0 0 rfl rfl
  have c0_1 : w14.cell? ⟨gt, 1, none⟩ = some (.int .i64 og) := HS14.out.cell 0 1 rfl rfl
  have c0_2 : w14.cell? ⟨gt, 2, none⟩ = some (.int .i64 rt) := HS14.out.cell 0 2 rfl rfl
  have c1_0 : w14.cell? ⟨g, 0, none⟩ = some (.int .i64 r) := HS14.out.cell 1 0 rfl rfl
  have c1_1 : w14.cell? ⟨g, 1, none⟩ = some (.int .i64 og) := HS14.out.cell 1 1 rfl rfl
  have c1_2 : w14.cell? ⟨g, 2, none⟩ = some (.int .i64 rt) := HS14.out.cell 1 2 rfl rfl
  have c1_3 : w14.cell? ⟨g, 3, none⟩ = some (.int .i64 k) := HS14.out.cell 1 3 rfl rfl
  have c1_4 : w14.cell? ⟨g, 4, none⟩ = some (.int .i64 0) := HS14.out.cell 1 4 rfl rfl
  have c1_5 : w14.cell? ⟨g, 5, none⟩ = some (.int .i64 0) := HS14.out.cell 1 5 rfl rfl
  have c1_6 : w14.cell? ⟨g, 6, none⟩ = some (.int .i64 0) := HS14.out.cell 1 6 rfl rfl
  have c2_0 : w14.cell? ⟨gm, 0, none⟩ = some (.int .i64 r) := HS14.out.cell 2 0 rfl rfl
  have c2_1 : w14.cell? ⟨gm, 1, none⟩ = some (.int .i64 og) := HS14.out.cell 2 1 rfl rfl
  have c2_2 : w14.cell? ⟨gm, 2, none⟩ = some (.int .i64 rt) := HS14.out.cell 2 2 rfl rfl
  have c2_3 : w14.cell? ⟨gm, 3, none⟩ = some (.int .i64 (k + x)) := HS14.out.cell 2 3 rfl rfl
  have c2_4 : w14.cell? ⟨gm, 4, none⟩ = some (.int .i64 0) := HS14.out.cell 2 4 rfl rfl
  have c2_5 : w14.cell? ⟨gm, 5, none⟩ = some (.int .i64 0) := HS14.out.cell 2 5 rfl rfl
  have c2_6 : w14.cell? ⟨gm, 6, none⟩ = some (.int .i64 0) := HS14.out.cell 2 6 rfl rfl
  go_wp2_with fail
  clear c0_0 c0_1 c0_2 c1_0 c1_1 c1_2 c1_3 c1_4 c1_5 c1_6 c2_0 c2_1 c2_2 c2_3 c2_4 c2_5 c2_6
  refine (within_s wr 0 2147483648 HS14.out (by omega) (by omega) (by omega)).mono ?_
  rintro e w15 ⟨rfl, hs⟩
  have HS15 := Lib.hid ((hs.lit rfl : Sts w [(gt, #[.int .i64 r, .int .i64 og, .int .i64 rt], 23), (g, #[.int .i64 r, .int .i64 og, .int .i64 rt, .int .i64 k, .int .i64 0, .int .i64 0, .int .i64 0], 27), (gm, #[.int .i64 r, .int .i64 og, .int .i64 rt, .int .i64 (k + x), .int .i64 0, .int .i64 0, .int .i64 0], 27)] w15))
  clear HS14
  clear hs
  rw [← Ew'.out]
  have c0_0 : w15.cell? ⟨gt, 0, none⟩ = some (.int .i64 r) := HS15.out.cell 0 0 rfl rfl
  have c0_1 : w15.cell? ⟨gt, 1, none⟩ = some (.int .i64 og) := HS15.out.cell 0 1 rfl rfl
  have c0_2 : w15.cell? ⟨gt, 2, none⟩ = some (.int .i64 rt) := HS15.out.cell 0 2 rfl rfl
  have c1_0 : w15.cell? ⟨g, 0, none⟩ = some (.int .i64 r) := HS15.out.cell 1 0 rfl rfl
  have c1_1 : w15.cell? ⟨g, 1, none⟩ = some (.int .i64 og) := HS15.out.cell 1 1 rfl rfl
  have c1_2 : w15.cell? ⟨g, 2, none⟩ = some (.int .i64 rt) := HS15.out.cell 1 2 rfl rfl
  have c1_3 : w15.cell? ⟨g, 3, none⟩ = some (.int .i64 k) := HS15.out.cell 1 3 rfl rfl
  have c1_4 : w15.cell? ⟨g, 4, none⟩ = some (.int .i64 0) := HS15.out.cell 1 4 rfl rfl
  have c1_5 : w15.cell? ⟨g, 5, none⟩ = some (.int .i64 0) := HS15.out.cell 1 5 rfl rfl
  have c1_6 : w15.cell? ⟨g, 6, none⟩ = some (.int .i64 0) := HS15.out.cell 1 6 rfl rfl
  have c2_0 : w15.cell? ⟨gm, 0, none⟩ = some (.int .i64 r) := HS15.out.cell 2 0 rfl rfl
  have c2_1 : w15.cell? ⟨gm, 1, none⟩ = some (.int .i64 og) := HS15.out.cell 2 1 rfl rfl
  have c2_2 : w15.cell? ⟨gm, 2, none⟩ = some (.int .i64 rt) := HS15.out.cell 2 2 rfl rfl
  have c2_3 : w15.cell? ⟨gm, 3, none⟩ = some (.int .i64 (k + x)) := HS15.out.cell 2 3 rfl rfl
  have c2_4 : w15.cell? ⟨gm, 4, none⟩ = some (.int .i64 0) := HS15.out.cell 2 4 rfl rfl
  have c2_5 : w15.cell? ⟨gm, 5, none⟩ = some (.int .i64 0) := HS15.out.cell 2 5 rfl rfl
  have c2_6 : w15.cell? ⟨gm, 6, none⟩ = some (.int .i64 0) := HS15.out.cell 2 6 rfl rfl
  go_wp2_with fail
  clear c0_0 c0_1 c0_2 c1_0 c1_1 c1_2 c1_3 c1_4 c1_5 c1_6 c2_0 c2_1 c2_2 c2_3 c2_4 c2_5 c2_6
  refine (write_s y r og rt (k + x) 0 0 0 w' 2 HS15.out rfl ⟨by omega, by omega, by omega, by omega, by omega, by omega, by omega, by omega, by omega⟩ (by omega) (by omega) (by rw [Ey.out]; congr 1 <;> omega)).mono ?_
  rintro e w16 ⟨rfl, hs⟩
  have HS16 := Lib.hid ((hs.lit (by simp) : Sts w [(gt, #[.int .i64 r, .int .i64 og, .int .i64 rt], 23), (g, #[.int .i64 r, .int .i64 og, .int .i64 rt, .int .i64 k, .int .i64 0, .int .i64 0, .int .i64 0], 27), (gm, #[.int .i64 r, .int .i64 og, .int .i64 rt, .int .i64 (k + x), .int .i64 0, .int .i64 0, .int .i64 y], 27)] w16))
  clear HS15
  clear hs
  have c0_0 : w16.cell? ⟨gt, 0, none⟩ = some (.int .i64 r) := HS16.out.cell 0 0 rfl rfl
  have c0_1 : w16.cell? ⟨gt, 1, none⟩ = some (.int .i64 og) := HS16.out.cell 0 1 rfl rfl
  have c0_2 : w16.cell? ⟨gt, 2, none⟩ = some (.int .i64 rt) := HS16.out.cell 0 2 rfl rfl
  have c1_0 : w16.cell? ⟨g, 0, none⟩ = some (.int .i64 r) := HS16.out.cell 1 0 rfl rfl
  have c1_1 : w16.cell? ⟨g, 1, none⟩ = some (.int .i64 og) := HS16.out.cell 1 1 rfl rfl
  have c1_2 : w16.cell? ⟨g, 2, none⟩ = some (.int .i64 rt) := HS16.out.cell 1 2 rfl rfl
  have c1_3 : w16.cell? ⟨g, 3, none⟩ = some (.int .i64 k) := HS16.out.cell 1 3 rfl rfl
  have c1_4 : w16.cell? ⟨g, 4, none⟩ = some (.int .i64 0) := HS16.out.cell 1 4 rfl rfl
  have c1_5 : w16.cell? ⟨g, 5, none⟩ = some (.int .i64 0) := HS16.out.cell 1 5 rfl rfl
  have c1_6 : w16.cell? ⟨g, 6, none⟩ = some (.int .i64 0) := HS16.out.cell 1 6 rfl rfl
  have c2_0 : w16.cell? ⟨gm, 0, none⟩ = some (.int .i64 r) := HS16.out.cell 2 0 rfl rfl
  have c2_1 : w16.cell? ⟨gm, 1, none⟩ = some (.int .i64 og) := HS16.out.cell 2 1 rfl rfl
  have c2_2 : w16.cell? ⟨gm, 2, none⟩ = some (.int .i64 rt) := HS16.out.cell 2 2 rfl rfl
  have c2_3 : w16.cell? ⟨gm, 3, none⟩ = some (.int .i64 (k + x)) := HS16.out.cell 2 3 rfl rfl
  have c2_4 : w16.cell? ⟨gm, 4, none⟩ = some (.int .i64 0) := HS16.out.cell 2 4 rfl rfl
  have c2_5 : w16.cell? ⟨gm, 5, none⟩ = some (.int .i64 0) := HS16.out.cell 2 5 rfl rfl
  have c2_6 : w16.cell? ⟨gm, 6, none⟩ = some (.int .i64 y) := HS16.out.cell 2 6 rfl rfl
  go_wp2_with fail
  clear c0_0 c0_1 c0_2 c1_0 c1_1 c1_2 c1_3 c1_4 c1_5 c1_6 c2_0 c2_1 c2_2 c2_3 c2_4 c2_5 c2_6
  refine (restore_s y r og rt (k + x) 0 0 y y 2 HS16.out rfl ⟨by omega, by omega, by omega, by omega, by omega, by omega, by omega, by omega, by omega⟩ (by omega) (by omega) (by unfold wi; omega)).mono ?_
  rintro e w17 ⟨rfl, hs⟩
  have HS17 := Lib.hid ((hs.lit (by simp) : Sts w [(gt, #[.int .i64 r, .int .i64 og, .int .i64 rt], 23), (g, #[.int .i64 r, .int .i64 og, .int .i64 rt, .int .i64 k, .int .i64 0, .int .i64 0, .int .i64 0], 27), (gm, #[.int .i64 r, .int .i64 og, .int .i64 rt, .int .i64 (k + x), .int .i64 0, .int .i64 0, .int .i64 0], 27)] w17))
  clear HS16
  clear hs
  have c0_0 : w17.cell? ⟨gt, 0, none⟩ = some (.int .i64 r) := HS17.out.cell 0 0 rfl rfl
  have c0_1 : w17.cell? ⟨gt, 1, none⟩ = some (.int .i64 og) := HS17.out.cell 0 1 rfl rfl
  have c0_2 : w17.cell? ⟨gt, 2, none⟩ = some (.int .i64 rt) := HS17.out.cell 0 2 rfl rfl
  have c1_0 : w17.cell? ⟨g, 0, none⟩ = some (.int .i64 r) := HS17.out.cell 1 0 rfl rfl
  have c1_1 : w17.cell? ⟨g, 1, none⟩ = some (.int .i64 og) := HS17.out.cell 1 1 rfl rfl
  have c1_2 : w17.cell? ⟨g, 2, none⟩ = some (.int .i64 rt) := HS17.out.cell 1 2 rfl rfl
  have c1_3 : w17.cell? ⟨g, 3, none⟩ = some (.int .i64 k) := HS17.out.cell 1 3 rfl rfl
  have c1_4 : w17.cell? ⟨g, 4, none⟩ = some (.int .i64 0) := HS17.out.cell 1 4 rfl rfl
  have c1_5 : w17.cell? ⟨g, 5, none⟩ = some (.int .i64 0) := HS17.out.cell 1 5 rfl rfl
  have c1_6 : w17.cell? ⟨g, 6, none⟩ = some (.int .i64 0) := HS17.out.cell 1 6 rfl rfl
  have c2_0 : w17.cell? ⟨gm, 0, none⟩ = some (.int .i64 r) := HS17.out.cell 2 0 rfl rfl
  have c2_1 : w17.cell? ⟨gm, 1, none⟩ = some (.int .i64 og) := HS17.out.cell 2 1 rfl rfl
  have c2_2 : w17.cell? ⟨gm, 2, none⟩ = some (.int .i64 rt) := HS17.out.cell 2 2 rfl rfl
  have c2_3 : w17.cell? ⟨gm, 3, none⟩ = some (.int .i64 (k + x)) := HS17.out.cell 2 3 rfl rfl
  have c2_4 : w17.cell? ⟨gm, 4, none⟩ = some (.int .i64 0) := HS17.out.cell 2 4 rfl rfl
  have c2_5 : w17.cell? ⟨gm, 5, none⟩ = some (.int .i64 0) := HS17.out.cell 2 5 rfl rfl
  have c2_6 : w17.cell? ⟨gm, 6, none⟩ = some (.int .i64 0) := HS17.out.cell 2 6 rfl rfl
  go_upto_region 10 with fail
  clear c0_0 c0_1 c0_2 c1_0 c1_1 c1_2 c1_3 c1_4 c1_5 c1_6 c2_0 c2_1 c2_2 c2_3 c2_4 c2_5 c2_6
  refine wp_region_sts HS17.out (by kernel_rfl) (by kernel_rfl) ?_
  simp only [List.append_eq, List.cons_append, List.nil_append]
  have hne : Nonempty (Later w [(gt, #[.int .i64 r, .int .i64 og, .int .i64 rt], 23), (g, #[.int .i64 r, .int .i64 og, .int .i64 rt, .int .i64 k, .int .i64 0, .int .i64 0, .int .i64 0], 27), (gm, #[.int .i64 r, .int .i64 og, .int .i64 rt, .int .i64 (k + x), .int .i64 0, .int .i64 0, .int .i64 0], 27)]) := ⟨⟨_, HS17.out⟩⟩
  have q0_0 : ∀ p : Later w [(gt, #[.int .i64 r, .int .i64 og, .int .i64 rt], 23), (g, #[.int .i64 r, .int .i64 og, .int .i64 rt, .int .i64 k, .int .i64 0, .int .i64 0, .int .i64 0], 27), (gm, #[.int .i64 r, .int .i64 og, .int .i64 rt, .int .i64 (k + x), .int .i64 0, .int .i64 0, .int .i64 0], 27)], p.val.cell? ⟨gt, 0, none⟩ = some (.int .i64 r) := fun p => p.property.cell 0 0 rfl rfl
  have q0_1 : ∀ p : Later w [(gt, #[.int .i64 r, .int .i64 og, .int .i64 rt], 23), (g, #[.int .i64 r, .int .i64 og, .int .i64 rt, .int .i64 k, .int .i64 0, .int .i64 0, .int .i64 0], 27), (gm, #[.int .i64 r, .int .i64 og, .int .i64 rt, .int .i64 (k + x), .int .i64 0, .int .i64 0, .int .i64 0], 27)], p.val.cell? ⟨gt, 1, none⟩ = some (.int .i64 og) := fun p => p.property.cell 0 1 rfl rfl
  have q0_2 : ∀ p : Later w [(gt, #[.int .i64 r, .int .i64 og, .int .i64 rt], 23), (g, #[.int .i64 r, .int .i64 og, .int .i64 rt, .int .i64 k, .int .i64 0, .int .i64 0, .int .i64 0], 27), (gm, #[.int .i64 r, .int .i64 og, .int .i64 rt, .int .i64 (k + x), .int .i64 0, .int .i64 0, .int .i64 0], 27)], p.val.cell? ⟨gt, 2, none⟩ = some (.int .i64 rt) := fun p => p.property.cell 0 2 rfl rfl
  have q1_0 : ∀ p : Later w [(gt, #[.int .i64 r, .int .i64 og, .int .i64 rt], 23), (g, #[.int .i64 r, .int .i64 og, .int .i64 rt, .int .i64 k, .int .i64 0, .int .i64 0, .int .i64 0], 27), (gm, #[.int .i64 r, .int .i64 og, .int .i64 rt, .int .i64 (k + x), .int .i64 0, .int .i64 0, .int .i64 0], 27)], p.val.cell? ⟨g, 0, none⟩ = some (.int .i64 r) := fun p => p.property.cell 1 0 rfl rfl
  have q1_1 : ∀ p : Later w [(gt, #[.int .i64 r, .int .i64 og, .int .i64 rt], 23), (g, #[.int .i64 r, .int .i64 og, .int .i64 rt, .int .i64 k, .int .i64 0, .int .i64 0, .int .i64 0], 27), (gm, #[.int .i64 r, .int .i64 og, .int .i64 rt, .int .i64 (k + x), .int .i64 0, .int .i64 0, .int .i64 0], 27)], p.val.cell? ⟨g, 1, none⟩ = some (.int .i64 og) := fun p => p.property.cell 1 1 rfl rfl
  have q1_2 : ∀ p : Later w [(gt, #[.int .i64 r, .int .i64 og, .int .i64 rt], 23), (g, #[.int .i64 r, .int .i64 og, .int .i64 rt, .int .i64 k, .int .i64 0, .int .i64 0, .int .i64 0], 27), (gm, #[.int .i64 r, .int .i64 og, .int .i64 rt, .int .i64 (k + x), .int .i64 0, .int .i64 0, .int .i64 0], 27)], p.val.cell? ⟨g, 2, none⟩ = some (.int .i64 rt) := fun p => p.property.cell 1 2 rfl rfl
  have q1_3 : ∀ p : Later w [(gt, #[.int .i64 r, .int .i64 og, .int .i64 rt], 23), (g, #[.int .i64 r, .int .i64 og, .int .i64 rt, .int .i64 k, .int .i64 0, .int .i64 0, .int .i64 0], 27), (gm, #[.int .i64 r, .int .i64 og, .int .i64 rt, .int .i64 (k + x), .int .i64 0, .int .i64 0, .int .i64 0], 27)], p.val.cell? ⟨g, 3, none⟩ = some (.int .i64 k) := fun p => p.property.cell 1 3 rfl rfl
  have q1_4 : ∀ p : Later w [(gt, #[.int .i64 r, .int .i64 og, .int .i64 rt], 23), (g, #[.int .i64 r, .int .i64 og, .int .i64 rt, .int .i64 k, .int .i64 0, .int .i64 0, .int .i64 0], 27), (gm, #[.int .i64 r, .int .i64 og, .int .i64 rt, .int .i64 (k + x), .int .i64 0, .int .i64 0, .int .i64 0], 27)], p.val.cell? ⟨g, 4, none⟩ = some (.int .i64 0) := fun p => p.property.cell 1 4 rfl rfl
  have q1_5 : ∀ p : Later w [(gt, #[.int .i64 r, .int .i64 og, .int .i64 rt], 23), (g, #[.int .i64 r, .int .i64 og, .int .i64 rt, .int .i64 k, .int .i64 0, .int .i64 0, .int .i64 0], 27), (gm, #[.int .i64 r, .int .i64 og, .int .i64 rt, .int .i64 (k + x), .int .i64 0, .int .i64 0, .int .i64 0], 27)], p.val.cell? ⟨g, 5, none⟩ = some (.int .i64 0) := fun p => p.property.cell 1 5 rfl rfl
  have q1_6 : ∀ p : Later w [(gt, #[.int .i64 r, .int .i64 og, .int .i64 rt], 23), (g, #[.int .i64 r, .int .i64 og, .int .i64 rt, .int .i64 k, .int .i64 0, .int .i64 0, .int .i64 0], 27), (gm, #[.int .i64 r, .int .i64 og, .int .i64 rt, .int .i64 (k + x), .int .i64 0, .int .i64 0, .int .i64 0], 27)], p.val.cell? ⟨g, 6, none⟩ = some (.int .i64 0) := fun p => p.property.cell 1 6 rfl rfl
  have q2_0 : ∀ p : Later w [(gt, #[.int .i64 r, .int .i64 og, .int .i64 rt], 23), (g, #[.int .i64 r, .int .i64 og, .int .i64 rt, .int .i64 k, .int .i64 0, .int .i64 0, .int .i64 0], 27), (gm, #[.int .i64 r, .int .i64 og, .int .i64 rt, .int .i64 (k + x), .int .i64 0, .int .i64 0, .int .i64 0], 27)], p.val.cell? ⟨gm, 0, none⟩ = some (.int .i64 r) := fun p => p.property.cell 2 0 rfl rfl
  have q2_1 : ∀ p : Later w [(gt, #[.int .i64 r, .int .i64 og, .int .i64 rt], 23), (g, #[.int .i64 r, .int .i64 og, .int .i64 rt, .int .i64 k, .int .i64 0, .int .i64 0, .int .i64 0], 27), (gm, #[.int .i64 r, .int .i64 og, .int .i64 rt, .int .i64 (k + x), .int .i64 0, .int .i64 0, .int .i64 0], 27)], p.val.cell? ⟨gm, 1, none⟩ = some (.int .i64 og) := fun p => p.property.cell 2 1 rfl rfl
  have q2_2 : ∀ p : Later w [(gt, #[.int .i64 r, .int .i64 og, .int .i64 rt], 23), (g, #[.int .i64 r, .int .i64 og, .int .i64 rt, .int .i64 k, .int .i64 0, .int .i64 0, .int .i64 0], 27), (gm, #[.int .i64 r, .int .i64 og, .int .i64 rt, .int .i64 (k + x), .int .i64 0, .int .i64 0, .int .i64 0], 27)], p.val.cell? ⟨gm, 2, none⟩ = some (.int .i64 rt) := fun p => p.property.cell 2 2 rfl rfl
  have q2_3 : ∀ p : Later w [(gt, #[.int .i64 r, .int .i64 og, .int .i64 rt], 23), (g, #[.int .i64 r, .int .i64 og, .int .i64 rt, .int .i64 k, .int .i64 0, .int .i64 0, .int .i64 0], 27), (gm, #[.int .i64 r, .int .i64 og, .int .i64 rt, .int .i64 (k + x), .int .i64 0, .int .i64 0, .int .i64 0], 27)], p.val.cell? ⟨gm, 3, none⟩ = some (.int .i64 (k + x)) := fun p => p.property.cell 2 3 rfl rfl
  have q2_4 : ∀ p : Later w [(gt, #[.int .i64 r, .int .i64 og, .int .i64 rt], 23), (g, #[.int .i64 r, .int .i64 og, .int .i64 rt, .int .i64 k, .int .i64 0, .int .i64 0, .int .i64 0], 27), (gm, #[.int .i64 r, .int .i64 og, .int .i64 rt, .int .i64 (k + x), .int .i64 0, .int .i64 0, .int .i64 0], 27)], p.val.cell? ⟨gm, 4, none⟩ = some (.int .i64 0) := fun p => p.property.cell 2 4 rfl rfl
  have q2_5 : ∀ p : Later w [(gt, #[.int .i64 r, .int .i64 og, .int .i64 rt], 23), (g, #[.int .i64 r, .int .i64 og, .int .i64 rt, .int .i64 k, .int .i64 0, .int .i64 0, .int .i64 0], 27), (gm, #[.int .i64 r, .int .i64 og, .int .i64 rt, .int .i64 (k + x), .int .i64 0, .int .i64 0, .int .i64 0], 27)], p.val.cell? ⟨gm, 5, none⟩ = some (.int .i64 0) := fun p => p.property.cell 2 5 rfl rfl
  have q2_6 : ∀ p : Later w [(gt, #[.int .i64 r, .int .i64 og, .int .i64 rt], 23), (g, #[.int .i64 r, .int .i64 og, .int .i64 rt, .int .i64 k, .int .i64 0, .int .i64 0, .int .i64 0], 27), (gm, #[.int .i64 r, .int .i64 og, .int .i64 rt, .int .i64 (k + x), .int .i64 0, .int .i64 0, .int .i64 0], 27)], p.val.cell? ⟨gm, 6, none⟩ = some (.int .i64 0) := fun p => p.property.cell 2 6 rfl rfl
  have z3 : (((k - 0 : Int)) == k) = true := by rw [beq_iff_eq]; omega
  have z4 : (((k + x - 0 : Int)) == k + x) = true := by rw [beq_iff_eq]; omega
  have z5 : (((0 : Int)) == 0) = true := by simp
  have z6 : (((y : Int)) == y) = true := by simp
  have z7 : (((og - k - x : Int)) == og - k - x) = true := by simp
  have z8 : (((og : Int)) == og) = true := by simp
  have z9 : (((rt : Int)) == rt) = true := by simp
  have z10 : (((r : Int)) == r) = true := by simp
  repeat (go_big_quiet_step (first | (go_at_call 18; exact Goes.quiet (has_s _ _ _ (Later.property _) (by omega) (by omega) (by omega) rfl)) | (go_at_call 17; exact Goes.quiet (balance_s (og - k - x) _ _ _ _ _ _ _ (Later.property _) ⟨by omega, by omega, by omega, by omega, by omega, by omega, by omega, by omega, by omega⟩ (by omega))) | (go_at_call 19; exact Goes.quiet (nright_s true _ _ _ _ _ _ _ (Later.property _) (by omega) (by omega) (by omega) (by omega) (by omega) (by omega) (by omega) (by omega) (by omega) (decide_eq_true (by omega)))) | (go_at_call 3; exact Goes.quiet (noteRuns_s (Later.property _)))))
  clear hne q0_0 q0_1 q0_2 q1_0 q1_1 q1_2 q1_3 q1_4 q1_5 q1_6 q2_0 q2_1 q2_2 q2_3 q2_4 q2_5 q2_6 z3 z4 z5 z6 z7 z8 z9 z10
  refine wpQuiet_nil ?_
  rintro w18 ⟨⟨_, hs⟩, rfl⟩
  have HS18 := Lib.hid hs
  clear hs HS17
  have c0_0 : w18.cell? ⟨gt, 0, none⟩ = some (.int .i64 r) := HS18.out.cell 0 0 rfl rfl
  have c0_1 : w18.cell? ⟨gt, 1, none⟩ = some (.int .i64 og) := HS18.out.cell 0 1 rfl rfl
  have c0_2 : w18.cell? ⟨gt, 2, none⟩ = some (.int .i64 rt) := HS18.out.cell 0 2 rfl rfl
  have c1_0 : w18.cell? ⟨g, 0, none⟩ = some (.int .i64 r) := HS18.out.cell 1 0 rfl rfl
  have c1_1 : w18.cell? ⟨g, 1, none⟩ = some (.int .i64 og) := HS18.out.cell 1 1 rfl rfl
  have c1_2 : w18.cell? ⟨g, 2, none⟩ = some (.int .i64 rt) := HS18.out.cell 1 2 rfl rfl
  have c1_3 : w18.cell? ⟨g, 3, none⟩ = some (.int .i64 k) := HS18.out.cell 1 3 rfl rfl
  have c1_4 : w18.cell? ⟨g, 4, none⟩ = some (.int .i64 0) := HS18.out.cell 1 4 rfl rfl
  have c1_5 : w18.cell? ⟨g, 5, none⟩ = some (.int .i64 0) := HS18.out.cell 1 5 rfl rfl
  have c1_6 : w18.cell? ⟨g, 6, none⟩ = some (.int .i64 0) := HS18.out.cell 1 6 rfl rfl
  have c2_0 : w18.cell? ⟨gm, 0, none⟩ = some (.int .i64 r) := HS18.out.cell 2 0 rfl rfl
  have c2_1 : w18.cell? ⟨gm, 1, none⟩ = some (.int .i64 og) := HS18.out.cell 2 1 rfl rfl
  have c2_2 : w18.cell? ⟨gm, 2, none⟩ = some (.int .i64 rt) := HS18.out.cell 2 2 rfl rfl
  have c2_3 : w18.cell? ⟨gm, 3, none⟩ = some (.int .i64 (k + x)) := HS18.out.cell 2 3 rfl rfl
  have c2_4 : w18.cell? ⟨gm, 4, none⟩ = some (.int .i64 0) := HS18.out.cell 2 4 rfl rfl
  have c2_5 : w18.cell? ⟨gm, 5, none⟩ = some (.int .i64 0) := HS18.out.cell 2 5 rfl rfl
  have c2_6 : w18.cell? ⟨gm, 6, none⟩ = some (.int .i64 0) := HS18.out.cell 2 6 rfl rfl
  go_wp2
  go_ret
  exact ⟨rfl, HS18.out.bel⟩

end Go.Proofs.Ytllbpjaiplnbnaa

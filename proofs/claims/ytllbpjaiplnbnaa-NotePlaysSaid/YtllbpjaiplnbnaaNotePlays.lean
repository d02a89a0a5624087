import Derived.Test.YtllbpjaiplnbnaaNoteRuns
import Derived.Test.YtllbpjaiplnbnaaEqs
namespace Go.Proofs.Ytllbpjaiplnbnaa
open Go.RowKit
set_option linter.unusedVariables false
set_option linter.unusedSimpArgs false
attribute [local go_sem high] eq_terms
attribute [local go_sem] bmax2 bmin2 bmax_two bmin_two bmax_three bmin_three
set_option maxHeartbeats 4000000 in
set_option maxRecDepth 100000 in
theorem notePlays_walk (r0 o0 t0 : Int) (A1 : Option Addr) (n1 c1 : Nat) (z1 : List (Int × Int)) (w : World) (h0 : (-9223372036854775808 ≤ r0 ∧ r0 ≤ 9223372036854775807) ∧ (-9223372036854775808 ≤ o0 ∧ o0 ≤ 9223372036854775807) ∧ -9223372036854775808 ≤ t0 ∧ t0 ≤ 9223372036854775807) (h1 : Pairs w A1 n1 z1) :
    Calls Try.prog 8 #[.agg #[.int .i64 r0, .int .i64 o0, .int .i64 t0], .slice A1 n1 c1] w fun e w' => e = .returned (.bool true) ∧ Below w.heap.size w w' := by
  obtain ⟨⟨lr0, lr1⟩, ⟨lo0, lo1⟩, lt0, lt1⟩ := h0
  obtain ⟨og, hog⟩ : ∃ v, v = within o0 0 1099511627776 := ⟨_, rfl⟩
  obtain ⟨bog0, bog1⟩ : 0 ≤ og ∧ og ≤ 1099511627776 := by rw [hog]; exact within_bd o0 (by omega)
  have Eog := Lib.hid hog
  clear hog
  obtain ⟨r, hr⟩ : ∃ v, v = within r0 0 7 := ⟨_, rfl⟩
  obtain ⟨br0, br1⟩ : 0 ≤ r ∧ r ≤ 7 := by rw [hr]; exact within_bd r0 (by omega)
  have Er := Lib.hid hr
  clear hr
  obtain ⟨rt, hrt⟩ : ∃ v, v = within t0 0 5000 := ⟨_, rfl⟩
  obtain ⟨brt0, brt1⟩ : 0 ≤ rt ∧ rt ≤ 5000 := by rw [hrt]; exact within_bd t0 (by omega)
  have Ert := Lib.hid hrt
  clear hrt
  have N1 := h1.most
  have H1 := Lib.hid h1
  clear h1
  have HS0 := Lib.hid (Sts.nil w)
  go_enter Try.func8, Try.ntmps8
  go_upto_region 1 with fail
  have HS1 := Lib.hid ((HS0.out.add (g := w.heap.size) (by simp) #[.int .i64 r0, .int .i64 o0, .int .i64 t0] 23).lit (L' := [(w.heap.size, #[.int .i64 r0, .int .i64 o0, .int .i64 t0], 23)]) rfl)
  clear HS0
  generalize w.heap.size = gt at *
  generalize (w.alloc (.cells #[.int .i64 r0, .int .i64 o0, .int .i64 t0] 23)) = v1 at *
  have c0_0 : v1.cell? ⟨gt, 0, none⟩ = some (.int .i64 r0) := HS1.out.cell 0 0 rfl rfl
  have f0_0 := HS1.out.frozen 0 0 rfl
  have c0_1 : v1.cell? ⟨gt, 1, none⟩ = some (.int .i64 o0) := HS1.out.cell 0 1 rfl rfl
  have f0_1 := HS1.out.frozen 0 1 rfl
  have c0_2 : v1.cell? ⟨gt, 2, none⟩ = some (.int .i64 t0) := HS1.out.cell 0 2 rfl rfl
  have f0_2 := HS1.out.frozen 0 2 rfl
  clear c0_0 f0_0 c0_1 f0_1 c0_2 f0_2
  refine wp_region_seg (by kernel_rfl) ?_
  have HS2 := Lib.hid ((HS1.out.drew : Sts w [(gt, #[.int .i64 r0, .int .i64 o0, .int .i64 t0], 23)] v1.drew))
  clear HS1
  refine seg_next 0 10 (by kernel_rfl) HS2.out ?_
  simp only [List.drop_succ_cons, List.drop_zero, List.take_succ_cons, List.take_zero, List.drop_nil, List.take_nil]
  have hne : Nonempty (Later w [(gt, #[.int .i64 r0, .int .i64 o0, .int .i64 t0], 23)]) := ⟨⟨_, HS2.out⟩⟩
  have q0_0 : ∀ p : Later w [(gt, #[.int .i64 r0, .int .i64 o0, .int .i64 t0], 23)], p.val.cell? ⟨gt, 0, none⟩ = some (.int .i64 r0) := fun p => p.property.cell 0 0 rfl rfl
  have q0_1 : ∀ p : Later w [(gt, #[.int .i64 r0, .int .i64 o0, .int .i64 t0], 23)], p.val.cell? ⟨gt, 1, none⟩ = some (.int .i64 o0) := fun p => p.property.cell 0 1 rfl rfl
  have q0_2 : ∀ p : Later w [(gt, #[.int .i64 r0, .int .i64 o0, .int .i64 t0], 23)], p.val.cell? ⟨gt, 2, none⟩ = some (.int .i64 t0) := fun p => p.property.cell 0 2 rfl rfl
  repeat (go_big_quiet_step (first | (go_at_call 20; exact Goes.quiet (within_s _ _ _ (Later.property _) (by omega) (by omega) (by omega)))))
  clear hne q0_0 q0_1 q0_2
  refine wpQuiet_nil ?_
  rintro w3 ⟨⟨_, hs⟩, rfl⟩
  have HS3 := Lib.hid hs
  clear hs HS2
  rw [← Eog.out, ← Er.out, ← Ert.out]
  have c0_0 : w3.cell? ⟨gt, 0, none⟩ = some (.int .i64 r0) := HS3.out.cell 0 0 rfl rfl
  have f0_0 := HS3.out.frozen 0 0 rfl
  have c0_1 : w3.cell? ⟨gt, 1, none⟩ = some (.int .i64 o0) := HS3.out.cell 0 1 rfl rfl
  have f0_1 := HS3.out.frozen 0 1 rfl
  have c0_2 : w3.cell? ⟨gt, 2, none⟩ = some (.int .i64 t0) := HS3.out.cell 0 2 rfl rfl
  have f0_2 := HS3.out.frozen 0 2 rfl
  go_wp2_with fail
  clear c0_0 f0_0 c0_1 f0_1 c0_2 f0_2
  have HS4 := Lib.hid (((HS3.out.set 0 1 (.int .i64 og) rfl).lit rfl : Sts w [(gt, #[.int .i64 r0, .int .i64 og, .int .i64 t0], 23)] _))
  clear HS3
  refine seg_in ?_
  refine seg_next 11 1 (by kernel_rfl) HS4.out ?_
  simp only [List.drop_succ_cons, List.drop_zero, List.take_succ_cons, List.take_zero, List.drop_nil, List.take_nil]
  have hne : Nonempty (Later w [(gt, #[.int .i64 r0, .int .i64 og, .int .i64 t0], 23)]) := ⟨⟨_, HS4.out⟩⟩
  have q0_0 : ∀ p : Later w [(gt, #[.int .i64 r0, .int .i64 og, .int .i64 t0], 23)], p.val.cell? ⟨gt, 0, none⟩ = some (.int .i64 r0) := fun p => p.property.cell 0 0 rfl rfl
  have q0_1 : ∀ p : Later w [(gt, #[.int .i64 r0, .int .i64 og, .int .i64 t0], 23)], p.val.cell? ⟨gt, 1, none⟩ = some (.int .i64 og) := fun p => p.property.cell 0 1 rfl rfl
  have q0_2 : ∀ p : Later w [(gt, #[.int .i64 r0, .int .i64 og, .int .i64 t0], 23)], p.val.cell? ⟨gt, 2, none⟩ = some (.int .i64 t0) := fun p => p.property.cell 0 2 rfl rfl
  repeat (go_big_quiet_step (first | fail))
  clear hne q0_0 q0_1 q0_2
  refine wpQuiet_nil ?_
  rintro w5 ⟨⟨_, hs⟩, rfl⟩
  have HS5 := Lib.hid hs
  clear hs HS4
  have c0_0 : w5.cell? ⟨gt, 0, none⟩ = some (.int .i64 r0) := HS5.out.cell 0 0 rfl rfl
  have f0_0 := HS5.out.frozen 0 0 rfl
  have c0_1 : w5.cell? ⟨gt, 1, none⟩ = some (.int .i64 og) := HS5.out.cell 0 1 rfl rfl
  have f0_1 := HS5.out.frozen 0 1 rfl
  have c0_2 : w5.cell? ⟨gt, 2, none⟩ = some (.int .i64 t0) := HS5.out.cell 0 2 rfl rfl
  have f0_2 := HS5.out.frozen 0 2 rfl
  go_wp2_with fail
  clear c0_0 f0_0 c0_1 f0_1 c0_2 f0_2
  have HS6 := Lib.hid (((HS5.out.set 0 0 (.int .i64 r) rfl).lit rfl : Sts w [(gt, #[.int .i64 r, .int .i64 og, .int .i64 t0], 23)] _))
  clear HS5
  refine seg_in ?_
  refine seg_next 13 1 (by kernel_rfl) HS6.out ?_
  simp only [List.drop_succ_cons, List.drop_zero, List.take_succ_cons, List.take_zero, List.drop_nil, List.take_nil]
  have hne : Nonempty (Later w [(gt, #[.int .i64 r, .int .i64 og, .int .i64 t0], 23)]) := ⟨⟨_, HS6.out⟩⟩
  have q0_0 : ∀ p : Later w [(gt, #[.int .i64 r, .int .i64 og, .int .i64 t0], 23)], p.val.cell? ⟨gt, 0, none⟩ = some (.int .i64 r) := fun p => p.property.cell 0 0 rfl rfl
  have q0_1 : ∀ p : Later w [(gt, #[.int .i64 r, .int .i64 og, .int .i64 t0], 23)], p.val.cell? ⟨gt, 1, none⟩ = some (.int .i64 og) := fun p => p.property.cell 0 1 rfl rfl
  have q0_2 : ∀ p : Later w [(gt, #[.int .i64 r, .int .i64 og, .int .i64 t0], 23)], p.val.cell? ⟨gt, 2, none⟩ = some (.int .i64 t0) := fun p => p.property.cell 0 2 rfl rfl
  repeat (go_big_quiet_step (first | fail))
  clear hne q0_0 q0_1 q0_2
  refine wpQuiet_nil ?_
  rintro w7 ⟨⟨_, hs⟩, rfl⟩
  have HS7 := Lib.hid hs
  clear hs HS6
  have c0_0 : w7.cell? ⟨gt, 0, none⟩ = some (.int .i64 r) := HS7.out.cell 0 0 rfl rfl
  have f0_0 := HS7.out.frozen 0 0 rfl
  have c0_1 : w7.cell? ⟨gt, 1, none⟩ = some (.int .i64 og) := HS7.out.cell 0 1 rfl rfl
  have f0_1 := HS7.out.frozen 0 1 rfl
  have c0_2 : w7.cell? ⟨gt, 2, none⟩ = some (.int .i64 t0) := HS7.out.cell 0 2 rfl rfl
  have f0_2 := HS7.out.frozen 0 2 rfl
  go_wp2_with fail
  clear c0_0 f0_0 c0_1 f0_1 c0_2 f0_2
  have HS8 := Lib.hid (((HS7.out.set 0 2 (.int .i64 rt) rfl).lit rfl : Sts w [(gt, #[.int .i64 r, .int .i64 og, .int .i64 rt], 23)] _))
  clear HS7
  refine seg_in ?_
  refine seg_done (by kernel_rfl) ?_
  generalize w7.setCell ⟨gt, 2, none⟩ (.int .i64 rt) = wz at *
  have c0_0 : wz.cell? ⟨gt, 0, none⟩ = some (.int .i64 r) := HS8.out.cell 0 0 rfl rfl
  have c0_1 : wz.cell? ⟨gt, 1, none⟩ = some (.int .i64 og) := HS8.out.cell 0 1 rfl rfl
  have c0_2 : wz.cell? ⟨gt, 2, none⟩ = some (.int .i64 rt) := HS8.out.cell 0 2 rfl rfl
  go_wp2_with fail
  clear c0_0 c0_1 c0_2
  refine (new_s r og rt HS8.out).mono ?_
  rintro e w9 ⟨rfl, hs⟩
  have HS9 := Lib.hid ((hs.lit rfl : Sts w [(gt, #[.int .i64 r, .int .i64 og, .int .i64 rt], 23)] w9))
  clear HS8
  clear hs
  have c0_0 : w9.cell? ⟨gt, 0, none⟩ = some (.int .i64 r) := HS9.out.cell 0 0 rfl rfl
  have c0_1 : w9.cell? ⟨gt, 1, none⟩ = some (.int .i64 og) := HS9.out.cell 0 1 rfl rfl
  have c0_2 : w9.cell? ⟨gt, 2, none⟩ = some (.int .i64 rt) := HS9.out.cell 0 2 rfl rfl
  go_upto_block 0 with fail
  clear c0_0 c0_1 c0_2
  have HS10 := Lib.hid ((HS9.out.add (g := w9.heap.size) (by simp) #[.int .i64 r, .int .i64 og, .int .i64 rt, .int .i64 0, .int .i64 0, .int .i64 0, .int .i64 0] 27).lit (L' := [(gt, #[.int .i64 r, .int .i64 og, .int .i64 rt], 23), (w9.heap.size, #[.int .i64 r, .int .i64 og, .int .i64 rt, .int .i64 0, .int .i64 0, .int .i64 0, .int .i64 0], 27)]) rfl)
  clear HS9
  generalize w9.heap.size = g at *
  generalize (w9.alloc (.cells #[.int .i64 r, .int .i64 og, .int .i64 rt, .int .i64 0, .int .i64 0, .int .i64 0, .int .i64 0] 27)) = v10 at *
  go_wp2_with fail
  go_loopw [6, 7, 8, 9] (fun v6 v7 v8 v9 wr => ∃ (n : Nat) (a b s : Int), v6 = .int .i64 a ∧ v7 = .int .i64 b ∧ v8 = .int .i64 s ∧ v9 = .int .i64 n ∧ n ≤ 30 ∧ 0 ≤ a ∧ 0 ≤ b ∧ a + b ≤ og ∧ 0 ≤ s ∧ s ≤ 1152921504606846976 ∧ Hid (Sts w [(gt, #[.int .i64 r, .int .i64 og, .int .i64 rt], 23), (g, #[.int .i64 r, .int .i64 og, .int .i64 rt, .int .i64 a, .int .i64 0, .int .i64 s, .int .i64 b], 27)] wr)) (fun _ _ _ v9 _ => 30 - (intOf v9).toNat)
  case atStart => exact ⟨0, 0, 0, 0, rfl, rfl, rfl, rfl, by omega, by omega, by omega, by omega, by omega, by omega, HS10⟩
  case round =>
    obtain ⟨n, a, b, s, rfl, rfl, rfl, rfl, hn, ha0, hb0, hab, hs0, hs1, HSr⟩ := hrel
    clear HS10
    by_cases q1 : n < n1 ∧ n < 30
    · obtain ⟨q2, q3⟩ := q1
      obtain ⟨ad, hA, hc, hd⟩ := H1.out.at_ n q2
      obtain ⟨⟨kb0, kb1⟩, nb0, nb1⟩ := H1.out.bd _ (getD_mem (d := (0, 0)) (by rw [H1.out.length]; exact q2))
      have hcell := HSr.out.old hc
      have hcell2 := HSr.out.old hd
      clear hc hd
      generalize (z1.getD n (0, 0)).1 = K at hcell kb0 kb1
      generalize (z1.getD n (0, 0)).2 = N at hcell2 nb0 nb1
      obtain rfl := hA
      go_upto_region 9 with fail
      have HS31 := Lib.hid ((HSr.out.add (g := wr.heap.size) (by simp) #[.int .i64 K, .int .i64 N] 42).lit (L' := [(gt, #[.int .i64 r, .int .i64 og, .int .i64 rt], 23), (g, #[.int .i64 r, .int .i64 og, .int .i64 rt, .int .i64 a, .int .i64 0, .int .i64 s, .int .i64 b], 27), (wr.heap.size, #[.int .i64 K, .int .i64 N], 42)]) rfl)
      clear HSr
      generalize wr.heap.size = ga at *
      generalize (wr.alloc (.cells #[.int .i64 K, .int .i64 N] 42)) = v31 at *
      have c0_0 : v31.cell? ⟨gt, 0, none⟩ = some (.int .i64 r) := HS31.out.cell 0 0 rfl rfl
      have c0_1 : v31.cell? ⟨gt, 1, none⟩ = some (.int .i64 og) := HS31.out.cell 0 1 rfl rfl
      have c0_2 : v31.cell? ⟨gt, 2, none⟩ = some (.int .i64 rt) := HS31.out.cell 0 2 rfl rfl
      have c1_0 : v31.cell? ⟨g, 0, none⟩ = some (.int .i64 r) := HS31.out.cell 1 0 rfl rfl
      have c1_1 : v31.cell? ⟨g, 1, none⟩ = some (.int .i64 og) := HS31.out.cell 1 1 rfl rfl
      have c1_2 : v31.cell? ⟨g, 2, none⟩ = some (.int .i64 rt) := HS31.out.cell 1 2 rfl rfl
      have c1_3 : v31.cell? ⟨g, 3, none⟩ = some (.int .i64 a) := HS31.out.cell 1 3 rfl rfl
      have c1_4 : v31.cell? ⟨g, 4, none⟩ = some (.int .i64 0) := HS31.out.cell 1 4 rfl rfl
      have c1_5 : v31.cell? ⟨g, 5, none⟩ = some (.int .i64 s) := HS31.out.cell 1 5 rfl rfl
      have c1_6 : v31.cell? ⟨g, 6, none⟩ = some (.int .i64 b) := HS31.out.cell 1 6 rfl rfl
      have c2_0 : v31.cell? ⟨ga, 0, none⟩ = some (.int .i64 K) := HS31.out.cell 2 0 rfl rfl
      have c2_1 : v31.cell? ⟨ga, 1, none⟩ = some (.int .i64 N) := HS31.out.cell 2 1 rfl rfl
      go_upto_block 2 with fail
      clear c0_0 c0_1 c0_2 c1_0 c1_1 c1_2 c1_3 c1_4 c1_5 c1_6 c2_0 c2_1
      obtain ⟨v1, hv1⟩ : ∃ v, v = min (max N 0) (og - a - b) := ⟨_, rfl⟩
      have xv1 : 0 ≤ v1 := by rw [hv1]; omega
      obtain ⟨v3, hv3⟩ : ∃ v, v = min (max N 0) b := ⟨_, rfl⟩
      have xv3 : 0 ≤ v3 := by rw [hv3]; omega
      obtain ⟨v5, hv5⟩ : ∃ v, v = min (max N 0) s := ⟨_, rfl⟩
      have xv5 : 0 ≤ v5 := by rw [hv5]; omega
      have y1 : v1 ≤ og - a - b := by rw [hv1]; omega
      have y3 : v3 ≤ b := by rw [hv3]; omega
      have y5 : v5 ≤ s := by rw [hv5]; omega
      have Ev1 := Lib.hid hv1
      clear hv1
      have Ev3 := Lib.hid hv3
      clear hv3
      have Ev5 := Lib.hid hv5
      clear hv5
      by_cases k1 : ((K : Int) == 1) = true
      · as_aux_lemma =>
          have c0_0 : v31.cell? ⟨gt, 0, none⟩ = some (.int .i64 r) := HS31.out.cell 0 0 rfl rfl
          have c0_1 : v31.cell? ⟨gt, 1, none⟩ = some (.int .i64 og) := HS31.out.cell 0 1 rfl rfl
          have c0_2 : v31.cell? ⟨gt, 2, none⟩ = some (.int .i64 rt) := HS31.out.cell 0 2 rfl rfl
          have c1_0 : v31.cell? ⟨g, 0, none⟩ = some (.int .i64 r) := HS31.out.cell 1 0 rfl rfl
          have c1_1 : v31.cell? ⟨g, 1, none⟩ = some (.int .i64 og) := HS31.out.cell 1 1 rfl rfl
          have c1_2 : v31.cell? ⟨g, 2, none⟩ = some (.int .i64 rt) := HS31.out.cell 1 2 rfl rfl
          have c1_3 : v31.cell? ⟨g, 3, none⟩ = some (.int .i64 a) := HS31.out.cell 1 3 rfl rfl
          have c1_4 : v31.cell? ⟨g, 4, none⟩ = some (.int .i64 0) := HS31.out.cell 1 4 rfl rfl
          have c1_5 : v31.cell? ⟨g, 5, none⟩ = some (.int .i64 s) := HS31.out.cell 1 5 rfl rfl
          have c1_6 : v31.cell? ⟨g, 6, none⟩ = some (.int .i64 b) := HS31.out.cell 1 6 rfl rfl
          have c2_0 : v31.cell? ⟨ga, 0, none⟩ = some (.int .i64 K) := HS31.out.cell 2 0 rfl rfl
          have c2_1 : v31.cell? ⟨ga, 1, none⟩ = some (.int .i64 N) := HS31.out.cell 2 1 rfl rfl
          go_wp2_with fail
          clear c0_0 c0_1 c0_2 c1_0 c1_1 c1_2 c1_3 c1_4 c1_5 c1_6 c2_0 c2_1
          refine (pay_s v1 r og rt a 0 s b N 1 HS31.out rfl ⟨by omega, by omega, by omega, by omega, by omega, by omega, by omega, by omega, by omega⟩ (by omega) (by omega) (by rw [Ev1.out]; unfold wi; omega)).mono ?_
          rintro e w32 ⟨rfl, hs⟩
          have HS32 := Lib.hid ((hs.lit rfl : Sts w [(gt, #[.int .i64 r, .int .i64 og, .int .i64 rt], 23), (g, #[.int .i64 r, .int .i64 og, .int .i64 rt, .int .i64 (a + v1), .int .i64 0, .int .i64 s, .int .i64 b], 27), (ga, #[.int .i64 K, .int .i64 N], 42)] w32))
          clear HS31
          clear hs
          have c0_0 : w32.cell? ⟨gt, 0, none⟩ = some (.int .i64 r) := HS32.out.cell 0 0 rfl rfl
          have c0_1 : w32.cell? ⟨gt, 1, none⟩ = some (.int .i64 og) := HS32.out.cell 0 1 rfl rfl
          have c0_2 : w32.cell? ⟨gt, 2, none⟩ = some (.int .i64 rt) := HS32.out.cell 0 2 rfl rfl
          have c1_0 : w32.cell? ⟨g, 0, none⟩ = some (.int .i64 r) := HS32.out.cell 1 0 rfl rfl
          have c1_1 : w32.cell? ⟨g, 1, none⟩ = some (.int .i64 og) := HS32.out.cell 1 1 rfl rfl
          have c1_2 : w32.cell? ⟨g, 2, none⟩ = some (.int .i64 rt) := HS32.out.cell 1 2 rfl rfl
          have c1_3 : w32.cell? ⟨g, 3, none⟩ = some (.int .i64 (a + v1)) := HS32.out.cell 1 3 rfl rfl
          have c1_4 : w32.cell? ⟨g, 4, none⟩ = some (.int .i64 0) := HS32.out.cell 1 4 rfl rfl
          have c1_5 : w32.cell? ⟨g, 5, none⟩ = some (.int .i64 s) := HS32.out.cell 1 5 rfl rfl
          have c1_6 : w32.cell? ⟨g, 6, none⟩ = some (.int .i64 b) := HS32.out.cell 1 6 rfl rfl
          have c2_0 : w32.cell? ⟨ga, 0, none⟩ = some (.int .i64 K) := HS32.out.cell 2 0 rfl rfl
          have c2_1 : w32.cell? ⟨ga, 1, none⟩ = some (.int .i64 N) := HS32.out.cell 2 1 rfl rfl
          have ne : ((v1 : Int) != min (max N 0) (og - a - b)) = false := by rw [bne_eq_false_iff_eq, Ev1.out]
          go_upto_region 33 with fail
          clear ne
          rw [← Ev1.out]
          clear c0_0 c0_1 c0_2 c1_0 c1_1 c1_2 c1_3 c1_4 c1_5 c1_6 c2_0 c2_1
          refine wp_region_sts HS32.out (by kernel_rfl) (by kernel_rfl) ?_
          have hne : Nonempty (Later w [(gt, #[.int .i64 r, .int .i64 og, .int .i64 rt], 23), (g, #[.int .i64 r, .int .i64 og, .int .i64 rt, .int .i64 (a + v1), .int .i64 0, .int .i64 s, .int .i64 b], 27), (ga, #[.int .i64 K, .int .i64 N], 42)]) := ⟨⟨_, HS32.out⟩⟩
          have q0_0 : ∀ p : Later w [(gt, #[.int .i64 r, .int .i64 og, .int .i64 rt], 23), (g, #[.int .i64 r, .int .i64 og, .int .i64 rt, .int .i64 (a + v1), .int .i64 0, .int .i64 s, .int .i64 b], 27), (ga, #[.int .i64 K, .int .i64 N], 42)], p.val.cell? ⟨gt, 0, none⟩ = some (.int .i64 r) := fun p => p.property.cell 0 0 rfl rfl
          have q0_1 : ∀ p : Later w [(gt, #[.int .i64 r, .int .i64 og, .int .i64 rt], 23), (g, #[.int .i64 r, .int .i64 og, .int .i64 rt, .int .i64 (a + v1), .int .i64 0, .int .i64 s, .int .i64 b], 27), (ga, #[.int .i64 K, .int .i64 N], 42)], p.val.cell? ⟨gt, 1, none⟩ = some (.int .i64 og) := fun p => p.property.cell 0 1 rfl rfl
          have q0_2 : ∀ p : Later w [(gt, #[.int .i64 r, .int .i64 og, .int .i64 rt], 23), (g, #[.int .i64 r, .int .i64 og, .int .i64 rt, .int .i64 (a + v1), .int .i64 0, .int .i64 s, .int .i64 b], 27), (ga, #[.int .i64 K, .int .i64 N], 42)], p.val.cell? ⟨gt, 2, none⟩ = some (.int .i64 rt) := fun p => p.property.cell 0 2 rfl rfl
          have q1_0 : ∀ p : Later w [(gt, #[.int .i64 r, .int .i64 og, .int .i64 rt], 23), (g, #[.int .i64 r, .int .i64 og, .int .i64 rt, .int .i64 (a + v1), .int .i64 0, .int .i64 s, .int .i64 b], 27), (ga, #[.int .i64 K, .int .i64 N], 42)], p.val.cell? ⟨g, 0, none⟩ = some (.int .i64 r) := fun p => p.property.cell 1 0 rfl rfl
          have q1_1 : ∀ p : Later w [(gt, #[.int .i64 r, .int .i64 og, .int .i64 rt], 23), (g, #[.int .i64 r, .int .i64 og, .int .i64 rt, .int .i64 (a + v1), .int .i64 0, .int .i64 s, .int .i64 b], 27), (ga, #[.int .i64 K, .int .i64 N], 42)], p.val.cell? ⟨g, 1, none⟩ = some (.int .i64 og) := fun p => p.property.cell 1 1 rfl rfl
          have q1_2 : ∀ p : Later w [(gt, #[.int .i64 r, .int .i64 og, .int .i64 rt], 23), (g, #[.int .i64 r, .int .i64 og, .int .i64 rt, .int .i64 (a + v1), .int .i64 0, .int .i64 s, .int .i64 b], 27), (ga, #[.int .i64 K, .int .i64 N], 42)], p.val.cell? ⟨g, 2, none⟩ = some (.int .i64 rt) := fun p => p.property.cell 1 2 rfl rfl
          have q1_3 : ∀ p : Later w [(gt, #[.int .i64 r, .int .i64 og, .int .i64 rt], 23), (g, #[.int .i64 r, .int .i64 og, .int .i64 rt, .int .i64 (a + v1), .int .i64 0, .int .i64 s, .int .i64 b], 27), (ga, #[.int .i64 K, .int .i64 N], 42)], p.val.cell? ⟨g, 3, none⟩ = some (.int .i64 (a + v1)) := fun p => p.property.cell 1 3 rfl rfl
          have q1_4 : ∀ p : Later w [(gt, #[.int .i64 r, .int .i64 og, .int .i64 rt], 23), (g, #[.int .i64 r, .int .i64 og, .int .i64 rt, .int .i64 (a + v1), .int .i64 0, .int .i64 s, .int .i64 b], 27), (ga, #[.int .i64 K, .int .i64 N], 42)], p.val.cell? ⟨g, 4, none⟩ = some (.int .i64 0) := fun p => p.property.cell 1 4 rfl rfl
          have q1_5 : ∀ p : Later w [(gt, #[.int .i64 r, .int .i64 og, .int .i64 rt], 23), (g, #[.int .i64 r, .int .i64 og, .int .i64 rt, .int .i64 (a + v1), .int .i64 0, .int .i64 s, .int .i64 b], 27), (ga, #[.int .i64 K, .int .i64 N], 42)], p.val.cell? ⟨g, 5, none⟩ = some (.int .i64 s) := fun p => p.property.cell 1 5 rfl rfl
          have q1_6 : ∀ p : Later w [(gt, #[.int .i64 r, .int .i64 og, .int .i64 rt], 23), (g, #[.int .i64 r, .int .i64 og, .int .i64 rt, .int .i64 (a + v1), .int .i64 0, .int .i64 s, .int .i64 b], 27), (ga, #[.int .i64 K, .int .i64 N], 42)], p.val.cell? ⟨g, 6, none⟩ = some (.int .i64 b) := fun p => p.property.cell 1 6 rfl rfl
          have q2_0 : ∀ p : Later w [(gt, #[.int .i64 r, .int .i64 og, .int .i64 rt], 23), (g, #[.int .i64 r, .int .i64 og, .int .i64 rt, .int .i64 (a + v1), .int .i64 0, .int .i64 s, .int .i64 b], 27), (ga, #[.int .i64 K, .int .i64 N], 42)], p.val.cell? ⟨ga, 0, none⟩ = some (.int .i64 K) := fun p => p.property.cell 2 0 rfl rfl
          have q2_1 : ∀ p : Later w [(gt, #[.int .i64 r, .int .i64 og, .int .i64 rt], 23), (g, #[.int .i64 r, .int .i64 og, .int .i64 rt, .int .i64 (a + v1), .int .i64 0, .int .i64 s, .int .i64 b], 27), (ga, #[.int .i64 K, .int .i64 N], 42)], p.val.cell? ⟨ga, 1, none⟩ = some (.int .i64 N) := fun p => p.property.cell 2 1 rfl rfl
          repeat (go_big_quiet_step (first | (go_at_call 19; exact Goes.quiet (nright_s true _ _ _ _ _ _ _ (Later.property _) (by omega) (by omega) (by omega) (by omega) (by omega) (by omega) (by omega) (by omega) (by omega) (decide_eq_true (by omega)))) | (go_at_call 17; exact Goes.quiet (balance_s _ _ _ _ _ _ _ _ (Later.property _) ⟨by omega, by omega, by omega, by omega, by omega, by omega, by omega, by omega, by omega⟩ rfl)) | (go_at_call 18; exact Goes.quiet (has_s _ _ _ (Later.property _) (by omega) (by omega) (by omega) rfl)) | (go_at_call 26; exact Goes.quiet (in_s _ _ (Later.property _))) | (go_at_call 27; exact Goes.quiet (out_s _ _ (Later.property _)))))
          clear hne q0_0 q0_1 q0_2 q1_0 q1_1 q1_2 q1_3 q1_4 q1_5 q1_6 q2_0 q2_1
          refine wpQuiet_nil ?_
          rintro w33 ⟨⟨_, hs⟩, rfl⟩
          have HS33 := Lib.hid hs
          clear hs HS32
          have c0_0 : w33.cell? ⟨gt, 0, none⟩ = some (.int .i64 r) := HS33.out.cell 0 0 rfl rfl
          have c0_1 : w33.cell? ⟨gt, 1, none⟩ = some (.int .i64 og) := HS33.out.cell 0 1 rfl rfl
          have c0_2 : w33.cell? ⟨gt, 2, none⟩ = some (.int .i64 rt) := HS33.out.cell 0 2 rfl rfl
          have c1_0 : w33.cell? ⟨g, 0, none⟩ = some (.int .i64 r) := HS33.out.cell 1 0 rfl rfl
          have c1_1 : w33.cell? ⟨g, 1, none⟩ = some (.int .i64 og) := HS33.out.cell 1 1 rfl rfl
          have c1_2 : w33.cell? ⟨g, 2, none⟩ = some (.int .i64 rt) := HS33.out.cell 1 2 rfl rfl
          have c1_3 : w33.cell? ⟨g, 3, none⟩ = some (.int .i64 (a + v1)) := HS33.out.cell 1 3 rfl rfl
          have c1_4 : w33.cell? ⟨g, 4, none⟩ = some (.int .i64 0) := HS33.out.cell 1 4 rfl rfl
          have c1_5 : w33.cell? ⟨g, 5, none⟩ = some (.int .i64 s) := HS33.out.cell 1 5 rfl rfl
          have c1_6 : w33.cell? ⟨g, 6, none⟩ = some (.int .i64 b) := HS33.out.cell 1 6 rfl rfl
          have c2_0 : w33.cell? ⟨ga, 0, none⟩ = some (.int .i64 K) := HS33.out.cell 2 0 rfl rfl
          have c2_1 : w33.cell? ⟨ga, 1, none⟩ = some (.int .i64 N) := HS33.out.cell 2 1 rfl rfl
          clear c0_0 c0_1 c0_2 c1_0 c1_1 c1_2 c1_3 c1_4 c1_5 c1_6 c2_0 c2_1
          go_wp2_with fail
          go_roundw
          case rel => exact ⟨n + 1, (a + v1), b, s, rfl, rfl, rfl, by go_num, by omega, by omega, by omega, by omega, by omega, by omega, Lib.hid ((HS33.out.take 2).lit rfl)⟩
          case measure => simp [intOf]; omega
      replace k1 := Bool.eq_false_iff.2 k1
      by_cases k2 : ((K : Int) == 2) = true
      · as_aux_lemma =>
          have c0_0 : v31.cell? ⟨gt, 0, none⟩ = some (.int .i64 r) := HS31.out.cell 0 0 rfl rfl
          have c0_1 : v31.cell? ⟨gt, 1, none⟩ = some (.int .i64 og) := HS31.out.cell 0 1 rfl rfl
          have c0_2 : v31.cell? ⟨gt, 2, none⟩ = some (.int .i64 rt) := HS31.out.cell 0 2 rfl rfl
          have c1_0 : v31.cell? ⟨g, 0, none⟩ = some (.int .i64 r) := HS31.out.cell 1 0 rfl rfl
          have c1_1 : v31.cell? ⟨g, 1, none⟩ = some (.int .i64 og) := HS31.out.cell 1 1 rfl rfl
          have c1_2 : v31.cell? ⟨g, 2, none⟩ = some (.int .i64 rt) := HS31.out.cell 1 2 rfl rfl
          have c1_3 : v31.cell? ⟨g, 3, none⟩ = some (.int .i64 a) := HS31.out.cell 1 3 rfl rfl
          have c1_4 : v31.cell? ⟨g, 4, none⟩ = some (.int .i64 0) := HS31.out.cell 1 4 rfl rfl
          have c1_5 : v31.cell? ⟨g, 5, none⟩ = some (.int .i64 s) := HS31.out.cell 1 5 rfl rfl
          have c1_6 : v31.cell? ⟨g, 6, none⟩ = some (.int .i64 b) := HS31.out.cell 1 6 rfl rfl
          have c2_0 : v31.cell? ⟨ga, 0, none⟩ = some (.int .i64 K) := HS31.out.cell 2 0 rfl rfl
          have c2_1 : v31.cell? ⟨ga, 1, none⟩ = some (.int .i64 N) := HS31.out.cell 2 1 rfl rfl
          go_wp2_with fail
          clear c0_0 c0_1 c0_2 c1_0 c1_1 c1_2 c1_3 c1_4 c1_5 c1_6 c2_0 c2_1
          refine (write_s v1 r og rt a 0 s b N 1 HS31.out rfl ⟨by omega, by omega, by omega, by omega, by omega, by omega, by omega, by omega, by omega⟩ (by omega) (by omega) (by rw [Ev1.out]; unfold wi; omega)).mono ?_
          rintro e w32 ⟨rfl, hs⟩
          have HS32 := Lib.hid ((hs.lit rfl : Sts w [(gt, #[.int .i64 r, .int .i64 og, .int .i64 rt], 23), (g, #[.int .i64 r, .int .i64 og, .int .i64 rt, .int .i64 a, .int .i64 0, .int .i64 s, .int .i64 (b + v1)], 27), (ga, #[.int .i64 K, .int .i64 N], 42)] w32))
          clear HS31
          clear hs
          have c0_0 : w32.cell? ⟨gt, 0, none⟩ = some (.int .i64 r) := HS32.out.cell 0 0 rfl rfl
          have c0_1 : w32.cell? ⟨gt, 1, none⟩ = some (.int .i64 og) := HS32.out.cell 0 1 rfl rfl
          have c0_2 : w32.cell? ⟨gt, 2, none⟩ = some (.int .i64 rt) := HS32.out.cell 0 2 rfl rfl
          have c1_0 : w32.cell? ⟨g, 0, none⟩ = some (.int .i64 r) := HS32.out.cell 1 0 rfl rfl
          have c1_1 : w32.cell? ⟨g, 1, none⟩ = some (.int .i64 og) := HS32.out.cell 1 1 rfl rfl
          have c1_2 : w32.cell? ⟨g, 2, none⟩ = some (.int .i64 rt) := HS32.out.cell 1 2 rfl rfl
          have c1_3 : w32.cell? ⟨g, 3, none⟩ = some (.int .i64 a) := HS32.out.cell 1 3 rfl rfl
          have c1_4 : w32.cell? ⟨g, 4, none⟩ = some (.int .i64 0) := HS32.out.cell 1 4 rfl rfl
          have c1_5 : w32.cell? ⟨g, 5, none⟩ = some (.int .i64 s) := HS32.out.cell 1 5 rfl rfl
          have c1_6 : w32.cell? ⟨g, 6, none⟩ = some (.int .i64 (b + v1)) := HS32.out.cell 1 6 rfl rfl
          have c2_0 : w32.cell? ⟨ga, 0, none⟩ = some (.int .i64 K) := HS32.out.cell 2 0 rfl rfl
          have c2_1 : w32.cell? ⟨ga, 1, none⟩ = some (.int .i64 N) := HS32.out.cell 2 1 rfl rfl
          have ne : ((v1 : Int) != min (max N 0) (og - a - b)) = false := by rw [bne_eq_false_iff_eq, Ev1.out]
          go_upto_region 33 with fail
          clear ne
          rw [← Ev1.out]
          clear c0_0 c0_1 c0_2 c1_0 c1_1 c1_2 c1_3 c1_4 c1_5 c1_6 c2_0 c2_1
          refine wp_region_sts HS32.out (by kernel_rfl) (by kernel_rfl) ?_
          have hne : Nonempty (Later w [(gt, #[.int .i64 r, .int .i64 og, .int .i64 rt], 23), (g, #[.int .i64 r, .int .i64 og, .int .i64 rt, .int .i64 a, .int .i64 0, .int .i64 s, .int .i64 (b + v1)], 27), (ga, #[.int .i64 K, .int .i64 N], 42)]) := ⟨⟨_, HS32.out⟩⟩
          have q0_0 : ∀ p : Later w [(gt, #[.int .i64 r, .int .i64 og, .int .i64 rt], 23), (g, #[.int .i64 r, .int .i64 og, .int .i64 rt, .int .i64 a, .int .i64 0, .int .i64 s, .int .i64 (b + v1)], 27), (ga, #[.int .i64 K, .int .i64 N], 42)], p.val.cell? ⟨gt, 0, none⟩ = some (.int .i64 r) := fun p => p.property.cell 0 0 rfl rfl
          have q0_1 : ∀ p : Later w [(gt, #[.int .i64 r, .int .i64 og, .int .i64 rt], 23), (g, #[.int .i64 r, .int .i64 og, .int .i64 rt, .int .i64 a, .int .i64 0, .int .i64 s, .int .i64 (b + v1)], 27), (ga, #[.int .i64 K, .int .i64 N], 42)], p.val.cell? ⟨gt, 1, none⟩ = some (.int .i64 og) := fun p => p.property.cell 0 1 rfl rfl
          have q0_2 : ∀ p : Later w [(gt, #[.int .i64 r, .int .i64 og, .int .i64 rt], 23), (g, #[.int .i64 r, .int .i64 og, .int .i64 rt, .int .i64 a, .int .i64 0, .int .i64 s, .int .i64 (b + v1)], 27), (ga, #[.int .i64 K, .int .i64 N], 42)], p.val.cell? ⟨gt, 2, none⟩ = some (.int .i64 rt) := fun p => p.property.cell 0 2 rfl rfl
          have q1_0 : ∀ p : Later w [(gt, #[.int .i64 r, .int .i64 og, .int .i64 rt], 23), (g, #[.int .i64 r, .int .i64 og, .int .i64 rt, .int .i64 a, .int .i64 0, .int .i64 s, .int .i64 (b + v1)], 27), (ga, #[.int .i64 K, .int .i64 N], 42)], p.val.cell? ⟨g, 0, none⟩ = some (.int .i64 r) := fun p => p.property.cell 1 0 rfl rfl
          have q1_1 : ∀ p : Later w [(gt, #[.int .i64 r, .int .i64 og, .int .i64 rt], 23), (g, #[.int .i64 r, .int .i64 og, .int .i64 rt, .int .i64 a, .int .i64 0, .int .i64 s, .int .i64 (b + v1)], 27), (ga, #[.int .i64 K, .int .i64 N], 42)], p.val.cell? ⟨g, 1, none⟩ = some (.int .i64 og) := fun p => p.property.cell 1 1 rfl rfl
          have q1_2 : ∀ p : Later w [(gt, #[.int .i64 r, .int .i64 og, .int .i64 rt], 23), (g, #[.int .i64 r, .int .i64 og, .int .i64 rt, .int .i64 a, .int .i64 0, .int .i64 s, .int .i64 (b + v1)], 27), (ga, #[.int .i64 K, .int .i64 N], 42)], p.val.cell? ⟨g, 2, none⟩ = some (.int .i64 rt) := fun p => p.property.cell 1 2 rfl rfl
          have q1_3 : ∀ p : Later w [(gt, #[.int .i64 r, .int .i64 og, .int .i64 rt], 23), (g, #[.int .i64 r, .int .i64 og, .int .i64 rt, .int .i64 a, .int .i64 0, .int .i64 s, .int .i64 (b + v1)], 27), (ga, #[.int .i64 K, .int .i64 N], 42)], p.val.cell? ⟨g, 3, none⟩ = some (.int .i64 a) := fun p => p.property.cell 1 3 rfl rfl
          have q1_4 : ∀ p : Later w [(gt, #[.int .i64 r, .int .i64 og, .int .i64 rt], 23), (g, #[.int .i64 r, .int .i64 og, .int .i64 rt, .int .i64 a, .int .i64 0, .int .i64 s, .int .i64 (b + v1)], 27), (ga, #[.int .i64 K, .int .i64 N], 42)], p.val.cell? ⟨g, 4, none⟩ = some (.int .i64 0) := fun p => p.property.cell 1 4 rfl rfl
          have q1_5 : ∀ p : Later w [(gt, #[.int .i64 r, .int .i64 og, .int .i64 rt], 23), (g, #[.int .i64 r, .int .i64 og, .int .i64 rt, .int .i64 a, .int .i64 0, .int .i64 s, .int .i64 (b + v1)], 27), (ga, #[.int .i64 K, .int .i64 N], 42)], p.val.cell? ⟨g, 5, none⟩ = some (.int .i64 s) := fun p => p.property.cell 1 5 rfl rfl
          have q1_6 : ∀ p : Later w [(gt, #[.int .i64 r, .int .i64 og, .int .i64 rt], 23), (g, #[.int .i64 r, .int .i64 og, .int .i64 rt, .int .i64 a, .int .i64 0, .int .i64 s, .int .i64 (b + v1)], 27), (ga, #[.int .i64 K, .int .i64 N], 42)], p.val.cell? ⟨g, 6, none⟩ = some (.int .i64 (b + v1)) := fun p => p.property.cell 1 6 rfl rfl
          have q2_0 : ∀ p : Later w [(gt, #[.int .i64 r, .int .i64 og, .int .i64 rt], 23), (g, #[.int .i64 r, .int .i64 og, .int .i64 rt, .int .i64 a, .int .i64 0, .int .i64 s, .int .i64 (b + v1)], 27), (ga, #[.int .i64 K, .int .i64 N], 42)], p.val.cell? ⟨ga, 0, none⟩ = some (.int .i64 K) := fun p => p.property.cell 2 0 rfl rfl
          have q2_1 : ∀ p : Later w [(gt, #[.int .i64 r, .int .i64 og, .int .i64 rt], 23), (g, #[.int .i64 r, .int .i64 og, .int .i64 rt, .int .i64 a, .int .i64 0, .int .i64 s, .int .i64 (b + v1)], 27), (ga, #[.int .i64 K, .int .i64 N], 42)], p.val.cell? ⟨ga, 1, none⟩ = some (.int .i64 N) := fun p => p.property.cell 2 1 rfl rfl
          repeat (go_big_quiet_step (first | (go_at_call 19; exact Goes.quiet (nright_s true _ _ _ _ _ _ _ (Later.property _) (by omega) (by omega) (by omega) (by omega) (by omega) (by omega) (by omega) (by omega) (by omega) (decide_eq_true (by omega)))) | (go_at_call 17; exact Goes.quiet (balance_s _ _ _ _ _ _ _ _ (Later.property _) ⟨by omega, by omega, by omega, by omega, by omega, by omega, by omega, by omega, by omega⟩ rfl)) | (go_at_call 18; exact Goes.quiet (has_s _ _ _ (Later.property _) (by omega) (by omega) (by omega) rfl)) | (go_at_call 26; exact Goes.quiet (in_s _ _ (Later.property _))) | (go_at_call 27; exact Goes.quiet (out_s _ _ (Later.property _)))))
          clear hne q0_0 q0_1 q0_2 q1_0 q1_1 q1_2 q1_3 q1_4 q1_5 q1_6 q2_0 q2_1
          refine wpQuiet_nil ?_
          rintro w33 ⟨⟨_, hs⟩, rfl⟩
          have HS33 := Lib.hid hs
          clear hs HS32
          have c0_0 : w33.cell? ⟨gt, 0, none⟩ = some (.int .i64 r) := HS33.out.cell 0 0 rfl rfl
          have c0_1 : w33.cell? ⟨gt, 1, none⟩ = some (.int .i64 og) := HS33.out.cell 0 1 rfl rfl
          have c0_2 : w33.cell? ⟨gt, 2, none⟩ = some (.int .i64 rt) := HS33.out.cell 0 2 rfl rfl
          have c1_0 : w33.cell? ⟨g, 0, none⟩ = some (.int .i64 r) := HS33.out.cell 1 0 rfl rfl
          have c1_1 : w33.cell? ⟨g, 1, none⟩ = some (.int .i64 og) := HS33.out.cell 1 1 rfl rfl
          have c1_2 : w33.cell? ⟨g, 2, none⟩ = some (.int .i64 rt) := HS33.out.cell 1 2 rfl rfl
          have c1_3 : w33.cell? ⟨g, 3, none⟩ = some (.int .i64 a) := HS33.out.cell 1 3 rfl rfl
          have c1_4 : w33.cell? ⟨g, 4, none⟩ = some (.int .i64 0) := HS33.out.cell 1 4 rfl rfl
          have c1_5 : w33.cell? ⟨g, 5, none⟩ = some (.int .i64 s) := HS33.out.cell 1 5 rfl rfl
          have c1_6 : w33.cell? ⟨g, 6, none⟩ = some (.int .i64 (b + v1)) := HS33.out.cell 1 6 rfl rfl
          have c2_0 : w33.cell? ⟨ga, 0, none⟩ = some (.int .i64 K) := HS33.out.cell 2 0 rfl rfl
          have c2_1 : w33.cell? ⟨ga, 1, none⟩ = some (.int .i64 N) := HS33.out.cell 2 1 rfl rfl
          clear c0_0 c0_1 c0_2 c1_0 c1_1 c1_2 c1_3 c1_4 c1_5 c1_6 c2_0 c2_1
          go_wp2_with fail
          go_roundw
          case rel => exact ⟨n + 1, a, (b + v1), s, rfl, rfl, rfl, by go_num, by omega, by omega, by omega, by omega, by omega, by omega, Lib.hid ((HS33.out.take 2).lit rfl)⟩
          case measure => simp [intOf]; omega
      replace k2 := Bool.eq_false_iff.2 k2
      by_cases k3 : ((K : Int) == 3) = true
      · as_aux_lemma =>
          have c0_0 : v31.cell? ⟨gt, 0, none⟩ = some (.int .i64 r) := HS31.out.cell 0 0 rfl rfl
          have c0_1 : v31.cell? ⟨gt, 1, none⟩ = some (.int .i64 og) := HS31.out.cell 0 1 rfl rfl
          have c0_2 : v31.cell? ⟨gt, 2, none⟩ = some (.int .i64 rt) := HS31.out.cell 0 2 rfl rfl
          have c1_0 : v31.cell? ⟨g, 0, none⟩ = some (.int .i64 r) := HS31.out.cell 1 0 rfl rfl
          have c1_1 : v31.cell? ⟨g, 1, none⟩ = some (.int .i64 og) := HS31.out.cell 1 1 rfl rfl
          have c1_2 : v31.cell? ⟨g, 2, none⟩ = some (.int .i64 rt) := HS31.out.cell 1 2 rfl rfl
          have c1_3 : v31.cell? ⟨g, 3, none⟩ = some (.int .i64 a) := HS31.out.cell 1 3 rfl rfl
          have c1_4 : v31.cell? ⟨g, 4, none⟩ = some (.int .i64 0) := HS31.out.cell 1 4 rfl rfl
          have c1_5 : v31.cell? ⟨g, 5, none⟩ = some (.int .i64 s) := HS31.out.cell 1 5 rfl rfl
          have c1_6 : v31.cell? ⟨g, 6, none⟩ = some (.int .i64 b) := HS31.out.cell 1 6 rfl rfl
          have c2_0 : v31.cell? ⟨ga, 0, none⟩ = some (.int .i64 K) := HS31.out.cell 2 0 rfl rfl
          have c2_1 : v31.cell? ⟨ga, 1, none⟩ = some (.int .i64 N) := HS31.out.cell 2 1 rfl rfl
          go_wp2_with fail
          clear c0_0 c0_1 c0_2 c1_0 c1_1 c1_2 c1_3 c1_4 c1_5 c1_6 c2_0 c2_1
          refine (restore_s v3 r og rt a 0 s b N 1 HS31.out rfl ⟨by omega, by omega, by omega, by omega, by omega, by omega, by omega, by omega, by omega⟩ (by omega) (by omega) (by rw [Ev3.out]; unfold wi; omega)).mono ?_
          rintro e w32 ⟨rfl, hs⟩
          have HS32 := Lib.hid ((hs.lit rfl : Sts w [(gt, #[.int .i64 r, .int .i64 og, .int .i64 rt], 23), (g, #[.int .i64 r, .int .i64 og, .int .i64 rt, .int .i64 a, .int .i64 0, .int .i64 s, .int .i64 (b - v3)], 27), (ga, #[.int .i64 K, .int .i64 N], 42)] w32))
          clear HS31
          clear hs
          have c0_0 : w32.cell? ⟨gt, 0, none⟩ = some (.int .i64 r) := HS32.out.cell 0 0 rfl rfl
          have c0_1 : w32.cell? ⟨gt, 1, none⟩ = some (.int .i64 og) := HS32.out.cell 0 1 rfl rfl
          have c0_2 : w32.cell? ⟨gt, 2, none⟩ = some (.int .i64 rt) := HS32.out.cell 0 2 rfl rfl
          have c1_0 : w32.cell? ⟨g, 0, none⟩ = some (.int .i64 r) := HS32.out.cell 1 0 rfl rfl
          have c1_1 : w32.cell? ⟨g, 1, none⟩ = some (.int .i64 og) := HS32.out.cell 1 1 rfl rfl
          have c1_2 : w32.cell? ⟨g, 2, none⟩ = some (.int .i64 rt) := HS32.out.cell 1 2 rfl rfl
          have c1_3 : w32.cell? ⟨g, 3, none⟩ = some (.int .i64 a) := HS32.out.cell 1 3 rfl rfl
          have c1_4 : w32.cell? ⟨g, 4, none⟩ = some (.int .i64 0) := HS32.out.cell 1 4 rfl rfl
          have c1_5 : w32.cell? ⟨g, 5, none⟩ = some (.int .i64 s) := HS32.out.cell 1 5 rfl rfl
          have c1_6 : w32.cell? ⟨g, 6, none⟩ = some (.int .i64 (b - v3)) := HS32.out.cell 1 6 rfl rfl
          have c2_0 : w32.cell? ⟨ga, 0, none⟩ = some (.int .i64 K) := HS32.out.cell 2 0 rfl rfl
          have c2_1 : w32.cell? ⟨ga, 1, none⟩ = some (.int .i64 N) := HS32.out.cell 2 1 rfl rfl
          have ne : ((v3 : Int) != min (max N 0) b) = false := by rw [bne_eq_false_iff_eq, Ev3.out]
          go_upto_region 33 with fail
          clear ne
          rw [← Ev3.out]
          clear c0_0 c0_1 c0_2 c1_0 c1_1 c1_2 c1_3 c1_4 c1_5 c1_6 c2_0 c2_1
          refine wp_region_sts HS32.out (by kernel_rfl) (by kernel_rfl) ?_
          have hne : Nonempty (Later w [(gt, #[.int .i64 r, .int .i64 og, .int .i64 rt], 23), (g, #[.int .i64 r, .int .i64 og, .int .i64 rt, .int .i64 a, .int .i64 0, .int .i64 s, .int .i64 (b - v3)], 27), (ga, #[.int .i64 K, .int .i64 N], 42)]) := ⟨⟨_, HS32.out⟩⟩
          have q0_0 : ∀ p : Later w [(gt, #[.int .i64 r, .int .i64 og, .int .i64 rt], 23), (g, #[.int .i64 r, .int .i64 og, .int .i64 rt, .int .i64 a, .int .i64 0, .int .i64 s, .int .i64 (b - v3)], 27), (ga, #[.int .i64 K, .int .i64 N], 42)], p.val.cell? ⟨gt, 0, none⟩ = some (.int .i64 r) := fun p => p.property.cell 0 0 rfl rfl
          have q0_1 : ∀ p : Later w [(gt, #[.int .i64 r, .int .i64 og, .int .i64 rt], 23), (g, #[.int .i64 r, .int .i64 og, .int .i64 rt, .int .i64 a, .int .i64 0, .int .i64 s, .int .i64 (b - v3)], 27), (ga, #[.int .i64 K, .int .i64 N], 42)], p.val.cell? ⟨gt, 1, none⟩ = some (.int .i64 og) := fun p => p.property.cell 0 1 rfl rfl
          have q0_2 : ∀ p : Later w [(gt, #[.int .i64 r, .int .i64 og, .int .i64 rt], 23), (g, #[.int .i64 r, .int .i64 og, .int .i64 rt, .int .i64 a, .int .i64 0, .int .i64 s, .int .i64 (b - v3)], 27), (ga, #[.int .i64 K, .int .i64 N], 42)], p.val.cell? ⟨gt, 2, none⟩ = some (.int .i64 rt) := fun p => p.property.cell 0 2 rfl rfl
          have q1_0 : ∀ p : Later w [(gt, #[.int .i64 r, .int .i64 og, .int .i64 rt], 23), (g, #[.int .i64 r, .int .i64 og, .int .i64 rt, .int .i64 a, .int .i64 0, .int .i64 s, .int .i64 (b - v3)], 27), (ga, #[.int .i64 K, .int .i64 N], 42)], p.val.cell? ⟨g, 0, none⟩ = some (.int .i64 r) := fun p => p.property.cell 1 0 rfl rfl
          have q1_1 : ∀ p : Later w [(gt, #[.int .i64 r, .int .i64 og, .int .i64 rt], 23), (g, #[.int .i64 r, .int .i64 og, .int .i64 rt, .int .i64 a, .int .i64 0, .int .i64 s, .int .i64 (b - v3)], 27), (ga, #[.int .i64 K, .int .i64 N], 42)], p.val.cell? ⟨g, 1, none⟩ = some (.int .i64 og) := fun p => p.property.cell 1 1 rfl rfl
          have q1_2 : ∀ p : Later w [(gt, #[.int .i64 r, .int .i64 og, .int .i64 rt], 23), (g, #[.int .i64 r, .int .i64 og, .int .i64 rt, .int .i64 a, .int .i64 0, .int .i64 s, .int .i64 (b - v3)], 27), (ga, #[.int .i64 K, .int .i64 N], 42)], p.val.cell? ⟨g, 2, none⟩ = some (.int .i64 rt) := fun p => p.property.cell 1 2 rfl rfl
          have q1_3 : ∀ p : Later w [(gt, #[.int .i64 r, .int .i64 og, .int .i64 rt], 23), (g, #[.int .i64 r, .int .i64 og, .int .i64 rt, .int .i64 a, .int .i64 0, .int .i64 s, .int .i64 (b - v3)], 27), (ga, #[.int .i64 K, .int .i64 N], 42)], p.val.cell? ⟨g, 3, none⟩ = some (.int .i64 a) := fun p => p.property.cell 1 3 rfl rfl
          have q1_4 : ∀ p : Later w [(gt, #[.int .i64 r, .int .i64 og, .int .i64 rt], 23), (g, #[.int .i64 r, .int .i64 og, .int .i64 rt, .int .i64 a, .int .i64 0, .int .i64 s, .int .i64 (b - v3)], 27), (ga, #[.int .i64 K, .int .i64 N], 42)], p.val.cell? ⟨g, 4, none⟩ = some (.int .i64 0) := fun p => p.property.cell 1 4 rfl rfl
          have q1_5 : ∀ p : Later w [(gt, #[.int .i64 r, .int .i64 og, .int .i64 rt], 23), (g, #[.int .i64 r, .int .i64 og, .int .i64 rt, .int .i64 a, .int .i64 0, .int .i64 s, .int .i64 (b - v3)], 27), (ga, #[.int .i64 K, .int .i64 N], 42)], p.val.cell? ⟨g, 5, none⟩ = some (.int .i64 s) := fun p => p.property.cell 1 5 rfl rfl
          have q1_6 : ∀ p : Later w [(gt, #[.int .i64 r, .int .i64 og, .int .i64 rt], 23), (g, #[.int .i64 r, .int .i64 og, .int .i64 rt, .int .i64 a, .int .i64 0, .int .i64 s, .int .i64 (b - v3)], 27), (ga, #[.int .i64 K, .int .i64 N], 42)], p.val.cell? ⟨g, 6, none⟩ = some (.int .i64 (b - v3)) := fun p => p.property.cell 1 6 rfl rfl
          have q2_0 : ∀ p : Later w [(gt, #[.int .i64 r, .int .i64 og, .int .i64 rt], 23), (g, #[.int .i64 r, .int .i64 og, .int .i64 rt, .int .i64 a, .int .i64 0, .int .i64 s, .int .i64 (b - v3)], 27), (ga, #[.int .i64 K, .int .i64 N], 42)], p.val.cell? ⟨ga, 0, none⟩ = some (.int .i64 K) := fun p => p.property.cell 2 0 rfl rfl
          have q2_1 : ∀ p : Later w [(gt, #[.int .i64 r, .int .i64 og, .int .i64 rt], 23), (g, #[.int .i64 r, .int .i64 og, .int .i64 rt, .int .i64 a, .int .i64 0, .int .i64 s, .int .i64 (b - v3)], 27), (ga, #[.int .i64 K, .int .i64 N], 42)], p.val.cell? ⟨ga, 1, none⟩ = some (.int .i64 N) := fun p => p.property.cell 2 1 rfl rfl
          repeat (go_big_quiet_step (first | (go_at_call 19; exact Goes.quiet (nright_s true _ _ _ _ _ _ _ (Later.property _) (by omega) (by omega) (by omega) (by omega) (by omega) (by omega) (by omega) (by omega) (by omega) (decide_eq_true (by omega)))) | (go_at_call 17; exact Goes.quiet (balance_s _ _ _ _ _ _ _ _ (Later.property _) ⟨by omega, by omega, by omega, by omega, by omega, by omega, by omega, by omega, by omega⟩ rfl)) | (go_at_call 18; exact Goes.quiet (has_s _ _ _ (Later.property _) (by omega) (by omega) (by omega) rfl)) | (go_at_call 26; exact Goes.quiet (in_s _ _ (Later.property _))) | (go_at_call 27; exact Goes.quiet (out_s _ _ (Later.property _)))))
          clear hne q0_0 q0_1 q0_2 q1_0 q1_1 q1_2 q1_3 q1_4 q1_5 q1_6 q2_0 q2_1
          refine wpQuiet_nil ?_
          rintro w33 ⟨⟨_, hs⟩, rfl⟩
          have HS33 := Lib.hid hs
          clear hs HS32
          have c0_0 : w33.cell? ⟨gt, 0, none⟩ = some (.int .i64 r) := HS33.out.cell 0 0 rfl rfl
          have c0_1 : w33.cell? ⟨gt, 1, none⟩ = some (.int .i64 og) := HS33.out.cell 0 1 rfl rfl
          have c0_2 : w33.cell? ⟨gt, 2, none⟩ = some (.int .i64 rt) := HS33.out.cell 0 2 rfl rfl
          have c1_0 : w33.cell? ⟨g, 0, none⟩ = some (.int .i64 r) := HS33.out.cell 1 0 rfl rfl
          have c1_1 : w33.cell? ⟨g, 1, none⟩ = some (.int .i64 og) := HS33.out.cell 1 1 rfl rfl
          have c1_2 : w33.cell? ⟨g, 2, none⟩ = some (.int .i64 rt) := HS33.out.cell 1 2 rfl rfl
          have c1_3 : w33.cell? ⟨g, 3, none⟩ = some (.int .i64 a) := HS33.out.cell 1 3 rfl rfl
          have c1_4 : w33.cell? ⟨g, 4, none⟩ = some (.int .i64 0) := HS33.out.cell 1 4 rfl rfl
          have c1_5 : w33.cell? ⟨g, 5, none⟩ = some (.int .i64 s) := HS33.out.cell 1 5 rfl rfl
          have c1_6 : w33.cell? ⟨g, 6, none⟩ = some (.int .i64 (b - v3)) := HS33.out.cell 1 6 rfl rfl
          have c2_0 : w33.cell? ⟨ga, 0, none⟩ = some (.int .i64 K) := HS33.out.cell 2 0 rfl rfl
          have c2_1 : w33.cell? ⟨ga, 1, none⟩ = some (.int .i64 N) := HS33.out.cell 2 1 rfl rfl
          clear c0_0 c0_1 c0_2 c1_0 c1_1 c1_2 c1_3 c1_4 c1_5 c1_6 c2_0 c2_1
          go_wp2_with fail
          go_roundw
          case rel => exact ⟨n + 1, a, (b - v3), s, rfl, rfl, rfl, by go_num, by omega, by omega, by omega, by omega, by omega, by omega, Lib.hid ((HS33.out.take 2).lit rfl)⟩
          case measure => simp [intOf]; omega
      replace k3 := Bool.eq_false_iff.2 k3
      by_cases k4 : ((K : Int) == 4) = true
      · as_aux_lemma =>
          by_cases m11 : 0 ≤ N ∧ N ≤ 1152921504606846976 - s
          · skip
            have m2 : decide (0 ≤ N) = true := decide_eq_true (by omega)
            have m4 : decide (N ≤ 1152921504606846976 - s) = true := decide_eq_true (by omega)
            have c0_0 : v31.cell? ⟨gt, 0, none⟩ = some (.int .i64 r) := HS31.out.cell 0 0 rfl rfl
            have c0_1 : v31.cell? ⟨gt, 1, none⟩ = some (.int .i64 og) := HS31.out.cell 0 1 rfl rfl
            have c0_2 : v31.cell? ⟨gt, 2, none⟩ = some (.int .i64 rt) := HS31.out.cell 0 2 rfl rfl
            have c1_0 : v31.cell? ⟨g, 0, none⟩ = some (.int .i64 r) := HS31.out.cell 1 0 rfl rfl
            have c1_1 : v31.cell? ⟨g, 1, none⟩ = some (.int .i64 og) := HS31.out.cell 1 1 rfl rfl
            have c1_2 : v31.cell? ⟨g, 2, none⟩ = some (.int .i64 rt) := HS31.out.cell 1 2 rfl rfl
            have c1_3 : v31.cell? ⟨g, 3, none⟩ = some (.int .i64 a) := HS31.out.cell 1 3 rfl rfl
            have c1_4 : v31.cell? ⟨g, 4, none⟩ = some (.int .i64 0) := HS31.out.cell 1 4 rfl rfl
            have c1_5 : v31.cell? ⟨g, 5, none⟩ = some (.int .i64 s) := HS31.out.cell 1 5 rfl rfl
            have c1_6 : v31.cell? ⟨g, 6, none⟩ = some (.int .i64 b) := HS31.out.cell 1 6 rfl rfl
            have c2_0 : v31.cell? ⟨ga, 0, none⟩ = some (.int .i64 K) := HS31.out.cell 2 0 rfl rfl
            have c2_1 : v31.cell? ⟨ga, 1, none⟩ = some (.int .i64 N) := HS31.out.cell 2 1 rfl rfl
            go_wp2_with fail
            clear c0_0 c0_1 c0_2 c1_0 c1_1 c1_2 c1_3 c1_4 c1_5 c1_6 c2_0 c2_1
            refine (oweyes_s r og rt a 0 s b N 1 HS31.out rfl ⟨by omega, by omega, by omega, by omega, by omega, by omega, by omega, by omega, by omega⟩ (by omega) (by omega)).mono ?_
            rintro e w32 ⟨rfl, hs⟩
            have HS32 := Lib.hid ((hs.lit rfl : Sts w [(gt, #[.int .i64 r, .int .i64 og, .int .i64 rt], 23), (g, #[.int .i64 r, .int .i64 og, .int .i64 rt, .int .i64 a, .int .i64 0, .int .i64 (s + N), .int .i64 b], 27), (ga, #[.int .i64 K, .int .i64 N], 42)] w32))
            clear HS31
            clear hs
            have c0_0 : w32.cell? ⟨gt, 0, none⟩ = some (.int .i64 r) := HS32.out.cell 0 0 rfl rfl
            have c0_1 : w32.cell? ⟨gt, 1, none⟩ = some (.int .i64 og) := HS32.out.cell 0 1 rfl rfl
            have c0_2 : w32.cell? ⟨gt, 2, none⟩ = some (.int .i64 rt) := HS32.out.cell 0 2 rfl rfl
            have c1_0 : w32.cell? ⟨g, 0, none⟩ = some (.int .i64 r) := HS32.out.cell 1 0 rfl rfl
            have c1_1 : w32.cell? ⟨g, 1, none⟩ = some (.int .i64 og) := HS32.out.cell 1 1 rfl rfl
            have c1_2 : w32.cell? ⟨g, 2, none⟩ = some (.int .i64 rt) := HS32.out.cell 1 2 rfl rfl
            have c1_3 : w32.cell? ⟨g, 3, none⟩ = some (.int .i64 a) := HS32.out.cell 1 3 rfl rfl
            have c1_4 : w32.cell? ⟨g, 4, none⟩ = some (.int .i64 0) := HS32.out.cell 1 4 rfl rfl
            have c1_5 : w32.cell? ⟨g, 5, none⟩ = some (.int .i64 (s + N)) := HS32.out.cell 1 5 rfl rfl
            have c1_6 : w32.cell? ⟨g, 6, none⟩ = some (.int .i64 b) := HS32.out.cell 1 6 rfl rfl
            have c2_0 : w32.cell? ⟨ga, 0, none⟩ = some (.int .i64 K) := HS32.out.cell 2 0 rfl rfl
            have c2_1 : w32.cell? ⟨ga, 1, none⟩ = some (.int .i64 N) := HS32.out.cell 2 1 rfl rfl
            clear c0_0 c0_1 c0_2 c1_0 c1_1 c1_2 c1_3 c1_4 c1_5 c1_6 c2_0 c2_1
            have c0_0 : w32.cell? ⟨gt, 0, none⟩ = some (.int .i64 r) := HS32.out.cell 0 0 rfl rfl
            have c0_1 : w32.cell? ⟨gt, 1, none⟩ = some (.int .i64 og) := HS32.out.cell 0 1 rfl rfl
            have c0_2 : w32.cell? ⟨gt, 2, none⟩ = some (.int .i64 rt) := HS32.out.cell 0 2 rfl rfl
            have c1_0 : w32.cell? ⟨g, 0, none⟩ = some (.int .i64 r) := HS32.out.cell 1 0 rfl rfl
            have c1_1 : w32.cell? ⟨g, 1, none⟩ = some (.int .i64 og) := HS32.out.cell 1 1 rfl rfl
            have c1_2 : w32.cell? ⟨g, 2, none⟩ = some (.int .i64 rt) := HS32.out.cell 1 2 rfl rfl
            have c1_3 : w32.cell? ⟨g, 3, none⟩ = some (.int .i64 a) := HS32.out.cell 1 3 rfl rfl
            have c1_4 : w32.cell? ⟨g, 4, none⟩ = some (.int .i64 0) := HS32.out.cell 1 4 rfl rfl
            have c1_5 : w32.cell? ⟨g, 5, none⟩ = some (.int .i64 (s + N)) := HS32.out.cell 1 5 rfl rfl
            have c1_6 : w32.cell? ⟨g, 6, none⟩ = some (.int .i64 b) := HS32.out.cell 1 6 rfl rfl
            have c2_0 : w32.cell? ⟨ga, 0, none⟩ = some (.int .i64 K) := HS32.out.cell 2 0 rfl rfl
            have c2_1 : w32.cell? ⟨ga, 1, none⟩ = some (.int .i64 N) := HS32.out.cell 2 1 rfl rfl
            go_upto_region 33 with fail
            clear c0_0 c0_1 c0_2 c1_0 c1_1 c1_2 c1_3 c1_4 c1_5 c1_6 c2_0 c2_1
            refine wp_region_sts HS32.out (by kernel_rfl) (by kernel_rfl) ?_
            have hne : Nonempty (Later w [(gt, #[.int .i64 r, .int .i64 og, .int .i64 rt], 23), (g, #[.int .i64 r, .int .i64 og, .int .i64 rt, .int .i64 a, .int .i64 0, .int .i64 (s + N), .int .i64 b], 27), (ga, #[.int .i64 K, .int .i64 N], 42)]) := ⟨⟨_, HS32.out⟩⟩
            have q0_0 : ∀ p : Later w [(gt, #[.int .i64 r, .int .i64 og, .int .i64 rt], 23), (g, #[.int .i64 r, .int .i64 og, .int .i64 rt, .int .i64 a, .int .i64 0, .int .i64 (s + N), .int .i64 b], 27), (ga, #[.int .i64 K, .int .i64 N], 42)], p.val.cell? ⟨gt, 0, none⟩ = some (.int .i64 r) := fun p => p.property.cell 0 0 rfl rfl
            have q0_1 : ∀ p : Later w [(gt, #[.int .i64 r, .int .i64 og, .int .i64 rt], 23), (g, #[.int .i64 r, .int .i64 og, .int .i64 rt, .int .i64 a, .int .i64 0, .int .i64 (s + N), .int .i64 b], 27), (ga, #[.int .i64 K, .int .i64 N], 42)], p.val.cell? ⟨gt, 1, none⟩ = some (.int .i64 og) := fun p => p.property.cell 0 1 rfl rfl
            have q0_2 : ∀ p : Later w [(gt, #[.int .i64 r, .int .i64 og, .int .i64 rt], 23), (g, #[.int .i64 r, .int .i64 og, .int .i64 rt, .int .i64 a, .int .i64 0, .int .i64 (s + N), .int .i64 b], 27), (ga, #[.int .i64 K, .int .i64 N], 42)], p.val.cell? ⟨gt, 2, none⟩ = some (.int .i64 rt) := fun p => p.property.cell 0 2 rfl rfl
            have q1_0 : ∀ p : Later w [(gt, #[.int .i64 r, .int .i64 og, .int .i64 rt], 23), (g, #[.int .i64 r, .int .i64 og, .int .i64 rt, .int .i64 a, .int .i64 0, .int .i64 (s + N), .int .i64 b], 27), (ga, #[.int .i64 K, .int .i64 N], 42)], p.val.cell? ⟨g, 0, none⟩ = some (.int .i64 r) := fun p => p.property.cell 1 0 rfl rfl
            have q1_1 : ∀ p : Later w [(gt, #[.int .i64 r, .int .i64 og, .int .i64 rt], 23), (g, #[.int .i64 r, .int .i64 og, .int .i64 rt, .int .i64 a, .int .i64 0, .int .i64 (s + N), .int .i64 b], 27), (ga, #[.int .i64 K, .int .i64 N], 42)], p.val.cell? ⟨g, 1, none⟩ = some (.int .i64 og) := fun p => p.property.cell 1 1 rfl rfl
            have q1_2 : ∀ p : Later w [(gt, #[.int .i64 r, .int .i64 og, .int .i64 rt], 23), (g, #[.int .i64 r, .int .i64 og, .int .i64 rt, .int .i64 a, .int .i64 0, .int .i64 (s + N), .int .i64 b], 27), (ga, #[.int .i64 K, .int .i64 N], 42)], p.val.cell? ⟨g, 2, none⟩ = some (.int .i64 rt) := fun p => p.property.cell 1 2 rfl rfl
            have q1_3 : ∀ p : Later w [(gt, #[.int .i64 r, .int .i64 og, .int .i64 rt], 23), (g, #[.int .i64 r, .int .i64 og, .int .i64 rt, .int .i64 a, .int .i64 0, .int .i64 (s + N), .int .i64 b], 27), (ga, #[.int .i64 K, .int .i64 N], 42)], p.val.cell? ⟨g, 3, none⟩ = some (.int .i64 a) := fun p => p.property.cell 1 3 rfl rfl
            have q1_4 : ∀ p : Later w [(gt, #[.int .i64 r, .int .i64 og, .int .i64 rt], 23), (g, #[.int .i64 r, .int .i64 og, .int .i64 rt, .int .i64 a, .int .i64 0, .int .i64 (s + N), .int .i64 b], 27), (ga, #[.int .i64 K, .int .i64 N], 42)], p.val.cell? ⟨g, 4, none⟩ = some (.int .i64 0) := fun p => p.property.cell 1 4 rfl rfl
            have q1_5 : ∀ p : Later w [(gt, #[.int .i64 r, .int .i64 og, .int .i64 rt], 23), (g, #[.int .i64 r, .int .i64 og, .int .i64 rt, .int .i64 a, .int .i64 0, .int .i64 (s + N), .int .i64 b], 27), (ga, #[.int .i64 K, .int .i64 N], 42)], p.val.cell? ⟨g, 5, none⟩ = some (.int .i64 (s + N)) := fun p => p.property.cell 1 5 rfl rfl
            have q1_6 : ∀ p : Later w [(gt, #[.int .i64 r, .int .i64 og, .int .i64 rt], 23), (g, #[.int .i64 r, .int .i64 og, .int .i64 rt, .int .i64 a, .int .i64 0, .int .i64 (s + N), .int .i64 b], 27), (ga, #[.int .i64 K, .int .i64 N], 42)], p.val.cell? ⟨g, 6, none⟩ = some (.int .i64 b) := fun p => p.property.cell 1 6 rfl rfl
            have q2_0 : ∀ p : Later w [(gt, #[.int .i64 r, .int .i64 og, .int .i64 rt], 23), (g, #[.int .i64 r, .int .i64 og, .int .i64 rt, .int .i64 a, .int .i64 0, .int .i64 (s + N), .int .i64 b], 27), (ga, #[.int .i64 K, .int .i64 N], 42)], p.val.cell? ⟨ga, 0, none⟩ = some (.int .i64 K) := fun p => p.property.cell 2 0 rfl rfl
            have q2_1 : ∀ p : Later w [(gt, #[.int .i64 r, .int .i64 og, .int .i64 rt], 23), (g, #[.int .i64 r, .int .i64 og, .int .i64 rt, .int .i64 a, .int .i64 0, .int .i64 (s + N), .int .i64 b], 27), (ga, #[.int .i64 K, .int .i64 N], 42)], p.val.cell? ⟨ga, 1, none⟩ = some (.int .i64 N) := fun p => p.property.cell 2 1 rfl rfl
            repeat (go_big_quiet_step (first | (go_at_call 19; exact Goes.quiet (nright_s true _ _ _ _ _ _ _ (Later.property _) (by omega) (by omega) (by omega) (by omega) (by omega) (by omega) (by omega) (by omega) (by omega) (decide_eq_true (by omega)))) | (go_at_call 17; exact Goes.quiet (balance_s _ _ _ _ _ _ _ _ (Later.property _) ⟨by omega, by omega, by omega, by omega, by omega, by omega, by omega, by omega, by omega⟩ rfl)) | (go_at_call 18; exact Goes.quiet (has_s _ _ _ (Later.property _) (by omega) (by omega) (by omega) rfl)) | (go_at_call 26; exact Goes.quiet (in_s _ _ (Later.property _))) | (go_at_call 27; exact Goes.quiet (out_s _ _ (Later.property _)))))
            clear hne q0_0 q0_1 q0_2 q1_0 q1_1 q1_2 q1_3 q1_4 q1_5 q1_6 q2_0 q2_1
            refine wpQuiet_nil ?_
            rintro w33 ⟨⟨_, hs⟩, rfl⟩
            have HS33 := Lib.hid hs
            clear hs HS32
            have c0_0 : w33.cell? ⟨gt, 0, none⟩ = some (.int .i64 r) := HS33.out.cell 0 0 rfl rfl
            have c0_1 : w33.cell? ⟨gt, 1, none⟩ = some (.int .i64 og) := HS33.out.cell 0 1 rfl rfl
            have c0_2 : w33.cell? ⟨gt, 2, none⟩ = some (.int .i64 rt) := HS33.out.cell 0 2 rfl rfl
            have c1_0 : w33.cell? ⟨g, 0, none⟩ = some (.int .i64 r) := HS33.out.cell 1 0 rfl rfl
            have c1_1 : w33.cell? ⟨g, 1, none⟩ = some (.int .i64 og) := HS33.out.cell 1 1 rfl rfl
            have c1_2 : w33.cell? ⟨g, 2, none⟩ = some (.int .i64 rt) := HS33.out.cell 1 2 rfl rfl
            have c1_3 : w33.cell? ⟨g, 3, none⟩ = some (.int .i64 a) := HS33.out.cell 1 3 rfl rfl
            have c1_4 : w33.cell? ⟨g, 4, none⟩ = some (.int .i64 0) := HS33.out.cell 1 4 rfl rfl
            have c1_5 : w33.cell? ⟨g, 5, none⟩ = some (.int .i64 (s + N)) := HS33.out.cell 1 5 rfl rfl
            have c1_6 : w33.cell? ⟨g, 6, none⟩ = some (.int .i64 b) := HS33.out.cell 1 6 rfl rfl
            have c2_0 : w33.cell? ⟨ga, 0, none⟩ = some (.int .i64 K) := HS33.out.cell 2 0 rfl rfl
            have c2_1 : w33.cell? ⟨ga, 1, none⟩ = some (.int .i64 N) := HS33.out.cell 2 1 rfl rfl
            clear c0_0 c0_1 c0_2 c1_0 c1_1 c1_2 c1_3 c1_4 c1_5 c1_6 c2_0 c2_1
            go_wp2_with fail
            go_roundw
            case rel => exact ⟨n + 1, a, b, (s + N), rfl, rfl, rfl, by go_num, by omega, by omega, by omega, by omega, by omega, by omega, Lib.hid ((HS33.out.take 2).lit rfl)⟩
            case measure => simp [intOf]; omega
          by_cases m10 : 0 ≤ N
          · skip
            have m2 : decide (0 ≤ N) = true := decide_eq_true (by omega)
            have m4 : decide (N ≤ 1152921504606846976 - s) = false := decide_eq_false (by omega)
            have c0_0 : v31.cell? ⟨gt, 0, none⟩ = some (.int .i64 r) := HS31.out.cell 0 0 rfl rfl
            have c0_1 : v31.cell? ⟨gt, 1, none⟩ = some (.int .i64 og) := HS31.out.cell 0 1 rfl rfl
            have c0_2 : v31.cell? ⟨gt, 2, none⟩ = some (.int .i64 rt) := HS31.out.cell 0 2 rfl rfl
            have c1_0 : v31.cell? ⟨g, 0, none⟩ = some (.int .i64 r) := HS31.out.cell 1 0 rfl rfl
            have c1_1 : v31.cell? ⟨g, 1, none⟩ = some (.int .i64 og) := HS31.out.cell 1 1 rfl rfl
            have c1_2 : v31.cell? ⟨g, 2, none⟩ = some (.int .i64 rt) := HS31.out.cell 1 2 rfl rfl
            have c1_3 : v31.cell? ⟨g, 3, none⟩ = some (.int .i64 a) := HS31.out.cell 1 3 rfl rfl
            have c1_4 : v31.cell? ⟨g, 4, none⟩ = some (.int .i64 0) := HS31.out.cell 1 4 rfl rfl
            have c1_5 : v31.cell? ⟨g, 5, none⟩ = some (.int .i64 s) := HS31.out.cell 1 5 rfl rfl
            have c1_6 : v31.cell? ⟨g, 6, none⟩ = some (.int .i64 b) := HS31.out.cell 1 6 rfl rfl
            have c2_0 : v31.cell? ⟨ga, 0, none⟩ = some (.int .i64 K) := HS31.out.cell 2 0 rfl rfl
            have c2_1 : v31.cell? ⟨ga, 1, none⟩ = some (.int .i64 N) := HS31.out.cell 2 1 rfl rfl
            go_wp2_with fail
            clear c0_0 c0_1 c0_2 c1_0 c1_1 c1_2 c1_3 c1_4 c1_5 c1_6 c2_0 c2_1
            refine (oweno_s r og rt a 0 s b N 1 HS31.out rfl ⟨by omega, by omega, by omega, by omega, by omega, by omega, by omega, by omega, by omega⟩ (by omega) (by omega) (by omega)).mono ?_
            rintro e w32 ⟨rfl, hs⟩
            have HS32 := Lib.hid ((hs.lit rfl : Sts w [(gt, #[.int .i64 r, .int .i64 og, .int .i64 rt], 23), (g, #[.int .i64 r, .int .i64 og, .int .i64 rt, .int .i64 a, .int .i64 0, .int .i64 s, .int .i64 b], 27), (ga, #[.int .i64 K, .int .i64 N], 42)] w32))
            clear HS31
            clear hs
            have c0_0 : w32.cell? ⟨gt, 0, none⟩ = some (.int .i64 r) := HS32.out.cell 0 0 rfl rfl
            have c0_1 : w32.cell? ⟨gt, 1, none⟩ = some (.int .i64 og) := HS32.out.cell 0 1 rfl rfl
            have c0_2 : w32.cell? ⟨gt, 2, none⟩ = some (.int .i64 rt) := HS32.out.cell 0 2 rfl rfl
            have c1_0 : w32.cell? ⟨g, 0, none⟩ = some (.int .i64 r) := HS32.out.cell 1 0 rfl rfl
            have c1_1 : w32.cell? ⟨g, 1, none⟩ = some (.int .i64 og) := HS32.out.cell 1 1 rfl rfl
            have c1_2 : w32.cell? ⟨g, 2, none⟩ = some (.int .i64 rt) := HS32.out.cell 1 2 rfl rfl
            have c1_3 : w32.cell? ⟨g, 3, none⟩ = some (.int .i64 a) := HS32.out.cell 1 3 rfl rfl
            have c1_4 : w32.cell? ⟨g, 4, none⟩ = some (.int .i64 0) := HS32.out.cell 1 4 rfl rfl
            have c1_5 : w32.cell? ⟨g, 5, none⟩ = some (.int .i64 s) := HS32.out.cell 1 5 rfl rfl
            have c1_6 : w32.cell? ⟨g, 6, none⟩ = some (.int .i64 b) := HS32.out.cell 1 6 rfl rfl
            have c2_0 : w32.cell? ⟨ga, 0, none⟩ = some (.int .i64 K) := HS32.out.cell 2 0 rfl rfl
            have c2_1 : w32.cell? ⟨ga, 1, none⟩ = some (.int .i64 N) := HS32.out.cell 2 1 rfl rfl
            go_upto_region 33 with fail
            clear c0_0 c0_1 c0_2 c1_0 c1_1 c1_2 c1_3 c1_4 c1_5 c1_6 c2_0 c2_1
            refine wp_region_sts HS32.out (by kernel_rfl) (by kernel_rfl) ?_
            have hne : Nonempty (Later w [(gt, #[.int .i64 r, .int .i64 og, .int .i64 rt], 23), (g, #[.int .i64 r, .int .i64 og, .int .i64 rt, .int .i64 a, .int .i64 0, .int .i64 s, .int .i64 b], 27), (ga, #[.int .i64 K, .int .i64 N], 42)]) := ⟨⟨_, HS32.out⟩⟩
            have q0_0 : ∀ p : Later w [(gt, #[.int .i64 r, .int .i64 og, .int .i64 rt], 23), (g, #[.int .i64 r, .int .i64 og, .int .i64 rt, .int .i64 a, .int .i64 0, .int .i64 s, .int .i64 b], 27), (ga, #[.int .i64 K, .int .i64 N], 42)], p.val.cell? ⟨gt, 0, none⟩ = some (.int .i64 r) := fun p => p.property.cell 0 0 rfl rfl
            have q0_1 : ∀ p : Later w [(gt, #[.int .i64 r, .int .i64 og, .int .i64 rt], 23), (g, #[.int .i64 r, .int .i64 og, .int .i64 rt, .int .i64 a, .int .i64 0, .int .i64 s, .int .i64 b], 27), (ga, #[.int .i64 K, .int .i64 N], 42)], p.val.cell? ⟨gt, 1, none⟩ = some (.int .i64 og) := fun p => p.property.cell 0 1 rfl rfl
            have q0_2 : ∀ p : Later w [(gt, #[.int .i64 r, .int .i64 og, .int .i64 rt], 23), (g, #[.int .i64 r, .int .i64 og, .int .i64 rt, .int .i64 a, .int .i64 0, .int .i64 s, .int .i64 b], 27), (ga, #[.int .i64 K, .int .i64 N], 42)], p.val.cell? ⟨gt, 2, none⟩ = some (.int .i64 rt) := fun p => p.property.cell 0 2 rfl rfl
            have q1_0 : ∀ p : Later w [(gt, #[.int .i64 r, .int .i64 og, .int .i64 rt], 23), (g, #[.int .i64 r, .int .i64 og, .int .i64 rt, .int .i64 a, .int .i64 0, .int .i64 s, .int .i64 b], 27), (ga, #[.int .i64 K, .int .i64 N], 42)], p.val.cell? ⟨g, 0, none⟩ = some (.int .i64 r) := fun p => p.property.cell 1 0 rfl rfl
            have q1_1 : ∀ p : Later w [(gt, #[.int .i64 r, .int .i64 og, .int .i64 rt], 23), (g, #[.int .i64 r, .int .i64 og, .int .i64 rt, .int .i64 a, .int .i64 0, .int .i64 s, .int .i64 b], 27), (ga, #[.int .i64 K, .int .i64 N], 42)], p.val.cell? ⟨g, 1, none⟩ = some (.int .i64 og) := fun p => p.property.cell 1 1 rfl rfl
            have q1_2 : ∀ p : Later w [(gt, #[.int .i64 r, .int .i64 og, .int .i64 rt], 23), (g, #[.int .i64 r, .int .i64 og, .int .i64 rt, .int .i64 a, .int .i64 0, .int .i64 s, .int .i64 b], 27), (ga, #[.int .i64 K, .int .i64 N], 42)], p.val.cell? ⟨g, 2, none⟩ = some (.int .i64 rt) := fun p => p.property.cell 1 2 rfl rfl
            have q1_3 : ∀ p : Later w [(gt, #[.int .i64 r, .int .i64 og, .int .i64 rt], 23), (g, #[.int .i64 r, .int .i64 og, .int .i64 rt, .int .i64 a, .int .i64 0, .int .i64 s, .int .i64 b], 27), (ga, #[.int .i64 K, .int .i64 N], 42)], p.val.cell? ⟨g, 3, none⟩ = some (.int .i64 a) := fun p => p.property.cell 1 3 rfl rfl
            have q1_4 : ∀ p : Later w [(gt, #[.int .i64 r, .int .i64 og, .int .i64 rt], 23), (g, #[.int .i64 r, .int .i64 og, .int .i64 rt, .int .i64 a, .int .i64 0, .int .i64 s, .int .i64 b], 27), (ga, #[.int .i64 K, .int .i64 N], 42)], p.val.cell? ⟨g, 4, none⟩ = some (.int .i64 0) := fun p => p.property.cell 1 4 rfl rfl
            have q1_5 : ∀ p : Later w [(gt, #[.int .i64 r, .int .i64 og, .int .i64 rt], 23), (g, #[.int .i64 r, .int .i64 og, .int .i64 rt, .int .i64 a, .int .i64 0, .int .i64 s, .int .i64 b], 27), (ga, #[.int .i64 K, .int .i64 N], 42)], p.val.cell? ⟨g, 5, none⟩ = some (.int .i64 s) := fun p => p.property.cell 1 5 rfl rfl
            have q1_6 : ∀ p : Later w [(gt, #[.int .i64 r, .int .i64 og, .int .i64 rt], 23), (g, #[.int .i64 r, .int .i64 og, .int .i64 rt, .int .i64 a, .int .i64 0, .int .i64 s, .int .i64 b], 27), (ga, #[.int .i64 K, .int .i64 N], 42)], p.val.cell? ⟨g, 6, none⟩ = some (.int .i64 b) := fun p => p.property.cell 1 6 rfl rfl
            have q2_0 : ∀ p : Later w [(gt, #[.int .i64 r, .int .i64 og, .int .i64 rt], 23), (g, #[.int .i64 r, .int .i64 og, .int .i64 rt, .int .i64 a, .int .i64 0, .int .i64 s, .int .i64 b], 27), (ga, #[.int .i64 K, .int .i64 N], 42)], p.val.cell? ⟨ga, 0, none⟩ = some (.int .i64 K) := fun p => p.property.cell 2 0 rfl rfl
            have q2_1 : ∀ p : Later w [(gt, #[.int .i64 r, .int .i64 og, .int .i64 rt], 23), (g, #[.int .i64 r, .int .i64 og, .int .i64 rt, .int .i64 a, .int .i64 0, .int .i64 s, .int .i64 b], 27), (ga, #[.int .i64 K, .int .i64 N], 42)], p.val.cell? ⟨ga, 1, none⟩ = some (.int .i64 N) := fun p => p.property.cell 2 1 rfl rfl
            repeat (go_big_quiet_step (first | (go_at_call 19; exact Goes.quiet (nright_s true _ _ _ _ _ _ _ (Later.property _) (by omega) (by omega) (by omega) (by omega) (by omega) (by omega) (by omega) (by omega) (by omega) (decide_eq_true (by omega)))) | (go_at_call 17; exact Goes.quiet (balance_s _ _ _ _ _ _ _ _ (Later.property _) ⟨by omega, by omega, by omega, by omega, by omega, by omega, by omega, by omega, by omega⟩ rfl)) | (go_at_call 18; exact Goes.quiet (has_s _ _ _ (Later.property _) (by omega) (by omega) (by omega) rfl)) | (go_at_call 26; exact Goes.quiet (in_s _ _ (Later.property _))) | (go_at_call 27; exact Goes.quiet (out_s _ _ (Later.property _)))))
            clear hne q0_0 q0_1 q0_2 q1_0 q1_1 q1_2 q1_3 q1_4 q1_5 q1_6 q2_0 q2_1
            refine wpQuiet_nil ?_
            rintro w33 ⟨⟨_, hs⟩, rfl⟩
            have HS33 := Lib.hid hs
            clear hs HS32
            have c0_0 : w33.cell? ⟨gt, 0, none⟩ = some (.int .i64 r) := HS33.out.cell 0 0 rfl rfl
            have c0_1 : w33.cell? ⟨gt, 1, none⟩ = some (.int .i64 og) := HS33.out.cell 0 1 rfl rfl
            have c0_2 : w33.cell? ⟨gt, 2, none⟩ = some (.int .i64 rt) := HS33.out.cell 0 2 rfl rfl
            have c1_0 : w33.cell? ⟨g, 0, none⟩ = some (.int .i64 r) := HS33.out.cell 1 0 rfl rfl
            have c1_1 : w33.cell? ⟨g, 1, none⟩ = some (.int .i64 og) := HS33.out.cell 1 1 rfl rfl
            have c1_2 : w33.cell? ⟨g, 2, none⟩ = some (.int .i64 rt) := HS33.out.cell 1 2 rfl rfl
            have c1_3 : w33.cell? ⟨g, 3, none⟩ = some (.int .i64 a) := HS33.out.cell 1 3 rfl rfl
            have c1_4 : w33.cell? ⟨g, 4, none⟩ = some (.int .i64 0) := HS33.out.cell 1 4 rfl rfl
            have c1_5 : w33.cell? ⟨g, 5, none⟩ = some (.int .i64 s) := HS33.out.cell 1 5 rfl rfl
            have c1_6 : w33.cell? ⟨g, 6, none⟩ = some (.int .i64 b) := HS33.out.cell 1 6 rfl rfl
            have c2_0 : w33.cell? ⟨ga, 0, none⟩ = some (.int .i64 K) := HS33.out.cell 2 0 rfl rfl
            have c2_1 : w33.cell? ⟨ga, 1, none⟩ = some (.int .i64 N) := HS33.out.cell 2 1 rfl rfl
            clear c0_0 c0_1 c0_2 c1_0 c1_1 c1_2 c1_3 c1_4 c1_5 c1_6 c2_0 c2_1
            go_wp2_with fail
            go_roundw
            case rel => exact ⟨n + 1, a, b, s, rfl, rfl, rfl, by go_num, by omega, by omega, by omega, by omega, by omega, by omega, Lib.hid ((HS33.out.take 2).lit rfl)⟩
            case measure => simp [intOf]; omega
          · skip
            have m2 : decide (0 ≤ N) = false := decide_eq_false (by omega)
            have c0_0 : v31.cell? ⟨gt, 0, none⟩ = some (.int .i64 r) := HS31.out.cell 0 0 rfl rfl
            have c0_1 : v31.cell? ⟨gt, 1, none⟩ = some (.int .i64 og) := HS31.out.cell 0 1 rfl rfl
            have c0_2 : v31.cell? ⟨gt, 2, none⟩ = some (.int .i64 rt) := HS31.out.cell 0 2 rfl rfl
            have c1_0 : v31.cell? ⟨g, 0, none⟩ = some (.int .i64 r) := HS31.out.cell 1 0 rfl rfl
            have c1_1 : v31.cell? ⟨g, 1, none⟩ = some (.int .i64 og) := HS31.out.cell 1 1 rfl rfl
            have c1_2 : v31.cell? ⟨g, 2, none⟩ = some (.int .i64 rt) := HS31.out.cell 1 2 rfl rfl
            have c1_3 : v31.cell? ⟨g, 3, none⟩ = some (.int .i64 a) := HS31.out.cell 1 3 rfl rfl
            have c1_4 : v31.cell? ⟨g, 4, none⟩ = some (.int .i64 0) := HS31.out.cell 1 4 rfl rfl
            have c1_5 : v31.cell? ⟨g, 5, none⟩ = some (.int .i64 s) := HS31.out.cell 1 5 rfl rfl
            have c1_6 : v31.cell? ⟨g, 6, none⟩ = some (.int .i64 b) := HS31.out.cell 1 6 rfl rfl
            have c2_0 : v31.cell? ⟨ga, 0, none⟩ = some (.int .i64 K) := HS31.out.cell 2 0 rfl rfl
            have c2_1 : v31.cell? ⟨ga, 1, none⟩ = some (.int .i64 N) := HS31.out.cell 2 1 rfl rfl
            go_wp2_with fail
            clear c0_0 c0_1 c0_2 c1_0 c1_1 c1_2 c1_3 c1_4 c1_5 c1_6 c2_0 c2_1
            refine (oweno_s r og rt a 0 s b N 1 HS31.out rfl ⟨by omega, by omega, by omega, by omega, by omega, by omega, by omega, by omega, by omega⟩ (by omega) (by omega) (by omega)).mono ?_
            rintro e w32 ⟨rfl, hs⟩
            have HS32 := Lib.hid ((hs.lit rfl : Sts w [(gt, #[.int .i64 r, .int .i64 og, .int .i64 rt], 23), (g, #[.int .i64 r, .int .i64 og, .int .i64 rt, .int .i64 a, .int .i64 0, .int .i64 s, .int .i64 b], 27), (ga, #[.int .i64 K, .int .i64 N], 42)] w32))
            clear HS31
            clear hs
            have c0_0 : w32.cell? ⟨gt, 0, none⟩ = some (.int .i64 r) := HS32.out.cell 0 0 rfl rfl
            have c0_1 : w32.cell? ⟨gt, 1, none⟩ = some (.int .i64 og) := HS32.out.cell 0 1 rfl rfl
            have c0_2 : w32.cell? ⟨gt, 2, none⟩ = some (.int .i64 rt) := HS32.out.cell 0 2 rfl rfl
            have c1_0 : w32.cell? ⟨g, 0, none⟩ = some (.int .i64 r) := HS32.out.cell 1 0 rfl rfl
            have c1_1 : w32.cell? ⟨g, 1, none⟩ = some (.int .i64 og) := HS32.out.cell 1 1 rfl rfl
            have c1_2 : w32.cell? ⟨g, 2, none⟩ = some (.int .i64 rt) := HS32.out.cell 1 2 rfl rfl
            have c1_3 : w32.cell? ⟨g, 3, none⟩ = some (.int .i64 a) := HS32.out.cell 1 3 rfl rfl
            have c1_4 : w32.cell? ⟨g, 4, none⟩ = some (.int .i64 0) := HS32.out.cell 1 4 rfl rfl
            have c1_5 : w32.cell? ⟨g, 5, none⟩ = some (.int .i64 s) := HS32.out.cell 1 5 rfl rfl
            have c1_6 : w32.cell? ⟨g, 6, none⟩ = some (.int .i64 b) := HS32.out.cell 1 6 rfl rfl
            have c2_0 : w32.cell? ⟨ga, 0, none⟩ = some (.int .i64 K) := HS32.out.cell 2 0 rfl rfl
            have c2_1 : w32.cell? ⟨ga, 1, none⟩ = some (.int .i64 N) := HS32.out.cell 2 1 rfl rfl
            go_upto_region 33 with fail
            clear c0_0 c0_1 c0_2 c1_0 c1_1 c1_2 c1_3 c1_4 c1_5 c1_6 c2_0 c2_1
            refine wp_region_sts HS32.out (by kernel_rfl) (by kernel_rfl) ?_
            have hne : Nonempty (Later w [(gt, #[.int .i64 r, .int .i64 og, .int .i64 rt], 23), (g, #[.int .i64 r, .int .i64 og, .int .i64 rt, .int .i64 a, .int .i64 0, .int .i64 s, .int .i64 b], 27), (ga, #[.int .i64 K, .int .i64 N], 42)]) := ⟨⟨_, HS32.out⟩⟩
            have q0_0 : ∀ p : Later w [(gt, #[.int .i64 r, .int .i64 og, .int .i64 rt], 23), (g, #[.int .i64 r, .int .i64 og, .int .i64 rt, .int .i64 a, .int .i64 0, .int .i64 s, .int .i64 b], 27), (ga, #[.int .i64 K, .int .i64 N], 42)], p.val.cell? ⟨gt, 0, none⟩ = some (.int .i64 r) := fun p => p.property.cell 0 0 rfl rfl
            have q0_1 : ∀ p : Later w [(gt, #[.int .i64 r, .int .i64 og, .int .i64 rt], 23), (g, #[.int .i64 r, .int .i64 og, .int .i64 rt, .int .i64 a, .int .i64 0, .int .i64 s, .int .i64 b], 27), (ga, #[.int .i64 K, .int .i64 N], 42)], p.val.cell? ⟨gt, 1, none⟩ = some (.int .i64 og) := fun p => p.property.cell 0 1 rfl rfl
            have q0_2 : ∀ p : Later w [(gt, #[.int .i64 r, .int .i64 og, .int .i64 rt], 23), (g, #[.int .i64 r, .int .i64 og, .int .i64 rt, .int .i64 a, .int .i64 0, .int .i64 s, .int .i64 b], 27), (ga, #[.int .i64 K, .int .i64 N], 42)], p.val.cell? ⟨gt, 2, none⟩ = some (.int .i64 rt) := fun p => p.property.cell 0 2 rfl rfl
            have q1_0 : ∀ p : Later w [(gt, #[.int .i64 r, .int .i64 og, .int .i64 rt], 23), (g, #[.int .i64 r, .int .i64 og, .int .i64 rt, .int .i64 a, .int .i64 0, .int .i64 s, .int .i64 b], 27), (ga, #[.int .i64 K, .int .i64 N], 42)], p.val.cell? ⟨g, 0, none⟩ = some (.int .i64 r) := fun p => p.property.cell 1 0 rfl rfl
            have q1_1 : ∀ p : Later w [(gt, #[.int .i64 r, .int .i64 og, .int .i64 rt], 23), (g, #[.int .i64 r, .int .i64 og, .int .i64 rt, .int .i64 a, .int .i64 0, .int .i64 s, .int .i64 b], 27), (ga, #[.int .i64 K, .int .i64 N], 42)], p.val.cell? ⟨g, 1, none⟩ = some (.int .i64 og) := fun p => p.property.cell 1 1 rfl rfl
            have q1_2 : ∀ p : Later w [(gt, #[.int .i64 r, .int .i64 og, .int .i64 rt], 23), (g, #[.int .i64 r, .int .i64 og, .int .i64 rt, .int .i64 a, .int .i64 0, .int .i64 s, .int .i64 b], 27), (ga, #[.int .i64 K, .int .i64 N], 42)], p.val.cell? ⟨g, 2, none⟩ = some (.int .i64 rt) := fun p => p.property.cell 1 2 rfl rfl
            have q1_3 : ∀ p : Later w [(gt, #[.int .i64 r, .int .i64 og, .int .i64 rt], 23), (g, #[.int .i64 r, .int .i64 og, .int .i64 rt, .int .i64 a, .int .i64 0, .int .i64 s, .int .i64 b], 27), (ga, #[.int .i64 K, .int .i64 N], 42)], p.val.cell? ⟨g, 3, none⟩ = some (.int .i64 a) := fun p => p.property.cell 1 3 rfl rfl
            have q1_4 : ∀ p : Later w [(gt, #[.int .i64 r, .int .i64 og, .int .i64 rt], 23), (g, #[.int .i64 r, .int .i64 og, .int .i64 rt, .int .i64 a, .int .i64 0, .int .i64 s, .int .i64 b], 27), (ga, #[.int .i64 K, .int .i64 N], 42)], p.val.cell? ⟨g, 4, none⟩ = some (.int .i64 0) := fun p => p.property.cell 1 4 rfl rfl
            have q1_5 : ∀ p : Later w [(gt, #[.int .i64 r, .int .i64 og, .int .i64 rt], 23), (g, #[.int .i64 r, .int .i64 og, .int .i64 rt, .int .i64 a, .int .i64 0, .int .i64 s, .int .i64 b], 27), (ga, #[.int .i64 K, .int .i64 N], 42)], p.val.cell? ⟨g, 5, none⟩ = some (.int .i64 s) := fun p => p.property.cell 1 5 rfl rfl
            have q1_6 : ∀ p : Later w [(gt, #[.int .i64 r, .int .i64 og, .int .i64 rt], 23), (g, #[.int .i64 r, .int .i64 og, .int .i64 rt, .int .i64 a, .int .i64 0, .int .i64 s, .int .i64 b], 27), (ga, #[.int .i64 K, .int .i64 N], 42)], p.val.cell? ⟨g, 6, none⟩ = some (.int .i64 b) := fun p => p.property.cell 1 6 rfl rfl
            have q2_0 : ∀ p : Later w [(gt, #[.int .i64 r, .int .i64 og, .int .i64 rt], 23), (g, #[.int .i64 r, .int .i64 og, .int .i64 rt, .int .i64 a, .int .i64 0, .int .i64 s, .int .i64 b], 27), (ga, #[.int .i64 K, .int .i64 N], 42)], p.val.cell? ⟨ga, 0, none⟩ = some (.int .i64 K) := fun p => p.property.cell 2 0 rfl rfl
            have q2_1 : ∀ p : Later w [(gt, #[.int .i64 r, .int .i64 og, .int .i64 rt], 23), (g, #[.int .i64 r, .int .i64 og, .int .i64 rt, .int .i64 a, .int .i64 0, .int .i64 s, .int .i64 b], 27), (ga, #[.int .i64 K, .int .i64 N], 42)], p.val.cell? ⟨ga, 1, none⟩ = some (.int .i64 N) := fun p => p.property.cell 2 1 rfl rfl
            repeat (go_big_quiet_step (first | (go_at_call 19; exact Goes.quiet (nright_s true _ _ _ _ _ _ _ (Later.property _) (by omega) (by omega) (by omega) (by omega) (by omega) (by omega) (by omega) (by omega) (by omega) (decide_eq_true (by omega)))) | (go_at_call 17; exact Goes.quiet (balance_s _ _ _ _ _ _ _ _ (Later.property _) ⟨by omega, by omega, by omega, by omega, by omega, by omega, by omega, by omega, by omega⟩ rfl)) | (go_at_call 18; exact Goes.quiet (has_s _ _ _ (Later.property _) (by omega) (by omega) (by omega) rfl)) | (go_at_call 26; exact Goes.quiet (in_s _ _ (Later.property _))) | (go_at_call 27; exact Goes.quiet (out_s _ _ (Later.property _)))))
            clear hne q0_0 q0_1 q0_2 q1_0 q1_1 q1_2 q1_3 q1_4 q1_5 q1_6 q2_0 q2_1
            refine wpQuiet_nil ?_
            rintro w33 ⟨⟨_, hs⟩, rfl⟩
            have HS33 := Lib.hid hs
            clear hs HS32
            have c0_0 : w33.cell? ⟨gt, 0, none⟩ = some (.int .i64 r) := HS33.out.cell 0 0 rfl rfl
            have c0_1 : w33.cell? ⟨gt, 1, none⟩ = some (.int .i64 og) := HS33.out.cell 0 1 rfl rfl
            have c0_2 : w33.cell? ⟨gt, 2, none⟩ = some (.int .i64 rt) := HS33.out.cell 0 2 rfl rfl
            have c1_0 : w33.cell? ⟨g, 0, none⟩ = some (.int .i64 r) := HS33.out.cell 1 0 rfl rfl
            have c1_1 : w33.cell? ⟨g, 1, none⟩ = some (.int .i64 og) := HS33.out.cell 1 1 rfl rfl
            have c1_2 : w33.cell? ⟨g, 2, none⟩ = some (.int .i64 rt) := HS33.out.cell 1 2 rfl rfl
            have c1_3 : w33.cell? ⟨g, 3, none⟩ = some (.int .i64 a) := HS33.out.cell 1 3 rfl rfl
            have c1_4 : w33.cell? ⟨g, 4, none⟩ = some (.int .i64 0) := HS33.out.cell 1 4 rfl rfl
            have c1_5 : w33.cell? ⟨g, 5, none⟩ = some (.int .i64 s) := HS33.out.cell 1 5 rfl rfl
            have c1_6 : w33.cell? ⟨g, 6, none⟩ = some (.int .i64 b) := HS33.out.cell 1 6 rfl rfl
            have c2_0 : w33.cell? ⟨ga, 0, none⟩ = some (.int .i64 K) := HS33.out.cell 2 0 rfl rfl
            have c2_1 : w33.cell? ⟨ga, 1, none⟩ = some (.int .i64 N) := HS33.out.cell 2 1 rfl rfl
            clear c0_0 c0_1 c0_2 c1_0 c1_1 c1_2 c1_3 c1_4 c1_5 c1_6 c2_0 c2_1
            go_wp2_with fail
            go_roundw
            case rel => exact ⟨n + 1, a, b, s, rfl, rfl, rfl, by go_num, by omega, by omega, by omega, by omega, by omega, by omega, Lib.hid ((HS33.out.take 2).lit rfl)⟩
            case measure => simp [intOf]; omega
      replace k4 := Bool.eq_false_iff.2 k4
      by_cases k5 : ((K : Int) == 5) = true
      · as_aux_lemma =>
          have c0_0 : v31.cell? ⟨gt, 0, none⟩ = some (.int .i64 r) := HS31.out.cell 0 0 rfl rfl
          have c0_1 : v31.cell? ⟨gt, 1, none⟩ = some (.int .i64 og) := HS31.out.cell 0 1 rfl rfl
          have c0_2 : v31.cell? ⟨gt, 2, none⟩ = some (.int .i64 rt) := HS31.out.cell 0 2 rfl rfl
          have c1_0 : v31.cell? ⟨g, 0, none⟩ = some (.int .i64 r) := HS31.out.cell 1 0 rfl rfl
          have c1_1 : v31.cell? ⟨g, 1, none⟩ = some (.int .i64 og) := HS31.out.cell 1 1 rfl rfl
          have c1_2 : v31.cell? ⟨g, 2, none⟩ = some (.int .i64 rt) := HS31.out.cell 1 2 rfl rfl
          have c1_3 : v31.cell? ⟨g, 3, none⟩ = some (.int .i64 a) := HS31.out.cell 1 3 rfl rfl
          have c1_4 : v31.cell? ⟨g, 4, none⟩ = some (.int .i64 0) := HS31.out.cell 1 4 rfl rfl
          have c1_5 : v31.cell? ⟨g, 5, none⟩ = some (.int .i64 s) := HS31.out.cell 1 5 rfl rfl
          have c1_6 : v31.cell? ⟨g, 6, none⟩ = some (.int .i64 b) := HS31.out.cell 1 6 rfl rfl
          have c2_0 : v31.cell? ⟨ga, 0, none⟩ = some (.int .i64 K) := HS31.out.cell 2 0 rfl rfl
          have c2_1 : v31.cell? ⟨ga, 1, none⟩ = some (.int .i64 N) := HS31.out.cell 2 1 rfl rfl
          go_wp2_with fail
          clear c0_0 c0_1 c0_2 c1_0 c1_1 c1_2 c1_3 c1_4 c1_5 c1_6 c2_0 c2_1
          refine (settle_s v5 r og rt a 0 s b N 1 HS31.out rfl ⟨by omega, by omega, by omega, by omega, by omega, by omega, by omega, by omega, by omega⟩ (by omega) (by omega) (by rw [Ev5.out]; unfold wi; omega)).mono ?_
          rintro e w32 ⟨rfl, hs⟩
          have HS32 := Lib.hid ((hs.lit rfl : Sts w [(gt, #[.int .i64 r, .int .i64 og, .int .i64 rt], 23), (g, #[.int .i64 r, .int .i64 og, .int .i64 rt, .int .i64 a, .int .i64 0, .int .i64 (s - v5), .int .i64 b], 27), (ga, #[.int .i64 K, .int .i64 N], 42)] w32))
          clear HS31
          clear hs
          have c0_0 : w32.cell? ⟨gt, 0, none⟩ = some (.int .i64 r) := HS32.out.cell 0 0 rfl rfl
          have c0_1 : w32.cell? ⟨gt, 1, none⟩ = some (.int .i64 og) := HS32.out.cell 0 1 rfl rfl
          have c0_2 : w32.cell? ⟨gt, 2, none⟩ = some (.int .i64 rt) := HS32.out.cell 0 2 rfl rfl
          have c1_0 : w32.cell? ⟨g, 0, none⟩ = some (.int .i64 r) := HS32.out.cell 1 0 rfl rfl
          have c1_1 : w32.cell? ⟨g, 1, none⟩ = some (.int .i64 og) := HS32.out.cell 1 1 rfl rfl
          have c1_2 : w32.cell? ⟨g, 2, none⟩ = some (.int .i64 rt) := HS32.out.cell 1 2 rfl rfl
          have c1_3 : w32.cell? ⟨g, 3, none⟩ = some (.int .i64 a) := HS32.out.cell 1 3 rfl rfl
          have c1_4 : w32.cell? ⟨g, 4, none⟩ = some (.int .i64 0) := HS32.out.cell 1 4 rfl rfl
          have c1_5 : w32.cell? ⟨g, 5, none⟩ = some (.int .i64 (s - v5)) := HS32.out.cell 1 5 rfl rfl
          have c1_6 : w32.cell? ⟨g, 6, none⟩ = some (.int .i64 b) := HS32.out.cell 1 6 rfl rfl
          have c2_0 : w32.cell? ⟨ga, 0, none⟩ = some (.int .i64 K) := HS32.out.cell 2 0 rfl rfl
          have c2_1 : w32.cell? ⟨ga, 1, none⟩ = some (.int .i64 N) := HS32.out.cell 2 1 rfl rfl
          have ne : ((v5 : Int) != min (max N 0) s) = false := by rw [bne_eq_false_iff_eq, Ev5.out]
          go_upto_region 33 with fail
          clear ne
          rw [← Ev5.out]
          clear c0_0 c0_1 c0_2 c1_0 c1_1 c1_2 c1_3 c1_4 c1_5 c1_6 c2_0 c2_1
          refine wp_region_sts HS32.out (by kernel_rfl) (by kernel_rfl) ?_
          have hne : Nonempty (Later w [(gt, #[.int .i64 r, .int .i64 og, .int .i64 rt], 23), (g, #[.int .i64 r, .int .i64 og, .int .i64 rt, .int .i64 a, .int .i64 0, .int .i64 (s - v5), .int .i64 b], 27), (ga, #[.int .i64 K, .int .i64 N], 42)]) := ⟨⟨_, HS32.out⟩⟩
          have q0_0 : ∀ p : Later w [(gt, #[.int .i64 r, .int .i64 og, .int .i64 rt], 23), (g, #[.int .i64 r, .int .i64 og, .int .i64 rt, .int .i64 a, .int .i64 0, .int .i64 (s - v5), .int .i64 b], 27), (ga, #[.int .i64 K, .int .i64 N], 42)], p.val.cell? ⟨gt, 0, none⟩ = some (.int .i64 r) := fun p => p.property.cell 0 0 rfl rfl
          have q0_1 : ∀ p : Later w [(gt, #[.int .i64 r, .int .i64 og, .int .i64 rt], 23), (g, #[.int .i64 r, .int .i64 og, .int .i64 rt, .int .i64 a, .int .i64 0, .int .i64 (s - v5), .int .i64 b], 27), (ga, #[.int .i64 K, .int .i64 N], 42)], p.val.cell? ⟨gt, 1, none⟩ = some (.int .i64 og) := fun p => p.property.cell 0 1 rfl rfl
          have q0_2 : ∀ p : Later w [(gt, #[.int .i64 r, .int .i64 og, .int .i64 rt], 23), (g, #[.int .i64 r, .int .i64 og, .int .i64 rt, .int .i64 a, .int .i64 0, .int .i64 (s - v5), .int .i64 b], 27), (ga, #[.int .i64 K, .int .i64 N], 42)], p.val.cell? ⟨gt, 2, none⟩ = some (.int .i64 rt) := fun p => p.property.cell 0 2 rfl rfl
          have q1_0 : ∀ p : Later w [(gt, #[.int .i64 r, .int .i64 og, .int .i64 rt], 23), (g, #[.int .i64 r, .int .i64 og, .int .i64 rt, .int .i64 a, .int .i64 0, .int .i64 (s - v5), .int .i64 b], 27), (ga, #[.int .i64 K, .int .i64 N], 42)], p.val.cell? ⟨g, 0, none⟩ = some (.int .i64 r) := fun p => p.property.cell 1 0 rfl rfl
          have q1_1 : ∀ p : Later w [(gt, #[.int .i64 r, .int .i64 og, .int .i64 rt], 23), (g, #[.int .i64 r, .int .i64 og, .int .i64 rt, .int .i64 a, .int .i64 0, .int .i64 (s - v5), .int .i64 b], 27), (ga, #[.int .i64 K, .int .i64 N], 42)], p.val.cell? ⟨g, 1, none⟩ = some (.int .i64 og) := fun p => p.property.cell 1 1 rfl rfl
          have q1_2 : ∀ p : Later w [(gt, #[.int .i64 r, .int .i64 og, .int .i64 rt], 23), (g, #[.int .i64 r, .int .i64 og, .int .i64 rt, .int .i64 a, .int .i64 0, .int .i64 (s - v5), .int .i64 b], 27), (ga, #[.int .i64 K, .int .i64 N], 42)], p.val.cell? ⟨g, 2, none⟩ = some (.int .i64 rt) := fun p => p.property.cell 1 2 rfl rfl
          have q1_3 : ∀ p : Later w [(gt, #[.int .i64 r, .int .i64 og, .int .i64 rt], 23), (g, #[.int .i64 r, .int .i64 og, .int .i64 rt, .int .i64 a, .int .i64 0, .int .i64 (s - v5), .int .i64 b], 27), (ga, #[.int .i64 K, .int .i64 N], 42)], p.val.cell? ⟨g, 3, none⟩ = some (.int .i64 a) := fun p => p.property.cell 1 3 rfl rfl
          have q1_4 : ∀ p : Later w [(gt, #[.int .i64 r, .int .i64 og, .int .i64 rt], 23), (g, #[.int .i64 r, .int .i64 og, .int .i64 rt, .int .i64 a, .int .i64 0, .int .i64 (s - v5), .int .i64 b], 27), (ga, #[.int .i64 K, .int .i64 N], 42)], p.val.cell? ⟨g, 4, none⟩ = some (.int .i64 0) := fun p => p.property.cell 1 4 rfl rfl
          have q1_5 : ∀ p : Later w [(gt, #[.int .i64 r, .int .i64 og, .int .i64 rt], 23), (g, #[.int .i64 r, .int .i64 og, .int .i64 rt, .int .i64 a, .int .i64 0, .int .i64 (s - v5), .int .i64 b], 27), (ga, #[.int .i64 K, .int .i64 N], 42)], p.val.cell? ⟨g, 5, none⟩ = some (.int .i64 (s - v5)) := fun p => p.property.cell 1 5 rfl rfl
          have q1_6 : ∀ p : Later w [(gt, #[.int .i64 r, .int .i64 og, .int .i64 rt], 23), (g, #[.int .i64 r, .int .i64 og, .int .i64 rt, .int .i64 a, .int .i64 0, .int .i64 (s - v5), .int .i64 b], 27), (ga, #[.int .i64 K, .int .i64 N], 42)], p.val.cell? ⟨g, 6, none⟩ = some (.int .i64 b) := fun p => p.property.cell 1 6 rfl rfl
          have q2_0 : ∀ p : Later w [(gt, #[.int .i64 r, .int .i64 og, .int .i64 rt], 23), (g, #[.int .i64 r, .int .i64 og, .int .i64 rt, .int .i64 a, .int .i64 0, .int .i64 (s - v5), .int .i64 b], 27), (ga, #[.int .i64 K, .int .i64 N], 42)], p.val.cell? ⟨ga, 0, none⟩ = some (.int .i64 K) := fun p => p.property.cell 2 0 rfl rfl
          have q2_1 : ∀ p : Later w [(gt, #[.int .i64 r, .int .i64 og, .int .i64 rt], 23), (g, #[.int .i64 r, .int .i64 og, .int .i64 rt, .int .i64 a, .int .i64 0, .int .i64 (s - v5), .int .i64 b], 27), (ga, #[.int .i64 K, .int .i64 N], 42)], p.val.cell? ⟨ga, 1, none⟩ = some (.int .i64 N) := fun p => p.property.cell 2 1 rfl rfl
          repeat (go_big_quiet_step (first | (go_at_call 19; exact Goes.quiet (nright_s true _ _ _ _ _ _ _ (Later.property _) (by omega) (by omega) (by omega) (by omega) (by omega) (by omega) (by omega) (by omega) (by omega) (decide_eq_true (by omega)))) | (go_at_call 17; exact Goes.quiet (balance_s _ _ _ _ _ _ _ _ (Later.property _) ⟨by omega, by omega, by omega, by omega, by omega, by omega, by omega, by omega, by omega⟩ rfl)) | (go_at_call 18; exact Goes.quiet (has_s _ _ _ (Later.property _) (by omega) (by omega) (by omega) rfl)) | (go_at_call 26; exact Goes.quiet (in_s _ _ (Later.property _))) | (go_at_call 27; exact Goes.quiet (out_s _ _ (Later.property _)))))
          clear hne q0_0 q0_1 q0_2 q1_0 q1_1 q1_2 q1_3 q1_4 q1_5 q1_6 q2_0 q2_1
          refine wpQuiet_nil ?_
          rintro w33 ⟨⟨_, hs⟩, rfl⟩
          have HS33 := Lib.hid hs
          clear hs HS32
          have c0_0 : w33.cell? ⟨gt, 0, none⟩ = some (.int .i64 r) := HS33.out.cell 0 0 rfl rfl
          have c0_1 : w33.cell? ⟨gt, 1, none⟩ = some (.int .i64 og) := HS33.out.cell 0 1 rfl rfl
          have c0_2 : w33.cell? ⟨gt, 2, none⟩ = some (.int .i64 rt) := HS33.out.cell 0 2 rfl rfl
          have c1_0 : w33.cell? ⟨g, 0, none⟩ = some (.int .i64 r) := HS33.out.cell 1 0 rfl rfl
          have c1_1 : w33.cell? ⟨g, 1, none⟩ = some (.int .i64 og) := HS33.out.cell 1 1 rfl rfl
          have c1_2 : w33.cell? ⟨g, 2, none⟩ = some (.int .i64 rt) := HS33.out.cell 1 2 rfl rfl
          have c1_3 : w33.cell? ⟨g, 3, none⟩ = some (.int .i64 a) := HS33.out.cell 1 3 rfl rfl
          have c1_4 : w33.cell? ⟨g, 4, none⟩ = some (.int .i64 0) := HS33.out.cell 1 4 rfl rfl
          have c1_5 : w33.cell? ⟨g, 5, none⟩ = some (.int .i64 (s - v5)) := HS33.out.cell 1 5 rfl rfl
          have c1_6 : w33.cell? ⟨g, 6, none⟩ = some (.int .i64 b) := HS33.out.cell 1 6 rfl rfl
          have c2_0 : w33.cell? ⟨ga, 0, none⟩ = some (.int .i64 K) := HS33.out.cell 2 0 rfl rfl
          have c2_1 : w33.cell? ⟨ga, 1, none⟩ = some (.int .i64 N) := HS33.out.cell 2 1 rfl rfl
          clear c0_0 c0_1 c0_2 c1_0 c1_1 c1_2 c1_3 c1_4 c1_5 c1_6 c2_0 c2_1
          go_wp2_with fail
          go_roundw
          case rel => exact ⟨n + 1, a, b, (s - v5), rfl, rfl, rfl, by go_num, by omega, by omega, by omega, by omega, by omega, by omega, Lib.hid ((HS33.out.take 2).lit rfl)⟩
          case measure => simp [intOf]; omega
      replace k5 := Bool.eq_false_iff.2 k5
      have c0_0 : v31.cell? ⟨gt, 0, none⟩ = some (.int .i64 r) := HS31.out.cell 0 0 rfl rfl
      have c0_1 : v31.cell? ⟨gt, 1, none⟩ = some (.int .i64 og) := HS31.out.cell 0 1 rfl rfl
      have c0_2 : v31.cell? ⟨gt, 2, none⟩ = some (.int .i64 rt) := HS31.out.cell 0 2 rfl rfl
      have c1_0 : v31.cell? ⟨g, 0, none⟩ = some (.int .i64 r) := HS31.out.cell 1 0 rfl rfl
      have c1_1 : v31.cell? ⟨g, 1, none⟩ = some (.int .i64 og) := HS31.out.cell 1 1 rfl rfl
      have c1_2 : v31.cell? ⟨g, 2, none⟩ = some (.int .i64 rt) := HS31.out.cell 1 2 rfl rfl
      have c1_3 : v31.cell? ⟨g, 3, none⟩ = some (.int .i64 a) := HS31.out.cell 1 3 rfl rfl
      have c1_4 : v31.cell? ⟨g, 4, none⟩ = some (.int .i64 0) := HS31.out.cell 1 4 rfl rfl
      have c1_5 : v31.cell? ⟨g, 5, none⟩ = some (.int .i64 s) := HS31.out.cell 1 5 rfl rfl
      have c1_6 : v31.cell? ⟨g, 6, none⟩ = some (.int .i64 b) := HS31.out.cell 1 6 rfl rfl
      have c2_0 : v31.cell? ⟨ga, 0, none⟩ = some (.int .i64 K) := HS31.out.cell 2 0 rfl rfl
      have c2_1 : v31.cell? ⟨ga, 1, none⟩ = some (.int .i64 N) := HS31.out.cell 2 1 rfl rfl
      go_upto_region 33 with fail
      clear c0_0 c0_1 c0_2 c1_0 c1_1 c1_2 c1_3 c1_4 c1_5 c1_6 c2_0 c2_1
      refine wp_region_sts HS31.out (by kernel_rfl) (by kernel_rfl) ?_
      have hne : Nonempty (Later w [(gt, #[.int .i64 r, .int .i64 og, .int .i64 rt], 23), (g, #[.int .i64 r, .int .i64 og, .int .i64 rt, .int .i64 a, .int .i64 0, .int .i64 s, .int .i64 b], 27), (ga, #[.int .i64 K, .int .i64 N], 42)]) := ⟨⟨_, HS31.out⟩⟩
      have q0_0 : ∀ p : Later w [(gt, #[.int .i64 r, .int .i64 og, .int .i64 rt], 23), (g, #[.int .i64 r, .int .i64 og, .int .i64 rt, .int .i64 a, .int .i64 0, .int .i64 s, .int .i64 b], 27), (ga, #[.int .i64 K, .int .i64 N], 42)], p.val.cell? ⟨gt, 0, none⟩ = some (.int .i64 r) := fun p => p.property.cell 0 0 rfl rfl
      have q0_1 : ∀ p : Later w [(gt, #[.int .i64 r, .int .i64 og, .int .i64 rt], 23), (g, #[.int .i64 r, .int .i64 og, .int .i64 rt, .int .i64 a, .int .i64 0, .int .i64 s, .int .i64 b], 27), (ga, #[.int .i64 K, .int .i64 N], 42)], p.val.cell? ⟨gt, 1, none⟩ = some (.int .i64 og) := fun p => p.property.cell 0 1 rfl rfl
      have q0_2 : ∀ p : Later w [(gt, #[.int .i64 r, .int .i64 og, .int .i64 rt], 23), (g, #[.int .i64 r, .int .i64 og, .int .i64 rt, .int .i64 a, .int .i64 0, .int .i64 s, .int .i64 b], 27), (ga, #[.int .i64 K, .int .i64 N], 42)], p.val.cell? ⟨gt, 2, none⟩ = some (.int .i64 rt) := fun p => p.property.cell 0 2 rfl rfl
      have q1_0 : ∀ p : Later w [(gt, #[.int .i64 r, .int .i64 og, .int .i64 rt], 23), (g, #[.int .i64 r, .int .i64 og, .int .i64 rt, .int .i64 a, .int .i64 0, .int .i64 s, .int .i64 b], 27), (ga, #[.int .i64 K, .int .i64 N], 42)], p.val.cell? ⟨g, 0, none⟩ = some (.int .i64 r) := fun p => p.property.cell 1 0 rfl rfl
      have q1_1 : ∀ p : Later w [(gt, #[.int .i64 r, .int .i64 og, .int .i64 rt], 23), (g, #[.int .i64 r, .int .i64 og, .int .i64 rt, .int .i64 a, .int .i64 0, .int .i64 s, .int .i64 b], 27), (ga, #[.int .i64 K, .int .i64 N], 42)], p.val.cell? ⟨g, 1, none⟩ = some (.int .i64 og) := fun p => p.property.cell 1 1 rfl rfl
      have q1_2 : ∀ p : Later w [(gt, #[.int .i64 r, .int .i64 og, .int .i64 rt], 23), (g, #[.int .i64 r, .int .i64 og, .int .i64 rt, .int .i64 a, .int .i64 0, .int .i64 s, .int .i64 b], 27), (ga, #[.int .i64 K, .int .i64 N], 42)], p.val.cell? ⟨g, 2, none⟩ = some (.int .i64 rt) := fun p => p.property.cell 1 2 rfl rfl
      have q1_3 : ∀ p : Later w [(gt, #[.int .i64 r, .int .i64 og, .int .i64 rt], 23), (g, #[.int .i64 r, .int .i64 og, .int .i64 rt, .int .i64 a, .int .i64 0, .int .i64 s, .int .i64 b], 27), (ga, #[.int .i64 K, .int .i64 N], 42)], p.val.cell? ⟨g, 3, none⟩ = some (.int .i64 a) := fun p => p.property.cell 1 3 rfl rfl
      have q1_4 : ∀ p : Later w [(gt, #[.int .i64 r, .int .i64 og, .int .i64 rt], 23), (g, #[.int .i64 r, .int .i64 og, .int .i64 rt, .int .i64 a, .int .i64 0, .int .i64 s, .int .i64 b], 27), (ga, #[.int .i64 K, .int .i64 N], 42)], p.val.cell? ⟨g, 4, none⟩ = some (.int .i64 0) := fun p => p.property.cell 1 4 rfl rfl
      have q1_5 : ∀ p : Later w [(gt, #[.int .i64 r, .int .i64 og, .int .i64 rt], 23), (g, #[.int .i64 r, .int .i64 og, .int .i64 rt, .int .i64 a, .int .i64 0, .int .i64 s, .int .i64 b], 27), (ga, #[.int .i64 K, .int .i64 N], 42)], p.val.cell? ⟨g, 5, none⟩ = some (.int .i64 s) := fun p => p.property.cell 1 5 rfl rfl
      have q1_6 : ∀ p : Later w [(gt, #[.int .i64 r, .int .i64 og, .int .i64 rt], 23), (g, #[.int .i64 r, .int .i64 og, .int .i64 rt, .int .i64 a, .int .i64 0, .int .i64 s, .int .i64 b], 27), (ga, #[.int .i64 K, .int .i64 N], 42)], p.val.cell? ⟨g, 6, none⟩ = some (.int .i64 b) := fun p => p.property.cell 1 6 rfl rfl
      have q2_0 : ∀ p : Later w [(gt, #[.int .i64 r, .int .i64 og, .int .i64 rt], 23), (g, #[.int .i64 r, .int .i64 og, .int .i64 rt, .int .i64 a, .int .i64 0, .int .i64 s, .int .i64 b], 27), (ga, #[.int .i64 K, .int .i64 N], 42)], p.val.cell? ⟨ga, 0, none⟩ = some (.int .i64 K) := fun p => p.property.cell 2 0 rfl rfl
      have q2_1 : ∀ p : Later w [(gt, #[.int .i64 r, .int .i64 og, .int .i64 rt], 23), (g, #[.int .i64 r, .int .i64 og, .int .i64 rt, .int .i64 a, .int .i64 0, .int .i64 s, .int .i64 b], 27), (ga, #[.int .i64 K, .int .i64 N], 42)], p.val.cell? ⟨ga, 1, none⟩ = some (.int .i64 N) := fun p => p.property.cell 2 1 rfl rfl
      repeat (go_big_quiet_step (first | (go_at_call 19; exact Goes.quiet (nright_s true _ _ _ _ _ _ _ (Later.property _) (by omega) (by omega) (by omega) (by omega) (by omega) (by omega) (by omega) (by omega) (by omega) (decide_eq_true (by omega)))) | (go_at_call 17; exact Goes.quiet (balance_s _ _ _ _ _ _ _ _ (Later.property _) ⟨by omega, by omega, by omega, by omega, by omega, by omega, by omega, by omega, by omega⟩ rfl)) | (go_at_call 18; exact Goes.quiet (has_s _ _ _ (Later.property _) (by omega) (by omega) (by omega) rfl)) | (go_at_call 26; exact Goes.quiet (in_s _ _ (Later.property _))) | (go_at_call 27; exact Goes.quiet (out_s _ _ (Later.property _)))))
      clear hne q0_0 q0_1 q0_2 q1_0 q1_1 q1_2 q1_3 q1_4 q1_5 q1_6 q2_0 q2_1
      refine wpQuiet_nil ?_
      rintro w32 ⟨⟨_, hs⟩, rfl⟩
      have HS32 := Lib.hid hs
      clear hs HS31
      have c0_0 : w32.cell? ⟨gt, 0, none⟩ = some (.int .i64 r) := HS32.out.cell 0 0 rfl rfl
      have c0_1 : w32.cell? ⟨gt, 1, none⟩ = some (.int .i64 og) := HS32.out.cell 0 1 rfl rfl
      have c0_2 : w32.cell? ⟨gt, 2, none⟩ = some (.int .i64 rt) := HS32.out.cell 0 2 rfl rfl
      have c1_0 : w32.cell? ⟨g, 0, none⟩ = some (.int .i64 r) := HS32.out.cell 1 0 rfl rfl
      have c1_1 : w32.cell? ⟨g, 1, none⟩ = some (.int .i64 og) := HS32.out.cell 1 1 rfl rfl
      have c1_2 : w32.cell? ⟨g, 2, none⟩ = some (.int .i64 rt) := HS32.out.cell 1 2 rfl rfl
      have c1_3 : w32.cell? ⟨g, 3, none⟩ = some (.int .i64 a) := HS32.out.cell 1 3 rfl rfl
      have c1_4 : w32.cell? ⟨g, 4, none⟩ = some (.int .i64 0) := HS32.out.cell 1 4 rfl rfl
      have c1_5 : w32.cell? ⟨g, 5, none⟩ = some (.int .i64 s) := HS32.out.cell 1 5 rfl rfl
      have c1_6 : w32.cell? ⟨g, 6, none⟩ = some (.int .i64 b) := HS32.out.cell 1 6 rfl rfl
      have c2_0 : w32.cell? ⟨ga, 0, none⟩ = some (.int .i64 K) := HS32.out.cell 2 0 rfl rfl
      have c2_1 : w32.cell? ⟨ga, 1, none⟩ = some (.int .i64 N) := HS32.out.cell 2 1 rfl rfl
      clear c0_0 c0_1 c0_2 c1_0 c1_1 c1_2 c1_3 c1_4 c1_5 c1_6 c2_0 c2_1
      go_wp2_with fail
      go_roundw
      case rel => exact ⟨n + 1, a, b, s, rfl, rfl, rfl, by go_num, by omega, by omega, by omega, by omega, by omega, by omega, Lib.hid ((HS32.out.take 2).lit rfl)⟩
      case measure => simp [intOf]; omega
    · have q6 : ¬ n < n1 ∨ (n < n1 ∧ ¬ n < 30) := by omega
      clear q1
      rcases q6 with q2 | ⟨q2, q3⟩
      all_goals
        go_wp2_with fail
        refine (noteRuns_s HSr.out).mono ?_
        rintro e w33 ⟨rfl, hs⟩
        have HS33 := Lib.hid ((hs.lit rfl : Sts w [(gt, #[.int .i64 r, .int .i64 og, .int .i64 rt], 23), (g, #[.int .i64 r, .int .i64 og, .int .i64 rt, .int .i64 a, .int .i64 0, .int .i64 s, .int .i64 b], 27)] w33))
        clear HSr
        clear hs
        go_wp2
        go_ret
        exact ⟨rfl, HS33.out.bel⟩

end Go.Proofs.Ytllbpjaiplnbnaa

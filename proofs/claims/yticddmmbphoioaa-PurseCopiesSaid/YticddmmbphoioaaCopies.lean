import Derived.Test.YticddmmbphoioaaMove
import Derived.Test.YticddmmbphoioaaPurseRuns
import Derived.Test.YticddmmbphoioaaWithin
namespace Go.Proofs.Yticddmmbphoioaa
open Go.RowKit
set_option linter.unusedVariables false
set_option linter.unusedSimpArgs false
attribute [local go_sem] bmax2 bmin2 bmax_two bmin_two bmax_three bmin_three
set_option maxHeartbeats 4000000 in
set_option maxRecDepth 100000 in
theorem purseCopies_walk (a0 : Int) (A1 : Option Addr) (n1 c1 : Nat) (z1 : List Int) (A2 : Option Addr) (n2 c2 : Nat) (z2 : List Int) (w : World) (_h0 : -9223372036854775808 ≤ a0 ∧ a0 ≤ 9223372036854775807) (h1 : Ints w A1 n1 z1) (h2 : Ints w A2 n2 z2) :
    Calls Try.prog 6 #[.int .i64 a0, .slice A1 n1 c1, .slice A2 n2 c2] w fun e w' => e = .returned (.bool true) ∧ Below w.heap.size w w' := by
  obtain ⟨h, hh⟩ : ∃ h, h = within a0 0 1099511627776 := ⟨_, rfl⟩
  obtain ⟨bh0, bh1⟩ : 0 ≤ h ∧ h ≤ 1099511627776 := by rw [hh]; exact within_bd a0 (by omega)
  have Eh := Lib.hid hh
  clear hh
  have N1 := h1.most
  have N2 := h2.most
  have H1 := Lib.hid h1
  have H2 := Lib.hid h2
  clear h1 h2
  have HS0 := Lib.hid (Sts.nil w)
  go_enter Try.func6, Try.ntmps6
  go_wp2_with fail
  refine (within_s a0 0 1099511627776 HS0.out (by omega) (by omega) (by omega)).mono ?_
  rintro e w1 ⟨rfl, hs⟩
  have HS1 := Lib.hid ((hs.lit rfl : Sts w [] w1))
  clear HS0
  clear hs
  rw [← Eh.out]
  go_wp2_with fail
  refine (ofyes_s h h HS1.out (by omega) (by omega) rfl).mono ?_
  rintro e w2 ⟨rfl, hs⟩
  have HS2 := Lib.hid ((hs.lit rfl : Sts w [] w2))
  clear HS1
  clear hs
  go_wp2_with fail
  have HS3 := Lib.hid (((HS2.out.add (g := w2.heap.size) (by simp) #[.int .i64 h, .int .i64 0] 35).add (g := w2.heap.size + 1) (by simp) #[.int .i64 h, .int .i64 0] 35).lit (L' := [(w2.heap.size, #[.int .i64 h, .int .i64 0], 35), (w2.heap.size + 1, #[.int .i64 h, .int .i64 0], 35)]) rfl)
  clear HS2
  generalize w2.heap.size + 1 = gq at *
  generalize w2.heap.size = gp at *
  refine (in_s h 0 HS3.out).mono ?_
  rintro e w4 ⟨rfl, hs⟩
  have HS4 := Lib.hid ((hs.lit rfl : Sts w [(gp, #[.int .i64 h, .int .i64 0], 35), (gq, #[.int .i64 h, .int .i64 0], 35)] w4))
  clear HS3
  clear hs
  have c0_0 : w4.cell? ⟨gp, 0, none⟩ = some (.int .i64 h) := HS4.out.cell 0 0 rfl rfl
  have c0_1 : w4.cell? ⟨gp, 1, none⟩ = some (.int .i64 0) := HS4.out.cell 0 1 rfl rfl
  have c1_0 : w4.cell? ⟨gq, 0, none⟩ = some (.int .i64 h) := HS4.out.cell 1 0 rfl rfl
  have c1_1 : w4.cell? ⟨gq, 1, none⟩ = some (.int .i64 0) := HS4.out.cell 1 1 rfl rfl
  clear c0_0 c0_1 c1_0 c1_1
  go_upto_block 0 with fail
  go_cut [9, 10] (fun s9 s10 wc => ∃ (s r : Int), s9 = .int .i64 s ∧ s10 = .int .i64 r ∧ 0 ≤ r ∧ r ≤ s ∧ s ≤ 1099511627776 + 20 * 1073741824 ∧ Hid (Sts w [(gp, #[.int .i64 s, .int .i64 r], 35), (gq, #[.int .i64 h, .int .i64 0], 35)] wc))
  case first =>
    go_wp2_with fail
    go_loopw [9, 10, 11] (fun v9 v10 v11 wr => ∃ (i : Nat) (s r : Int), v9 = .int .i64 s ∧ v10 = .int .i64 r ∧ v11 = .int .i64 i ∧ i ≤ n1 ∧ i ≤ 20 ∧ 0 ≤ r ∧ r ≤ s ∧ s ≤ 1099511627776 + i * 1073741824 ∧ Hid (Sts w [(gp, #[.int .i64 s, .int .i64 r], 35), (gq, #[.int .i64 h, .int .i64 0], 35)] wr)) (fun _ _ v11 _ => 20 - (intOf v11).toNat)
    case atStart => exact ⟨0, h, 0, rfl, rfl, rfl, by omega, by omega, by omega, by omega, by omega, HS4⟩
    case round =>
      obtain ⟨i, s, r, rfl, rfl, rfl, hi1, hi2, hr0, hr1, hs1, HSr⟩ := hrel
      clear HS4
      by_cases q1 : i < n1 ∧ i < 20
      · obtain ⟨q2, q3⟩ := q1
        obtain ⟨ad, hA, hc⟩ := H1.out.at_ i q2
        have hcell := HSr.out.old hc
        clear hc
        generalize z1.getD i 0 = x at hcell
        obtain ⟨y, hy⟩ : ∃ y, y = within x 0 1073741824 := ⟨_, rfl⟩
        obtain ⟨by0, by1⟩ : 0 ≤ y ∧ y ≤ 1073741824 := by rw [hy]; exact within_bd x (by omega)
        have Ey := Lib.hid hy
        clear hy
        obtain rfl := hA
        go_wp2_with fail
        all_goals
          refine (within_s x 0 1073741824 HSr.out (by omega) (by omega) (by omega)).mono ?_
          rintro e w5 ⟨rfl, hs⟩
          have HS5 := Lib.hid ((hs.lit rfl : Sts w [(gp, #[.int .i64 s, .int .i64 r], 35), (gq, #[.int .i64 h, .int .i64 0], 35)] w5))
          clear HSr
          clear hs
          have c0_0 : w5.cell? ⟨gp, 0, none⟩ = some (.int .i64 s) := HS5.out.cell 0 0 rfl rfl
          have c0_1 : w5.cell? ⟨gp, 1, none⟩ = some (.int .i64 r) := HS5.out.cell 0 1 rfl rfl
          have c1_0 : w5.cell? ⟨gq, 0, none⟩ = some (.int .i64 h) := HS5.out.cell 1 0 rfl rfl
          have c1_1 : w5.cell? ⟨gq, 1, none⟩ = some (.int .i64 0) := HS5.out.cell 1 1 rfl rfl
          rw [← Ey.out]
          by_cases q4 : (bits BinOp.and IntKind.i64 (i : Int) 1 == 0) = true
          · skip
            go_wp2_with fail
            clear c0_0 c0_1 c1_0 c1_1
            refine (put_s s r y 0 HS5.out rfl (by omega) (by omega) (by omega)).mono ?_
            rintro e w6 ⟨rfl, hs⟩
            have HS6 := Lib.hid ((hs.lit rfl : Sts w [(gp, #[.int .i64 (s + y), .int .i64 r], 35), (gq, #[.int .i64 h, .int .i64 0], 35)] w6))
            clear HS5
            clear hs
            have c0_0 : w6.cell? ⟨gp, 0, none⟩ = some (.int .i64 (s + y)) := HS6.out.cell 0 0 rfl rfl
            have c0_1 : w6.cell? ⟨gp, 1, none⟩ = some (.int .i64 r) := HS6.out.cell 0 1 rfl rfl
            have c1_0 : w6.cell? ⟨gq, 0, none⟩ = some (.int .i64 h) := HS6.out.cell 1 0 rfl rfl
            have c1_1 : w6.cell? ⟨gq, 1, none⟩ = some (.int .i64 0) := HS6.out.cell 1 1 rfl rfl
            go_wp2_with fail
            go_roundw
            case rel => exact ⟨i + 1, s + y, r, rfl, rfl, by go_num, by omega, by omega, by omega, by omega, by omega, HS6⟩
            case measure => simp [intOf]; omega
          · have q5 := Bool.eq_false_iff.2 q4
            clear q4
            have tb := takes_bd s r y hr1
            obtain ⟨t, ht⟩ : ∃ t, t = takes s r y := ⟨_, rfl⟩
            rw [← ht] at tb
            obtain ⟨t0, t1⟩ := tb
            have Et := Lib.hid ht
            clear ht
            go_wp2_with fail
            clear c0_0 c0_1 c1_0 c1_1
            refine (take_s t s r y 0 HS5.out rfl (by omega) (by omega) (by omega) (by omega) (by omega) Et.out).mono ?_
            rintro e w6 ⟨rfl, hs⟩
            have HS6 := Lib.hid ((hs.lit rfl : Sts w [(gp, #[.int .i64 s, .int .i64 (r + t)], 35), (gq, #[.int .i64 h, .int .i64 0], 35)] w6))
            clear HS5
            clear hs
            have c0_0 : w6.cell? ⟨gp, 0, none⟩ = some (.int .i64 s) := HS6.out.cell 0 0 rfl rfl
            have c0_1 : w6.cell? ⟨gp, 1, none⟩ = some (.int .i64 (r + t)) := HS6.out.cell 0 1 rfl rfl
            have c1_0 : w6.cell? ⟨gq, 0, none⟩ = some (.int .i64 h) := HS6.out.cell 1 0 rfl rfl
            have c1_1 : w6.cell? ⟨gq, 1, none⟩ = some (.int .i64 0) := HS6.out.cell 1 1 rfl rfl
            go_wp2_with fail
            go_roundw
            case rel => exact ⟨i + 1, s, r + t, rfl, rfl, by go_num, by omega, by omega, by omega, by omega, by omega, HS6⟩
            case measure => simp [intOf]; omega
      · have q6 : ¬ i < n1 ∨ (i < n1 ∧ ¬ i < 20) := by omega
        clear q1
        rcases q6 with q2 | ⟨q2, q3⟩
        all_goals
          go_wp2_with fail
          go_meet
          exact ⟨s, r, rfl, rfl, by omega, by omega, by omega, HSr⟩
  case rest =>
    obtain ⟨s, r, rfl, rfl, hr0, hr1, hs1, HSc⟩ := hcut
    clear HS4
    go_upto_block 2 with fail
    go_cut [] (fun wc => ∃ (a b : Int), 0 ≤ b ∧ b ≤ a ∧ a ≤ 1099511627776 + 20 * 1073741824 ∧ Hid (Sts w [(gp, #[.int .i64 s, .int .i64 r], 35), (gq, #[.int .i64 a, .int .i64 b], 35)] wc))
    case first =>
      go_wp2_with fail
      go_loopw [13] (fun v13 wr => ∃ (i : Nat) (a b : Int), v13 = .int .i64 i ∧ i ≤ n2 ∧ i ≤ 20 ∧ 0 ≤ b ∧ b ≤ a ∧ a ≤ 1099511627776 + i * 1073741824 ∧ Hid (Sts w [(gp, #[.int .i64 s, .int .i64 r], 35), (gq, #[.int .i64 a, .int .i64 b], 35)] wr)) (fun v13 _ => 20 - (intOf v13).toNat)
      case atStart => exact ⟨0, h, 0, rfl, by omega, by omega, by omega, by omega, by omega, HSc⟩
      case round =>
        obtain ⟨i, a, b, rfl, hi1, hi2, hb0, hb1, ha1, HSr⟩ := hrel
        clear HSc
        by_cases q1 : i < n2 ∧ i < 20
        · obtain ⟨q2, q3⟩ := q1
          obtain ⟨ad, hA, hc⟩ := H2.out.at_ i q2
          have hcell := HSr.out.old hc
          clear hc
          generalize z2.getD i 0 = x at hcell
          obtain ⟨y, hy⟩ : ∃ y, y = within x 0 1073741824 := ⟨_, rfl⟩
          obtain ⟨by0, by1⟩ : 0 ≤ y ∧ y ≤ 1073741824 := by rw [hy]; exact within_bd x (by omega)
          have Ey := Lib.hid hy
          clear hy
          obtain rfl := hA
          go_wp2_with fail
          refine (within_s x 0 1073741824 HSr.out (by omega) (by omega) (by omega)).mono ?_
          rintro e w21 ⟨rfl, hs⟩
          have HS21 := Lib.hid ((hs.lit rfl : Sts w [(gp, #[.int .i64 s, .int .i64 r], 35), (gq, #[.int .i64 a, .int .i64 b], 35)] w21))
          clear HSr
          clear hs
          have c0_0 : w21.cell? ⟨gp, 0, none⟩ = some (.int .i64 s) := HS21.out.cell 0 0 rfl rfl
          have c0_1 : w21.cell? ⟨gp, 1, none⟩ = some (.int .i64 r) := HS21.out.cell 0 1 rfl rfl
          have c1_0 : w21.cell? ⟨gq, 0, none⟩ = some (.int .i64 a) := HS21.out.cell 1 0 rfl rfl
          have c1_1 : w21.cell? ⟨gq, 1, none⟩ = some (.int .i64 b) := HS21.out.cell 1 1 rfl rfl
          rw [← Ey.out]
          go_wp2_with fail
          clear c0_0 c0_1 c1_0 c1_1
          refine (put_s a b y 1 HS21.out rfl (by omega) (by omega) (by omega)).mono ?_
          rintro e w22 ⟨rfl, hs⟩
          have HS22 := Lib.hid ((hs.lit rfl : Sts w [(gp, #[.int .i64 s, .int .i64 r], 35), (gq, #[.int .i64 (a + y), .int .i64 b], 35)] w22))
          clear HS21
          clear hs
          by_cases q4 : (bits BinOp.and IntKind.i64 (i : Int) 3 == 3) = true
          · skip
            go_wp2_with fail
            refine (all_s (a + y) b 1 HS22.out rfl (by omega) (by omega) (by omega)).mono ?_
            rintro e w23 ⟨rfl, hs⟩
            have HS23 := Lib.hid ((hs.lit rfl : Sts w [(gp, #[.int .i64 s, .int .i64 r], 35), (gq, #[.int .i64 (a + y), .int .i64 (a + y)], 35)] w23))
            clear HS22
            clear hs
            have c0_0 : w23.cell? ⟨gp, 0, none⟩ = some (.int .i64 s) := HS23.out.cell 0 0 rfl rfl
            have c0_1 : w23.cell? ⟨gp, 1, none⟩ = some (.int .i64 r) := HS23.out.cell 0 1 rfl rfl
            have c1_0 : w23.cell? ⟨gq, 0, none⟩ = some (.int .i64 (a + y)) := HS23.out.cell 1 0 rfl rfl
            have c1_1 : w23.cell? ⟨gq, 1, none⟩ = some (.int .i64 (a + y)) := HS23.out.cell 1 1 rfl rfl
            go_wp2_with fail
            go_roundw
            case rel => exact ⟨i + 1, a + y, a + y, by go_num, by omega, by omega, by omega, by omega, by omega, HS23⟩
            case measure => simp [intOf]; omega
          · have q5 := Bool.eq_false_iff.2 q4
            clear q4
            go_wp2_with fail
            go_roundw
            case rel => exact ⟨i + 1, a + y, b, by go_num, by omega, by omega, by omega, by omega, by omega, HS22⟩
            case measure => simp [intOf]; omega
        · have q6 : ¬ i < n2 ∨ (i < n2 ∧ ¬ i < 20) := by omega
          clear q1
          rcases q6 with q2 | ⟨q2, q3⟩
          all_goals
            go_wp2_with fail
            go_meet
            exact ⟨a, b, by omega, by omega, by omega, HSr⟩
    case rest =>
      obtain ⟨a, b, hb0, hb1, ha1, HSd⟩ := hcut
      clear HSc
      go_wp2_with fail
      have HS41 := Lib.hid ((HSd.out.add (g := wc.heap.size) (by simp) #[.int .i64 0, .int .i64 0] 35).lit (L' := [(gp, #[.int .i64 s, .int .i64 r], 35), (gq, #[.int .i64 a, .int .i64 b], 35), (wc.heap.size, #[.int .i64 0, .int .i64 0], 35)]) rfl)
      clear HSd
      generalize wc.heap.size = gz at *
      refine wp_region_sts HS41.out (by kernel_rfl) (by kernel_rfl) ?_
      have hne : Nonempty (Later w [(gp, #[.int .i64 s, .int .i64 r], 35), (gq, #[.int .i64 a, .int .i64 b], 35), (gz, #[.int .i64 0, .int .i64 0], 35)]) := ⟨⟨_, HS41.out⟩⟩
      have q0_0 : ∀ p : Later w [(gp, #[.int .i64 s, .int .i64 r], 35), (gq, #[.int .i64 a, .int .i64 b], 35), (gz, #[.int .i64 0, .int .i64 0], 35)], p.val.cell? ⟨gp, 0, none⟩ = some (.int .i64 s) := fun p => p.property.cell 0 0 rfl rfl
      have q0_1 : ∀ p : Later w [(gp, #[.int .i64 s, .int .i64 r], 35), (gq, #[.int .i64 a, .int .i64 b], 35), (gz, #[.int .i64 0, .int .i64 0], 35)], p.val.cell? ⟨gp, 1, none⟩ = some (.int .i64 r) := fun p => p.property.cell 0 1 rfl rfl
      have q1_0 : ∀ p : Later w [(gp, #[.int .i64 s, .int .i64 r], 35), (gq, #[.int .i64 a, .int .i64 b], 35), (gz, #[.int .i64 0, .int .i64 0], 35)], p.val.cell? ⟨gq, 0, none⟩ = some (.int .i64 a) := fun p => p.property.cell 1 0 rfl rfl
      have q1_1 : ∀ p : Later w [(gp, #[.int .i64 s, .int .i64 r], 35), (gq, #[.int .i64 a, .int .i64 b], 35), (gz, #[.int .i64 0, .int .i64 0], 35)], p.val.cell? ⟨gq, 1, none⟩ = some (.int .i64 b) := fun p => p.property.cell 1 1 rfl rfl
      have q2_0 : ∀ p : Later w [(gp, #[.int .i64 s, .int .i64 r], 35), (gq, #[.int .i64 a, .int .i64 b], 35), (gz, #[.int .i64 0, .int .i64 0], 35)], p.val.cell? ⟨gz, 0, none⟩ = some (.int .i64 0) := fun p => p.property.cell 2 0 rfl rfl
      have q2_1 : ∀ p : Later w [(gp, #[.int .i64 s, .int .i64 r], 35), (gq, #[.int .i64 a, .int .i64 b], 35), (gz, #[.int .i64 0, .int .i64 0], 35)], p.val.cell? ⟨gz, 1, none⟩ = some (.int .i64 0) := fun p => p.property.cell 2 1 rfl rfl
      have z1 : decide (((b : Int)) ≤ a) = true := decide_eq_true (by omega)
      repeat (go_big_quiet_step (first | (go_at_call 19; exact Goes.quiet (in_s _ _ (Later.property _))) | (go_at_call 20; exact Goes.quiet (out_s _ _ (Later.property _))) | (go_at_call 18; exact Goes.quiet (has_s _ _ _ (Later.property _) (by omega) (by omega) (by omega) rfl)) | (go_at_call 17; exact Goes.quiet (takezero_s 0 0 5 2 (Later.property _) rfl (by omega) (by omega) (by omega) (by omega) (by omega) (by decide))) | (go_at_call 5; exact Goes.quiet (purseRuns_s (Later.property _)))))
      clear hne q0_0 q0_1 q1_0 q1_1 q2_0 q2_1 z1
      refine wpQuiet_nil ?_
      rintro w42 ⟨⟨_, hs⟩, rfl⟩
      have HS42 := Lib.hid hs
      clear hs HS41
      have c0_0 : w42.cell? ⟨gp, 0, none⟩ = some (.int .i64 s) := HS42.out.cell 0 0 rfl rfl
      have c0_1 : w42.cell? ⟨gp, 1, none⟩ = some (.int .i64 r) := HS42.out.cell 0 1 rfl rfl
      have c1_0 : w42.cell? ⟨gq, 0, none⟩ = some (.int .i64 a) := HS42.out.cell 1 0 rfl rfl
      have c1_1 : w42.cell? ⟨gq, 1, none⟩ = some (.int .i64 b) := HS42.out.cell 1 1 rfl rfl
      have c2_0 : w42.cell? ⟨gz, 0, none⟩ = some (.int .i64 0) := HS42.out.cell 2 0 rfl rfl
      have c2_1 : w42.cell? ⟨gz, 1, none⟩ = some (.int .i64 0) := HS42.out.cell 2 1 rfl rfl
      go_wp2
      go_ret
      exact ⟨rfl, HS42.out.bel⟩

end Go.Proofs.Yticddmmbphoioaa

import Derived.Test.YticddmmbphoioaaMove
import Derived.Test.YticddmmbphoioaaPurseRuns
import Derived.Test.YticddmmbphoioaaWithin
namespace Go.Proofs.Yticddmmbphoioaa
open Go.RowKit
set_option linter.unusedVariables false
set_option linter.unusedSimpArgs false
attribute [local go_sem] bmax2 bmin2 bmax_two bmin_two bmax_three bmin_three
set_option maxHeartbeats 4000000 in
set_option maxRecDepth 100000 in
theorem pursePlays_walk (a0 a1 : Int) (A2 : Option Addr) (n2 c2 : Nat) (z2 : List (Int × Int)) (w : World) (h0 : -9223372036854775808 ≤ a0 ∧ a0 ≤ 9223372036854775807) (h1 : -9223372036854775808 ≤ a1 ∧ a1 ≤ 9223372036854775807) (h2 : Pairs w A2 n2 z2) :
    Calls Try.prog 11 #[.int .i64 a0, .int .i64 a1, .slice A2 n2 c2] w fun e w' => e = .returned (.bool true) ∧ Below w.heap.size w w' := by
  have N1 := h2.most
  have H2 := Lib.hid h2
  clear h2
  obtain ⟨f1, hf1⟩ : ∃ f, f = ofs a0 := ⟨_, rfl⟩
  obtain ⟨f2, hf2⟩ : ∃ f, f = ofs a1 := ⟨_, rfl⟩
  obtain ⟨bf0, bf1⟩ := ofs_bd a0
  obtain ⟨bg0, bg1⟩ := ofs_bd a1
  rw [← hf1] at bf0 bf1
  rw [← hf2] at bg0 bg1
  have Ef1 := Lib.hid hf1
  have Ef2 := Lib.hid hf2
  clear hf1 hf2
  obtain ⟨l0, l1⟩ := h0
  obtain ⟨l2, l3⟩ := h1
  have HS0 := Lib.hid (Sts.nil w)
  go_enter Try.func11, Try.ntmps11
  go_wp2_with fail
  refine (of_s a0 HS0.out (by omega) (by omega)).mono ?_
  rintro e w1 ⟨rfl, hs⟩
  have HS1 := Lib.hid ((hs.lit rfl : Sts w [] w1))
  clear HS0
  clear hs
  go_wp2_with fail
  refine (of_s a1 HS1.out (by omega) (by omega)).mono ?_
  rintro e w2 ⟨rfl, hs⟩
  have HS2 := Lib.hid ((hs.lit rfl : Sts w [] w2))
  clear HS1
  clear hs
  rw [← Ef1.out, ← Ef2.out]
  go_upto_region 3 with fail
  have HS3 := Lib.hid (((HS2.out.add (g := w2.heap.size) (by simp) #[.int .i64 f1, .int .i64 0] 35).add (g := w2.heap.size + 1) (by simp) #[.int .i64 f2, .int .i64 0] 35).lit (L' := [(w2.heap.size, #[.int .i64 f1, .int .i64 0], 35), (w2.heap.size + 1, #[.int .i64 f2, .int .i64 0], 35)]) rfl)
  clear HS2
  generalize w2.heap.size + 1 = go at *
  generalize w2.heap.size = gp at *
  go_cut [26] (fun s wc => s = .bool (decide (0 ≤ a0 ∧ a0 ≤ 1152921504606846976)) ∧ Hid (Sts w [(gp, #[.int .i64 f1, .int .i64 0], 35), (go, #[.int .i64 f2, .int .i64 0], 35)] wc))
  case first =>
    by_cases e0 : 0 ≤ a0
    · have e2 : decide (0 ≤ a0) = true := decide_eq_true e0
      by_cases e1 : a0 ≤ 1152921504606846976
      · have e3 : decide (a0 ≤ 1152921504606846976) = true := decide_eq_true e1
        go_wp2_with fail
        go_meet
        exact ⟨(congrArg Value.bool (decide_eq_true (by omega))).symm, HS3⟩
      · have e3 : decide (a0 ≤ 1152921504606846976) = false := decide_eq_false e1
        go_wp2_with fail
        go_meet
        exact ⟨(congrArg Value.bool (decide_eq_false (by omega))).symm, HS3⟩
    · have e2 : decide (0 ≤ a0) = false := decide_eq_false e0
      go_wp2_with fail
      go_meet
      exact ⟨(congrArg Value.bool (decide_eq_false (by omega))).symm, HS3⟩
  case rest =>
    obtain ⟨rfl, HSa⟩ := hcut
    clear HS3
    go_upto_if 26 with fail
    go_cut [9] (fun s wc => s = .int .i64 f1 ∧ Hid (Sts w [(gp, #[.int .i64 f1, .int .i64 0], 35), (go, #[.int .i64 f2, .int .i64 0], 35)] wc))
    case first =>
      by_cases e0 : 0 ≤ a0 ∧ a0 ≤ 1152921504606846976
      · have e1 : decide (0 ≤ a0 ∧ a0 ≤ 1152921504606846976) = true := decide_eq_true e0
        have e2 : f1 = a0 := by rw [Ef1.out, ofs, if_pos e0]
        have E2 := Lib.hid e2
        clear e2
        go_wp2_with fail
        go_meet
        exact ⟨(congrArg (Value.int IntKind.i64) E2.out).symm, HSa⟩
      · have e1 : decide (0 ≤ a0 ∧ a0 ≤ 1152921504606846976) = false := decide_eq_false e0
        have e2 : f1 = 0 := by rw [Ef1.out, ofs, if_neg e0]
        have E2 := Lib.hid e2
        clear e2
        go_wp2_with fail
        go_meet
        exact ⟨(congrArg (Value.int IntKind.i64) E2.out).symm, HSa⟩
    case rest =>
      obtain ⟨rfl, HSb⟩ := hcut
      clear HSa
      go_upto_region 6 with fail
      go_cut [33] (fun s wc => s = .bool (decide (0 ≤ a1 ∧ a1 ≤ 1152921504606846976)) ∧ Hid (Sts w [(gp, #[.int .i64 f1, .int .i64 0], 35), (go, #[.int .i64 f2, .int .i64 0], 35)] wc))
      case first =>
        by_cases e0 : 0 ≤ a1
        · have e2 : decide (0 ≤ a1) = true := decide_eq_true e0
          by_cases e1 : a1 ≤ 1152921504606846976
          · have e3 : decide (a1 ≤ 1152921504606846976) = true := decide_eq_true e1
            go_wp2_with fail
            go_meet
            exact ⟨(congrArg Value.bool (decide_eq_true (by omega))).symm, HSb⟩
          · have e3 : decide (a1 ≤ 1152921504606846976) = false := decide_eq_false e1
            go_wp2_with fail
            go_meet
            exact ⟨(congrArg Value.bool (decide_eq_false (by omega))).symm, HSb⟩
        · have e2 : decide (0 ≤ a1) = false := decide_eq_false e0
          go_wp2_with fail
          go_meet
          exact ⟨(congrArg Value.bool (decide_eq_false (by omega))).symm, HSb⟩
      case rest =>
        obtain ⟨rfl, HSa⟩ := hcut
        clear HSb
        go_upto_if 33 with fail
        go_cut [11] (fun s wc => s = .int .i64 f2 ∧ Hid (Sts w [(gp, #[.int .i64 f1, .int .i64 0], 35), (go, #[.int .i64 f2, .int .i64 0], 35)] wc))
        case first =>
          by_cases e0 : 0 ≤ a1 ∧ a1 ≤ 1152921504606846976
          · have e1 : decide (0 ≤ a1 ∧ a1 ≤ 1152921504606846976) = true := decide_eq_true e0
            have e2 : f2 = a1 := by rw [Ef2.out, ofs, if_pos e0]
            have E2 := Lib.hid e2
            clear e2
            go_wp2_with fail
            go_meet
            exact ⟨(congrArg (Value.int IntKind.i64) E2.out).symm, HSa⟩
          · have e1 : decide (0 ≤ a1 ∧ a1 ≤ 1152921504606846976) = false := decide_eq_false e0
            have e2 : f2 = 0 := by rw [Ef2.out, ofs, if_neg e0]
            have E2 := Lib.hid e2
            clear e2
            go_wp2_with fail
            go_meet
            exact ⟨(congrArg (Value.int IntKind.i64) E2.out).symm, HSa⟩
        case rest =>
          obtain ⟨rfl, HSb⟩ := hcut
          clear HSa
          go_upto_block 0 with fail
          go_wp2_with fail
          go_loopw [9, 10, 11, 12] (fun v9 v10 v11 v12 wr => ∃ (i : Nat) (a b c : Int), v9 = .int .i64 a ∧ v10 = .int .i64 b ∧ v11 = .int .i64 c ∧ v12 = .int .i64 i ∧ i ≤ 30 ∧ 0 ≤ b ∧ b ≤ a ∧ a ≤ 1152921504606846976 ∧ 0 ≤ c ∧ c ≤ 1152921504606846976 ∧ Hid (Sts w [(gp, #[.int .i64 a, .int .i64 b], 35), (go, #[.int .i64 c, .int .i64 0], 35)] wr)) (fun _ _ _ v12 _ => 30 - (intOf v12).toNat)
          case atStart => exact ⟨0, f1, 0, f2, rfl, rfl, rfl, rfl, by omega, by omega, by omega, by omega, by omega, by omega, HSb⟩
          case round =>
            obtain ⟨i, a, b, c, rfl, rfl, rfl, rfl, hi, hb0, hb1, ha1, hc0, hc1, HSr⟩ := hrel
            clear HSb
            by_cases q1 : i < n2 ∧ i < 30
            · obtain ⟨q2, q3⟩ := q1
              obtain ⟨ad, hA, hc, hd⟩ := H2.out.at_ i q2
              obtain ⟨⟨kb0, kb1⟩, nb0, nb1⟩ := H2.out.bd _ (getD_mem (d := (0, 0)) (by rw [H2.out.length]; exact q2))
              have hcell := HSr.out.old hc
              have hcell2 := HSr.out.old hd
              clear hc hd
              generalize (z2.getD i (0, 0)).1 = K at hcell kb0 kb1
              generalize (z2.getD i (0, 0)).2 = N at hcell2 nb0 nb1
              obtain rfl := hA
              have tb := takes_bd a b N hb1
              obtain ⟨t, ht⟩ : ∃ t, t = takes a b N := ⟨_, rfl⟩
              rw [← ht] at tb
              obtain ⟨t0, t1⟩ := tb
              have Et := Lib.hid ht
              clear ht
              have et : max 0 (min N (a - b)) = t := by rw [Et.out]; unfold takes; omega
              have ET := Lib.hid et
              clear et
              go_upto_region 13 with fail
              have HS11 := Lib.hid ((HSr.out.add (g := wr.heap.size) (by simp) #[.int .i64 K, .int .i64 N] 69).lit (L' := [(gp, #[.int .i64 a, .int .i64 b], 35), (go, #[.int .i64 c, .int .i64 0], 35), (wr.heap.size, #[.int .i64 K, .int .i64 N], 69)]) rfl)
              clear HSr
              generalize wr.heap.size = ga at *
              generalize (wr.alloc (.cells #[.int .i64 K, .int .i64 N] 69)) = v11 at *
              rw [ET.out]
              have c0_0 : v11.cell? ⟨gp, 0, none⟩ = some (.int .i64 a) := HS11.out.cell 0 0 rfl rfl
              have c0_1 : v11.cell? ⟨gp, 1, none⟩ = some (.int .i64 b) := HS11.out.cell 0 1 rfl rfl
              have c1_0 : v11.cell? ⟨go, 0, none⟩ = some (.int .i64 c) := HS11.out.cell 1 0 rfl rfl
              have c1_1 : v11.cell? ⟨go, 1, none⟩ = some (.int .i64 0) := HS11.out.cell 1 1 rfl rfl
              have c2_0 : v11.cell? ⟨ga, 0, none⟩ = some (.int .i64 K) := HS11.out.cell 2 0 rfl rfl
              have c2_1 : v11.cell? ⟨ga, 1, none⟩ = some (.int .i64 N) := HS11.out.cell 2 1 rfl rfl
              go_upto_block 2 with fail
              clear c0_0 c0_1 c1_0 c1_1 c2_0 c2_1
              by_cases k1 : ((K : Int) == 1) = true
              · skip
                by_cases m1 : 0 ≤ N
                · have m2 : decide (0 ≤ N) = true := decide_eq_true m1
                  by_cases m3 : N ≤ 1152921504606846976 - a
                  · have m4 : decide (N ≤ 1152921504606846976 - a) = true := decide_eq_true m3
                    have c0_0 : v11.cell? ⟨gp, 0, none⟩ = some (.int .i64 a) := HS11.out.cell 0 0 rfl rfl
                    have c0_1 : v11.cell? ⟨gp, 1, none⟩ = some (.int .i64 b) := HS11.out.cell 0 1 rfl rfl
                    have c1_0 : v11.cell? ⟨go, 0, none⟩ = some (.int .i64 c) := HS11.out.cell 1 0 rfl rfl
                    have c1_1 : v11.cell? ⟨go, 1, none⟩ = some (.int .i64 0) := HS11.out.cell 1 1 rfl rfl
                    have c2_0 : v11.cell? ⟨ga, 0, none⟩ = some (.int .i64 K) := HS11.out.cell 2 0 rfl rfl
                    have c2_1 : v11.cell? ⟨ga, 1, none⟩ = some (.int .i64 N) := HS11.out.cell 2 1 rfl rfl
                    go_wp2_with fail
                    clear c0_0 c0_1 c1_0 c1_1 c2_0 c2_1
                    refine (put_s a b N 0 HS11.out rfl (by omega) (by omega) (by omega)).mono ?_
                    rintro e w12 ⟨rfl, hs⟩
                    have HS12 := Lib.hid ((hs.lit rfl : Sts w [(gp, #[.int .i64 (a + N), .int .i64 b], 35), (go, #[.int .i64 c, .int .i64 0], 35), (ga, #[.int .i64 K, .int .i64 N], 69)] w12))
                    clear HS11
                    clear hs
                    have c0_0 : w12.cell? ⟨gp, 0, none⟩ = some (.int .i64 (a + N)) := HS12.out.cell 0 0 rfl rfl
                    have c0_1 : w12.cell? ⟨gp, 1, none⟩ = some (.int .i64 b) := HS12.out.cell 0 1 rfl rfl
                    have c1_0 : w12.cell? ⟨go, 0, none⟩ = some (.int .i64 c) := HS12.out.cell 1 0 rfl rfl
                    have c1_1 : w12.cell? ⟨go, 1, none⟩ = some (.int .i64 0) := HS12.out.cell 1 1 rfl rfl
                    have c2_0 : w12.cell? ⟨ga, 0, none⟩ = some (.int .i64 K) := HS12.out.cell 2 0 rfl rfl
                    have c2_1 : w12.cell? ⟨ga, 1, none⟩ = some (.int .i64 N) := HS12.out.cell 2 1 rfl rfl
                    clear c0_0 c0_1 c1_0 c1_1 c2_0 c2_1
                    have c0_0 : w12.cell? ⟨gp, 0, none⟩ = some (.int .i64 (a + N)) := HS12.out.cell 0 0 rfl rfl
                    have c0_1 : w12.cell? ⟨gp, 1, none⟩ = some (.int .i64 b) := HS12.out.cell 0 1 rfl rfl
                    have c1_0 : w12.cell? ⟨go, 0, none⟩ = some (.int .i64 c) := HS12.out.cell 1 0 rfl rfl
                    have c1_1 : w12.cell? ⟨go, 1, none⟩ = some (.int .i64 0) := HS12.out.cell 1 1 rfl rfl
                    have c2_0 : w12.cell? ⟨ga, 0, none⟩ = some (.int .i64 K) := HS12.out.cell 2 0 rfl rfl
                    have c2_1 : w12.cell? ⟨ga, 1, none⟩ = some (.int .i64 N) := HS12.out.cell 2 1 rfl rfl
                    go_upto_region 38 with fail
                    clear c0_0 c0_1 c1_0 c1_1 c2_0 c2_1
                    have c0_0 : w12.cell? ⟨gp, 0, none⟩ = some (.int .i64 (a + N)) := HS12.out.cell 0 0 rfl rfl
                    have c0_1 : w12.cell? ⟨gp, 1, none⟩ = some (.int .i64 b) := HS12.out.cell 0 1 rfl rfl
                    have c1_0 : w12.cell? ⟨go, 0, none⟩ = some (.int .i64 c) := HS12.out.cell 1 0 rfl rfl
                    have c1_1 : w12.cell? ⟨go, 1, none⟩ = some (.int .i64 0) := HS12.out.cell 1 1 rfl rfl
                    have c2_0 : w12.cell? ⟨ga, 0, none⟩ = some (.int .i64 K) := HS12.out.cell 2 0 rfl rfl
                    have c2_1 : w12.cell? ⟨ga, 1, none⟩ = some (.int .i64 N) := HS12.out.cell 2 1 rfl rfl
                    go_wp2_with fail
                    clear c0_0 c0_1 c1_0 c1_1 c2_0 c2_1
                    refine (has_s _ _ _ HS12.out (by omega) (by omega) (by omega) rfl).mono ?_
                    rintro e w13 ⟨rfl, hs⟩
                    have HS13 := Lib.hid ((hs.lit rfl : Sts w [(gp, #[.int .i64 (a + N), .int .i64 b], 35), (go, #[.int .i64 c, .int .i64 0], 35), (ga, #[.int .i64 K, .int .i64 N], 69)] w13))
                    clear HS12
                    clear hs
                    have c0_0 : w13.cell? ⟨gp, 0, none⟩ = some (.int .i64 (a + N)) := HS13.out.cell 0 0 rfl rfl
                    have c0_1 : w13.cell? ⟨gp, 1, none⟩ = some (.int .i64 b) := HS13.out.cell 0 1 rfl rfl
                    have c1_0 : w13.cell? ⟨go, 0, none⟩ = some (.int .i64 c) := HS13.out.cell 1 0 rfl rfl
                    have c1_1 : w13.cell? ⟨go, 1, none⟩ = some (.int .i64 0) := HS13.out.cell 1 1 rfl rfl
                    have c2_0 : w13.cell? ⟨ga, 0, none⟩ = some (.int .i64 K) := HS13.out.cell 2 0 rfl rfl
                    have c2_1 : w13.cell? ⟨ga, 1, none⟩ = some (.int .i64 N) := HS13.out.cell 2 1 rfl rfl
                    go_wp2_with fail
                    clear c0_0 c0_1 c1_0 c1_1 c2_0 c2_1
                    refine (in_s _ _ HS13.out).mono ?_
                    rintro e w14 ⟨rfl, hs⟩
                    have HS14 := Lib.hid ((hs.lit rfl : Sts w [(gp, #[.int .i64 (a + N), .int .i64 b], 35), (go, #[.int .i64 c, .int .i64 0], 35), (ga, #[.int .i64 K, .int .i64 N], 69)] w14))
                    clear HS13
                    clear hs
                    have c0_0 : w14.cell? ⟨gp, 0, none⟩ = some (.int .i64 (a + N)) := HS14.out.cell 0 0 rfl rfl
                    have c0_1 : w14.cell? ⟨gp, 1, none⟩ = some (.int .i64 b) := HS14.out.cell 0 1 rfl rfl
                    have c1_0 : w14.cell? ⟨go, 0, none⟩ = some (.int .i64 c) := HS14.out.cell 1 0 rfl rfl
                    have c1_1 : w14.cell? ⟨go, 1, none⟩ = some (.int .i64 0) := HS14.out.cell 1 1 rfl rfl
                    have c2_0 : w14.cell? ⟨ga, 0, none⟩ = some (.int .i64 K) := HS14.out.cell 2 0 rfl rfl
                    have c2_1 : w14.cell? ⟨ga, 1, none⟩ = some (.int .i64 N) := HS14.out.cell 2 1 rfl rfl
                    go_wp2_with fail
                    clear c0_0 c0_1 c1_0 c1_1 c2_0 c2_1
                    refine (out_s _ _ HS14.out).mono ?_
                    rintro e w15 ⟨rfl, hs⟩
                    have HS15 := Lib.hid ((hs.lit rfl : Sts w [(gp, #[.int .i64 (a + N), .int .i64 b], 35), (go, #[.int .i64 c, .int .i64 0], 35), (ga, #[.int .i64 K, .int .i64 N], 69)] w15))
                    clear HS14
                    clear hs
                    have c0_0 : w15.cell? ⟨gp, 0, none⟩ = some (.int .i64 (a + N)) := HS15.out.cell 0 0 rfl rfl
                    have c0_1 : w15.cell? ⟨gp, 1, none⟩ = some (.int .i64 b) := HS15.out.cell 0 1 rfl rfl
                    have c1_0 : w15.cell? ⟨go, 0, none⟩ = some (.int .i64 c) := HS15.out.cell 1 0 rfl rfl
                    have c1_1 : w15.cell? ⟨go, 1, none⟩ = some (.int .i64 0) := HS15.out.cell 1 1 rfl rfl
                    have c2_0 : w15.cell? ⟨ga, 0, none⟩ = some (.int .i64 K) := HS15.out.cell 2 0 rfl rfl
                    have c2_1 : w15.cell? ⟨ga, 1, none⟩ = some (.int .i64 N) := HS15.out.cell 2 1 rfl rfl
                    go_wp2_with fail
                    clear c0_0 c0_1 c1_0 c1_1 c2_0 c2_1
                    refine (in_s _ _ HS15.out).mono ?_
                    rintro e w16 ⟨rfl, hs⟩
                    have HS16 := Lib.hid ((hs.lit rfl : Sts w [(gp, #[.int .i64 (a + N), .int .i64 b], 35), (go, #[.int .i64 c, .int .i64 0], 35), (ga, #[.int .i64 K, .int .i64 N], 69)] w16))
                    clear HS15
                    clear hs
                    have c0_0 : w16.cell? ⟨gp, 0, none⟩ = some (.int .i64 (a + N)) := HS16.out.cell 0 0 rfl rfl
                    have c0_1 : w16.cell? ⟨gp, 1, none⟩ = some (.int .i64 b) := HS16.out.cell 0 1 rfl rfl
                    have c1_0 : w16.cell? ⟨go, 0, none⟩ = some (.int .i64 c) := HS16.out.cell 1 0 rfl rfl
                    have c1_1 : w16.cell? ⟨go, 1, none⟩ = some (.int .i64 0) := HS16.out.cell 1 1 rfl rfl
                    have c2_0 : w16.cell? ⟨ga, 0, none⟩ = some (.int .i64 K) := HS16.out.cell 2 0 rfl rfl
                    have c2_1 : w16.cell? ⟨ga, 1, none⟩ = some (.int .i64 N) := HS16.out.cell 2 1 rfl rfl
                    go_wp2_with fail
                    clear c0_0 c0_1 c1_0 c1_1 c2_0 c2_1
                    refine (out_s _ _ HS16.out).mono ?_
                    rintro e w17 ⟨rfl, hs⟩
                    have HS17 := Lib.hid ((hs.lit rfl : Sts w [(gp, #[.int .i64 (a + N), .int .i64 b], 35), (go, #[.int .i64 c, .int .i64 0], 35), (ga, #[.int .i64 K, .int .i64 N], 69)] w17))
                    clear HS16
                    clear hs
                    have c0_0 : w17.cell? ⟨gp, 0, none⟩ = some (.int .i64 (a + N)) := HS17.out.cell 0 0 rfl rfl
                    have c0_1 : w17.cell? ⟨gp, 1, none⟩ = some (.int .i64 b) := HS17.out.cell 0 1 rfl rfl
                    have c1_0 : w17.cell? ⟨go, 0, none⟩ = some (.int .i64 c) := HS17.out.cell 1 0 rfl rfl
                    have c1_1 : w17.cell? ⟨go, 1, none⟩ = some (.int .i64 0) := HS17.out.cell 1 1 rfl rfl
                    have c2_0 : w17.cell? ⟨ga, 0, none⟩ = some (.int .i64 K) := HS17.out.cell 2 0 rfl rfl
                    have c2_1 : w17.cell? ⟨ga, 1, none⟩ = some (.int .i64 N) := HS17.out.cell 2 1 rfl rfl
                    clear c0_0 c0_1 c1_0 c1_1 c2_0 c2_1
                    go_wp2_with fail
                    go_roundw
                    case rel => exact ⟨i + 1, (a + N), b, c, rfl, rfl, rfl, by go_num, by omega, by omega, by omega, by omega, by omega, by omega, Lib.hid ((HS17.out.take 2).lit rfl)⟩
                    case measure => simp [intOf]; omega
                  · have m4 : decide (N ≤ 1152921504606846976 - a) = false := decide_eq_false m3
                    have c0_0 : v11.cell? ⟨gp, 0, none⟩ = some (.int .i64 a) := HS11.out.cell 0 0 rfl rfl
                    have c0_1 : v11.cell? ⟨gp, 1, none⟩ = some (.int .i64 b) := HS11.out.cell 0 1 rfl rfl
                    have c1_0 : v11.cell? ⟨go, 0, none⟩ = some (.int .i64 c) := HS11.out.cell 1 0 rfl rfl
                    have c1_1 : v11.cell? ⟨go, 1, none⟩ = some (.int .i64 0) := HS11.out.cell 1 1 rfl rfl
                    have c2_0 : v11.cell? ⟨ga, 0, none⟩ = some (.int .i64 K) := HS11.out.cell 2 0 rfl rfl
                    have c2_1 : v11.cell? ⟨ga, 1, none⟩ = some (.int .i64 N) := HS11.out.cell 2 1 rfl rfl
                    go_wp2_with fail
                    clear c0_0 c0_1 c1_0 c1_1 c2_0 c2_1
                    refine (putno_s a b N 0 HS11.out rfl (by omega) (by omega) (by omega) (by omega) (by omega)).mono ?_
                    rintro e w12 ⟨rfl, hs⟩
                    have HS12 := Lib.hid ((hs.lit rfl : Sts w [(gp, #[.int .i64 a, .int .i64 b], 35), (go, #[.int .i64 c, .int .i64 0], 35), (ga, #[.int .i64 K, .int .i64 N], 69)] w12))
                    clear HS11
                    clear hs
                    have c0_0 : w12.cell? ⟨gp, 0, none⟩ = some (.int .i64 a) := HS12.out.cell 0 0 rfl rfl
                    have c0_1 : w12.cell? ⟨gp, 1, none⟩ = some (.int .i64 b) := HS12.out.cell 0 1 rfl rfl
                    have c1_0 : w12.cell? ⟨go, 0, none⟩ = some (.int .i64 c) := HS12.out.cell 1 0 rfl rfl
                    have c1_1 : w12.cell? ⟨go, 1, none⟩ = some (.int .i64 0) := HS12.out.cell 1 1 rfl rfl
                    have c2_0 : w12.cell? ⟨ga, 0, none⟩ = some (.int .i64 K) := HS12.out.cell 2 0 rfl rfl
                    have c2_1 : w12.cell? ⟨ga, 1, none⟩ = some (.int .i64 N) := HS12.out.cell 2 1 rfl rfl
                    go_upto_region 38 with fail
                    clear c0_0 c0_1 c1_0 c1_1 c2_0 c2_1
                    have c0_0 : w12.cell? ⟨gp, 0, none⟩ = some (.int .i64 a) := HS12.out.cell 0 0 rfl rfl
                    have c0_1 : w12.cell? ⟨gp, 1, none⟩ = some (.int .i64 b) := HS12.out.cell 0 1 rfl rfl
                    have c1_0 : w12.cell? ⟨go, 0, none⟩ = some (.int .i64 c) := HS12.out.cell 1 0 rfl rfl
                    have c1_1 : w12.cell? ⟨go, 1, none⟩ = some (.int .i64 0) := HS12.out.cell 1 1 rfl rfl
                    have c2_0 : w12.cell? ⟨ga, 0, none⟩ = some (.int .i64 K) := HS12.out.cell 2 0 rfl rfl
                    have c2_1 : w12.cell? ⟨ga, 1, none⟩ = some (.int .i64 N) := HS12.out.cell 2 1 rfl rfl
                    go_wp2_with fail
                    clear c0_0 c0_1 c1_0 c1_1 c2_0 c2_1
                    refine (has_s _ _ _ HS12.out (by omega) (by omega) (by omega) rfl).mono ?_
                    rintro e w13 ⟨rfl, hs⟩
                    have HS13 := Lib.hid ((hs.lit rfl : Sts w [(gp, #[.int .i64 a, .int .i64 b], 35), (go, #[.int .i64 c, .int .i64 0], 35), (ga, #[.int .i64 K, .int .i64 N], 69)] w13))
                    clear HS12
                    clear hs
                    have c0_0 : w13.cell? ⟨gp, 0, none⟩ = some (.int .i64 a) := HS13.out.cell 0 0 rfl rfl
                    have c0_1 : w13.cell? ⟨gp, 1, none⟩ = some (.int .i64 b) := HS13.out.cell 0 1 rfl rfl
                    have c1_0 : w13.cell? ⟨go, 0, none⟩ = some (.int .i64 c) := HS13.out.cell 1 0 rfl rfl
                    have c1_1 : w13.cell? ⟨go, 1, none⟩ = some (.int .i64 0) := HS13.out.cell 1 1 rfl rfl
                    have c2_0 : w13.cell? ⟨ga, 0, none⟩ = some (.int .i64 K) := HS13.out.cell 2 0 rfl rfl
                    have c2_1 : w13.cell? ⟨ga, 1, none⟩ = some (.int .i64 N) := HS13.out.cell 2 1 rfl rfl
                    go_wp2_with fail
                    clear c0_0 c0_1 c1_0 c1_1 c2_0 c2_1
                    refine (in_s _ _ HS13.out).mono ?_
                    rintro e w14 ⟨rfl, hs⟩
                    have HS14 := Lib.hid ((hs.lit rfl : Sts w [(gp, #[.int .i64 a, .int .i64 b], 35), (go, #[.int .i64 c, .int .i64 0], 35), (ga, #[.int .i64 K, .int .i64 N], 69)] w14))
                    clear HS13
                    clear hs
                    have c0_0 : w14.cell? ⟨gp, 0, none⟩ = some (.int .i64 a) := HS14.out.cell 0 0 rfl rfl
                    have c0_1 : w14.cell? ⟨gp, 1, none⟩ = some (.int .i64 b) := HS14.out.cell 0 1 rfl rfl
                    have c1_0 : w14.cell? ⟨go, 0, none⟩ = some (.int .i64 c) := HS14.out.cell 1 0 rfl rfl
                    have c1_1 : w14.cell? ⟨go, 1, none⟩ = some (.int .i64 0) := HS14.out.cell 1 1 rfl rfl
                    have c2_0 : w14.cell? ⟨ga, 0, none⟩ = some (.int .i64 K) := HS14.out.cell 2 0 rfl rfl
                    have c2_1 : w14.cell? ⟨ga, 1, none⟩ = some (.int .i64 N) := HS14.out.cell 2 1 rfl rfl
                    go_wp2_with fail
                    clear c0_0 c0_1 c1_0 c1_1 c2_0 c2_1
                    refine (out_s _ _ HS14.out).mono ?_
                    rintro e w15 ⟨rfl, hs⟩
                    have HS15 := Lib.hid ((hs.lit rfl : Sts w [(gp, #[.int .i64 a, .int .i64 b], 35), (go, #[.int .i64 c, .int .i64 0], 35), (ga, #[.int .i64 K, .int .i64 N], 69)] w15))
                    clear HS14
                    clear hs
                    have c0_0 : w15.cell? ⟨gp, 0, none⟩ = some (.int .i64 a) := HS15.out.cell 0 0 rfl rfl
                    have c0_1 : w15.cell? ⟨gp, 1, none⟩ = some (.int .i64 b) := HS15.out.cell 0 1 rfl rfl
                    have c1_0 : w15.cell? ⟨go, 0, none⟩ = some (.int .i64 c) := HS15.out.cell 1 0 rfl rfl
                    have c1_1 : w15.cell? ⟨go, 1, none⟩ = some (.int .i64 0) := HS15.out.cell 1 1 rfl rfl
                    have c2_0 : w15.cell? ⟨ga, 0, none⟩ = some (.int .i64 K) := HS15.out.cell 2 0 rfl rfl
                    have c2_1 : w15.cell? ⟨ga, 1, none⟩ = some (.int .i64 N) := HS15.out.cell 2 1 rfl rfl
                    go_wp2_with fail
                    clear c0_0 c0_1 c1_0 c1_1 c2_0 c2_1
                    refine (in_s _ _ HS15.out).mono ?_
                    rintro e w16 ⟨rfl, hs⟩
                    have HS16 := Lib.hid ((hs.lit rfl : Sts w [(gp, #[.int .i64 a, .int .i64 b], 35), (go, #[.int .i64 c, .int .i64 0], 35), (ga, #[.int .i64 K, .int .i64 N], 69)] w16))
                    clear HS15
                    clear hs
                    have c0_0 : w16.cell? ⟨gp, 0, none⟩ = some (.int .i64 a) := HS16.out.cell 0 0 rfl rfl
                    have c0_1 : w16.cell? ⟨gp, 1, none⟩ = some (.int .i64 b) := HS16.out.cell 0 1 rfl rfl
                    have c1_0 : w16.cell? ⟨go, 0, none⟩ = some (.int .i64 c) := HS16.out.cell 1 0 rfl rfl
                    have c1_1 : w16.cell? ⟨go, 1, none⟩ = some (.int .i64 0) := HS16.out.cell 1 1 rfl rfl
                    have c2_0 : w16.cell? ⟨ga, 0, none⟩ = some (.int .i64 K) := HS16.out.cell 2 0 rfl rfl
                    have c2_1 : w16.cell? ⟨ga, 1, none⟩ = some (.int .i64 N) := HS16.out.cell 2 1 rfl rfl
                    go_wp2_with fail
                    clear c0_0 c0_1 c1_0 c1_1 c2_0 c2_1
                    refine (out_s _ _ HS16.out).mono ?_
                    rintro e w17 ⟨rfl, hs⟩
                    have HS17 := Lib.hid ((hs.lit rfl : Sts w [(gp, #[.int .i64 a, .int .i64 b], 35), (go, #[.int .i64 c, .int .i64 0], 35), (ga, #[.int .i64 K, .int .i64 N], 69)] w17))
                    clear HS16
                    clear hs
                    have c0_0 : w17.cell? ⟨gp, 0, none⟩ = some (.int .i64 a) := HS17.out.cell 0 0 rfl rfl
                    have c0_1 : w17.cell? ⟨gp, 1, none⟩ = some (.int .i64 b) := HS17.out.cell 0 1 rfl rfl
                    have c1_0 : w17.cell? ⟨go, 0, none⟩ = some (.int .i64 c) := HS17.out.cell 1 0 rfl rfl
                    have c1_1 : w17.cell? ⟨go, 1, none⟩ = some (.int .i64 0) := HS17.out.cell 1 1 rfl rfl
                    have c2_0 : w17.cell? ⟨ga, 0, none⟩ = some (.int .i64 K) := HS17.out.cell 2 0 rfl rfl
                    have c2_1 : w17.cell? ⟨ga, 1, none⟩ = some (.int .i64 N) := HS17.out.cell 2 1 rfl rfl
                    clear c0_0 c0_1 c1_0 c1_1 c2_0 c2_1
                    go_wp2_with fail
                    go_roundw
                    case rel => exact ⟨i + 1, a, b, c, rfl, rfl, rfl, by go_num, by omega, by omega, by omega, by omega, by omega, by omega, Lib.hid ((HS17.out.take 2).lit rfl)⟩
                    case measure => simp [intOf]; omega
                · have m2 : decide (0 ≤ N) = false := decide_eq_false m1
                  have c0_0 : v11.cell? ⟨gp, 0, none⟩ = some (.int .i64 a) := HS11.out.cell 0 0 rfl rfl
                  have c0_1 : v11.cell? ⟨gp, 1, none⟩ = some (.int .i64 b) := HS11.out.cell 0 1 rfl rfl
                  have c1_0 : v11.cell? ⟨go, 0, none⟩ = some (.int .i64 c) := HS11.out.cell 1 0 rfl rfl
                  have c1_1 : v11.cell? ⟨go, 1, none⟩ = some (.int .i64 0) := HS11.out.cell 1 1 rfl rfl
                  have c2_0 : v11.cell? ⟨ga, 0, none⟩ = some (.int .i64 K) := HS11.out.cell 2 0 rfl rfl
                  have c2_1 : v11.cell? ⟨ga, 1, none⟩ = some (.int .i64 N) := HS11.out.cell 2 1 rfl rfl
                  go_wp2_with fail
                  clear c0_0 c0_1 c1_0 c1_1 c2_0 c2_1
                  refine (putno_s a b N 0 HS11.out rfl (by omega) (by omega) (by omega) (by omega) (by omega)).mono ?_
                  rintro e w12 ⟨rfl, hs⟩
                  have HS12 := Lib.hid ((hs.lit rfl : Sts w [(gp, #[.int .i64 a, .int .i64 b], 35), (go, #[.int .i64 c, .int .i64 0], 35), (ga, #[.int .i64 K, .int .i64 N], 69)] w12))
                  clear HS11
                  clear hs
                  have c0_0 : w12.cell? ⟨gp, 0, none⟩ = some (.int .i64 a) := HS12.out.cell 0 0 rfl rfl
                  have c0_1 : w12.cell? ⟨gp, 1, none⟩ = some (.int .i64 b) := HS12.out.cell 0 1 rfl rfl
                  have c1_0 : w12.cell? ⟨go, 0, none⟩ = some (.int .i64 c) := HS12.out.cell 1 0 rfl rfl
                  have c1_1 : w12.cell? ⟨go, 1, none⟩ = some (.int .i64 0) := HS12.out.cell 1 1 rfl rfl
                  have c2_0 : w12.cell? ⟨ga, 0, none⟩ = some (.int .i64 K) := HS12.out.cell 2 0 rfl rfl
                  have c2_1 : w12.cell? ⟨ga, 1, none⟩ = some (.int .i64 N) := HS12.out.cell 2 1 rfl rfl
                  go_upto_region 38 with fail
                  clear c0_0 c0_1 c1_0 c1_1 c2_0 c2_1
                  have c0_0 : w12.cell? ⟨gp, 0, none⟩ = some (.int .i64 a) := HS12.out.cell 0 0 rfl rfl
                  have c0_1 : w12.cell? ⟨gp, 1, none⟩ = some (.int .i64 b) := HS12.out.cell 0 1 rfl rfl
                  have c1_0 : w12.cell? ⟨go, 0, none⟩ = some (.int .i64 c) := HS12.out.cell 1 0 rfl rfl
                  have c1_1 : w12.cell? ⟨go, 1, none⟩ = some (.int .i64 0) := HS12.out.cell 1 1 rfl rfl
                  have c2_0 : w12.cell? ⟨ga, 0, none⟩ = some (.int .i64 K) := HS12.out.cell 2 0 rfl rfl
                  have c2_1 : w12.cell? ⟨ga, 1, none⟩ = some (.int .i64 N) := HS12.out.cell 2 1 rfl rfl
                  go_wp2_with fail
                  clear c0_0 c0_1 c1_0 c1_1 c2_0 c2_1
                  refine (has_s _ _ _ HS12.out (by omega) (by omega) (by omega) rfl).mono ?_
                  rintro e w13 ⟨rfl, hs⟩
                  have HS13 := Lib.hid ((hs.lit rfl : Sts w [(gp, #[.int .i64 a, .int .i64 b], 35), (go, #[.int .i64 c, .int .i64 0], 35), (ga, #[.int .i64 K, .int .i64 N], 69)] w13))
                  clear HS12
                  clear hs
                  have c0_0 : w13.cell? ⟨gp, 0, none⟩ = some (.int .i64 a) := HS13.out.cell 0 0 rfl rfl
                  have c0_1 : w13.cell? ⟨gp, 1, none⟩ = some (.int .i64 b) := HS13.out.cell 0 1 rfl rfl
                  have c1_0 : w13.cell? ⟨go, 0, none⟩ = some (.int .i64 c) := HS13.out.cell 1 0 rfl rfl
                  have c1_1 : w13.cell? ⟨go, 1, none⟩ = some (.int .i64 0) := HS13.out.cell 1 1 rfl rfl
                  have c2_0 : w13.cell? ⟨ga, 0, none⟩ = some (.int .i64 K) := HS13.out.cell 2 0 rfl rfl
                  have c2_1 : w13.cell? ⟨ga, 1, none⟩ = some (.int .i64 N) := HS13.out.cell 2 1 rfl rfl
                  go_wp2_with fail
                  clear c0_0 c0_1 c1_0 c1_1 c2_0 c2_1
                  refine (in_s _ _ HS13.out).mono ?_
                  rintro e w14 ⟨rfl, hs⟩
                  have HS14 := Lib.hid ((hs.lit rfl : Sts w [(gp, #[.int .i64 a, .int .i64 b], 35), (go, #[.int .i64 c, .int .i64 0], 35), (ga, #[.int .i64 K, .int .i64 N], 69)] w14))
                  clear HS13
                  clear hs
                  have c0_0 : w14.cell? ⟨gp, 0, none⟩ = some (.int .i64 a) := HS14.out.cell 0 0 rfl rfl
                  have c0_1 : w14.cell? ⟨gp, 1, none⟩ = some (.int .i64 b) := HS14.out.cell 0 1 rfl rfl
                  have c1_0 : w14.cell? ⟨go, 0, none⟩ = some (.int .i64 c) := HS14.out.cell 1 0 rfl rfl
                  have c1_1 : w14.cell? ⟨go, 1, none⟩ = some (.int .i64 0) := HS14.out.cell 1 1 rfl rfl
                  have c2_0 : w14.cell? ⟨ga, 0, none⟩ = some (.int .i64 K) := HS14.out.cell 2 0 rfl rfl
                  have c2_1 : w14.cell? ⟨ga, 1, none⟩ = some (.int .i64 N) := HS14.out.cell 2 1 rfl rfl
                  go_wp2_with fail
                  clear c0_0 c0_1 c1_0 c1_1 c2_0 c2_1
                  refine (out_s _ _ HS14.out).mono ?_
                  rintro e w15 ⟨rfl, hs⟩
                  have HS15 := Lib.hid ((hs.lit rfl : Sts w [(gp, #[.int .i64 a, .int .i64 b], 35), (go, #[.int .i64 c, .int .i64 0], 35), (ga, #[.int .i64 K, .int .i64 N], 69)] w15))
                  clear HS14
                  clear hs
                  have c0_0 : w15.cell? ⟨gp, 0, none⟩ = some (.int .i64 a) := HS15.out.cell 0 0 rfl rfl
                  have c0_1 : w15.cell? ⟨gp, 1, none⟩ = some (.int .i64 b) := HS15.out.cell 0 1 rfl rfl
                  have c1_0 : w15.cell? ⟨go, 0, none⟩ = some (.int .i64 c) := HS15.out.cell 1 0 rfl rfl
                  have c1_1 : w15.cell? ⟨go, 1, none⟩ = some (.int .i64 0) := HS15.out.cell 1 1 rfl rfl
                  have c2_0 : w15.cell? ⟨ga, 0, none⟩ = some (.int .i64 K) := HS15.out.cell 2 0 rfl rfl
                  have c2_1 : w15.cell? ⟨ga, 1, none⟩ = some (.int .i64 N) := HS15.out.cell 2 1 rfl rfl
                  go_wp2_with fail
                  clear c0_0 c0_1 c1_0 c1_1 c2_0 c2_1
                  refine (in_s _ _ HS15.out).mono ?_
                  rintro e w16 ⟨rfl, hs⟩
                  have HS16 := Lib.hid ((hs.lit rfl : Sts w [(gp, #[.int .i64 a, .int .i64 b], 35), (go, #[.int .i64 c, .int .i64 0], 35), (ga, #[.int .i64 K, .int .i64 N], 69)] w16))
                  clear HS15
                  clear hs
                  have c0_0 : w16.cell? ⟨gp, 0, none⟩ = some (.int .i64 a) := HS16.out.cell 0 0 rfl rfl
                  have c0_1 : w16.cell? ⟨gp, 1, none⟩ = some (.int .i64 b) := HS16.out.cell 0 1 rfl rfl
                  have c1_0 : w16.cell? ⟨go, 0, none⟩ = some (.int .i64 c) := HS16.out.cell 1 0 rfl rfl
                  have c1_1 : w16.cell? ⟨go, 1, none⟩ = some (.int .i64 0) := HS16.out.cell 1 1 rfl rfl
                  have c2_0 : w16.cell? ⟨ga, 0, none⟩ = some (.int .i64 K) := HS16.out.cell 2 0 rfl rfl
                  have c2_1 : w16.cell? ⟨ga, 1, none⟩ = some (.int .i64 N) := HS16.out.cell 2 1 rfl rfl
                  go_wp2_with fail
                  clear c0_0 c0_1 c1_0 c1_1 c2_0 c2_1
                  refine (out_s _ _ HS16.out).mono ?_
                  rintro e w17 ⟨rfl, hs⟩
                  have HS17 := Lib.hid ((hs.lit rfl : Sts w [(gp, #[.int .i64 a, .int .i64 b], 35), (go, #[.int .i64 c, .int .i64 0], 35), (ga, #[.int .i64 K, .int .i64 N], 69)] w17))
                  clear HS16
                  clear hs
                  have c0_0 : w17.cell? ⟨gp, 0, none⟩ = some (.int .i64 a) := HS17.out.cell 0 0 rfl rfl
                  have c0_1 : w17.cell? ⟨gp, 1, none⟩ = some (.int .i64 b) := HS17.out.cell 0 1 rfl rfl
                  have c1_0 : w17.cell? ⟨go, 0, none⟩ = some (.int .i64 c) := HS17.out.cell 1 0 rfl rfl
                  have c1_1 : w17.cell? ⟨go, 1, none⟩ = some (.int .i64 0) := HS17.out.cell 1 1 rfl rfl
                  have c2_0 : w17.cell? ⟨ga, 0, none⟩ = some (.int .i64 K) := HS17.out.cell 2 0 rfl rfl
                  have c2_1 : w17.cell? ⟨ga, 1, none⟩ = some (.int .i64 N) := HS17.out.cell 2 1 rfl rfl
                  clear c0_0 c0_1 c1_0 c1_1 c2_0 c2_1
                  go_wp2_with fail
                  go_roundw
                  case rel => exact ⟨i + 1, a, b, c, rfl, rfl, rfl, by go_num, by omega, by omega, by omega, by omega, by omega, by omega, Lib.hid ((HS17.out.take 2).lit rfl)⟩
                  case measure => simp [intOf]; omega
              replace k1 := Bool.eq_false_iff.2 k1
              by_cases k2 : ((K : Int) == 2) = true
              · skip
                have c0_0 : v11.cell? ⟨gp, 0, none⟩ = some (.int .i64 a) := HS11.out.cell 0 0 rfl rfl
                have c0_1 : v11.cell? ⟨gp, 1, none⟩ = some (.int .i64 b) := HS11.out.cell 0 1 rfl rfl
                have c1_0 : v11.cell? ⟨go, 0, none⟩ = some (.int .i64 c) := HS11.out.cell 1 0 rfl rfl
                have c1_1 : v11.cell? ⟨go, 1, none⟩ = some (.int .i64 0) := HS11.out.cell 1 1 rfl rfl
                have c2_0 : v11.cell? ⟨ga, 0, none⟩ = some (.int .i64 K) := HS11.out.cell 2 0 rfl rfl
                have c2_1 : v11.cell? ⟨ga, 1, none⟩ = some (.int .i64 N) := HS11.out.cell 2 1 rfl rfl
                go_wp2_with fail
                clear c0_0 c0_1 c1_0 c1_1 c2_0 c2_1
                refine (take_s t a b N 0 HS11.out rfl (by omega) (by omega) (by omega) (by omega) (by omega) Et.out).mono ?_
                rintro e w12 ⟨rfl, hs⟩
                have HS12 := Lib.hid ((hs.lit rfl : Sts w [(gp, #[.int .i64 a, .int .i64 (b + t)], 35), (go, #[.int .i64 c, .int .i64 0], 35), (ga, #[.int .i64 K, .int .i64 N], 69)] w12))
                clear HS11
                clear hs
                have c0_0 : w12.cell? ⟨gp, 0, none⟩ = some (.int .i64 a) := HS12.out.cell 0 0 rfl rfl
                have c0_1 : w12.cell? ⟨gp, 1, none⟩ = some (.int .i64 (b + t)) := HS12.out.cell 0 1 rfl rfl
                have c1_0 : w12.cell? ⟨go, 0, none⟩ = some (.int .i64 c) := HS12.out.cell 1 0 rfl rfl
                have c1_1 : w12.cell? ⟨go, 1, none⟩ = some (.int .i64 0) := HS12.out.cell 1 1 rfl rfl
                have c2_0 : w12.cell? ⟨ga, 0, none⟩ = some (.int .i64 K) := HS12.out.cell 2 0 rfl rfl
                have c2_1 : w12.cell? ⟨ga, 1, none⟩ = some (.int .i64 N) := HS12.out.cell 2 1 rfl rfl
                go_upto_region 38 with fail
                clear c0_0 c0_1 c1_0 c1_1 c2_0 c2_1
                have c0_0 : w12.cell? ⟨gp, 0, none⟩ = some (.int .i64 a) := HS12.out.cell 0 0 rfl rfl
                have c0_1 : w12.cell? ⟨gp, 1, none⟩ = some (.int .i64 (b + t)) := HS12.out.cell 0 1 rfl rfl
                have c1_0 : w12.cell? ⟨go, 0, none⟩ = some (.int .i64 c) := HS12.out.cell 1 0 rfl rfl
                have c1_1 : w12.cell? ⟨go, 1, none⟩ = some (.int .i64 0) := HS12.out.cell 1 1 rfl rfl
                have c2_0 : w12.cell? ⟨ga, 0, none⟩ = some (.int .i64 K) := HS12.out.cell 2 0 rfl rfl
                have c2_1 : w12.cell? ⟨ga, 1, none⟩ = some (.int .i64 N) := HS12.out.cell 2 1 rfl rfl
                go_wp2_with fail
                clear c0_0 c0_1 c1_0 c1_1 c2_0 c2_1
                refine (has_s _ _ _ HS12.out (by omega) (by omega) (by omega) rfl).mono ?_
                rintro e w13 ⟨rfl, hs⟩
                have HS13 := Lib.hid ((hs.lit rfl : Sts w [(gp, #[.int .i64 a, .int .i64 (b + t)], 35), (go, #[.int .i64 c, .int .i64 0], 35), (ga, #[.int .i64 K, .int .i64 N], 69)] w13))
                clear HS12
                clear hs
                have c0_0 : w13.cell? ⟨gp, 0, none⟩ = some (.int .i64 a) := HS13.out.cell 0 0 rfl rfl
                have c0_1 : w13.cell? ⟨gp, 1, none⟩ = some (.int .i64 (b + t)) := HS13.out.cell 0 1 rfl rfl
                have c1_0 : w13.cell? ⟨go, 0, none⟩ = some (.int .i64 c) := HS13.out.cell 1 0 rfl rfl
                have c1_1 : w13.cell? ⟨go, 1, none⟩ = some (.int .i64 0) := HS13.out.cell 1 1 rfl rfl
                have c2_0 : w13.cell? ⟨ga, 0, none⟩ = some (.int .i64 K) := HS13.out.cell 2 0 rfl rfl
                have c2_1 : w13.cell? ⟨ga, 1, none⟩ = some (.int .i64 N) := HS13.out.cell 2 1 rfl rfl
                go_wp2_with fail
                clear c0_0 c0_1 c1_0 c1_1 c2_0 c2_1
                refine (in_s _ _ HS13.out).mono ?_
                rintro e w14 ⟨rfl, hs⟩
                have HS14 := Lib.hid ((hs.lit rfl : Sts w [(gp, #[.int .i64 a, .int .i64 (b + t)], 35), (go, #[.int .i64 c, .int .i64 0], 35), (ga, #[.int .i64 K, .int .i64 N], 69)] w14))
                clear HS13
                clear hs
                have c0_0 : w14.cell? ⟨gp, 0, none⟩ = some (.int .i64 a) := HS14.out.cell 0 0 rfl rfl
                have c0_1 : w14.cell? ⟨gp, 1, none⟩ = some (.int .i64 (b + t)) := HS14.out.cell 0 1 rfl rfl
                have c1_0 : w14.cell? ⟨go, 0, none⟩ = some (.int .i64 c) := HS14.out.cell 1 0 rfl rfl
                have c1_1 : w14.cell? ⟨go, 1, none⟩ = some (.int .i64 0) := HS14.out.cell 1 1 rfl rfl
                have c2_0 : w14.cell? ⟨ga, 0, none⟩ = some (.int .i64 K) := HS14.out.cell 2 0 rfl rfl
                have c2_1 : w14.cell? ⟨ga, 1, none⟩ = some (.int .i64 N) := HS14.out.cell 2 1 rfl rfl
                go_wp2_with fail
                clear c0_0 c0_1 c1_0 c1_1 c2_0 c2_1
                refine (out_s _ _ HS14.out).mono ?_
                rintro e w15 ⟨rfl, hs⟩
                have HS15 := Lib.hid ((hs.lit rfl : Sts w [(gp, #[.int .i64 a, .int .i64 (b + t)], 35), (go, #[.int .i64 c, .int .i64 0], 35), (ga, #[.int .i64 K, .int .i64 N], 69)] w15))
                clear HS14
                clear hs
                have c0_0 : w15.cell? ⟨gp, 0, none⟩ = some (.int .i64 a) := HS15.out.cell 0 0 rfl rfl
                have c0_1 : w15.cell? ⟨gp, 1, none⟩ = some (.int .i64 (b + t)) := HS15.out.cell 0 1 rfl rfl
                have c1_0 : w15.cell? ⟨go, 0, none⟩ = some (.int .i64 c) := HS15.out.cell 1 0 rfl rfl
                have c1_1 : w15.cell? ⟨go, 1, none⟩ = some (.int .i64 0) := HS15.out.cell 1 1 rfl rfl
                have c2_0 : w15.cell? ⟨ga, 0, none⟩ = some (.int .i64 K) := HS15.out.cell 2 0 rfl rfl
                have c2_1 : w15.cell? ⟨ga, 1, none⟩ = some (.int .i64 N) := HS15.out.cell 2 1 rfl rfl
                go_wp2_with fail
                clear c0_0 c0_1 c1_0 c1_1 c2_0 c2_1
                refine (in_s _ _ HS15.out).mono ?_
                rintro e w16 ⟨rfl, hs⟩
                have HS16 := Lib.hid ((hs.lit rfl : Sts w [(gp, #[.int .i64 a, .int .i64 (b + t)], 35), (go, #[.int .i64 c, .int .i64 0], 35), (ga, #[.int .i64 K, .int .i64 N], 69)] w16))
                clear HS15
                clear hs
                have c0_0 : w16.cell? ⟨gp, 0, none⟩ = some (.int .i64 a) := HS16.out.cell 0 0 rfl rfl
                have c0_1 : w16.cell? ⟨gp, 1, none⟩ = some (.int .i64 (b + t)) := HS16.out.cell 0 1 rfl rfl
                have c1_0 : w16.cell? ⟨go, 0, none⟩ = some (.int .i64 c) := HS16.out.cell 1 0 rfl rfl
                have c1_1 : w16.cell? ⟨go, 1, none⟩ = some (.int .i64 0) := HS16.out.cell 1 1 rfl rfl
                have c2_0 : w16.cell? ⟨ga, 0, none⟩ = some (.int .i64 K) := HS16.out.cell 2 0 rfl rfl
                have c2_1 : w16.cell? ⟨ga, 1, none⟩ = some (.int .i64 N) := HS16.out.cell 2 1 rfl rfl
                go_wp2_with fail
                clear c0_0 c0_1 c1_0 c1_1 c2_0 c2_1
                refine (out_s _ _ HS16.out).mono ?_
                rintro e w17 ⟨rfl, hs⟩
                have HS17 := Lib.hid ((hs.lit rfl : Sts w [(gp, #[.int .i64 a, .int .i64 (b + t)], 35), (go, #[.int .i64 c, .int .i64 0], 35), (ga, #[.int .i64 K, .int .i64 N], 69)] w17))
                clear HS16
                clear hs
                have c0_0 : w17.cell? ⟨gp, 0, none⟩ = some (.int .i64 a) := HS17.out.cell 0 0 rfl rfl
                have c0_1 : w17.cell? ⟨gp, 1, none⟩ = some (.int .i64 (b + t)) := HS17.out.cell 0 1 rfl rfl
                have c1_0 : w17.cell? ⟨go, 0, none⟩ = some (.int .i64 c) := HS17.out.cell 1 0 rfl rfl
                have c1_1 : w17.cell? ⟨go, 1, none⟩ = some (.int .i64 0) := HS17.out.cell 1 1 rfl rfl
                have c2_0 : w17.cell? ⟨ga, 0, none⟩ = some (.int .i64 K) := HS17.out.cell 2 0 rfl rfl
                have c2_1 : w17.cell? ⟨ga, 1, none⟩ = some (.int .i64 N) := HS17.out.cell 2 1 rfl rfl
                clear c0_0 c0_1 c1_0 c1_1 c2_0 c2_1
                go_wp2_with fail
                go_roundw
                case rel => exact ⟨i + 1, a, (b + t), c, rfl, rfl, rfl, by go_num, by omega, by omega, by omega, by omega, by omega, by omega, Lib.hid ((HS17.out.take 2).lit rfl)⟩
                case measure => simp [intOf]; omega
              replace k2 := Bool.eq_false_iff.2 k2
              by_cases k3 : ((K : Int) == 3) = true
              · skip
                have c0_0 : v11.cell? ⟨gp, 0, none⟩ = some (.int .i64 a) := HS11.out.cell 0 0 rfl rfl
                have c0_1 : v11.cell? ⟨gp, 1, none⟩ = some (.int .i64 b) := HS11.out.cell 0 1 rfl rfl
                have c1_0 : v11.cell? ⟨go, 0, none⟩ = some (.int .i64 c) := HS11.out.cell 1 0 rfl rfl
                have c1_1 : v11.cell? ⟨go, 1, none⟩ = some (.int .i64 0) := HS11.out.cell 1 1 rfl rfl
                have c2_0 : v11.cell? ⟨ga, 0, none⟩ = some (.int .i64 K) := HS11.out.cell 2 0 rfl rfl
                have c2_1 : v11.cell? ⟨ga, 1, none⟩ = some (.int .i64 N) := HS11.out.cell 2 1 rfl rfl
                go_wp2_with fail
                clear c0_0 c0_1 c1_0 c1_1 c2_0 c2_1
                refine (all_s a b 0 HS11.out rfl (by omega) (by omega) (by omega)).mono ?_
                rintro e w12 ⟨rfl, hs⟩
                have HS12 := Lib.hid ((hs.lit rfl : Sts w [(gp, #[.int .i64 a, .int .i64 a], 35), (go, #[.int .i64 c, .int .i64 0], 35), (ga, #[.int .i64 K, .int .i64 N], 69)] w12))
                clear HS11
                clear hs
                have c0_0 : w12.cell? ⟨gp, 0, none⟩ = some (.int .i64 a) := HS12.out.cell 0 0 rfl rfl
                have c0_1 : w12.cell? ⟨gp, 1, none⟩ = some (.int .i64 a) := HS12.out.cell 0 1 rfl rfl
                have c1_0 : w12.cell? ⟨go, 0, none⟩ = some (.int .i64 c) := HS12.out.cell 1 0 rfl rfl
                have c1_1 : w12.cell? ⟨go, 1, none⟩ = some (.int .i64 0) := HS12.out.cell 1 1 rfl rfl
                have c2_0 : w12.cell? ⟨ga, 0, none⟩ = some (.int .i64 K) := HS12.out.cell 2 0 rfl rfl
                have c2_1 : w12.cell? ⟨ga, 1, none⟩ = some (.int .i64 N) := HS12.out.cell 2 1 rfl rfl
                go_upto_region 38 with fail
                clear c0_0 c0_1 c1_0 c1_1 c2_0 c2_1
                have c0_0 : w12.cell? ⟨gp, 0, none⟩ = some (.int .i64 a) := HS12.out.cell 0 0 rfl rfl
                have c0_1 : w12.cell? ⟨gp, 1, none⟩ = some (.int .i64 a) := HS12.out.cell 0 1 rfl rfl
                have c1_0 : w12.cell? ⟨go, 0, none⟩ = some (.int .i64 c) := HS12.out.cell 1 0 rfl rfl
                have c1_1 : w12.cell? ⟨go, 1, none⟩ = some (.int .i64 0) := HS12.out.cell 1 1 rfl rfl
                have c2_0 : w12.cell? ⟨ga, 0, none⟩ = some (.int .i64 K) := HS12.out.cell 2 0 rfl rfl
                have c2_1 : w12.cell? ⟨ga, 1, none⟩ = some (.int .i64 N) := HS12.out.cell 2 1 rfl rfl
                go_wp2_with fail
                clear c0_0 c0_1 c1_0 c1_1 c2_0 c2_1
                refine (has_s _ _ _ HS12.out (by omega) (by omega) (by omega) rfl).mono ?_
                rintro e w13 ⟨rfl, hs⟩
                have HS13 := Lib.hid ((hs.lit rfl : Sts w [(gp, #[.int .i64 a, .int .i64 a], 35), (go, #[.int .i64 c, .int .i64 0], 35), (ga, #[.int .i64 K, .int .i64 N], 69)] w13))
                clear HS12
                clear hs
                have c0_0 : w13.cell? ⟨gp, 0, none⟩ = some (.int .i64 a) := HS13.out.cell 0 0 rfl rfl
                have c0_1 : w13.cell? ⟨gp, 1, none⟩ = some (.int .i64 a) := HS13.out.cell 0 1 rfl rfl
                have c1_0 : w13.cell? ⟨go, 0, none⟩ = some (.int .i64 c) := HS13.out.cell 1 0 rfl rfl
                have c1_1 : w13.cell? ⟨go, 1, none⟩ = some (.int .i64 0) := HS13.out.cell 1 1 rfl rfl
                have c2_0 : w13.cell? ⟨ga, 0, none⟩ = some (.int .i64 K) := HS13.out.cell 2 0 rfl rfl
                have c2_1 : w13.cell? ⟨ga, 1, none⟩ = some (.int .i64 N) := HS13.out.cell 2 1 rfl rfl
                go_wp2_with fail
                clear c0_0 c0_1 c1_0 c1_1 c2_0 c2_1
                refine (in_s _ _ HS13.out).mono ?_
                rintro e w14 ⟨rfl, hs⟩
                have HS14 := Lib.hid ((hs.lit rfl : Sts w [(gp, #[.int .i64 a, .int .i64 a], 35), (go, #[.int .i64 c, .int .i64 0], 35), (ga, #[.int .i64 K, .int .i64 N], 69)] w14))
                clear HS13
                clear hs
                have c0_0 : w14.cell? ⟨gp, 0, none⟩ = some (.int .i64 a) := HS14.out.cell 0 0 rfl rfl
                have c0_1 : w14.cell? ⟨gp, 1, none⟩ = some (.int .i64 a) := HS14.out.cell 0 1 rfl rfl
                have c1_0 : w14.cell? ⟨go, 0, none⟩ = some (.int .i64 c) := HS14.out.cell 1 0 rfl rfl
                have c1_1 : w14.cell? ⟨go, 1, none⟩ = some (.int .i64 0) := HS14.out.cell 1 1 rfl rfl
                have c2_0 : w14.cell? ⟨ga, 0, none⟩ = some (.int .i64 K) := HS14.out.cell 2 0 rfl rfl
                have c2_1 : w14.cell? ⟨ga, 1, none⟩ = some (.int .i64 N) := HS14.out.cell 2 1 rfl rfl
                go_wp2_with fail
                clear c0_0 c0_1 c1_0 c1_1 c2_0 c2_1
                refine (out_s _ _ HS14.out).mono ?_
                rintro e w15 ⟨rfl, hs⟩
                have HS15 := Lib.hid ((hs.lit rfl : Sts w [(gp, #[.int .i64 a, .int .i64 a], 35), (go, #[.int .i64 c, .int .i64 0], 35), (ga, #[.int .i64 K, .int .i64 N], 69)] w15))
                clear HS14
                clear hs
                have c0_0 : w15.cell? ⟨gp, 0, none⟩ = some (.int .i64 a) := HS15.out.cell 0 0 rfl rfl
                have c0_1 : w15.cell? ⟨gp, 1, none⟩ = some (.int .i64 a) := HS15.out.cell 0 1 rfl rfl
                have c1_0 : w15.cell? ⟨go, 0, none⟩ = some (.int .i64 c) := HS15.out.cell 1 0 rfl rfl
                have c1_1 : w15.cell? ⟨go, 1, none⟩ = some (.int .i64 0) := HS15.out.cell 1 1 rfl rfl
                have c2_0 : w15.cell? ⟨ga, 0, none⟩ = some (.int .i64 K) := HS15.out.cell 2 0 rfl rfl
                have c2_1 : w15.cell? ⟨ga, 1, none⟩ = some (.int .i64 N) := HS15.out.cell 2 1 rfl rfl
                go_wp2_with fail
                clear c0_0 c0_1 c1_0 c1_1 c2_0 c2_1
                refine (in_s _ _ HS15.out).mono ?_
                rintro e w16 ⟨rfl, hs⟩
                have HS16 := Lib.hid ((hs.lit rfl : Sts w [(gp, #[.int .i64 a, .int .i64 a], 35), (go, #[.int .i64 c, .int .i64 0], 35), (ga, #[.int .i64 K, .int .i64 N], 69)] w16))
                clear HS15
                clear hs
                have c0_0 : w16.cell? ⟨gp, 0, none⟩ = some (.int .i64 a) := HS16.out.cell 0 0 rfl rfl
                have c0_1 : w16.cell? ⟨gp, 1, none⟩ = some (.int .i64 a) := HS16.out.cell 0 1 rfl rfl
                have c1_0 : w16.cell? ⟨go, 0, none⟩ = some (.int .i64 c) := HS16.out.cell 1 0 rfl rfl
                have c1_1 : w16.cell? ⟨go, 1, none⟩ = some (.int .i64 0) := HS16.out.cell 1 1 rfl rfl
                have c2_0 : w16.cell? ⟨ga, 0, none⟩ = some (.int .i64 K) := HS16.out.cell 2 0 rfl rfl
                have c2_1 : w16.cell? ⟨ga, 1, none⟩ = some (.int .i64 N) := HS16.out.cell 2 1 rfl rfl
                go_wp2_with fail
                clear c0_0 c0_1 c1_0 c1_1 c2_0 c2_1
                refine (out_s _ _ HS16.out).mono ?_
                rintro e w17 ⟨rfl, hs⟩
                have HS17 := Lib.hid ((hs.lit rfl : Sts w [(gp, #[.int .i64 a, .int .i64 a], 35), (go, #[.int .i64 c, .int .i64 0], 35), (ga, #[.int .i64 K, .int .i64 N], 69)] w17))
                clear HS16
                clear hs
                have c0_0 : w17.cell? ⟨gp, 0, none⟩ = some (.int .i64 a) := HS17.out.cell 0 0 rfl rfl
                have c0_1 : w17.cell? ⟨gp, 1, none⟩ = some (.int .i64 a) := HS17.out.cell 0 1 rfl rfl
                have c1_0 : w17.cell? ⟨go, 0, none⟩ = some (.int .i64 c) := HS17.out.cell 1 0 rfl rfl
                have c1_1 : w17.cell? ⟨go, 1, none⟩ = some (.int .i64 0) := HS17.out.cell 1 1 rfl rfl
                have c2_0 : w17.cell? ⟨ga, 0, none⟩ = some (.int .i64 K) := HS17.out.cell 2 0 rfl rfl
                have c2_1 : w17.cell? ⟨ga, 1, none⟩ = some (.int .i64 N) := HS17.out.cell 2 1 rfl rfl
                clear c0_0 c0_1 c1_0 c1_1 c2_0 c2_1
                go_wp2_with fail
                go_roundw
                case rel => exact ⟨i + 1, a, a, c, rfl, rfl, rfl, by go_num, by omega, by omega, by omega, by omega, by omega, by omega, Lib.hid ((HS17.out.take 2).lit rfl)⟩
                case measure => simp [intOf]; omega
              replace k3 := Bool.eq_false_iff.2 k3
              by_cases k4 : ((K : Int) == 4) = true
              · skip
                by_cases m1 : 1152921504606846976 - c < t
                · have m2 : decide (1152921504606846976 - c < t) = true := decide_eq_true m1
                  have c0_0 : v11.cell? ⟨gp, 0, none⟩ = some (.int .i64 a) := HS11.out.cell 0 0 rfl rfl
                  have c0_1 : v11.cell? ⟨gp, 1, none⟩ = some (.int .i64 b) := HS11.out.cell 0 1 rfl rfl
                  have c1_0 : v11.cell? ⟨go, 0, none⟩ = some (.int .i64 c) := HS11.out.cell 1 0 rfl rfl
                  have c1_1 : v11.cell? ⟨go, 1, none⟩ = some (.int .i64 0) := HS11.out.cell 1 1 rfl rfl
                  have c2_0 : v11.cell? ⟨ga, 0, none⟩ = some (.int .i64 K) := HS11.out.cell 2 0 rfl rfl
                  have c2_1 : v11.cell? ⟨ga, 1, none⟩ = some (.int .i64 N) := HS11.out.cell 2 1 rfl rfl
                  go_wp2_with fail
                  clear c0_0 c0_1 c1_0 c1_1 c2_0 c2_1
                  have hne : v11.heap.size ≠ gp := by have := HS11.out.lt 0 rfl; omega
                  have HNE := Lib.hid hne
                  clear hne
                  refine (move_none t a b N 0 0 (HS11.out.skip _) rfl rfl rfl (by omega) (by omega) (by omega) (by omega) (by omega) Et.out [none, some ⟨go, 0, none⟩] _ _ 2 (by simp) HNE.out (.inl rfl) (ptr_cells _ _ _) (refuses_two (.inl rfl) (.inr ⟨1, go, 0, _, _, c, rfl, rfl, rfl, (by omega), (by omega), (by omega)⟩))).mono ?_
                  rintro e w12 ⟨rfl, hs⟩
                  have HS12 := Lib.hid ((hs.lit (by simp) : Sts w [(gp, #[.int .i64 a, .int .i64 b], 35), (go, #[.int .i64 c, .int .i64 0], 35), (ga, #[.int .i64 K, .int .i64 N], 69)] w12))
                  clear HS11
                  clear hs
                  have c0_0 : w12.cell? ⟨gp, 0, none⟩ = some (.int .i64 a) := HS12.out.cell 0 0 rfl rfl
                  have c0_1 : w12.cell? ⟨gp, 1, none⟩ = some (.int .i64 b) := HS12.out.cell 0 1 rfl rfl
                  have c1_0 : w12.cell? ⟨go, 0, none⟩ = some (.int .i64 c) := HS12.out.cell 1 0 rfl rfl
                  have c1_1 : w12.cell? ⟨go, 1, none⟩ = some (.int .i64 0) := HS12.out.cell 1 1 rfl rfl
                  have c2_0 : w12.cell? ⟨ga, 0, none⟩ = some (.int .i64 K) := HS12.out.cell 2 0 rfl rfl
                  have c2_1 : w12.cell? ⟨ga, 1, none⟩ = some (.int .i64 N) := HS12.out.cell 2 1 rfl rfl
                  go_upto_region 38 with fail
                  clear c0_0 c0_1 c1_0 c1_1 c2_0 c2_1
                  have c0_0 : w12.cell? ⟨gp, 0, none⟩ = some (.int .i64 a) := HS12.out.cell 0 0 rfl rfl
                  have c0_1 : w12.cell? ⟨gp, 1, none⟩ = some (.int .i64 b) := HS12.out.cell 0 1 rfl rfl
                  have c1_0 : w12.cell? ⟨go, 0, none⟩ = some (.int .i64 c) := HS12.out.cell 1 0 rfl rfl
                  have c1_1 : w12.cell? ⟨go, 1, none⟩ = some (.int .i64 0) := HS12.out.cell 1 1 rfl rfl
                  have c2_0 : w12.cell? ⟨ga, 0, none⟩ = some (.int .i64 K) := HS12.out.cell 2 0 rfl rfl
                  have c2_1 : w12.cell? ⟨ga, 1, none⟩ = some (.int .i64 N) := HS12.out.cell 2 1 rfl rfl
                  go_wp2_with fail
                  clear c0_0 c0_1 c1_0 c1_1 c2_0 c2_1
                  refine (has_s _ _ _ HS12.out (by omega) (by omega) (by omega) rfl).mono ?_
                  rintro e w13 ⟨rfl, hs⟩
                  have HS13 := Lib.hid ((hs.lit rfl : Sts w [(gp, #[.int .i64 a, .int .i64 b], 35), (go, #[.int .i64 c, .int .i64 0], 35), (ga, #[.int .i64 K, .int .i64 N], 69)] w13))
                  clear HS12
                  clear hs
                  have c0_0 : w13.cell? ⟨gp, 0, none⟩ = some (.int .i64 a) := HS13.out.cell 0 0 rfl rfl
                  have c0_1 : w13.cell? ⟨gp, 1, none⟩ = some (.int .i64 b) := HS13.out.cell 0 1 rfl rfl
                  have c1_0 : w13.cell? ⟨go, 0, none⟩ = some (.int .i64 c) := HS13.out.cell 1 0 rfl rfl
                  have c1_1 : w13.cell? ⟨go, 1, none⟩ = some (.int .i64 0) := HS13.out.cell 1 1 rfl rfl
                  have c2_0 : w13.cell? ⟨ga, 0, none⟩ = some (.int .i64 K) := HS13.out.cell 2 0 rfl rfl
                  have c2_1 : w13.cell? ⟨ga, 1, none⟩ = some (.int .i64 N) := HS13.out.cell 2 1 rfl rfl
                  go_wp2_with fail
                  clear c0_0 c0_1 c1_0 c1_1 c2_0 c2_1
                  refine (in_s _ _ HS13.out).mono ?_
                  rintro e w14 ⟨rfl, hs⟩
                  have HS14 := Lib.hid ((hs.lit rfl : Sts w [(gp, #[.int .i64 a, .int .i64 b], 35), (go, #[.int .i64 c, .int .i64 0], 35), (ga, #[.int .i64 K, .int .i64 N], 69)] w14))
                  clear HS13
                  clear hs
                  have c0_0 : w14.cell? ⟨gp, 0, none⟩ = some (.int .i64 a) := HS14.out.cell 0 0 rfl rfl
                  have c0_1 : w14.cell? ⟨gp, 1, none⟩ = some (.int .i64 b) := HS14.out.cell 0 1 rfl rfl
                  have c1_0 : w14.cell? ⟨go, 0, none⟩ = some (.int .i64 c) := HS14.out.cell 1 0 rfl rfl
                  have c1_1 : w14.cell? ⟨go, 1, none⟩ = some (.int .i64 0) := HS14.out.cell 1 1 rfl rfl
                  have c2_0 : w14.cell? ⟨ga, 0, none⟩ = some (.int .i64 K) := HS14.out.cell 2 0 rfl rfl
                  have c2_1 : w14.cell? ⟨ga, 1, none⟩ = some (.int .i64 N) := HS14.out.cell 2 1 rfl rfl
                  go_wp2_with fail
                  clear c0_0 c0_1 c1_0 c1_1 c2_0 c2_1
                  refine (out_s _ _ HS14.out).mono ?_
                  rintro e w15 ⟨rfl, hs⟩
                  have HS15 := Lib.hid ((hs.lit rfl : Sts w [(gp, #[.int .i64 a, .int .i64 b], 35), (go, #[.int .i64 c, .int .i64 0], 35), (ga, #[.int .i64 K, .int .i64 N], 69)] w15))
                  clear HS14
                  clear hs
                  have c0_0 : w15.cell? ⟨gp, 0, none⟩ = some (.int .i64 a) := HS15.out.cell 0 0 rfl rfl
                  have c0_1 : w15.cell? ⟨gp, 1, none⟩ = some (.int .i64 b) := HS15.out.cell 0 1 rfl rfl
                  have c1_0 : w15.cell? ⟨go, 0, none⟩ = some (.int .i64 c) := HS15.out.cell 1 0 rfl rfl
                  have c1_1 : w15.cell? ⟨go, 1, none⟩ = some (.int .i64 0) := HS15.out.cell 1 1 rfl rfl
                  have c2_0 : w15.cell? ⟨ga, 0, none⟩ = some (.int .i64 K) := HS15.out.cell 2 0 rfl rfl
                  have c2_1 : w15.cell? ⟨ga, 1, none⟩ = some (.int .i64 N) := HS15.out.cell 2 1 rfl rfl
                  go_wp2_with fail
                  clear c0_0 c0_1 c1_0 c1_1 c2_0 c2_1
                  refine (in_s _ _ HS15.out).mono ?_
                  rintro e w16 ⟨rfl, hs⟩
                  have HS16 := Lib.hid ((hs.lit rfl : Sts w [(gp, #[.int .i64 a, .int .i64 b], 35), (go, #[.int .i64 c, .int .i64 0], 35), (ga, #[.int .i64 K, .int .i64 N], 69)] w16))
                  clear HS15
                  clear hs
                  have c0_0 : w16.cell? ⟨gp, 0, none⟩ = some (.int .i64 a) := HS16.out.cell 0 0 rfl rfl
                  have c0_1 : w16.cell? ⟨gp, 1, none⟩ = some (.int .i64 b) := HS16.out.cell 0 1 rfl rfl
                  have c1_0 : w16.cell? ⟨go, 0, none⟩ = some (.int .i64 c) := HS16.out.cell 1 0 rfl rfl
                  have c1_1 : w16.cell? ⟨go, 1, none⟩ = some (.int .i64 0) := HS16.out.cell 1 1 rfl rfl
                  have c2_0 : w16.cell? ⟨ga, 0, none⟩ = some (.int .i64 K) := HS16.out.cell 2 0 rfl rfl
                  have c2_1 : w16.cell? ⟨ga, 1, none⟩ = some (.int .i64 N) := HS16.out.cell 2 1 rfl rfl
                  go_wp2_with fail
                  clear c0_0 c0_1 c1_0 c1_1 c2_0 c2_1
                  refine (out_s _ _ HS16.out).mono ?_
                  rintro e w17 ⟨rfl, hs⟩
                  have HS17 := Lib.hid ((hs.lit rfl : Sts w [(gp, #[.int .i64 a, .int .i64 b], 35), (go, #[.int .i64 c, .int .i64 0], 35), (ga, #[.int .i64 K, .int .i64 N], 69)] w17))
                  clear HS16
                  clear hs
                  have c0_0 : w17.cell? ⟨gp, 0, none⟩ = some (.int .i64 a) := HS17.out.cell 0 0 rfl rfl
                  have c0_1 : w17.cell? ⟨gp, 1, none⟩ = some (.int .i64 b) := HS17.out.cell 0 1 rfl rfl
                  have c1_0 : w17.cell? ⟨go, 0, none⟩ = some (.int .i64 c) := HS17.out.cell 1 0 rfl rfl
                  have c1_1 : w17.cell? ⟨go, 1, none⟩ = some (.int .i64 0) := HS17.out.cell 1 1 rfl rfl
                  have c2_0 : w17.cell? ⟨ga, 0, none⟩ = some (.int .i64 K) := HS17.out.cell 2 0 rfl rfl
                  have c2_1 : w17.cell? ⟨ga, 1, none⟩ = some (.int .i64 N) := HS17.out.cell 2 1 rfl rfl
                  clear c0_0 c0_1 c1_0 c1_1 c2_0 c2_1
                  go_wp2_with fail
                  go_roundw
                  case rel => exact ⟨i + 1, a, b, c, rfl, rfl, rfl, by go_num, by omega, by omega, by omega, by omega, by omega, by omega, Lib.hid ((HS17.out.take 2).lit rfl)⟩
                  case measure => simp [intOf]; omega
                · have m2 : decide (1152921504606846976 - c < t) = false := decide_eq_false m1
                  have c0_0 : v11.cell? ⟨gp, 0, none⟩ = some (.int .i64 a) := HS11.out.cell 0 0 rfl rfl
                  have c0_1 : v11.cell? ⟨gp, 1, none⟩ = some (.int .i64 b) := HS11.out.cell 0 1 rfl rfl
                  have c1_0 : v11.cell? ⟨go, 0, none⟩ = some (.int .i64 c) := HS11.out.cell 1 0 rfl rfl
                  have c1_1 : v11.cell? ⟨go, 1, none⟩ = some (.int .i64 0) := HS11.out.cell 1 1 rfl rfl
                  have c2_0 : v11.cell? ⟨ga, 0, none⟩ = some (.int .i64 K) := HS11.out.cell 2 0 rfl rfl
                  have c2_1 : v11.cell? ⟨ga, 1, none⟩ = some (.int .i64 N) := HS11.out.cell 2 1 rfl rfl
                  go_wp2_with fail
                  clear c0_0 c0_1 c1_0 c1_1 c2_0 c2_1
                  have hne : v11.heap.size ≠ gp := by have := HS11.out.lt 0 rfl; omega
                  have HNE := Lib.hid hne
                  clear hne
                  refine (move_takes t a b N 0 0 (HS11.out.skip _) rfl rfl rfl (by omega) (by omega) (by omega) (by omega) (by omega) Et.out [none, some ⟨go, 0, none⟩] _ 2 (by simp) HNE.out (ptr_cells _ _ _) 1 (by simp) (fun q hq => by obtain rfl : q = 0 := (by omega); exact .inl rfl) 1 go 0 _ _ c rfl rfl rfl (by omega) (by omega)).mono ?_
                  rintro e w12 ⟨rfl, hs⟩
                  have HS12 := Lib.hid ((hs.lit (by simp) : Sts w [(gp, #[.int .i64 a, .int .i64 (b + t)], 35), (go, #[.int .i64 (c + t), .int .i64 0], 35), (ga, #[.int .i64 K, .int .i64 N], 69)] w12))
                  clear HS11
                  clear hs
                  have c0_0 : w12.cell? ⟨gp, 0, none⟩ = some (.int .i64 a) := HS12.out.cell 0 0 rfl rfl
                  have c0_1 : w12.cell? ⟨gp, 1, none⟩ = some (.int .i64 (b + t)) := HS12.out.cell 0 1 rfl rfl
                  have c1_0 : w12.cell? ⟨go, 0, none⟩ = some (.int .i64 (c + t)) := HS12.out.cell 1 0 rfl rfl
                  have c1_1 : w12.cell? ⟨go, 1, none⟩ = some (.int .i64 0) := HS12.out.cell 1 1 rfl rfl
                  have c2_0 : w12.cell? ⟨ga, 0, none⟩ = some (.int .i64 K) := HS12.out.cell 2 0 rfl rfl
                  have c2_1 : w12.cell? ⟨ga, 1, none⟩ = some (.int .i64 N) := HS12.out.cell 2 1 rfl rfl
                  go_upto_region 38 with fail
                  clear c0_0 c0_1 c1_0 c1_1 c2_0 c2_1
                  have c0_0 : w12.cell? ⟨gp, 0, none⟩ = some (.int .i64 a) := HS12.out.cell 0 0 rfl rfl
                  have c0_1 : w12.cell? ⟨gp, 1, none⟩ = some (.int .i64 (b + t)) := HS12.out.cell 0 1 rfl rfl
                  have c1_0 : w12.cell? ⟨go, 0, none⟩ = some (.int .i64 (c + t)) := HS12.out.cell 1 0 rfl rfl
                  have c1_1 : w12.cell? ⟨go, 1, none⟩ = some (.int .i64 0) := HS12.out.cell 1 1 rfl rfl
                  have c2_0 : w12.cell? ⟨ga, 0, none⟩ = some (.int .i64 K) := HS12.out.cell 2 0 rfl rfl
                  have c2_1 : w12.cell? ⟨ga, 1, none⟩ = some (.int .i64 N) := HS12.out.cell 2 1 rfl rfl
                  go_wp2_with fail
                  clear c0_0 c0_1 c1_0 c1_1 c2_0 c2_1
                  refine (has_s _ _ _ HS12.out (by omega) (by omega) (by omega) rfl).mono ?_
                  rintro e w13 ⟨rfl, hs⟩
                  have HS13 := Lib.hid ((hs.lit rfl : Sts w [(gp, #[.int .i64 a, .int .i64 (b + t)], 35), (go, #[.int .i64 (c + t), .int .i64 0], 35), (ga, #[.int .i64 K, .int .i64 N], 69)] w13))
                  clear HS12
                  clear hs
                  have c0_0 : w13.cell? ⟨gp, 0, none⟩ = some (.int .i64 a) := HS13.out.cell 0 0 rfl rfl
                  have c0_1 : w13.cell? ⟨gp, 1, none⟩ = some (.int .i64 (b + t)) := HS13.out.cell 0 1 rfl rfl
                  have c1_0 : w13.cell? ⟨go, 0, none⟩ = some (.int .i64 (c + t)) := HS13.out.cell 1 0 rfl rfl
                  have c1_1 : w13.cell? ⟨go, 1, none⟩ = some (.int .i64 0) := HS13.out.cell 1 1 rfl rfl
                  have c2_0 : w13.cell? ⟨ga, 0, none⟩ = some (.int .i64 K) := HS13.out.cell 2 0 rfl rfl
                  have c2_1 : w13.cell? ⟨ga, 1, none⟩ = some (.int .i64 N) := HS13.out.cell 2 1 rfl rfl
                  go_wp2_with fail
                  clear c0_0 c0_1 c1_0 c1_1 c2_0 c2_1
                  refine (in_s _ _ HS13.out).mono ?_
                  rintro e w14 ⟨rfl, hs⟩
                  have HS14 := Lib.hid ((hs.lit rfl : Sts w [(gp, #[.int .i64 a, .int .i64 (b + t)], 35), (go, #[.int .i64 (c + t), .int .i64 0], 35), (ga, #[.int .i64 K, .int .i64 N], 69)] w14))
                  clear HS13
                  clear hs
                  have c0_0 : w14.cell? ⟨gp, 0, none⟩ = some (.int .i64 a) := HS14.out.cell 0 0 rfl rfl
                  have c0_1 : w14.cell? ⟨gp, 1, none⟩ = some (.int .i64 (b + t)) := HS14.out.cell 0 1 rfl rfl
                  have c1_0 : w14.cell? ⟨go, 0, none⟩ = some (.int .i64 (c + t)) := HS14.out.cell 1 0 rfl rfl
                  have c1_1 : w14.cell? ⟨go, 1, none⟩ = some (.int .i64 0) := HS14.out.cell 1 1 rfl rfl
                  have c2_0 : w14.cell? ⟨ga, 0, none⟩ = some (.int .i64 K) := HS14.out.cell 2 0 rfl rfl
                  have c2_1 : w14.cell? ⟨ga, 1, none⟩ = some (.int .i64 N) := HS14.out.cell 2 1 rfl rfl
                  go_wp2_with fail
                  clear c0_0 c0_1 c1_0 c1_1 c2_0 c2_1
                  refine (out_s _ _ HS14.out).mono ?_
                  rintro e w15 ⟨rfl, hs⟩
                  have HS15 := Lib.hid ((hs.lit rfl : Sts w [(gp, #[.int .i64 a, .int .i64 (b + t)], 35), (go, #[.int .i64 (c + t), .int .i64 0], 35), (ga, #[.int .i64 K, .int .i64 N], 69)] w15))
                  clear HS14
                  clear hs
                  have c0_0 : w15.cell? ⟨gp, 0, none⟩ = some (.int .i64 a) := HS15.out.cell 0 0 rfl rfl
                  have c0_1 : w15.cell? ⟨gp, 1, none⟩ = some (.int .i64 (b + t)) := HS15.out.cell 0 1 rfl rfl
                  have c1_0 : w15.cell? ⟨go, 0, none⟩ = some (.int .i64 (c + t)) := HS15.out.cell 1 0 rfl rfl
                  have c1_1 : w15.cell? ⟨go, 1, none⟩ = some (.int .i64 0) := HS15.out.cell 1 1 rfl rfl
                  have c2_0 : w15.cell? ⟨ga, 0, none⟩ = some (.int .i64 K) := HS15.out.cell 2 0 rfl rfl
                  have c2_1 : w15.cell? ⟨ga, 1, none⟩ = some (.int .i64 N) := HS15.out.cell 2 1 rfl rfl
                  go_wp2_with fail
                  clear c0_0 c0_1 c1_0 c1_1 c2_0 c2_1
                  refine (in_s _ _ HS15.out).mono ?_
                  rintro e w16 ⟨rfl, hs⟩
                  have HS16 := Lib.hid ((hs.lit rfl : Sts w [(gp, #[.int .i64 a, .int .i64 (b + t)], 35), (go, #[.int .i64 (c + t), .int .i64 0], 35), (ga, #[.int .i64 K, .int .i64 N], 69)] w16))
                  clear HS15
                  clear hs
                  have c0_0 : w16.cell? ⟨gp, 0, none⟩ = some (.int .i64 a) := HS16.out.cell 0 0 rfl rfl
                  have c0_1 : w16.cell? ⟨gp, 1, none⟩ = some (.int .i64 (b + t)) := HS16.out.cell 0 1 rfl rfl
                  have c1_0 : w16.cell? ⟨go, 0, none⟩ = some (.int .i64 (c + t)) := HS16.out.cell 1 0 rfl rfl
                  have c1_1 : w16.cell? ⟨go, 1, none⟩ = some (.int .i64 0) := HS16.out.cell 1 1 rfl rfl
                  have c2_0 : w16.cell? ⟨ga, 0, none⟩ = some (.int .i64 K) := HS16.out.cell 2 0 rfl rfl
                  have c2_1 : w16.cell? ⟨ga, 1, none⟩ = some (.int .i64 N) := HS16.out.cell 2 1 rfl rfl
                  go_wp2_with fail
                  clear c0_0 c0_1 c1_0 c1_1 c2_0 c2_1
                  refine (out_s _ _ HS16.out).mono ?_
                  rintro e w17 ⟨rfl, hs⟩
                  have HS17 := Lib.hid ((hs.lit rfl : Sts w [(gp, #[.int .i64 a, .int .i64 (b + t)], 35), (go, #[.int .i64 (c + t), .int .i64 0], 35), (ga, #[.int .i64 K, .int .i64 N], 69)] w17))
                  clear HS16
                  clear hs
                  have c0_0 : w17.cell? ⟨gp, 0, none⟩ = some (.int .i64 a) := HS17.out.cell 0 0 rfl rfl
                  have c0_1 : w17.cell? ⟨gp, 1, none⟩ = some (.int .i64 (b + t)) := HS17.out.cell 0 1 rfl rfl
                  have c1_0 : w17.cell? ⟨go, 0, none⟩ = some (.int .i64 (c + t)) := HS17.out.cell 1 0 rfl rfl
                  have c1_1 : w17.cell? ⟨go, 1, none⟩ = some (.int .i64 0) := HS17.out.cell 1 1 rfl rfl
                  have c2_0 : w17.cell? ⟨ga, 0, none⟩ = some (.int .i64 K) := HS17.out.cell 2 0 rfl rfl
                  have c2_1 : w17.cell? ⟨ga, 1, none⟩ = some (.int .i64 N) := HS17.out.cell 2 1 rfl rfl
                  clear c0_0 c0_1 c1_0 c1_1 c2_0 c2_1
                  go_wp2_with fail
                  go_roundw
                  case rel => exact ⟨i + 1, a, (b + t), (c + t), rfl, rfl, rfl, by go_num, by omega, by omega, by omega, by omega, by omega, by omega, Lib.hid ((HS17.out.take 2).lit rfl)⟩
                  case measure => simp [intOf]; omega
              replace k4 := Bool.eq_false_iff.2 k4
              by_cases k5 : ((K : Int) == 5) = true
              · skip
                have c0_0 : v11.cell? ⟨gp, 0, none⟩ = some (.int .i64 a) := HS11.out.cell 0 0 rfl rfl
                have c0_1 : v11.cell? ⟨gp, 1, none⟩ = some (.int .i64 b) := HS11.out.cell 0 1 rfl rfl
                have c1_0 : v11.cell? ⟨go, 0, none⟩ = some (.int .i64 c) := HS11.out.cell 1 0 rfl rfl
                have c1_1 : v11.cell? ⟨go, 1, none⟩ = some (.int .i64 0) := HS11.out.cell 1 1 rfl rfl
                have c2_0 : v11.cell? ⟨ga, 0, none⟩ = some (.int .i64 K) := HS11.out.cell 2 0 rfl rfl
                have c2_1 : v11.cell? ⟨ga, 1, none⟩ = some (.int .i64 N) := HS11.out.cell 2 1 rfl rfl
                go_wp2_with fail
                clear c0_0 c0_1 c1_0 c1_1 c2_0 c2_1
                have HS12 := Lib.hid ((HS11.out.add (g := v11.heap.size) (by simp) #[.int .i64 a, .int .i64 b] 35).lit (L' := [(gp, #[.int .i64 a, .int .i64 b], 35), (go, #[.int .i64 c, .int .i64 0], 35), (ga, #[.int .i64 K, .int .i64 N], 69), (v11.heap.size, #[.int .i64 a, .int .i64 b], 35)]) rfl)
                clear HS11
                generalize v11.heap.size = gc at *
                by_cases m1 : a + 1 ≤ 1152921504606846976
                · skip
                  refine (put_s a b 1 3 HS12.out rfl (by omega) (by omega) (by omega)).mono ?_
                  rintro e w13 ⟨rfl, hs⟩
                  have HS13 := Lib.hid ((hs.lit rfl : Sts w [(gp, #[.int .i64 a, .int .i64 b], 35), (go, #[.int .i64 c, .int .i64 0], 35), (ga, #[.int .i64 K, .int .i64 N], 69), (gc, #[.int .i64 (a + 1), .int .i64 b], 35)] w13))
                  clear HS12
                  clear hs
                  go_wp2_with fail
                  refine (all_s (a + 1) b 3 HS13.out rfl (by omega) (by omega) (by omega)).mono ?_
                  rintro e w14 ⟨rfl, hs⟩
                  have HS14 := Lib.hid ((hs.lit rfl : Sts w [(gp, #[.int .i64 a, .int .i64 b], 35), (go, #[.int .i64 c, .int .i64 0], 35), (ga, #[.int .i64 K, .int .i64 N], 69), (gc, #[.int .i64 (a + 1), .int .i64 (a + 1)], 35)] w14))
                  clear HS13
                  clear hs
                  have c0_0 : w14.cell? ⟨gp, 0, none⟩ = some (.int .i64 a) := HS14.out.cell 0 0 rfl rfl
                  have c0_1 : w14.cell? ⟨gp, 1, none⟩ = some (.int .i64 b) := HS14.out.cell 0 1 rfl rfl
                  have c1_0 : w14.cell? ⟨go, 0, none⟩ = some (.int .i64 c) := HS14.out.cell 1 0 rfl rfl
                  have c1_1 : w14.cell? ⟨go, 1, none⟩ = some (.int .i64 0) := HS14.out.cell 1 1 rfl rfl
                  have c2_0 : w14.cell? ⟨ga, 0, none⟩ = some (.int .i64 K) := HS14.out.cell 2 0 rfl rfl
                  have c2_1 : w14.cell? ⟨ga, 1, none⟩ = some (.int .i64 N) := HS14.out.cell 2 1 rfl rfl
                  have c3_0 : w14.cell? ⟨gc, 0, none⟩ = some (.int .i64 (a + 1)) := HS14.out.cell 3 0 rfl rfl
                  have c3_1 : w14.cell? ⟨gc, 1, none⟩ = some (.int .i64 (a + 1)) := HS14.out.cell 3 1 rfl rfl
                  go_upto_region 38 with fail
                  clear c0_0 c0_1 c1_0 c1_1 c2_0 c2_1 c3_0 c3_1
                  have c0_0 : w14.cell? ⟨gp, 0, none⟩ = some (.int .i64 a) := HS14.out.cell 0 0 rfl rfl
                  have c0_1 : w14.cell? ⟨gp, 1, none⟩ = some (.int .i64 b) := HS14.out.cell 0 1 rfl rfl
                  have c1_0 : w14.cell? ⟨go, 0, none⟩ = some (.int .i64 c) := HS14.out.cell 1 0 rfl rfl
                  have c1_1 : w14.cell? ⟨go, 1, none⟩ = some (.int .i64 0) := HS14.out.cell 1 1 rfl rfl
                  have c2_0 : w14.cell? ⟨ga, 0, none⟩ = some (.int .i64 K) := HS14.out.cell 2 0 rfl rfl
                  have c2_1 : w14.cell? ⟨ga, 1, none⟩ = some (.int .i64 N) := HS14.out.cell 2 1 rfl rfl
                  have c3_0 : w14.cell? ⟨gc, 0, none⟩ = some (.int .i64 (a + 1)) := HS14.out.cell 3 0 rfl rfl
                  have c3_1 : w14.cell? ⟨gc, 1, none⟩ = some (.int .i64 (a + 1)) := HS14.out.cell 3 1 rfl rfl
                  go_wp2_with fail
                  clear c0_0 c0_1 c1_0 c1_1 c2_0 c2_1 c3_0 c3_1
                  refine (has_s _ _ _ HS14.out (by omega) (by omega) (by omega) rfl).mono ?_
                  rintro e w15 ⟨rfl, hs⟩
                  have HS15 := Lib.hid ((hs.lit rfl : Sts w [(gp, #[.int .i64 a, .int .i64 b], 35), (go, #[.int .i64 c, .int .i64 0], 35), (ga, #[.int .i64 K, .int .i64 N], 69), (gc, #[.int .i64 (a + 1), .int .i64 (a + 1)], 35)] w15))
                  clear HS14
                  clear hs
                  have c0_0 : w15.cell? ⟨gp, 0, none⟩ = some (.int .i64 a) := HS15.out.cell 0 0 rfl rfl
                  have c0_1 : w15.cell? ⟨gp, 1, none⟩ = some (.int .i64 b) := HS15.out.cell 0 1 rfl rfl
                  have c1_0 : w15.cell? ⟨go, 0, none⟩ = some (.int .i64 c) := HS15.out.cell 1 0 rfl rfl
                  have c1_1 : w15.cell? ⟨go, 1, none⟩ = some (.int .i64 0) := HS15.out.cell 1 1 rfl rfl
                  have c2_0 : w15.cell? ⟨ga, 0, none⟩ = some (.int .i64 K) := HS15.out.cell 2 0 rfl rfl
                  have c2_1 : w15.cell? ⟨ga, 1, none⟩ = some (.int .i64 N) := HS15.out.cell 2 1 rfl rfl
                  have c3_0 : w15.cell? ⟨gc, 0, none⟩ = some (.int .i64 (a + 1)) := HS15.out.cell 3 0 rfl rfl
                  have c3_1 : w15.cell? ⟨gc, 1, none⟩ = some (.int .i64 (a + 1)) := HS15.out.cell 3 1 rfl rfl
                  go_wp2_with fail
                  clear c0_0 c0_1 c1_0 c1_1 c2_0 c2_1 c3_0 c3_1
                  refine (in_s _ _ HS15.out).mono ?_
                  rintro e w16 ⟨rfl, hs⟩
                  have HS16 := Lib.hid ((hs.lit rfl : Sts w [(gp, #[.int .i64 a, .int .i64 b], 35), (go, #[.int .i64 c, .int .i64 0], 35), (ga, #[.int .i64 K, .int .i64 N], 69), (gc, #[.int .i64 (a + 1), .int .i64 (a + 1)], 35)] w16))
                  clear HS15
                  clear hs
                  have c0_0 : w16.cell? ⟨gp, 0, none⟩ = some (.int .i64 a) := HS16.out.cell 0 0 rfl rfl
                  have c0_1 : w16.cell? ⟨gp, 1, none⟩ = some (.int .i64 b) := HS16.out.cell 0 1 rfl rfl
                  have c1_0 : w16.cell? ⟨go, 0, none⟩ = some (.int .i64 c) := HS16.out.cell 1 0 rfl rfl
                  have c1_1 : w16.cell? ⟨go, 1, none⟩ = some (.int .i64 0) := HS16.out.cell 1 1 rfl rfl
                  have c2_0 : w16.cell? ⟨ga, 0, none⟩ = some (.int .i64 K) := HS16.out.cell 2 0 rfl rfl
                  have c2_1 : w16.cell? ⟨ga, 1, none⟩ = some (.int .i64 N) := HS16.out.cell 2 1 rfl rfl
                  have c3_0 : w16.cell? ⟨gc, 0, none⟩ = some (.int .i64 (a + 1)) := HS16.out.cell 3 0 rfl rfl
                  have c3_1 : w16.cell? ⟨gc, 1, none⟩ = some (.int .i64 (a + 1)) := HS16.out.cell 3 1 rfl rfl
                  go_wp2_with fail
                  clear c0_0 c0_1 c1_0 c1_1 c2_0 c2_1 c3_0 c3_1
                  refine (out_s _ _ HS16.out).mono ?_
                  rintro e w17 ⟨rfl, hs⟩
                  have HS17 := Lib.hid ((hs.lit rfl : Sts w [(gp, #[.int .i64 a, .int .i64 b], 35), (go, #[.int .i64 c, .int .i64 0], 35), (ga, #[.int .i64 K, .int .i64 N], 69), (gc, #[.int .i64 (a + 1), .int .i64 (a + 1)], 35)] w17))
                  clear HS16
                  clear hs
                  have c0_0 : w17.cell? ⟨gp, 0, none⟩ = some (.int .i64 a) := HS17.out.cell 0 0 rfl rfl
                  have c0_1 : w17.cell? ⟨gp, 1, none⟩ = some (.int .i64 b) := HS17.out.cell 0 1 rfl rfl
                  have c1_0 : w17.cell? ⟨go, 0, none⟩ = some (.int .i64 c) := HS17.out.cell 1 0 rfl rfl
                  have c1_1 : w17.cell? ⟨go, 1, none⟩ = some (.int .i64 0) := HS17.out.cell 1 1 rfl rfl
                  have c2_0 : w17.cell? ⟨ga, 0, none⟩ = some (.int .i64 K) := HS17.out.cell 2 0 rfl rfl
                  have c2_1 : w17.cell? ⟨ga, 1, none⟩ = some (.int .i64 N) := HS17.out.cell 2 1 rfl rfl
                  have c3_0 : w17.cell? ⟨gc, 0, none⟩ = some (.int .i64 (a + 1)) := HS17.out.cell 3 0 rfl rfl
                  have c3_1 : w17.cell? ⟨gc, 1, none⟩ = some (.int .i64 (a + 1)) := HS17.out.cell 3 1 rfl rfl
                  go_wp2_with fail
                  clear c0_0 c0_1 c1_0 c1_1 c2_0 c2_1 c3_0 c3_1
                  refine (in_s _ _ HS17.out).mono ?_
                  rintro e w18 ⟨rfl, hs⟩
                  have HS18 := Lib.hid ((hs.lit rfl : Sts w [(gp, #[.int .i64 a, .int .i64 b], 35), (go, #[.int .i64 c, .int .i64 0], 35), (ga, #[.int .i64 K, .int .i64 N], 69), (gc, #[.int .i64 (a + 1), .int .i64 (a + 1)], 35)] w18))
                  clear HS17
                  clear hs
                  have c0_0 : w18.cell? ⟨gp, 0, none⟩ = some (.int .i64 a) := HS18.out.cell 0 0 rfl rfl
                  have c0_1 : w18.cell? ⟨gp, 1, none⟩ = some (.int .i64 b) := HS18.out.cell 0 1 rfl rfl
                  have c1_0 : w18.cell? ⟨go, 0, none⟩ = some (.int .i64 c) := HS18.out.cell 1 0 rfl rfl
                  have c1_1 : w18.cell? ⟨go, 1, none⟩ = some (.int .i64 0) := HS18.out.cell 1 1 rfl rfl
                  have c2_0 : w18.cell? ⟨ga, 0, none⟩ = some (.int .i64 K) := HS18.out.cell 2 0 rfl rfl
                  have c2_1 : w18.cell? ⟨ga, 1, none⟩ = some (.int .i64 N) := HS18.out.cell 2 1 rfl rfl
                  have c3_0 : w18.cell? ⟨gc, 0, none⟩ = some (.int .i64 (a + 1)) := HS18.out.cell 3 0 rfl rfl
                  have c3_1 : w18.cell? ⟨gc, 1, none⟩ = some (.int .i64 (a + 1)) := HS18.out.cell 3 1 rfl rfl
                  go_wp2_with fail
                  clear c0_0 c0_1 c1_0 c1_1 c2_0 c2_1 c3_0 c3_1
                  refine (out_s _ _ HS18.out).mono ?_
                  rintro e w19 ⟨rfl, hs⟩
                  have HS19 := Lib.hid ((hs.lit rfl : Sts w [(gp, #[.int .i64 a, .int .i64 b], 35), (go, #[.int .i64 c, .int .i64 0], 35), (ga, #[.int .i64 K, .int .i64 N], 69), (gc, #[.int .i64 (a + 1), .int .i64 (a + 1)], 35)] w19))
                  clear HS18
                  clear hs
                  have c0_0 : w19.cell? ⟨gp, 0, none⟩ = some (.int .i64 a) := HS19.out.cell 0 0 rfl rfl
                  have c0_1 : w19.cell? ⟨gp, 1, none⟩ = some (.int .i64 b) := HS19.out.cell 0 1 rfl rfl
                  have c1_0 : w19.cell? ⟨go, 0, none⟩ = some (.int .i64 c) := HS19.out.cell 1 0 rfl rfl
                  have c1_1 : w19.cell? ⟨go, 1, none⟩ = some (.int .i64 0) := HS19.out.cell 1 1 rfl rfl
                  have c2_0 : w19.cell? ⟨ga, 0, none⟩ = some (.int .i64 K) := HS19.out.cell 2 0 rfl rfl
                  have c2_1 : w19.cell? ⟨ga, 1, none⟩ = some (.int .i64 N) := HS19.out.cell 2 1 rfl rfl
                  have c3_0 : w19.cell? ⟨gc, 0, none⟩ = some (.int .i64 (a + 1)) := HS19.out.cell 3 0 rfl rfl
                  have c3_1 : w19.cell? ⟨gc, 1, none⟩ = some (.int .i64 (a + 1)) := HS19.out.cell 3 1 rfl rfl
                  clear c0_0 c0_1 c1_0 c1_1 c2_0 c2_1 c3_0 c3_1
                  go_wp2_with fail
                  go_roundw
                  case rel => exact ⟨i + 1, a, b, c, rfl, rfl, rfl, by go_num, by omega, by omega, by omega, by omega, by omega, by omega, Lib.hid ((HS19.out.take 2).lit rfl)⟩
                  case measure => simp [intOf]; omega
                · skip
                  refine (putno_s a b 1 3 HS12.out rfl (by omega) (by omega) (by omega) (by omega) (by omega)).mono ?_
                  rintro e w13 ⟨rfl, hs⟩
                  have HS13 := Lib.hid ((hs.lit rfl : Sts w [(gp, #[.int .i64 a, .int .i64 b], 35), (go, #[.int .i64 c, .int .i64 0], 35), (ga, #[.int .i64 K, .int .i64 N], 69), (gc, #[.int .i64 a, .int .i64 b], 35)] w13))
                  clear HS12
                  clear hs
                  go_wp2_with fail
                  refine (all_s a b 3 HS13.out rfl (by omega) (by omega) (by omega)).mono ?_
                  rintro e w14 ⟨rfl, hs⟩
                  have HS14 := Lib.hid ((hs.lit rfl : Sts w [(gp, #[.int .i64 a, .int .i64 b], 35), (go, #[.int .i64 c, .int .i64 0], 35), (ga, #[.int .i64 K, .int .i64 N], 69), (gc, #[.int .i64 a, .int .i64 a], 35)] w14))
                  clear HS13
                  clear hs
                  have c0_0 : w14.cell? ⟨gp, 0, none⟩ = some (.int .i64 a) := HS14.out.cell 0 0 rfl rfl
                  have c0_1 : w14.cell? ⟨gp, 1, none⟩ = some (.int .i64 b) := HS14.out.cell 0 1 rfl rfl
                  have c1_0 : w14.cell? ⟨go, 0, none⟩ = some (.int .i64 c) := HS14.out.cell 1 0 rfl rfl
                  have c1_1 : w14.cell? ⟨go, 1, none⟩ = some (.int .i64 0) := HS14.out.cell 1 1 rfl rfl
                  have c2_0 : w14.cell? ⟨ga, 0, none⟩ = some (.int .i64 K) := HS14.out.cell 2 0 rfl rfl
                  have c2_1 : w14.cell? ⟨ga, 1, none⟩ = some (.int .i64 N) := HS14.out.cell 2 1 rfl rfl
                  have c3_0 : w14.cell? ⟨gc, 0, none⟩ = some (.int .i64 a) := HS14.out.cell 3 0 rfl rfl
                  have c3_1 : w14.cell? ⟨gc, 1, none⟩ = some (.int .i64 a) := HS14.out.cell 3 1 rfl rfl
                  go_upto_region 38 with fail
                  clear c0_0 c0_1 c1_0 c1_1 c2_0 c2_1 c3_0 c3_1
                  have c0_0 : w14.cell? ⟨gp, 0, none⟩ = some (.int .i64 a) := HS14.out.cell 0 0 rfl rfl
                  have c0_1 : w14.cell? ⟨gp, 1, none⟩ = some (.int .i64 b) := HS14.out.cell 0 1 rfl rfl
                  have c1_0 : w14.cell? ⟨go, 0, none⟩ = some (.int .i64 c) := HS14.out.cell 1 0 rfl rfl
                  have c1_1 : w14.cell? ⟨go, 1, none⟩ = some (.int .i64 0) := HS14.out.cell 1 1 rfl rfl
                  have c2_0 : w14.cell? ⟨ga, 0, none⟩ = some (.int .i64 K) := HS14.out.cell 2 0 rfl rfl
                  have c2_1 : w14.cell? ⟨ga, 1, none⟩ = some (.int .i64 N) := HS14.out.cell 2 1 rfl rfl
                  have c3_0 : w14.cell? ⟨gc, 0, none⟩ = some (.int .i64 a) := HS14.out.cell 3 0 rfl rfl
                  have c3_1 : w14.cell? ⟨gc, 1, none⟩ = some (.int .i64 a) := HS14.out.cell 3 1 rfl rfl
                  go_wp2_with fail
                  clear c0_0 c0_1 c1_0 c1_1 c2_0 c2_1 c3_0 c3_1
                  refine (has_s _ _ _ HS14.out (by omega) (by omega) (by omega) rfl).mono ?_
                  rintro e w15 ⟨rfl, hs⟩
                  have HS15 := Lib.hid ((hs.lit rfl : Sts w [(gp, #[.int .i64 a, .int .i64 b], 35), (go, #[.int .i64 c, .int .i64 0], 35), (ga, #[.int .i64 K, .int .i64 N], 69), (gc, #[.int .i64 a, .int .i64 a], 35)] w15))
                  clear HS14
                  clear hs
                  have c0_0 : w15.cell? ⟨gp, 0, none⟩ = some (.int .i64 a) := HS15.out.cell 0 0 rfl rfl
                  have c0_1 : w15.cell? ⟨gp, 1, none⟩ = some (.int .i64 b) := HS15.out.cell 0 1 rfl rfl
                  have c1_0 : w15.cell? ⟨go, 0, none⟩ = some (.int .i64 c) := HS15.out.cell 1 0 rfl rfl
                  have c1_1 : w15.cell? ⟨go, 1, none⟩ = some (.int .i64 0) := HS15.out.cell 1 1 rfl rfl
                  have c2_0 : w15.cell? ⟨ga, 0, none⟩ = some (.int .i64 K) := HS15.out.cell 2 0 rfl rfl
                  have c2_1 : w15.cell? ⟨ga, 1, none⟩ = some (.int .i64 N) := HS15.out.cell 2 1 rfl rfl
                  have c3_0 : w15.cell? ⟨gc, 0, none⟩ = some (.int .i64 a) := HS15.out.cell 3 0 rfl rfl
                  have c3_1 : w15.cell? ⟨gc, 1, none⟩ = some (.int .i64 a) := HS15.out.cell 3 1 rfl rfl
                  go_wp2_with fail
                  clear c0_0 c0_1 c1_0 c1_1 c2_0 c2_1 c3_0 c3_1
                  refine (in_s _ _ HS15.out).mono ?_
                  rintro e w16 ⟨rfl, hs⟩
                  have HS16 := Lib.hid ((hs.lit rfl : Sts w [(gp, #[.int .i64 a, .int .i64 b], 35), (go, #[.int .i64 c, .int .i64 0], 35), (ga, #[.int .i64 K, .int .i64 N], 69), (gc, #[.int .i64 a, .int .i64 a], 35)] w16))
                  clear HS15
                  clear hs
                  have c0_0 : w16.cell? ⟨gp, 0, none⟩ = some (.int .i64 a) := HS16.out.cell 0 0 rfl rfl
                  have c0_1 : w16.cell? ⟨gp, 1, none⟩ = some (.int .i64 b) := HS16.out.cell 0 1 rfl rfl
                  have c1_0 : w16.cell? ⟨go, 0, none⟩ = some (.int .i64 c) := HS16.out.cell 1 0 rfl rfl
                  have c1_1 : w16.cell? ⟨go, 1, none⟩ = some (.int .i64 0) := HS16.out.cell 1 1 rfl rfl
                  have c2_0 : w16.cell? ⟨ga, 0, none⟩ = some (.int .i64 K) := HS16.out.cell 2 0 rfl rfl
                  have c2_1 : w16.cell? ⟨ga, 1, none⟩ = some (.int .i64 N) := HS16.out.cell 2 1 rfl rfl
                  have c3_0 : w16.cell? ⟨gc, 0, none⟩ = some (.int .i64 a) := HS16.out.cell 3 0 rfl rfl
                  have c3_1 : w16.cell? ⟨gc, 1, none⟩ = some (.int .i64 a) := HS16.out.cell 3 1 rfl rfl
                  go_wp2_with fail
                  clear c0_0 c0_1 c1_0 c1_1 c2_0 c2_1 c3_0 c3_1
                  refine (out_s _ _ HS16.out).mono ?_
                  rintro e w17 ⟨rfl, hs⟩
                  have HS17 := Lib.hid ((hs.lit rfl : Sts w [(gp, #[.int .i64 a, .int .i64 b], 35), (go, #[.int .i64 c, .int .i64 0], 35), (ga, #[.int .i64 K, .int .i64 N], 69), (gc, #[.int .i64 a, .int .i64 a], 35)] w17))
                  clear HS16
                  clear hs
                  have c0_0 : w17.cell? ⟨gp, 0, none⟩ = some (.int .i64 a) := HS17.out.cell 0 0 rfl rfl
                  have c0_1 : w17.cell? ⟨gp, 1, none⟩ = some (.int .i64 b) := HS17.out.cell 0 1 rfl rfl
                  have c1_0 : w17.cell? ⟨go, 0, none⟩ = some (.int .i64 c) := HS17.out.cell 1 0 rfl rfl
                  have c1_1 : w17.cell? ⟨go, 1, none⟩ = some (.int .i64 0) := HS17.out.cell 1 1 rfl rfl
                  have c2_0 : w17.cell? ⟨ga, 0, none⟩ = some (.int .i64 K) := HS17.out.cell 2 0 rfl rfl
                  have c2_1 : w17.cell? ⟨ga, 1, none⟩ = some (.int .i64 N) := HS17.out.cell 2 1 rfl rfl
                  have c3_0 : w17.cell? ⟨gc, 0, none⟩ = some (.int .i64 a) := HS17.out.cell 3 0 rfl rfl
                  have c3_1 : w17.cell? ⟨gc, 1, none⟩ = some (.int .i64 a) := HS17.out.cell 3 1 rfl rfl
                  go_wp2_with fail
                  clear c0_0 c0_1 c1_0 c1_1 c2_0 c2_1 c3_0 c3_1
                  refine (in_s _ _ HS17.out).mono ?_
                  rintro e w18 ⟨rfl, hs⟩
                  have HS18 := Lib.hid ((hs.lit rfl : Sts w [(gp, #[.int .i64 a, .int .i64 b], 35), (go, #[.int .i64 c, .int .i64 0], 35), (ga, #[.int .i64 K, .int .i64 N], 69), (gc, #[.int .i64 a, .int .i64 a], 35)] w18))
                  clear HS17
                  clear hs
                  have c0_0 : w18.cell? ⟨gp, 0, none⟩ = some (.int .i64 a) := HS18.out.cell 0 0 rfl rfl
                  have c0_1 : w18.cell? ⟨gp, 1, none⟩ = some (.int .i64 b) := HS18.out.cell 0 1 rfl rfl
                  have c1_0 : w18.cell? ⟨go, 0, none⟩ = some (.int .i64 c) := HS18.out.cell 1 0 rfl rfl
                  have c1_1 : w18.cell? ⟨go, 1, none⟩ = some (.int .i64 0) := HS18.out.cell 1 1 rfl rfl
                  have c2_0 : w18.cell? ⟨ga, 0, none⟩ = some (.int .i64 K) := HS18.out.cell 2 0 rfl rfl
                  have c2_1 : w18.cell? ⟨ga, 1, none⟩ = some (.int .i64 N) := HS18.out.cell 2 1 rfl rfl
                  have c3_0 : w18.cell? ⟨gc, 0, none⟩ = some (.int .i64 a) := HS18.out.cell 3 0 rfl rfl
                  have c3_1 : w18.cell? ⟨gc, 1, none⟩ = some (.int .i64 a) := HS18.out.cell 3 1 rfl rfl
                  go_wp2_with fail
                  clear c0_0 c0_1 c1_0 c1_1 c2_0 c2_1 c3_0 c3_1
                  refine (out_s _ _ HS18.out).mono ?_
                  rintro e w19 ⟨rfl, hs⟩
                  have HS19 := Lib.hid ((hs.lit rfl : Sts w [(gp, #[.int .i64 a, .int .i64 b], 35), (go, #[.int .i64 c, .int .i64 0], 35), (ga, #[.int .i64 K, .int .i64 N], 69), (gc, #[.int .i64 a, .int .i64 a], 35)] w19))
                  clear HS18
                  clear hs
                  have c0_0 : w19.cell? ⟨gp, 0, none⟩ = some (.int .i64 a) := HS19.out.cell 0 0 rfl rfl
                  have c0_1 : w19.cell? ⟨gp, 1, none⟩ = some (.int .i64 b) := HS19.out.cell 0 1 rfl rfl
                  have c1_0 : w19.cell? ⟨go, 0, none⟩ = some (.int .i64 c) := HS19.out.cell 1 0 rfl rfl
                  have c1_1 : w19.cell? ⟨go, 1, none⟩ = some (.int .i64 0) := HS19.out.cell 1 1 rfl rfl
                  have c2_0 : w19.cell? ⟨ga, 0, none⟩ = some (.int .i64 K) := HS19.out.cell 2 0 rfl rfl
                  have c2_1 : w19.cell? ⟨ga, 1, none⟩ = some (.int .i64 N) := HS19.out.cell 2 1 rfl rfl
                  have c3_0 : w19.cell? ⟨gc, 0, none⟩ = some (.int .i64 a) := HS19.out.cell 3 0 rfl rfl
                  have c3_1 : w19.cell? ⟨gc, 1, none⟩ = some (.int .i64 a) := HS19.out.cell 3 1 rfl rfl
                  clear c0_0 c0_1 c1_0 c1_1 c2_0 c2_1 c3_0 c3_1
                  go_wp2_with fail
                  go_roundw
                  case rel => exact ⟨i + 1, a, b, c, rfl, rfl, rfl, by go_num, by omega, by omega, by omega, by omega, by omega, by omega, Lib.hid ((HS19.out.take 2).lit rfl)⟩
                  case measure => simp [intOf]; omega
              replace k5 := Bool.eq_false_iff.2 k5
              have c0_0 : v11.cell? ⟨gp, 0, none⟩ = some (.int .i64 a) := HS11.out.cell 0 0 rfl rfl
              have c0_1 : v11.cell? ⟨gp, 1, none⟩ = some (.int .i64 b) := HS11.out.cell 0 1 rfl rfl
              have c1_0 : v11.cell? ⟨go, 0, none⟩ = some (.int .i64 c) := HS11.out.cell 1 0 rfl rfl
              have c1_1 : v11.cell? ⟨go, 1, none⟩ = some (.int .i64 0) := HS11.out.cell 1 1 rfl rfl
              have c2_0 : v11.cell? ⟨ga, 0, none⟩ = some (.int .i64 K) := HS11.out.cell 2 0 rfl rfl
              have c2_1 : v11.cell? ⟨ga, 1, none⟩ = some (.int .i64 N) := HS11.out.cell 2 1 rfl rfl
              go_upto_region 38 with fail
              clear c0_0 c0_1 c1_0 c1_1 c2_0 c2_1
              have c0_0 : v11.cell? ⟨gp, 0, none⟩ = some (.int .i64 a) := HS11.out.cell 0 0 rfl rfl
              have c0_1 : v11.cell? ⟨gp, 1, none⟩ = some (.int .i64 b) := HS11.out.cell 0 1 rfl rfl
              have c1_0 : v11.cell? ⟨go, 0, none⟩ = some (.int .i64 c) := HS11.out.cell 1 0 rfl rfl
              have c1_1 : v11.cell? ⟨go, 1, none⟩ = some (.int .i64 0) := HS11.out.cell 1 1 rfl rfl
              have c2_0 : v11.cell? ⟨ga, 0, none⟩ = some (.int .i64 K) := HS11.out.cell 2 0 rfl rfl
              have c2_1 : v11.cell? ⟨ga, 1, none⟩ = some (.int .i64 N) := HS11.out.cell 2 1 rfl rfl
              go_wp2_with fail
              clear c0_0 c0_1 c1_0 c1_1 c2_0 c2_1
              refine (has_s _ _ _ HS11.out (by omega) (by omega) (by omega) rfl).mono ?_
              rintro e w12 ⟨rfl, hs⟩
              have HS12 := Lib.hid ((hs.lit rfl : Sts w [(gp, #[.int .i64 a, .int .i64 b], 35), (go, #[.int .i64 c, .int .i64 0], 35), (ga, #[.int .i64 K, .int .i64 N], 69)] w12))
              clear HS11
              clear hs
              have c0_0 : w12.cell? ⟨gp, 0, none⟩ = some (.int .i64 a) := HS12.out.cell 0 0 rfl rfl
              have c0_1 : w12.cell? ⟨gp, 1, none⟩ = some (.int .i64 b) := HS12.out.cell 0 1 rfl rfl
              have c1_0 : w12.cell? ⟨go, 0, none⟩ = some (.int .i64 c) := HS12.out.cell 1 0 rfl rfl
              have c1_1 : w12.cell? ⟨go, 1, none⟩ = some (.int .i64 0) := HS12.out.cell 1 1 rfl rfl
              have c2_0 : w12.cell? ⟨ga, 0, none⟩ = some (.int .i64 K) := HS12.out.cell 2 0 rfl rfl
              have c2_1 : w12.cell? ⟨ga, 1, none⟩ = some (.int .i64 N) := HS12.out.cell 2 1 rfl rfl
              go_wp2_with fail
              clear c0_0 c0_1 c1_0 c1_1 c2_0 c2_1
              refine (in_s _ _ HS12.out).mono ?_
              rintro e w13 ⟨rfl, hs⟩
              have HS13 := Lib.hid ((hs.lit rfl : Sts w [(gp, #[.int .i64 a, .int .i64 b], 35), (go, #[.int .i64 c, .int .i64 0], 35), (ga, #[.int .i64 K, .int .i64 N], 69)] w13))
              clear HS12
              clear hs
              have c0_0 : w13.cell? ⟨gp, 0, none⟩ = some (.int .i64 a) := HS13.out.cell 0 0 rfl rfl
              have c0_1 : w13.cell? ⟨gp, 1, none⟩ = some (.int .i64 b) := HS13.out.cell 0 1 rfl rfl
              have c1_0 : w13.cell? ⟨go, 0, none⟩ = some (.int .i64 c) := HS13.out.cell 1 0 rfl rfl
              have c1_1 : w13.cell? ⟨go, 1, none⟩ = some (.int .i64 0) := HS13.out.cell 1 1 rfl rfl
              have c2_0 : w13.cell? ⟨ga, 0, none⟩ = some (.int .i64 K) := HS13.out.cell 2 0 rfl rfl
              have c2_1 : w13.cell? ⟨ga, 1, none⟩ = some (.int .i64 N) := HS13.out.cell 2 1 rfl rfl
              go_wp2_with fail
              clear c0_0 c0_1 c1_0 c1_1 c2_0 c2_1
              refine (out_s _ _ HS13.out).mono ?_
              rintro e w14 ⟨rfl, hs⟩
              have HS14 := Lib.hid ((hs.lit rfl : Sts w [(gp, #[.int .i64 a, .int .i64 b], 35), (go, #[.int .i64 c, .int .i64 0], 35), (ga, #[.int .i64 K, .int .i64 N], 69)] w14))
              clear HS13
              clear hs
              have c0_0 : w14.cell? ⟨gp, 0, none⟩ = some (.int .i64 a) := HS14.out.cell 0 0 rfl rfl
              have c0_1 : w14.cell? ⟨gp, 1, none⟩ = some (.int .i64 b) := HS14.out.cell 0 1 rfl rfl
              have c1_0 : w14.cell? ⟨go, 0, none⟩ = some (.int .i64 c) := HS14.out.cell 1 0 rfl rfl
              have c1_1 : w14.cell? ⟨go, 1, none⟩ = some (.int .i64 0) := HS14.out.cell 1 1 rfl rfl
              have c2_0 : w14.cell? ⟨ga, 0, none⟩ = some (.int .i64 K) := HS14.out.cell 2 0 rfl rfl
              have c2_1 : w14.cell? ⟨ga, 1, none⟩ = some (.int .i64 N) := HS14.out.cell 2 1 rfl rfl
              go_wp2_with fail
              clear c0_0 c0_1 c1_0 c1_1 c2_0 c2_1
              refine (in_s _ _ HS14.out).mono ?_
              rintro e w15 ⟨rfl, hs⟩
              have HS15 := Lib.hid ((hs.lit rfl : Sts w [(gp, #[.int .i64 a, .int .i64 b], 35), (go, #[.int .i64 c, .int .i64 0], 35), (ga, #[.int .i64 K, .int .i64 N], 69)] w15))
              clear HS14
              clear hs
              have c0_0 : w15.cell? ⟨gp, 0, none⟩ = some (.int .i64 a) := HS15.out.cell 0 0 rfl rfl
              have c0_1 : w15.cell? ⟨gp, 1, none⟩ = some (.int .i64 b) := HS15.out.cell 0 1 rfl rfl
              have c1_0 : w15.cell? ⟨go, 0, none⟩ = some (.int .i64 c) := HS15.out.cell 1 0 rfl rfl
              have c1_1 : w15.cell? ⟨go, 1, none⟩ = some (.int .i64 0) := HS15.out.cell 1 1 rfl rfl
              have c2_0 : w15.cell? ⟨ga, 0, none⟩ = some (.int .i64 K) := HS15.out.cell 2 0 rfl rfl
              have c2_1 : w15.cell? ⟨ga, 1, none⟩ = some (.int .i64 N) := HS15.out.cell 2 1 rfl rfl
              go_wp2_with fail
              clear c0_0 c0_1 c1_0 c1_1 c2_0 c2_1
              refine (out_s _ _ HS15.out).mono ?_
              rintro e w16 ⟨rfl, hs⟩
              have HS16 := Lib.hid ((hs.lit rfl : Sts w [(gp, #[.int .i64 a, .int .i64 b], 35), (go, #[.int .i64 c, .int .i64 0], 35), (ga, #[.int .i64 K, .int .i64 N], 69)] w16))
              clear HS15
              clear hs
              have c0_0 : w16.cell? ⟨gp, 0, none⟩ = some (.int .i64 a) := HS16.out.cell 0 0 rfl rfl
              have c0_1 : w16.cell? ⟨gp, 1, none⟩ = some (.int .i64 b) := HS16.out.cell 0 1 rfl rfl
              have c1_0 : w16.cell? ⟨go, 0, none⟩ = some (.int .i64 c) := HS16.out.cell 1 0 rfl rfl
              have c1_1 : w16.cell? ⟨go, 1, none⟩ = some (.int .i64 0) := HS16.out.cell 1 1 rfl rfl
              have c2_0 : w16.cell? ⟨ga, 0, none⟩ = some (.int .i64 K) := HS16.out.cell 2 0 rfl rfl
              have c2_1 : w16.cell? ⟨ga, 1, none⟩ = some (.int .i64 N) := HS16.out.cell 2 1 rfl rfl
              clear c0_0 c0_1 c1_0 c1_1 c2_0 c2_1
              go_wp2_with fail
              go_roundw
              case rel => exact ⟨i + 1, a, b, c, rfl, rfl, rfl, by go_num, by omega, by omega, by omega, by omega, by omega, by omega, Lib.hid ((HS16.out.take 2).lit rfl)⟩
              case measure => simp [intOf]; omega
            · have q6 : ¬ i < n2 ∨ (i < n2 ∧ ¬ i < 30) := by omega
              clear q1
              rcases q6 with q2 | ⟨q2, q3⟩
              all_goals
                go_wp2_with fail
                refine (purseRuns_s HSr.out).mono ?_
                rintro e w17 ⟨rfl, hs⟩
                have HS17 := Lib.hid ((hs.lit rfl : Sts w [(gp, #[.int .i64 a, .int .i64 b], 35), (go, #[.int .i64 c, .int .i64 0], 35)] w17))
                clear HSr
                clear hs
                go_wp2
                go_ret
                exact ⟨rfl, HS17.out.bel⟩

end Go.Proofs.Yticddmmbphoioaa

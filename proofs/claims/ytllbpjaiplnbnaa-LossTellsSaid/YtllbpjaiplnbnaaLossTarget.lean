import Derived.Test.YtllbpjaiplnbnaaLossRuns
import Derived.Test.YtllbpjaiplnbnaaWithin
namespace Go.Proofs.Ytllbpjaiplnbnaa
open Go.RowKit
set_option linter.unusedVariables false
set_option linter.unusedSimpArgs false
attribute [local go_sem] bmax2 bmin2 bmax_two bmin_two bmax_three bmin_three
theorem allot_none {w0 W : World} {L : List Ent} (t : Int) (hS : Sts w0 L W) (ht0 : -4611686018427387904 ≤ t) (ht1 : t ≤ 4611686018427387904) : Calls Try.prog 22 #[.int .i64 t, .slice none 0 0] W (Goes (.int .i64 0) w0 L) := by
  refine (allot_calls t none 0 0 [] [] W (Src.nil _ _) ⟨rfl, fun k z h => by simp at h, fun k h => by simp at h, fun k k' a a' h => by simp at h, fun z h => by simp at h⟩ (fun k a ad h => by simp at h) (by omega) ht0 ht1).mono ?_
  rintro e W' ⟨q', rfl, _, _, hs, hK⟩
  have : q' = [] := List.eq_nil_of_length_eq_zero hs.1
  subst this
  exact ⟨rfl, hS.below ⟨hK.os, hK.tape, hK.output, hK.size, fun k hk => hK.block k hk (fun i a h => by simp at h)⟩⟩
set_option maxHeartbeats 4000000 in
set_option maxRecDepth 100000 in
theorem lossTarget_walk (a b c d e : Int) (w : World) (ha : (-9223372036854775808 ≤ a ∧ a ≤ 9223372036854775807)) (hb : (-9223372036854775808 ≤ b ∧ b ≤ 9223372036854775807)) (hc : (-9223372036854775808 ≤ c ∧ c ≤ 9223372036854775807)) (hd : (-9223372036854775808 ≤ d ∧ d ≤ 9223372036854775807)) (he : (-9223372036854775808 ≤ e ∧ e ≤ 9223372036854775807)) : Calls Try.prog 7 #[.int .i64 a, .int .i64 b, .int .i64 c, .int .i64 d, .int .i64 e] w fun e w' => e = .returned (.bool true) ∧ Below w.heap.size w w' := by
  clear ha hb hc hd he
  obtain ⟨p, hp⟩ : ∃ v, v = within a 0 (1099511627776) := ⟨_, rfl⟩
  obtain ⟨bp0, bp1⟩ : 0 ≤ p ∧ p ≤ 1099511627776 := by rw [hp]; exact within_bd a (by omega)
  have Ep := Lib.hid hp
  clear hp
  obtain ⟨q, hq⟩ : ∃ v, v = within b 0 (1099511627776) := ⟨_, rfl⟩
  obtain ⟨bq0, bq1⟩ : 0 ≤ q ∧ q ≤ 1099511627776 := by rw [hq]; exact within_bd b (by omega)
  have Eq := Lib.hid hq
  clear hq
  obtain ⟨r, hr⟩ : ∃ v, v = within c 0 (1099511627776) := ⟨_, rfl⟩
  obtain ⟨br0, br1⟩ : 0 ≤ r ∧ r ≤ 1099511627776 := by rw [hr]; exact within_bd c (by omega)
  have Er := Lib.hid hr
  clear hr
  obtain ⟨s, hs⟩ : ∃ v, v = within d 0 (r) := ⟨_, rfl⟩
  obtain ⟨bs0, bs1⟩ : 0 ≤ s ∧ s ≤ r := by rw [hs]; exact within_bd d (by omega)
  have Es := Lib.hid hs
  clear hs
  obtain ⟨m, hm⟩ : ∃ v, v = within e 0 (1099511627776 - r) := ⟨_, rfl⟩
  obtain ⟨bm0, bm1⟩ : 0 ≤ m ∧ m ≤ 1099511627776 - r := by rw [hm]; exact within_bd e (by omega)
  have Em := Lib.hid hm
  clear hm
  obtain ⟨k, hk⟩ : ∃ v, v = within e 0 (q) := ⟨_, rfl⟩
  obtain ⟨bk0, bk1⟩ : 0 ≤ k ∧ k ≤ q := by rw [hk]; exact within_bd e (by omega)
  have Ek := Lib.hid hk
  clear hk
  have HS0 := Lib.hid (Sts.nil w)
  go_enter Try.func7, Try.ntmps7
  go_wp2_with fail
  refine (within_s a 0 (1099511627776) HS0.out (by omega) (by omega) (by omega)).mono ?_
  rintro e w1 ⟨rfl, hs⟩
  have HS1 := Lib.hid ((hs.lit rfl : Sts w [] w1))
  clear HS0
  clear hs
  rw [← Ep.out]
  go_wp2_with fail
  refine (within_s b 0 (1099511627776) HS1.out (by omega) (by omega) (by omega)).mono ?_
  rintro e w2 ⟨rfl, hs⟩
  have HS2 := Lib.hid ((hs.lit rfl : Sts w [] w2))
  clear HS1
  clear hs
  rw [← Eq.out]
  go_wp2_with fail
  refine (within_s c 0 (1099511627776) HS2.out (by omega) (by omega) (by omega)).mono ?_
  rintro e w3 ⟨rfl, hs⟩
  have HS3 := Lib.hid ((hs.lit rfl : Sts w [] w3))
  clear HS2
  clear hs
  rw [← Er.out]
  go_wp2_with fail
  refine (within_s d 0 (r) HS3.out (by omega) (by omega) (by omega)).mono ?_
  rintro e w4 ⟨rfl, hs⟩
  have HS4 := Lib.hid ((hs.lit rfl : Sts w [] w4))
  clear HS3
  clear hs
  rw [← Es.out]
  go_wp2_with fail
  obtain ⟨x, hx⟩ : ∃ x, x = targ p q r s := ⟨_, rfl⟩
  have x0 : 0 ≤ x := by rw [hx]; unfold targ; omega
  have x1 : x ≤ r - s := by rw [hx]; unfold targ; omega
  have x2 : x ≤ p := by rw [hx]; unfold targ; omega
  have x3 : p ≤ q → x = 0 := by rw [hx]; unfold targ; omega
  have x4 : q < p → x ≤ p - q := by rw [hx]; unfold targ; omega
  have x5 : x = min (max (p - q) 0) (min (r - s) p) := by rw [hx]; unfold targ; omega
  obtain ⟨y1, hy1⟩ : ∃ x, x = targ p q (r + m) s := ⟨_, rfl⟩
  have y1x : x ≤ y1 := by rw [hx, hy1]; unfold targ; omega
  have Ey1 := Lib.hid hy1
  clear hy1
  obtain ⟨y2, hy2⟩ : ∃ x, x = targ p (q - k) r s := ⟨_, rfl⟩
  have y2x : x ≤ y2 := by rw [hx, hy2]; unfold targ; omega
  have Ey2 := Lib.hid hy2
  clear hy2
  have Ex := Lib.hid hx
  clear hx
  refine (target_s x p q r s HS4.out (by omega) (by omega) (by omega) (by omega) (by omega) (by omega) (by omega) (by omega) Ex.out).mono ?_
  rintro e w5 ⟨rfl, hs⟩
  have HS5 := Lib.hid ((hs.lit rfl : Sts w [] w5))
  clear HS4
  clear hs
  go_wp2_with fail
  refine (within_s e 0 (1099511627776 - r) HS5.out (by omega) (by omega) (by omega)).mono ?_
  rintro e w6 ⟨rfl, hs⟩
  have HS6 := Lib.hid ((hs.lit rfl : Sts w [] w6))
  clear HS5
  clear hs
  rw [← Em.out]
  go_wp2_with fail
  refine (within_s e 0 (q) HS6.out (by omega) (by omega) (by omega)).mono ?_
  rintro e w7 ⟨rfl, hs⟩
  have HS7 := Lib.hid ((hs.lit rfl : Sts w [] w7))
  clear HS6
  clear hs
  rw [← Ek.out]
  have HX5 := Lib.hid x5
  clear x5
  have z1 : decide (x < 0) = false := decide_eq_false (by omega)
  have z2 : decide (r - s < x) = false := decide_eq_false (by omega)
  have z3 : decide (p < x) = false := decide_eq_false (by omega)
  by_cases c1 : p ≤ q
  · skip
    have z4 : decide (p ≤ q) = true := decide_eq_true c1
    obtain rfl : x = 0 := x3 c1
    have z5 : decide (q < p) = false := decide_eq_false (by omega)
    clear x3 x4
    have z7 : min (max (p - q) 0) (min (r - s) p) = 0 := HX5.out.symm
    go_wp2_with fail
    refine (target_s y1 p q (r + m) s HS7.out (by omega) (by omega) (by omega) (by omega) (by omega) (by omega) (by omega) (by omega) Ey1.out).mono ?_
    rintro e w8 ⟨rfl, hs⟩
    have HS8 := Lib.hid ((hs.lit rfl : Sts w [] w8))
    clear HS7
    clear hs
    have z8 : decide (0 ≤ y1) = true := decide_eq_true y1x
    go_wp2_with fail
    refine (target_s y2 p (q - k) r s HS8.out (by omega) (by omega) (by omega) (by omega) (by omega) (by omega) (by omega) (by omega) Ey2.out).mono ?_
    rintro e w9 ⟨rfl, hs⟩
    have HS9 := Lib.hid ((hs.lit rfl : Sts w [] w9))
    clear HS8
    clear hs
    have z9 : decide (0 ≤ y2) = true := decide_eq_true y2x
    go_wp2_with fail
    refine (target_s 0 p q s s HS9.out (by omega) (by omega) (by omega) (by omega) (by omega) (by omega) (by omega) (by omega) (by unfold targ; omega)).mono ?_
    rintro e w10 ⟨rfl, hs⟩
    have HS10 := Lib.hid ((hs.lit rfl : Sts w [] w10))
    clear HS9
    clear hs
    go_wp2_with fail
    refine (target_s 0 p q s r HS10.out (by omega) (by omega) (by omega) (by omega) (by omega) (by omega) (by omega) (by omega) (by unfold targ; omega)).mono ?_
    rintro e w11 ⟨rfl, hs⟩
    have HS11 := Lib.hid ((hs.lit rfl : Sts w [] w11))
    clear HS10
    clear hs
    go_wp2_with fail
    refine (allot_none 5 HS11.out (by omega) (by omega)).mono ?_
    rintro e w12 ⟨rfl, hs⟩
    have HS12 := Lib.hid ((hs.lit rfl : Sts w [] w12))
    clear HS11
    clear hs
    go_wp2_with fail
    refine (lossRuns_s HS12.out).mono ?_
    rintro e w13 ⟨rfl, hs⟩
    have HS13 := Lib.hid ((hs.lit rfl : Sts w [] w13))
    clear HS12
    clear hs
    go_wp2
    go_ret
    exact ⟨rfl, HS13.out.bel⟩
  · skip
    have z4 : decide (p ≤ q) = false := decide_eq_false c1
    have z5 : decide (q < p) = true := decide_eq_true (by omega)
    have z6 : decide (p - q < x) = false := decide_eq_false (by have := x4 (by omega); omega)
    clear x3 x4
    have z7 : min (max (p - q) 0) (min (r - s) p) = x := HX5.out.symm
    go_wp2_with fail
    refine (target_s y1 p q (r + m) s HS7.out (by omega) (by omega) (by omega) (by omega) (by omega) (by omega) (by omega) (by omega) Ey1.out).mono ?_
    rintro e w8 ⟨rfl, hs⟩
    have HS8 := Lib.hid ((hs.lit rfl : Sts w [] w8))
    clear HS7
    clear hs
    have z8 : decide (x ≤ y1) = true := decide_eq_true y1x
    go_wp2_with fail
    refine (target_s y2 p (q - k) r s HS8.out (by omega) (by omega) (by omega) (by omega) (by omega) (by omega) (by omega) (by omega) Ey2.out).mono ?_
    rintro e w9 ⟨rfl, hs⟩
    have HS9 := Lib.hid ((hs.lit rfl : Sts w [] w9))
    clear HS8
    clear hs
    have z9 : decide (x ≤ y2) = true := decide_eq_true y2x
    go_wp2_with fail
    refine (target_s 0 p q s s HS9.out (by omega) (by omega) (by omega) (by omega) (by omega) (by omega) (by omega) (by omega) (by unfold targ; omega)).mono ?_
    rintro e w10 ⟨rfl, hs⟩
    have HS10 := Lib.hid ((hs.lit rfl : Sts w [] w10))
    clear HS9
    clear hs
    go_wp2_with fail
    refine (target_s 0 p q s r HS10.out (by omega) (by omega) (by omega) (by omega) (by omega) (by omega) (by omega) (by omega) (by unfold targ; omega)).mono ?_
    rintro e w11 ⟨rfl, hs⟩
    have HS11 := Lib.hid ((hs.lit rfl : Sts w [] w11))
    clear HS10
    clear hs
    go_wp2_with fail
    refine (allot_none 5 HS11.out (by omega) (by omega)).mono ?_
    rintro e w12 ⟨rfl, hs⟩
    have HS12 := Lib.hid ((hs.lit rfl : Sts w [] w12))
    clear HS11
    clear hs
    go_wp2_with fail
    refine (lossRuns_s HS12.out).mono ?_
    rintro e w13 ⟨rfl, hs⟩
    have HS13 := Lib.hid ((hs.lit rfl : Sts w [] w13))
    clear HS12
    clear hs
    go_wp2
    go_ret
    exact ⟨rfl, HS13.out.bel⟩
end Go.Proofs.Ytllbpjaiplnbnaa

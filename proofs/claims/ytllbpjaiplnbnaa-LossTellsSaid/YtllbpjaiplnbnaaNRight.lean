import Derived.Test.YtllbpjaiplnbnaaNote
import Derived.Test.YtllbpjaiplnbnaaCRight
import Derived.Test.YtllbpjaiplnbnaaSeg
namespace Go.Proofs.Ytllbpjaiplnbnaa
open Go.RowKit
set_option linter.unusedVariables false
set_option linter.unusedSimpArgs false
/-- May a note be? -/
def rightB (r og rt i j sh dn : Int) : Bool := decide (0 ≤ r ∧ r < 8 ∧ 0 ≤ og ∧ og ≤ 1099511627776 ∧ 0 ≤ rt ∧ rt ≤ 5000 ∧ 0 ≤ sh ∧ sh ≤ 1152921504606846976 ∧ 0 ≤ dn ∧ dn ≤ og - (i - j))
set_option maxHeartbeats 2000000 in
set_option maxRecDepth 100000 in
theorem nright_calls (r og rt i j sh dn : Int) (w : World) (a0 : -2251799813685248 ≤ og) (a1 : og ≤ 2251799813685248) (a2 : 0 ≤ j) (a3 : j ≤ i) (a4 : i ≤ 2251799813685248) (a5 : -9223372036854775808 ≤ sh) (a6 : sh ≤ 9223372036854775807) (a7 : -2251799813685248 ≤ dn) (a8 : dn ≤ 2251799813685248) :
    Calls Try.prog 19 #[nv r og rt i j sh dn] w fun e w' => e = .returned (.bool (rightB r og rt i j sh dn)) ∧ Below w.heap.size w w' := by
  go_enter Try.func19, Try.ntmps19
  have HS0 := Lib.hid (Sts.nil w)
  go_upto_region 1 with fail
  have HS1 := Lib.hid ((HS0.out.add (g := w.heap.size) (by simp) #[.int .i64 r, .int .i64 og, .int .i64 rt, .int .i64 i, .int .i64 j, .int .i64 sh, .int .i64 dn] 27).lit (L' := [(w.heap.size, #[.int .i64 r, .int .i64 og, .int .i64 rt, .int .i64 i, .int .i64 j, .int .i64 sh, .int .i64 dn], 27)]) rfl)
  clear HS0
  generalize w.heap.size = g at *
  generalize (w.alloc (.cells #[.int .i64 r, .int .i64 og, .int .i64 rt, .int .i64 i, .int .i64 j, .int .i64 sh, .int .i64 dn] 27)) = v1 at *
  have c0_0 : v1.cell? ⟨g, 0, none⟩ = some (.int .i64 r) := HS1.out.cell 0 0 rfl rfl
  have c0_1 : v1.cell? ⟨g, 1, none⟩ = some (.int .i64 og) := HS1.out.cell 0 1 rfl rfl
  have c0_2 : v1.cell? ⟨g, 2, none⟩ = some (.int .i64 rt) := HS1.out.cell 0 2 rfl rfl
  have c0_3 : v1.cell? ⟨g, 3, none⟩ = some (.int .i64 i) := HS1.out.cell 0 3 rfl rfl
  have c0_4 : v1.cell? ⟨g, 4, none⟩ = some (.int .i64 j) := HS1.out.cell 0 4 rfl rfl
  have c0_5 : v1.cell? ⟨g, 5, none⟩ = some (.int .i64 sh) := HS1.out.cell 0 5 rfl rfl
  have c0_6 : v1.cell? ⟨g, 6, none⟩ = some (.int .i64 dn) := HS1.out.cell 0 6 rfl rfl
  by_cases x0 : r < 0
  · have y0 : decide (r < 0) = true := decide_eq_true x0
    go_wp2
    go_ret
    exact ⟨congrArg (fun b => Ending.returned (Value.bool b)) (decide_eq_false (by omega)).symm, HS1.out.bel⟩
  have y0 : decide (r < 0) = false := decide_eq_false x0
  by_cases x1 : 8 ≤ r
  · have y1 : decide (8 ≤ r) = true := decide_eq_true x1
    go_wp2
    go_ret
    exact ⟨congrArg (fun b => Ending.returned (Value.bool b)) (decide_eq_false (by omega)).symm, HS1.out.bel⟩
  have y1 : decide (8 ≤ r) = false := decide_eq_false x1
  by_cases x2 : og < 0
  · have y2 : decide (og < 0) = true := decide_eq_true x2
    go_wp2
    go_ret
    exact ⟨congrArg (fun b => Ending.returned (Value.bool b)) (decide_eq_false (by omega)).symm, HS1.out.bel⟩
  have y2 : decide (og < 0) = false := decide_eq_false x2
  by_cases x3 : 1099511627776 < og
  · have y3 : decide (1099511627776 < og) = true := decide_eq_true x3
    go_wp2
    go_ret
    exact ⟨congrArg (fun b => Ending.returned (Value.bool b)) (decide_eq_false (by omega)).symm, HS1.out.bel⟩
  have y3 : decide (1099511627776 < og) = false := decide_eq_false x3
  by_cases x4 : rt < 0
  · have y4 : decide (rt < 0) = true := decide_eq_true x4
    go_wp2
    go_ret
    exact ⟨congrArg (fun b => Ending.returned (Value.bool b)) (decide_eq_false (by omega)).symm, HS1.out.bel⟩
  have y4 : decide (rt < 0) = false := decide_eq_false x4
  by_cases x5 : 5000 < rt
  · have y5 : decide (5000 < rt) = true := decide_eq_true x5
    go_wp2
    go_ret
    exact ⟨congrArg (fun b => Ending.returned (Value.bool b)) (decide_eq_false (by omega)).symm, HS1.out.bel⟩
  have y5 : decide (5000 < rt) = false := decide_eq_false x5
  go_upto_region 3 with fail
  clear y0 y1 y2 y3 y4 y5
  by_cases s1 : 0 ≤ sh ∧ sh ≤ 1152921504606846976
  · skip
    by_cases s2 : 0 ≤ dn
    · have t2 : decide (0 ≤ dn) = true := decide_eq_true s2
      by_cases s3 : dn ≤ og - (i - j)
      · have t3 : decide (dn ≤ og - (i - j)) = true := decide_eq_true s3
        clear c0_0 c0_1 c0_2 c0_3 c0_4 c0_5 c0_6
        refine wp_region_seg (by kernel_rfl) ?_
        have HS2 := Lib.hid ((HS1.out.drew : Sts w [(g, #[.int .i64 r, .int .i64 og, .int .i64 rt, .int .i64 i, .int .i64 j, .int .i64 sh, .int .i64 dn], 27)] v1.drew))
        clear HS1
        refine seg_next 0 2 (by kernel_rfl) HS2.out ?_
        simp only [List.drop_succ_cons, List.drop_zero, List.take_succ_cons, List.take_zero, List.drop_nil, List.take_nil]
        have hne : Nonempty (Later w [(g, #[.int .i64 r, .int .i64 og, .int .i64 rt, .int .i64 i, .int .i64 j, .int .i64 sh, .int .i64 dn], 27)]) := ⟨⟨_, HS2.out⟩⟩
        have q0_0 : ∀ p : Later w [(g, #[.int .i64 r, .int .i64 og, .int .i64 rt, .int .i64 i, .int .i64 j, .int .i64 sh, .int .i64 dn], 27)], p.val.cell? ⟨g, 0, none⟩ = some (.int .i64 r) := fun p => p.property.cell 0 0 rfl rfl
        have q0_1 : ∀ p : Later w [(g, #[.int .i64 r, .int .i64 og, .int .i64 rt, .int .i64 i, .int .i64 j, .int .i64 sh, .int .i64 dn], 27)], p.val.cell? ⟨g, 1, none⟩ = some (.int .i64 og) := fun p => p.property.cell 0 1 rfl rfl
        have q0_2 : ∀ p : Later w [(g, #[.int .i64 r, .int .i64 og, .int .i64 rt, .int .i64 i, .int .i64 j, .int .i64 sh, .int .i64 dn], 27)], p.val.cell? ⟨g, 2, none⟩ = some (.int .i64 rt) := fun p => p.property.cell 0 2 rfl rfl
        have q0_3 : ∀ p : Later w [(g, #[.int .i64 r, .int .i64 og, .int .i64 rt, .int .i64 i, .int .i64 j, .int .i64 sh, .int .i64 dn], 27)], p.val.cell? ⟨g, 3, none⟩ = some (.int .i64 i) := fun p => p.property.cell 0 3 rfl rfl
        have q0_4 : ∀ p : Later w [(g, #[.int .i64 r, .int .i64 og, .int .i64 rt, .int .i64 i, .int .i64 j, .int .i64 sh, .int .i64 dn], 27)], p.val.cell? ⟨g, 4, none⟩ = some (.int .i64 j) := fun p => p.property.cell 0 4 rfl rfl
        have q0_5 : ∀ p : Later w [(g, #[.int .i64 r, .int .i64 og, .int .i64 rt, .int .i64 i, .int .i64 j, .int .i64 sh, .int .i64 dn], 27)], p.val.cell? ⟨g, 5, none⟩ = some (.int .i64 sh) := fun p => p.property.cell 0 5 rfl rfl
        have q0_6 : ∀ p : Later w [(g, #[.int .i64 r, .int .i64 og, .int .i64 rt, .int .i64 i, .int .i64 j, .int .i64 sh, .int .i64 dn], 27)], p.val.cell? ⟨g, 6, none⟩ = some (.int .i64 dn) := fun p => p.property.cell 0 6 rfl rfl
        repeat (go_big_quiet_step (first | fail))
        clear hne q0_0 q0_1 q0_2 q0_3 q0_4 q0_5 q0_6
        refine wpQuiet_nil ?_
        rintro w3 ⟨⟨_, hs⟩, rfl⟩
        have HS3 := Lib.hid hs
        clear hs HS2
        have c0_0 : w3.cell? ⟨g, 0, none⟩ = some (.int .i64 r) := HS3.out.cell 0 0 rfl rfl
        have c0_1 : w3.cell? ⟨g, 1, none⟩ = some (.int .i64 og) := HS3.out.cell 0 1 rfl rfl
        have c0_2 : w3.cell? ⟨g, 2, none⟩ = some (.int .i64 rt) := HS3.out.cell 0 2 rfl rfl
        have c0_3 : w3.cell? ⟨g, 3, none⟩ = some (.int .i64 i) := HS3.out.cell 0 3 rfl rfl
        have c0_4 : w3.cell? ⟨g, 4, none⟩ = some (.int .i64 j) := HS3.out.cell 0 4 rfl rfl
        have c0_5 : w3.cell? ⟨g, 5, none⟩ = some (.int .i64 sh) := HS3.out.cell 0 5 rfl rfl
        have c0_6 : w3.cell? ⟨g, 6, none⟩ = some (.int .i64 dn) := HS3.out.cell 0 6 rfl rfl
        go_wp2_with fail
        clear c0_0 c0_1 c0_2 c0_3 c0_4 c0_5 c0_6
        have HS4 := Lib.hid ((HS3.out.add (g := w3.heap.size) (by simp) #[.int .i64 sh] 3).lit (L' := [(g, #[.int .i64 r, .int .i64 og, .int .i64 rt, .int .i64 i, .int .i64 j, .int .i64 sh, .int .i64 dn], 27), (w3.heap.size, #[.int .i64 sh], 3)]) rfl)
        clear HS3
        generalize w3.heap.size = gb at *
        refine seg_in ?_
        refine seg_next 3 0 (by kernel_rfl) HS4.out ?_
        simp only [List.drop_succ_cons, List.drop_zero, List.take_succ_cons, List.take_zero, List.drop_nil, List.take_nil]
        refine wpQuiet_nil ?_
        rintro w5 ⟨⟨_, hs⟩, rfl⟩
        have HS5 := Lib.hid hs
        clear hs HS4
        have c0_0 : w5.cell? ⟨g, 0, none⟩ = some (.int .i64 r) := HS5.out.cell 0 0 rfl rfl
        have c0_1 : w5.cell? ⟨g, 1, none⟩ = some (.int .i64 og) := HS5.out.cell 0 1 rfl rfl
        have c0_2 : w5.cell? ⟨g, 2, none⟩ = some (.int .i64 rt) := HS5.out.cell 0 2 rfl rfl
        have c0_3 : w5.cell? ⟨g, 3, none⟩ = some (.int .i64 i) := HS5.out.cell 0 3 rfl rfl
        have c0_4 : w5.cell? ⟨g, 4, none⟩ = some (.int .i64 j) := HS5.out.cell 0 4 rfl rfl
        have c0_5 : w5.cell? ⟨g, 5, none⟩ = some (.int .i64 sh) := HS5.out.cell 0 5 rfl rfl
        have c0_6 : w5.cell? ⟨g, 6, none⟩ = some (.int .i64 dn) := HS5.out.cell 0 6 rfl rfl
        have c1_0 : w5.cell? ⟨gb, 0, none⟩ = some (.int .i64 sh) := HS5.out.cell 1 0 rfl rfl
        go_wp2_with fail
        clear c0_0 c0_1 c0_2 c0_3 c0_4 c0_5 c0_6 c1_0
        refine (right1_yes sh _ _ _ (HS5.out.cell 1 0 rfl rfl) s1.1 s1.2).mono ?_
        rintro e wr ⟨rfl, hw⟩
        have HSx := Lib.hid (show Sts w [(g, #[.int .i64 r, .int .i64 og, .int .i64 rt, .int .i64 i, .int .i64 j, .int .i64 sh, .int .i64 dn], 27), (gb, #[.int .i64 sh], 3)] wr from hw ▸ HS5.out)
        clear hw HS5
        go_wp2_with fail
        refine seg_in ?_
        refine seg_last 4 (by kernel_rfl) HSx.out ?_
        simp only [List.drop_succ_cons, List.drop_zero, List.take_succ_cons, List.take_zero, List.drop_nil, List.take_nil]
        have hne : Nonempty (Later w [(g, #[.int .i64 r, .int .i64 og, .int .i64 rt, .int .i64 i, .int .i64 j, .int .i64 sh, .int .i64 dn], 27), (gb, #[.int .i64 sh], 3)]) := ⟨⟨_, HSx.out⟩⟩
        have q0_0 : ∀ p : Later w [(g, #[.int .i64 r, .int .i64 og, .int .i64 rt, .int .i64 i, .int .i64 j, .int .i64 sh, .int .i64 dn], 27), (gb, #[.int .i64 sh], 3)], p.val.cell? ⟨g, 0, none⟩ = some (.int .i64 r) := fun p => p.property.cell 0 0 rfl rfl
        have q0_1 : ∀ p : Later w [(g, #[.int .i64 r, .int .i64 og, .int .i64 rt, .int .i64 i, .int .i64 j, .int .i64 sh, .int .i64 dn], 27), (gb, #[.int .i64 sh], 3)], p.val.cell? ⟨g, 1, none⟩ = some (.int .i64 og) := fun p => p.property.cell 0 1 rfl rfl
        have q0_2 : ∀ p : Later w [(g, #[.int .i64 r, .int .i64 og, .int .i64 rt, .int .i64 i, .int .i64 j, .int .i64 sh, .int .i64 dn], 27), (gb, #[.int .i64 sh], 3)], p.val.cell? ⟨g, 2, none⟩ = some (.int .i64 rt) := fun p => p.property.cell 0 2 rfl rfl
        have q0_3 : ∀ p : Later w [(g, #[.int .i64 r, .int .i64 og, .int .i64 rt, .int .i64 i, .int .i64 j, .int .i64 sh, .int .i64 dn], 27), (gb, #[.int .i64 sh], 3)], p.val.cell? ⟨g, 3, none⟩ = some (.int .i64 i) := fun p => p.property.cell 0 3 rfl rfl
        have q0_4 : ∀ p : Later w [(g, #[.int .i64 r, .int .i64 og, .int .i64 rt, .int .i64 i, .int .i64 j, .int .i64 sh, .int .i64 dn], 27), (gb, #[.int .i64 sh], 3)], p.val.cell? ⟨g, 4, none⟩ = some (.int .i64 j) := fun p => p.property.cell 0 4 rfl rfl
        have q0_5 : ∀ p : Later w [(g, #[.int .i64 r, .int .i64 og, .int .i64 rt, .int .i64 i, .int .i64 j, .int .i64 sh, .int .i64 dn], 27), (gb, #[.int .i64 sh], 3)], p.val.cell? ⟨g, 5, none⟩ = some (.int .i64 sh) := fun p => p.property.cell 0 5 rfl rfl
        have q0_6 : ∀ p : Later w [(g, #[.int .i64 r, .int .i64 og, .int .i64 rt, .int .i64 i, .int .i64 j, .int .i64 sh, .int .i64 dn], 27), (gb, #[.int .i64 sh], 3)], p.val.cell? ⟨g, 6, none⟩ = some (.int .i64 dn) := fun p => p.property.cell 0 6 rfl rfl
        have q1_0 : ∀ p : Later w [(g, #[.int .i64 r, .int .i64 og, .int .i64 rt, .int .i64 i, .int .i64 j, .int .i64 sh, .int .i64 dn], 27), (gb, #[.int .i64 sh], 3)], p.val.cell? ⟨gb, 0, none⟩ = some (.int .i64 sh) := fun p => p.property.cell 1 0 rfl rfl
        repeat (go_big_quiet_step (first | (go_at_call 18; exact Goes.quiet (has_s _ _ _ (Later.property _) a2 a3 (by omega) rfl))))
        clear hne q0_0 q0_1 q0_2 q0_3 q0_4 q0_5 q0_6 q1_0
        refine wpQuiet_nil ?_
        rintro w6 ⟨⟨_, hs⟩, rfl⟩
        have HS6 := Lib.hid hs
        clear hs HSx
        have c0_0 : w6.cell? ⟨g, 0, none⟩ = some (.int .i64 r) := HS6.out.cell 0 0 rfl rfl
        have c0_1 : w6.cell? ⟨g, 1, none⟩ = some (.int .i64 og) := HS6.out.cell 0 1 rfl rfl
        have c0_2 : w6.cell? ⟨g, 2, none⟩ = some (.int .i64 rt) := HS6.out.cell 0 2 rfl rfl
        have c0_3 : w6.cell? ⟨g, 3, none⟩ = some (.int .i64 i) := HS6.out.cell 0 3 rfl rfl
        have c0_4 : w6.cell? ⟨g, 4, none⟩ = some (.int .i64 j) := HS6.out.cell 0 4 rfl rfl
        have c0_5 : w6.cell? ⟨g, 5, none⟩ = some (.int .i64 sh) := HS6.out.cell 0 5 rfl rfl
        have c0_6 : w6.cell? ⟨g, 6, none⟩ = some (.int .i64 dn) := HS6.out.cell 0 6 rfl rfl
        have c1_0 : w6.cell? ⟨gb, 0, none⟩ = some (.int .i64 sh) := HS6.out.cell 1 0 rfl rfl
        go_wp2
        go_ret
        exact ⟨congrArg (fun b => Ending.returned (Value.bool b)) (decide_eq_true (by omega)).symm, HS6.out.bel⟩
      · have t3 : decide (dn ≤ og - (i - j)) = false := decide_eq_false s3
        clear c0_0 c0_1 c0_2 c0_3 c0_4 c0_5 c0_6
        refine wp_region_seg (by kernel_rfl) ?_
        have HS2 := Lib.hid ((HS1.out.drew : Sts w [(g, #[.int .i64 r, .int .i64 og, .int .i64 rt, .int .i64 i, .int .i64 j, .int .i64 sh, .int .i64 dn], 27)] v1.drew))
        clear HS1
        refine seg_next 0 2 (by kernel_rfl) HS2.out ?_
        simp only [List.drop_succ_cons, List.drop_zero, List.take_succ_cons, List.take_zero, List.drop_nil, List.take_nil]
        have hne : Nonempty (Later w [(g, #[.int .i64 r, .int .i64 og, .int .i64 rt, .int .i64 i, .int .i64 j, .int .i64 sh, .int .i64 dn], 27)]) := ⟨⟨_, HS2.out⟩⟩
        have q0_0 : ∀ p : Later w [(g, #[.int .i64 r, .int .i64 og, .int .i64 rt, .int .i64 i, .int .i64 j, .int .i64 sh, .int .i64 dn], 27)], p.val.cell? ⟨g, 0, none⟩ = some (.int .i64 r) := fun p => p.property.cell 0 0 rfl rfl
        have q0_1 : ∀ p : Later w [(g, #[.int .i64 r, .int .i64 og, .int .i64 rt, .int .i64 i, .int .i64 j, .int .i64 sh, .int .i64 dn], 27)], p.val.cell? ⟨g, 1, none⟩ = some (.int .i64 og) := fun p => p.property.cell 0 1 rfl rfl
        have q0_2 : ∀ p : Later w [(g, #[.int .i64 r, .int .i64 og, .int .i64 rt, .int .i64 i, .int .i64 j, .int .i64 sh, .int .i64 dn], 27)], p.val.cell? ⟨g, 2, none⟩ = some (.int .i64 rt) := fun p => p.property.cell 0 2 rfl rfl
        have q0_3 : ∀ p : Later w [(g, #[.int .i64 r, .int .i64 og, .int .i64 rt, .int .i64 i, .int .i64 j, .int .i64 sh, .int .i64 dn], 27)], p.val.cell? ⟨g, 3, none⟩ = some (.int .i64 i) := fun p => p.property.cell 0 3 rfl rfl
        have q0_4 : ∀ p : Later w [(g, #[.int .i64 r, .int .i64 og, .int .i64 rt, .int .i64 i, .int .i64 j, .int .i64 sh, .int .i64 dn], 27)], p.val.cell? ⟨g, 4, none⟩ = some (.int .i64 j) := fun p => p.property.cell 0 4 rfl rfl
        have q0_5 : ∀ p : Later w [(g, #[.int .i64 r, .int .i64 og, .int .i64 rt, .int .i64 i, .int .i64 j, .int .i64 sh, .int .i64 dn], 27)], p.val.cell? ⟨g, 5, none⟩ = some (.int .i64 sh) := fun p => p.property.cell 0 5 rfl rfl
        have q0_6 : ∀ p : Later w [(g, #[.int .i64 r, .int .i64 og, .int .i64 rt, .int .i64 i, .int .i64 j, .int .i64 sh, .int .i64 dn], 27)], p.val.cell? ⟨g, 6, none⟩ = some (.int .i64 dn) := fun p => p.property.cell 0 6 rfl rfl
        repeat (go_big_quiet_step (first | fail))
        clear hne q0_0 q0_1 q0_2 q0_3 q0_4 q0_5 q0_6
        refine wpQuiet_nil ?_
        rintro w3 ⟨⟨_, hs⟩, rfl⟩
        have HS3 := Lib.hid hs
        clear hs HS2
        have c0_0 : w3.cell? ⟨g, 0, none⟩ = some (.int .i64 r) := HS3.out.cell 0 0 rfl rfl
        have c0_1 : w3.cell? ⟨g, 1, none⟩ = some (.int .i64 og) := HS3.out.cell 0 1 rfl rfl
        have c0_2 : w3.cell? ⟨g, 2, none⟩ = some (.int .i64 rt) := HS3.out.cell 0 2 rfl rfl
        have c0_3 : w3.cell? ⟨g, 3, none⟩ = some (.int .i64 i) := HS3.out.cell 0 3 rfl rfl
        have c0_4 : w3.cell? ⟨g, 4, none⟩ = some (.int .i64 j) := HS3.out.cell 0 4 rfl rfl
        have c0_5 : w3.cell? ⟨g, 5, none⟩ = some (.int .i64 sh) := HS3.out.cell 0 5 rfl rfl
        have c0_6 : w3.cell? ⟨g, 6, none⟩ = some (.int .i64 dn) := HS3.out.cell 0 6 rfl rfl
        go_wp2_with fail
        clear c0_0 c0_1 c0_2 c0_3 c0_4 c0_5 c0_6
        have HS4 := Lib.hid ((HS3.out.add (g := w3.heap.size) (by simp) #[.int .i64 sh] 3).lit (L' := [(g, #[.int .i64 r, .int .i64 og, .int .i64 rt, .int .i64 i, .int .i64 j, .int .i64 sh, .int .i64 dn], 27), (w3.heap.size, #[.int .i64 sh], 3)]) rfl)
        clear HS3
        generalize w3.heap.size = gb at *
        refine seg_in ?_
        refine seg_next 3 0 (by kernel_rfl) HS4.out ?_
        simp only [List.drop_succ_cons, List.drop_zero, List.take_succ_cons, List.take_zero, List.drop_nil, List.take_nil]
        refine wpQuiet_nil ?_
        rintro w5 ⟨⟨_, hs⟩, rfl⟩
        have HS5 := Lib.hid hs
        clear hs HS4
        have c0_0 : w5.cell? ⟨g, 0, none⟩ = some (.int .i64 r) := HS5.out.cell 0 0 rfl rfl
        have c0_1 : w5.cell? ⟨g, 1, none⟩ = some (.int .i64 og) := HS5.out.cell 0 1 rfl rfl
        have c0_2 : w5.cell? ⟨g, 2, none⟩ = some (.int .i64 rt) := HS5.out.cell 0 2 rfl rfl
        have c0_3 : w5.cell? ⟨g, 3, none⟩ = some (.int .i64 i) := HS5.out.cell 0 3 rfl rfl
        have c0_4 : w5.cell? ⟨g, 4, none⟩ = some (.int .i64 j) := HS5.out.cell 0 4 rfl rfl
        have c0_5 : w5.cell? ⟨g, 5, none⟩ = some (.int .i64 sh) := HS5.out.cell 0 5 rfl rfl
        have c0_6 : w5.cell? ⟨g, 6, none⟩ = some (.int .i64 dn) := HS5.out.cell 0 6 rfl rfl
        have c1_0 : w5.cell? ⟨gb, 0, none⟩ = some (.int .i64 sh) := HS5.out.cell 1 0 rfl rfl
        go_wp2_with fail
        clear c0_0 c0_1 c0_2 c0_3 c0_4 c0_5 c0_6 c1_0
        refine (right1_yes sh _ _ _ (HS5.out.cell 1 0 rfl rfl) s1.1 s1.2).mono ?_
        rintro e wr ⟨rfl, hw⟩
        have HSx := Lib.hid (show Sts w [(g, #[.int .i64 r, .int .i64 og, .int .i64 rt, .int .i64 i, .int .i64 j, .int .i64 sh, .int .i64 dn], 27), (gb, #[.int .i64 sh], 3)] wr from hw ▸ HS5.out)
        clear hw HS5
        go_wp2_with fail
        refine seg_in ?_
        refine seg_last 4 (by kernel_rfl) HSx.out ?_
        simp only [List.drop_succ_cons, List.drop_zero, List.take_succ_cons, List.take_zero, List.drop_nil, List.take_nil]
        have hne : Nonempty (Later w [(g, #[.int .i64 r, .int .i64 og, .int .i64 rt, .int .i64 i, .int .i64 j, .int .i64 sh, .int .i64 dn], 27), (gb, #[.int .i64 sh], 3)]) := ⟨⟨_, HSx.out⟩⟩
        have q0_0 : ∀ p : Later w [(g, #[.int .i64 r, .int .i64 og, .int .i64 rt, .int .i64 i, .int .i64 j, .int .i64 sh, .int .i64 dn], 27), (gb, #[.int .i64 sh], 3)], p.val.cell? ⟨g, 0, none⟩ = some (.int .i64 r) := fun p => p.property.cell 0 0 rfl rfl
        have q0_1 : ∀ p : Later w [(g, #[.int .i64 r, .int .i64 og, .int .i64 rt, .int .i64 i, .int .i64 j, .int .i64 sh, .int .i64 dn], 27), (gb, #[.int .i64 sh], 3)], p.val.cell? ⟨g, 1, none⟩ = some (.int .i64 og) := fun p => p.property.cell 0 1 rfl rfl
        have q0_2 : ∀ p : Later w [(g, #[.int .i64 r, .int .i64 og, .int .i64 rt, .int .i64 i, .int .i64 j, .int .i64 sh, .int .i64 dn], 27), (gb, #[.int .i64 sh], 3)], p.val.cell? ⟨g, 2, none⟩ = some (.int .i64 rt) := fun p => p.property.cell 0 2 rfl rfl
        have q0_3 : ∀ p : Later w [(g, #[.int .i64 r, .int .i64 og, .int .i64 rt, .int .i64 i, .int .i64 j, .int .i64 sh, .int .i64 dn], 27), (gb, #[.int .i64 sh], 3)], p.val.cell? ⟨g, 3, none⟩ = some (.int .i64 i) := fun p => p.property.cell 0 3 rfl rfl
        have q0_4 : ∀ p : Later w [(g, #[.int .i64 r, .int .i64 og, .int .i64 rt, .int .i64 i, .int .i64 j, .int .i64 sh, .int .i64 dn], 27), (gb, #[.int .i64 sh], 3)], p.val.cell? ⟨g, 4, none⟩ = some (.int .i64 j) := fun p => p.property.cell 0 4 rfl rfl
        have q0_5 : ∀ p : Later w [(g, #[.int .i64 r, .int .i64 og, .int .i64 rt, .int .i64 i, .int .i64 j, .int .i64 sh, .int .i64 dn], 27), (gb, #[.int .i64 sh], 3)], p.val.cell? ⟨g, 5, none⟩ = some (.int .i64 sh) := fun p => p.property.cell 0 5 rfl rfl
        have q0_6 : ∀ p : Later w [(g, #[.int .i64 r, .int .i64 og, .int .i64 rt, .int .i64 i, .int .i64 j, .int .i64 sh, .int .i64 dn], 27), (gb, #[.int .i64 sh], 3)], p.val.cell? ⟨g, 6, none⟩ = some (.int .i64 dn) := fun p => p.property.cell 0 6 rfl rfl
        have q1_0 : ∀ p : Later w [(g, #[.int .i64 r, .int .i64 og, .int .i64 rt, .int .i64 i, .int .i64 j, .int .i64 sh, .int .i64 dn], 27), (gb, #[.int .i64 sh], 3)], p.val.cell? ⟨gb, 0, none⟩ = some (.int .i64 sh) := fun p => p.property.cell 1 0 rfl rfl
        repeat (go_big_quiet_step (first | (go_at_call 18; exact Goes.quiet (has_s _ _ _ (Later.property _) a2 a3 (by omega) rfl))))
        clear hne q0_0 q0_1 q0_2 q0_3 q0_4 q0_5 q0_6 q1_0
        refine wpQuiet_nil ?_
        rintro w6 ⟨⟨_, hs⟩, rfl⟩
        have HS6 := Lib.hid hs
        clear hs HSx
        have c0_0 : w6.cell? ⟨g, 0, none⟩ = some (.int .i64 r) := HS6.out.cell 0 0 rfl rfl
        have c0_1 : w6.cell? ⟨g, 1, none⟩ = some (.int .i64 og) := HS6.out.cell 0 1 rfl rfl
        have c0_2 : w6.cell? ⟨g, 2, none⟩ = some (.int .i64 rt) := HS6.out.cell 0 2 rfl rfl
        have c0_3 : w6.cell? ⟨g, 3, none⟩ = some (.int .i64 i) := HS6.out.cell 0 3 rfl rfl
        have c0_4 : w6.cell? ⟨g, 4, none⟩ = some (.int .i64 j) := HS6.out.cell 0 4 rfl rfl
        have c0_5 : w6.cell? ⟨g, 5, none⟩ = some (.int .i64 sh) := HS6.out.cell 0 5 rfl rfl
        have c0_6 : w6.cell? ⟨g, 6, none⟩ = some (.int .i64 dn) := HS6.out.cell 0 6 rfl rfl
        have c1_0 : w6.cell? ⟨gb, 0, none⟩ = some (.int .i64 sh) := HS6.out.cell 1 0 rfl rfl
        go_wp2
        go_ret
        exact ⟨congrArg (fun b => Ending.returned (Value.bool b)) (decide_eq_false (by omega)).symm, HS6.out.bel⟩
    · have t2 : decide (0 ≤ dn) = false := decide_eq_false s2
      clear c0_0 c0_1 c0_2 c0_3 c0_4 c0_5 c0_6
      refine wp_region_seg (by kernel_rfl) ?_
      have HS2 := Lib.hid ((HS1.out.drew : Sts w [(g, #[.int .i64 r, .int .i64 og, .int .i64 rt, .int .i64 i, .int .i64 j, .int .i64 sh, .int .i64 dn], 27)] v1.drew))
      clear HS1
      refine seg_next 0 2 (by kernel_rfl) HS2.out ?_
      simp only [List.drop_succ_cons, List.drop_zero, List.take_succ_cons, List.take_zero, List.drop_nil, List.take_nil]
      have hne : Nonempty (Later w [(g, #[.int .i64 r, .int .i64 og, .int .i64 rt, .int .i64 i, .int .i64 j, .int .i64 sh, .int .i64 dn], 27)]) := ⟨⟨_, HS2.out⟩⟩
      have q0_0 : ∀ p : Later w [(g, #[.int .i64 r, .int .i64 og, .int .i64 rt, .int .i64 i, .int .i64 j, .int .i64 sh, .int .i64 dn], 27)], p.val.cell? ⟨g, 0, none⟩ = some (.int .i64 r) := fun p => p.property.cell 0 0 rfl rfl
      have q0_1 : ∀ p : Later w [(g, #[.int .i64 r, .int .i64 og, .int .i64 rt, .int .i64 i, .int .i64 j, .int .i64 sh, .int .i64 dn], 27)], p.val.cell? ⟨g, 1, none⟩ = some (.int .i64 og) := fun p => p.property.cell 0 1 rfl rfl
      have q0_2 : ∀ p : Later w [(g, #[.int .i64 r, .int .i64 og, .int .i64 rt, .int .i64 i, .int .i64 j, .int .i64 sh, .int .i64 dn], 27)], p.val.cell? ⟨g, 2, none⟩ = some (.int .i64 rt) := fun p => p.property.cell 0 2 rfl rfl
      have q0_3 : ∀ p : Later w [(g, #[.int .i64 r, .int .i64 og, .int .i64 rt, .int .i64 i, .int .i64 j, .int .i64 sh, .int .i64 dn], 27)], p.val.cell? ⟨g, 3, none⟩ = some (.int .i64 i) := fun p => p.property.cell 0 3 rfl rfl
      have q0_4 : ∀ p : Later w [(g, #[.int .i64 r, .int .i64 og, .int .i64 rt, .int .i64 i, .int .i64 j, .int .i64 sh, .int .i64 dn], 27)], p.val.cell? ⟨g, 4, none⟩ = some (.int .i64 j) := fun p => p.property.cell 0 4 rfl rfl
      have q0_5 : ∀ p : Later w [(g, #[.int .i64 r, .int .i64 og, .int .i64 rt, .int .i64 i, .int .i64 j, .int .i64 sh, .int .i64 dn], 27)], p.val.cell? ⟨g, 5, none⟩ = some (.int .i64 sh) := fun p => p.property.cell 0 5 rfl rfl
      have q0_6 : ∀ p : Later w [(g, #[.int .i64 r, .int .i64 og, .int .i64 rt, .int .i64 i, .int .i64 j, .int .i64 sh, .int .i64 dn], 27)], p.val.cell? ⟨g, 6, none⟩ = some (.int .i64 dn) := fun p => p.property.cell 0 6 rfl rfl
      repeat (go_big_quiet_step (first | fail))
      clear hne q0_0 q0_1 q0_2 q0_3 q0_4 q0_5 q0_6
      refine wpQuiet_nil ?_
      rintro w3 ⟨⟨_, hs⟩, rfl⟩
      have HS3 := Lib.hid hs
      clear hs HS2
      have c0_0 : w3.cell? ⟨g, 0, none⟩ = some (.int .i64 r) := HS3.out.cell 0 0 rfl rfl
      have c0_1 : w3.cell? ⟨g, 1, none⟩ = some (.int .i64 og) := HS3.out.cell 0 1 rfl rfl
      have c0_2 : w3.cell? ⟨g, 2, none⟩ = some (.int .i64 rt) := HS3.out.cell 0 2 rfl rfl
      have c0_3 : w3.cell? ⟨g, 3, none⟩ = some (.int .i64 i) := HS3.out.cell 0 3 rfl rfl
      have c0_4 : w3.cell? ⟨g, 4, none⟩ = some (.int .i64 j) := HS3.out.cell 0 4 rfl rfl
      have c0_5 : w3.cell? ⟨g, 5, none⟩ = some (.int .i64 sh) := HS3.out.cell 0 5 rfl rfl
      have c0_6 : w3.cell? ⟨g, 6, none⟩ = some (.int .i64 dn) := HS3.out.cell 0 6 rfl rfl
      go_wp2_with fail
      clear c0_0 c0_1 c0_2 c0_3 c0_4 c0_5 c0_6
      have HS4 := Lib.hid ((HS3.out.add (g := w3.heap.size) (by simp) #[.int .i64 sh] 3).lit (L' := [(g, #[.int .i64 r, .int .i64 og, .int .i64 rt, .int .i64 i, .int .i64 j, .int .i64 sh, .int .i64 dn], 27), (w3.heap.size, #[.int .i64 sh], 3)]) rfl)
      clear HS3
      generalize w3.heap.size = gb at *
      refine seg_in ?_
      refine seg_next 3 0 (by kernel_rfl) HS4.out ?_
      simp only [List.drop_succ_cons, List.drop_zero, List.take_succ_cons, List.take_zero, List.drop_nil, List.take_nil]
      refine wpQuiet_nil ?_
      rintro w5 ⟨⟨_, hs⟩, rfl⟩
      have HS5 := Lib.hid hs
      clear hs HS4
      have c0_0 : w5.cell? ⟨g, 0, none⟩ = some (.int .i64 r) := HS5.out.cell 0 0 rfl rfl
      have c0_1 : w5.cell? ⟨g, 1, none⟩ = some (.int .i64 og) := HS5.out.cell 0 1 rfl rfl
      have c0_2 : w5.cell? ⟨g, 2, none⟩ = some (.int .i64 rt) := HS5.out.cell 0 2 rfl rfl
      have c0_3 : w5.cell? ⟨g, 3, none⟩ = some (.int .i64 i) := HS5.out.cell 0 3 rfl rfl
      have c0_4 : w5.cell? ⟨g, 4, none⟩ = some (.int .i64 j) := HS5.out.cell 0 4 rfl rfl
      have c0_5 : w5.cell? ⟨g, 5, none⟩ = some (.int .i64 sh) := HS5.out.cell 0 5 rfl rfl
      have c0_6 : w5.cell? ⟨g, 6, none⟩ = some (.int .i64 dn) := HS5.out.cell 0 6 rfl rfl
      have c1_0 : w5.cell? ⟨gb, 0, none⟩ = some (.int .i64 sh) := HS5.out.cell 1 0 rfl rfl
      go_wp2_with fail
      clear c0_0 c0_1 c0_2 c0_3 c0_4 c0_5 c0_6 c1_0
      refine (right1_yes sh _ _ _ (HS5.out.cell 1 0 rfl rfl) s1.1 s1.2).mono ?_
      rintro e wr ⟨rfl, hw⟩
      have HSx := Lib.hid (show Sts w [(g, #[.int .i64 r, .int .i64 og, .int .i64 rt, .int .i64 i, .int .i64 j, .int .i64 sh, .int .i64 dn], 27), (gb, #[.int .i64 sh], 3)] wr from hw ▸ HS5.out)
      clear hw HS5
      go_wp2_with fail
      refine seg_in ?_
      refine seg_last 4 (by kernel_rfl) HSx.out ?_
      simp only [List.drop_succ_cons, List.drop_zero, List.take_succ_cons, List.take_zero, List.drop_nil, List.take_nil]
      have hne : Nonempty (Later w [(g, #[.int .i64 r, .int .i64 og, .int .i64 rt, .int .i64 i, .int .i64 j, .int .i64 sh, .int .i64 dn], 27), (gb, #[.int .i64 sh], 3)]) := ⟨⟨_, HSx.out⟩⟩
      have q0_0 : ∀ p : Later w [(g, #[.int .i64 r, .int .i64 og, .int .i64 rt, .int .i64 i, .int .i64 j, .int .i64 sh, .int .i64 dn], 27), (gb, #[.int .i64 sh], 3)], p.val.cell? ⟨g, 0, none⟩ = some (.int .i64 r) := fun p => p.property.cell 0 0 rfl rfl
      have q0_1 : ∀ p : Later w [(g, #[.int .i64 r, .int .i64 og, .int .i64 rt, .int .i64 i, .int .i64 j, .int .i64 sh, .int .i64 dn], 27), (gb, #[.int .i64 sh], 3)], p.val.cell? ⟨g, 1, none⟩ = some (.int .i64 og) := fun p => p.property.cell 0 1 rfl rfl
      have q0_2 : ∀ p : Later w [(g, #[.int .i64 r, .int .i64 og, .int .i64 rt, .int .i64 i, .int .i64 j, .int .i64 sh, .int .i64 dn], 27), (gb, #[.int .i64 sh], 3)], p.val.cell? ⟨g, 2, none⟩ = some (.int .i64 rt) := fun p => p.property.cell 0 2 rfl rfl
      have q0_3 : ∀ p : Later w [(g, #[.int .i64 r, .int .i64 og, .int .i64 rt, .int .i64 i, .int .i64 j, .int .i64 sh, .int .i64 dn], 27), (gb, #[.int .i64 sh], 3)], p.val.cell? ⟨g, 3, none⟩ = some (.int .i64 i) := fun p => p.property.cell 0 3 rfl rfl
      have q0_4 : ∀ p : Later w [(g, #[.int .i64 r, .int .i64 og, .int .i64 rt, .int .i64 i, .int .i64 j, .int .i64 sh, .int .i64 dn], 27), (gb, #[.int .i64 sh], 3)], p.val.cell? ⟨g, 4, none⟩ = some (.int .i64 j) := fun p => p.property.cell 0 4 rfl rfl
      have q0_5 : ∀ p : Later w [(g, #[.int .i64 r, .int .i64 og, .int .i64 rt, .int .i64 i, .int .i64 j, .int .i64 sh, .int .i64 dn], 27), (gb, #[.int .i64 sh], 3)], p.val.cell? ⟨g, 5, none⟩ = some (.int .i64 sh) := fun p => p.property.cell 0 5 rfl rfl
      have q0_6 : ∀ p : Later w [(g, #[.int .i64 r, .int .i64 og, .int .i64 rt, .int .i64 i, .int .i64 j, .int .i64 sh, .int .i64 dn], 27), (gb, #[.int .i64 sh], 3)], p.val.cell? ⟨g, 6, none⟩ = some (.int .i64 dn) := fun p => p.property.cell 0 6 rfl rfl
      have q1_0 : ∀ p : Later w [(g, #[.int .i64 r, .int .i64 og, .int .i64 rt, .int .i64 i, .int .i64 j, .int .i64 sh, .int .i64 dn], 27), (gb, #[.int .i64 sh], 3)], p.val.cell? ⟨gb, 0, none⟩ = some (.int .i64 sh) := fun p => p.property.cell 1 0 rfl rfl
      repeat (go_big_quiet_step (first | (go_at_call 18; exact Goes.quiet (has_s _ _ _ (Later.property _) a2 a3 (by omega) rfl))))
      clear hne q0_0 q0_1 q0_2 q0_3 q0_4 q0_5 q0_6 q1_0
      refine wpQuiet_nil ?_
      rintro w6 ⟨⟨_, hs⟩, rfl⟩
      have HS6 := Lib.hid hs
      clear hs HSx
      have c0_0 : w6.cell? ⟨g, 0, none⟩ = some (.int .i64 r) := HS6.out.cell 0 0 rfl rfl
      have c0_1 : w6.cell? ⟨g, 1, none⟩ = some (.int .i64 og) := HS6.out.cell 0 1 rfl rfl
      have c0_2 : w6.cell? ⟨g, 2, none⟩ = some (.int .i64 rt) := HS6.out.cell 0 2 rfl rfl
      have c0_3 : w6.cell? ⟨g, 3, none⟩ = some (.int .i64 i) := HS6.out.cell 0 3 rfl rfl
      have c0_4 : w6.cell? ⟨g, 4, none⟩ = some (.int .i64 j) := HS6.out.cell 0 4 rfl rfl
      have c0_5 : w6.cell? ⟨g, 5, none⟩ = some (.int .i64 sh) := HS6.out.cell 0 5 rfl rfl
      have c0_6 : w6.cell? ⟨g, 6, none⟩ = some (.int .i64 dn) := HS6.out.cell 0 6 rfl rfl
      have c1_0 : w6.cell? ⟨gb, 0, none⟩ = some (.int .i64 sh) := HS6.out.cell 1 0 rfl rfl
      go_wp2
      go_ret
      exact ⟨congrArg (fun b => Ending.returned (Value.bool b)) (decide_eq_false (by omega)).symm, HS6.out.bel⟩
  · skip
    clear c0_0 c0_1 c0_2 c0_3 c0_4 c0_5 c0_6
    refine wp_region_seg (by kernel_rfl) ?_
    have HS2 := Lib.hid ((HS1.out.drew : Sts w [(g, #[.int .i64 r, .int .i64 og, .int .i64 rt, .int .i64 i, .int .i64 j, .int .i64 sh, .int .i64 dn], 27)] v1.drew))
    clear HS1
    refine seg_next 0 2 (by kernel_rfl) HS2.out ?_
    simp only [List.drop_succ_cons, List.drop_zero, List.take_succ_cons, List.take_zero, List.drop_nil, List.take_nil]
    have hne : Nonempty (Later w [(g, #[.int .i64 r, .int .i64 og, .int .i64 rt, .int .i64 i, .int .i64 j, .int .i64 sh, .int .i64 dn], 27)]) := ⟨⟨_, HS2.out⟩⟩
    have q0_0 : ∀ p : Later w [(g, #[.int .i64 r, .int .i64 og, .int .i64 rt, .int .i64 i, .int .i64 j, .int .i64 sh, .int .i64 dn], 27)], p.val.cell? ⟨g, 0, none⟩ = some (.int .i64 r) := fun p => p.property.cell 0 0 rfl rfl
    have q0_1 : ∀ p : Later w [(g, #[.int .i64 r, .int .i64 og, .int .i64 rt, .int .i64 i, .int .i64 j, .int .i64 sh, .int .i64 dn], 27)], p.val.cell? ⟨g, 1, none⟩ = some (.int .i64 og) := fun p => p.property.cell 0 1 rfl rfl
    have q0_2 : ∀ p : Later w [(g, #[.int .i64 r, .int .i64 og, .int .i64 rt, .int .i64 i, .int .i64 j, .int .i64 sh, .int .i64 dn], 27)], p.val.cell? ⟨g, 2, none⟩ = some (.int .i64 rt) := fun p => p.property.cell 0 2 rfl rfl
    have q0_3 : ∀ p : Later w [(g, #[.int .i64 r, .int .i64 og, .int .i64 rt, .int .i64 i, .int .i64 j, .int .i64 sh, .int .i64 dn], 27)], p.val.cell? ⟨g, 3, none⟩ = some (.int .i64 i) := fun p => p.property.cell 0 3 rfl rfl
    have q0_4 : ∀ p : Later w [(g, #[.int .i64 r, .int .i64 og, .int .i64 rt, .int .i64 i, .int .i64 j, .int .i64 sh, .int .i64 dn], 27)], p.val.cell? ⟨g, 4, none⟩ = some (.int .i64 j) := fun p => p.property.cell 0 4 rfl rfl
    have q0_5 : ∀ p : Later w [(g, #[.int .i64 r, .int .i64 og, .int .i64 rt, .int .i64 i, .int .i64 j, .int .i64 sh, .int .i64 dn], 27)], p.val.cell? ⟨g, 5, none⟩ = some (.int .i64 sh) := fun p => p.property.cell 0 5 rfl rfl
    have q0_6 : ∀ p : Later w [(g, #[.int .i64 r, .int .i64 og, .int .i64 rt, .int .i64 i, .int .i64 j, .int .i64 sh, .int .i64 dn], 27)], p.val.cell? ⟨g, 6, none⟩ = some (.int .i64 dn) := fun p => p.property.cell 0 6 rfl rfl
    repeat (go_big_quiet_step (first | fail))
    clear hne q0_0 q0_1 q0_2 q0_3 q0_4 q0_5 q0_6
    refine wpQuiet_nil ?_
    rintro w3 ⟨⟨_, hs⟩, rfl⟩
    have HS3 := Lib.hid hs
    clear hs HS2
    have c0_0 : w3.cell? ⟨g, 0, none⟩ = some (.int .i64 r) := HS3.out.cell 0 0 rfl rfl
    have c0_1 : w3.cell? ⟨g, 1, none⟩ = some (.int .i64 og) := HS3.out.cell 0 1 rfl rfl
    have c0_2 : w3.cell? ⟨g, 2, none⟩ = some (.int .i64 rt) := HS3.out.cell 0 2 rfl rfl
    have c0_3 : w3.cell? ⟨g, 3, none⟩ = some (.int .i64 i) := HS3.out.cell 0 3 rfl rfl
    have c0_4 : w3.cell? ⟨g, 4, none⟩ = some (.int .i64 j) := HS3.out.cell 0 4 rfl rfl
    have c0_5 : w3.cell? ⟨g, 5, none⟩ = some (.int .i64 sh) := HS3.out.cell 0 5 rfl rfl
    have c0_6 : w3.cell? ⟨g, 6, none⟩ = some (.int .i64 dn) := HS3.out.cell 0 6 rfl rfl
    go_wp2_with fail
    clear c0_0 c0_1 c0_2 c0_3 c0_4 c0_5 c0_6
    have HS4 := Lib.hid ((HS3.out.add (g := w3.heap.size) (by simp) #[.int .i64 sh] 3).lit (L' := [(g, #[.int .i64 r, .int .i64 og, .int .i64 rt, .int .i64 i, .int .i64 j, .int .i64 sh, .int .i64 dn], 27), (w3.heap.size, #[.int .i64 sh], 3)]) rfl)
    clear HS3
    generalize w3.heap.size = gb at *
    refine seg_in ?_
    refine seg_next 3 0 (by kernel_rfl) HS4.out ?_
    simp only [List.drop_succ_cons, List.drop_zero, List.take_succ_cons, List.take_zero, List.drop_nil, List.take_nil]
    refine wpQuiet_nil ?_
    rintro w5 ⟨⟨_, hs⟩, rfl⟩
    have HS5 := Lib.hid hs
    clear hs HS4
    have c0_0 : w5.cell? ⟨g, 0, none⟩ = some (.int .i64 r) := HS5.out.cell 0 0 rfl rfl
    have c0_1 : w5.cell? ⟨g, 1, none⟩ = some (.int .i64 og) := HS5.out.cell 0 1 rfl rfl
    have c0_2 : w5.cell? ⟨g, 2, none⟩ = some (.int .i64 rt) := HS5.out.cell 0 2 rfl rfl
    have c0_3 : w5.cell? ⟨g, 3, none⟩ = some (.int .i64 i) := HS5.out.cell 0 3 rfl rfl
    have c0_4 : w5.cell? ⟨g, 4, none⟩ = some (.int .i64 j) := HS5.out.cell 0 4 rfl rfl
    have c0_5 : w5.cell? ⟨g, 5, none⟩ = some (.int .i64 sh) := HS5.out.cell 0 5 rfl rfl
    have c0_6 : w5.cell? ⟨g, 6, none⟩ = some (.int .i64 dn) := HS5.out.cell 0 6 rfl rfl
    have c1_0 : w5.cell? ⟨gb, 0, none⟩ = some (.int .i64 sh) := HS5.out.cell 1 0 rfl rfl
    go_wp2_with fail
    clear c0_0 c0_1 c0_2 c0_3 c0_4 c0_5 c0_6 c1_0
    refine (right1_no sh _ _ _ (HS5.out.cell 1 0 rfl rfl) a5 a6 s1).mono ?_
    rintro e wr ⟨rfl, hw⟩
    have HSx := Lib.hid (show Sts w [(g, #[.int .i64 r, .int .i64 og, .int .i64 rt, .int .i64 i, .int .i64 j, .int .i64 sh, .int .i64 dn], 27), (gb, #[.int .i64 sh], 3)] wr from hw ▸ HS5.out)
    clear hw HS5
    go_wp2_with fail
    refine seg_in ?_
    refine seg_last 4 (by kernel_rfl) HSx.out ?_
    simp only [List.drop_succ_cons, List.drop_zero, List.take_succ_cons, List.take_zero, List.drop_nil, List.take_nil]
    have hne : Nonempty (Later w [(g, #[.int .i64 r, .int .i64 og, .int .i64 rt, .int .i64 i, .int .i64 j, .int .i64 sh, .int .i64 dn], 27), (gb, #[.int .i64 sh], 3)]) := ⟨⟨_, HSx.out⟩⟩
    have q0_0 : ∀ p : Later w [(g, #[.int .i64 r, .int .i64 og, .int .i64 rt, .int .i64 i, .int .i64 j, .int .i64 sh, .int .i64 dn], 27), (gb, #[.int .i64 sh], 3)], p.val.cell? ⟨g, 0, none⟩ = some (.int .i64 r) := fun p => p.property.cell 0 0 rfl rfl
    have q0_1 : ∀ p : Later w [(g, #[.int .i64 r, .int .i64 og, .int .i64 rt, .int .i64 i, .int .i64 j, .int .i64 sh, .int .i64 dn], 27), (gb, #[.int .i64 sh], 3)], p.val.cell? ⟨g, 1, none⟩ = some (.int .i64 og) := fun p => p.property.cell 0 1 rfl rfl
    have q0_2 : ∀ p : Later w [(g, #[.int .i64 r, .int .i64 og, .int .i64 rt, .int .i64 i, .int .i64 j, .int .i64 sh, .int .i64 dn], 27), (gb, #[.int .i64 sh], 3)], p.val.cell? ⟨g, 2, none⟩ = some (.int .i64 rt) := fun p => p.property.cell 0 2 rfl rfl
    have q0_3 : ∀ p : Later w [(g, #[.int .i64 r, .int .i64 og, .int .i64 rt, .int .i64 i, .int .i64 j, .int .i64 sh, .int .i64 dn], 27), (gb, #[.int .i64 sh], 3)], p.val.cell? ⟨g, 3, none⟩ = some (.int .i64 i) := fun p => p.property.cell 0 3 rfl rfl
    have q0_4 : ∀ p : Later w [(g, #[.int .i64 r, .int .i64 og, .int .i64 rt, .int .i64 i, .int .i64 j, .int .i64 sh, .int .i64 dn], 27), (gb, #[.int .i64 sh], 3)], p.val.cell? ⟨g, 4, none⟩ = some (.int .i64 j) := fun p => p.property.cell 0 4 rfl rfl
    have q0_5 : ∀ p : Later w [(g, #[.int .i64 r, .int .i64 og, .int .i64 rt, .int .i64 i, .int .i64 j, .int .i64 sh, .int .i64 dn], 27), (gb, #[.int .i64 sh], 3)], p.val.cell? ⟨g, 5, none⟩ = some (.int .i64 sh) := fun p => p.property.cell 0 5 rfl rfl
    have q0_6 : ∀ p : Later w [(g, #[.int .i64 r, .int .i64 og, .int .i64 rt, .int .i64 i, .int .i64 j, .int .i64 sh, .int .i64 dn], 27), (gb, #[.int .i64 sh], 3)], p.val.cell? ⟨g, 6, none⟩ = some (.int .i64 dn) := fun p => p.property.cell 0 6 rfl rfl
    have q1_0 : ∀ p : Later w [(g, #[.int .i64 r, .int .i64 og, .int .i64 rt, .int .i64 i, .int .i64 j, .int .i64 sh, .int .i64 dn], 27), (gb, #[.int .i64 sh], 3)], p.val.cell? ⟨gb, 0, none⟩ = some (.int .i64 sh) := fun p => p.property.cell 1 0 rfl rfl
    repeat (go_big_quiet_step (first | (go_at_call 18; exact Goes.quiet (has_s _ _ _ (Later.property _) a2 a3 (by omega) rfl))))
    clear hne q0_0 q0_1 q0_2 q0_3 q0_4 q0_5 q0_6 q1_0
    refine wpQuiet_nil ?_
    rintro w6 ⟨⟨_, hs⟩, rfl⟩
    have HS6 := Lib.hid hs
    clear hs HSx
    have c0_0 : w6.cell? ⟨g, 0, none⟩ = some (.int .i64 r) := HS6.out.cell 0 0 rfl rfl
    have c0_1 : w6.cell? ⟨g, 1, none⟩ = some (.int .i64 og) := HS6.out.cell 0 1 rfl rfl
    have c0_2 : w6.cell? ⟨g, 2, none⟩ = some (.int .i64 rt) := HS6.out.cell 0 2 rfl rfl
    have c0_3 : w6.cell? ⟨g, 3, none⟩ = some (.int .i64 i) := HS6.out.cell 0 3 rfl rfl
    have c0_4 : w6.cell? ⟨g, 4, none⟩ = some (.int .i64 j) := HS6.out.cell 0 4 rfl rfl
    have c0_5 : w6.cell? ⟨g, 5, none⟩ = some (.int .i64 sh) := HS6.out.cell 0 5 rfl rfl
    have c0_6 : w6.cell? ⟨g, 6, none⟩ = some (.int .i64 dn) := HS6.out.cell 0 6 rfl rfl
    have c1_0 : w6.cell? ⟨gb, 0, none⟩ = some (.int .i64 sh) := HS6.out.cell 1 0 rfl rfl
    go_wp2
    go_ret
    exact ⟨congrArg (fun b => Ending.returned (Value.bool b)) (decide_eq_false (by omega)).symm, HS6.out.bel⟩

end Go.Proofs.Ytllbpjaiplnbnaa

-- PRINTED BY print.sh 35421559b90ae4d0a3588c463048766b98c2df88dd9212a6774a882060cdf62d: not written by this session
import Derived.Test.YticddmmbphoioaaPModeCuresx0
import Derived.Test.YticddmmbphoioaaPModeCuresx2
namespace Go.Proofs.Yticddmmbphoioaa.PModeCures
open Go.RowKit Go.Proofs.YticddmmbphoioaaW.PrintWords Go.Proofs.YticddmmbphoioaaW.PrintLast Go.Proofs.YticddmmbphoioaaW.PrintMore
attribute [local go_sem] max2_int min2_int max_two min_two max_three min_three max_four min_four   -- for this text's walks alone
set_option linter.unusedVariables false
set_option linter.unusedSimpArgs false

/-! ### cascadelaw16_some: function 14 -/
mutual
def cascadelaw16_some.l0 : Nat → List Int → List (S23) → Int → Option ((List (S23)))
  | 0, _, _, _ => none
  | k + 1, x0, x3, x4 => if x4 < (x0.length : Int) then (cascadelaw16_some.j1 k x0 x3 x4 (decide (x4 < 20))) else (cascadelaw16_some.j1 k x0 x3 x4 false)
def cascadelaw16_some.j1 : Nat → List Int → List (S23) → Int → Bool → Option ((List (S23)))
  | 0, _, _, _, _ => none
  | k + 1, x0, x3, x4, x13 => if x13 = true then (if 0 ≤ x4 then (if x4 < (x0.length : Int) then ((cascadebook_Within.f (rd x0 x4) 0 12).bind fun t132 => (if t132 = 0 then (cascadelaw16_some.j2 k x0 x3 x4 t132 (t132 == 0) true true true true) else (cascadelaw16_some.j2 k x0 x3 x4 t132 (t132 == 1) true true true true))) else (none)) else (none)) else (some x3)
def cascadelaw16_some.j2 : Nat → List Int → List (S23) → Int → Int → Bool → Bool → Bool → Bool → Bool → Option ((List (S23)))
  | 0, _, _, _, _, _, _, _, _, _ => none
  | k + 1, x0, x3, x4, x21, x22, x131000, x131001, x131002, x131003 => if x22 = true then (if x3.length < 35184372088832 then (cascadelaw16_some.l0 k x0 (x3 ++ [(⟨false, x131001, x131002, x131003⟩ : S23)]) (wrap64 (x4 + 1))) else (none)) else (if x21 = 2 then (if x3.length < 35184372088832 then (cascadelaw16_some.l0 k x0 (x3 ++ [(⟨x131000, x131001, false, x131003⟩ : S23)]) (wrap64 (x4 + 1))) else (none)) else (if x21 = 3 then (if x3.length < 35184372088832 then (cascadelaw16_some.l0 k x0 (x3 ++ [(⟨false, x131001, x131002, false⟩ : S23)]) (wrap64 (x4 + 1))) else (none)) else (if x21 = 4 then (if x3.length < 35184372088832 then (cascadelaw16_some.l0 k x0 (x3 ++ [(⟨x131000, false, x131002, x131003⟩ : S23)]) (wrap64 (x4 + 1))) else (none)) else (if x3.length < 35184372088832 then (cascadelaw16_some.l0 k x0 (x3 ++ [(⟨x131000, x131001, x131002, x131003⟩ : S23)]) (wrap64 (x4 + 1))) else (none)))))
end
def cascadelaw16_some.f (k : Nat) (l0 : List Int) : Option ((List (S23))) := cascadelaw16_some.l0 k l0 ([] : List (S23)) 0
theorem cascadelaw16_some.mono_l : ∀ k, (∀ y0 y1 y2, LeO (cascadelaw16_some.l0 k y0 y1 y2) (cascadelaw16_some.l0 (k + 1) y0 y1 y2)) ∧ (∀ y0 y1 y2 y3, LeO (cascadelaw16_some.j1 k y0 y1 y2 y3) (cascadelaw16_some.j1 (k + 1) y0 y1 y2 y3)) ∧ (∀ y0 y1 y2 y3 y4 y5 y6 y7 y8, LeO (cascadelaw16_some.j2 k y0 y1 y2 y3 y4 y5 y6 y7 y8) (cascadelaw16_some.j2 (k + 1) y0 y1 y2 y3 y4 y5 y6 y7 y8))
  | 0 => ⟨fun _ _ _ r h => by simp [cascadelaw16_some.l0] at h, fun _ _ _ _ r h => by simp [cascadelaw16_some.j1] at h, fun _ _ _ _ _ _ _ _ _ r h => by simp [cascadelaw16_some.j2] at h⟩
  | k + 1 => by
    obtain ⟨ih0, ih1, ih2⟩ := cascadelaw16_some.mono_l k
    refine ⟨?_, ?_, ?_⟩
    · intro y0 y1 y2
      unfold cascadelaw16_some.l0
      repeat' first
      | (with_reducible exact ih0 _ _ _)
      | (with_reducible exact ih1 _ _ _ _)
      | (with_reducible exact ih2 _ _ _ _ _ _ _ _ _)
      | (with_reducible exact LeO.refl _)
      | (with_reducible exact LeO.none _)
      | (with_reducible refine LeO.ite ?_ ?_)
      | (with_reducible refine LeO.bind ?_ (fun _ => ?_))
      | exact ih0 _ _ _
      | exact ih1 _ _ _ _
      | exact ih2 _ _ _ _ _ _ _ _ _
      | exact LeO.none _
      | refine LeO.ite ?_ ?_
      | refine LeO.bind ?_ (fun _ => ?_)
    · intro y0 y1 y2 y3
      unfold cascadelaw16_some.j1
      repeat' first
      | (with_reducible exact ih0 _ _ _)
      | (with_reducible exact ih1 _ _ _ _)
      | (with_reducible exact ih2 _ _ _ _ _ _ _ _ _)
      | (with_reducible exact LeO.refl _)
      | (with_reducible exact LeO.none _)
      | (with_reducible refine LeO.ite ?_ ?_)
      | (with_reducible refine LeO.bind ?_ (fun _ => ?_))
      | exact ih0 _ _ _
      | exact ih1 _ _ _ _
      | exact ih2 _ _ _ _ _ _ _ _ _
      | exact LeO.none _
      | refine LeO.ite ?_ ?_
      | refine LeO.bind ?_ (fun _ => ?_)
    · intro y0 y1 y2 y3 y4 y5 y6 y7 y8
      unfold cascadelaw16_some.j2
      repeat' first
      | (with_reducible exact ih0 _ _ _)
      | (with_reducible exact ih1 _ _ _ _)
      | (with_reducible exact ih2 _ _ _ _ _ _ _ _ _)
      | (with_reducible exact LeO.refl _)
      | (with_reducible exact LeO.none _)
      | (with_reducible refine LeO.ite ?_ ?_)
      | (with_reducible refine LeO.bind ?_ (fun _ => ?_))
      | exact ih0 _ _ _
      | exact ih1 _ _ _ _
      | exact ih2 _ _ _ _ _ _ _ _ _
      | exact LeO.none _
      | refine LeO.ite ?_ ?_
      | refine LeO.bind ?_ (fun _ => ?_)
theorem cascadelaw16_some.mono : ∀ a0 k, LeO (cascadelaw16_some.f k a0) (cascadelaw16_some.f (k + 1) a0) := by
  intro a0 k
  obtain ⟨ih0, ih1, ih2⟩ := cascadelaw16_some.mono_l k
  unfold cascadelaw16_some.f
  repeat' first
      | (with_reducible exact ih0 _ _ _)
      | (with_reducible exact ih1 _ _ _ _)
      | (with_reducible exact ih2 _ _ _ _ _ _ _ _ _)
      | (with_reducible exact LeO.refl _)
      | (with_reducible exact LeO.none _)
      | (with_reducible refine LeO.ite ?_ ?_)
      | (with_reducible refine LeO.bind ?_ (fun _ => ?_))
      | exact ih0 _ _ _
      | exact ih1 _ _ _ _
      | exact ih2 _ _ _ _ _ _ _ _ _
      | exact LeO.none _
      | refine LeO.ite ?_ ?_
      | refine LeO.bind ?_ (fun _ => ?_)
set_option maxHeartbeats 8000000 in
set_option maxRecDepth 100000 in
theorem cascadelaw16_some.calls (k : Nat) (A0 : Option Addr) (c0 : Nat) (l0 : List Int) (r : List (S23)) (w : World) (hr0 : Kd.C (Kd.int .i64) w A0 l0.length l0) (hc0 : l0.length ≤ c0) (h : cascadelaw16_some.f k l0 = some r) :
    Calls Try.prog 14 #[.slice A0 l0.length c0] w fun e w' => ∃ v0_ : Value, e = .returned (v0_) ∧ Kd.R k23 23 w' w.heap.size (fun _ => True) v0_ r ∧ Below w.heap.size w w' := by
  have hu23 := Try.underlying23
  have HR0 := Aside0.mk hr0
  have HC0 := Aside0.mk hc0
  clear hr0 hc0
  have HB := Aside0.mk (Below.refl w.heap.size w)
  have H : (cascadelaw16_some.l0 k l0 ([] : List (S23)) 0) = some r := h
  clear h
  have H' := Aside0.mk H
  clear H
  go_enter Try.func14, Try.ntmps14
  go_wp2
  go_loopg [3, 4] k (fun kq v3 v4 w' => ∃ (x3_1 : List (S23)) (x4_1 : Int), v4 = .int .i64 x4_1 ∧ Aside0 (cascadelaw16_some.l0 kq l0 x3_1 x4_1 = some r) ∧ Aside0 (kq ≤ k) ∧ Aside0 (Kd.R k23 23 w' w.heap.size (fun _ => True) v3 x3_1) ∧ Aside0 (Below w.heap.size w w'))
  case atStart => exact ⟨(([] : List (S23))), (0), (by first | rfl | (simp; done) | (simp [*]; done)), H', ⟨Nat.le_refl _⟩, ⟨by first | exact Kd.R_nil _ _ _ _ _ | exact Kd.N_nil _ _ _ _ _ | exact Kd.V_nil _ _ _ _ _ | exact Kd.Q_nil _ _ _ _ _ | exact Kd.S_nil _ _ _ _ _⟩, ⟨by repeat (first | (with_reducible first | exact HB.out | apply below_alloc | apply pw_below_drewN | apply below_drew1) | exact HB.out)⟩⟩
  case round =>
    clear H'
    try clear c1
    obtain ⟨x3_1, x4_1, rfl, HA, HK1, HO_3, HB⟩ := hrel
    cases gk with
    | zero => exact absurd HA.out (by simp [cascadelaw16_some.l0])
    | succ k1 =>
      have H := HA.out
      clear HA
      simp only [cascadelaw16_some.l0] at H
      have HC2 := Aside0.mk H
      clear H
      go_upto_region 3 with (fail)
      go_cut [13] (fun v13 wc => ∃ (kq : Nat) (x13_1 : Bool), v13 = .bool x13_1 ∧ Aside0 (cascadelaw16_some.j1 kq l0 x3_1 x4_1 x13_1 = some r) ∧ Aside0 (kq ≤ k1) ∧ Aside0 (Kd.R k23 23 wc w.heap.size (fun _ => True) u3 x3_1) ∧ Aside0 (Below w.heap.size w wc))
      case first =>
        have H := HC2.out
        clear HC2
        by_cases c3 : x4_1 < (l0.length : Int)
        · rw [if_pos c3] at H
          have c3b0 : decide (x4_1 < (l0.length : Int)) = true := decide_eq_true c3
          clear c3
          (first | rw [c3b0] | (simp only [i64_w, i32_w]; rw [c3b0]) | skip)
          have H' := Aside0.mk H
          clear H
          go_wp2
          go_meet
          case rel => exact ⟨_, (decide (x4_1 < 20)), (by first | rfl | (simp; done) | (simp [*]; done)), H', ⟨by have := HK1.out; first | omega | exact Nat.le_refl _⟩, ⟨by (with_reducible repeat (first | apply Kd.R_alloc | apply Kd.R_drewN | apply Kd.R_drew)); exact HO_3.out⟩, ⟨by repeat (first | (with_reducible first | exact HB.out | apply below_alloc | apply pw_below_drewN | apply below_drew1) | exact HB.out)⟩⟩
        · rw [if_neg c3] at H
          have c3b0 : decide (x4_1 < (l0.length : Int)) = false := decide_eq_false c3
          clear c3
          (first | rw [c3b0] | (simp only [i64_w, i32_w]; rw [c3b0]) | skip)
          have H' := Aside0.mk H
          clear H
          go_wp2
          go_meet
          case rel => exact ⟨_, (false), (by first | rfl | (simp; done) | (simp [*]; done)), H', ⟨by have := HK1.out; first | omega | exact Nat.le_refl _⟩, ⟨by (with_reducible repeat (first | apply Kd.R_alloc | apply Kd.R_drewN | apply Kd.R_drew)); exact HO_3.out⟩, ⟨by repeat (first | (with_reducible first | exact HB.out | apply below_alloc | apply pw_below_drewN | apply below_drew1) | exact HB.out)⟩⟩
      case rest =>
        clear HC2
        try clear c1
        try clear p2
        try clear c3
        try clear c3b0
        obtain ⟨kq, x13_1, rfl, HA, HJ1, HO_3, HB⟩ := hcut
        cases kq with
        | zero => exact absurd HA.out (by simp [cascadelaw16_some.j1])
        | succ kj1 =>
          have H := HA.out
          clear HA
          simp only [cascadelaw16_some.j1] at H
          by_cases c4 : x13_1 = true
          · subst c4
            have H1 : (if 0 ≤ x4_1 then (if x4_1 < (l0.length : Int) then ((cascadebook_Within.f (rd l0 x4_1) 0 12).bind fun t132 => (if t132 = 0 then (cascadelaw16_some.j2 kj1 l0 x3_1 x4_1 t132 (t132 == 0) true true true true) else (cascadelaw16_some.j2 kj1 l0 x3_1 x4_1 t132 (t132 == 1) true true true true))) else (none)) else (none)) = some r := by rw [if_pos rfl] at H; exact H
            clear H
            have H := H1
            clear H1
            by_cases c5 : 0 ≤ x4_1
            · rw [if_pos c5] at H
              have c5b0 : decide (0 ≤ x4_1) = true := decide_eq_true c5
              clear c5
              by_cases c6 : x4_1 < (l0.length : Int)
              · rw [if_pos c6] at H
                have c6b0 : decide (x4_1 < (l0.length : Int)) = true := decide_eq_true c6
                clear c6
                replace H := Option.bind_eq_some_iff.mp H
                obtain ⟨t132, A70, H⟩ := H
                replace H : (if t132 = 0 then (cascadelaw16_some.j2 kj1 l0 x3_1 x4_1 t132 (t132 == 0) true true true true) else (cascadelaw16_some.j2 kj1 l0 x3_1 x4_1 t132 (t132 == 1) true true true true)) = some r := H
                have A7 := Aside0.mk A70
                clear A70
                have HC8 := Aside0.mk H
                clear H
                go_upto_if 22 with (first | ((with_reducible refine gate_dst (N := 5) rfl ?_); refine box_event ?hg (N := 5) ?hd (cs := #[.bool false, .bool false, .bool false, .bool false]) (t := 23) ?hr ?_; (case hd => rfl); (case hg => rfl); (case hr => first | (go_simp; done) | (go_simp; rfl)); intro gb130 hg w9 hbox hb; have n0_ := Aside0.mk (Kd.R_below (Kd.R_elderB (by (with_reducible repeat (first | apply Kd.R_alloc | apply Kd.R_drewN | apply Kd.R_drew)); exact HO_3.out) gb130 (Nat.le_of_eq hg.symm)) hb); have n1_ := Aside0.mk (below_step (by repeat (first | (with_reducible first | exact HB.out | apply below_alloc | apply pw_below_drewN | apply below_drew1) | exact HB.out)) hb); have n2_ := Aside0.mk (hbox); have n3_ := Aside0.mk ((by rw [hg]; exact (below_size (by repeat (first | (with_reducible first | exact HB.out | apply below_alloc | apply pw_below_drewN | apply below_drew1) | exact HB.out))) : w.heap.size ≤ gb130)); have n4_ := Aside0.mk ((by rw [hg]; exact (below_size (by repeat (first | (with_reducible first | exact HB.out | apply below_alloc | apply pw_below_drewN | apply below_drew1) | exact HB.out))) : w.heap.size ≤ gb130)); clear HO_3; clear HB; have HO_3 := n0_; have HB := n1_; have BK130 := n2_; have GW130 := n3_; have GE130 := n4_; clear n0_ n1_ n2_ n3_ n4_; clear hb hbox hg; have hcz10_0 : w9.cell? ⟨gb130, 0, none⟩ = some (.bool false) := (blk_cell BK130.out 0).trans rfl; have hcz10_1 : w9.cell? ⟨gb130, 1, none⟩ = some (.bool false) := (blk_cell BK130.out 1).trans rfl; have hcz10_2 : w9.cell? ⟨gb130, 2, none⟩ = some (.bool false) := (blk_cell BK130.out 2).trans rfl; have hcz10_3 : w9.cell? ⟨gb130, 3, none⟩ = some (.bool false) := (blk_cell BK130.out 3).trans rfl; have hfz10_0 := blk_frozen BK130.out 0; have hfz10_1 := blk_frozen BK130.out 1; have hfz10_2 := blk_frozen BK130.out 2; have hfz10_3 := blk_frozen BK130.out 3; have p131 : 0 ≤ (x4_1 : Int) := of_decide_eq_true (by first | (with_reducible assumption) | assumption); have q131 : x4_1 < (l0.length : Int) := of_decide_eq_true (by first | (with_reducible assumption) | assumption); obtain ⟨ad131, e131, hx131_0⟩ := Kd.at_int HR0.out x4_1 p131 q131; cases e131; have hn131_0 : ad131.block ≠ gb130 := Nat.ne_of_lt (Nat.lt_of_lt_of_le (by have := World.block_lt_of_cell? _ _ hx131_0; first | rwa [add_block] at this | exact this) GW130.out); have hn131_1 : ad131.block ≠ gb130 := Nat.ne_of_lt (Nat.lt_of_lt_of_le (by have := World.block_lt_of_cell? _ _ hx131_0; first | rwa [add_block] at this | exact this) GW130.out); have hn131_2 : ad131.block ≠ gb130 := Nat.ne_of_lt (Nat.lt_of_lt_of_le (by have := World.block_lt_of_cell? _ _ hx131_0; first | rwa [add_block] at this | exact this) GW130.out); have hn131_3 : ad131.block ≠ gb130 := Nat.ne_of_lt (Nat.lt_of_lt_of_le (by have := World.block_lt_of_cell? _ _ hx131_0; first | rwa [add_block] at this | exact this) GW130.out); replace hx131_0 := (HB.out.cell (World.block_lt_of_cell? w _ hx131_0)).trans hx131_0; replace hx131_0 := (cell_far (p := ⟨gb130, 0, none⟩) (by first | (rw [add_block]; exact hn131_0) | (show (Addr.add _ _).block ≠ _; rw [add_block]; exact hn131_0) | exact hn131_0) (.bool true)).trans hx131_0; replace hx131_0 := (cell_far (p := ⟨gb130, 1, none⟩) (by first | (rw [add_block]; exact hn131_1) | (show (Addr.add _ _).block ≠ _; rw [add_block]; exact hn131_1) | exact hn131_1) (.bool true)).trans hx131_0; replace hx131_0 := (cell_far (p := ⟨gb130, 2, none⟩) (by first | (rw [add_block]; exact hn131_2) | (show (Addr.add _ _).block ≠ _; rw [add_block]; exact hn131_2) | exact hn131_2) (.bool true)).trans hx131_0; replace hx131_0 := (cell_far (p := ⟨gb130, 3, none⟩) (by first | (rw [add_block]; exact hn131_3) | (show (Addr.add _ _).block ≠ _; rw [add_block]; exact hn131_3) | exact hn131_3) (.bool true)).trans hx131_0; clear hn131_0; clear hn131_1; clear hn131_2; clear hn131_3; replace p131 := eq_true p131; replace q131 := eq_true q131) | ((with_reducible refine gate_callee (f := 13) rfl ?_); refine goesL_ (some 21) rfl rfl Try.func13 (by kernel_rfl) rfl #[.int .i64 (rd l0 x4_1), .int .i64 0, .int .i64 12] rfl (by (try simp only [List.map_toArray, List.map_cons, List.map_nil]); first | done | rfl | (simp only [List.length_drop, List.length_take]; rfl)) ?_; (with_reducible refine (cascadebook_Within.calls (rd l0 x4_1) 0 12 t132 _ A7.out).mono ?_); rintro e w' ⟨rfl, ⟨nd, rfl⟩⟩; refine ⟨_, rfl, ?_⟩))
                (try simp only [Act.put, List.setIfInBounds_toArray, List.set_cons_zero, List.set_cons_succ])
                go_cut [22] (fun v22 wc => ∃ (kq : Nat) (x22_7 : Bool), v22 = .bool x22_7 ∧ Aside0 (cascadelaw16_some.j2 kq l0 x3_1 x4_1 t132 x22_7 true true true true = some r) ∧ Aside0 (kq ≤ kj1) ∧ Aside0 (Kd.R k23 23 wc w.heap.size (fun k_ => k_ ≠ gb130) u3 x3_1) ∧ Aside0 (wc.heap[gb130]? = some (.cells #[.bool true, .bool true, .bool true, .bool true] 23 (0, 0))) ∧ Aside0 (Below w.heap.size w wc))
                case first =>
                  have H := HC8.out
                  clear HC8
                  by_cases c11 : t132 = 0
                  · rw [if_pos c11] at H
                    have c11b0 : (t132 == 0) = true := beq_iff_eq.mpr c11
                    have c11b1 : (t132 != 0) = false := bne_eq_false_iff_eq.mpr c11
                    clear c11
                    (first | rw [c11b0] | (simp only [i64_w, i32_w]; rw [c11b0]) | skip)
                    have H' := Aside0.mk H
                    clear H
                    go_wp2
                    go_meet
                    case rel => exact ⟨_, ((t132 == 0)), (by first | rfl | (simp; done) | (simp [*]; done)), H', ⟨by have := HK1.out; have := HJ1.out; first | omega | exact Nat.le_refl _⟩, ⟨by (with_reducible repeat (first | apply Kd.R_alloc | apply Kd.R_drewN | apply Kd.R_drew)); exact Kd.R_mono (Kd.R_far (p := ⟨gb130, 3, none⟩) (Kd.R_far (p := ⟨gb130, 2, none⟩) (Kd.R_far (p := ⟨gb130, 1, none⟩) (Kd.R_far (p := ⟨gb130, 0, none⟩) (Kd.R_mono HO_3.out (fun k_ hk => (⟨hk, hk.2⟩ : _ ∧ k_ ≠ gb130))) (fun _ hk => hk.2) (.bool true)) (fun _ hk => hk.2) (.bool true)) (fun _ hk => hk.2) (.bool true)) (fun _ hk => hk.2) (.bool true)) (fun _ hk => hk.1.2)⟩, ⟨by (with_reducible repeat (first | refine blk_drewN ?_ _ | refine blk_drew ?_ | refine blk_alloc ?_ _)); refine blk_put (cs := #[.bool true, .bool true, .bool true, .bool false]) ?_ 3 _ rfl; (with_reducible repeat (first | refine blk_drewN ?_ _ | refine blk_drew ?_ | refine blk_alloc ?_ _)); refine blk_put (cs := #[.bool true, .bool true, .bool false, .bool false]) ?_ 2 _ rfl; (with_reducible repeat (first | refine blk_drewN ?_ _ | refine blk_drew ?_ | refine blk_alloc ?_ _)); refine blk_put (cs := #[.bool true, .bool false, .bool false, .bool false]) ?_ 1 _ rfl; (with_reducible repeat (first | refine blk_drewN ?_ _ | refine blk_drew ?_ | refine blk_alloc ?_ _)); refine blk_put (cs := #[.bool false, .bool false, .bool false, .bool false]) ?_ 0 _ rfl; (with_reducible repeat (first | refine blk_drewN ?_ _ | refine blk_drew ?_ | refine blk_alloc ?_ _)); exact BK130.out⟩, ⟨by repeat (first | (with_reducible first | exact HB.out | apply below_alloc | apply pw_below_drewN | apply below_drew1 | refine below_set ?_ GE130.out) | exact HB.out)⟩⟩
                  · rw [if_neg c11] at H
                    have c11b0 : (t132 == 0) = false := beq_eq_false_iff_ne.mpr c11
                    have c11b1 : (t132 != 0) = true := bne_iff_ne.mpr c11
                    (first | rw [c11b0] | (simp only [i64_w, i32_w]; rw [c11b0]) | skip)
                    have H' := Aside0.mk H
                    clear H
                    go_wp2
                    go_meet
                    case rel => exact ⟨_, ((t132 == 1)), (by first | rfl | (simp; done) | (simp [*]; done)), H', ⟨by have := HK1.out; have := HJ1.out; first | omega | exact Nat.le_refl _⟩, ⟨by (with_reducible repeat (first | apply Kd.R_alloc | apply Kd.R_drewN | apply Kd.R_drew)); exact Kd.R_mono (Kd.R_far (p := ⟨gb130, 3, none⟩) (Kd.R_far (p := ⟨gb130, 2, none⟩) (Kd.R_far (p := ⟨gb130, 1, none⟩) (Kd.R_far (p := ⟨gb130, 0, none⟩) (Kd.R_mono HO_3.out (fun k_ hk => (⟨hk, hk.2⟩ : _ ∧ k_ ≠ gb130))) (fun _ hk => hk.2) (.bool true)) (fun _ hk => hk.2) (.bool true)) (fun _ hk => hk.2) (.bool true)) (fun _ hk => hk.2) (.bool true)) (fun _ hk => hk.1.2)⟩, ⟨by (with_reducible repeat (first | refine blk_drewN ?_ _ | refine blk_drew ?_ | refine blk_alloc ?_ _)); refine blk_put (cs := #[.bool true, .bool true, .bool true, .bool false]) ?_ 3 _ rfl; (with_reducible repeat (first | refine blk_drewN ?_ _ | refine blk_drew ?_ | refine blk_alloc ?_ _)); refine blk_put (cs := #[.bool true, .bool true, .bool false, .bool false]) ?_ 2 _ rfl; (with_reducible repeat (first | refine blk_drewN ?_ _ | refine blk_drew ?_ | refine blk_alloc ?_ _)); refine blk_put (cs := #[.bool true, .bool false, .bool false, .bool false]) ?_ 1 _ rfl; (with_reducible repeat (first | refine blk_drewN ?_ _ | refine blk_drew ?_ | refine blk_alloc ?_ _)); refine blk_put (cs := #[.bool false, .bool false, .bool false, .bool false]) ?_ 0 _ rfl; (with_reducible repeat (first | refine blk_drewN ?_ _ | refine blk_drew ?_ | refine blk_alloc ?_ _)); exact BK130.out⟩, ⟨by repeat (first | (with_reducible first | exact HB.out | apply below_alloc | apply pw_below_drewN | apply below_drew1 | refine below_set ?_ GE130.out) | exact HB.out)⟩⟩
                case rest =>
                  clear HC8
                  try clear c1
                  try clear p1
                  try clear q1
                  try clear hx1
                  try clear p2
                  try clear c3
                  try clear c3b0
                  try clear c4
                  try clear c5
                  try clear c5b0
                  try clear c6
                  try clear c6b0
                  try clear c11
                  try clear c11b0
                  try clear c11b1
                  try clear hcz10_0
                  try clear hcz10_1
                  try clear hcz10_2
                  try clear hcz10_3
                  try clear hfz10_0
                  try clear hfz10_1
                  try clear hfz10_2
                  try clear hfz10_3
                  try clear hx131_0
                  try clear p131
                  try clear p2
                  try clear q131
                  obtain ⟨kq, x22_7, rfl, HA, HJ7, HO_3, BK130, HB⟩ := hcut
                  cases kq with
                  | zero => exact absurd HA.out (by simp [cascadelaw16_some.j2])
                  | succ kj7 =>
                    have H := HA.out
                    clear HA
                    simp only [cascadelaw16_some.j2] at H
                    by_cases c12 : x22_7 = true
                    · subst c12
                      have H1 : (if x3_1.length < 35184372088832 then (cascadelaw16_some.l0 kj7 l0 (x3_1 ++ [(⟨false, true, true, true⟩ : S23)]) (wrap64 (x4_1 + 1))) else (none)) = some r := by rw [if_pos rfl] at H; exact H
                      clear H
                      have H := H1
                      clear H1
                      by_cases c13 : x3_1.length < 35184372088832
                      · rw [if_pos c13] at H
                        have LMc13 := Aside0.mk c13
                        clear c13
                        obtain ⟨y133, hy133⟩ : ∃ y_ : List (S23), y_ = (x3_1 ++ [(⟨false, true, true, true⟩ : S23)]) := ⟨_, rfl⟩
                        replace H : (cascadelaw16_some.l0 kj7 l0 y133 (wrap64 (x4_1 + 1))) = some r := by first | (rw [hy133]; with_reducible exact H) | (have H2_ := (Option.bind_some _ _).symm.trans H; rw [hy133]; with_reducible exact H2_) | (have H2_ := (Option.bind_some _ _).symm.trans H; with_reducible exact H2_) | with_reducible exact H | (rw [hy133]; exact H) | exact H
                        have Ny133 := Aside0.mk hy133
                        clear hy133
                        have H' := Aside0.mk H
                        clear H
                        have hcz14_0 : wc.cell? ⟨gb130, 0, none⟩ = some (.bool true) := (blk_cell BK130.out 0).trans rfl
                        have hcz14_1 : wc.cell? ⟨gb130, 1, none⟩ = some (.bool true) := (blk_cell BK130.out 1).trans rfl
                        have hcz14_2 : wc.cell? ⟨gb130, 2, none⟩ = some (.bool true) := (blk_cell BK130.out 2).trans rfl
                        have hcz14_3 : wc.cell? ⟨gb130, 3, none⟩ = some (.bool true) := (blk_cell BK130.out 3).trans rfl
                        have hfz14_0 := blk_frozen BK130.out 0
                        have hfz14_1 := blk_frozen BK130.out 1
                        have hfz14_2 := blk_frozen BK130.out 2
                        have hfz14_3 := blk_frozen BK130.out 3
                        go_wp2_with (first | ((with_reducible refine gate_builtin (b := .append) (xs := #[.tmp 36, .tmp 38]) rfl ?_); at_builtin; refine Kd.R_append k23 (w0 := w) w.heap.size rfl (.tmp 36) (.tmp 38) 30 23 (.agg #[(.bool false), (.bool false), (.bool false), (.bool false)]) 4 rfl Try.underlying30 info23 rfl (by decide) (by omega) u3 x3_1 (⟨false, true, true, true⟩ : S23) [.bool false, .bool true, .bool true, .bool true] (fun k_ => k_ ≠ gb130) (fun _ => False) rfl (by first | (go_simp; done) | (go_simp; rfl)) ?aP (fun _ hk => hk.elim) ?aF ?aO ?aB ?aS ?aL ?_; (case aP => exact k23_mkM _ _ _ (⟨false, true, true, true⟩ : S23)); (case aB => exact (by repeat (first | (with_reducible first | exact HB.out | apply below_alloc | apply pw_below_drewN | apply below_drew1 | refine below_set ?_ GE130.out) | exact HB.out))); (case aF => exact (fun k_ hk => Kd.freshB (g := gb130) (o := .cells #[.bool false, .bool true, .bool true, .bool true] 23 (0, 0)) (by (with_reducible repeat (first | refine blk_drewN ?_ _ | refine blk_drew ?_ | refine blk_alloc ?_ _)); refine blk_put (cs := #[.bool true, .bool true, .bool true, .bool true]) ?_ 0 _ rfl; (with_reducible repeat (first | refine blk_drewN ?_ _ | refine blk_drew ?_ | refine blk_alloc ?_ _)); exact BK130.out) k_ hk)); (case aO => exact (by (with_reducible repeat (first | apply Kd.R_alloc | apply Kd.R_drewN | apply Kd.R_drew)); exact Kd.R_mono (Kd.R_far (p := ⟨gb130, 0, none⟩) (Kd.R_mono HO_3.out (fun k_ hk => (⟨hk, hk⟩ : _ ∧ k_ ≠ gb130))) (fun _ hk => hk.2) (.bool false)) (fun _ hk => hk.1))); (case aS => exact (below_size (by repeat (first | (with_reducible first | exact HB.out | apply below_alloc | apply pw_below_drewN | apply below_drew1 | refine below_set ?_ GE130.out) | exact HB.out)))); (case aL => have := LMc13.out; omega); intro v134 w15 ho hb hg hat; rw [← Ny133.out] at ho; have n0_ := Aside0.mk (blk_grown (g := gb130) (o := .cells #[.bool false, .bool true, .bool true, .bool true] 23 (0, 0)) (by (with_reducible repeat (first | refine blk_drewN ?_ _ | refine blk_drew ?_ | refine blk_alloc ?_ _)); refine blk_put (cs := #[.bool true, .bool true, .bool true, .bool true]) ?_ 0 _ rfl; (with_reducible repeat (first | refine blk_drewN ?_ _ | refine blk_drew ?_ | refine blk_alloc ?_ _)); exact BK130.out) hg (Kd.R_away HO_3.out (fun _ hk => hk))); have n1_ := Aside0.mk (hb); have n2_ := Aside0.mk (ho); clear BK130; clear HB; clear HO_3; have BK130 := n0_; have HB := n1_; have HO135 := n2_; clear n0_ n1_ n2_; clear ho hb hg hat))
                        go_roundg kj7
                        case measure => have := HK1.out; have := HJ1.out; have := HJ7.out; omega
                        case rel => exact ⟨(y133), (wrap64 (x4_1 + 1)), (by first | rfl | (simp; done) | (simp [*]; done)), H', ⟨by have := HK1.out; have := HJ1.out; have := HJ7.out; omega⟩, ⟨by (with_reducible repeat (first | apply Kd.R_alloc | apply Kd.R_drewN | apply Kd.R_drew)); exact Kd.R_mono HO135.out (fun _ hk => trivial)⟩, ⟨by repeat (first | (with_reducible first | exact HB.out | apply below_alloc | apply pw_below_drewN | apply below_drew1 | refine below_set ?_ GE130.out) | exact HB.out)⟩⟩
                      · rw [if_neg c13] at H
                        exact absurd H (by simp)
                    · replace c12 := Bool.eq_false_iff.mpr c12
                      subst c12
                      have H1 : (if t132 = 2 then (if x3_1.length < 35184372088832 then (cascadelaw16_some.l0 kj7 l0 (x3_1 ++ [(⟨true, true, false, true⟩ : S23)]) (wrap64 (x4_1 + 1))) else (none)) else (if t132 = 3 then (if x3_1.length < 35184372088832 then (cascadelaw16_some.l0 kj7 l0 (x3_1 ++ [(⟨false, true, true, false⟩ : S23)]) (wrap64 (x4_1 + 1))) else (none)) else (if t132 = 4 then (if x3_1.length < 35184372088832 then (cascadelaw16_some.l0 kj7 l0 (x3_1 ++ [(⟨true, false, true, true⟩ : S23)]) (wrap64 (x4_1 + 1))) else (none)) else (if x3_1.length < 35184372088832 then (cascadelaw16_some.l0 kj7 l0 (x3_1 ++ [(⟨true, true, true, true⟩ : S23)]) (wrap64 (x4_1 + 1))) else (none))))) = some r := by rw [if_neg (show ¬ (false = true) by decide)] at H; exact H
                      clear H
                      have H := H1
                      clear H1
                      by_cases c16 : t132 = 2
                      · rw [if_pos c16] at H
                        have c16b0 : (t132 == 2) = true := beq_iff_eq.mpr c16
                        have c16b1 : (t132 != 2) = false := bne_eq_false_iff_eq.mpr c16
                        clear c16
                        by_cases c17 : x3_1.length < 35184372088832
                        · rw [if_pos c17] at H
                          have LMc17 := Aside0.mk c17
                          clear c17
                          obtain ⟨y136, hy136⟩ : ∃ y_ : List (S23), y_ = (x3_1 ++ [(⟨true, true, false, true⟩ : S23)]) := ⟨_, rfl⟩
                          replace H : (cascadelaw16_some.l0 kj7 l0 y136 (wrap64 (x4_1 + 1))) = some r := by first | (rw [hy136]; with_reducible exact H) | (have H2_ := (Option.bind_some _ _).symm.trans H; rw [hy136]; with_reducible exact H2_) | (have H2_ := (Option.bind_some _ _).symm.trans H; with_reducible exact H2_) | with_reducible exact H | (rw [hy136]; exact H) | exact H
                          have Ny136 := Aside0.mk hy136
                          clear hy136
                          have H' := Aside0.mk H
                          clear H
                          have hcz18_0 : wc.cell? ⟨gb130, 0, none⟩ = some (.bool true) := (blk_cell BK130.out 0).trans rfl
                          have hcz18_1 : wc.cell? ⟨gb130, 1, none⟩ = some (.bool true) := (blk_cell BK130.out 1).trans rfl
                          have hcz18_2 : wc.cell? ⟨gb130, 2, none⟩ = some (.bool true) := (blk_cell BK130.out 2).trans rfl
                          have hcz18_3 : wc.cell? ⟨gb130, 3, none⟩ = some (.bool true) := (blk_cell BK130.out 3).trans rfl
                          have hfz18_0 := blk_frozen BK130.out 0
                          have hfz18_1 := blk_frozen BK130.out 1
                          have hfz18_2 := blk_frozen BK130.out 2
                          have hfz18_3 := blk_frozen BK130.out 3
                          go_wp2_with (first | ((with_reducible refine gate_builtin (b := .append) (xs := #[.tmp 36, .tmp 38]) rfl ?_); at_builtin; refine Kd.R_append k23 (w0 := w) w.heap.size rfl (.tmp 36) (.tmp 38) 30 23 (.agg #[(.bool false), (.bool false), (.bool false), (.bool false)]) 4 rfl Try.underlying30 info23 rfl (by decide) (by omega) u3 x3_1 (⟨true, true, false, true⟩ : S23) [.bool true, .bool true, .bool false, .bool true] (fun k_ => k_ ≠ gb130) (fun _ => False) rfl (by first | (go_simp; done) | (go_simp; rfl)) ?aP (fun _ hk => hk.elim) ?aF ?aO ?aB ?aS ?aL ?_; (case aP => exact k23_mkM _ _ _ (⟨true, true, false, true⟩ : S23)); (case aB => exact (by repeat (first | (with_reducible first | exact HB.out | apply below_alloc | apply pw_below_drewN | apply below_drew1 | refine below_set ?_ GE130.out) | exact HB.out))); (case aF => exact (fun k_ hk => Kd.freshB (g := gb130) (o := .cells #[.bool true, .bool true, .bool false, .bool true] 23 (0, 0)) (by (with_reducible repeat (first | refine blk_drewN ?_ _ | refine blk_drew ?_ | refine blk_alloc ?_ _)); refine blk_put (cs := #[.bool true, .bool true, .bool true, .bool true]) ?_ 2 _ rfl; (with_reducible repeat (first | refine blk_drewN ?_ _ | refine blk_drew ?_ | refine blk_alloc ?_ _)); exact BK130.out) k_ hk)); (case aO => exact (by (with_reducible repeat (first | apply Kd.R_alloc | apply Kd.R_drewN | apply Kd.R_drew)); exact Kd.R_mono (Kd.R_far (p := ⟨gb130, 2, none⟩) (Kd.R_mono HO_3.out (fun k_ hk => (⟨hk, hk⟩ : _ ∧ k_ ≠ gb130))) (fun _ hk => hk.2) (.bool false)) (fun _ hk => hk.1))); (case aS => exact (below_size (by repeat (first | (with_reducible first | exact HB.out | apply below_alloc | apply pw_below_drewN | apply below_drew1 | refine below_set ?_ GE130.out) | exact HB.out)))); (case aL => have := LMc17.out; omega); intro v137 w19 ho hb hg hat; rw [← Ny136.out] at ho; have n0_ := Aside0.mk (blk_grown (g := gb130) (o := .cells #[.bool true, .bool true, .bool false, .bool true] 23 (0, 0)) (by (with_reducible repeat (first | refine blk_drewN ?_ _ | refine blk_drew ?_ | refine blk_alloc ?_ _)); refine blk_put (cs := #[.bool true, .bool true, .bool true, .bool true]) ?_ 2 _ rfl; (with_reducible repeat (first | refine blk_drewN ?_ _ | refine blk_drew ?_ | refine blk_alloc ?_ _)); exact BK130.out) hg (Kd.R_away HO_3.out (fun _ hk => hk))); have n1_ := Aside0.mk (hb); have n2_ := Aside0.mk (ho); clear BK130; clear HB; clear HO_3; have BK130 := n0_; have HB := n1_; have HO138 := n2_; clear n0_ n1_ n2_; clear ho hb hg hat))
                          go_roundg kj7
                          case measure => have := HK1.out; have := HJ1.out; have := HJ7.out; omega
                          case rel => exact ⟨(y136), (wrap64 (x4_1 + 1)), (by first | rfl | (simp; done) | (simp [*]; done)), H', ⟨by have := HK1.out; have := HJ1.out; have := HJ7.out; omega⟩, ⟨by (with_reducible repeat (first | apply Kd.R_alloc | apply Kd.R_drewN | apply Kd.R_drew)); exact Kd.R_mono HO138.out (fun _ hk => trivial)⟩, ⟨by repeat (first | (with_reducible first | exact HB.out | apply below_alloc | apply pw_below_drewN | apply below_drew1 | refine below_set ?_ GE130.out) | exact HB.out)⟩⟩
                        · rw [if_neg c17] at H
                          exact absurd H (by simp)
                      · rw [if_neg c16] at H
                        have c16b0 : (t132 == 2) = false := beq_eq_false_iff_ne.mpr c16
                        have c16b1 : (t132 != 2) = true := bne_iff_ne.mpr c16
                        by_cases c20 : t132 = 3
                        · rw [if_pos c20] at H
                          have c20b0 : (t132 == 3) = true := beq_iff_eq.mpr c20
                          have c20b1 : (t132 != 3) = false := bne_eq_false_iff_eq.mpr c20
                          clear c20
                          by_cases c21 : x3_1.length < 35184372088832
                          · rw [if_pos c21] at H
                            have LMc21 := Aside0.mk c21
                            clear c21
                            obtain ⟨y139, hy139⟩ : ∃ y_ : List (S23), y_ = (x3_1 ++ [(⟨false, true, true, false⟩ : S23)]) := ⟨_, rfl⟩
                            replace H : (cascadelaw16_some.l0 kj7 l0 y139 (wrap64 (x4_1 + 1))) = some r := by first | (rw [hy139]; with_reducible exact H) | (have H2_ := (Option.bind_some _ _).symm.trans H; rw [hy139]; with_reducible exact H2_) | (have H2_ := (Option.bind_some _ _).symm.trans H; with_reducible exact H2_) | with_reducible exact H | (rw [hy139]; exact H) | exact H
                            have Ny139 := Aside0.mk hy139
                            clear hy139
                            have H' := Aside0.mk H
                            clear H
                            have hcz22_0 : wc.cell? ⟨gb130, 0, none⟩ = some (.bool true) := (blk_cell BK130.out 0).trans rfl
                            have hcz22_1 : wc.cell? ⟨gb130, 1, none⟩ = some (.bool true) := (blk_cell BK130.out 1).trans rfl
                            have hcz22_2 : wc.cell? ⟨gb130, 2, none⟩ = some (.bool true) := (blk_cell BK130.out 2).trans rfl
                            have hcz22_3 : wc.cell? ⟨gb130, 3, none⟩ = some (.bool true) := (blk_cell BK130.out 3).trans rfl
                            have hfz22_0 := blk_frozen BK130.out 0
                            have hfz22_1 := blk_frozen BK130.out 1
                            have hfz22_2 := blk_frozen BK130.out 2
                            have hfz22_3 := blk_frozen BK130.out 3
                            go_wp2_with (first | ((with_reducible refine gate_builtin (b := .append) (xs := #[.tmp 36, .tmp 38]) rfl ?_); at_builtin; refine Kd.R_append k23 (w0 := w) w.heap.size rfl (.tmp 36) (.tmp 38) 30 23 (.agg #[(.bool false), (.bool false), (.bool false), (.bool false)]) 4 rfl Try.underlying30 info23 rfl (by decide) (by omega) u3 x3_1 (⟨false, true, true, false⟩ : S23) [.bool false, .bool true, .bool true, .bool false] (fun k_ => k_ ≠ gb130) (fun _ => False) rfl (by first | (go_simp; done) | (go_simp; rfl)) ?aP (fun _ hk => hk.elim) ?aF ?aO ?aB ?aS ?aL ?_; (case aP => exact k23_mkM _ _ _ (⟨false, true, true, false⟩ : S23)); (case aB => exact (by repeat (first | (with_reducible first | exact HB.out | apply below_alloc | apply pw_below_drewN | apply below_drew1 | refine below_set ?_ GE130.out) | exact HB.out))); (case aF => exact (fun k_ hk => Kd.freshB (g := gb130) (o := .cells #[.bool false, .bool true, .bool true, .bool false] 23 (0, 0)) (by (with_reducible repeat (first | refine blk_drewN ?_ _ | refine blk_drew ?_ | refine blk_alloc ?_ _)); refine blk_put (cs := #[.bool true, .bool true, .bool true, .bool false]) ?_ 0 _ rfl; (with_reducible repeat (first | refine blk_drewN ?_ _ | refine blk_drew ?_ | refine blk_alloc ?_ _)); refine blk_put (cs := #[.bool true, .bool true, .bool true, .bool true]) ?_ 3 _ rfl; (with_reducible repeat (first | refine blk_drewN ?_ _ | refine blk_drew ?_ | refine blk_alloc ?_ _)); exact BK130.out) k_ hk)); (case aO => exact (by (with_reducible repeat (first | apply Kd.R_alloc | apply Kd.R_drewN | apply Kd.R_drew)); exact Kd.R_mono (Kd.R_far (p := ⟨gb130, 0, none⟩) (Kd.R_far (p := ⟨gb130, 3, none⟩) (Kd.R_mono HO_3.out (fun k_ hk => (⟨hk, hk⟩ : _ ∧ k_ ≠ gb130))) (fun _ hk => hk.2) (.bool false)) (fun _ hk => hk.2) (.bool false)) (fun _ hk => hk.1))); (case aS => exact (below_size (by repeat (first | (with_reducible first | exact HB.out | apply below_alloc | apply pw_below_drewN | apply below_drew1 | refine below_set ?_ GE130.out) | exact HB.out)))); (case aL => have := LMc21.out; omega); intro v140 w23 ho hb hg hat; rw [← Ny139.out] at ho; have n0_ := Aside0.mk (blk_grown (g := gb130) (o := .cells #[.bool false, .bool true, .bool true, .bool false] 23 (0, 0)) (by (with_reducible repeat (first | refine blk_drewN ?_ _ | refine blk_drew ?_ | refine blk_alloc ?_ _)); refine blk_put (cs := #[.bool true, .bool true, .bool true, .bool false]) ?_ 0 _ rfl; (with_reducible repeat (first | refine blk_drewN ?_ _ | refine blk_drew ?_ | refine blk_alloc ?_ _)); refine blk_put (cs := #[.bool true, .bool true, .bool true, .bool true]) ?_ 3 _ rfl; (with_reducible repeat (first | refine blk_drewN ?_ _ | refine blk_drew ?_ | refine blk_alloc ?_ _)); exact BK130.out) hg (Kd.R_away HO_3.out (fun _ hk => hk))); have n1_ := Aside0.mk (hb); have n2_ := Aside0.mk (ho); clear BK130; clear HB; clear HO_3; have BK130 := n0_; have HB := n1_; have HO141 := n2_; clear n0_ n1_ n2_; clear ho hb hg hat))
                            go_roundg kj7
                            case measure => have := HK1.out; have := HJ1.out; have := HJ7.out; omega
                            case rel => exact ⟨(y139), (wrap64 (x4_1 + 1)), (by first | rfl | (simp; done) | (simp [*]; done)), H', ⟨by have := HK1.out; have := HJ1.out; have := HJ7.out; omega⟩, ⟨by (with_reducible repeat (first | apply Kd.R_alloc | apply Kd.R_drewN | apply Kd.R_drew)); exact Kd.R_mono HO141.out (fun _ hk => trivial)⟩, ⟨by repeat (first | (with_reducible first | exact HB.out | apply below_alloc | apply pw_below_drewN | apply below_drew1 | refine below_set ?_ GE130.out) | exact HB.out)⟩⟩
                          · rw [if_neg c21] at H
                            exact absurd H (by simp)
                        · rw [if_neg c20] at H
                          have c20b0 : (t132 == 3) = false := beq_eq_false_iff_ne.mpr c20
                          have c20b1 : (t132 != 3) = true := bne_iff_ne.mpr c20
                          by_cases c24 : t132 = 4
                          · rw [if_pos c24] at H
                            have c24b0 : (t132 == 4) = true := beq_iff_eq.mpr c24
                            have c24b1 : (t132 != 4) = false := bne_eq_false_iff_eq.mpr c24
                            clear c24
                            by_cases c25 : x3_1.length < 35184372088832
                            · rw [if_pos c25] at H
                              have LMc25 := Aside0.mk c25
                              clear c25
                              obtain ⟨y142, hy142⟩ : ∃ y_ : List (S23), y_ = (x3_1 ++ [(⟨true, false, true, true⟩ : S23)]) := ⟨_, rfl⟩
                              replace H : (cascadelaw16_some.l0 kj7 l0 y142 (wrap64 (x4_1 + 1))) = some r := by first | (rw [hy142]; with_reducible exact H) | (have H2_ := (Option.bind_some _ _).symm.trans H; rw [hy142]; with_reducible exact H2_) | (have H2_ := (Option.bind_some _ _).symm.trans H; with_reducible exact H2_) | with_reducible exact H | (rw [hy142]; exact H) | exact H
                              have Ny142 := Aside0.mk hy142
                              clear hy142
                              have H' := Aside0.mk H
                              clear H
                              have hcz26_0 : wc.cell? ⟨gb130, 0, none⟩ = some (.bool true) := (blk_cell BK130.out 0).trans rfl
                              have hcz26_1 : wc.cell? ⟨gb130, 1, none⟩ = some (.bool true) := (blk_cell BK130.out 1).trans rfl
                              have hcz26_2 : wc.cell? ⟨gb130, 2, none⟩ = some (.bool true) := (blk_cell BK130.out 2).trans rfl
                              have hcz26_3 : wc.cell? ⟨gb130, 3, none⟩ = some (.bool true) := (blk_cell BK130.out 3).trans rfl
                              have hfz26_0 := blk_frozen BK130.out 0
                              have hfz26_1 := blk_frozen BK130.out 1
                              have hfz26_2 := blk_frozen BK130.out 2
                              have hfz26_3 := blk_frozen BK130.out 3
                              go_wp2_with (first | ((with_reducible refine gate_builtin (b := .append) (xs := #[.tmp 36, .tmp 38]) rfl ?_); at_builtin; refine Kd.R_append k23 (w0 := w) w.heap.size rfl (.tmp 36) (.tmp 38) 30 23 (.agg #[(.bool false), (.bool false), (.bool false), (.bool false)]) 4 rfl Try.underlying30 info23 rfl (by decide) (by omega) u3 x3_1 (⟨true, false, true, true⟩ : S23) [.bool true, .bool false, .bool true, .bool true] (fun k_ => k_ ≠ gb130) (fun _ => False) rfl (by first | (go_simp; done) | (go_simp; rfl)) ?aP (fun _ hk => hk.elim) ?aF ?aO ?aB ?aS ?aL ?_; (case aP => exact k23_mkM _ _ _ (⟨true, false, true, true⟩ : S23)); (case aB => exact (by repeat (first | (with_reducible first | exact HB.out | apply below_alloc | apply pw_below_drewN | apply below_drew1 | refine below_set ?_ GE130.out) | exact HB.out))); (case aF => exact (fun k_ hk => Kd.freshB (g := gb130) (o := .cells #[.bool true, .bool false, .bool true, .bool true] 23 (0, 0)) (by (with_reducible repeat (first | refine blk_drewN ?_ _ | refine blk_drew ?_ | refine blk_alloc ?_ _)); refine blk_put (cs := #[.bool true, .bool true, .bool true, .bool true]) ?_ 1 _ rfl; (with_reducible repeat (first | refine blk_drewN ?_ _ | refine blk_drew ?_ | refine blk_alloc ?_ _)); exact BK130.out) k_ hk)); (case aO => exact (by (with_reducible repeat (first | apply Kd.R_alloc | apply Kd.R_drewN | apply Kd.R_drew)); exact Kd.R_mono (Kd.R_far (p := ⟨gb130, 1, none⟩) (Kd.R_mono HO_3.out (fun k_ hk => (⟨hk, hk⟩ : _ ∧ k_ ≠ gb130))) (fun _ hk => hk.2) (.bool false)) (fun _ hk => hk.1))); (case aS => exact (below_size (by repeat (first | (with_reducible first | exact HB.out | apply below_alloc | apply pw_below_drewN | apply below_drew1 | refine below_set ?_ GE130.out) | exact HB.out)))); (case aL => have := LMc25.out; omega); intro v143 w27 ho hb hg hat; rw [← Ny142.out] at ho; have n0_ := Aside0.mk (blk_grown (g := gb130) (o := .cells #[.bool true, .bool false, .bool true, .bool true] 23 (0, 0)) (by (with_reducible repeat (first | refine blk_drewN ?_ _ | refine blk_drew ?_ | refine blk_alloc ?_ _)); refine blk_put (cs := #[.bool true, .bool true, .bool true, .bool true]) ?_ 1 _ rfl; (with_reducible repeat (first | refine blk_drewN ?_ _ | refine blk_drew ?_ | refine blk_alloc ?_ _)); exact BK130.out) hg (Kd.R_away HO_3.out (fun _ hk => hk))); have n1_ := Aside0.mk (hb); have n2_ := Aside0.mk (ho); clear BK130; clear HB; clear HO_3; have BK130 := n0_; have HB := n1_; have HO144 := n2_; clear n0_ n1_ n2_; clear ho hb hg hat))
                              go_roundg kj7
                              case measure => have := HK1.out; have := HJ1.out; have := HJ7.out; omega
                              case rel => exact ⟨(y142), (wrap64 (x4_1 + 1)), (by first | rfl | (simp; done) | (simp [*]; done)), H', ⟨by have := HK1.out; have := HJ1.out; have := HJ7.out; omega⟩, ⟨by (with_reducible repeat (first | apply Kd.R_alloc | apply Kd.R_drewN | apply Kd.R_drew)); exact Kd.R_mono HO144.out (fun _ hk => trivial)⟩, ⟨by repeat (first | (with_reducible first | exact HB.out | apply below_alloc | apply pw_below_drewN | apply below_drew1 | refine below_set ?_ GE130.out) | exact HB.out)⟩⟩
                            · rw [if_neg c25] at H
                              exact absurd H (by simp)
                          · rw [if_neg c24] at H
                            have c24b0 : (t132 == 4) = false := beq_eq_false_iff_ne.mpr c24
                            have c24b1 : (t132 != 4) = true := bne_iff_ne.mpr c24
                            by_cases c28 : x3_1.length < 35184372088832
                            · rw [if_pos c28] at H
                              have LMc28 := Aside0.mk c28
                              clear c28
                              obtain ⟨y145, hy145⟩ : ∃ y_ : List (S23), y_ = (x3_1 ++ [(⟨true, true, true, true⟩ : S23)]) := ⟨_, rfl⟩
                              replace H : (cascadelaw16_some.l0 kj7 l0 y145 (wrap64 (x4_1 + 1))) = some r := by first | (rw [hy145]; with_reducible exact H) | (have H2_ := (Option.bind_some _ _).symm.trans H; rw [hy145]; with_reducible exact H2_) | (have H2_ := (Option.bind_some _ _).symm.trans H; with_reducible exact H2_) | with_reducible exact H | (rw [hy145]; exact H) | exact H
                              have Ny145 := Aside0.mk hy145
                              clear hy145
                              have H' := Aside0.mk H
                              clear H
                              have hcz29_0 : wc.cell? ⟨gb130, 0, none⟩ = some (.bool true) := (blk_cell BK130.out 0).trans rfl
                              have hcz29_1 : wc.cell? ⟨gb130, 1, none⟩ = some (.bool true) := (blk_cell BK130.out 1).trans rfl
                              have hcz29_2 : wc.cell? ⟨gb130, 2, none⟩ = some (.bool true) := (blk_cell BK130.out 2).trans rfl
                              have hcz29_3 : wc.cell? ⟨gb130, 3, none⟩ = some (.bool true) := (blk_cell BK130.out 3).trans rfl
                              have hfz29_0 := blk_frozen BK130.out 0
                              have hfz29_1 := blk_frozen BK130.out 1
                              have hfz29_2 := blk_frozen BK130.out 2
                              have hfz29_3 := blk_frozen BK130.out 3
                              go_wp2_with (first | ((with_reducible refine gate_builtin (b := .append) (xs := #[.tmp 36, .tmp 38]) rfl ?_); at_builtin; refine Kd.R_append k23 (w0 := w) w.heap.size rfl (.tmp 36) (.tmp 38) 30 23 (.agg #[(.bool false), (.bool false), (.bool false), (.bool false)]) 4 rfl Try.underlying30 info23 rfl (by decide) (by omega) u3 x3_1 (⟨true, true, true, true⟩ : S23) [.bool true, .bool true, .bool true, .bool true] (fun k_ => k_ ≠ gb130) (fun _ => False) rfl rfl ?aP (fun _ hk => hk.elim) ?aF ?aO ?aB ?aS ?aL ?_; (case aP => exact k23_mkM _ _ _ (⟨true, true, true, true⟩ : S23)); (case aB => exact (by repeat (first | (with_reducible first | exact HB.out | apply below_alloc | apply pw_below_drewN | apply below_drew1 | refine below_set ?_ GE130.out) | exact HB.out))); (case aF => exact (fun k_ hk => Kd.freshB (g := gb130) (o := .cells #[.bool true, .bool true, .bool true, .bool true] 23 (0, 0)) (by (with_reducible repeat (first | refine blk_drewN ?_ _ | refine blk_drew ?_ | refine blk_alloc ?_ _)); exact BK130.out) k_ hk)); (case aO => exact (by (with_reducible repeat (first | apply Kd.R_alloc | apply Kd.R_drewN | apply Kd.R_drew)); exact HO_3.out)); (case aS => exact (below_size (by repeat (first | (with_reducible first | exact HB.out | apply below_alloc | apply pw_below_drewN | apply below_drew1 | refine below_set ?_ GE130.out) | exact HB.out)))); (case aL => have := LMc28.out; omega); intro v146 w30 ho hb hg hat; rw [← Ny145.out] at ho; have n0_ := Aside0.mk (blk_grown (g := gb130) (o := .cells #[.bool true, .bool true, .bool true, .bool true] 23 (0, 0)) (by (with_reducible repeat (first | refine blk_drewN ?_ _ | refine blk_drew ?_ | refine blk_alloc ?_ _)); exact BK130.out) hg (Kd.R_away HO_3.out (fun _ hk => hk))); have n1_ := Aside0.mk (hb); have n2_ := Aside0.mk (ho); clear BK130; clear HB; clear HO_3; have BK130 := n0_; have HB := n1_; have HO147 := n2_; clear n0_ n1_ n2_; clear ho hb hg hat))
                              go_roundg kj7
                              case measure => have := HK1.out; have := HJ1.out; have := HJ7.out; omega
                              case rel => exact ⟨(y145), (wrap64 (x4_1 + 1)), (by first | rfl | (simp; done) | (simp [*]; done)), H', ⟨by have := HK1.out; have := HJ1.out; have := HJ7.out; omega⟩, ⟨by (with_reducible repeat (first | apply Kd.R_alloc | apply Kd.R_drewN | apply Kd.R_drew)); exact Kd.R_mono HO147.out (fun _ hk => trivial)⟩, ⟨by repeat (first | (with_reducible first | exact HB.out | apply below_alloc | apply pw_below_drewN | apply below_drew1 | refine below_set ?_ GE130.out) | exact HB.out)⟩⟩
                            · rw [if_neg c28] at H
                              exact absurd H (by simp)
              · rw [if_neg c6] at H
                exact absurd H (by simp)
            · rw [if_neg c5] at H
              exact absurd H (by simp)
          · replace c4 := Bool.eq_false_iff.mpr c4
            subst c4
            have H1 : (some x3_1) = some r := by rw [if_neg (show ¬ (false = true) by decide)] at H; exact H
            clear H
            have H := H1
            clear H1
            obtain rfl := Option.some.inj H
            go_wp2
            go_ret
            exact ⟨_, by first | rfl | (simp [errW_none, errW_some] <;> rfl) | (simp [*, errW_none, errW_some] <;> rfl), by (with_reducible repeat (first | apply Kd.R_alloc | apply Kd.R_drewN | apply Kd.R_drew)); exact HO_3.out, by repeat (first | (with_reducible first | exact HB.out | apply below_alloc | apply pw_below_drewN | apply below_drew1) | exact HB.out)⟩

end Go.Proofs.Yticddmmbphoioaa.PModeCures

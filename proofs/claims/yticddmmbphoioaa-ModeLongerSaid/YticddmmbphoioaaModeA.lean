import Derived.Test.YticddmmbphoioaaOwn
import Derived.Test.YticddmmbphoioaaProg
import Derived.Laws.Rows
namespace Go.Proofs.Yticddmmbphoioaa
open Go.RowKit
set_option linter.unusedVariables false
set_option linter.unusedSimpArgs false
/-! ### A result, a state: what Fails and Next answer -/
structure Res where
  oc : Bool
  ic : Bool
  late : Bool
  loss : Bool
def failsF (r : Res) : Bool := !r.oc || !r.late || !r.loss
def nextF (s : Int × Int) (c : Int) (fl icf : Bool) : Int × Int :=
  if s.1 = 2 ∨ icf = true then (2, 0) else if fl = true then (1, 0) else if s.1 = 1 ∧ s.2 + 1 < c then (1, s.2 + 1) else (0, 0)
set_option maxHeartbeats 1000000 in
set_option maxRecDepth 100000 in
theorem fails_calls (oc ic late loss : Bool) (w : World) : Calls Try.prog 28 #[.agg #[.bool oc, .bool ic, .bool late, .bool loss]] w fun e w' => e = .returned (.bool (failsF ⟨oc, ic, late, loss⟩)) ∧ Below w.heap.size w w' := by
  have HS := Lib.hid ((Sts.nil w).add (g := w.heap.size) rfl #[.bool oc, .bool ic, .bool late, .bool loss] 23)
  go_enter Try.func28, Try.ntmps28
  go_upto_region 1 with fail
  have c0 := HS.out.cell 0 0 rfl (v := .bool oc) rfl
  have c2 := HS.out.cell 0 2 rfl (v := .bool late) rfl
  have c3 := HS.out.cell 0 3 rfl (v := .bool loss) rfl
  have hb := Lib.hid HS.out.bel
  cases oc with
  | false =>
    go_wp2_with fail
    go_ret
    exact ⟨rfl, hb.out⟩
  | true =>
    cases late with
    | false =>
      go_wp2_with fail
      go_ret
      exact ⟨rfl, hb.out⟩
    | true =>
      cases loss <;>
      · go_wp2_with fail
        go_ret
        exact ⟨rfl, hb.out⟩
theorem st_fin {w W : World} {A : List Ent} {g : Nat} {cs : Array Value} {t : TypeId} (h : Sts w (A ++ [(g, cs, t)]) W) (hc : cs.size = 2) (a b : Int) :
    Below w.heap.size w ((W.setCell ⟨g, 0, none⟩ (.int .i64 a)).setCell ⟨g, 1, none⟩ (.int .i64 b)) ∧ Blk ((W.setCell ⟨g, 0, none⟩ (.int .i64 a)).setCell ⟨g, 1, none⟩ (.int .i64 b)) g #[.int .i64 a, .int .i64 b] t := by
  have hk : (A ++ [(g, cs, t)])[A.length]? = some (g, cs, t) := by simp
  have h1 := h.set A.length 0 (.int .i64 a) hk
  have h2 := h1.set (g := g) (cs := cs.setIfInBounds 0 (.int .i64 a)) (t := t) A.length 1 (.int .i64 b) (by simp)
  refine ⟨h2.bel, ?_⟩
  have := (h2.at_ (g := g) A.length (cs := (cs.setIfInBounds 0 (.int .i64 a)).setIfInBounds 1 (.int .i64 b)) (t := t) (by simp))
  refine this.lit ?_
  clear h hk h1 h2 this
  rcases cs with ⟨l⟩
  rcases l with _ | ⟨x, _ | ⟨y, _ | ⟨z, l⟩⟩⟩ <;> simp at hc ⊢
set_option maxHeartbeats 4000000 in
set_option maxRecDepth 100000 in
theorem next_calls (m p c : Int) (oc ic late loss : Bool) (w : World) (hp0 : -1000000 ≤ p) (hp1 : p ≤ 1000000) :
    Calls Try.prog 15 #[.agg #[.int .i64 m, .int .i64 p], .int .i64 c, .agg #[.bool oc, .bool ic, .bool late, .bool loss]] w fun e w' => e = .returned (.agg #[.int .i64 (nextF (m, p) c (failsF ⟨oc, ic, late, loss⟩) (!ic)).1, .int .i64 (nextF (m, p) c (failsF ⟨oc, ic, late, loss⟩) (!ic)).2]) ∧ Below w.heap.size w w' := by
  obtain ⟨fl, hfl⟩ : ∃ fl, failsF ⟨oc, ic, late, loss⟩ = fl := ⟨_, rfl⟩
  have HF := fun W => fails_calls oc ic late loss W
  rw [hfl] at HF ⊢
  have HFL := Lib.hid HF
  clear HF hfl
  obtain ⟨⟨r1, r2⟩, hr⟩ : ∃ r, nextF (m, p) c fl (!ic) = r := ⟨_, rfl⟩
  rw [hr]
  have HR := Lib.hid hr
  clear hr
  have h1 := (Sts.nil w).add (g := w.heap.size) rfl #[.int .i64 m, .int .i64 p] 25
  have h2 := h1.add (g := w.heap.size + 1) (by unfold World.alloc; rw [Array.size_push]) #[.bool oc, .bool ic, .bool late, .bool loss] 23
  have h3 := h2.add (g := w.heap.size + 1 + 1) (by unfold World.alloc; rw [Array.size_push, Array.size_push]) #[.int .i64 0, .int .i64 0] 25
  have HS := Lib.hid h3
  clear h1 h2 h3
  go_enter Try.func15, Try.ntmps15
  go_upto_region 1 with fail
  generalize ((w.alloc (.cells #[.int .i64 m, .int .i64 p] 25)).alloc (.cells #[.bool oc, .bool ic, .bool late, .bool loss] 23)).alloc (.cells #[.int .i64 0, .int .i64 0] 25) = w3 at *
  generalize w.heap.size + 1 + 1 = g6 at *
  generalize w.heap.size + 1 = g5 at *
  generalize hg : w.heap.size = g4 at *
  have c0 := HS.out.cell 0 0 rfl (v := .int .i64 m) rfl
  have c1 := HS.out.cell 0 1 rfl (v := .int .i64 p) rfl
  have c2 := HS.out.cell 1 0 rfl (v := .bool oc) rfl
  have c3 := HS.out.cell 1 1 rfl (v := .bool ic) rfl
  have c4 := HS.out.cell 1 2 rfl (v := .bool late) rfl
  have c5 := HS.out.cell 1 3 rfl (v := .bool loss) rfl
  have d0 := HS.out.frozen 2 0 rfl
  have d1 := HS.out.frozen 2 1 rfl
  have e0 := HS.out.cell 2 0 rfl (v := .int .i64 0) rfl
  have e1 := HS.out.cell 2 1 rfl (v := .int .i64 0) rfl
  have HW := Lib.hid (Nat.le_refl w.heap.size)
  by_cases q1 : m = 2
  · subst q1
    have hx : ((2 : Int), (0 : Int)) = (r1, r2) := by rw [← HR.out]; simp [nextF]
    obtain ⟨rfl, rfl⟩ := Prod.mk.inj hx
    go_wp2_with fail
    (try simp only [Exit.inBlock, Exit.then])
    refine bodyPost_ret (results_cell_row rfl _ _ g6 _ #[.int .i64 (2), .int .i64 (0)] (0, 0) _ rfl (st_fin HS.out rfl (2) (0)).2 Try.underlying25 rfl (by kernel_rfl)) rfl ?_
    first | exact ⟨rfl, (st_fin HS.out rfl (2) (0)).1⟩ | exact ⟨rfl, by rw [← hg]; exact (st_fin HS.out rfl (2) (0)).1⟩
  have t1 : (m == 2) = false := beq_eq_false_iff_ne.2 q1
  cases ic with
  | false =>
    have hx : ((2 : Int), (0 : Int)) = (r1, r2) := by rw [← HR.out]; simp [nextF]
    obtain ⟨rfl, rfl⟩ := Prod.mk.inj hx
    go_wp2_with fail
    (try simp only [Exit.inBlock, Exit.then])
    refine bodyPost_ret (results_cell_row rfl _ _ g6 _ #[.int .i64 (2), .int .i64 (0)] (0, 0) _ rfl (st_fin HS.out rfl (2) (0)).2 Try.underlying25 rfl (by kernel_rfl)) rfl ?_
    first | exact ⟨rfl, (st_fin HS.out rfl (2) (0)).1⟩ | exact ⟨rfl, by rw [← hg]; exact (st_fin HS.out rfl (2) (0)).1⟩
  | true =>
    cases fl with
    | true =>
      have hx : ((1 : Int), (0 : Int)) = (r1, r2) := by rw [← HR.out]; simp [nextF, q1]
      obtain ⟨rfl, rfl⟩ := Prod.mk.inj hx
      go_wp2_with fail
      refine (HFL.out _).mono ?_
      rintro e w4 ⟨rfl, hb⟩
      have HS4 := Lib.hid (HS.out.below hb)
      replace c0 := HS4.out.cell 0 0 rfl (v := .int .i64 m) rfl
      replace c1 := HS4.out.cell 0 1 rfl (v := .int .i64 p) rfl
      replace d0 := HS4.out.frozen 2 0 rfl
      replace d1 := HS4.out.frozen 2 1 rfl
      replace e0 := HS4.out.cell 2 0 rfl (v := .int .i64 0) rfl
      replace e1 := HS4.out.cell 2 1 rfl (v := .int .i64 0) rfl
      clear c2 c3 c4 c5 HS hb HFL
      go_wp2_with fail
      (try simp only [Exit.inBlock, Exit.then])
      refine bodyPost_ret (results_cell_row rfl _ _ g6 _ #[.int .i64 (1), .int .i64 (0)] (0, 0) _ rfl (st_fin HS4.out rfl (1) (0)).2 Try.underlying25 rfl (by kernel_rfl)) rfl ?_
      first | exact ⟨rfl, (st_fin HS4.out rfl (1) (0)).1⟩ | exact ⟨rfl, by rw [← hg]; exact (st_fin HS4.out rfl (1) (0)).1⟩
    | false =>
      go_wp2_with fail
      refine (HFL.out _).mono ?_
      rintro e w4 ⟨rfl, hb⟩
      have HS4 := Lib.hid (HS.out.below hb)
      replace c0 := HS4.out.cell 0 0 rfl (v := .int .i64 m) rfl
      replace c1 := HS4.out.cell 0 1 rfl (v := .int .i64 p) rfl
      replace d0 := HS4.out.frozen 2 0 rfl
      replace d1 := HS4.out.frozen 2 1 rfl
      replace e0 := HS4.out.cell 2 0 rfl (v := .int .i64 0) rfl
      replace e1 := HS4.out.cell 2 1 rfl (v := .int .i64 0) rfl
      clear c2 c3 c4 c5 HS hb HFL
      by_cases q2 : m = 1
      · subst q2
        by_cases q3 : c ≤ p
        · have t3 : decide (c ≤ p) = true := decide_eq_true q3
          have hx : ((0 : Int), (0 : Int)) = (r1, r2) := by rw [← HR.out]; simp [nextF]; omega
          obtain ⟨rfl, rfl⟩ := Prod.mk.inj hx
          go_wp2_with fail
          (try simp only [Exit.inBlock, Exit.then])
          refine bodyPost_ret (results_cell_row rfl _ _ g6 _ #[.int .i64 (0), .int .i64 (0)] (0, 0) _ rfl (st_fin HS4.out rfl (0) (0)).2 Try.underlying25 rfl (by kernel_rfl)) rfl ?_
          first | exact ⟨rfl, (st_fin HS4.out rfl (0) (0)).1⟩ | exact ⟨rfl, by rw [← hg]; exact (st_fin HS4.out rfl (0) (0)).1⟩
        · have t3 : decide (c ≤ p) = false := decide_eq_false q3
          by_cases q4 : p + 1 = c
          · have t4 : (p + 1 == c) = true := beq_iff_eq.2 q4
            have hx : ((0 : Int), (0 : Int)) = (r1, r2) := by rw [← HR.out]; simp [nextF]; omega
            obtain ⟨rfl, rfl⟩ := Prod.mk.inj hx
            go_wp2_with fail
            (try simp only [Exit.inBlock, Exit.then])
            refine bodyPost_ret (results_cell_row rfl _ _ g6 _ #[.int .i64 (0), .int .i64 (0)] (0, 0) _ rfl (st_fin HS4.out rfl (0) (0)).2 Try.underlying25 rfl (by kernel_rfl)) rfl ?_
            first | exact ⟨rfl, (st_fin HS4.out rfl (0) (0)).1⟩ | exact ⟨rfl, by rw [← hg]; exact (st_fin HS4.out rfl (0) (0)).1⟩
          · have t4 : (p + 1 == c) = false := beq_eq_false_iff_ne.2 q4
            have hx : ((1 : Int), (p + 1 : Int)) = (r1, r2) := by rw [← HR.out]; simp [nextF]; omega
            obtain ⟨rfl, rfl⟩ := Prod.mk.inj hx
            go_wp2_with fail
            (try simp only [Exit.inBlock, Exit.then])
            refine bodyPost_ret (results_cell_row rfl _ _ g6 _ #[.int .i64 (1), .int .i64 (p + 1)] (0, 0) _ rfl (st_fin HS4.out rfl (1) (p + 1)).2 Try.underlying25 rfl (by kernel_rfl)) rfl ?_
            first | exact ⟨rfl, (st_fin HS4.out rfl (1) (p + 1)).1⟩ | exact ⟨rfl, by rw [← hg]; exact (st_fin HS4.out rfl (1) (p + 1)).1⟩
      · have t2 : (m != 1) = true := bne_iff_ne.2 q2
        have hx : ((0 : Int), (0 : Int)) = (r1, r2) := by rw [← HR.out]; simp [nextF, q1, q2]
        obtain ⟨rfl, rfl⟩ := Prod.mk.inj hx
        go_wp2_with fail
        (try simp only [Exit.inBlock, Exit.then])
        refine bodyPost_ret (results_cell_row rfl _ _ g6 _ #[.int .i64 (0), .int .i64 (0)] (0, 0) _ rfl (st_fin HS4.out rfl (0) (0)).2 Try.underlying25 rfl (by kernel_rfl)) rfl ?_
        first | exact ⟨rfl, (st_fin HS4.out rfl (0) (0)).1⟩ | exact ⟨rfl, by rw [← hg]; exact (st_fin HS4.out rfl (0) (0)).1⟩
set_option maxHeartbeats 4000000 in
set_option maxRecDepth 100000 in
theorem rnext_calls (m p c : Int) (fl ic : Bool) (w : World) (hp0 : -1000000 ≤ p) (hp1 : p ≤ 1000000) :
    Calls Try.prog 23 #[.agg #[.int .i64 m, .int .i64 p], .int .i64 c, .bool fl, .bool ic] w fun e w' => e = .returned (.agg #[.int .i64 (nextF (m, p) c fl ic).1, .int .i64 (nextF (m, p) c fl ic).2]) ∧ Below w.heap.size w w' := by
  obtain ⟨⟨r1, r2⟩, hr⟩ : ∃ r, nextF (m, p) c fl ic = r := ⟨_, rfl⟩
  rw [hr]
  have HR := Lib.hid hr
  clear hr
  have h1 := (Sts.nil w).add (g := w.heap.size) rfl #[.int .i64 m, .int .i64 p] 45
  have h3 := h1.add (g := w.heap.size + 1) (by unfold World.alloc; rw [Array.size_push]) #[.int .i64 0, .int .i64 0] 45
  have HS := Lib.hid h3
  clear h1 h3
  go_enter Try.func23, Try.ntmps23
  go_upto_region 1 with fail
  generalize (w.alloc (.cells #[.int .i64 m, .int .i64 p] 45)).alloc (.cells #[.int .i64 0, .int .i64 0] 45) = w3 at *
  generalize w.heap.size + 1 = g6 at *
  generalize hg : w.heap.size = g4 at *
  have c0 := HS.out.cell 0 0 rfl (v := .int .i64 m) rfl
  have c1 := HS.out.cell 0 1 rfl (v := .int .i64 p) rfl
  have d0 := HS.out.frozen 1 0 rfl
  have d1 := HS.out.frozen 1 1 rfl
  have e0 := HS.out.cell 1 0 rfl (v := .int .i64 0) rfl
  have e1 := HS.out.cell 1 1 rfl (v := .int .i64 0) rfl
  by_cases q1 : m = 2
  · subst q1
    have hx : ((2 : Int), (0 : Int)) = (r1, r2) := by rw [← HR.out]; simp [nextF]
    obtain ⟨rfl, rfl⟩ := Prod.mk.inj hx
    go_wp2_with fail
    (try simp only [Exit.inBlock, Exit.then])
    refine bodyPost_ret (results_cell_row rfl _ _ g6 _ #[.int .i64 (2), .int .i64 (0)] (0, 0) _ rfl (st_fin HS.out rfl (2) (0)).2 Try.underlying45 rfl (by kernel_rfl)) rfl ?_
    first | exact ⟨rfl, (st_fin HS.out rfl (2) (0)).1⟩ | exact ⟨rfl, by rw [← hg]; exact (st_fin HS.out rfl (2) (0)).1⟩
  have t1 : (m == 2) = false := beq_eq_false_iff_ne.2 q1
  cases ic with
  | true =>
    have hx : ((2 : Int), (0 : Int)) = (r1, r2) := by rw [← HR.out]; simp [nextF]
    obtain ⟨rfl, rfl⟩ := Prod.mk.inj hx
    go_wp2_with fail
    (try simp only [Exit.inBlock, Exit.then])
    refine bodyPost_ret (results_cell_row rfl _ _ g6 _ #[.int .i64 (2), .int .i64 (0)] (0, 0) _ rfl (st_fin HS.out rfl (2) (0)).2 Try.underlying45 rfl (by kernel_rfl)) rfl ?_
    first | exact ⟨rfl, (st_fin HS.out rfl (2) (0)).1⟩ | exact ⟨rfl, by rw [← hg]; exact (st_fin HS.out rfl (2) (0)).1⟩
  | false =>
    cases fl with
    | true =>
      have hx : ((1 : Int), (0 : Int)) = (r1, r2) := by rw [← HR.out]; simp [nextF, q1]
      obtain ⟨rfl, rfl⟩ := Prod.mk.inj hx
      go_wp2_with fail
      (try simp only [Exit.inBlock, Exit.then])
      refine bodyPost_ret (results_cell_row rfl _ _ g6 _ #[.int .i64 (1), .int .i64 (0)] (0, 0) _ rfl (st_fin HS.out rfl (1) (0)).2 Try.underlying45 rfl (by kernel_rfl)) rfl ?_
      first | exact ⟨rfl, (st_fin HS.out rfl (1) (0)).1⟩ | exact ⟨rfl, by rw [← hg]; exact (st_fin HS.out rfl (1) (0)).1⟩
    | false =>
      by_cases q2 : m = 1
      · subst q2
        by_cases q3 : c ≤ p + 1
        · have t3 : decide (c ≤ p + 1) = true := decide_eq_true q3
          have hx : ((0 : Int), (0 : Int)) = (r1, r2) := by rw [← HR.out]; simp [nextF]; omega
          obtain ⟨rfl, rfl⟩ := Prod.mk.inj hx
          go_wp2_with fail
          (try simp only [Exit.inBlock, Exit.then])
          refine bodyPost_ret (results_cell_row rfl _ _ g6 _ #[.int .i64 (0), .int .i64 (0)] (0, 0) _ rfl (st_fin HS.out rfl (0) (0)).2 Try.underlying45 rfl (by kernel_rfl)) rfl ?_
          first | exact ⟨rfl, (st_fin HS.out rfl (0) (0)).1⟩ | exact ⟨rfl, by rw [← hg]; exact (st_fin HS.out rfl (0) (0)).1⟩
        · have t3 : decide (c ≤ p + 1) = false := decide_eq_false q3
          have hx : ((1 : Int), (p + 1 : Int)) = (r1, r2) := by rw [← HR.out]; simp [nextF]; omega
          obtain ⟨rfl, rfl⟩ := Prod.mk.inj hx
          go_wp2_with fail
          (try simp only [Exit.inBlock, Exit.then])
          refine bodyPost_ret (results_cell_row rfl _ _ g6 _ #[.int .i64 (1), .int .i64 (p + 1)] (0, 0) _ rfl (st_fin HS.out rfl (1) (p + 1)).2 Try.underlying45 rfl (by kernel_rfl)) rfl ?_
          first | exact ⟨rfl, (st_fin HS.out rfl (1) (p + 1)).1⟩ | exact ⟨rfl, by rw [← hg]; exact (st_fin HS.out rfl (1) (p + 1)).1⟩
      · have t2 : (m == 1) = false := beq_eq_false_iff_ne.2 q2
        have hx : ((0 : Int), (0 : Int)) = (r1, r2) := by rw [← HR.out]; simp [nextF, q1, q2]
        obtain ⟨rfl, rfl⟩ := Prod.mk.inj hx
        go_wp2_with fail
        (try simp only [Exit.inBlock, Exit.then])
        refine bodyPost_ret (results_cell_row rfl _ _ g6 _ #[.int .i64 (0), .int .i64 (0)] (0, 0) _ rfl (st_fin HS.out rfl (0) (0)).2 Try.underlying45 rfl (by kernel_rfl)) rfl ?_
        first | exact ⟨rfl, (st_fin HS.out rfl (0) (0)).1⟩ | exact ⟨rfl, by rw [← hg]; exact (st_fin HS.out rfl (0) (0)).1⟩
end Go.Proofs.Yticddmmbphoioaa

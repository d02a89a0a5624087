import Derived.Test.YtefidbfhcpcgjaaSealNo
namespace Go.Proofs.Ytefidbfhcpcgjaa
open Go.RowKit
set_option linter.unusedVariables false
set_option linter.unusedSimpArgs false
attribute [local go_sem] bmax2 bmin2 bmax_two bmin_two bmax_three bmin_three
theorem zeros_byt (n : Nat) : Byt (List.replicate n 0) := by
  intro x hx; rw [List.mem_replicate] at hx; omega
set_option maxHeartbeats 16000000 in
set_option maxRecDepth 100000 in
theorem frameAny_walk (A1 : Option Addr) (n1 c1 : Nat) (l1 : List Int) (p seq more : Int) (w : World) (h1 : BytesIn w A1 n1 c1 l1) (hp : -9223372036854775808 ≤ p ∧ p ≤ 9223372036854775807) (hq : -9223372036854775808 ≤ seq ∧ seq ≤ 9223372036854775807) (hu : -9223372036854775808 ≤ more ∧ more ≤ 9223372036854775807) :
    Calls Try.prog 11 #[.slice A1 n1 c1, .int .i64 p, .int .i64 seq, .int .i64 more] w fun e w' => e = .returned (.bool true) ∧ Below w.heap.size w w' := by
  obtain ⟨i0, hi, hz, hs1, hs2⟩ := info_parts byte_info
  clear hu
  obtain ⟨hq0, hq1⟩ := hq
  obtain ⟨hp0, hp1⟩ := hp
  obtain ⟨m, hm⟩ : ∃ m, m = min n1 200 := ⟨_, rfl⟩
  have e1 : m ≤ n1 := by omega
  have g1 : m ≤ 200 := by omega
  have P1 := Lib.hid (h1.src.cutHi e1)
  have YF := Lib.hid (h1.byt.take m)
  have q1 := h1.le; have r1 := h1.cap
  generalize l1.take m = F at *
  have hFl := P1.out.len
  have f1 : min (n1 : Int) 200 = (m : Int) := by omega
  have f4 : (m : Int) ≤ c1 := by omega
  obtain ⟨v, hv, v1⟩ : ∃ v : Nat, within more 0 9 = v ∧ v ≤ 9 := by
    have := within_bd more (lo := 0) (hi := 9) (by omega)
    exact ⟨(within more 0 9).toNat, by omega, by omega⟩
  have HV := Lib.hid hv
  have hmk : ∀ W : World, (Instr.makeSlice 23 (.int .i64 (60000 + (1 + (v : Int)))) (.int .i64 (60000 + (1 + (v : Int))))).run Try.prog W = .ok (.slice (some ⟨W.heap.size, 0, none⟩) (60001 + v) (60001 + v)) (W.alloc (.cells (ZB (60001 + v)) 5)) := fun W => by
    have h := make_bytes (60001 + v) (by omega) W
    have e : ((60001 + v : Nat) : Int) = 60000 + (1 + (v : Int)) := by omega
    rw [e] at h; exact h
  have HMK := Lib.hid hmk
  have HFL := Lib.hid hFl
  clear hm h1 hv hmk hFl
  by_cases hlo : p < 0
  · have b0 : decide (p < 0) = true := decide_eq_true hlo
    go_enter Try.func11, Try.ntmps11
    go_upto_region 2 with (at_builtin; go_must (refine row_append rfl (.tmp 16) (.tmp 21) 23 rfl [] [] Try.underlying23 hi hz hs1 hs2 rfl (by omega) (Row.empty w.heap.size 5 1) ((Sts.nil w).add rfl _ _) rfl rfl (P1.out.alloc _) (bs_one _) (by omega) (by omega) ?_); rintro R6 a6 k6 w6 hR6 hS6; simp only [Nat.zero_add, List.nil_append, List.append_nil] at hR6 hS6 ⊢)
    have PO := Lib.hid (hR6.src0 hS6)
    have B1 := Lib.hid hS6.bel
    have hle := hR6.le
    have hcp := hR6.cap_le
    clear hR6 hS6 P1
    go_wp2_with fail
    refine (open_out a6 m k6 p _ (by omega) (.inl hlo)).mono ?_
    rintro e w7 ⟨R7, a7, c7, m7, rfl, hR7, hS7⟩
    have hm7 : m7 = 0 := by have := hR7.length; simpa [bs] using this.symm
    subst hm7
    have PT := Lib.hid (PO.out.below hS7.bel)
    have BT := Lib.hid (bel_then B1.out hS7.bel B1.out.size)
    clear hR7 hS7 PO B1
    go_wp2_with fail

    refine (within_calls more 0 9 _ (by omega) (by omega) (by omega)).mono ?_
    rw [HV.out]
    rintro e w' ⟨rfl, rfl⟩
    have hmk := HMK.out
    go_wp2_with fail
    clear hmk
    refine (seal_none 1 _ _ _ _ (.inr (.inr (by omega))) (by omega)).mono ?_
    rintro e w12 ⟨rfl, hw12⟩
    have PZ := Lib.hid (show Src w12 _ _ 1 (bs (List.replicate _ 0)) from hw12 ▸ src_made rfl)
    have BZ := Lib.hid (show Below _ _ w12 from hw12 ▸ bel_alloc BT.out _)
    have PT2 := Lib.hid (show Src w12 a6 m 1 (bs F) from hw12 ▸ PT.out.alloc _)
    clear hw12 PT BT
    have PZ2 := Lib.hid (PZ.out.cutHi (k := 60000) (by omega))
    have YZ := Lib.hid ((zeros_byt (60001 + v)).take 60000)
    clear PZ
    go_wp2_with fail
    refine (seal_is PZ2.out YZ.out (by omega) (by omega) (by omega)).mono ?_
    rintro e w13 ⟨a13, c13, rfl, hb13⟩
    have PT3 := Lib.hid (PT2.out.below hb13)
    have BZ3 := Lib.hid (bel_then BZ.out hb13 BZ.out.size)
    clear hb13 PZ2 YZ PT2 BZ
    go_wp2_with fail
    refine (seal_none (-(1 + (v : Int))) _ _ _ _ (.inl (by omega)) (by omega)).mono ?_
    rintro e w' ⟨rfl, rfl⟩
    go_wp2_with fail
    refine (seal_none (4294967295 + (1 + (v : Int))) _ _ _ _ (.inr (.inl (by omega))) (by omega)).mono ?_
    rintro e w' ⟨rfl, rfl⟩
    go_wp2_with fail
    by_cases d0 : 0 ≤ seq
    · have t0 : decide (0 ≤ seq) = true := decide_eq_true d0
      by_cases d1 : seq < 4294967296
      · have t1 : decide (seq < 4294967296) = true := decide_eq_true d1
        refine (seal_is PT3.out YF.out (by omega) d0 (by omega)).mono ?_
        rintro e w14 ⟨a14, c14, rfl, hb14⟩
        have B14 := Lib.hid (bel_then BZ3.out hb14 BZ3.out.size)
        have t2 : decide (0 < ((m + 10 : Nat) : Int)) = true := decide_eq_true (by omega)
        clear hb14
        go_wp2_with fail
        refine (frameRuns_b B14.out).mono ?_
        rintro e w15 ⟨rfl, hb15⟩
        have B15 := Lib.hid hb15
        clear hb15
        go_wp2
        go_ret
        exact ⟨rfl, B15.out⟩
      · have t1 : decide (seq < 4294967296) = false := decide_eq_false d1
        refine (seal_none seq _ _ _ _ (.inr (.inl (by omega))) (by omega)).mono ?_
        rintro e w' ⟨rfl, rfl⟩
        go_wp2_with fail
        refine (frameRuns_b BZ3.out).mono ?_
        rintro e w15 ⟨rfl, hb15⟩
        have B15 := Lib.hid hb15
        clear hb15
        go_wp2
        go_ret
        exact ⟨rfl, B15.out⟩
    · have t0 : decide (0 ≤ seq) = false := decide_eq_false d0
      refine (seal_none seq _ _ _ _ (.inl (by omega)) (by omega)).mono ?_
      rintro e w' ⟨rfl, rfl⟩
      go_wp2_with fail
      refine (frameRuns_b BZ3.out).mono ?_
      rintro e w15 ⟨rfl, hb15⟩
      have B15 := Lib.hid hb15
      clear hb15
      go_wp2
      go_ret
      exact ⟨rfl, B15.out⟩
  · have b0 : decide (p < 0) = false := decide_eq_false hlo
    by_cases hhi : (m : Int) < p
    · have b1 : decide ((m : Int) < p) = true := decide_eq_true hhi
      go_enter Try.func11, Try.ntmps11
      go_upto_region 2 with (at_builtin; go_must (refine row_append rfl (.tmp 16) (.tmp 21) 23 rfl [] [] Try.underlying23 hi hz hs1 hs2 rfl (by omega) (Row.empty w.heap.size 5 1) ((Sts.nil w).add rfl _ _) rfl rfl (P1.out.alloc _) (bs_one _) (by omega) (by omega) ?_); rintro R6 a6 k6 w6 hR6 hS6; simp only [Nat.zero_add, List.nil_append, List.append_nil] at hR6 hS6 ⊢)
      have PO := Lib.hid (hR6.src0 hS6)
      have B1 := Lib.hid hS6.bel
      have hle := hR6.le
      have hcp := hR6.cap_le
      clear hR6 hS6 P1
      go_wp2_with fail
      refine (open_out a6 m k6 p _ (by omega) (.inr hhi)).mono ?_
      rintro e w7 ⟨R7, a7, c7, m7, rfl, hR7, hS7⟩
      have hm7 : m7 = 0 := by have := hR7.length; simpa [bs] using this.symm
      subst hm7
      have PT := Lib.hid (PO.out.below hS7.bel)
      have BT := Lib.hid (bel_then B1.out hS7.bel B1.out.size)
      clear hR7 hS7 PO B1
      go_wp2_with fail

      refine (within_calls more 0 9 _ (by omega) (by omega) (by omega)).mono ?_
      rw [HV.out]
      rintro e w' ⟨rfl, rfl⟩
      have hmk := HMK.out
      go_wp2_with fail
      clear hmk
      refine (seal_none 1 _ _ _ _ (.inr (.inr (by omega))) (by omega)).mono ?_
      rintro e w12 ⟨rfl, hw12⟩
      have PZ := Lib.hid (show Src w12 _ _ 1 (bs (List.replicate _ 0)) from hw12 ▸ src_made rfl)
      have BZ := Lib.hid (show Below _ _ w12 from hw12 ▸ bel_alloc BT.out _)
      have PT2 := Lib.hid (show Src w12 a6 m 1 (bs F) from hw12 ▸ PT.out.alloc _)
      clear hw12 PT BT
      have PZ2 := Lib.hid (PZ.out.cutHi (k := 60000) (by omega))
      have YZ := Lib.hid ((zeros_byt (60001 + v)).take 60000)
      clear PZ
      go_wp2_with fail
      refine (seal_is PZ2.out YZ.out (by omega) (by omega) (by omega)).mono ?_
      rintro e w13 ⟨a13, c13, rfl, hb13⟩
      have PT3 := Lib.hid (PT2.out.below hb13)
      have BZ3 := Lib.hid (bel_then BZ.out hb13 BZ.out.size)
      clear hb13 PZ2 YZ PT2 BZ
      go_wp2_with fail
      refine (seal_none (-(1 + (v : Int))) _ _ _ _ (.inl (by omega)) (by omega)).mono ?_
      rintro e w' ⟨rfl, rfl⟩
      go_wp2_with fail
      refine (seal_none (4294967295 + (1 + (v : Int))) _ _ _ _ (.inr (.inl (by omega))) (by omega)).mono ?_
      rintro e w' ⟨rfl, rfl⟩
      go_wp2_with fail
      by_cases d0 : 0 ≤ seq
      · have t0 : decide (0 ≤ seq) = true := decide_eq_true d0
        by_cases d1 : seq < 4294967296
        · have t1 : decide (seq < 4294967296) = true := decide_eq_true d1
          refine (seal_is PT3.out YF.out (by omega) d0 (by omega)).mono ?_
          rintro e w14 ⟨a14, c14, rfl, hb14⟩
          have B14 := Lib.hid (bel_then BZ3.out hb14 BZ3.out.size)
          have t2 : decide (0 < ((m + 10 : Nat) : Int)) = true := decide_eq_true (by omega)
          clear hb14
          go_wp2_with fail
          refine (frameRuns_b B14.out).mono ?_
          rintro e w15 ⟨rfl, hb15⟩
          have B15 := Lib.hid hb15
          clear hb15
          go_wp2
          go_ret
          exact ⟨rfl, B15.out⟩
        · have t1 : decide (seq < 4294967296) = false := decide_eq_false d1
          refine (seal_none seq _ _ _ _ (.inr (.inl (by omega))) (by omega)).mono ?_
          rintro e w' ⟨rfl, rfl⟩
          go_wp2_with fail
          refine (frameRuns_b BZ3.out).mono ?_
          rintro e w15 ⟨rfl, hb15⟩
          have B15 := Lib.hid hb15
          clear hb15
          go_wp2
          go_ret
          exact ⟨rfl, B15.out⟩
      · have t0 : decide (0 ≤ seq) = false := decide_eq_false d0
        refine (seal_none seq _ _ _ _ (.inl (by omega)) (by omega)).mono ?_
        rintro e w' ⟨rfl, rfl⟩
        go_wp2_with fail
        refine (frameRuns_b BZ3.out).mono ?_
        rintro e w15 ⟨rfl, hb15⟩
        have B15 := Lib.hid hb15
        clear hb15
        go_wp2
        go_ret
        exact ⟨rfl, B15.out⟩
    · have b1 : decide ((m : Int) < p) = false := decide_eq_false hhi
      obtain ⟨P, rfl⟩ := Int.eq_ofNat_of_zero_le (show 0 ≤ p by omega)
      have hP : P ≤ m := by omega
      by_cases hw : (openL F P).2.2.2 = 0
      · obtain ⟨⟨x, s, nx, how⟩, hr⟩ : ∃ r, openL F P = r := ⟨_, rfl⟩
        rw [hr] at hw
        obtain rfl : how = 0 := hw
        obtain ⟨xn, hx, hx1, rfl, hx3, s0, s1, hx4, hx5⟩ := open_whole YF.out hr
        rw [HFL.out] at hx3
        have HR := Lib.hid hr
        have HX := Lib.hid hx
        have YX := Lib.hid hx4
        have HX5 := Lib.hid hx5
        have b2 : decide ((P : Int) + xn + 10 < P) = false := decide_eq_false (by omega)
        have b3 : decide ((m : Int) < (P : Int) + xn + 10) = false := decide_eq_false (by omega)
        clear hr hx hx4 hx5 b0
        go_enter Try.func11, Try.ntmps11
        go_upto_region 2 with (at_builtin; go_must (refine row_append rfl (.tmp 16) (.tmp 21) 23 rfl [] [] Try.underlying23 hi hz hs1 hs2 rfl (by omega) (Row.empty w.heap.size 5 1) ((Sts.nil w).add rfl _ _) rfl rfl (P1.out.alloc _) (bs_one _) (by omega) (by omega) ?_); rintro R6 a6 k6 w6 hR6 hS6; simp only [Nat.zero_add, List.nil_append, List.append_nil] at hR6 hS6 ⊢)
        have PO := Lib.hid (hR6.src0 hS6)
        have B1 := Lib.hid hS6.bel
        have hle := hR6.le
        have hcp := hR6.cap_le
        clear hR6 hS6 P1
        go_wp2_with fail
        refine (open_is PO.out hle hcp YF.out (by omega) hP _ _ _ _ HR.out).mono ?_
        rintro e w7 ⟨a7, c7, m7, rfl, hP7, hb7, hm7, hmc7, hcc7⟩
        rw [HX.out] at hm7
        subst hm7
        have PT := Lib.hid (PO.out.below hb7)
        have BT := Lib.hid (bel_then B1.out hb7 B1.out.size)
        have PX := Lib.hid hP7
        have SL := Lib.hid (show Src w7 (Option.map (fun y => y.add P) a6) (m7 + 10) 1 (bs (sealL s x)) from by
          rw [HX5.out]; exact ((PO.out.below hb7).low hP).cutHi (by omega))
        clear hP7 hb7 PO B1
        go_upto_region 7 with fail
        go_cut [62] (fun v wc => v = .bool false ∧ Hid (Below w7.heap.size w7 wc))
        case first =>
          have i1 : (0 : Int) ≤ (P : Int) := by omega
          have i2 : (P : Int) ≤ (P : Int) + m7 + 10 := by omega
          have i3 : (P : Int) + m7 + 10 ≤ (k6 : Int) := by omega
          have i4 : ((P : Int) + m7 + 10).toNat = P + m7 + 10 := by omega
          have i5 : P + m7 + 10 - P = m7 + 10 := by omega
          have i6 : P + m7 + 10 ≤ k6 := by omega
          go_region_held3 (fun w' => True) (trivial) (first
            | (go_at_call 19; refine (seal_any PX.out.drew YX.out (by omega) s0 (by omega)).mono ?_; rintro e w9 ⟨a9, c9, rfl, hP9, hb9, hc9, hcc9⟩)
            | (go_at_call 18; refine (same_yes (sealL s x) (sealL s x) hP9 (SL.out.drew.below hb9) (by omega) (by omega) rfl).mono ?_; rintro e w10 ⟨rfl, n10, hw10⟩))
          all_goals
            subst hw10
            have BX : Hid (Below w7.heap.size w7 (w9.drewN n10)) := Lib.hid (bel_drewN (bel_then (Below.refl w7.heap.size w7).drew hb9 (Nat.le_refl _)) _)
            clear hP9 hb9
            go_wp2_with fail
            go_meet
            exact ⟨rfl, BX⟩
        case rest =>
          obtain ⟨rfl, hbc⟩ := hcut
          have PT := Lib.hid (PT.out.below hbc.out)
          have BT := Lib.hid (bel_then BT.out hbc.out BT.out.size)
          clear hbc
          go_wp2_with fail
          refine (within_calls more 0 9 _ (by omega) (by omega) (by omega)).mono ?_
          rw [HV.out]
          rintro e w' ⟨rfl, rfl⟩
          have hmk := HMK.out
          go_wp2_with fail
          clear hmk
          refine (seal_none 1 _ _ _ _ (.inr (.inr (by omega))) (by omega)).mono ?_
          rintro e w12 ⟨rfl, hw12⟩
          have PZ := Lib.hid (show Src w12 _ _ 1 (bs (List.replicate _ 0)) from hw12 ▸ src_made rfl)
          have BZ := Lib.hid (show Below _ _ w12 from hw12 ▸ bel_alloc BT.out _)
          have PT2 := Lib.hid (show Src w12 a6 m 1 (bs F) from hw12 ▸ PT.out.alloc _)
          clear hw12 PT BT
          have PZ2 := Lib.hid (PZ.out.cutHi (k := 60000) (by omega))
          have YZ := Lib.hid ((zeros_byt (60001 + v)).take 60000)
          clear PZ
          go_wp2_with fail
          refine (seal_is PZ2.out YZ.out (by omega) (by omega) (by omega)).mono ?_
          rintro e w13 ⟨a13, c13, rfl, hb13⟩
          have PT3 := Lib.hid (PT2.out.below hb13)
          have BZ3 := Lib.hid (bel_then BZ.out hb13 BZ.out.size)
          clear hb13 PZ2 YZ PT2 BZ
          go_wp2_with fail
          refine (seal_none (-(1 + (v : Int))) _ _ _ _ (.inl (by omega)) (by omega)).mono ?_
          rintro e w' ⟨rfl, rfl⟩
          go_wp2_with fail
          refine (seal_none (4294967295 + (1 + (v : Int))) _ _ _ _ (.inr (.inl (by omega))) (by omega)).mono ?_
          rintro e w' ⟨rfl, rfl⟩
          go_wp2_with fail
          by_cases d0 : 0 ≤ seq
          · have t0 : decide (0 ≤ seq) = true := decide_eq_true d0
            by_cases d1 : seq < 4294967296
            · have t1 : decide (seq < 4294967296) = true := decide_eq_true d1
              refine (seal_is PT3.out YF.out (by omega) d0 (by omega)).mono ?_
              rintro e w14 ⟨a14, c14, rfl, hb14⟩
              have B14 := Lib.hid (bel_then BZ3.out hb14 BZ3.out.size)
              have t2 : decide (0 < ((m + 10 : Nat) : Int)) = true := decide_eq_true (by omega)
              clear hb14
              go_wp2_with fail
              refine (frameRuns_b B14.out).mono ?_
              rintro e w15 ⟨rfl, hb15⟩
              have B15 := Lib.hid hb15
              clear hb15
              go_wp2
              go_ret
              exact ⟨rfl, B15.out⟩
            · have t1 : decide (seq < 4294967296) = false := decide_eq_false d1
              refine (seal_none seq _ _ _ _ (.inr (.inl (by omega))) (by omega)).mono ?_
              rintro e w' ⟨rfl, rfl⟩
              go_wp2_with fail
              refine (frameRuns_b BZ3.out).mono ?_
              rintro e w15 ⟨rfl, hb15⟩
              have B15 := Lib.hid hb15
              clear hb15
              go_wp2
              go_ret
              exact ⟨rfl, B15.out⟩
          · have t0 : decide (0 ≤ seq) = false := decide_eq_false d0
            refine (seal_none seq _ _ _ _ (.inl (by omega)) (by omega)).mono ?_
            rintro e w' ⟨rfl, rfl⟩
            go_wp2_with fail
            refine (frameRuns_b BZ3.out).mono ?_
            rintro e w15 ⟨rfl, hb15⟩
            have B15 := Lib.hid hb15
            clear hb15
            go_wp2
            go_ret
            exact ⟨rfl, B15.out⟩
      · rcases open_not hw with hr | hr
        · have HR := Lib.hid hr
          clear hr hw b0
          go_enter Try.func11, Try.ntmps11
          go_upto_region 2 with (at_builtin; go_must (refine row_append rfl (.tmp 16) (.tmp 21) 23 rfl [] [] Try.underlying23 hi hz hs1 hs2 rfl (by omega) (Row.empty w.heap.size 5 1) ((Sts.nil w).add rfl _ _) rfl rfl (P1.out.alloc _) (bs_one _) (by omega) (by omega) ?_); rintro R6 a6 k6 w6 hR6 hS6; simp only [Nat.zero_add, List.nil_append, List.append_nil] at hR6 hS6 ⊢)
          have PO := Lib.hid (hR6.src0 hS6)
          have B1 := Lib.hid hS6.bel
          have hle := hR6.le
          have hcp := hR6.cap_le
          clear hR6 hS6 P1
          go_wp2_with fail
          refine (open_is PO.out hle hcp YF.out (by omega) hP _ _ _ _ HR.out).mono ?_
          rintro e w7 ⟨a7, c7, m7, rfl, hP7, hb7, hm7, hmc7, hcc7⟩
          obtain rfl : m7 = 0 := hm7
          have PT := Lib.hid (PO.out.below hb7)
          have BT := Lib.hid (bel_then B1.out hb7 B1.out.size)
          clear hP7 hb7 PO B1
          go_wp2_with fail

          refine (within_calls more 0 9 _ (by omega) (by omega) (by omega)).mono ?_
          rw [HV.out]
          rintro e w' ⟨rfl, rfl⟩
          have hmk := HMK.out
          go_wp2_with fail
          clear hmk
          refine (seal_none 1 _ _ _ _ (.inr (.inr (by omega))) (by omega)).mono ?_
          rintro e w12 ⟨rfl, hw12⟩
          have PZ := Lib.hid (show Src w12 _ _ 1 (bs (List.replicate _ 0)) from hw12 ▸ src_made rfl)
          have BZ := Lib.hid (show Below _ _ w12 from hw12 ▸ bel_alloc BT.out _)
          have PT2 := Lib.hid (show Src w12 a6 m 1 (bs F) from hw12 ▸ PT.out.alloc _)
          clear hw12 PT BT
          have PZ2 := Lib.hid (PZ.out.cutHi (k := 60000) (by omega))
          have YZ := Lib.hid ((zeros_byt (60001 + v)).take 60000)
          clear PZ
          go_wp2_with fail
          refine (seal_is PZ2.out YZ.out (by omega) (by omega) (by omega)).mono ?_
          rintro e w13 ⟨a13, c13, rfl, hb13⟩
          have PT3 := Lib.hid (PT2.out.below hb13)
          have BZ3 := Lib.hid (bel_then BZ.out hb13 BZ.out.size)
          clear hb13 PZ2 YZ PT2 BZ
          go_wp2_with fail
          refine (seal_none (-(1 + (v : Int))) _ _ _ _ (.inl (by omega)) (by omega)).mono ?_
          rintro e w' ⟨rfl, rfl⟩
          go_wp2_with fail
          refine (seal_none (4294967295 + (1 + (v : Int))) _ _ _ _ (.inr (.inl (by omega))) (by omega)).mono ?_
          rintro e w' ⟨rfl, rfl⟩
          go_wp2_with fail
          by_cases d0 : 0 ≤ seq
          · have t0 : decide (0 ≤ seq) = true := decide_eq_true d0
            by_cases d1 : seq < 4294967296
            · have t1 : decide (seq < 4294967296) = true := decide_eq_true d1
              refine (seal_is PT3.out YF.out (by omega) d0 (by omega)).mono ?_
              rintro e w14 ⟨a14, c14, rfl, hb14⟩
              have B14 := Lib.hid (bel_then BZ3.out hb14 BZ3.out.size)
              have t2 : decide (0 < ((m + 10 : Nat) : Int)) = true := decide_eq_true (by omega)
              clear hb14
              go_wp2_with fail
              refine (frameRuns_b B14.out).mono ?_
              rintro e w15 ⟨rfl, hb15⟩
              have B15 := Lib.hid hb15
              clear hb15
              go_wp2
              go_ret
              exact ⟨rfl, B15.out⟩
            · have t1 : decide (seq < 4294967296) = false := decide_eq_false d1
              refine (seal_none seq _ _ _ _ (.inr (.inl (by omega))) (by omega)).mono ?_
              rintro e w' ⟨rfl, rfl⟩
              go_wp2_with fail
              refine (frameRuns_b BZ3.out).mono ?_
              rintro e w15 ⟨rfl, hb15⟩
              have B15 := Lib.hid hb15
              clear hb15
              go_wp2
              go_ret
              exact ⟨rfl, B15.out⟩
          · have t0 : decide (0 ≤ seq) = false := decide_eq_false d0
            refine (seal_none seq _ _ _ _ (.inl (by omega)) (by omega)).mono ?_
            rintro e w' ⟨rfl, rfl⟩
            go_wp2_with fail
            refine (frameRuns_b BZ3.out).mono ?_
            rintro e w15 ⟨rfl, hb15⟩
            have B15 := Lib.hid hb15
            clear hb15
            go_wp2
            go_ret
            exact ⟨rfl, B15.out⟩
        · have HR := Lib.hid hr
          clear hr hw b0
          go_enter Try.func11, Try.ntmps11
          go_upto_region 2 with (at_builtin; go_must (refine row_append rfl (.tmp 16) (.tmp 21) 23 rfl [] [] Try.underlying23 hi hz hs1 hs2 rfl (by omega) (Row.empty w.heap.size 5 1) ((Sts.nil w).add rfl _ _) rfl rfl (P1.out.alloc _) (bs_one _) (by omega) (by omega) ?_); rintro R6 a6 k6 w6 hR6 hS6; simp only [Nat.zero_add, List.nil_append, List.append_nil] at hR6 hS6 ⊢)
          have PO := Lib.hid (hR6.src0 hS6)
          have B1 := Lib.hid hS6.bel
          have hle := hR6.le
          have hcp := hR6.cap_le
          clear hR6 hS6 P1
          go_wp2_with fail
          refine (open_is PO.out hle hcp YF.out (by omega) hP _ _ _ _ HR.out).mono ?_
          rintro e w7 ⟨a7, c7, m7, rfl, hP7, hb7, hm7, hmc7, hcc7⟩
          obtain rfl : m7 = 0 := hm7
          have PT := Lib.hid (PO.out.below hb7)
          have BT := Lib.hid (bel_then B1.out hb7 B1.out.size)
          clear hP7 hb7 PO B1
          go_wp2_with fail

          refine (within_calls more 0 9 _ (by omega) (by omega) (by omega)).mono ?_
          rw [HV.out]
          rintro e w' ⟨rfl, rfl⟩
          have hmk := HMK.out
          go_wp2_with fail
          clear hmk
          refine (seal_none 1 _ _ _ _ (.inr (.inr (by omega))) (by omega)).mono ?_
          rintro e w12 ⟨rfl, hw12⟩
          have PZ := Lib.hid (show Src w12 _ _ 1 (bs (List.replicate _ 0)) from hw12 ▸ src_made rfl)
          have BZ := Lib.hid (show Below _ _ w12 from hw12 ▸ bel_alloc BT.out _)
          have PT2 := Lib.hid (show Src w12 a6 m 1 (bs F) from hw12 ▸ PT.out.alloc _)
          clear hw12 PT BT
          have PZ2 := Lib.hid (PZ.out.cutHi (k := 60000) (by omega))
          have YZ := Lib.hid ((zeros_byt (60001 + v)).take 60000)
          clear PZ
          go_wp2_with fail
          refine (seal_is PZ2.out YZ.out (by omega) (by omega) (by omega)).mono ?_
          rintro e w13 ⟨a13, c13, rfl, hb13⟩
          have PT3 := Lib.hid (PT2.out.below hb13)
          have BZ3 := Lib.hid (bel_then BZ.out hb13 BZ.out.size)
          clear hb13 PZ2 YZ PT2 BZ
          go_wp2_with fail
          refine (seal_none (-(1 + (v : Int))) _ _ _ _ (.inl (by omega)) (by omega)).mono ?_
          rintro e w' ⟨rfl, rfl⟩
          go_wp2_with fail
          refine (seal_none (4294967295 + (1 + (v : Int))) _ _ _ _ (.inr (.inl (by omega))) (by omega)).mono ?_
          rintro e w' ⟨rfl, rfl⟩
          go_wp2_with fail
          by_cases d0 : 0 ≤ seq
          · have t0 : decide (0 ≤ seq) = true := decide_eq_true d0
            by_cases d1 : seq < 4294967296
            · have t1 : decide (seq < 4294967296) = true := decide_eq_true d1
              refine (seal_is PT3.out YF.out (by omega) d0 (by omega)).mono ?_
              rintro e w14 ⟨a14, c14, rfl, hb14⟩
              have B14 := Lib.hid (bel_then BZ3.out hb14 BZ3.out.size)
              have t2 : decide (0 < ((m + 10 : Nat) : Int)) = true := decide_eq_true (by omega)
              clear hb14
              go_wp2_with fail
              refine (frameRuns_b B14.out).mono ?_
              rintro e w15 ⟨rfl, hb15⟩
              have B15 := Lib.hid hb15
              clear hb15
              go_wp2
              go_ret
              exact ⟨rfl, B15.out⟩
            · have t1 : decide (seq < 4294967296) = false := decide_eq_false d1
              refine (seal_none seq _ _ _ _ (.inr (.inl (by omega))) (by omega)).mono ?_
              rintro e w' ⟨rfl, rfl⟩
              go_wp2_with fail
              refine (frameRuns_b BZ3.out).mono ?_
              rintro e w15 ⟨rfl, hb15⟩
              have B15 := Lib.hid hb15
              clear hb15
              go_wp2
              go_ret
              exact ⟨rfl, B15.out⟩
          · have t0 : decide (0 ≤ seq) = false := decide_eq_false d0
            refine (seal_none seq _ _ _ _ (.inl (by omega)) (by omega)).mono ?_
            rintro e w' ⟨rfl, rfl⟩
            go_wp2_with fail
            refine (frameRuns_b BZ3.out).mono ?_
            rintro e w15 ⟨rfl, hb15⟩
            have B15 := Lib.hid hb15
            clear hb15
            go_wp2
            go_ret
            exact ⟨rfl, B15.out⟩
end Go.Proofs.Ytefidbfhcpcgjaa


import Derived.Test.YtefidbfhcpcgjaaRoomy
import Derived.Deep.DeepMust
namespace Go.Proofs.Ytefidbfhcpcgjaa
open Go.RowKit
set_option linter.unusedVariables false
set_option linter.unusedSimpArgs false
attribute [local go_sem] bmax2 bmin2 bmax_two bmin_two bmax_three bmin_three
theorem open_is {b : List Int} {A : Option Addr} {n cap p : Nat} {w : World} (hs : Src w A n 1 (bs b)) (hc : n ≤ cap) (hc2 : cap ≤ 9223372036854775807) (hb : Byt b) (hn : n ≤ 100000) (h1 : p ≤ n) (x : List Int) (s nx how : Int) (h : openL b p = (x, s, nx, how)) :
    Calls Try.prog 35 #[.slice A n cap, .int .i64 p] w fun e w' => ∃ a c m, e = .returned (.tuple #[.slice a m c, .int .i64 s, .int .i64 nx, .int .i64 how]) ∧ Src w' a m 1 (bs x) ∧ Below w.heap.size w w' ∧ m = x.length ∧ m ≤ c ∧ c ≤ 9223372036854775807 := by
  refine (open_calls b A n cap p w hs hc hc2 hb hn h1).mono ?_
  rintro e w' ⟨R, a, c, m, rfl, hR, hS⟩
  rw [h] at hR ⊢
  exact ⟨a, c, m, rfl, hR.src0 hS, hS.bel, (hR.src0 hS).len.symm, hR.le, hR.cap_le⟩
set_option maxHeartbeats 8000000 in
set_option maxRecDepth 100000 in
theorem frameBack_walk (A1 : Option Addr) (n1 c1 : Nat) (l1 : List Int) (A2 : Option Addr) (n2 c2 : Nat) (l2 : List Int) (A3 : Option Addr) (n3 c3 : Nat) (l3 : List Int) (seq cut : Int) (w : World) (h1 : BytesIn w A1 n1 c1 l1) (h2 : BytesIn w A2 n2 c2 l2) (h3 : BytesIn w A3 n3 c3 l3)
    (hq : -9223372036854775808 ≤ seq ∧ seq ≤ 9223372036854775807) (hu : -9223372036854775808 ≤ cut ∧ cut ≤ 9223372036854775807) :
    Calls Try.prog 9 #[.slice A1 n1 c1, .slice A2 n2 c2, .slice A3 n3 c3, .int .i64 seq, .int .i64 cut] w fun e w' => e = .returned (.bool true) ∧ Below w.heap.size w w' := by
  obtain ⟨i0, hi, hz, hs1, hs2⟩ := info_parts byte_info
  clear hq hu
  obtain ⟨m1, hm1⟩ : ∃ m, m = min n1 300 := ⟨_, rfl⟩
  obtain ⟨m2, hm2⟩ : ∃ m, m = min n2 20 := ⟨_, rfl⟩
  obtain ⟨m3, hm3⟩ : ∃ m, m = min n3 20 := ⟨_, rfl⟩
  have e1 : m1 ≤ n1 := by omega
  have e2 : m2 ≤ n2 := by omega
  have e3 : m3 ≤ n3 := by omega
  have g1 : m1 ≤ 300 := by omega
  have g2 : m2 ≤ 20 := by omega
  have g3 : m3 ≤ 20 := by omega
  have P1 := Lib.hid (h1.src.cutHi e1)
  have P2 := Lib.hid (h2.src.cutHi e2)
  have P3 := Lib.hid (h3.src.cutHi e3)
  have Y1 := Lib.hid (h1.byt.take m1)
  have Y2 := Lib.hid (h2.byt.take m2)
  have Y3 := Lib.hid (h3.byt.take m3)
  have q1 := h1.le; have r1 := h1.cap; have q2 := h2.le; have r2 := h2.cap; have q3 := h3.le; have r3 := h3.cap
  generalize l1.take m1 = t at *
  generalize l2.take m2 = a at *
  generalize l3.take m3 = z at *
  have f1 : min (n1 : Int) 300 = (m1 : Int) := by omega
  have f2 : min (n2 : Int) 20 = (m2 : Int) := by omega
  have f3 : min (n3 : Int) 20 = (m3 : Int) := by omega
  have f4 : (m1 : Int) ≤ c1 := by omega
  have f5 : (m2 : Int) ≤ c2 := by omega
  have f6 : (m3 : Int) ≤ c3 := by omega
  obtain ⟨k, hk⟩ : ∃ k, within seq 0 4294967295 = k := ⟨_, rfl⟩
  obtain ⟨k0, k1⟩ : 0 ≤ k ∧ k ≤ 4294967295 := by rw [← hk]; exact within_bd seq (by omega)
  have HK := Lib.hid hk
  clear hm1 hm2 hm3 h1 h2 h3 hk
  go_enter Try.func9, Try.ntmps9
  go_wp2_with fail
  refine (within_calls seq 0 4294967295 _ (by omega) (by omega) (by omega)).mono ?_
  rw [HK.out]
  rintro e w' ⟨rfl, rfl⟩
  go_wp2_with fail
  refine (seal_calls k t A1 m1 c1 _ P1.out Y1.out (by omega) k0 k1).mono ?_
  rintro e w1 ⟨Rf, Af, cf, rfl, hRf, hSf⟩
  have PF := Lib.hid (hRf.src0 hSf)
  have cf1 := hRf.le
  have cf2 := hRf.cap_le
  have Q1 := Lib.hid (P1.out.below hSf.bel)
  have Q2 := Lib.hid (P2.out.below hSf.bel)
  have Q3 := Lib.hid (P3.out.below hSf.bel)
  have B1 := Lib.hid hSf.bel
  clear P1 P2 P3 hRf hSf
  have b0 : (((m1 + 10 : Nat) : Int) != (m1 : Int) + 10) = false := by rw [bne_eq_false_iff_eq]; omega
  go_upto_region 7 with fail
  go_cut [15] (fun v wc => ∃ (a5 : Option Addr) (k5 : Nat), v = .slice a5 (m2 + (m1 + 10) + m3) k5 ∧ Hid (Src wc a5 (m2 + (m1 + 10) + m3) 1 (bs (a ++ (sealL k t ++ z)))) ∧ Hid (Below w1.heap.size w1 wc))
  case first =>
    have HSE := Lib.hid (((Sts.nil w1).add (g := w1.heap.size) rfl #[] 5).drew)
    have i3 : (0 : Int) ≤ (m3 : Int) := by omega
    go_region_law (first
        | (refine step_row_append (by rfl) (.tmp 49) (.tmp 50) 23 (by rfl) [] [] Try.underlying23 hi hz hs1 hs2 (by rfl) (by omega) (Row.empty _ _ _) HSE.out (by rfl) (by rfl) (Q2.out.alloc _).drew (bs_one _) (by omega) (by omega) ?_; rintro R3 a3 k3 w3 hR3 hS3; simp only [Nat.zero_add, List.nil_append] at hR3 hS3 ⊢)
        | (refine step_row_append (by rfl) (.tmp 51) (.tmp 52) 23 (by rfl) [] [] Try.underlying23 hi hz hs1 hs2 (by rfl) (by omega) hR3 hS3 (by rfl) (by rfl) (PF.out.below hS3.bel) (bs_one _) (by omega) (by omega) ?_; rintro R4 a4 k4 w4 hR4 hS4; simp only [List.nil_append] at hS4)
        | (refine step_row_append (by rfl) (.tmp 53) (.tmp 58) 23 (by rfl) [] [] Try.underlying23 hi hz hs1 hs2 (by rfl) (by omega) hR4 hS4 (by rfl) (by rfl) (Q3.out.below hS4.bel) (bs_one _) (by omega) (by omega) ?_; rintro R5 a5 k5 w5 hR5 hS5; simp only [List.nil_append] at hS5))
    all_goals
      have hR6 : Row R5 5 1 a5 (m2 + (m1 + 10) + m3) k5 (bs (a ++ (sealL k t ++ z))) := by rw [bs_app, bs_app, ← List.append_assoc]; exact hR5
      have PX := Lib.hid (hR6.srcIn hS5 fun _ h => List.mem_append_left _ h)
      have BX := Lib.hid hS5.bel
      clear hR3 hS3 hR4 hS4 hR5 hS5 hR6
      go_wp2_with fail
      go_meet
      exact ⟨a5, k5, rfl, PX, BX⟩
  case rest =>
    obtain ⟨aF, kF, rfl, PA, BA⟩ := hcut
    have Q1' := Lib.hid (Q1.out.below BA.out)
    have Q2' := Lib.hid (Q2.out.below BA.out)
    have PF' := Lib.hid (PF.out.below BA.out)
    have B2 := Lib.hid (bel_then B1.out BA.out B1.out.size)
    have hal := Q2.out.len
    clear Q1 Q2 Q3 PF B1 BA f1 f2 f3 f4 f5 f6
    have YF := Lib.hid (Y2.out.app ((seal_byt k Y1.out).app Y3.out))
    have hopen : openL (a ++ (sealL k t ++ z)) m2 = (t, k, (m2 : Int) + (m1 + 10), 0) := by
      have := open_seal k t a z Y1.out (by rw [Q1'.out.len]; omega) k0 (by omega)
      rw [hal] at this
      rw [this, Q1'.out.len]
      congr 3
    have hcut : ∀ c : Nat, c < m1 + 10 → openL (a ++ (sealL k t).take c) m2 = ([], 0, 0, 1) := by
      intro c hc
      have := open_cut k t a c (by rw [Q1'.out.len]; omega) (by rw [Q1'.out.len]; exact hc)
      rw [hal] at this; exact this
    have HOP := Lib.hid hopen
    have HCT := Lib.hid hcut
    have HAL := Lib.hid hal
    have HTL := Lib.hid Q1'.out.len
    clear hopen hcut hal
    generalize hF : a ++ (sealL k t ++ z) = F at *
    generalize hN : m2 + (m1 + 10) + m3 = N at *
    have hN1 : N ≤ 400 := by omega
    have hN2 : m2 ≤ N := by omega
    clear hF hN
    go_wp2_with fail
    refine (roomy_calls aF N kF F 7 _ PA.out (by omega)).mono ?_
    rintro e w2 ⟨R2, aR, kR, rfl, hR2, hS2⟩
    have PR := Lib.hid (hR2.src0 hS2)
    have hkR := hR2.le
    have hkR2 := hR2.cap_le
    have PA2 := Lib.hid (PA.out.below hS2.bel)
    have Q12 := Lib.hid (Q1'.out.below hS2.bel)
    have Q22 := Lib.hid (Q2'.out.below hS2.bel)
    have PF2 := Lib.hid (PF'.out.below hS2.bel)
    have B3 := Lib.hid (bel_then B2.out hS2.bel B2.out.size)
    have PRF := Lib.hid (show Src w2 aR N 1 (bs F) from by
      have h := (hR2.src0 hS2).cutHi (k := N) (by omega)
      rwa [← PA.out.len, room_take, PA.out.len] at h)
    clear hR2 hS2 PA Q1' Q2' PF' B2
    go_wp2_with fail
    refine (open_is PRF.out (by omega) hkR2 YF.out (by omega) (by omega) _ _ _ _ HOP.out).mono ?_
    rintro e w3 ⟨ax, cx, mx, rfl, hPx, hBx, hmx, hmc, hcc⟩
    have PX := Lib.hid hPx
    have PA3 := Lib.hid (PA2.out.below hBx)
    have PR3 := Lib.hid (PR.out.below hBx)
    have Q13 := Lib.hid (Q12.out.below hBx)
    have Q23 := Lib.hid (Q22.out.below hBx)
    have PF3 := Lib.hid (PF2.out.below hBx)
    have B4 := Lib.hid (bel_then B3.out hBx B3.out.size)
    rw [HTL.out] at hmx
    subst hmx
    clear hPx hBx PRF PA2 PR Q12 Q22 PF2 B3
    go_upto_region 10 with fail
    go_wp2_with (at_builtin; go_must (refine row_append rfl (.tmp 75) (.tmp 76) 23 rfl [] [] Try.underlying23 hi hz hs1 hs2 rfl (by omega) (Row.empty w3.heap.size 5 1) ((Sts.nil w3).add rfl _ _) rfl rfl (Q23.out.alloc _) (bs_one _) (by omega) (by omega) ?_); rintro R6 a6 k6 w6 hR6 hS6; simp only [Nat.zero_add, List.nil_append] at hR6 hS6 ⊢)
    obtain ⟨cc, hcc1, hcc2⟩ : ∃ cc : Nat, within cut 0 ((mx : Int) + 10 - 1) = cc ∧ cc ≤ mx + 9 := by
      have := within_bd cut (lo := 0) (hi := (mx : Int) + 10 - 1) (by omega)
      exact ⟨(within cut 0 ((mx : Int) + 10 - 1)).toNat, by omega, by omega⟩
    have HCC := Lib.hid hcc1
    clear hcc1
    refine (within_calls cut 0 ((mx : Int) + 10 - 1) _ (by omega) (by omega) (by omega)).mono ?_
    rw [HCC.out]
    rintro e w' ⟨rfl, rfl⟩
    go_wp2_with (at_builtin; go_must (refine row_append rfl (.tmp 77) (.tmp 84) 23 rfl [] [] Try.underlying23 hi hz hs1 hs2 rfl (by omega) hR6 hS6 rfl rfl ((PF3.out.cutHi (k := cc) (by omega)).below hS6.bel) (bs_one _) (by omega) (by omega) ?_); rintro R7 a7 k7 w7 hR7 hS7; simp only [List.nil_append] at hS7)
    have hR8 : Row R7 5 1 a7 (m2 + cc) k7 (bs (a ++ (sealL k t).take cc)) := by rw [bs_app]; exact hR7
    have PC := hR8.srcIn hS7 fun _ h => List.mem_append_left _ h
    have PA4 := Lib.hid (PA3.out.below hS7.bel)
    have PR4 := Lib.hid (PR3.out.below hS7.bel)
    have PX4 := Lib.hid (PX.out.below hS7.bel)
    have Q14 := Lib.hid (Q13.out.below hS7.bel)
    have B5 := Lib.hid (bel_then B4.out hS7.bel B4.out.size)
    have hle7 := hR8.le
    have hcp7 := hR8.cap_le
    have YC := Lib.hid (Y2.out.app ((seal_byt k Y1.out).take cc))
    have PC4 := Lib.hid PC
    have HCT2 := Lib.hid (HCT.out cc (by omega))
    clear hR6 hS6 hR7 hS7 hR8 PC PA3 PR3 PX Q13 Q23 PF3 B4 HCT
    refine (open_is PC4.out hle7 hcp7 YC.out (by omega) (by omega) _ _ _ _ HCT2.out).mono ?_
    rintro e w8 ⟨ay, cy, my, rfl, hPy, hBy, hmy, hmyc, hcyc⟩
    have PA5 := Lib.hid (PA4.out.below hBy)
    have PR5 := Lib.hid (PR4.out.below hBy)
    have PX5 := Lib.hid (PX4.out.below hBy)
    have Q15 := Lib.hid (Q14.out.below hBy)
    have B6 := Lib.hid (bel_then B5.out hBy B5.out.size)
    clear hPy hBy hmy hmyc hcyc PA4 PR4 PX4 Q14 B5 PC4
    go_wp2_with fail
    go_loop [25, 95] (fun s i => ∃ (j : Nat) (v : Int), j ≤ mx ∧ i = .int .i64 j ∧ s = .int .i64 v ∧ 0 ≤ v ∧ v ≤ 65535 ∧ Hid (v = sm (t.take j))) (fun _ i => mx - (intOf i).toNat)
    case atStart => exact ⟨0, 0, Nat.zero_le _, rfl, rfl, by omega, by omega, Lib.hid (by simp [sm])⟩
    case round =>
      obtain ⟨j, v, hj, rfl, rfl, v0, v1, HV⟩ := hrel
      by_cases hlt : j < mx
      · obtain ⟨ad, rfl, hcell⟩ := Q15.out.byte hlt
        obtain ⟨y0, y1⟩ := Y1.out.at_ (k := j) (by rw [HTL.out]; exact hlt)
        have hsn := sum_take t j (by rw [HTL.out]; exact hlt)
        generalize t.getD j 0 = y at hcell y0 y1 hsn
        have hv : bits .and .i64 (v + y) 65535 = sm (t.take (j + 1)) := by rw [i64_and65535 _ (by omega) (by omega), HV.out, sm, sm, hsn]; omega
        have HV2 := Lib.hid hv
        obtain ⟨z0, z1⟩ := sm_bd (t.take (j + 1))
        clear hsn hv
        go_wp2
        go_round
        case rel => exact ⟨j + 1, sm (t.take (j + 1)), by omega, by go_num, by rw [HV2.out], z0, by omega, Lib.hid rfl⟩
        case measure => simp [intOf]; omega
      · obtain rfl : j = mx := by omega
        have hv : v = sm t := by rw [HV.out, List.take_of_length_le (by rw [HTL.out]; exact Nat.le_refl _)]
        have HV2 := Lib.hid hv
        have b1 : (k == k) = true := by simp
        have b2 : ((m2 : Int) + ((j : Int) + 10) == (m2 : Int) + ((j : Int) + 10)) = true := by simp
        have b3 : (v == v) = true := by simp
        clear hv
        go_wp2_with fail
        refine (same_yes t t PX5.out Q15.out (by omega) (by omega) rfl).mono ?_
        rintro e w9 ⟨rfl, n9, hw9⟩
        have PA6 := Lib.hid (PA5.out.drewE hw9)
        have PR6 := Lib.hid (PR5.out.drewE hw9)
        have Q16 := Lib.hid (Q15.out.drewE hw9)
        have B7 : Hid (Below w.heap.size w w9) := Lib.hid (by rw [hw9]; exact bel_drewN B6.out _)
        clear hw9 PA5 PR5 PX5 Q15 B6
        go_wp2_with fail
        refine (fsum_is t Q16.out Y1.out (by omega) HV2.out.symm).mono ?_
        rintro e w' ⟨rfl, rfl⟩
        go_wp2_with fail
        refine (intact_yes _ _ N kR kF F 7 _ PR6.out PA6.out hkR (by omega)).mono ?_
        rintro e w10 ⟨rfl, n10, hw10⟩
        have B8 : Hid (Below w.heap.size w w10) := Lib.hid (by rw [hw10]; exact bel_drewN B7.out _)
        clear hw10
        go_wp2_with fail
        refine (frameRuns_b B8.out).mono ?_
        rintro e w11 ⟨rfl, hb11⟩
        have B9 := Lib.hid hb11
        clear hb11
        go_wp2
        go_ret
        exact ⟨rfl, B9.out⟩
end Go.Proofs.Ytefidbfhcpcgjaa

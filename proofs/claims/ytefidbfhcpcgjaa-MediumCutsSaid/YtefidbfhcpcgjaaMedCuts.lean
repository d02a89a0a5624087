import Derived.Test.YtefidbfhcpcgjaaMedSpoil
import Derived.Test.YtefidbfhcpcgjaaMedKeeps
namespace Go.Proofs.Ytefidbfhcpcgjaa
open Go.RowKit
set_option linter.unusedVariables false
set_option linter.unusedSimpArgs false
attribute [local go_sem] bmax2 bmin2 bmax_two bmin_two bmax_three bmin_three
def rep (y : List Int) (j : Nat) : List Int := (List.replicate j y).flatten
theorem rep_succ (y : List Int) (j : Nat) : rep y (j + 1) = rep y j ++ y := by unfold rep; rw [List.replicate_succ', List.flatten_append]; simp
theorem rep_len (y : List Int) (j : Nat) : (rep y j).length = j * y.length := by
  induction j with
  | zero => simp [rep]
  | succ j ih => rw [rep_succ, List.length_append, ih, Nat.add_mul]; omega
theorem rep_byt {y : List Int} (h : Byt y) (j : Nat) : Byt (rep y j) := by
  induction j with
  | zero => exact Byt.nil
  | succ j ih => rw [rep_succ]; exact ih.app h
/-- The medium behind j Appends, where n may go. -/
def mst (xk y : List Int) (k n j : Nat) : Med := ⟨xk ++ rep y (min j n), k, decide (n < j), ((n - min j n : Nat) : Int), true⟩
theorem mst_step (xk y : List Int) (k n j : Nat) : (mst xk y k n j).append y = (if j < n then 0 else 7, mst xk y k n (j + 1)) := by
  unfold mst Med.append Med.goes
  by_cases h1 : j < n
  · have e1 : min j n = j := by omega
    have e2 : min (j + 1) n = j + 1 := by omega
    have e3 : ¬ (((n - j : Nat) : Int) = 0) := by omega
    simp only [e1, e2, if_pos h1]
    rw [decide_eq_false (show ¬ n < j by omega), decide_eq_false (show ¬ n < j + 1 by omega)]
    simp only [Bool.false_eq_true, if_false, if_true, if_neg e3]
    rw [rep_succ, List.append_assoc]
    congr 2; omega
  · by_cases h2 : j = n
    · subst h2
      have e2 : min (j + 1) j = j := by omega
      simp [e2]
    · have e1 : min j n = n := by omega
      have e2 : min (j + 1) n = n := by omega
      simp only [e1, e2, if_neg h1]
      rw [decide_eq_true (show n < j by omega), decide_eq_true (show n < j + 1 by omega)]
      simp
theorem mst_ok {xk y : List Int} {k n : Nat} (hx : Byt xk) (hy : Byt y) (hk : xk.length = k) (hk1 : k ≤ 50) (hyl : y.length ≤ 50) (hn : n ≤ 9) (j : Nat) : (mst xk y k n j).Ok := by
  have hr := rep_len y (min j n)
  have hm : min j n * y.length ≤ 9 * 50 := Nat.mul_le_mul (by omega) hyl
  refine ⟨hx.app (rep_byt hy _), ?_, ?_, ?_, ?_, fun _ => ?_⟩
  · show (xk ++ rep y (min j n)).length ≤ _; rw [List.length_append, hr, hk]; omega
  · show k ≤ (xk ++ rep y (min j n)).length; rw [List.length_append, hk]; omega
  · show _ ≤ ((n - min j n : Nat) : Int); omega
  · show ((n - min j n : Nat) : Int) ≤ _; omega
  · show 0 ≤ ((n - min j n : Nat) : Int); omega
set_option maxHeartbeats 8000000 in
set_option maxRecDepth 100000 in
theorem mediumCuts_walk (A1 : Option Addr) (n1 c1 : Nat) (l1 : List Int) (A2 : Option Addr) (n2 c2 : Nat) (l2 : List Int) (pos fuse : Int) (w : World) (h1 : BytesIn w A1 n1 c1 l1) (h2 : BytesIn w A2 n2 c2 l2) (hp : -9223372036854775808 ≤ pos ∧ pos ≤ 9223372036854775807) (hf : -9223372036854775808 ≤ fuse ∧ fuse ≤ 9223372036854775807) :
    Calls Try.prog 7 #[.slice A1 n1 c1, .slice A2 n2 c2, .int .i64 pos, .int .i64 fuse] w fun e w' => e = .returned (.bool true) ∧ Below w.heap.size w w' := by
  obtain ⟨i0, hi, hz, hs1, hs2⟩ := info_parts byte_info
  clear hp hf
  obtain ⟨m1, hm1⟩ : ∃ m, m = min n1 50 := ⟨_, rfl⟩
  obtain ⟨m2, hm2⟩ : ∃ m, m = min n2 50 := ⟨_, rfl⟩
  have e1 : m1 ≤ n1 := by omega
  have e2 : m2 ≤ n2 := by omega
  have g1 : m1 ≤ 50 := by omega
  have g2 : m2 ≤ 50 := by omega
  have P1 := Lib.hid (h1.src.cutHi e1)
  have P2 := Lib.hid (h2.src.cutHi e2)
  have Y1 := Lib.hid (h1.byt.take m1)
  have Y2 := Lib.hid (h2.byt.take m2)
  have q1 := h1.le; have r1 := h1.cap; have q2 := h2.le; have r2 := h2.cap
  generalize l1.take m1 = x at *
  generalize l2.take m2 = y at *
  have f1 : min (n1 : Int) 50 = (m1 : Int) := by omega
  have f2 : min (n2 : Int) 50 = (m2 : Int) := by omega
  have f4 : (m1 : Int) ≤ c1 := by omega
  have f5 : (m2 : Int) ≤ c2 := by omega
  have f7 : (0 : Int) ≤ m1 := by omega
  have f8 : (0 : Int) ≤ m2 := by omega
  have L1 := Lib.hid P1.out.len
  have L2 := Lib.hid P2.out.len
  obtain ⟨k, hk, hkm⟩ : ∃ c : Nat, within pos 0 (m1 : Int) = c ∧ c ≤ m1 := by
    have := within_bd pos (lo := 0) (hi := (m1 : Int)) (by omega)
    exact ⟨(within pos 0 (m1 : Int)).toNat, by omega, by omega⟩
  obtain ⟨n, hn, hn9⟩ : ∃ c : Nat, within fuse 0 9 = c ∧ c ≤ 9 := by
    have := within_bd fuse (lo := 0) (hi := 9) (by omega)
    exact ⟨(within fuse 0 9).toNat, by omega, by omega⟩
  have HK := Lib.hid hk
  have HN := Lib.hid hn
  clear hm1 hm2 h1 h2 hk hn
  have HS0 := Lib.hid (Sts.nil w)
  go_enter Try.func7, Try.ntmps7
  go_wp2_with fail
  refine (medNew_calls (w0 := w) (A := []) (B := []) HS0.out).mono ?_
  rintro e w1 ⟨g, rfl, hm⟩
  have M1 := Lib.hid hm
  clear hm HS0
  go_upto_region 4 with fail
  go_quiet (fail)
  have M1 := Lib.hid (M1.out.drewN nq)
  clear f1 f2 f4 f5 f7 f8
  generalize w1.drewN nq = w2 at *
  go_wp2_with fail
  refine (within_calls pos 0 m1 _ (by omega) (by omega) (by omega)).mono ?_
  rw [HK.out]
  rintro e w' ⟨rfl, rfl⟩
  go_wp2_with fail
  refine (append_is (l := x) (s' := ⟨x, 0, false, 0, false⟩) (v := 0) M1.out m0_ok (P1.out.below M1.out.bel) (P1.out.apart M1.out) (by show 0 + _ ≤ _; omega) rfl).mono ?_
  rintro e w3 ⟨rfl, hm⟩
  have M2 := Lib.hid hm
  have ok2 : Med.Ok ⟨x, 0, false, 0, false⟩ := m0_ok.append Y1.out (by show 0 + _ ≤ _; rw [L1.out]; omega)
  clear hm M1
  go_wp2_with fail
  refine (cut_is ((m1 : Int) + 1) (v := 1) M2.out ok2 (by unfold Med.cut; rw [if_pos (.inr (by simp only [L1.out]; omega))])).mono ?_
  rintro e w4 ⟨rfl, hm⟩
  have M3 := Lib.hid hm
  clear hm M2
  go_wp2_with fail
  refine (cut_is (-1) (v := 1) M3.out ok2 (by unfold Med.cut; rw [if_pos (.inl (by omega))])).mono ?_
  rintro e w5 ⟨rfl, hm⟩
  have M4 := Lib.hid hm
  clear hm M3
  go_wp2_with fail
  refine (cut_is (k : Int) (v := 0) (s' := ⟨x.take k, k, false, 0, false⟩) M4.out ok2 (by unfold Med.cut; rw [if_neg (by simp only [L1.out]; omega)]; rfl)).mono ?_
  rintro e w6 ⟨rfl, hm⟩
  have M5 := Lib.hid hm
  clear hm M4 ok2
  have b0 : ((k : Int) != k) = false := by simp
  go_wp2_with fail
  refine (firm_is M5.out (n := (k : Int)) rfl).mono ?_
  rintro e w' ⟨rfl, rfl⟩
  go_wp2_with fail
  refine (within_calls fuse 0 9 _ (by omega) (by omega) (by omega)).mono ?_
  rw [HN.out]
  rintro e w' ⟨rfl, rfl⟩
  go_wp2_with fail
  refine (medArm_calls (n : Int) M5.out).mono ?_
  rintro e w7 ⟨rfl, hm⟩
  have YK := Lib.hid (Y1.out.take k)
  have LK : (x.take k).length = k := by rw [List.length_take, L1.out]; omega
  have hm0 : Med.arm ⟨x.take k, k, false, 0, false⟩ (n : Int) = mst (x.take k) y k n 0 := by
    have e0 : min 0 n = 0 := by omega
    simp [Med.arm, mst, rep]
  rw [hm0] at hm
  have OK := Lib.hid (fun j => mst_ok YK.out Y2.out LK (by omega) (by rw [L2.out]; exact g2) hn9 j)
  have STEP := Lib.hid (fun j => mst_step (x.take k) y k n j)
  have M6 := Lib.hid hm
  have LK := Lib.hid LK
  clear hm hm0 M5
  go_wp2_with fail
  go_loopw [14, 67] (fun v14 v67 wx => ∃ (j : Nat), j ≤ 12 ∧ v67 = .int .i64 j ∧ v14 = .int .i64 ((min j n : Nat) : Int) ∧ Hid (MedAt w [] [] g (mst (x.take k) y k n j) wx)) (fun _ v67 _ => 12 - (intOf v67).toNat)
  case atStart => exact ⟨0, by omega, rfl, by simp, M6⟩
  case round =>
    clear M6
    obtain ⟨j, hj, rfl, rfl, M6⟩ := hrel
    by_cases hlt : j < 12
    · obtain ⟨q, hq⟩ : ∃ q, min j n = q := ⟨_, rfl⟩
      have hln : (mst (x.take k) y k n j).b.length + m2 ≤ 900000 := by
        have := (OK.out j).len; omega
      by_cases hjn : j < n
      · have hst := STEP.out j
        rw [if_pos hjn] at hst
        have HST := Lib.hid hst
        have hq2 : min (j + 1) n = q + 1 := by omega
        have hq3 : q ≤ 9 := by omega
        rw [hq]
        clear hst hjn
        go_wp2_with fail
        refine (append_is M6.out (OK.out j) (P2.out.below M6.out.bel) (P2.out.apart M6.out) hln HST.out).mono ?_
        rintro e w8 ⟨rfl, hm⟩
        have M7 := Lib.hid hm
        clear hm M6
        go_wp2
        go_roundw
        case rel => exact ⟨j + 1, by omega, by go_num, by rw [hq2]; go_num, M7⟩
        case measure => simp [intOf]; omega
      · have hst := STEP.out j
        rw [if_neg hjn] at hst
        have HST := Lib.hid hst
        have hq2 : min (j + 1) n = q := by omega
        rw [hq]
        clear hst hjn
        go_wp2_with fail
        refine (append_is M6.out (OK.out j) (P2.out.below M6.out.bel) (P2.out.apart M6.out) hln HST.out).mono ?_
        rintro e w8 ⟨rfl, hm⟩
        have M7 := Lib.hid hm
        clear hm M6
        go_wp2
        go_roundw
        case rel => exact ⟨j + 1, by omega, by go_num, by rw [hq2], M7⟩
        case measure => simp [intOf]; omega
    · obtain rfl : j = 12 := by omega
      have hmn : min 12 n = n := by omega
      have hst : mst (x.take k) y k n 12 = ⟨x.take k ++ rep y n, k, true, 0, true⟩ := by
        unfold mst; rw [hmn, decide_eq_true (by omega), Nat.sub_self]; rfl
      have ok := OK.out 12
      have M6' := M6.out
      rw [hst] at ok M6'
      have M7 := Lib.hid M6'
      have b1 : ((n : Int) != n) = false := by simp
      rw [hmn]
      clear M6 M6' hst OK STEP
      go_wp2_with fail
      refine (off_is M7.out (v := true) rfl).mono ?_
      rintro e w' ⟨rfl, rfl⟩
      go_wp2_with fail
      refine (bytes_is M7.out ok (l := []) rfl).mono ?_
      rintro e w8 ⟨a8, m8, c8, rfl, hP, hm, hb, hl, hc1, hc2⟩
      have M8 := Lib.hid hm
      obtain rfl : m8 = 0 := hl
      clear hP hm hb M7
      go_wp2_with fail
      refine (flush_is (v := 7) M8.out ok rfl).mono ?_
      rintro e w9 ⟨rfl, hm⟩
      have M9 := Lib.hid (show MedAt w [] [] g ⟨x.take k ++ rep y n, k, true, 0, true⟩ w9 from hm)
      clear hm M8
      go_wp2_with fail
      refine (spoil_no 0 1 M9.out ok (.inl rfl)).mono ?_
      rintro e w10 ⟨rfl, n10, hw10⟩
      have M10 := Lib.hid (show MedAt w [] [] g _ w10 from hw10 ▸ M9.out.drewN n10)
      clear hw10 M9
      obtain ⟨T, hT⟩ : ∃ T : Nat, (x.take k ++ rep y n).length = T := ⟨_, rfl⟩
      have hTb : T ≤ 1000 := by
        rw [← hT, List.length_append, LK.out, rep_len, L2.out]
        have : n * m2 ≤ 9 * 50 := Nat.mul_le_mul hn9 g2
        omega
      have hTk : k ≤ T := by rw [← hT, List.length_append, LK.out]; omega
      have hboot : Med.boot ⟨x.take k ++ rep y n, k, true, 0, true⟩ 1073741824 = ⟨x.take k ++ rep y n, T, false, 0, false⟩ := by
        unfold Med.boot Med.keep
        simp only
        have e : k + (max 0 (min 1073741824 (((x.take k ++ rep y n).length : Int) - k))).toNat = T := by rw [hT]; omega
        rw [e, List.take_of_length_le (by omega)]
      have HB := Lib.hid hboot
      go_wp2_with fail
      refine (boot_is 1073741824 M10.out ok HB.out).mono ?_
      rintro e w11 ⟨rfl, hm⟩
      have M11 := Lib.hid hm
      have ok2 : Med.Ok ⟨x.take k ++ rep y n, T, false, 0, false⟩ := HB.out ▸ ok.boot 1073741824
      have HT := Lib.hid hT
      clear hm M10 ok hboot hT HB
      have kk : (k : Int) ≤ (c1 : Int) := by omega
      have PK := Lib.hid (P1.out.cutHi hkm)
      go_upto_region 20 with (at_builtin; go_must (obtain ⟨L, hL, back, _⟩ := MedAt.openR (B := []) (Rr := [(w11.heap.size, #[], 5)]) (M11.out.addB (gn := w11.heap.size) rfl #[] 5); refine row_append rfl (.tmp 101) (.tmp 104) 23 rfl L [] Try.underlying23 hi hz hs1 hs2 rfl (by omega) (Row.empty _ _ _) hL rfl rfl ((PK.out.below M11.out.bel).alloc _) (bs_one _) (by omega) (by omega) ?_); rintro R12 a12 c12 w12 hR12 hS12; have hM12 := back R12 w12 hS12; simp only [Nat.zero_add, List.nil_append] at hR12 hM12 ⊢; clear hS12 back hL)
      have HR12 := Lib.hid hR12
      have M12 := Lib.hid hM12
      clear hR12 hM12 M11
      go_wp2_with fail
      go_loopw [15, 107] (fun v15 v107 wx => ∃ (j u : Nat) (R : List Ent) (a : Option Addr) (c : Nat), j ≤ n ∧ v107 = .int .i64 j ∧ v15 = .slice a u c ∧ u ≤ 50 + 50 * j ∧ Hid (u = (x.take k ++ rep y j).length) ∧ Hid (Row R 5 1 a u c (bs (x.take k ++ rep y j))) ∧ Hid (MedAt w [] R g ⟨x.take k ++ rep y n, T, false, 0, false⟩ wx)) (fun _ v107 _ => n - (intOf v107).toNat)
      case atStart => exact ⟨0, k, R12, a12, c12, by omega, rfl, rfl, by omega, Lib.hid (by simp [rep, LK.out]), Lib.hid (by simpa [rep] using HR12.out), M12⟩
      case round =>
        clear M12 HR12
        obtain ⟨j, u, R, a, c, hjn, rfl, rfl, hu, HU, HR, M12⟩ := hrel
        by_cases hlt2 : j < n
        · go_wp2_with (at_builtin; go_must (obtain ⟨L, hL, back, _⟩ := MedAt.openR (B := []) (Rr := R) M12.out; refine row_append rfl (.tmp 109) (.tmp 110) 23 rfl L [] Try.underlying23 hi hz hs1 hs2 rfl (by omega) HR.out hL rfl rfl (P2.out.below M12.out.bel) (bs_one _) (by omega) (by omega) ?_); rintro R13 a13 c13 w13 hR13 hS13; have hM13 := back R13 w13 hS13; clear hS13 back hL)
          have HR13 := Lib.hid (show Row R13 5 1 a13 (u + m2) c13 (bs (x.take k ++ rep y (j + 1))) from by rw [rep_succ, ← List.append_assoc, bs_app]; exact hR13)
          have M13 := Lib.hid hM13
          clear hR13 hM13
          go_roundw
          case rel => exact ⟨j + 1, u + m2, R13, a13, c13, by omega, by go_num, rfl, by omega, Lib.hid (by rw [rep_succ, ← List.append_assoc, List.length_append, ← HU.out, L2.out]), HR13, M13⟩
          case measure => simp [intOf]; omega
        · obtain rfl : j = n := by omega
          obtain rfl : u = T := by rw [HU.out, HT.out]
          have b2 : ((u : Int) == u) = true := by simp
          go_wp2_with fail
          refine (bytes_row M12.out ok2 rfl HT.out).mono ?_
          rintro e w14 ⟨R14, a14, c14, rfl, hR14, hM14, hb14⟩
          have HR14 := Lib.hid hR14
          have M14 := Lib.hid hM14
          clear hR14 hM14 hb14 M12
          go_wp2_with fail
          refine (same_yes _ _ (HR14.out.srcB M14.out fun _ h => List.mem_append_left _ h) (HR.out.srcB M14.out fun _ h => List.mem_append_right _ h) (by omega) (by omega) rfl).mono ?_
          rintro e w15 ⟨rfl, n15, hw15⟩
          have M15 := Lib.hid (M14.out.drewN n15)
          subst hw15
          clear M14
          go_wp2_with fail
          refine (firm_is M15.out (n := (u : Int)) rfl).mono ?_
          rintro e w' ⟨rfl, rfl⟩
          go_wp2_with fail
          refine (off_is M15.out (v := false) rfl).mono ?_
          rintro e w' ⟨rfl, rfl⟩
          go_wp2_with fail
          refine (mediumRuns_b M15.out.bel).mono ?_
          rintro e w16 ⟨rfl, hb16⟩
          have B16 := Lib.hid hb16
          clear hb16
          go_wp2
          go_ret
          exact ⟨rfl, B16.out⟩
end Go.Proofs.Ytefidbfhcpcgjaa

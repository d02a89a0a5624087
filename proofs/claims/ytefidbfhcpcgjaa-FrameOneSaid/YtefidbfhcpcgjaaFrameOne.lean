import Derived.Test.YtefidbfhcpcgjaaOpenIs
namespace Go.Proofs.Ytefidbfhcpcgjaa
open Go.RowKit
set_option linter.unusedVariables false
set_option linter.unusedSimpArgs false
attribute [local go_sem] bmax2 bmin2 bmax_two bmin_two bmax_three bmin_three
set_option maxHeartbeats 8000000 in
set_option maxRecDepth 100000 in
theorem frameOne_walk (A1 : Option Addr) (n1 c1 : Nat) (l1 : List Int) (A2 : Option Addr) (n2 c2 : Nat) (l2 : List Int) (seq other pos x : Int) (w : World) (h1 : BytesIn w A1 n1 c1 l1) (h2 : BytesIn w A2 n2 c2 l2)
    (hq : -9223372036854775808 ≤ seq ∧ seq ≤ 9223372036854775807) (hu : -9223372036854775808 ≤ other ∧ other ≤ 9223372036854775807) (hp : -9223372036854775808 ≤ pos ∧ pos ≤ 9223372036854775807) (hx : 0 ≤ x ∧ x ≤ 255) :
    Calls Try.prog 10 #[.slice A1 n1 c1, .slice A2 n2 c2, .int .i64 seq, .int .i64 other, .int .i64 pos, .int .u8 x] w fun e w' => e = .returned (.bool true) ∧ Below w.heap.size w w' := by
  obtain ⟨i0, hi, hz, hs1, hs2⟩ := info_parts byte_info
  obtain ⟨x0, x1⟩ := hx
  clear hq hu hp
  obtain ⟨m1, hm1⟩ : ∃ m, m = min n1 300 := ⟨_, rfl⟩
  obtain ⟨m2, hm2⟩ : ∃ m, m = min n2 300 := ⟨_, rfl⟩
  have e1 : m1 ≤ n1 := by omega
  have e2 : m2 ≤ n2 := by omega
  have g1 : m1 ≤ 300 := by omega
  have g2 : m2 ≤ 300 := by omega
  have P1 := Lib.hid (h1.src.cutHi e1)
  have P2 := Lib.hid (h2.src.cutHi e2)
  have Y1 := Lib.hid (h1.byt.take m1)
  have Y2 := Lib.hid (h2.byt.take m2)
  have q1 := h1.le; have r1 := h1.cap; have q2 := h2.le; have r2 := h2.cap
  generalize l1.take m1 = t at *
  generalize l2.take m2 = u at *
  have f1 : min (n1 : Int) 300 = (m1 : Int) := by omega
  have f2 : min (n2 : Int) 300 = (m2 : Int) := by omega
  have f4 : (m1 : Int) ≤ c1 := by omega
  have f5 : (m2 : Int) ≤ c2 := by omega
  have f7 : (0 : Int) ≤ m1 := by omega
  have f8 : (0 : Int) ≤ m2 := by omega
  obtain ⟨k, hk⟩ : ∃ k, within seq 0 4294967295 = k := ⟨_, rfl⟩
  obtain ⟨k0, k1⟩ : 0 ≤ k ∧ k ≤ 4294967295 := by rw [← hk]; exact within_bd seq (by omega)
  obtain ⟨j, hj⟩ : ∃ k, within other 0 4294967295 = k := ⟨_, rfl⟩
  obtain ⟨j0, j1⟩ : 0 ≤ j ∧ j ≤ 4294967295 := by rw [← hj]; exact within_bd other (by omega)
  have HK := Lib.hid hk
  have HJ := Lib.hid hj
  clear hm1 hm2 h1 h2 hk hj
  go_enter Try.func10, Try.ntmps10
  go_upto_region 1 with fail
  go_quiet (fail)
  have P1 := Lib.hid (P1.out.drewN nq)
  have P2 := Lib.hid (P2.out.drewN nq)
  have HB := Lib.hid (bel_drewN (Below.refl w.heap.size w) nq)
  clear f1 f2 f4 f5 f7 f8
  generalize w.drewN nq = w1 at *
  go_wp2_with fail
  refine (within_calls seq 0 4294967295 _ (by omega) (by omega) (by omega)).mono ?_
  rw [HK.out]
  rintro e w' ⟨rfl, rfl⟩
  go_wp2_with fail
  refine (within_calls other 0 4294967295 _ (by omega) (by omega) (by omega)).mono ?_
  rw [HJ.out]
  rintro e w' ⟨rfl, rfl⟩
  go_wp2_with fail
  refine (seal_calls k t A1 m1 c1 _ P1.out Y1.out (by omega) k0 k1).mono ?_
  rintro e w2 ⟨Rf, Af, cf, rfl, hRf, hSf⟩
  have PF := Lib.hid (hRf.src0 hSf)
  have Q1 := Lib.hid (P1.out.below hSf.bel)
  have Q2 := Lib.hid (P2.out.below hSf.bel)
  have B1 := Lib.hid (bel_then HB.out hSf.bel HB.out.size)
  clear P1 P2 hRf hSf HB
  go_wp2_with fail
  refine (seal_calls j u A2 m2 c2 _ Q2.out Y2.out (by omega) j0 j1).mono ?_
  rintro e w3 ⟨Rg, Ag, cg, rfl, hRg, hSg⟩
  have PG := Lib.hid (hRg.src0 hSg)
  have PF1 := Lib.hid (PF.out.below hSg.bel)
  have S1 := Lib.hid (Q1.out.below hSg.bel)
  have S2 := Lib.hid (Q2.out.below hSg.bel)
  have B2 := Lib.hid (bel_then B1.out hSg.bel B1.out.size)
  have lt := Lib.hid S1.out.len
  have lu := Lib.hid S2.out.len
  clear Q1 Q2 hRg hSg B1 PF
  go_upto_region 4 with fail
  go_cut [70] (fun v wc => v = .bool false ∧ Hid (∃ j, wc = w3.drewN j))
  case first =>
    have inj : sealL k t = sealL j u → k = j ∧ t = u := seal_inj Y1.out Y2.out k0 (by omega) j0 (by omega) (by rw [lt.out]; omega) (by rw [lu.out]; omega)
    by_cases hkj : k = j
    · have b1 : (k == j) = true := by rw [beq_iff_eq]; exact hkj
      by_cases htu : t = u
      · have hs := same_yes (c := cf) (d := cg) (sealL k t) (sealL j u) PF1.out PG.out (by omega) (by omega) (by rw [hkj, htu])
        have HS := Lib.hid hs
        have HT := Lib.hid htu
        clear hs inj hkj htu
        go_wp2_with fail
        refine HS.out.mono ?_
        rintro e w4 ⟨rfl, n4, hw4⟩
        have H4 := Lib.hid hw4
        clear hw4
        go_wp2_with fail
        refine (same_yes t u (S1.out.drewE H4.out) (S2.out.drewE H4.out) (by omega) (by omega) HT.out).mono ?_
        rintro e w5 ⟨rfl, n5, hw5⟩
        have H5 : Hid (∃ j, w5 = w3.drewN j) := Lib.hid ⟨n4 + n5, by rw [hw5, H4.out, World.drewN_drewN]⟩
        clear hw5
        go_wp2
        go_meet
        exact ⟨rfl, H5⟩
      · have hs := same_no (c := cf) (d := cg) (sealL k t) (sealL j u) PF1.out PG.out (by omega) (by omega) (fun h => htu (inj h).2)
        have HS := Lib.hid hs
        have HT := Lib.hid htu
        clear hs inj hkj htu
        go_wp2_with fail
        refine HS.out.mono ?_
        rintro e w4 ⟨rfl, n4, hw4⟩
        have H4 := Lib.hid hw4
        clear hw4
        go_wp2_with fail
        refine (same_no t u (S1.out.drewE H4.out) (S2.out.drewE H4.out) (by omega) (by omega) HT.out).mono ?_
        rintro e w5 ⟨rfl, n5, hw5⟩
        have H5 : Hid (∃ j, w5 = w3.drewN j) := Lib.hid ⟨n4 + n5, by rw [hw5, H4.out, World.drewN_drewN]⟩
        clear hw5
        go_wp2
        go_meet
        exact ⟨rfl, H5⟩
    · have b1 : (k == j) = false := by rw [beq_eq_false_iff_ne]; exact hkj
      have hs := same_no (c := cf) (d := cg) (sealL k t) (sealL j u) PF1.out PG.out (by omega) (by omega) (fun h => hkj (inj h).1)
      have HS := Lib.hid hs
      clear hs inj hkj
      go_wp2_with fail
      refine HS.out.mono ?_
      rintro e w4 ⟨rfl, n4, hw4⟩
      have H5 : Hid (∃ j, w4 = w3.drewN j) := Lib.hid ⟨n4, hw4⟩
      clear hw4
      go_wp2
      go_meet
      exact ⟨rfl, H5⟩
  case rest =>
    obtain ⟨rfl, hw⟩ := hcut
    obtain ⟨nd, hw⟩ := hw.out
    have PF2 := Lib.hid (PF1.out.drewE hw)
    have B3 : Hid (Below w.heap.size w wc) := Lib.hid (by rw [hw]; exact bel_drewN B2.out _)
    clear hw PF1 PG S1 S2 B2
    go_upto_region 7 with (at_builtin; go_must (refine row_append rfl (.tmp 71) (.tmp 72) 23 rfl [] [] Try.underlying23 hi hz hs1 hs2 rfl (by omega) (Row.empty wc.heap.size 5 1) ((Sts.nil wc).add rfl _ _) rfl rfl (PF2.out.alloc _) (bs_one _) (by omega) (by omega) ?_); rintro R6 a6 k6 w6 hR6 hS6; simp only [Nat.zero_add, List.nil_append, List.append_nil] at hR6 hS6 ⊢)
    obtain ⟨g, cur, rfl, rfl⟩ := hR6.form (by omega)
    have B4 := Lib.hid (bel_then B3.out hS6.bel B3.out.size)
    have hS6 := hS6.rebase B3.out
    obtain ⟨ii, hii, hiin⟩ : ∃ cc : Nat, within pos 0 ((m1 : Int) + 10 - 1) = cc ∧ cc < m1 + 10 := by
      have := within_bd pos (lo := 0) (hi := (m1 : Int) + 10 - 1) (by omega)
      exact ⟨(within pos 0 ((m1 : Int) + 10 - 1)).toNat, by omega, by omega⟩
    have HII := Lib.hid hii
    have hFl : (sealL k t).length = m1 + 10 := by rw [seal_len, lt.out]
    have hYF := seal_byt k Y1.out
    obtain ⟨y0, y1⟩ := hYF.at_ (k := ii) (by rw [hFl]; exact hiin)
    obtain ⟨hcell, hfr⟩ := hR6.cell1 hS6 (by simp) hiin (bs_get _ (by rw [hFl]; exact hiin))
    have hget := bs_get (sealL k t) (i := ii) (by rw [hFl]; exact hiin)
    obtain ⟨y, hy⟩ : ∃ y, (sealL k t).getD ii 0 = y := ⟨_, rfl⟩
    rw [hy] at y0 y1 hcell
    have hxor := u8_xor y x y0 y1 x0 x1
    obtain ⟨v0, v1⟩ := xb_bd y0 y1 x0 x1
    have hback := u8_xor (xb y x) x v0 v1 x0 x1
    rw [xb_twice y0] at hback
    have hne : x ≠ 0 → xb y x ≠ y := fun h => xb_ne y0 x0 h
    have hz0 : x = 0 → xb y x = y := fun h => by rw [h]; exact xb_zero y0
    generalize xb y x = v at *
    have HY := Lib.hid hy
    have HFL := Lib.hid hFl
    have HYF := Lib.hid hYF
    have HR6 := Lib.hid hR6
    have HS6 := Lib.hid hS6
    have HXOR := Lib.hid hxor
    have HBACK := Lib.hid hback
    have HNE := Lib.hid hne
    have HZ0 := Lib.hid hz0
    clear hii hy hFl hYF hR6 hS6 hback hne hz0 hget hxor PF2
    go_wp2_with fail
    refine (within_calls pos 0 ((m1 : Int) + 10 - 1) _ (by omega) (by omega) (by omega)).mono ?_
    rw [HII.out]
    rintro e w' ⟨rfl, rfl⟩
    have hxor := HXOR.out
    go_upto_region 9 with fail
    clear hxor hcell hfr
    have HR7 := Lib.hid (HR6.out.put1 ii (.int .u8 v))
    have HS7 := Lib.hid (HS6.out.set 0 ii (.int .u8 v) rfl)
    have e7 : (bs (sealL k t)).set ii (.int .u8 v) = bs ((sealL k t).set ii v) := bs_set _ _ _
    have PO := Lib.hid (show Src _ _ _ 1 (bs ((sealL k t).set ii v)) from e7 ▸ HR7.out.srcIn HS7.out (by simp))
    have hle := HR7.out.le
    have hcp := HR7.out.cap_le
    have YO : Byt ((sealL k t).set ii v) := by
      intro z hz
      rcases List.mem_or_eq_of_mem_set hz with h | h
      · exact HYF.out z h
      · subst h; exact ⟨v0, v1⟩
    have YO := Lib.hid YO
    clear e7
    by_cases hx : x = 0
    · have b1 : (x == 0) = true := by rw [beq_iff_eq]; exact hx
      have hvy := HZ0.out hx
      have hsame : (sealL k t).set ii v = sealL k t := by rw [hvy, ← HY.out]; exact set_getD _ (by rw [HFL.out]; exact hiin)
      have hop : openL ((sealL k t).set ii v) 0 = (t, k, (m1 : Int) + 10, 0) := by
        have := open_seal k t [] [] Y1.out (by rw [lt.out]; omega) k0 (by omega)
        rw [List.append_nil] at this
        rw [hsame]
        refine this.trans ?_
        simp [lt.out]
      have HOP := Lib.hid hop
      clear hvy hsame hop hx
      go_wp2_with fail
      refine (open_is (p := 0) PO.out hle hcp YO.out (by omega) (by omega) _ _ _ _ HOP.out).mono ?_
      rintro e w8 ⟨ay, cy, my, rfl, hPy, hBy, hmy, hmyc, hcyc⟩
      have B6 := Lib.hid (bel_then HS7.out.bel hBy HS7.out.bel.size)
      clear hPy hBy hmy hmyc hcyc
      go_wp2_with fail
      refine (frameRuns_b B6.out).mono ?_
      rintro e w11 ⟨rfl, hb11⟩
      have B9 := Lib.hid hb11
      clear hb11
      go_wp2
      go_ret
      exact ⟨rfl, B9.out⟩
    · have b1 : (x == 0) = false := by rw [beq_eq_false_iff_ne]; exact hx
      have hop : openL ((sealL k t).set ii v) 0 = ([], 0, 0, 2) := by
        have := open_byte k t ii v [] [] Y1.out (by rw [lt.out]; omega) (by rw [lt.out]; exact hiin) ⟨v0, v1⟩ (by rw [HY.out]; exact HNE.out hx)
        rw [List.append_nil] at this
        exact this
      have HOP := Lib.hid hop
      clear hop hx
      go_wp2_with fail
      refine (open_is (p := 0) PO.out hle hcp YO.out (by omega) (by omega) _ _ _ _ HOP.out).mono ?_
      rintro e w8 ⟨ay, cy, my, rfl, hPy, hBy, hmy, hmyc, hcyc⟩
      have HS8 := Lib.hid (HS7.out.below hBy)
      obtain rfl : my = 0 := hmy
      obtain ⟨hcell, hfr⟩ := HR7.out.cell1 HS8.out (by simp) hiin (v := .int .u8 v) (by rw [List.getElem?_set_self (by rw [bs_length, HFL.out]; exact hiin)])
      clear hPy hBy hmyc hcyc HS7 PO
      have hback := HBACK.out
      go_upto_region 13 with fail
      clear hback hcell hfr
      have HR9 := Lib.hid (HR7.out.put1 ii (.int .u8 y))
      have HS9 := Lib.hid (HS8.out.set 0 ii (.int .u8 y) rfl)
      have e9 : ((bs (sealL k t)).set ii (.int .u8 v)).set ii (.int .u8 y) = bs (sealL k t) := by
        rw [List.set_set, bs_set, ← HY.out, set_getD _ (by rw [HFL.out]; exact hiin)]
      have PO := Lib.hid (show Src _ _ _ 1 (bs (sealL k t)) from e9 ▸ HR9.out.srcIn HS9.out (by simp))
      have hop : openL (sealL k t) 0 = (t, k, (m1 : Int) + 10, 0) := by
        have := open_seal k t [] [] Y1.out (by rw [lt.out]; omega) k0 (by omega)
        rw [List.append_nil] at this
        refine this.trans ?_
        simp [lt.out]
      have HOP2 := Lib.hid hop
      clear e9 hop
      go_wp2_with fail
      refine (open_is (p := 0) PO.out hle hcp HYF.out (by omega) (by omega) _ _ _ _ HOP2.out).mono ?_
      rintro e w9 ⟨az, cz, mz, rfl, hPy, hBy, hmy, hmyc, hcyc⟩
      have B6 := Lib.hid (bel_then HS9.out.bel hBy HS9.out.bel.size)
      clear hPy hBy hmy hmyc hcyc
      go_wp2_with fail
      refine (frameRuns_b B6.out).mono ?_
      rintro e w11 ⟨rfl, hb11⟩
      have B9 := Lib.hid hb11
      clear hb11
      go_wp2
      go_ret
      exact ⟨rfl, B9.out⟩
end Go.Proofs.Ytefidbfhcpcgjaa

import Derived.Test.YticddmmbphoioaaModeQ
import Derived.Deep.RegionHeld3
import Derived.Sort.BigQuietIn
namespace Go.Proofs.Yticddmmbphoioaa
open Go.RowKit
set_option linter.unusedVariables false
set_option linter.unusedSimpArgs false
/-! ### The deal -/
theorem z18_ds (k : Kd) : k.d0 = k.d0 := rfl
set_option maxHeartbeats 32000000 in
set_option maxRecDepth 1000000 in
theorem deal_calls (k : Kd) (w : World) (hk : k.In w) :
    Calls Try.prog 24 #[.agg k.cs] w fun e w' => ∃ (L N : Sl) (S : Nat → Sl), e = .returned (.agg (k.ds L N (S 0) (S 1) (S 2))) ∧ (L.n = min k.lo.n 10 + 1 ∧ Src w' L.a L.n 2 (pcs (loansX k.lo.l (min k.lo.n 10)))) ∧
      (N.n ≤ 5 ∧ (k.no.n < 1000000000000000000 → N.n = min (1 + k.no.n) 5) ∧ Src w' N.a N.n 3 (tcs (notesN k (poolF (loansX k.lo.l (min k.lo.n 10))) N.n))) ∧
      (∀ j, j < 3 → Src w' (S j).a (S j).n 2 (pcs (stepsK (k.ss j).l)) ∧ (stepsK (k.ss j).l).length = (S j).n) ∧ Below w.heap.size w w' := by
  have HK := Lib.hid hk
  clear hk
  obtain ⟨i0, hi, hz, hs1, hs2⟩ := info_parts' loan_info
  have h0 := (Sts.nil w).add (g := w.heap.size) rfl k.cs 44
  have h1 := h0.add (g := w.heap.size + 1) (by unfold World.alloc; rw [Array.size_push]) z18 54
  have HS1 := Lib.hid h1
  clear h0 h1
  go_enter Try.func24, Try.ntmps24
  go_upto_region 1 with fail
  change Hid (Sts w _ ((w.alloc (.cells k.cs 44)).alloc _)) at HS1
  unfold z18 at HS1
  generalize (w.alloc (.cells k.cs 44)).alloc _ = w1 at *
  generalize w.heap.size + 1 = g2 at *
  generalize hg1 : w.heap.size = g1 at *
  have HG := Lib.hid hg1
  clear hg1
  refine deal_head k w HK g1 g2 w1 HS1 _ _ _ _ _ _ _ _ _ _ _ _ _ _ _ _ _ _ _ _ _ _ _ _ _ _ _ _ _ _ _ _ _ _ _ _ _ _ _ _ _ _ _ _ _ _ _ _ _ _ _ _ _ _ _ _ _ _ _ _ _ _ _ _ _ _ _ _ _ _ _ _ _ _ _ _ _ _ _ _ _ _ _ _ _ _ _ _ _ _ _ _ _ _ _ _ _ _ _ _ _ _ _ _ _ _ _ _ _ _ _ _ _ _ _ _ _ _ _ _ _ _ _ _ _ _ _ _ _ _ _ _ _ _ _ _ _ _ _ _ _ _ _ _ _ _ _ _ _ _ _ _ _ _ _ _ _ _ _ _ _ _ _ _ _ _ _ _ _ _ _ _ _ _ _ _ _ _ _ _ _ _ _ _ _ _ _ _ _ _ _ ?_
  intro v3 v16 v17 v18 v19 v20 v21 v22 v23 v24 v25 v26 v27 v28 v29 v30 v31 v32 v33 v34 v35 v36 v37 v38 v39 v40 wc hcut
  · obtain ⟨g3, rfl, HS2⟩ := hcut
    clear HS1
    dsimp only
    go_upto_region 2 with fail
    refine wp_region_seg (by kernel_rfl) ?_
    have HS3 := Lib.hid (HS2.out.drew : Sts w _ wc.drew)
    refine seg_next 0 22 (by kernel_rfl) HS3.out ?_
    simp only [List.drop_succ_cons, List.drop_zero, List.take_succ_cons, List.take_zero, List.drop_nil, List.take_nil]
    have hne : Nonempty (Later w ([(g1, k.cs, 44), (g2, z18, 54), (g3, k.d0, 54)] ++ [])) := ⟨⟨_, HS3.out⟩⟩
    have q0 : ∀ p : Later w ([(g1, k.cs, 44), (g2, z18, 54), (g3, k.d0, 54)] ++ []), p.val.cell? ⟨g1, 8, none⟩ = some (.int .i64 k.t0) := fun p => p.property.cell 0 8 rfl rfl
    have q1 : ∀ p : Later w ([(g1, k.cs, 44), (g2, z18, 54), (g3, k.d0, 54)] ++ []), p.val.cell? ⟨g1, 9, none⟩ = some (.int .i64 k.t1) := fun p => p.property.cell 0 9 rfl rfl
    have q2 : ∀ p : Later w ([(g1, k.cs, 44), (g2, z18, 54), (g3, k.d0, 54)] ++ []), p.val.cell? ⟨g1, 10, none⟩ = some (.int .i64 k.t2) := fun p => p.property.cell 0 10 rfl rfl
    have q3 : ∀ p : Later w ([(g1, k.cs, 44), (g2, z18, 54), (g3, k.d0, 54)] ++ []), p.val.cell? ⟨g1, 11, none⟩ = some (.int .i64 k.t3) := fun p => p.property.cell 0 11 rfl rfl
    have q4 : ∀ p : Later w ([(g1, k.cs, 44), (g2, z18, 54), (g3, k.d0, 54)] ++ []), p.val.cell? ⟨g1, 12, none⟩ = some (.int .i64 k.t4) := fun p => p.property.cell 0 12 rfl rfl
    repeat (go_big_quiet_step (first | exact rfl | (go_at_call 13; exact within_q _ _ (by omega) (by omega) (by omega))))
    clear hne q0 q1 q2 q3 q4
    refine wpQuiet_nil ?_
    rintro w3 ⟨⟨_, hs⟩, rfl⟩
    have HS4 := Lib.hid hs
    clear hs HS3 HS2
    have f0 := HS4.out.frozen 2 10 rfl
    have e0 := HS4.out.cell 2 10 rfl (v := .int .i64 0) rfl
    have f1 := HS4.out.frozen 2 11 rfl
    have e1 := HS4.out.cell 2 11 rfl (v := .int .i64 0) rfl
    have f2 := HS4.out.frozen 2 12 rfl
    have e2 := HS4.out.cell 2 12 rfl (v := .int .i64 0) rfl
    have f3 := HS4.out.frozen 2 13 rfl
    have e3 := HS4.out.cell 2 13 rfl (v := .int .i64 0) rfl
    have f4 := HS4.out.frozen 2 14 rfl
    have e4 := HS4.out.cell 2 14 rfl (v := .int .i64 0) rfl
    go_wp2_with fail
    refine seg_in ?_
    refine seg_done (by kernel_rfl) ?_
    clear f0 f1 f2 f3 f4 e0 e1 e2 e3 e4
    have hs5 := (((((HS4.out.set 2 10 (.int .i64 (within k.t0 0 12000)) rfl).set 2 11 (.int .i64 (within k.t1 0 15000)) rfl).set 2 12 (.int .i64 (within k.t2 0 5000)) rfl).set 2 13 (.int .i64 (within k.t3 0 5000)) rfl).set 2 14 (.int .i64 (within k.t4 0 3000)) rfl)
    have HS5 := Lib.hid (hs5.lit (L' := Heads k g1 g2 g3 nilS nilS nilS nilS nilS ++ []) rfl)
    clear hs5 HS4
    generalize World.setCell _ _ _ = w5 at *
    have c13 := HS5.out.cell 0 13 rfl (v := .slice k.lo.a k.lo.n k.lo.c) rfl
    have hmost := HK.out.lo.most
    go_wp2_with fail
    refine (loans_calls k.lo.a k.lo.n k.lo.c k.lo.l w5 (HK.out.lo.after HS5.out)).mono ?_
    rintro e w6 ⟨m, R, a, cap, hm, rfl, hR, hS⟩
    have HM := Lib.hid hm
    have hm10 : m ≤ 10 := by omega
    have HR := Lib.hid hR
    have HS6 := Lib.hid (Sts.join (Heads k g1 g2 g3 nilS nilS nilS nilS nilS) [] HS5.out hS)
    clear hm hR hS HS5 c13 hmost
    go_upto_region 4 with (at_builtin; refine row_append rfl (.tmp 65) (.tmp 67) 47 rfl (Heads k g1 g2 g3 nilS nilS nilS nilS nilS) [] Try.underlying47 hi hz hs1 hs2 rfl (by omega) HR.out (HS6.out.skip _) rfl rfl (Src.new (size := 2) (m := 1) rfl rfl) (pcs_one [(99, 50000)]) (by omega) (by omega) ?_; rintro R3 a3 c3 w7 hR3' hS3'; have HR3 := Lib.hid hR3'; have HS7 := Lib.hid hS3'; clear hR3' hS3' HS6 HR hi hz hs1 hs2; have f3 := HS7.out.frozen 2 3 rfl; have e3 := HS7.out.cell 2 3 rfl (v := .slice none 0 0) rfl)
    have HS8 := Lib.hid ((HS7.out.set 2 3 (.slice a3 (m + 1) c3) rfl).lit (L' := Heads k g1 g2 g3 ⟨a3, m + 1, c3⟩ nilS nilS nilS nilS ++ (R3 ++ [])) rfl)
    clear f3 e3 HS7
    generalize World.setCell _ _ _ = w8 at *
    have HX := Lib.hid (show Row R3 75 2 a3 (m + 1) c3 (pcs (loansX k.lo.l m)) from by unfold loansX; rw [pcs_app]; exact HR3.out)
    clear HR3
    have c3x := HS8.out.cell 2 3 rfl (v := .slice a3 (m + 1) c3) rfl
    go_upto_block 0 with fail
    go_cut [4, 6] from 73 to 81 (fun v4 v6 wc => v4 = .int .i64 (poolF (loansX k.lo.l m)) ∧ 0 ≤ poolF (loansX k.lo.l m) ∧ poolF (loansX k.lo.l m) ≤ 10000000 ∧ Hid (Sts w (Heads k g1 g2 g3 ⟨a3, m + 1, c3⟩ nilS nilS nilS nilS ++ (R3 ++ [])) wc))
    case first =>
      go_wp2_with fail
      go_loopw [4, 73] (fun v4 v73 wr => ∃ (j : Nat) (s : Int), j ≤ m + 1 ∧ v4 = .int .i64 s ∧ v73 = .int .i64 j ∧ 0 ≤ s ∧ s ≤ 100000 * j ∧ Hid (poolF ((loansX k.lo.l m).take j) = s) ∧ Hid (Sts w (Heads k g1 g2 g3 ⟨a3, m + 1, c3⟩ nilS nilS nilS nilS ++ (R3 ++ [])) wr)) (fun _ v73 _ => m + 1 - (intOf v73).toNat)
      case atStart => exact ⟨0, 0, by omega, rfl, rfl, by omega, by omega, Lib.hid rfl, HS8⟩
      case round =>
        obtain ⟨j, s, hj, rfl, rfl, s0, s1, HF, HZ⟩ := hrel
        clear HS8 c3x
        by_cases hlt : j < m + 1
        · obtain ⟨⟨x, y⟩, hge⟩ : ∃ e, (loansX k.lo.l m)[j]? = some e := ⟨_, List.getElem?_eq_getElem (by rw [loansX_length]; exact hlt)⟩
          obtain ⟨ad, hA, c0, c1⟩ := src_pc (HX.out.src (Heads k g1 g2 g3 ⟨a3, m + 1, c3⟩ nilS nilS nilS nilS) [] HZ.out) hge
          have hb := loansX_bd _ _ _ (List.mem_of_getElem? hge)
          have hnx := poolF_next hge
          rw [HF.out] at hnx
          simp only at c0 c1 hb hnx
          obtain ⟨y0, y1⟩ := hb
          subst hA
          have j0 : (0 : Int) ≤ (j : Int) := by omega
          have j1 : (j : Int) < ((m + 1 : Nat) : Int) := by omega
          have j2 : (j : Int) < (m : Int) + 1 := by omega
          have HN := Lib.hid hnx
          have HW3 := Lib.hid (HZ.out.ins (g := wr.heap.size) (Heads k g1 g2 g3 ⟨some ad, m + 1, c3⟩ nilS nilS nilS nilS) (R3 ++ []) rfl #[.int .i64 x, .int .i64 y] 75)
          clear hge hnx
          go_upto_region 8 with fail
          clear c0 c1 HZ
          generalize wr.alloc (.cells #[.int .i64 x, .int .i64 y] 75) = w9 at *
          generalize wr.heap.size = gy at *
          have c1 := HW3.out.cell 3 1 rfl (v := .int .i64 y) rfl
          have HV := Lib.hid (HW3.out.sub (L' := Heads k g1 g2 g3 ⟨some ad, m + 1, c3⟩ nilS nilS nilS nilS ++ (R3 ++ [])) (by simp))
          go_wp2_with fail
          go_roundw
          case rel => exact ⟨j + 1, s + y, by omega, rfl, by go_num, by omega, by omega, HN, HV⟩
          case measure => simp [intOf]; omega
        · obtain rfl : j = m + 1 := by omega
          have htk : (loansX k.lo.l m).take (m + 1) = loansX k.lo.l m := List.take_of_length_le (by rw [loansX_length]; exact Nat.le_refl _)
          have hF := HF.out
          rw [htk] at hF
          subst hF
          go_wp2_with fail
          go_meet
          exact ⟨rfl, s0, by omega, HZ⟩
    case rest =>
      obtain ⟨rfl, p0, p1, HS9⟩ := hcut
      clear c3x HS8
      obtain ⟨pool, hpool⟩ : ∃ p, poolF (loansX k.lo.l m) = p := ⟨_, rfl⟩
      rw [hpool] at p0 p1 ⊢
      have HP := Lib.hid hpool
      clear hpool
      go_upto_block 2 with fail
      refine notes_piece k w HK g1 g2 g3 pool p0 p1 ⟨a3, m + 1, c3⟩ nilS nilS nilS (R3 ++ []) _ HS9 _ _ _ _ _ _ _ _ _ _ _ _ _ _ _ _ _ _ _ _ _ _ _ _ _ _ _ _ _ _ _ _ _ _ _ _ _ _ _ _ _ _ _ _ _ _ _ _ _ _ _ _ _ _ _ _ _ _ _ _ _ _ _ _ _ _ _ _ _ _ _ _ _ _ _ _ _ _ _ _ _ _ _ _ _ _ _ _ _ _ _ _ _ _ _ _ _ _ _ _ _ _ _ _ _ _ _ _ _ _ _ _ _ _ _ _ _ _ _ _ _ _ _ _ _ _ _ _ _ _ _ _ _ _ _ _ _ _ _ _ _ _ _ _ _ _ _ _ _ _ _ _ _ _ _ _ _ _ _ _ _ _ _ _ _ _ _ _ _ _ _ _ _ _ _ _ _ _ _ _ _ _ _ _ _ _ _ _ ?_
      intro v7 v8 v82 v83 v84 v85 v86 v87 v88 v89 v90 v91 v92 v93 v94 v95 v96 v97 v98 v99 v100 v101 v102 v103 v104 v105 v106 v107 v108 v109 v110 v111 v112 v113 v114 v115 v116 v117 v118 w10 hcut
      obtain ⟨mN, Na, Nc, RN, m5, HMN, HRN, HS10⟩ := hcut
      clear HS9 p0 p1
      dsimp only
      go_upto_block 4 with fail
      refine steps_piece k w HK g1 g2 g3 ⟨a3, m + 1, c3⟩ ⟨Na, mN, Nc⟩ (RN ++ (R3 ++ [])) _ HS10 _ _ _ _ _ _ _ _ _ _ _ _ _ _ _ _ _ _ _ _ _ _ _ _ _ _ _ _ _ _ _ _ _ _ _ _ _ _ _ _ _ _ _ _ _ _ _ _ _ _ _ _ _ _ _ _ _ _ _ _ _ _ _ _ _ _ _ _ _ _ _ _ _ _ _ _ _ _ _ _ _ _ _ _ _ _ _ _ _ _ _ _ _ _ _ _ _ _ _ _ _ _ _ _ _ _ _ _ _ _ _ _ _ _ _ _ _ _ _ _ _ _ _ _ _ _ _ _ _ _ _ _ _ _ _ _ _ _ _ _ _ _ _ _ _ _ _ _ _ _ _ _ _ _ _ _ _ _ _ _ _ _ _ _ _ _ _ _ _ _ _ _ _ _ _ _ _ _ _ _ _ _ _ _ _ _ _ _ _ ?_
      intro v9 v10 v11 v12 v13 v15 v119 v120 v121 v122 v123 v124 v125 v126 v127 v128 v129 v130 v131 v132 v133 v134 v135 v136 v137 v138 v139 v140 v141 v142 v143 v144 v145 v146 v147 v148 v149 v150 v151 v152 v153 v154 v155 v156 v157 v158 v159 v160 v161 v162 v163 v164 v165 v166 v167 v168 v169 v170 v171 v172 v173 v174 v175 v176 v177 v178 v179 v180 v181 v182 v183 v184 v185 v186 v187 v188 v189 v190 w11 hcut
      obtain ⟨S, PP, HH, HS11⟩ := hcut
      clear HS10
      dsimp only
      go_upto_region 37 with fail
      refine deal_tail k w HK g1 g2 g3 ⟨a3, m + 1, c3⟩ ⟨Na, mN, Nc⟩ S _ _ HS11 _ _ _ _ _ _ _ _ _ _ _ _ _ _ _ _ _ _ _ _ _ _ _ _ _ _ _ _ _ _ _ _ _ _ _ _ _ _ _ _ _ _ _ _ _ _ _ _ _ _ _ _ _ _ _ _ _ _ _ _ _ _ _ _ _ _ _ _ _ _ _ _ _ _ _ _ _ _ _ _ _ _ _ _ _ _ _ _ _ _ _ _ _ _ _ _ _ _ _ _ _ _ _ _ _ _ _ _ _ _ _ _ _ _ _ _ _ _ _ _ _ _ _ _ _ _ _ _ _ _ _ _ _ _ _ _ _ _ _ _ _ _ _ _ _ _ _ _ _ _ _ _ _ _ _ _ _ _ _ _ _ _ _ _ _ _ _ _ _ _ _ _ _ _ _ _ _ _ _ _ _ _ _ _ _ _ _ _ _ _ ?_
      intro v191 w12 HFIN
      clear HS11
      dsimp only
      go_wp2_with fail
      (try simp only [Exit.inBlock, Exit.then])
      refine bodyPost_ret (results_cell_row rfl _ _ g2 _ #[.int .i64 (within k.n0 1990 2040), .int .i64 (within k.n1 1 12), .int .i64 (within k.n2 0 2), .slice a3 (m + 1) c3, .slice Na mN Nc, .int .i64 (within k.n3 0 200), .int .i64 (within k.n4 0 5000), .int .i64 (within k.n5 0 500), .int .i64 (within k.n6 0 3000), .int .i64 (within k.n7 0 3), .int .i64 (within k.t0 0 12000), .int .i64 (within k.t1 0 15000), .int .i64 (within k.t2 0 5000), .int .i64 (within k.t3 0 5000), .int .i64 (within k.t4 0 3000), .slice (S 0).a (S 0).n (S 0).c, .slice (S 1).a (S 1).n (S 1).c, .slice (S 2).a (S 2).n (S 2).c] (0, 0) _ rfl (HFIN.out.at_ 1 rfl) Try.underlying54 rfl (by kernel_rfl)) rfl ?_
      have HT := Lib.hid (show Sts w ([(g1, k.cs, 44), (g2, k.ds ⟨a3, m + 1, c3⟩ ⟨Na, mN, Nc⟩ (S 0) (S 1) (S 2), 54), (g3, k.ds ⟨a3, m + 1, c3⟩ ⟨Na, mN, Nc⟩ (S 0) (S 1) (S 2), 54)] ++ (PP ++ (RN ++ (R3 ++ [])))) w12 from HFIN.out)
      clear HFIN
      generalize [(g1, k.cs, 44), (g2, k.ds ⟨a3, m + 1, c3⟩ ⟨Na, mN, Nc⟩ (S 0) (S 1) (S 2), 54), (g3, k.ds ⟨a3, m + 1, c3⟩ ⟨Na, mN, Nc⟩ (S 0) (S 1) (S 2), 54)] = HD at *
      refine ⟨⟨a3, m + 1, c3⟩, ⟨Na, mN, Nc⟩, S, rfl, ?_⟩
      rw [← HM.out, HP.out]
      exact ⟨⟨rfl, HX.out.src (HD ++ (PP ++ RN)) [] (HT.out.lit (by simp))⟩, ⟨m5, HMN.out, HRN.out.src (HD ++ PP) (R3 ++ []) (HT.out.lit (by simp))⟩, fun j hj => ⟨(HH.out j hj).1.src HT.out, (HH.out j hj).2⟩, HT.out.bel⟩
end Go.Proofs.Yticddmmbphoioaa

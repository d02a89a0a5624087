import Derived.Test.YtefidbfhcpcgjaaRowsIn
namespace Go.Proofs.Ytefidbfhcpcgjaa
open Go.RowKit
set_option linter.unusedVariables false
set_option linter.unusedSimpArgs false
attribute [local go_sem] bmax2 bmin2 bmax_two bmin_two bmax_three bmin_three
set_option maxHeartbeats 16000000 in
set_option maxRecDepth 100000 in
theorem frameMany_walk (A1 : Option Addr) (n1 c1 : Nat) (ps : List Prt) (seq cut : Int) (w : World) (h1 : RowsIn w A1 n1 c1 ps) (hq : -9223372036854775808 ≤ seq ∧ seq ≤ 9223372036854775807) (hu : -9223372036854775808 ≤ cut ∧ cut ≤ 9223372036854775807) :
    Calls Try.prog 12 #[.slice A1 n1 c1, .int .i64 seq, .int .i64 cut] w fun e w' => e = .returned (.bool true) ∧ Below w.heap.size w w' := by
  obtain ⟨i0, hi, hz, hs1, hs2⟩ := info_parts byte_info
  obtain ⟨i1, ri, rz, rs1, rs2⟩ := info_parts rows_info
  clear hq hu
  obtain ⟨N, hN⟩ : ∃ m, m = min n1 8 := ⟨_, rfl⟩
  obtain ⟨qs, hqs⟩ : ∃ qs, qs = (ps.take 8).map fun p => p.cut 60 := ⟨_, rfl⟩
  have hpl : ps.length = n1 := by have := h1.src.1; simpa using this
  have hqn : qs.length = N := by rw [hqs, List.length_map, List.length_take, hpl]; omega
  have hqat : ∀ i : Nat, i < N → ∃ p, ps[i]? = some p ∧ qs[i]? = some (p.cut 60) ∧ BytesIn w p.a p.n p.cap p.l := by
    intro i hi
    have h2 : i < ps.length := by omega
    refine ⟨ps[i], List.getElem?_eq_getElem h2, ?_, h1.each _ (List.getElem_mem h2)⟩
    rw [hqs, List.getElem?_map, List.getElem?_take, if_pos (by omega), List.getElem?_eq_getElem h2]; rfl
  obtain ⟨ts, hts⟩ : ∃ ts, ts = qs.map Prt.l := ⟨_, rfl⟩
  have htn : ts.length = N := by rw [hts, List.length_map, hqn]
  have htat : ∀ (i : Nat) (q : Prt), qs[i]? = some q → ts[i]? = some q.l := fun i q h => by rw [hts, List.getElem?_map, h]; rfl
  have hqb : ∀ q ∈ qs, Src w q.a q.n 1 (bs q.l) ∧ Byt q.l ∧ q.n ≤ 60 ∧ q.n ≤ q.cap ∧ q.l.length = q.n := by
    intro q hq
    rw [hqs] at hq
    obtain ⟨p, hp, rfl⟩ := List.mem_map.1 hq
    have hb := h1.each p (List.mem_of_mem_take hp)
    have hs : Src w p.a (min p.n 60) 1 (bs (p.l.take (min p.n 60))) := hb.src.cutHi (Nat.min_le_left _ _)
    exact ⟨hs, hb.byt.take _, Nat.min_le_right _ _, Nat.le_trans (Nat.min_le_left _ _) hb.le, hs.len⟩
  have hfit : Fit ts := by
    intro t ht
    rw [hts] at ht
    obtain ⟨q, hq, rfl⟩ := List.mem_map.1 ht
    obtain ⟨_, a, b, _, c⟩ := hqb q hq
    exact ⟨a, by omega⟩
  obtain ⟨k, hk⟩ : ∃ k, within seq 0 1073741824 = k := ⟨_, rfl⟩
  obtain ⟨k0, k1⟩ : 0 ≤ k ∧ k ≤ 1073741824 := by rw [← hk]; exact within_bd seq (by omega)
  have HK := Lib.hid hk
  have HPS := Lib.hid h1.src
  have HQN := Lib.hid hqn; have HQA := Lib.hid hqat; have HTN := Lib.hid htn; have HTA := Lib.hid htat; have HQB := Lib.hid hqb; have HF := Lib.hid hfit
  have n1N : N ≤ 8 := by omega
  have n1M : N ≤ n1 := by omega
  have n1S : N < n1 → N = 8 := by omega
  have n1c := h1.cap; have n1d := h1.le
  clear hk hqs hpl hqn hqat hts htn htat hqb hfit hN h1
  have HS0 := Lib.hid (Sts.nil w)
  go_enter Try.func12, Try.ntmps12
  go_wp2_with fail
  refine (within_calls seq 0 1073741824 _ (by omega) (by omega) (by omega)).mono ?_
  rw [HK.out]
  rintro e w' ⟨rfl, rfl⟩
  go_wp2_with fail
  go_loopw [7, 8, 10] (fun v7 v8 v10 wr => ∃ (i : Nat) (R1 R2 : List Ent) (a1 : Option Addr) (k1' : Nat) (a2 : Option Addr) (k2' M : Nat), i ≤ N ∧ v10 = .int .i64 i ∧ v8 = .slice a1 i k1' ∧ v7 = .slice a2 M k2' ∧ M ≤ 70 * i ∧ Hid (M = off ts i) ∧ Hid (Row R1 23 1 a1 i k1' ((qs.take i).map Prt.v)) ∧ Hid (Row R2 5 1 a2 M k2' (bs (framesL k (ts.take i)))) ∧ Hid (Sts w (R1 ++ (R2 ++ [])) wr)) (fun _ _ v10 _ => 8 - (intOf v10).toNat)
  case atStart => exact ⟨0, [], [], none, 0, none, 0, 0, Nat.zero_le _, rfl, rfl, rfl, by omega, Lib.hid rfl, Lib.hid (Row.nil _ _), Lib.hid (Row.nil _ _), HS0⟩
  case round =>
    clear HS0
    obtain ⟨i, R1, R2, a1, k1', a2, k2', M, hiN, rfl, rfl, rfl, hM, HM, HR1, HR2, HS⟩ := hrel
    by_cases hlt : i < N
    · obtain ⟨p, hp, hq, hb⟩ := HQA.out i hlt
      obtain ⟨ad, rfl, hcell⟩ := Parts.at_ (HPS.out.below HS.out.bel) hp
      obtain ⟨hs, hby, hq60, hqc, hql⟩ := HQB.out _ (List.mem_of_getElem? hq)
      obtain ⟨m, hm⟩ : ∃ m, (p.cut 60).n = m := ⟨_, rfl⟩
      have hm2 : min (p.n : Int) 60 = (m : Int) := by rw [← hm]; show _ = ((min p.n 60 : Nat) : Int); omega
      obtain ⟨t, ht⟩ : ∃ t, (p.cut 60).l = t := ⟨_, rfl⟩
      have hpc : (p.cut 60).cap = p.cap := rfl
      have hpa : (p.cut 60).a = p.a := rfl
      have hnx := map_next Prt.v hq
      have hvv : (p.cut 60).v = .slice p.a m p.cap := by rw [← hm]; rfl
      rw [hvv] at hnx
      have hti := HTA.out i _ hq
      rw [ht] at hti hs hby hql
      rw [hm] at hs hq60 hqc hql
      rw [hpa] at hs
      rw [hpc] at hqc
      have hos := off_succ hti
      have hfn := frames_next k hti
      rw [hql, ← HM.out] at hos
      have HNX := Lib.hid hnx; have HSQ := Lib.hid hs; have HBY := Lib.hid hby; have HOS := Lib.hid hos; have HFN := Lib.hid hfn
      have t1 : decide ((i : Int) < (n1 : Int)) = true := decide_eq_true (by omega)
      have t2 : decide ((i : Int) < 8) = true := decide_eq_true (by omega)
      have t3 : (0 : Int) ≤ i := by omega
      have t4 : (i : Int) < (n1 : Int) := by omega
      have t5 : (0 : Int) ≤ (m : Int) := by omega
      have t6 : (m : Int) ≤ (p.cap : Int) := by omega
      have pan := hb.le
      clear hp hq hb hm ht hpc hpa hnx hvv hti hs hby hql hos hfn
      generalize p.a = pa at *
      generalize p.n = pn at *
      generalize p.cap = pc at *
      go_upto_region 7 with fail
      go_quiet (fail)
      have HS2 := Lib.hid (HS.out.drewN nq)
      clear HS hcell hm2 t1 t2 t3 t4 t5 t6
      generalize wr.drewN nq = w2 at *
      go_upto_region 9 with (at_builtin; go_must (refine row_append rfl (.tmp 54) (.tmp 56) 51 rfl [] (R2 ++ []) Try.underlying51 ri rz rs1 rs2 rfl (by omega) HR1.out (HS2.out.skip _) rfl rfl (Src.new (size := 1) (m := 1) rfl rfl) (by simp [Value.oneCell']) (by omega) (by omega) ?_); rintro R1' a1' k1'' w3 hR1 hS3)
      have HR1' := Lib.hid (show Row R1' 23 1 a1' (i + 1) k1'' ((qs.take (i + 1)).map Prt.v) from HNX.out ▸ hR1)
      have HS3 := Lib.hid (show Sts w (R1' ++ (R2 ++ [])) w3 from hS3)
      clear hR1 hS3 HS2 HNX
      go_wp2_with fail
      refine (seal_any (HSQ.out.below HS3.out.bel) HBY.out (by omega) (by omega) (by omega)).mono ?_
      rintro e w4 ⟨a4, c4, rfl, hP4, hb4, hc4, hcc4⟩
      have HP4 := Lib.hid hP4
      have HS4 := Lib.hid (HS3.out.below hb4)
      clear hP4 hb4 HS3
      go_wp2_with (at_builtin; go_must (refine row_append rfl (.tmp 58) (.tmp 63) 23 rfl R1' [] Try.underlying23 hi hz hs1 hs2 rfl (by omega) HR2.out HS4.out rfl rfl HP4.out (bs_one _) (by omega) (by omega) ?_); rintro R2' a2' k2'' w5 hR2 hS5)
      have HR2' := Lib.hid (show Row R2' 5 1 a2' (M + (m + 10)) k2'' (bs (framesL k (ts.take (i + 1)))) from by rw [HFN.out, bs_app]; exact hR2)
      have HS5 := Lib.hid hS5
      clear hR2 hS5
      go_roundw
      case rel => exact ⟨i + 1, R1', R2', a1', k1'', a2', k2'', M + (m + 10), by omega, by go_num, rfl, rfl, by omega, Lib.hid (by rw [HOS.out]; omega), HR1', HR2', HS5⟩
      case measure => simp [intOf]; omega
    · obtain rfl : i = N := by omega
      have e1 : Hid (framesL k (ts.take i) = framesL k ts) := Lib.hid (by rw [List.take_of_length_le (by rw [HTN.out]; exact Nat.le_refl _)])
      have e2 : Hid ((qs.take i).map Prt.v = qs.map Prt.v) := Lib.hid (by rw [List.take_of_length_le (by rw [HQN.out]; exact Nat.le_refl _)])
      have PO := Lib.hid (show Src wr a1 i 1 (qs.map Prt.v) from e2.out ▸ HR1.out.srcIn HS.out fun _ h => List.mem_append_left _ h)
      have PA := Lib.hid (show Src wr a2 M 1 (bs (framesL k ts)) from e1.out ▸ HR2.out.srcIn HS.out fun _ h => List.mem_append_right _ (List.mem_append_left _ h))
      have YA := Lib.hid (frames_byt HF.out k)
      have mc := HR2.out.le; have mcc := HR2.out.cap_le; have oc := HR1.out.le; have occ := HR1.out.cap_le
      have BW := Lib.hid HS.out.bel
      have HQS := Lib.hid (fun q hq => (HQB.out q hq).1.below HS.out.bel)
      have n8 : (i : Int) < (n1 : Int) → (i : Int) = 8 := by intro h; have := n1S (by omega); omega
      clear HR1 HR2 HS e1 e2 HPS HQA
      have hl1 : (i < n1 → i = 8) := n1S
      clear n8 hlt n1S
      by_cases hin : i < n1
      all_goals
        first | (have t1 : decide (i < n1) = false := decide_eq_false hin) | (have t1 : decide (i < n1) = true := decide_eq_true hin; have t2 : decide ((i : Int) < 8) = false := decide_eq_false (by omega))
        clear hl1 hiN
        obtain ⟨wo, rfl⟩ : ∃ wo : World, wo = wr := ⟨_, rfl⟩
        go_wp2_with fail
        go_loopw [12, 67] (fun v12 v67 wx => ∃ (j o : Nat), j ≤ i ∧ v67 = .int .i64 j ∧ v12 = .int .i64 o ∧ o ≤ M ∧ Hid (o = off ts j) ∧ Hid (Below wo.heap.size wo wx)) (fun _ v67 _ => i - (intOf v67).toNat)
        case atStart => exact ⟨0, 0, Nat.zero_le _, rfl, rfl, by omega, Lib.hid rfl, Lib.hid (Below.refl _ _)⟩
        case round =>
          obtain ⟨j, o, hj, rfl, rfl, hoM, HO, HB⟩ := hrel
          by_cases hlt : j < i
          · obtain ⟨q, hq⟩ : ∃ q, qs[j]? = some q := ⟨_, List.getElem?_eq_getElem (by rw [HQN.out]; exact hlt)⟩
            obtain ⟨ad, rfl, hcell⟩ := Parts.at_ (PO.out.below HB.out) hq
            have hs := (HQS.out q (List.mem_of_getElem? hq)).below HB.out
            obtain ⟨_, hby, hq60, hqc, hql⟩ := HQB.out q (List.mem_of_getElem? hq)
            have hti := HTA.out j q hq
            have hop := open_frame HF.out k0 (by rw [HTN.out]; omega) hti
            have hos := off_succ hti
            have hol := off_le ts (show j + 1 ≤ i by omega)
            rw [← HO.out, hql] at hop hos
            rw [← HM.out, hos] at hol
            have HSQ := Lib.hid hs; have HOP := Lib.hid hop; have HOS := Lib.hid hos
            clear hq hs hti hop hos hql
            obtain ⟨qa, qn, qc, ql⟩ := q
            simp only at hcell hq60 hqc hol
            have b1 : (k + (j : Int) != k + (j : Int)) = false := by simp
            have b2 : ((o : Int) + qn + 10 != (o : Int) + qn + 10) = false := by simp
            go_wp2_with fail
            refine (open_is (PA.out.below HB.out) mc mcc YA.out (by omega) (by omega) _ _ _ _ HOP.out).mono ?_
            rintro e w7 ⟨a7, c7, m7, rfl, hP7, hb7, hm7, hmc7, hcc7⟩
            have HP7 := Lib.hid hP7
            have HB7 := Lib.hid (bel_then HB.out hb7 HB.out.size)
            have HSQ7 := Lib.hid (HSQ.out.below hb7)
            have hm8 : m7 ≤ 1000000 := by have := HSQ7.out.len; omega
            clear hP7 hb7 hm7
            go_wp2_with fail
            refine (same_yes ql ql HP7.out HSQ7.out hm8 (by omega) rfl).mono ?_
            rintro e w8 ⟨rfl, n8, hw8⟩
            have HB8 : Hid (Below wo.heap.size wo w8) := Lib.hid (by rw [hw8]; exact bel_drewN HB7.out _)
            clear hw8
            go_wp2
            go_roundw
            case rel => exact ⟨j + 1, o + qn + 10, by omega, by go_num, by go_num, hol, Lib.hid HOS.out.symm, HB8⟩
            case measure => simp [intOf]; omega
          · obtain rfl : j = i := by omega
            obtain rfl : o = M := by rw [HM.out, HO.out]
            have hend := open_end (k := k) (ts := ts) (i := j) (by rw [HTN.out]; exact Nat.le_refl _)
            rw [← HM.out] at hend
            have HEND := Lib.hid hend
            have b0 : ((o : Int) != o) = false := by simp
            have BX := Lib.hid (bel_then BW.out HB.out BW.out.size)
            have PA1 := Lib.hid (PA.out.below HB.out)
            have PO1 := Lib.hid (PO.out.below HB.out)
            clear hend PA PO HQS BW HB
            go_wp2_with fail
            refine (open_is PA1.out mc mcc YA.out (by omega) (by omega) _ _ _ _ HEND.out).mono ?_
            rintro e w7 ⟨a7, c7, m7, rfl, hP7, hb7, hm7, hmc7, hcc7⟩
            have BX2 := Lib.hid (bel_then BX.out hb7 BX.out.size)
            have PA2 := Lib.hid (PA1.out.below hb7)
            have PO2 := Lib.hid (PO1.out.below hb7)
            clear hP7 hb7 hm7 hmc7 hcc7 PA1 PO1 BX HEND
            go_wp2_with fail
            obtain ⟨c, hc, hcM⟩ : ∃ c : Nat, within cut 0 (o : Int) = c ∧ c ≤ o := by
              have := within_bd cut (lo := 0) (hi := (o : Int)) (by omega)
              exact ⟨(within cut 0 (o : Int)).toNat, by omega, by omega⟩
            have HC := Lib.hid hc
            clear hc
            refine (within_calls cut 0 (o : Int) _ (by omega) (by omega) (by omega)).mono ?_
            rw [HC.out]
            rintro e w' ⟨rfl, rfl⟩
            have PC := Lib.hid (PA2.out.cutHi (k := c) hcM)
            have YC := Lib.hid (YA.out.take c)
            have cc1 : c ≤ k2' := by omega
            have cc2 : (c : Int) ≤ (k2' : Int) := by omega
            clear PA2
            go_wp2_with fail
            go_loopw [24, 25, 26] (fun v24 v25 v26 wx => ∃ (r : Nat) (pp hh : Int), v24 = .int .i64 r ∧ v25 = .int .i64 pp ∧ v26 = .int .i64 hh ∧ r ≤ j ∧ Hid (Below w7.heap.size w7 wx) ∧ ((∃ q : Nat, pp = q ∧ hh = 0 ∧ q ≤ c ∧ Hid (q = off ts r)) ∨ (pp = 0 ∧ hh = 1 ∧ Hid (r = cntTo ts c j)))) (fun v24 _ v26 _ => (20 - (intOf v24).toNat) + (1 - (intOf v26).toNat))
            case atStart => exact ⟨0, 0, 0, rfl, rfl, rfl, Nat.zero_le _, Lib.hid (Below.refl _ _), .inl ⟨0, rfl, rfl, by omega, Lib.hid rfl⟩⟩
            case round =>
              obtain ⟨r, pp, hh, rfl, rfl, rfl, hr, HB, hcase⟩ := hrel
              rcases hcase with ⟨q, rfl, rfl, hqc, HQ⟩ | ⟨rfl, rfl, HR⟩
              · by_cases hfit : r < j ∧ off ts (r + 1) ≤ c
                · obtain ⟨hrj, hle⟩ := hfit
                  obtain ⟨t, ht⟩ : ∃ t, ts[r]? = some t := ⟨_, List.getElem?_eq_getElem (by rw [HTN.out]; exact hrj)⟩
                  have hop := open_in HF.out k0 (by rw [HTN.out]; omega) ht hle
                  have hos := off_succ ht
                  rw [← HQ.out] at hop hos
                  rw [hos] at hle
                  generalize t.length = tl at *
                  have HOP := Lib.hid hop; have HOS := Lib.hid hos
                  clear ht hop hos
                  go_wp2_with fail
                  refine (open_is (PC.out.below HB.out) cc1 mcc YC.out (by omega) hqc _ _ _ _ HOP.out).mono ?_
                  rintro e w9 ⟨a9, c9, m9, rfl, hP9, hb9, hm9, hmc9, hcc9⟩
                  have HB9 := Lib.hid (bel_then HB.out hb9 HB.out.size)
                  clear hP9 hb9 hm9 hmc9 hcc9
                  have d1 : decide (20 < (r : Int) + 1) = false := decide_eq_false (by omega)
                  go_wp2
                  go_roundw
                  case rel => exact ⟨r + 1, _, 0, by go_num, rfl, rfl, by omega, HB9, .inl ⟨q + tl + 10, by omega, rfl, hle, Lib.hid HOS.out.symm⟩⟩
                  case measure => simp [intOf]; omega
                · have hop : openL ((framesL k ts).take c) q = ([], 0, 0, 1) ∧ r = cntTo ts c j := by
                    by_cases hrj : r < j
                    · obtain ⟨t, ht⟩ : ∃ t, ts[r]? = some t := ⟨_, List.getElem?_eq_getElem (by rw [HTN.out]; exact hrj)⟩
                      rw [HQ.out] at hqc ⊢
                      exact ⟨open_over HF.out ht hqc (by omega), (cnt_stop ts c r hqc (by omega) j (by omega)).symm⟩
                    · obtain rfl : r = j := by omega
                      rw [HQ.out] at hqc ⊢
                      have hM := HM.out
                      exact ⟨open_over_end (by rw [HTN.out]; exact Nat.le_refl _) (by omega), (cnt_full ts c _ hqc).symm⟩
                  obtain ⟨hop, hcn⟩ := hop
                  have HOP := Lib.hid hop; have HCN := Lib.hid hcn
                  clear hop hcn hfit
                  go_wp2_with fail
                  refine (open_is (PC.out.below HB.out) cc1 mcc YC.out (by omega) hqc _ _ _ _ HOP.out).mono ?_
                  rintro e w9 ⟨a9, c9, m9, rfl, hP9, hb9, hm9, hmc9, hcc9⟩
                  have HB9 := Lib.hid (bel_then HB.out hb9 HB.out.size)
                  clear hP9 hb9 hm9 hmc9 hcc9
                  have d1 : decide (20 < (r : Int)) = false := decide_eq_false (by omega)
                  go_wp2
                  go_roundw
                  case rel => exact ⟨r, 0, 1, rfl, rfl, rfl, hr, HB9, .inr ⟨rfl, rfl, HCN⟩⟩
                  case measure => simp [intOf]
              · go_wp2_with fail
                go_loop [27, 28, 146] (fun v27 v28 v146 => ∃ (y cn oo : Nat), y ≤ j ∧ v146 = .int .i64 y ∧ v27 = .int .i64 cn ∧ v28 = .int .i64 oo ∧ cn ≤ y ∧ oo ≤ 70 * y ∧ Hid (cn = cntTo ts c y) ∧ Hid (oo = off ts y)) (fun _ _ v146 => j - (intOf v146).toNat)
                case atStart => exact ⟨0, 0, 0, Nat.zero_le _, rfl, rfl, rfl, by omega, by omega, Lib.hid rfl, Lib.hid rfl⟩
                case round =>
                  obtain ⟨y, cn, oo, hy, rfl, rfl, rfl, hcny, hoo, HCN, HOO⟩ := hrel
                  by_cases hlt2 : y < j
                  · obtain ⟨q, hq⟩ : ∃ q, qs[y]? = some q := ⟨_, List.getElem?_eq_getElem (by rw [HQN.out]; exact hlt2)⟩
                    obtain ⟨ad, rfl, hcell⟩ := Parts.at_ (PO2.out.below HB.out) hq
                    obtain ⟨_, hby, hq60, hqc, hql⟩ := HQB.out q (List.mem_of_getElem? hq)
                    have hti := HTA.out y q hq
                    have hos := off_succ hti
                    rw [← HOO.out, hql] at hos
                    have hcs : cntTo ts c (y + 1) = cntTo ts c y + if off ts (y + 1) ≤ c then 1 else 0 := rfl
                    rw [← HCN.out, hos] at hcs
                    obtain ⟨qa, qn, qcap, ql⟩ := q
                    simp only at hcell hq60 hos hcs
                    have HOS := Lib.hid hos
                    clear hq hti hos hql hby hqc
                    by_cases hfit : oo + qn + 10 ≤ c
                    · rw [if_pos hfit] at hcs
                      have HCS := Lib.hid hcs
                      have d1 : decide ((oo : Int) + qn + 10 ≤ (c : Int)) = true := decide_eq_true (by omega)
                      clear hcs
                      go_wp2
                      go_round
                      case rel => exact ⟨y + 1, cn + 1, oo + qn + 10, by omega, by go_num, by go_num, by go_num, by omega, by omega, Lib.hid HCS.out.symm, Lib.hid HOS.out.symm⟩
                      case measure => simp [intOf]; omega
                    · rw [if_neg hfit] at hcs
                      have HCS := Lib.hid hcs
                      have d1 : decide ((oo : Int) + qn + 10 ≤ (c : Int)) = false := decide_eq_false (by omega)
                      clear hcs
                      go_wp2
                      go_round
                      case rel => exact ⟨y + 1, cn, oo + qn + 10, by omega, by go_num, rfl, by go_num, by omega, by omega, Lib.hid HCS.out.symm, Lib.hid HOS.out.symm⟩
                      case measure => simp [intOf]; omega
                  · obtain rfl : y = j := by omega
                    obtain rfl : r = cn := by rw [HR.out, HCN.out]
                    have d1 : ((r : Int) == r) = true := by simp
                    have BY := Lib.hid (bel_then BX2.out HB.out BX2.out.size)
                    clear HB BX2
                    go_wp2_with fail
                    refine (frameRuns_b BY.out).mono ?_
                    rintro e w15 ⟨rfl, hb15⟩
                    have B15 := Lib.hid hb15
                    clear hb15
                    go_wp2
                    go_ret
                    exact ⟨rfl, B15.out⟩
end Go.Proofs.Ytefidbfhcpcgjaa


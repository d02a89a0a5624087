import Derived.Test.YtllbpjaiplnbnaaLossT2
namespace Go.Proofs.Ytllbpjaiplnbnaa
open Go.RowKit
set_option linter.unusedVariables false
set_option linter.unusedSimpArgs false
/-! ### LossTells: what the program shares out is what the document says -/
theorem ptr_infoT : (Try.prog.info? 37).map (fun i => (i.zero, i.size, i.bytes)) = some (some (.pointer none), 1, 8) := by kernel_rfl
theorem pvs_oneT (l : List (Option (Nat × Nat))) : ∀ u ∈ l.map ptrV, u.oneCell' = true := by
  intro u hu
  obtain ⟨x, _, rfl⟩ := List.mem_map.1 hu
  cases x <;> rfl
theorem take_map_next (f : Nt → Int) {zs : List Nt} {k : Nat} {z : Nt} (hz : zs[k]? = some z) : (zs.take (k + 1)).map f = (zs.take k).map f ++ [f z] := by
  rw [List.take_add_one, hz]; simp
theorem getD_at {l : List Nt} {k : Nat} {z : Nt} (f : Nt → Int) (h : l[k]? = some z) : (l.map f).getD k 0 = f z := getD_map f l k z h
/-- What holds of a note whatever was written down. -/
structure Fit (z : Nt) : Prop where
  r0 : 0 ≤ z.r
  r1 : z.r ≤ 3
  og0 : 0 ≤ z.og
  og1 : z.og ≤ 900
  rt : z.rt = 0
  sh : z.sh = 0
  j : z.j = 0
  i0 : 0 ≤ z.i
  i1 : z.i ≤ z.og
theorem Made.fit {z : Nt} (h : Made z) : Fit z := ⟨h.r0, h.r1, h.og0, h.og1, h.rt, h.sh, h.j, h.i0, h.i1⟩
theorem same_fit {zs zs' : List Nt} (h : SameN zs zs') (hf : ∀ z ∈ zs, Fit z) : ∀ z ∈ zs', Fit z := by
  intro z hz
  obtain ⟨k, hk⟩ := List.mem_iff_getElem?.1 hz
  have hkl : k < zs.length := by rw [← h.1]; exact (List.getElem?_eq_some_iff.1 hk).1
  obtain ⟨d, hd⟩ := h.2 k _ (List.getElem?_eq_getElem hkl)
  rw [hk] at hd
  obtain rfl := Option.some.inj hd
  have hq := hf _ (List.getElem_mem hkl)
  exact ⟨hq.r0, hq.r1, hq.og0, hq.og1, hq.rt, hq.sh, hq.j, hq.i0, hq.i1⟩
theorem fit_ranks {zs : List Nt} {m : Nat} (hl : zs.length = m) (hf : ∀ z ∈ zs, Fit z) : ∀ i, i < m → 0 ≤ (zs.map Nt.r).getD i 0 ∧ (zs.map Nt.r).getD i 0 ≤ 1000 := by
  intro i hi
  have hz : zs[i]? = some (zs[i]'(by omega)) := List.getElem?_eq_getElem (by omega)
  have hq := hf _ (List.getElem_mem (by omega : i < zs.length))
  rw [getD_at Nt.r hz]
  have := hq.r0; have := hq.r1
  omega
theorem fit_sum {zs : List Nt} {m : Nat} (hl : zs.length = m) (hf : ∀ z ∈ zs, Fit z) : ∀ i, i < m → (zs.map Nt.bal).getD i 0 + (zs.map Nt.dn).getD i 0 ≤ 900 := by
  intro i hi
  have hz : zs[i]? = some (zs[i]'(by omega)) := List.getElem?_eq_getElem (by omega)
  have hq := hf _ (List.getElem_mem (by omega : i < zs.length))
  rw [getD_at Nt.bal hz, getD_at Nt.dn hz]
  have := hq.og1; have := hq.i0; have := hq.j
  unfold Nt.bal
  omega
attribute [local go_sem] bmax2 bmin2 bmax_two bmin_two bmax_three bmin_three
set_option maxHeartbeats 2000000 in
set_option maxRecDepth 100000 in
theorem clip_calls (x : Int) (w : World) : Calls Try.prog 39 #[.int .i64 x] w fun e w' => e = .returned (.int .i64 (max x 0)) ∧ Below w.heap.size w w' := by
  go_enter Try.func39, Try.ntmps39
  go_wp2
  go_ret
  exact ⟨rfl, Below.refl _ _⟩
set_option maxHeartbeats 2000000 in
set_option maxRecDepth 100000 in
theorem refTarget_calls (p q r s : Int) (w : World) (p0 : -1152921504606846976 ≤ p) (p1 : p ≤ 1152921504606846976) (q0 : -1152921504606846976 ≤ q) (q1 : q ≤ 1152921504606846976) (r0 : -1152921504606846976 ≤ r) (r1 : r ≤ 1152921504606846976) (s0 : -1152921504606846976 ≤ s) (s1 : s ≤ 1152921504606846976) :
    Calls Try.prog 31 #[.int .i64 p, .int .i64 q, .int .i64 r, .int .i64 s] w fun e w' => e = .returned (.int .i64 (targ p q r s)) ∧ Below w.heap.size w w' := by
  have HS0 := Lib.hid (Sts.nil w)
  go_enter Try.func31, Try.ntmps31
  go_wp2_with fail
  refine (clip_calls (p - q) w).mono ?_
  rintro e w1 ⟨rfl, hb⟩
  have HS1 := Lib.hid (HS0.out.below hb)
  clear hb
  go_wp2_with fail
  refine (clip_calls (r - s) w1).mono ?_
  rintro e w2 ⟨rfl, hb⟩
  have HS2 := Lib.hid (HS1.out.below hb)
  clear hb
  go_wp2_with fail
  refine (clip_calls p w2).mono ?_
  rintro e w3 ⟨rfl, hb⟩
  have HS3 := Lib.hid (HS2.out.below hb)
  clear hb
  go_wp2_with fail
  go_ret
  exact ⟨rfl, HS3.out.bel⟩
set_option maxHeartbeats 32000000 in
set_option maxRecDepth 1000000 in
theorem lossTells_walk (A1 : Option Addr) (n1 c1 : Nat) (zi : List Int) (A2 : Option Addr) (n2 c2 : Nat) (ts : List Int) (pa pb pc pd : Int) (w : World) (h1 : Ints w A1 n1 zi) (h2 : Ints w A2 n2 ts) (ha : -9223372036854775808 ≤ pa ∧ pa ≤ 9223372036854775807) (hb : -9223372036854775808 ≤ pb ∧ pb ≤ 9223372036854775807) (hc : -9223372036854775808 ≤ pc ∧ pc ≤ 9223372036854775807) (hd : -9223372036854775808 ≤ pd ∧ pd ≤ 9223372036854775807) :
    Calls Try.prog 10 #[.slice A1 n1 c1, .slice A2 n2 c2, .int .i64 pa, .int .i64 pb, .int .i64 pc, .int .i64 pd] w fun e w' => e = .returned (.bool true) ∧ Below w.heap.size w w' := by
  obtain ⟨i1, pi, pz, ps1, ps2⟩ := info_parts ptr_infoT
  have H1 := Lib.hid h1; have H2 := Lib.hid h2
  clear h1 h2
  go_enter Try.func10, Try.ntmps10
  go_wp2_with fail
  refine (notes_calls A1 n1 c1 zi w H1.out).mono ?_
  rintro e w1 ⟨m, Ra, a, ca, hma, rfl, hRa, hSa⟩
  have hm6 : m ≤ 6 := by omega
  obtain ⟨ga, hNa⟩ := NRow.of hRa
  have hzl := notesN_length zi m
  have hmade := notesN_made zi m
  generalize notesN zi m = zs at *
  have HA := Lib.hid hNa; have HL := Lib.hid hzl; have HMD := Lib.hid hmade
  have HS1 := Lib.hid hSa
  clear hRa hSa hNa hzl hmade hma H1
  go_upto_block 0 with fail
  go_cut [14, 15, 16, 17, 18] from 32 to 66 (fun v14 v15 v16 v17 v18 wc => ∃ (Rr Rb Rd Rp : List Ent) (ar ab ad ap : Option Addr) (cr cb cd cp : Nat), v14 = .slice ar m cr ∧ v15 = .slice ab m cb ∧ v16 = .slice ad m cd ∧ v17 = .slice ap m cp ∧ Hid (Row Rr 3 1 ar m cr (ivs (zs.map Nt.r))) ∧ Hid (Row Rb 3 1 ab m cb (ivs (zs.map Nt.bal))) ∧ Hid (Row Rd 3 1 ad m cd (ivs (zs.map Nt.dn))) ∧ Hid (Row Rp 37 1 ap m cp ((ptrs ga m).map ptrV)) ∧ Hid (Sts w (Rr ++ (Rb ++ (Rd ++ (Rp ++ (Ra ++ []))))) wc))
  case first =>
    go_wp2_with fail
    go_loopw [14, 15, 16, 17, 32] (fun v14 v15 v16 v17 v32 wr => ∃ (k : Nat) (Rr Rb Rd Rp : List Ent) (ar ab ad ap : Option Addr) (cr cb cd cp : Nat), k ≤ m ∧ v14 = .slice ar k cr ∧ v15 = .slice ab k cb ∧ v16 = .slice ad k cd ∧ v17 = .slice ap k cp ∧ v32 = .int .i64 k ∧ Hid (Row Rr 3 1 ar k cr (ivs ((zs.take k).map Nt.r))) ∧ Hid (Row Rb 3 1 ab k cb (ivs ((zs.take k).map Nt.bal))) ∧ Hid (Row Rd 3 1 ad k cd (ivs ((zs.take k).map Nt.dn))) ∧ Hid (Row Rp 37 1 ap k cp ((ptrs ga k).map ptrV)) ∧ Hid (Sts w (Rr ++ (Rb ++ (Rd ++ (Rp ++ (Ra ++ []))))) wr)) (fun _ _ _ _ v32 _ => m - (intOf v32).toNat)
    case atStart => exact ⟨0, [], [], [], [], none, none, none, none, 0, 0, 0, 0, by omega, rfl, rfl, rfl, rfl, rfl, Lib.hid (Row.nil _ _), Lib.hid (Row.nil _ _), Lib.hid (Row.nil _ _), Lib.hid (Row.nil _ _), Lib.hid (HS1.out.lit (by simp))⟩
    case round =>
      obtain ⟨k, Rr, Rb, Rd, Rp, ar, ab, ad, ap, cr, cb, cd, cp, hk, rfl, rfl, rfl, rfl, rfl, HR, HB, HD, HP, HS⟩ := hrel
      clear HS1
      by_cases hlt : k < m
      · obtain ⟨z, hz⟩ : ∃ z, zs[k]? = some z := ⟨_, List.getElem?_eq_getElem (by rw [HL.out]; exact hlt)⟩
        have hmd := HMD.out z (List.mem_of_getElem? hz)
        have hr' := take_map_next Nt.r hz
        have hb' := take_map_next Nt.bal hz
        have hd' := take_map_next Nt.dn hz
        obtain ⟨r, og, rt, pi', j, sh, dn⟩ := z
        obtain ⟨m1, m2, m3, m4, m5, m6, m7, m8, m9, m10, m11⟩ := hmd
        simp only at m1 m2 m3 m4 m5 m6 m7 m8 m9 m10 m11
        subst m5 m6 m7
        obtain ⟨hA, _⟩ := HA.out.cells (A := Rr ++ (Rb ++ (Rd ++ Rp))) (B := []) (HS.out.lit (by simp)) hz
        subst hA
        have i1 : (0 : Int) ≤ (k : Int) := by omega
        have i2 : (k : Int) < (m : Int) := by omega
        simp only [Nt.bal] at hb'
        have HR' := Lib.hid hr'; have HB' := Lib.hid hb'; have HD' := Lib.hid hd'
        have HBL := Lib.hid (show ∀ W, Calls Try.prog 17 #[nv r og 0 pi' 0 0 dn] W (fun e w' => e = .returned (.int .i64 (og - (pi' - 0) - dn)) ∧ Below W.heap.size W w') from fun p => balance_calls r og 0 pi' 0 0 dn p (Fair.mk_ (by omega) (by omega) (by omega) (by omega) (by omega) (by omega) (by omega) (by omega) (by omega)))
        have HZ := Lib.hid hz
        clear hr' hb' hd' hz m1 m2 m3 m4 m8 m9 m10 m11
        go_upto_region 7 with fail
        refine tells7 w m k ga ca cr cb cd Rr Rb Rd (Rp ++ (Ra ++ [])) ar ab ad _ _ _ r og 0 pi' 0 0 dn _ hlt hm6 HR.out HB.out HD.out (fun X W hW => (HA.out.cells (A := X ++ Rp) (B := []) (hW.lit (by simp)) HZ.out).2) HBL.out _ HS _ _ _ _ _ _ _ _ _ _ _ _ _ _ _ _ _ _ _ _ _ _ _ _ _ _ _ _ _ _ _ _ _ _ _ _ _ _ _ _ _ _ _ _ _ _ _ _ _ _ _ _ _ _ _ _ _ _ _ _ _ _ _ _ _ _ _ _ _ _ _ _ _ _ _ _ _ _ _ _ _ _ _ _ _ _ _ _ _ _ _ _ _ _ _ _ _ _ _ _ _ _ _ _ _ _ _ _ _ _ _ _ _ _ _ _ _ _ _ _ _ _ _ _ _ _ _ _ _ _ _ _ _ _ _ _ _ _ _ _ _ _ _ _ _ _ _ _ _ _ ?_
        intro v35 v36 v37 v38 v39 v40 v41 v42 v43 v44 v45 v46 v47 v48 v49 v50 v51 v52 v53 v54 v55 v56 v57 v58 v59 w5 Rr2 Rb2 Rd2 ar2 ab2 ad2 cr2 cb2 cd2 hR2 hB2 hD2 HS5
        dsimp only
        rw [← HR'.out] at hR2
        rw [← HB'.out] at hB2
        rw [← HD'.out] at hD2
        have HR2 := Lib.hid hR2; have HB2 := Lib.hid hB2; have HD2 := Lib.hid hD2
        clear hR2 hB2 hD2 HR' HB' HD' HS HR HB HD HBL HZ
        have HSQ := Lib.hid (HS5.out.lit (L' := (Rr2 ++ (Rb2 ++ Rd2)) ++ (Rp ++ (Ra ++ []))) (by simp))
        go_upto_region 9 with (at_builtin; refine row_append rfl (.tmp 60) (.tmp 64) 51 rfl (Rr2 ++ (Rb2 ++ Rd2)) (Ra ++ []) Try.underlying51 pi pz ps1 ps2 rfl (by omega) HP.out (HSQ.out.skip _) rfl rfl (Src.new (size := 1) (m := 1) rfl rfl) (pvs_oneT [some (ga, k * 7)]) (by omega) (by omega) ?_; rintro Rp2 ap2 cp2 w6 hRp' hSp'; have hRp := Lib.hid hRp'; have HS6 := Lib.hid hSp'; clear hRp' hSp' HSQ HS5 HP pi pz ps1 ps2)
        have HP2 := Lib.hid (show Row Rp2 37 1 ap2 (k + 1) cp2 ((ptrs ga (k + 1)).map ptrV) from by rw [ptrs_next, List.map_append]; exact hRp.out)
        have HS7 := Lib.hid (HS6.out.lit (L' := Rr2 ++ (Rb2 ++ (Rd2 ++ (Rp2 ++ (Ra ++ []))))) (by simp))
        clear hRp HS6
        go_wp2_with fail
        go_roundw
        case rel => exact ⟨k + 1, Rr2, Rb2, Rd2, Rp2, ar2, ab2, ad2, ap2, cr2, cb2, cd2, cp2, by omega, rfl, rfl, rfl, rfl, by go_num, HR2, HB2, HD2, HP2, HS7⟩
        case measure => simp [intOf]; omega
      · obtain rfl : k = m := by omega
        have htk : zs.take k = zs := List.take_of_length_le (by rw [HL.out]; exact Nat.le_refl _)
        rw [htk] at HR HB HD
        go_wp2_with fail
        go_meet
        exact ⟨Rr, Rb, Rd, Rp, ar, ab, ad, ap, cr, cb, cd, cp, rfl, rfl, rfl, rfl, HR, HB, HD, HP, HS⟩
  case rest =>
    obtain ⟨Rr, Rb, Rd, Rp, ar, ab, ad, ap, cr, cb, cd, cp, rfl, rfl, rfl, rfl, HR, HB, HD, HP, HS⟩ := hcut
    clear HS1 pi pz ps1 ps2
    obtain ⟨gr, hIr⟩ := IRow.of HR.out
    obtain ⟨gb, hIb⟩ := IRow.of HB.out
    obtain ⟨gd, hId⟩ := IRow.of HD.out
    have HIR := Lib.hid hIr; have HIB := Lib.hid hIb; have HID := Lib.hid hId
    have HZL := Lib.hid (fun z (hz : z ∈ zs) => (HMD.out z hz).lossy)
    have HZF := Lib.hid (fun z (hz : z ∈ zs) => (HMD.out z hz).fit)
    have HS2 := Lib.hid (HS.out.perm (L' := Rd ++ (Rb ++ (Rr ++ (Rp ++ (Ra ++ []))))) (by
      exact ((List.perm_append_comm_assoc Rb Rd _).append_left Rr).trans ((List.perm_append_comm_assoc Rr Rd _).trans ((List.perm_append_comm_assoc Rr Rb _).append_left Rd))))
    clear hIr hIb hId HR HB HD HS HMD
    go_upto_block 2 with fail
    go_cut [15, 16, 19, 20, 21, 22, 23] from 67 to 130 (fun v15 v16 v19 v20 v21 v22 v23 wc => Below w.heap.size w wc)
    case first =>
      go_wp2_with fail
      go_loopw [15, 16, 19] (fun v15 v16 v19 wr => ∃ (i : Nat) (zt : List Nt) (Ra' Rb' Rd' : List Ent) (ab' ad' : Option Addr) (cb' cd' gb' gd' : Nat), i ≤ 8 ∧ v15 = .slice ab' m cb' ∧ v16 = .slice ad' m cd' ∧ v19 = .int .i64 i ∧ Hid (SameN zs zt) ∧ Hid (∀ z ∈ zt, Lossy z) ∧ Hid (NRow Ra' a m ga zt) ∧ Hid (IRow Rb' ab' m gb' (zt.map Nt.bal)) ∧ Hid (IRow Rd' ad' m gd' (zt.map Nt.dn)) ∧ Hid (Sts w (Rd' ++ (Rb' ++ (Rr ++ (Rp ++ (Ra' ++ []))))) wr)) (fun _ _ v19 _ => 8 - (intOf v19).toNat)
      case atStart => exact ⟨0, zs, Ra, Rb, Rd, ab, ad, cb, cd, gb, gd, by omega, rfl, rfl, rfl, Lib.hid (SameN.refl zs), HZL, HA, HIB, HID, HS2⟩
      case round =>
        obtain ⟨i, zt, Ra', Rb', Rd', ab', ad', cb', cd', gb', gd', hi8, rfl, rfl, rfl, HSN, HTL, HNA, HB2, HD2, HSr⟩ := hrel
        clear HS2 HA HIB HID
        by_cases hlt : i < n2
        · by_cases hl8 : i < 8
          · obtain ⟨A2', hA2, hcell⟩ := H2.out.at_ i hlt
            have hcell2 := HSr.out.old hcell
            subst hA2
            have htb := H2.out.bd _ (List.mem_of_getElem? (show ts[i]? = some (ts.getD i 0) from by rw [List.getD_eq_getElem?_getD, List.getElem?_eq_getElem (by rw [H2.out.length]; exact hlt)]; rfl))
            obtain ⟨x, hx⟩ : ∃ x, ts.getD i 0 = x := ⟨_, rfl⟩
            rw [hx] at hcell hcell2 htb
            obtain ⟨tb0, tb1⟩ := htb
            have q0 : decide ((i : Int) < (n2 : Int)) = true := decide_eq_true (by omega)
            have q1 : decide ((i : Int) < 8) = true := decide_eq_true (by omega)
            have q2 : (0 : Int) ≤ (i : Int) := by omega
            have q3 : (i : Int) < (n2 : Int) := by omega
            obtain ⟨t, ht⟩ : ∃ t, within x (-5) 3000 = t := ⟨_, rfl⟩
            have htb := within_bd x (lo := -5) (hi := 3000) (by omega)
            have HW1 := Lib.hid (fun W => within_calls x (-5) 3000 W (by omega) (by omega) (by omega))
            rw [ht] at HW1 htb
            clear ht hx
            obtain ⟨t0, t1⟩ := htb
            go_wp2_with fail
            refine (HW1.out _).mono ?_
            rintro e w' ⟨rfl, rfl⟩
            clear HW1 hcell hcell2 tb0 tb1
            go_wp2_with fail
            refine (allot_row (A := Rd' ++ (Rb' ++ (Rr ++ Rp))) (B := []) t HNA.out (HSr.out.lit (by simp)) HTL.out (by omega) HP.out ⟨Rd' ++ (Rb' ++ Rr), [], by simp⟩ (by omega) (by omega)).mono ?_
            rintro e w6 ⟨zu, Ra2, rfl, hsh, hNa, hS6, hsn, hla⟩
            rw [same_ranks HSN.out] at hsh
            have hlent : zt.length = m := HSN.out.1.trans HL.out
            have hft := same_fit HSN.out HZF.out
            have hS6' := hS6.lit (L' := Rd' ++ (Rb' ++ (Rr ++ (Rp ++ (Ra2 ++ []))))) (by simp)
            have hR := Lib.hid (refAllot_calls (max t 0) ar ab' ad' m cr cb' cd' (zs.map Nt.r) (zt.map Nt.bal) (zt.map Nt.dn) w6 (HIR.out.src (A := Rd' ++ Rb') (B := Rp ++ (Ra2 ++ [])) (hS6'.lit (by simp))) (HB2.out.src (A := Rd') (B := Rr ++ (Rp ++ (Ra2 ++ []))) hS6') (HD2.out.src (A := []) (B := Rb' ++ (Rr ++ (Rp ++ (Ra2 ++ [])))) hS6') hm6 (by rw [List.length_map]; exact HL.out) (stN_ok hlent HTL.out) (fit_sum hlent hft) (fit_ranks HL.out HZF.out) (by omega) (by omega))
            have HSH := Lib.hid hsh; have HN2 := Lib.hid hNa; have HSN2 := Lib.hid (HSN.out.trans hsn); have HL2 := Lib.hid hla
            have HS6 := Lib.hid (show Sts w ([] ++ (Rr ++ (Rp ++ (Ra2 ++ [])))) w6 from hS6'.sub (by simp))
            clear hsh hNa hS6 hsn hla hlent hft hS6' HSr HNA HSN HTL HB2 HD2
            go_wp2_with fail
            refine hR.out.mono ?_
            rintro e w7 ⟨s', Rb3, Rd3, ab3, ad3, cb3, cd3, gb3, gd3, rfl, hsh, hB3, hD3, hS7⟩
            obtain rfl := HSH.out.fn hsh
            have HS7 := Lib.hid (show Sts w (Rd3 ++ (Rb3 ++ (Rr ++ (Rp ++ (Ra2 ++ []))))) w7 from (Sts.join [] _ HS6.out hS7).lit (by simp))
            have HB3 := Lib.hid (show IRow Rb3 ab3 m gb3 (zu.map Nt.bal) from hB3); have HD3 := Lib.hid (show IRow Rd3 ad3 m gd3 (zu.map Nt.dn) from hD3)
            clear hsh hB3 hD3 hS7 HS6 hR HSH
            go_upto_block 4 with fail
            go_cut [22, 23] from 96 to 127 (fun v22 v23 wc => v22 = .int .i64 (zu.map Nt.dn).sum ∧ Hid (Sts w (Rd3 ++ (Rb3 ++ (Rr ++ (Rp ++ (Ra2 ++ []))))) wc))
            case first =>
              go_wp2_with fail
              go_loopw [22, 96] (fun v22 v96 wr => ∃ (k : Nat) (sv : Int), k ≤ m ∧ v22 = .int .i64 sv ∧ v96 = .int .i64 k ∧ (0 ≤ sv ∧ sv ≤ 900 * k) ∧ Hid (sv = ((zu.take k).map Nt.dn).sum) ∧ Hid (Sts w (Rd3 ++ (Rb3 ++ (Rr ++ (Rp ++ (Ra2 ++ []))))) wr)) (fun _ v96 _ => m - (intOf v96).toNat)
              case atStart => exact ⟨0, 0, by omega, rfl, rfl, by omega, Lib.hid (by simp), HS7⟩
              case round =>
                obtain ⟨k, sv, hk, rfl, rfl, ⟨sv0, sv1⟩, HSV, HSk⟩ := hrel
                clear HS7
                by_cases hlk : k < m
                · obtain ⟨z, hz⟩ : ∃ z, zu[k]? = some z := ⟨_, List.getElem?_eq_getElem (by rw [HSN2.out.1, HL.out]; exact hlk)⟩
                  have hfit := same_fit HSN2.out HZF.out z (List.mem_of_getElem? hz)
                  have hlz := HL2.out z (List.mem_of_getElem? hz)
                  have hsum : ((zu.take (k + 1)).map Nt.dn).sum = ((zu.take k).map Nt.dn).sum + z.dn := take_next Nt.dn zu k z hz
                  have l0 := hlz.bal; have l1 := hlz.dn0
                  have gB := getD_at Nt.bal hz; have gD := getD_at Nt.dn hz
                  obtain ⟨r, og, rt, pi', j, sh, dn⟩ := z
                  obtain ⟨m1, m2, m3, m4, m5, m6, m7, m8, m9⟩ := hfit
                  simp only [Nt.bal] at m1 m2 m3 m4 m5 m6 m7 m8 m9 l0 l1 gB gD
                  subst m5 m6 m7
                  obtain ⟨hA, _⟩ := HN2.out.cells (A := Rd3 ++ (Rb3 ++ (Rr ++ Rp))) (B := []) (HSk.out.lit (by simp)) hz
                  subst hA
                  obtain ⟨hB, _⟩ := HB3.out.cell (A := Rd3) (B := Rr ++ (Rp ++ (Ra2 ++ []))) HSk.out hlk
                  obtain ⟨hD, hDc, _⟩ := HD3.out.cell (A := []) (B := Rb3 ++ (Rr ++ (Rp ++ (Ra2 ++ [])))) HSk.out hlk
                  subst hB hD
                  obtain ⟨bl, hbl⟩ : ∃ b, og - (pi' - 0) - dn = b := ⟨_, rfl⟩
                  have HBL := Lib.hid (show ∀ W, Calls Try.prog 17 #[nv r og 0 pi' 0 0 dn] W (fun e w' => e = .returned (.int .i64 bl) ∧ Below W.heap.size W w') from by rw [← hbl]; exact fun p => balance_calls r og 0 pi' 0 0 dn p (Fair.mk_ (by omega) (by omega) (by omega) (by omega) (by omega) (by omega) (by omega) (by omega) (by omega)))
                  have HSUM := Lib.hid (show sv + dn = ((zu.take (k + 1)).map Nt.dn).sum from by rw [hsum, ← HSV.out])
                  have dn1 : dn ≤ 900 := by omega
                  have i1 : (0 : Int) ≤ (k : Int) := by omega
                  have i2 : (k : Int) < (m : Int) := by omega
                  have HZ := Lib.hid hz; have GB := Lib.hid gB; have GD := Lib.hid gD
                  rw [hbl] at GB
                  clear hDc hz gB gD hbl hsum HSV hlz m1 m2 m3 m4 m8 m9 l0
                  go_upto_region 20 with fail
                  refine tells20 w (Rd3 ++ (Rb3 ++ (Rr ++ (Rp ++ (Ra2 ++ []))))) m k ga gb3 gd3 ca cb3 cd3 r og 0 pi' 0 0 dn bl hlk hm6 (fun W hW => ⟨(HN2.out.cells (A := Rd3 ++ (Rb3 ++ (Rr ++ Rp))) (B := []) (hW.lit (by simp)) HZ.out).2, by rw [← GB.out]; exact (HB3.out.cell (A := Rd3) (B := Rr ++ (Rp ++ (Ra2 ++ []))) hW hlk).2.1, by rw [← GD.out]; exact (HD3.out.cell (A := []) (B := Rb3 ++ (Rr ++ (Rp ++ (Ra2 ++ [])))) hW hlk).2.1⟩) HBL.out _ HSk _ _ _ _ _ _ _ _ _ _ _ _ _ _ _ _ _ _ _ _ _ _ _ _ _ _ _ _ _ _ _ _ _ _ _ _ _ _ _ _ _ _ _ _ _ _ _ _ _ _ _ _ _ _ _ _ _ _ _ _ _ _ _ _ _ _ _ _ _ _ _ _ _ _ _ _ _ _ _ _ _ _ _ _ _ _ _ _ _ _ _ _ _ _ _ _ _ _ _ _ _ _ _ _ _ _ _ _ _ _ _ _ _ _ _ _ _ _ _ _ _ _ _ _ _ _ _ _ _ _ _ _ _ _ _ _ _ _ _ _ _ _ _ _ _ _ _ _ _ _ _ ?_
                  intro v99 v100 v101 v102 v103 v104 v105 v106 v107 v108 v109 v110 v111 v112 v113 v114 v115 v116 v117 v118 v119 w9 HS9
                  dsimp only
                  have hdc : w9.cell? ⟨gd3, k, none⟩ = some (.int .i64 dn) := by rw [← GD.out]; exact (HD3.out.cell (A := []) (B := Rb3 ++ (Rr ++ (Rp ++ (Ra2 ++ [])))) HS9.out hlk).2.1
                  have hwr : IntKind.i64.wrap (sv + dn) = sv + dn := IntWalk.i64_in _ (by omega)
                  clear HSk HBL HZ GB GD
                  go_wp2_with fail
                  go_roundw
                  case rel => exact ⟨k + 1, sv + dn, by omega, by go_num, by go_num, ⟨by omega, by push_cast; omega⟩, HSUM, HS9⟩
                  case measure => simp [intOf]; omega
                · obtain rfl : k = m := by omega
                  have htk : zu.take k = zu := List.take_of_length_le (by rw [HSN2.out.1, HL.out]; exact Nat.le_refl _)
                  rw [htk] at HSV
                  go_wp2_with fail
                  go_meet
                  exact ⟨by rw [HSV.out], HSk⟩
            case rest =>
              obtain ⟨rfl, HS8⟩ := hcut
              clear HS7
              have hne : ((zu.map Nt.dn).sum != (zu.map Nt.dn).sum) = false := by simp
              go_wp2_with fail
              go_roundw
              case rel => exact ⟨i + 1, zu, Ra2, Rb3, Rd3, ab3, ad3, cb3, cd3, gb3, gd3, by omega, rfl, rfl, by go_num, HSN2, HL2, HN2, HB3, HD3, HS8⟩
              case measure => simp [intOf]; omega
          · have q0 : decide ((i : Int) < (n2 : Int)) = true := decide_eq_true (by omega)
            have q1 : decide ((i : Int) < 8) = false := decide_eq_false (by omega)
            go_wp2_with fail
            go_meet
            exact HSr.out.bel
        · have q0 : decide ((i : Int) < (n2 : Int)) = false := decide_eq_false (by omega)
          go_wp2_with fail
          go_meet
          exact HSr.out.bel
    case rest =>
      have HBW := Lib.hid hcut
      clear hcut HS2 HA HIR HIB HID HZL HZF HP H2 HL
      obtain ⟨p, hp⟩ : ∃ x, within pa 0 9000 = x := ⟨_, rfl⟩
      obtain ⟨q, hq⟩ : ∃ x, within pb 0 9000 = x := ⟨_, rfl⟩
      obtain ⟨r, hr⟩ : ∃ x, within pc 0 9000 = x := ⟨_, rfl⟩
      obtain ⟨s, hs⟩ : ∃ x, within pd 0 9000 = x := ⟨_, rfl⟩
      have bp := within_bd pa (lo := 0) (hi := 9000) (by omega)
      have bq := within_bd pb (lo := 0) (hi := 9000) (by omega)
      have br := within_bd pc (lo := 0) (hi := 9000) (by omega)
      have bs := within_bd pd (lo := 0) (hi := 9000) (by omega)
      have HWp := Lib.hid (fun W => within_calls pa 0 9000 W (by omega) (by omega) (by omega))
      have HWq := Lib.hid (fun W => within_calls pb 0 9000 W (by omega) (by omega) (by omega))
      have HWr := Lib.hid (fun W => within_calls pc 0 9000 W (by omega) (by omega) (by omega))
      have HWs := Lib.hid (fun W => within_calls pd 0 9000 W (by omega) (by omega) (by omega))
      rw [hp] at HWp bp
      rw [hq] at HWq bq
      rw [hr] at HWr br
      rw [hs] at HWs bs
      clear hp hq hr hs ha hb hc hd
      obtain ⟨p0, p1⟩ := bp
      obtain ⟨q0, q1⟩ := bq
      obtain ⟨r0, r1⟩ := br
      obtain ⟨s0, s1⟩ := bs
      go_wp2_with fail
      refine (HWp.out _).mono ?_
      rintro e w' ⟨rfl, rfl⟩
      go_wp2_with fail
      refine (HWq.out _).mono ?_
      rintro e w' ⟨rfl, rfl⟩
      go_wp2_with fail
      refine (HWr.out _).mono ?_
      rintro e w' ⟨rfl, rfl⟩
      go_wp2_with fail
      refine (HWs.out _).mono ?_
      rintro e w' ⟨rfl, rfl⟩
      clear HWp HWq HWr HWs
      have HSW := Lib.hid (show Sts w [] wc from ⟨by simp, by simp, by simp, HBW.out⟩)
      go_wp2_with fail
      refine (target_calls p q r s _ (by omega) (by omega) (by omega) (by omega) (by omega) (by omega) (by omega) (by omega)).mono ?_
      rintro e w2 ⟨rfl, hb2⟩
      have HS2 := Lib.hid (HSW.out.below hb2)
      clear hb2 HSW HBW
      go_wp2_with fail
      refine (refTarget_calls p q r s _ (by omega) (by omega) (by omega) (by omega) (by omega) (by omega) (by omega) (by omega)).mono ?_
      rintro e w3 ⟨rfl, hb3⟩
      have HS3 := Lib.hid (HS2.out.below hb3)
      clear hb3 HS2
      have heq : (targ p q r s == targ p q r s) = true := by simp
      generalize targ p q r s = tg at *
      go_wp2_with fail
      refine (lossRuns_calls w3).mono ?_
      rintro e w4 ⟨rfl, hb4⟩
      have HS4 := Lib.hid (HS3.out.below hb4)
      clear hb4 HS3
      go_wp2_with fail
      go_ret
      exact ⟨rfl, HS4.out.bel⟩
end Go.Proofs.Ytllbpjaiplnbnaa

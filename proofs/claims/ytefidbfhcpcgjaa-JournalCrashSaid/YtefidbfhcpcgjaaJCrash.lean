import Derived.Test.YtefidbfhcpcgjaaCrash
namespace Go.Proofs.Ytefidbfhcpcgjaa
open Go.RowKit
set_option linter.unusedVariables false
set_option linter.unusedSimpArgs false
theorem Reads.cutHi {W : World} {a : Option Addr} {n : Nat} {ts : List (List Int)} (h : Reads W a n ts) {k : Nat} (hk : k ≤ n) : Reads W a k (ts.take k) := by
  obtain ⟨ps, h1, h2, h3⟩ := h.ex
  refine ⟨ps.take k, ⟨?_, ?_⟩, fun p hp => h2 p (List.mem_of_mem_take hp), by rw [List.map_take, h3]⟩
  · have := h1.1
    rw [List.length_map] at this
    rw [List.length_map, List.length_take, this]; omega
  · intro h0
    obtain ⟨ad, e, hc⟩ := h1.2 (by omega)
    refine ⟨ad, e, fun j u hu => hc j u ?_⟩
    rw [List.map_take, List.getElem?_take] at hu
    split at hu
    · exact hu
    · cases hu
theorem frames_le {ws : List (List Int)} (h : ∀ t ∈ ws, t.length ≤ 40) : (framesL 1 ws).length ≤ 50 * ws.length := by
  rw [frames_len]
  induction ws with
  | nil => simp
  | cons t r ih =>
    have h1 := h t List.mem_cons_self
    have h2 := ih (fun t ht => h t (List.mem_cons_of_mem _ ht))
    simp only [List.map_cons, List.sum_cons, List.length_cons]; omega
theorem two_reads {W : World} {a : Option Addr} {n m : Nat} {p q : List Prt} {xs ys : List (List Int)} (hs : Src W a (n + m) 1 (p.map Prt.v ++ q.map Prt.v)) (hp : Parts W p) (hq : Parts W q) (e1 : p.map Prt.l = xs) (e2 : q.map Prt.l = ys) : Reads W a (n + m) (xs ++ ys) :=
  ⟨p ++ q, by rw [List.map_append]; exact hs, fun x hx => (List.mem_append.1 hx).elim (hp x) (hq x), by rw [List.map_append, e1, e2]⟩
theorem prt_one2 (l : List Prt) : ∀ u ∈ l.map Prt.v, u.oneCell' = true := by
  intro u hu
  obtain ⟨p, _, rfl⟩ := List.mem_map.1 hu
  rfl
set_option maxHeartbeats 16000000 in
set_option maxRecDepth 100000 in
theorem journalCrash_walk (A1 : Option Addr) (n1 c1 : Nat) (ps : List Prt) (A2 : Option Addr) (n2 c2 : Nat) (qs : List Prt) (fuse keep again : Int) (w : World) (h1 : RowsIn w A1 n1 c1 ps) (h2 : RowsIn w A2 n2 c2 qs) (hf1 : -9223372036854775808 ≤ fuse ∧ fuse ≤ 9223372036854775807) (hf2 : -9223372036854775808 ≤ keep ∧ keep ≤ 9223372036854775807) (hf3 : -9223372036854775808 ≤ again ∧ again ≤ 9223372036854775807) :
    Calls Try.prog 14 #[.slice A1 n1 c1, .slice A2 n2 c2, .int .i64 fuse, .int .i64 keep, .int .i64 again] w fun e w' => e = .returned (.bool true) ∧ Below w.heap.size w w' := by
  clear hf1 hf2 hf3
  have HS0 := Lib.hid (Sts.nil w)
  have H1 := Lib.hid h1; have H2 := Lib.hid h2
  clear h1 h2
  obtain ⟨F, hF, hF25⟩ : ∃ v : Nat, within fuse 0 25 = v ∧ v ≤ 25 := by
    have := within_bd fuse (lo := 0) (hi := 25) (by omega)
    exact ⟨(within fuse 0 25).toNat, by omega, by omega⟩
  obtain ⟨K, hK, hK60⟩ : ∃ v : Nat, within keep 0 60 = v ∧ v ≤ 60 := by
    have := within_bd keep (lo := 0) (hi := 60) (by omega)
    exact ⟨(within keep 0 60).toNat, by omega, by omega⟩
  obtain ⟨G, hG, hG1⟩ : ∃ v : Nat, within again 0 1 = v ∧ v ≤ 1 := by
    have := within_bd again (lo := 0) (hi := 1) (by omega)
    exact ⟨(within again 0 1).toNat, by omega, by omega⟩
  have HF := Lib.hid hF; have HK := Lib.hid hK; have HG := Lib.hid hG
  clear hF hK hG
  go_enter Try.func14, Try.ntmps14
  go_wp2_with fail
  refine (medNew_calls (w0 := w) (A := []) (B := []) HS0.out).mono ?_
  rintro e w1 ⟨g, rfl, hm⟩
  have M1 := Lib.hid (show MedAt w [] [] g m0 w1 from hm)
  clear hm HS0
  go_wp2_with fail
  refine (jopen_ok (ts := []) (s' := m0) (v := 0) M1.out m0_ok rfl (by decide) (lies_nil _) (.inl rfl) (.inl ⟨rfl, rfl, rfl⟩) rfl).mono ?_
  rintro e w2 ⟨gj, Rs, a2, c2', rfl, hT, hm⟩
  have M2 := Lib.hid (show MedAt w [] ((gj, jcells g 0 false, 72) :: []) g m0 w2 from hm.subB (List.Sublist.cons_cons _ (List.nil_sublist _)))
  clear hm hT M1
  go_wp2_with fail
  refine (within_calls fuse 0 25 _ (by omega) (by omega) (by omega)).mono ?_
  rw [HF.out]
  rintro e w' ⟨rfl, rfl⟩
  go_wp2_with fail
  refine (medArm_calls (F : Int) M2.out).mono ?_
  rintro e w3 ⟨rfl, hm⟩
  have M3 := Lib.hid hm
  clear hm M2
  go_wp2_with fail
  have hin := H1.out
  have hin5 : RowsIn w3 A1 n1 c1 ps := ⟨hin.src.below M3.out.bel, fun p hp => (hin.each p hp).below M3.out.bel, hin.le, hin.cap⟩
  refine (some_calls A1 n1 c1 ps _ hin5).mono ?_
  have hsm := someL_small hin
  rintro e w6 ⟨R6, a6, c6, N, rfl, hN, hT, hS6⟩
  obtain ⟨ts, hts⟩ : ∃ ts, someL ps = ts := ⟨_, rfl⟩
  rw [hts] at hsm hN hT
  have HSM := Lib.hid hsm; have HT := Lib.hid hT; have HN := Lib.hid hN
  have M6 := Lib.hid (show MedAt w [] ((gj, jcells g 0 false, 72) :: R6) g (cst ts F 0) w6 from (M3.out.join hS6).permB (List.perm_append_singleton _ _))
  have hN10 : N ≤ 10 := by have := hsm.1; omega
  clear hin hin5 hsm hN hT hts hS6 M3 H1
  go_upto_block 0 with fail
  go_cut [16] (fun v16 wc => ∃ (i : Nat) (s : Med), v16 = .int .i64 i ∧ i ≤ N ∧ Hid (Mid ts i s) ∧ Hid (MedAt w [] R6 g s wc))
  case first =>
    go_wp2_with fail
    go_loopw [16, 56] (fun v16 v56 wx => ∃ (i : Nat), i ≤ N ∧ v16 = .int .i64 i ∧ v56 = .int .i64 i ∧ 2 * i ≤ F ∧ Hid (MedAt w [] ((gj, jcells g i false, 72) :: R6) g (cst ts F i) wx)) (fun _ v56 _ => N - (intOf v56).toNat)
    case atStart => exact ⟨0, Nat.zero_le _, rfl, rfl, Nat.zero_le _, M6⟩
    case round =>
      clear M6
      obtain ⟨i, hi, rfl, rfl, h2i, M6⟩ := hrel
      by_cases hlt : i < N
      · obtain ⟨t, ht⟩ : ∃ t, ts[i]? = some t := ⟨_, List.getElem?_eq_getElem (by rw [← HN.out]; exact hlt)⟩
        obtain ⟨hby, hl40⟩ := HSM.out.2 t (List.mem_of_getElem? ht)
        have hrd := reads_of HT.out M6.out (fun x hx => List.mem_cons_of_mem _ hx)
        obtain ⟨ad, p, rfl, hcell, hs⟩ := hrd.at_ ht
        have hpn := hs.len
        have HSR := Lib.hid hs; have HBY := Lib.hid hby
        have hpn2 : p.n ≤ 40 := by omega
        have hfl := frm_len HSM.out i
        have hfl2 : (cst ts F i).b.length ≤ 500 := by show (framesL 1 (ts.take i)).length ≤ _; omega
        have HST := Lib.hid (crash_step HSM.out hF25 ht h2i)
        clear ht hby hl40 hrd hs hpn hfl
        go_wp2_with fail
        rcases HST.out with ⟨hj, h2j⟩ | ⟨s', hj, hmid⟩
        · refine (add_is M6.out (cst_ok HSM.out F i hF25) HSR.out HBY.out (by omega) (by omega) (by omega) hj).mono ?_
          rintro e w11 ⟨rfl, hm⟩
          have M11 := Lib.hid hm
          clear hm M6 hj HST
          have b1 : ((((i + 1 : Nat) : Int)) != (i : Int) + 1) = false := by simp
          go_wp2_with fail
          refine (jcount_calls M11.out).mono ?_
          rintro e w12 ⟨rfl, rfl⟩
          go_wp2
          go_roundw
          case rel => exact ⟨i + 1, by omega, by go_num, by go_num, h2j, M11⟩
          case measure => simp [intOf]; omega
        · refine (add_is M6.out (cst_ok HSM.out F i hF25) HSR.out HBY.out (by omega) (by omega) (by omega) hj).mono ?_
          rintro e w11 ⟨rfl, hm⟩
          have M11 := Lib.hid (hm.subB (List.sublist_cons_self _ _))
          have MI := Lib.hid hmid
          clear hm M6 hj HST hmid
          go_wp2_with fail
          go_meet
          exact ⟨i, s', rfl, hi, MI, M11⟩
      · obtain rfl : i = N := by omega
        have MI := Lib.hid (cst_mid HSM.out F i hF25 (by rw [← HN.out]; exact Nat.le_refl _))
        have M11 := Lib.hid (M6.out.subB (List.sublist_cons_self _ _))
        clear M6
        go_wp2_with fail
        go_meet
        exact ⟨i, _, rfl, hi, MI, M11⟩
  case rest =>
    clear M6
    obtain ⟨i, s, rfl, hi, MI, M7⟩ := hcut
    obtain ⟨q, Q, f, hbm, hrest, hiq, hqi, hqt, hlq⟩ := boot_mid HSM.out MI.out (K := (K : Int)) (by omega)
    obtain ⟨vs, hvs⟩ : ∃ vs, ts.take q = vs := ⟨_, rfl⟩
    have hvl : vs.length = q := by rw [← hvs, List.length_take]; omega
    have hvf : Fit vs := fun t ht => HSM.out.fit t (List.mem_of_mem_take (hvs ▸ ht))
    have hvs40 : ∀ t ∈ vs, t.length ≤ 100000 := fun t ht => by have := (HSM.out.2 t (List.mem_of_mem_take (hvs ▸ ht))).2; omega
    have hqN : q ≤ N := by have := HN.out; omega
    rw [hvs] at hbm hrest hlq
    have hok := MI.out.ok
    have hokb : (cm vs Q f).Ok := hbm ▸ hok.boot K
    have HBM := Lib.hid hbm; have HR := Lib.hid hrest; have HLQ := Lib.hid hlq; have HVS := Lib.hid hvs; have HVL := Lib.hid hvl; have HVF := Lib.hid hvf; have HOK := Lib.hid hok; have HOKB := Lib.hid hokb; have HV40 := Lib.hid hvs40
    clear hbm hrest hlq hvs hvl hvf hok hokb MI hqt hvs40
    go_wp2_with fail
    refine (within_calls keep 0 60 _ (by omega) (by omega) (by omega)).mono ?_
    rw [HK.out]
    rintro e w' ⟨rfl, rfl⟩
    go_wp2_with fail
    refine (boot_is (K : Int) M7.out HOK.out HBM.out).mono ?_
    rintro e w8 ⟨rfl, hm⟩
    have M8 := Lib.hid hm
    clear hm M7 HBM HOK
    go_wp2_with fail
    refine (within_calls again 0 1 _ (by omega) (by omega) (by omega)).mono ?_
    rw [HG.out]
    rintro e w' ⟨rfl, rfl⟩
    go_wp2_with fail
    refine (medArm_calls (G : Int) M8.out).mono ?_
    rintro e w9 ⟨rfl, hm⟩
    have M9 := Lib.hid hm
    clear hm M8
    go_wp2_with fail
    refine (jopen_any hG1 M9.out HOKB.out HVF.out (by rw [HVL.out]; omega) (by have := HLQ.out; omega) HR.out).mono ?_
    rintro e w10 ⟨pv, a10, n10, c10, v, rfl, hv, s3, Q', f', hm, hok3, hbt3, hr3, hlq3, hf3a, hf3b, hbq3⟩
    have HV := Lib.hid hv; have M10 := Lib.hid hm; have HOK3 := Lib.hid hok3; have HBT3 := Lib.hid hbt3; have HR3 := Lib.hid hr3; have HLQ3 := Lib.hid hlq3
    have HOKC := Lib.hid (cm_ok HVF.out hbq3 hf3a hf3b (by omega))
    clear hv hm hok3 hbt3 hr3 hlq3 hf3a hf3b hbq3 M9 HR HLQ HOKB
    go_upto_region 21 with fail
    go_cut [101] (fun x wc => x = .bool false ∧ Hid (MedAt w [] R6 g s3 wc))
    case first =>
      rcases HV.out with hv | ⟨hv, hn⟩
      · have b1 : (v != 0) = false := by rw [hv]; rfl
        have b2 : (v != 7) = true := by rw [hv]; rfl
        clear hv
        go_wp2_with fail
        go_meet
        exact ⟨rfl, M10⟩
      · have b1 : (v != 0) = true := by rw [hv]; rfl
        have b2 : (v != 7) = false := by rw [hv]; rfl
        have b3 : ((n10 : Int) != 0) = false := by rw [hn]; rfl
        clear hv hn
        go_wp2_with fail
        go_meet
        exact ⟨rfl, M10⟩
    case rest =>
      clear M10 HV
      obtain ⟨rfl, M10⟩ := hcut
      go_wp2_with fail
      refine (boot_is 0 M10.out HOK3.out HBT3.out).mono ?_
      rintro e w11 ⟨rfl, hm⟩
      have M11 := Lib.hid hm
      clear hm M10 HOK3 HBT3
      go_wp2_with fail
      refine (jopen_boot M11.out HOKC.out HVF.out (by rw [HVL.out]; omega) HLQ3.out HR3.out HVL.out).mono ?_
      rintro e w12 ⟨gk, R12, a12, c12, rfl, hT12, hm⟩
      have hokd : (cm vs [] f').Ok := cm_ok HVF.out Byt.nil HOKC.out.f0 HOKC.out.f1 (by have := HLQ3.out; rw [List.length_append] at this; rw [List.append_nil]; omega)
      have hld : (framesL 1 vs ++ []).length ≤ 100000 := by have := HLQ3.out; rw [List.length_append] at this; rw [List.append_nil]; omega
      have hrd1 := reads_of hT12 hm (fun x hx => by simp [hx])
      have hrd2 := (reads_of HT.out hm (fun x hx => by simp [hx])).cutHi hqN
      rw [HVS.out] at hrd2
      have RD1 := Lib.hid hrd1; have RD2 := Lib.hid hrd2; have T12 := Lib.hid hT12; have M12 := Lib.hid hm; have HOKD := Lib.hid hokd; have HLD := Lib.hid hld
      clear hm hT12 hrd1 hrd2 hokd hld M11 HOKC HLQ3 HR3
      have c1 : decide (q < i) = false := decide_eq_false (by omega)
      have c2 : decide ((q : Int) < (i : Int)) = false := decide_eq_false (by omega)
      have c3 : decide ((i : Int) + 1 < (q : Int)) = false := decide_eq_false (by omega)
      have c4 : decide (i + 1 < q) = false := decide_eq_false (by omega)
      have c5 : decide (N < q) = false := decide_eq_false (by omega)
      have c6' : decide ((N : Int) < (q : Int)) = false := decide_eq_false (by omega)
      have i1 : (0 : Int) ≤ (q : Int) := by omega
      have i2 : (q : Int) ≤ (c6 : Int) := by have := HT.out.len; omega
      have c7 : ((q : Int) != (q : Int)) = false := by simp
      go_wp2_with fail
      refine (equal_yes vs RD1.out RD2.out (by omega) HV40.out).mono ?_
      rintro e w13 ⟨rfl, n13, hw13⟩
      have M13 := Lib.hid (hw13 ▸ M12.out.drewN n13 : MedAt w [] _ g (cm vs [] f') w13)
      clear hw13 M12 RD1 RD2
      go_wp2_with fail
      refine (jcount_calls M13.out).mono ?_
      rintro e w14 ⟨rfl, rfl⟩
      obtain ⟨T, hTT⟩ : ∃ T, (framesL 1 vs ++ []).length = T := ⟨_, rfl⟩
      have hT1 : T ≤ 100000 := hTT ▸ HLD.out
      have HTT := Lib.hid hTT
      clear hTT
      go_wp2_with fail
      refine (bytes_is M13.out HOKD.out (l := framesL 1 vs ++ []) rfl).mono ?_
      rintro e w15 ⟨a15, m15, c15, rfl, hP, hm, hb, hl, hc1, hc2⟩
      obtain rfl : m15 = T := hl.trans HTT.out
      have M15 := Lib.hid hm
      clear hP hm hb hc1 hc2 M13 hl
      go_wp2_with fail
      refine (jopen_boot M15.out HOKD.out HVF.out (by rw [HVL.out]; omega) HLD.out (.inl rfl) HVL.out).mono ?_
      rintro e w16 ⟨gn, R16, a16, c16, rfl, hT16, hm⟩
      have hm16 : MedAt w [] ((gn, jcells g q false, 72) :: (R16 ++ (R12 ++ R6))) g (cm vs [] f') w16 := hm.subB (List.Sublist.cons_cons _ (List.Sublist.append (List.Sublist.refl _) (List.sublist_cons_self _ _)))
      have hrd1 := reads_of hT16 hm16 (fun x hx => by simp [hx])
      have hrd2 := reads_of T12.out hm16 (fun x hx => by simp [hx])
      have RD1 := Lib.hid hrd1; have RD2 := Lib.hid hrd2; have M16 := Lib.hid hm16
      clear hm hm16 hT16 hrd1 hrd2 M15
      go_wp2_with fail
      refine (equal_yes vs RD1.out RD2.out (by omega) HV40.out).mono ?_
      rintro e w17 ⟨rfl, n17, hw17⟩
      have M17 := Lib.hid (hw17 ▸ M16.out.drewN n17 : MedAt w [] _ g (cm vs [] f') w17)
      clear hw17 M16 RD1 RD2
      have c8 : ((m15 : Int) != (m15 : Int)) = false := by simp
      go_wp2_with fail
      refine (bytes_is M17.out HOKD.out (l := framesL 1 vs ++ []) rfl).mono ?_
      rintro e w18 ⟨a18, m18, c18, rfl, hP, hm, hb, hl, hc1, hc2⟩
      obtain rfl : m18 = m15 := hl.trans HTT.out
      have M18 := Lib.hid hm
      clear hP hm hb hc1 hc2 M17 hl
      clear c1 c2 c3 c4 c5 c6'
      go_wp2_with fail
      have hin := H2.out
      have hin5 : RowsIn w18 A2 n2 c2 qs := ⟨hin.src.below M18.out.bel, fun p hp => (hin.each p hp).below M18.out.bel, hin.le, hin.cap⟩
      refine (some_calls A2 n2 c2 qs _ hin5).mono ?_
      have hsm := someL_small hin
      rintro e w19 ⟨R19, a19, c19, N2, rfl, hN2, hT19, hS19⟩
      obtain ⟨us, hus⟩ : ∃ ts, someL qs = ts := ⟨_, rfl⟩
      rw [hus] at hsm hN2 hT19
      have HSU := Lib.hid hsm; have TU := Lib.hid hT19; have NU := Lib.hid hN2; have HUS := Lib.hid hus
      have M19 := Lib.hid (show MedAt w [] ((gn, jcells g (q + 0) false, 72) :: (R19 ++ (R12 ++ R6))) g (cm (vs ++ us.take 0) [] f') w19 from by
        rw [List.take_zero, List.append_nil]
        refine ((M18.out.join hS19).subB (List.Sublist.append (List.Sublist.refl _) (List.Sublist.cons_cons _ (List.sublist_append_right _ _)))).permB ?_
        exact List.perm_middle)
      have hN210 : N2 ≤ 10 := by have := hsm.1; omega
      clear hin hin5 hsm hN2 hT19 hus hS19 M18
      go_wp2_with fail
      go_loopw [183] (fun v183 wx => ∃ (j : Nat), j ≤ N2 ∧ v183 = .int .i64 j ∧ Hid (MedAt w [] ((gn, jcells g (q + j) false, 72) :: (R19 ++ (R12 ++ R6))) g (cm (vs ++ us.take j) [] f') wx)) (fun v183 _ => N2 - (intOf v183).toNat)
      case atStart => exact ⟨0, Nat.zero_le _, rfl, M19⟩
      case round =>
        clear M19
        obtain ⟨j, hj, rfl, M19⟩ := hrel
        have hws40 : ∀ t ∈ vs ++ us.take j, t.length ≤ 40 := by
          intro t ht
          rcases List.mem_append.1 ht with h | h
          · exact (HSM.out.2 t (List.mem_of_mem_take (i := q) (by rw [HVS.out]; exact h))).2
          · exact (HSU.out.2 t (List.mem_of_mem_take h)).2
        have hwsf : Fit (vs ++ us.take j) := by
          intro t ht
          rcases List.mem_append.1 ht with h | h
          · exact HVF.out t h
          · exact HSU.out.fit t (List.mem_of_mem_take h)
        have hwl : (vs ++ us.take j).length = q + j := by rw [List.length_append, List.length_take, HVL.out, ← NU.out]; omega
        have hwf := frames_le hws40
        rw [hwl] at hwf
        have hokj : (cm (vs ++ us.take j) [] f').Ok := cm_ok hwsf Byt.nil HOKD.out.f0 HOKD.out.f1 (by rw [List.append_nil]; omega)
        have HWF := Lib.hid hwf; have HWSF := Lib.hid hwsf; have HWL := Lib.hid hwl; have HOKJ := Lib.hid hokj; have HW40 := Lib.hid hws40
        clear hws40 hwsf hwl hwf hokj
        by_cases hlt : j < N2
        · obtain ⟨t, ht⟩ : ∃ t, us[j]? = some t := ⟨_, List.getElem?_eq_getElem (by rw [← NU.out]; exact hlt)⟩
          obtain ⟨hby, hl40⟩ := HSU.out.2 t (List.mem_of_getElem? ht)
          have hrd := reads_of TU.out M19.out (fun x hx => by simp [hx])
          obtain ⟨ad, p, rfl, hcell, hs⟩ := hrd.at_ ht
          have hpn := hs.len
          have HSR := Lib.hid hs; have HBY := Lib.hid hby; have HTI := Lib.hid ht
          have hpn2 : p.n ≤ 40 := by omega
          have hfl2 : (cm (vs ++ us.take j) [] f').b.length ≤ 2000 := by show (framesL 1 (vs ++ us.take j) ++ []).length ≤ _; rw [List.append_nil]; have := HWF.out; omega
          clear ht hby hl40 hrd hs hpn
          go_wp2_with fail
          refine (add_is M19.out HOKJ.out HSR.out HBY.out (by omega) (by omega) (by omega) (cm_add HWL.out)).mono ?_
          rintro e w21 ⟨rfl, hm⟩
          have hm2 : MedAt w [] ((gn, jcells g (q + (j + 1)) false, 72) :: (R19 ++ (R12 ++ R6))) g (cm (vs ++ us.take (j + 1)) [] f') w21 := by
            rw [List.take_succ_eq_append_getElem (List.getElem?_eq_some_iff.1 HTI.out).1, (List.getElem?_eq_some_iff.1 HTI.out).2, ← List.append_assoc vs (us.take j) [t]]
            exact hm
          have M21 := Lib.hid hm2
          clear hm hm2 M19
          go_wp2_with fail
          refine (jcount_calls M21.out).mono ?_
          rintro e w22 ⟨rfl, rfl⟩
          have b1 : (((q + (j + 1) : Nat) : Int) != (q : Int) + (j : Int) + 1) = false := by rw [bne_eq_false_iff_eq]; omega
          have b2 : ((q : Int) + ((j : Int) + 1) != (q : Int) + (j : Int) + 1) = false := by rw [bne_eq_false_iff_eq]; omega
          go_wp2
          go_roundw
          case rel => exact ⟨j + 1, by omega, by go_num, M21⟩
          case measure => simp [intOf]; omega
        · obtain rfl : j = N2 := by omega
          have htk : us.take j = us := List.take_of_length_le (by rw [← NU.out]; exact Nat.le_refl _)
          have M20 := M19.out
          have hw := HWSF.out; have hw2 := HWL.out; have hw3 := HOKJ.out; have hw4 := HWF.out; have hw5 := HW40.out
          rw [htk] at M20 hw hw2 hw3 hw4 hw5
          have M20 := Lib.hid M20; have HW := Lib.hid hw; have HWL := Lib.hid hw2; have HOKW := Lib.hid hw3; have HWF := Lib.hid hw4; have HX40 : Hid (∀ t ∈ vs ++ us, t.length ≤ 40) := Lib.hid hw5
          clear htk hw hw2 hw3 hw4 hw5 M19 HWSF HOKJ
          go_wp2_with fail
          refine (jopen_boot (N := q + j) M20.out HOKW.out HW.out (by rw [HWL.out]; omega) (by rw [List.append_nil]; have := HWF.out; omega) (.inl rfl) HWL.out).mono ?_
          rintro e w25 ⟨gz, R25, a25, c25, rfl, hT25, hm⟩
          have hrd1 := reads_of hT25 hm (fun x hx => by simp [hx])
          obtain ⟨psY, y1, y2, y3⟩ := (reads_of T12.out hm (fun x hx => by simp [hx])).ex
          have RW := Lib.hid hrd1; have B25 := Lib.hid hm.bel; have Y1 := Lib.hid y1; have Y2 := Lib.hid y2; have Y3 := Lib.hid y3
          clear hm hT25 hrd1 y1 y2 y3 M20
          obtain ⟨i0, ri, rz, rs1, rs2⟩ := info_parts rows_info
          have HSE := Lib.hid ((Sts.nil w25).add (g := w25.heap.size) rfl #[] 23)
          have hone := prt_one2 psY
          have hq9 : q + j ≤ 30 := by omega
          go_wp2_with (at_builtin; go_must (refine row_append_g (by rfl) (.tmp 213) (.tmp 214) 51 rfl [] [] Try.underlying51 ri rz rs1 rs2 rfl (by omega) (Row.empty _ _ _) HSE.out rfl rfl (Y1.out.alloc _) hone (by omega) (by omega) ?_); rintro R26 a26 c26 w26 hR26 hS26; simp only [Nat.zero_add, List.nil_append] at hR26 hS26 ⊢)
          have R26' := Lib.hid hR26; have S26 := Lib.hid (show Sts w25 (R26 ++ []) w26 from hS26)
          clear hR26 hS26 HSE Y1 hone
          have hin := H2.out
          have hb26 := bel_then B25.out S26.out.bel B25.out.size
          have hin5 : RowsIn w26 A2 n2 c2 qs := ⟨hin.src.below hb26, fun p hp => (hin.each p hp).below hb26, hin.le, hin.cap⟩
          refine (some_calls A2 n2 c2 qs _ hin5).mono ?_
          rintro e w27 ⟨R27, a27, c27, N3, rfl, hN3, hT27, hS27⟩
          rw [HUS.out, ← NU.out] at hN3
          rw [HUS.out] at hT27
          obtain rfl : N3 = j := hN3
          obtain ⟨Ra, Rb, psU, rfl, u1, u2, u3⟩ := hT27.ex
          have hS27' : Sts w25 ((Ra ++ Rb) ++ (R26 ++ [])) w27 := by
            have := Sts.join (w0 := w25) [] (R26 ++ []) S26.out hS27
            simpa using this
          have hsU := u1.srcIn hS27' (fun x hx => by simp [hx])
          have S27 := Lib.hid hS27'; have SU := Lib.hid hsU; have U2 := Lib.hid u2; have U3 := Lib.hid u3
          have hone := prt_one2 psU
          clear hin hb26 hin5 hT27 hS27 hS27' hsU u1 u2 u3 S26
          go_wp2_with (at_builtin; go_must (refine row_append_g (by rfl) (.tmp 215) (.tmp 217) 51 rfl (Ra ++ Rb) [] Try.underlying51 ri rz rs1 rs2 rfl (by omega) R26'.out S27.out rfl rfl SU.out hone (by omega) (by omega) ?_); rintro R28 a28 c28 w28 hR28 hS28)
          have RD := Lib.hid (two_reads (hR28.srcIn hS28 (fun x hx => by simp [hx])) (Y2.out.below hS28.bel) (U2.out.parts hS28 (fun x hx => by simp [hx])) Y3.out U3.out)
          have RW2 := Lib.hid (RW.out.below hS28.bel)
          have B28 := Lib.hid (bel_then B25.out hS28.bel B25.out.size)
          clear hR28 hS28 RW B25 hone
          refine (equal_yes (vs ++ us) RW2.out RD.out (by omega) (fun t ht => by have := HX40.out t ht; omega)).mono ?_
          rintro e w29 ⟨rfl, n29, hw29⟩
          have B29 := Lib.hid (show Below w.heap.size w w29 from hw29 ▸ bel_drewN B28.out n29)
          clear hw29
          go_wp2_with fail
          refine (journalRuns_b B29.out).mono ?_
          rintro e w30 ⟨rfl, hb30⟩
          have B30 := Lib.hid hb30
          clear hb30
          go_wp2
          go_ret
          exact ⟨rfl, B30.out⟩
end Go.Proofs.Ytefidbfhcpcgjaa

import Derived.Test.YtefidbfhcpcgjaaJEq
namespace Go.Proofs.Ytefidbfhcpcgjaa
open Go.RowKit
set_option linter.unusedVariables false
set_option linter.unusedSimpArgs false
theorem frames_pos {ts : List (List Int)} (h : 0 < ts.length) : 0 < (framesL 1 ts).length := by
  rw [frames_len]
  cases ts with
  | nil => simp at h
  | cons t r => simp only [List.map_cons, List.sum_cons]; omega
theorem frm_all (ts : List (List Int)) {N : Nat} (h : ts.length = N) : frm ts N = ⟨framesL 1 ts, (framesL 1 ts).length, false, 0, false⟩ := by unfold frm; rw [List.take_of_length_le (by omega)]
theorem spoil_twice {s : Med} (hok : s.Ok) {k : Nat} {x : Int} (hk : k < s.b.length) : (s.spoil k x).spoil k x = s := by
  obtain ⟨y0, y1⟩ := hok.byt.at_ hk
  obtain ⟨b, firm, off, fuse, lit⟩ := s
  unfold Med.spoil
  simp only at hk y0 ⊢
  rw [getD_set _ _ hk, xb_twice y0, List.set_set, set_getD _ hk]
set_option maxHeartbeats 8000000 in
set_option maxRecDepth 100000 in
theorem journalSpoilt_walk (A1 : Option Addr) (n1 c1 : Nat) (ps : List Prt) (pos x : Int) (w : World) (h1 : RowsIn w A1 n1 c1 ps) (hp : -9223372036854775808 ≤ pos ∧ pos ≤ 9223372036854775807) (hx : 0 ≤ x ∧ x ≤ 255) :
    Calls Try.prog 17 #[.slice A1 n1 c1, .int .i64 pos, .int .u8 x] w fun e w' => e = .returned (.bool true) ∧ Below w.heap.size w w' := by
  clear hp
  obtain ⟨x0, x1⟩ := hx
  have HS0 := Lib.hid (Sts.nil w)
  have H1 := Lib.hid h1
  clear h1
  go_enter Try.func17, Try.ntmps17
  go_wp2_with fail
  refine (medNew_calls (w0 := w) (A := []) (B := []) HS0.out).mono ?_
  rintro e w1 ⟨g, rfl, hm⟩
  have M1 := Lib.hid (show MedAt w [] [] g m0 w1 from hm)
  clear hm HS0
  go_wp2_with fail
  refine (jopen_ok (ts := []) (s' := m0) (v := 0) M1.out m0_ok rfl (by decide) (lies_nil _) (.inl rfl) (.inl ⟨rfl, rfl, rfl⟩) rfl).mono ?_
  rintro e w2 ⟨gj, Rs, a2, c2, rfl, hT, hm⟩
  have M2 := Lib.hid (show MedAt w [] ((gj, jcells g 0 false, 72) :: []) g m0 w2 from hm.subB (List.Sublist.cons_cons _ (List.nil_sublist _)))
  clear hm hT M1
  go_wp2_with fail
  have hin := H1.out
  have hin5 : RowsIn w2 A1 n1 c1 ps := ⟨hin.src.below M2.out.bel, fun p hp => (hin.each p hp).below M2.out.bel, hin.le, hin.cap⟩
  refine (some_calls A1 n1 c1 ps _ hin5).mono ?_
  have hsm := someL_small hin
  rintro e w6 ⟨R6, a6, c6, N, rfl, hN, hT, hS6⟩
  obtain ⟨ts, hts⟩ : ∃ ts, someL ps = ts := ⟨_, rfl⟩
  rw [hts] at hsm hN hT
  have HSM := Lib.hid hsm; have HT := Lib.hid hT; have HN := Lib.hid hN
  have M6 := Lib.hid (show MedAt w [] ((gj, jcells g 0 false, 72) :: R6) g (frm ts 0) w6 from (M2.out.join hS6).permB (List.perm_append_singleton _ _))
  have hN10 : N ≤ 10 := by have := hsm.1; omega
  clear hin hin5 hsm hN hT hts hS6 M2 H1
  go_wp2_with fail
  go_loopw [34] (fun v70 wx => ∃ (i : Nat), i ≤ N ∧ v70 = .int .i64 i ∧ Hid (MedAt w [] ((gj, jcells g i false, 72) :: R6) g (frm ts i) wx)) (fun v70 _ => N - (intOf v70).toNat)
  case atStart => exact ⟨0, Nat.zero_le _, rfl, M6⟩
  case round =>
    clear M6
    obtain ⟨i, hi, rfl, M6⟩ := hrel
    by_cases hlt : i < N
    · obtain ⟨t, ht⟩ : ∃ t, ts[i]? = some t := ⟨_, List.getElem?_eq_getElem (by rw [← HN.out]; exact hlt)⟩
      obtain ⟨hby, hl40⟩ := HSM.out.2 t (List.mem_of_getElem? ht)
      have hrd := reads_of HT.out M6.out (fun x hx => List.mem_cons_of_mem _ hx)
      obtain ⟨ad, p, rfl, hcell, hs⟩ := hrd.at_ ht
      have hpn := hs.len
      have HSR := Lib.hid hs; have HBY := Lib.hid hby; have HTI := Lib.hid ht
      have hpn2 : p.n ≤ 40 := by omega
      have hfl := frm_len HSM.out i
      have hfl2 : (frm ts i).b.length ≤ 500 := by show (framesL 1 (ts.take i)).length ≤ _; omega
      clear ht hby hl40 hrd hs hpn hfl
      go_wp2_with fail
      refine (add_is M6.out (frm_ok HSM.out i) HSR.out HBY.out (by omega) (by omega) (by omega) (frm_add HTI.out)).mono ?_
      rintro e w11 ⟨rfl, hm⟩
      have M11 := Lib.hid hm
      clear hm M6
      go_wp2
      go_roundw
      case rel => exact ⟨i + 1, by omega, by go_num, M11⟩
      case measure => simp [intOf]; omega
    · obtain rfl : i = N := by omega
      obtain ⟨T, hTT⟩ : ∃ T, (framesL 1 ts).length = T := ⟨_, rfl⟩
      have hfr := frm_all ts (N := i) HN.out.symm
      have hT5 : T ≤ 500 := by
        have h := frm_len HSM.out i
        rw [List.take_of_length_le (by rw [← HN.out]; exact Nat.le_refl _), hTT] at h
        omega
      have hTpos : 0 < i → 0 < T := fun h => by rw [← hTT]; exact frames_pos (by rw [← HN.out]; exact h)
      have hTz : i = 0 → T = 0 := fun h => by
        rw [← hTT, List.eq_nil_of_length_eq_zero (show ts.length = 0 by rw [← HN.out]; exact h)]; rfl
      have hok := frm_ok HSM.out i
      have M7 := M6.out
      rw [hfr] at M7 hok
      have M7 := Lib.hid M7
      have HOK := Lib.hid hok; have HTT := Lib.hid hTT
      clear hfr M6 hok hTT
      go_wp2_with fail
      refine (bytes_is M7.out HOK.out (l := framesL 1 ts) rfl).mono ?_
      rintro e w12 ⟨a12, m12, c12, rfl, hP, hm, hb, hl, hc1, hc2⟩
      rw [HTT.out] at hl
      subst hl
      have M8 := Lib.hid hm
      clear hP hm hb hc1 hc2 M7
      by_cases hz : m12 = 0
      · have hi0 : i = 0 := by
          rcases Nat.eq_zero_or_pos i with h | h
          · exact h
          · have := hTpos h; omega
        have t1 : ((m12 : Int) == 0) = true := by rw [beq_iff_eq]; omega
        have t2 : ((i : Int) == 0) = true := by rw [beq_iff_eq]; omega
        clear hTpos hTz
        go_wp2_with fail
        refine (journalRuns_b M8.out.bel).mono ?_
        rintro e w14 ⟨rfl, hb14⟩
        have B14 := Lib.hid hb14
        clear hb14
        go_wp2
        go_ret
        exact ⟨rfl, B14.out⟩
      · have t1 : ((m12 : Int) == 0) = false := by rw [beq_eq_false_iff_ne]; omega
        by_cases hx : x = 0
        · have hi0 : i ≠ 0 := fun h => hz (hTz h)
          have t2 : ((i : Int) == 0) = false := by rw [beq_eq_false_iff_ne]; omega
          have t3 : (x == 0) = true := by rw [beq_iff_eq]; exact hx
          clear hTpos hTz hx
          go_wp2_with fail
          refine (journalRuns_b M8.out.bel).mono ?_
          rintro e w14 ⟨rfl, hb14⟩
          have B14 := Lib.hid hb14
          clear hb14
          go_wp2
          go_ret
          exact ⟨rfl, B14.out⟩
        · have t3 : (x == 0) = false := by rw [beq_eq_false_iff_ne]; exact hx
          obtain ⟨k, hk, hkm⟩ : ∃ c : Nat, within pos 0 ((m12 : Int) - 1) = c ∧ c < m12 := by
            have := within_bd pos (lo := 0) (hi := (m12 : Int) - 1) (by omega)
            exact ⟨(within pos 0 ((m12 : Int) - 1)).toNat, by omega, by omega⟩
          have HK := Lib.hid hk
          have hkb : k < (framesL 1 ts).length := by rw [HTT.out]; exact hkm
          obtain ⟨y0, y1⟩ := HOK.out.byt.at_ (k := k) hkb
          obtain ⟨us, hl1, hl2, hl3⟩ := spoilt_at HSM.out.fit (by have := HSM.out.1; omega) hkb (xb_bd y0 y1 x0 x1) (xb_ne y0 x0 hx)
          have hok2 := HOK.out.spoil k hkb x0 x1
          have htw := spoil_twice HOK.out (x := x) hkb
          have hb2 : (Med.spoil ⟨framesL 1 ts, (framesL 1 ts).length, false, 0, false⟩ k x).b.length = m12 := by show ((framesL 1 ts).set k _).length = _; rw [List.length_set]; exact HTT.out
          have HL1 := Lib.hid hl1; have HL2 := Lib.hid hl2; have HL3 := Lib.hid hl3; have HOK2 := Lib.hid hok2; have HTW := Lib.hid htw; have HB2 := Lib.hid hb2; have HKB := Lib.hid hkb
          clear hk hl1 hl2 hl3 hok2 htw hb2 hkb hTpos hTz hx y0 y1
          go_wp2_with fail
          refine (within_calls pos 0 ((m12 : Int) - 1) _ (by omega) (by omega) (by omega)).mono ?_
          rw [HK.out]
          rintro e w' ⟨rfl, rfl⟩
          go_wp2_with fail
          refine (spoil_yes k x M8.out HOK.out rfl rfl HKB.out x0 x1).mono ?_
          rintro e w13 ⟨rfl, hm⟩
          have M9 := Lib.hid hm
          clear hm M8
          go_wp2_with fail
          refine (jopen_bad M9.out HOK2.out rfl (by rw [HB2.out]; omega) HL1.out (by rw [HB2.out, ← HTT.out]; exact HL2.out) HL3.out).mono ?_
          rintro e w14 ⟨rfl, hm⟩
          have M10 := Lib.hid hm
          clear hm M9
          go_wp2_with fail
          refine (bytes_is M10.out HOK2.out rfl).mono ?_
          rintro e w15 ⟨a15, m15, c15, rfl, hP, hm, hb, hl, hc1, hc2⟩
          obtain rfl : m15 = m12 := hl.trans HB2.out
          have M11 := Lib.hid hm
          have b1 : ((m15 : Int) != m15) = false := by simp
          clear hP hm hb hc1 hc2 M10 hl
          go_wp2_with fail
          refine (spoil_yes k x M11.out HOK2.out rfl (by rw [HB2.out]; exact HTT.out) (by rw [HB2.out]; exact hkm) x0 x1).mono ?_
          rw [HTW.out]
          rintro e w16 ⟨rfl, hm⟩
          have M12 := Lib.hid hm
          clear hm M11
          go_wp2_with fail
          have hla := lies_app HSM.out.fit (by have := HSM.out.1; omega) []
          rw [List.append_nil] at hla
          have hoe : off ts ts.length = (framesL 1 ts).length := off_all ts 1 (Nat.le_refl _)
          refine (jopen_ok (ts := ts) (v := 0) M12.out HOK.out rfl (by show (framesL 1 ts).length ≤ _; rw [HTT.out]; omega) hla (.inl hoe) (.inl ⟨hoe, rfl, rfl⟩) rfl).mono ?_
          clear hla hoe
          rw [← HN.out]
          rintro e w17 ⟨gk, R17, a17, c17, rfl, hT17, hm⟩
          have hr1 := reads_of hT17 hm (fun x hx => by simp [hx])
          have hr2 := reads_of HT.out hm (fun x hx => by simp [hx])
          have R1 := Lib.hid hr1; have R2 := Lib.hid hr2
          have M13 := Lib.hid hm.bel
          clear hm hT17 hr1 hr2 M12
          go_wp2_with fail
          refine (equal_yes ts R1.out R2.out (by omega) (fun t ht => by have := (HSM.out.2 t ht).2; omega)).mono ?_
          rintro e w18 ⟨rfl, n18, hw18⟩
          have B18 := Lib.hid (show Below w.heap.size w w18 from hw18 ▸ bel_drewN M13.out n18)
          clear hw18
          go_wp2_with fail
          refine (journalRuns_b B18.out).mono ?_
          rintro e w19 ⟨rfl, hb19⟩
          have B19 := Lib.hid hb19
          clear hb19
          go_wp2
          go_ret
          exact ⟨rfl, B19.out⟩
end Go.Proofs.Ytefidbfhcpcgjaa

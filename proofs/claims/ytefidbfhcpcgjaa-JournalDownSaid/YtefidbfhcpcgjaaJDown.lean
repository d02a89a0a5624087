import Derived.Test.YtefidbfhcpcgjaaJSome
namespace Go.Proofs.Ytefidbfhcpcgjaa
open Go.RowKit
set_option linter.unusedVariables false
set_option linter.unusedSimpArgs false
theorem down_states (v : Nat) (hv : v ≤ 1) : ∃ s2, jadd (m0.arm v) 0 false [1] = (7, s2, 0, true) ∧ s2.off = true ∧ s2.boot 0 = m0 := by
  match v, hv with
  | 0, _ => exact ⟨_, rfl, rfl, rfl⟩
  | 1, _ => exact ⟨_, rfl, rfl, rfl⟩
set_option maxHeartbeats 8000000 in
set_option maxRecDepth 100000 in
theorem journalDown_walk (A1 : Option Addr) (n1 c1 : Nat) (ps : List Prt) (fuse : Int) (w : World) (h1 : RowsIn w A1 n1 c1 ps) (hf : -9223372036854775808 ≤ fuse ∧ fuse ≤ 9223372036854775807) :
    Calls Try.prog 15 #[.slice A1 n1 c1, .int .i64 fuse] w fun e w' => e = .returned (.bool true) ∧ Below w.heap.size w w' := by
  clear hf
  have HS0 := Lib.hid (Sts.nil w)
  have H1 := Lib.hid h1
  obtain ⟨v, hv, hv1⟩ : ∃ v : Nat, within fuse 0 1 = v ∧ v ≤ 1 := by
    have := within_bd fuse (lo := 0) (hi := 1) (by omega)
    exact ⟨(within fuse 0 1).toNat, by omega, by omega⟩
  have HV := Lib.hid hv
  obtain ⟨s2, hj, hoff, hbt⟩ := down_states v hv1
  have hoka : (m0.arm v).Ok := m0_ok.arm (by omega) (by omega)
  have hok2 : s2.Ok := jadd_ok (t := [1]) hoka (byt_of _ rfl) (by show 0 + 1 + 10 ≤ _; omega) hj
  have HJ := Lib.hid hj; have HO := Lib.hid hoff; have HBT := Lib.hid hbt; have HOKA := Lib.hid hoka; have HOK2 := Lib.hid hok2
  have hmk := make_bytes 60001 (by omega)
  simp only [Int.cast_ofNat_Int] at hmk
  clear hv hj hoff hbt hoka hok2 h1
  go_enter Try.func15, Try.ntmps15
  go_wp2_with fail
  refine (medNew_calls (w0 := w) (A := []) (B := []) HS0.out).mono ?_
  rintro e w1 ⟨g, rfl, hm⟩
  have M1 := Lib.hid (show MedAt w [] [] g m0 w1 from hm)
  clear hm HS0
  go_wp2_with fail
  refine (jopen_ok (ts := []) (s' := m0) (v := 0) M1.out m0_ok rfl (by decide) (lies_nil _) (.inl rfl) (.inl ⟨rfl, rfl, rfl⟩) rfl).mono ?_
  rintro e w2 ⟨gj, Rs, a2, c2, rfl, hT, hm⟩
  have M2 := Lib.hid (show MedAt w [] ((gj, jcells g 0 false, 72) :: []) g m0 w2 from hm.subB (List.Sublist.cons_cons _ (List.nil_sublist _)))
  clear hm hT M1
  go_wp2_with fail
  refine (jadd_long (M2.out.alloc _) (by omega) (by omega) (by omega)).mono ?_
  rintro e w3 ⟨rfl, hw3⟩
  have M3 := Lib.hid (show MedAt w [] _ g m0 w3 from hw3 ▸ M2.out.alloc _)
  clear hw3 M2 hmk
  go_wp2_with fail
  refine (bytes_is M3.out m0_ok (l := []) rfl).mono ?_
  rintro e w5 ⟨a5, m5, c5, rfl, hP, hm, hb, hl, hc1, hc2⟩
  have M5 := Lib.hid hm
  obtain rfl : m5 = 0 := hl
  clear hP hm hb hc1 hc2 M3
  go_wp2_with fail
  have hin := H1.out
  have hin5 : RowsIn w5 A1 n1 c1 ps := ⟨hin.src.below M5.out.bel, fun p hp => (hin.each p hp).below M5.out.bel, hin.le, hin.cap⟩
  refine (some_calls A1 n1 c1 ps _ hin5).mono ?_
  have hsm := someL_small hin
  rintro e w6 ⟨R6, a6, c6, N, rfl, hN, hT, hS6⟩
  obtain ⟨ts, hts⟩ : ∃ ts, someL ps = ts := ⟨_, rfl⟩
  rw [hts] at hsm hN hT
  have HSM := Lib.hid hsm; have HT := Lib.hid hT; have HN := Lib.hid hN
  have M6 := Lib.hid (show MedAt w [] ((gj, jcells g 0 false, 72) :: R6) g m0 w6 from (M5.out.join hS6).permB (List.perm_append_singleton _ _))
  have hN10 : N ≤ 10 := by have := hsm.1; omega
  clear hin hin5 hsm hN hT hts hS6 M5 H1
  go_wp2_with fail
  refine (within_calls fuse 0 1 _ (by omega) (by omega) (by omega)).mono ?_
  rw [HV.out]
  rintro e w' ⟨rfl, rfl⟩
  go_wp2_with fail
  refine (medArm_calls (v : Int) M6.out).mono ?_
  rintro e w7 ⟨rfl, hm⟩
  have M7 := Lib.hid hm
  clear hm M6
  go_wp2_with fail
  refine (add_is (t := [1]) (M7.out.alloc _) HOKA.out (Src.new (size := 1) (m := 1) rfl rfl) (byt_of _ rfl) (by omega) (by omega) (by show 0 + 1 + 10 ≤ _; omega) HJ.out).mono ?_
  rintro e w8 ⟨rfl, hm⟩
  have M8 := Lib.hid hm
  clear hm M7
  go_wp2_with fail
  refine (jcount_calls M8.out).mono ?_
  rintro e w' ⟨rfl, rfl⟩
  go_wp2_with fail
  refine (off_is M8.out HO.out).mono ?_
  rintro e w' ⟨rfl, rfl⟩
  go_wp2_with fail
  refine (jopen_off M8.out HO.out).mono ?_
  rintro e w9 ⟨rfl, hm⟩
  have M9 := Lib.hid hm
  clear hm M8
  go_wp2_with fail
  refine (boot_is 0 M9.out HOK2.out HBT.out).mono ?_
  rintro e w10 ⟨rfl, hm⟩
  have M10 := Lib.hid hm
  clear hm M9
  go_wp2_with fail
  go_loopw [70] (fun v70 wx => ∃ (i : Nat), i ≤ N ∧ v70 = .int .i64 i ∧ Hid (MedAt w [] ((gj, jcells g 0 true, 72) :: R6) g m0 wx)) (fun v70 _ => N - (intOf v70).toNat)
  case atStart => exact ⟨0, Nat.zero_le _, rfl, M10⟩
  case round =>
    clear M10
    obtain ⟨i, hi, rfl, M10⟩ := hrel
    by_cases hlt : i < N
    · obtain ⟨t, ht⟩ : ∃ t, ts[i]? = some t := ⟨_, List.getElem?_eq_getElem (by rw [← HN.out]; exact hlt)⟩
      obtain ⟨hby, hl40⟩ := HSM.out.2 t (List.mem_of_getElem? ht)
      have hrd := reads_of HT.out M10.out (fun x hx => List.mem_cons_of_mem _ hx)
      obtain ⟨ad, p, rfl, hcell, hs⟩ := hrd.at_ ht
      have hpn := hs.len
      have HSR := Lib.hid hs; have HBY := Lib.hid hby
      have hpn2 : p.n ≤ 40 := by omega
      clear ht hby hl40 hrd hs hpn
      go_wp2_with fail
      refine (add_is M10.out m0_ok HSR.out HBY.out (by omega) (by omega) (by show 0 + _ + 10 ≤ _; omega) (v := 8) (s' := m0) (cnt' := 0) (bad' := true) rfl).mono ?_
      rintro e w11 ⟨rfl, hm⟩
      have M11 := Lib.hid hm
      clear hm M10
      go_wp2
      go_roundw
      case rel => exact ⟨i + 1, by omega, by go_num, M11⟩
      case measure => simp [intOf]; omega
    · go_wp2_with fail
      refine (jopen_ok (ts := []) (s' := m0) (v := 0) M10.out m0_ok rfl (by decide) (lies_nil _) (.inl rfl) (.inl ⟨rfl, rfl, rfl⟩) rfl).mono ?_
      rintro e w12 ⟨gk, Rs12, a12, c12, rfl, hT12, hm⟩
      have M12 := Lib.hid hm
      clear hm hT12 M10
      go_wp2_with fail
      refine (add_is (t := [1]) (v := 0) (s' := ⟨sealL 1 [1], 11, false, 0, false⟩) (cnt' := 1) (bad' := false) (M12.out.alloc _) m0_ok (Src.new (size := 1) (m := 1) rfl rfl) (byt_of _ rfl) (by show 0 ≤ _; omega) (by omega) (by decide) rfl).mono ?_
      rintro e w13 ⟨rfl, hm⟩
      have M13 := Lib.hid hm
      clear hm M12
      go_wp2_with fail
      refine (journalRuns_b M13.out.bel).mono ?_
      rintro e w14 ⟨rfl, hb14⟩
      have B14 := Lib.hid hb14
      clear hb14
      go_wp2
      go_ret
      exact ⟨rfl, B14.out⟩
end Go.Proofs.Ytefidbfhcpcgjaa

import Derived.Test.YtefidbfhcpcgjaaDuo
namespace Go.Proofs.Ytefidbfhcpcgjaa
open Go.RowKit
set_option linter.unusedVariables false
set_option linter.unusedSimpArgs false
theorem Duo.join {w0 W W' : World} {ga gb : Nat} {sa sb : Med} {j k : Ent} {Z R' : List Ent} (h : Duo w0 ga sa j gb sb k Z W) (hj : Sts W R' W') : Duo w0 ga sa j gb sb k (R' ++ Z) W' := by
  obtain ⟨Rb, ab, cb, hRb, hM⟩ := h
  refine ⟨Rb, ab, cb, hRb, (hM.join hj).permB ?_⟩
  have := perm_mid R' [] (j :: ((gb, sb.cells ab cb, 66) :: (Rb ++ [k]))) Z
  simpa using this
theorem duo_lit {w0 W : World} {ga gb : Nat} {sa sa' sb : Med} {j j' k : Ent} {Z : List Ent} (h : Duo w0 ga sa j gb sb k Z W) (e1 : sa = sa') (e2 : j = j') : Duo w0 ga sa' j' gb sb k Z W := e1 ▸ e2 ▸ h
set_option maxHeartbeats 2000000 in
set_option maxRecDepth 100000 in
theorem jcount_cell {W : World} {gj cnt : Nat} (c1 : W.cell? ⟨gj, 1, none⟩ = some (.int .i64 cnt)) : Calls Try.prog 39 #[.pointer (some ⟨gj, 0, none⟩)] W fun e w' => e = .returned (.int .i64 cnt) ∧ W = w' := by
  go_enter Try.func39, Try.ntmps39
  go_wp2
  go_ret
  exact ⟨rfl, rfl⟩
theorem full_lies {ts : List (List Int)} (hf : Fit ts) (hl : ts.length ≤ 100000) : Lies (framesL 1 ts) ts := by
  have := lies_app hf hl []
  rwa [List.append_nil] at this
theorem frm_all (ts : List (List Int)) {N : Nat} (h : ts.length = N) : frm ts N = ⟨framesL 1 ts, (framesL 1 ts).length, false, 0, false⟩ := by unfold frm; rw [List.take_of_length_le (by omega)]
def full (ts : List (List Int)) : Med := ⟨framesL 1 ts, (framesL 1 ts).length, false, 0, false⟩
/-- A journal that is opened where all of it is whole. -/
theorem jopen_full {w0 W : World} {A B : List Ent} {g : Nat} {ts : List (List Int)} {N : Nat} (h : MedAt w0 A B g (full ts) W) (hok : (full ts).Ok) (hn : (framesL 1 ts).length ≤ 100000) (hf : Fit ts) (hl : ts.length ≤ 100000) (hN : ts.length = N) :
    Calls Try.prog 37 #[.pointer (some ⟨g, 0, none⟩)] W fun e w' => ∃ gj Rs a c, e = .returned (.tuple #[.pointer (some ⟨gj, 0, none⟩), .slice a N c, .int .i64 0]) ∧ Texts Rs a N c ts ∧ MedAt w0 A ((gj, jcells g N false, 72) :: (Rs ++ B)) g (full ts) w' := by
  subst hN
  have hoe : off ts ts.length = (framesL 1 ts).length := off_all ts 1 (Nat.le_refl _)
  exact jopen_ok (ts := ts) (v := 0) h hok rfl hn (full_lies hf hl) (.inl hoe) (.inl ⟨hoe, rfl, rfl⟩) rfl
set_option maxHeartbeats 16000000 in
set_option maxRecDepth 100000 in
theorem journalTwo_walk (A1 : Option Addr) (n1 c1 : Nat) (ps : List Prt) (A2 : Option Addr) (n2 c2 : Nat) (qs : List Prt) (w : World) (h1 : RowsIn w A1 n1 c1 ps) (h2 : RowsIn w A2 n2 c2 qs) :
    Calls Try.prog 16 #[.slice A1 n1 c1, .slice A2 n2 c2] w fun e w' => e = .returned (.bool true) ∧ Below w.heap.size w w' := by
  have HS0 := Lib.hid (Sts.nil w)
  have H1 := Lib.hid h1; have H2 := Lib.hid h2
  clear h1 h2
  go_enter Try.func16, Try.ntmps16
  go_wp2_with fail
  refine (medNew_calls (w0 := w) (A := []) (B := []) HS0.out).mono ?_
  rintro e w1 ⟨ga, rfl, hm⟩
  obtain ⟨Ra, aa, ca, hRa, hSa⟩ := hm
  have RA := Lib.hid (show Row Ra 5 1 aa m0.b.length ca (bs m0.b) from hRa)
  have SA := Lib.hid (show Sts w ([] ++ ((ga, m0.cells aa ca, 66) :: (Ra ++ []))) w1 from hSa)
  clear hRa hSa HS0
  go_wp2_with fail
  refine (medNew_calls (w0 := w) (A := []) (B := (ga, m0.cells aa ca, 66) :: (Ra ++ [])) SA.out).mono ?_
  rintro e w2 ⟨gb, rfl, hm⟩
  obtain ⟨Rb, ab, cb, hRb, hM⟩ := MedAt.swap (X := []) (Y := []) (sa := m0) hm RA.out
  have RB := Lib.hid hRb; have M2 := Lib.hid hM
  clear hm hRb hM RA SA
  go_wp2_with fail
  refine (jopen_ok (ts := []) (s' := m0) (v := 0) M2.out m0_ok rfl (by decide) (lies_nil _) (.inl rfl) (.inl ⟨rfl, rfl, rfl⟩) rfl).mono ?_
  rintro e w3 ⟨gj, R3, a3, c3, rfl, hT, hm⟩
  have hm3 : MedAt w [] ([(gj, jcells ga 0 false, 72)] ++ ((gb, m0.cells ab cb, 66) :: (Rb ++ []))) ga m0 w3 := hm.subB (List.Sublist.cons_cons _ (List.sublist_append_right _ _))
  obtain ⟨Ra, aa, ca, hRa, hM⟩ := hm3.swap RB.out
  have RA := Lib.hid hRa; have M3 := Lib.hid hM
  clear hm hT hm3 hRa hM M2 RB
  go_wp2_with fail
  refine (jopen_ok (ts := []) (s' := m0) (v := 0) M3.out m0_ok rfl (by decide) (lies_nil _) (.inl rfl) (.inl ⟨rfl, rfl, rfl⟩) rfl).mono ?_
  rintro e w4 ⟨gk, R4, a4, c4, rfl, hT, hm⟩
  have hm4 : MedAt w [] ((gk, jcells gb 0 false, 72) :: ((ga, m0.cells aa ca, 66) :: (Ra ++ [(gj, jcells ga 0 false, 72)]))) gb m0 w4 :=
    (hm.subB (List.Sublist.cons_cons _ (List.sublist_append_right _ _))).permB (List.Perm.cons _ (by
      have := List.perm_append_comm (l₁ := [(gj, jcells ga 0 false, 72)]) (l₂ := (ga, m0.cells aa ca, 66) :: Ra)
      simpa using this))
  have D4 : Hid (Duo w ga m0 (gj, jcells ga 0 false, 72) gb m0 (gk, jcells gb 0 false, 72) [] w4) := Lib.hid (Duo.turn ⟨Ra, aa, ca, RA.out, hm4⟩)
  clear hm hT hm4 M3 RA
  go_wp2_with fail
  have hin := H1.out
  have hin5 : RowsIn w4 A1 n1 c1 ps := ⟨hin.src.below D4.out.bel, fun p hp => (hin.each p hp).below D4.out.bel, hin.le, hin.cap⟩
  refine (some_calls A1 n1 c1 ps _ hin5).mono ?_
  have hsm := someL_small hin
  rintro e w5 ⟨R5, a5, c5, N, rfl, hN, hT, hS5⟩
  obtain ⟨xs, hxs⟩ : ∃ ts, someL ps = ts := ⟨_, rfl⟩
  rw [hxs] at hsm hN hT
  have SMX := Lib.hid hsm; have TX := Lib.hid hT; have NX := Lib.hid hN
  have D5 := Lib.hid (D4.out.join hS5)
  have hN10 : N ≤ 10 := by have := hsm.1; omega
  clear hin hin5 hsm hN hT hxs hS5 D4 H1
  go_wp2_with fail
  have hin := H2.out
  have hin5 : RowsIn w5 A2 n2 c2 qs := ⟨hin.src.below D5.out.bel, fun p hp => (hin.each p hp).below D5.out.bel, hin.le, hin.cap⟩
  refine (some_calls A2 n2 c2 qs _ hin5).mono ?_
  have hsm := someL_small hin
  rintro e w6 ⟨R6, a6, c6, M, rfl, hN, hT, hS6⟩
  obtain ⟨ys, hys⟩ : ∃ ts, someL qs = ts := ⟨_, rfl⟩
  rw [hys] at hsm hN hT
  have SMY := Lib.hid hsm; have TY := Lib.hid hT; have NY := Lib.hid hN
  have D6 := Lib.hid (D5.out.join hS6)
  have hM10 : M ≤ 10 := by have := hsm.1; omega
  clear hin hin5 hsm hN hT hys hS6 D5 H2
  obtain ⟨Z, hZ⟩ : ∃ Z, Z = R6 ++ (R5 ++ []) := ⟨_, rfl⟩
  have ZX : Hid (∀ x ∈ R5, x ∈ Z) := Lib.hid (fun x hx => by rw [hZ]; simp [hx])
  have ZY : Hid (∀ x ∈ R6, x ∈ Z) := Lib.hid (fun x hx => by rw [hZ]; simp [hx])
  have D6' := D6.out
  rw [← hZ] at D6'
  have D7 : Hid (Duo w ga (frm xs (min 0 N)) (gj, jcells ga (min 0 N) false, 72) gb (frm ys (min 0 M)) (gk, jcells gb (min 0 M) false, 72) Z w6) := Lib.hid (by rw [Nat.zero_min, Nat.zero_min]; exact D6')
  clear D6 D6' hZ
  go_wp2_with fail
  go_loopw [15] (fun v15 wx => ∃ (i : Nat), i ≤ max N M ∧ v15 = .int .i64 i ∧ Hid (Duo w ga (frm xs (min i N)) (gj, jcells ga (min i N) false, 72) gb (frm ys (min i M)) (gk, jcells gb (min i M) false, 72) Z wx)) (fun v15 _ => max N M - (intOf v15).toNat)
  case atStart => exact ⟨0, Nat.zero_le _, rfl, D7⟩
  case round =>
    clear D7
    obtain ⟨i, hi, rfl, D7⟩ := hrel
    by_cases hx : i < N
    · have b1 : decide (i < N) = true := decide_eq_true hx
      by_cases hy : i < M
      · have b2 : decide (i < M) = true := decide_eq_true hy
        obtain ⟨t, ht⟩ : ∃ t, xs[i]? = some t := ⟨_, List.getElem?_eq_getElem (by rw [← NX.out]; exact hx)⟩
        obtain ⟨hby, hl40⟩ := SMX.out.2 t (List.mem_of_getElem? ht)
        obtain ⟨adx, px, hA, hcellx, hs⟩ := (D7.out.reads TX.out ZX.out).at_ ht
        subst hA
        have hpn := hs.len
        have HSR := Lib.hid hs; have HBY := Lib.hid hby; have HTI := Lib.hid ht
        have hpn2 : px.n ≤ 40 := by omega
        have hfl := frm_len SMX.out i
        have hfl2 : (frm xs i).b.length ≤ 500 := by show (framesL 1 (xs.take i)).length ≤ _; omega
        have hmin : min i N = i := by omega
        have hmin2 : min (i + 1) N = i + 1 := by omega
        have Dd := D7.out
        rw [hmin] at Dd
        have DD := Lib.hid Dd
        have HM1 := Lib.hid hmin2
        clear ht hby hl40 hs hpn hfl Dd hmin hmin2
        go_wp2_with fail
        refine (duo_add DD.out (frm_ok SMX.out i) HSR.out HBY.out (by omega) (by omega) (by omega) (frm_add HTI.out)).mono ?_
        rintro e w8 ⟨rfl, hd⟩
        have hd2 := duo_lit hd (show frm xs (i + 1) = frm xs (min (i + 1) N) by rw [HM1.out]) (show ((gj, jcells ga (i + 1) false, 72) : Ent) = (gj, jcells ga (min (i + 1) N) false, 72) by rw [HM1.out])
        have D8 := Lib.hid hd2
        clear hd2
        clear hd DD HSR HBY HTI HM1 hcellx hfl2 hpn2
        obtain ⟨t, ht⟩ : ∃ t, ys[i]? = some t := ⟨_, List.getElem?_eq_getElem (by rw [← NY.out]; exact hy)⟩
        obtain ⟨hby, hl40⟩ := SMY.out.2 t (List.mem_of_getElem? ht)
        obtain ⟨ady, py, hA, hcelly, hs⟩ := (D8.out.reads TY.out ZY.out).at_ ht
        subst hA
        have hpn := hs.len
        have HSR := Lib.hid hs; have HBY := Lib.hid hby; have HTI := Lib.hid ht
        have hpn2 : py.n ≤ 40 := by omega
        have hfl := frm_len SMY.out i
        have hfl2 : (frm ys i).b.length ≤ 500 := by show (framesL 1 (ys.take i)).length ≤ _; omega
        have hmin : min i M = i := by omega
        have hmin2 : min (i + 1) M = i + 1 := by omega
        have Dd := D8.out.turn
        rw [hmin] at Dd
        have DD := Lib.hid Dd
        have HM1 := Lib.hid hmin2
        clear ht hby hl40 hs hpn hfl Dd hmin hmin2
        go_wp2_with fail
        refine (duo_add DD.out (frm_ok SMY.out i) HSR.out HBY.out (by omega) (by omega) (by omega) (frm_add HTI.out)).mono ?_
        rintro e w9 ⟨rfl, hd⟩
        have hd2 := duo_lit hd (show frm ys (i + 1) = frm ys (min (i + 1) M) by rw [HM1.out]) (show ((gk, jcells gb (i + 1) false, 72) : Ent) = (gk, jcells gb (min (i + 1) M) false, 72) by rw [HM1.out])
        have D9 := Lib.hid hd2.turn
        clear hd2
        clear hd DD HSR HBY HTI HM1 hcelly hfl2 hpn2
        go_wp2
        go_roundw
        case rel => exact ⟨i + 1, by omega, by go_num, D9⟩
        case measure => simp [intOf]; omega
      · have b2 : decide (i < M) = false := decide_eq_false hy
        obtain ⟨t, ht⟩ : ∃ t, xs[i]? = some t := ⟨_, List.getElem?_eq_getElem (by rw [← NX.out]; exact hx)⟩
        obtain ⟨hby, hl40⟩ := SMX.out.2 t (List.mem_of_getElem? ht)
        obtain ⟨adx, px, hA, hcellx, hs⟩ := (D7.out.reads TX.out ZX.out).at_ ht
        subst hA
        have hpn := hs.len
        have HSR := Lib.hid hs; have HBY := Lib.hid hby; have HTI := Lib.hid ht
        have hpn2 : px.n ≤ 40 := by omega
        have hfl := frm_len SMX.out i
        have hfl2 : (frm xs i).b.length ≤ 500 := by show (framesL 1 (xs.take i)).length ≤ _; omega
        have hmin : min i N = i := by omega
        have hmin2 : min (i + 1) N = i + 1 := by omega
        have Dd := D7.out
        rw [hmin] at Dd
        have DD := Lib.hid Dd
        have HM1 := Lib.hid hmin2
        clear ht hby hl40 hs hpn hfl Dd hmin hmin2
        go_wp2_with fail
        refine (duo_add DD.out (frm_ok SMX.out i) HSR.out HBY.out (by omega) (by omega) (by omega) (frm_add HTI.out)).mono ?_
        rintro e w8 ⟨rfl, hd⟩
        have hd2 := duo_lit hd (show frm xs (i + 1) = frm xs (min (i + 1) N) by rw [HM1.out]) (show ((gj, jcells ga (i + 1) false, 72) : Ent) = (gj, jcells ga (min (i + 1) N) false, 72) by rw [HM1.out])
        have D8 := Lib.hid hd2
        clear hd2
        clear hd DD HSR HBY HTI HM1 hcellx hfl2 hpn2
        have hmm : min (i + 1) M = min i M := by omega
        have D9 := D8.out
        rw [← hmm] at D9
        have D9 := Lib.hid D9
        clear hmm D8
        go_wp2
        go_roundw
        case rel => exact ⟨i + 1, by omega, by go_num, D9⟩
        case measure => simp [intOf]; omega
    · have b1 : decide (i < N) = false := decide_eq_false hx
      by_cases hy : i < M
      · have b2 : decide (i < M) = true := decide_eq_true hy
        obtain ⟨t, ht⟩ : ∃ t, ys[i]? = some t := ⟨_, List.getElem?_eq_getElem (by rw [← NY.out]; exact hy)⟩
        obtain ⟨hby, hl40⟩ := SMY.out.2 t (List.mem_of_getElem? ht)
        obtain ⟨ady, py, hA, hcelly, hs⟩ := (D7.out.reads TY.out ZY.out).at_ ht
        subst hA
        have hpn := hs.len
        have HSR := Lib.hid hs; have HBY := Lib.hid hby; have HTI := Lib.hid ht
        have hpn2 : py.n ≤ 40 := by omega
        have hfl := frm_len SMY.out i
        have hfl2 : (frm ys i).b.length ≤ 500 := by show (framesL 1 (ys.take i)).length ≤ _; omega
        have hmin : min i M = i := by omega
        have hmin2 : min (i + 1) M = i + 1 := by omega
        have Dd := D7.out.turn
        rw [hmin] at Dd
        have DD := Lib.hid Dd
        have HM1 := Lib.hid hmin2
        clear ht hby hl40 hs hpn hfl Dd hmin hmin2
        go_wp2_with fail
        refine (duo_add DD.out (frm_ok SMY.out i) HSR.out HBY.out (by omega) (by omega) (by omega) (frm_add HTI.out)).mono ?_
        rintro e w8 ⟨rfl, hd⟩
        have hd2 := duo_lit hd (show frm ys (i + 1) = frm ys (min (i + 1) M) by rw [HM1.out]) (show ((gk, jcells gb (i + 1) false, 72) : Ent) = (gk, jcells gb (min (i + 1) M) false, 72) by rw [HM1.out])
        have D8 := Lib.hid hd2.turn
        clear hd2
        clear hd DD HSR HBY HTI HM1 hcelly hfl2 hpn2
        have hmm : min (i + 1) N = min i N := by omega
        have D9 := D8.out
        rw [← hmm] at D9
        have D9 := Lib.hid D9
        clear hmm D8
        go_wp2
        go_roundw
        case rel => exact ⟨i + 1, by omega, by go_num, D9⟩
        case measure => simp [intOf]; omega
      · have b2 : decide (i < M) = false := decide_eq_false hy
        have D8 := D7.out
        rw [show min i N = N by omega, show min i M = M by omega, frm_all xs NX.out.symm, frm_all ys NY.out.symm] at D8
        have hlx : (framesL 1 xs).length ≤ 500 := by
          have h := frm_len SMX.out N
          rw [List.take_of_length_le (by rw [← NX.out]; exact Nat.le_refl _)] at h
          omega
        have hly : (framesL 1 ys).length ≤ 500 := by
          have h := frm_len SMY.out M
          rw [List.take_of_length_le (by rw [← NY.out]; exact Nat.le_refl _)] at h
          omega
        have okx : (full xs).Ok := by have := frm_ok SMX.out N; rwa [frm_all xs NX.out.symm] at this
        have oky : (full ys).Ok := by have := frm_ok SMY.out M; rwa [frm_all ys NY.out.symm] at this
        obtain ⟨Rb, ab, cb, hRb, hM⟩ := D8
        have RB := Lib.hid (show Row Rb 5 1 ab (full ys).b.length cb (bs (full ys).b) from hRb)
        have M8 := Lib.hid (show MedAt w [] ((gj, jcells ga N false, 72) :: ((gb, (full ys).cells ab cb, 66) :: (Rb ++ ((gk, jcells gb M false, 72) :: Z)))) ga (full xs) wr from hM)
        have OKX := Lib.hid okx; have OKY := Lib.hid oky
        have FX := Lib.hid SMX.out.fit; have FY := Lib.hid SMY.out.fit
        clear hRb hM D7 okx oky hx hy hi
        go_wp2_with fail
        refine (twin_calls M8.out OKX.out).mono ?_
        rintro e w9 ⟨gt, Rt, at_, ct, rfl, hRt, hm⟩
        obtain ⟨Ra, aa, ca, hRa, hM⟩ := MedAt.swap (X := []) hm hRt
        have RA := Lib.hid hRa; have M9 := Lib.hid hM
        clear hm hRt hRa hM M8
        go_wp2_with fail
        refine (jopen_full M9.out OKX.out (by omega) FX.out (by have := SMX.out.1; omega) NX.out.symm).mono ?_
        rintro e w10 ⟨gn, R10, a10, c10, rfl, hT, hm⟩
        have T10 := Lib.hid hT; have M10 := Lib.hid hm
        have ru := Lib.hid (reads_of hT hm (fun x hx => by simp [hx]))
        have rx := Lib.hid (reads_of TX.out hm (fun x hx => by simp [ZX.out x hx]))
        clear hT hm M9
        go_wp2_with fail
        refine (equal_yes xs ru.out rx.out (by omega) (fun t ht => by have := (SMX.out.2 t ht).2; omega)).mono ?_
        rintro e w11 ⟨rfl, n11, hw11⟩
        have M11 := Lib.hid (show MedAt w [] _ gt (full xs) w11 from hw11 ▸ M10.out.drewN n11)
        clear hw11 M10 ru rx
        have hadd : jadd (full xs) N false [5] = (0, full (xs ++ [[5]]), N + 1, false) := by
          have ht : (xs ++ [[5]])[N]? = some [5] := by rw [List.getElem?_append_right (by rw [← NX.out]; exact Nat.le_refl _), ← NX.out, Nat.sub_self]; rfl
          have h := frm_add ht
          have e1 : frm (xs ++ [[5]]) N = full xs := by unfold frm full; rw [List.take_left' NX.out.symm]
          have e2 : frm (xs ++ [[5]]) (N + 1) = full (xs ++ [[5]]) := by unfold frm full; rw [List.take_of_length_le (by rw [List.length_append, ← NX.out]; simp)]
          rw [e1, e2] at h
          exact h
        have ok5 := jadd_ok OKX.out (byt_of [5] rfl) (by show (framesL 1 xs).length + 1 + 10 ≤ _; omega) hadd
        have f5 : Fit (xs ++ [[5]]) := by
          intro t ht
          rcases List.mem_append.1 ht with h | h
          · exact FX.out t h
          · obtain rfl : t = [5] := by simpa using h
            exact ⟨byt_of _ rfl, by decide⟩
        have l5 : (framesL 1 (xs ++ [[5]])).length ≤ 600 := by
          rw [frames_app, List.length_append]
          have : (framesL (1 + (xs.length : Int)) [[5]]).length = 11 := by rw [frames_len]; rfl
          omega
        have HADD := Lib.hid hadd; have OK5 := Lib.hid ok5; have F5 := Lib.hid f5; have L5 := Lib.hid l5
        clear hadd ok5 f5 l5
        go_wp2_with fail
        refine (add_is (t := [5]) (M11.out.alloc _) OKX.out (Src.new (size := 1) (m := 1) rfl rfl) (byt_of _ rfl) (by omega) (by omega) (by show (framesL 1 xs).length + 1 + 10 ≤ _; omega) HADD.out).mono ?_
        rintro e w12 ⟨rfl, hm⟩
        obtain ⟨Rt, at_, ct, hRt, hM⟩ := MedAt.swap (X := (gn, jcells gt (N + 1) false, 72) :: R10) hm RA.out
        have RT := Lib.hid hRt; have M12 := Lib.hid hM
        clear hm hRt hM M11 RA
        go_wp2_with fail
        refine (jopen_full M12.out OKX.out (by omega) FX.out (by have := SMX.out.1; omega) NX.out.symm).mono ?_
        rintro e w13 ⟨gj2, R13, a13, c13, rfl, hT, hm⟩
        have T13 := Lib.hid hT
        obtain ⟨Ra, aa, ca, hRa, hM⟩ := MedAt.swap (gb := gb) (sb := full ys) (X := (gj2, jcells ga N false, 72) :: (R13 ++ ((gn, jcells gt (N + 1) false, 72) :: (R10 ++ ((gt, (full (xs ++ [[5]])).cells at_ ct, 66) :: (Rt ++ [(gj, jcells ga N false, 72)])))))) (Y := (gk, jcells gb M false, 72) :: Z) (hm.litB (by simp)) RB.out
        have RA := Lib.hid hRa; have M13 := Lib.hid hM
        clear hm hT hRa hM M12 RB
        go_wp2_with fail
        refine (jopen_full M13.out OKY.out (by omega) FY.out (by have := SMY.out.1; omega) NY.out.symm).mono ?_
        rintro e w14 ⟨gk2, R14, a14, c14, rfl, hT, hm⟩
        have T14 := Lib.hid hT
        obtain ⟨Rb, ab, cb, hRb, hM⟩ := MedAt.swap (gb := gt) (sb := full (xs ++ [[5]])) (X := (gk2, jcells gb M false, 72) :: (R14 ++ ((gj2, jcells ga N false, 72) :: (R13 ++ ((gn, jcells gt (N + 1) false, 72) :: R10))))) (Y := (gj, jcells ga N false, 72) :: ((ga, (full xs).cells aa ca, 66) :: (Ra ++ ((gk, jcells gb M false, 72) :: Z)))) (hm.litB (by simp)) RT.out
        have M14 := Lib.hid hM
        clear hm hT hRb hM M13 RT RA
        go_wp2_with fail
        refine (jopen_full (N := N + 1) M14.out OK5.out (by have := L5.out; omega) F5.out (by rw [List.length_append, ← NX.out]; simp; omega) (by rw [List.length_append, ← NX.out]; simp)).mono ?_
        rintro e w15 ⟨gt2, R15, a15, c15, rfl, hT, hm⟩
        have rv := Lib.hid (reads_of T13.out hm (fun x hx => by simp [hx]))
        have rx := Lib.hid (reads_of TX.out hm (fun x hx => by simp [ZX.out x hx]))
        have rw_ := Lib.hid (reads_of T14.out hm (fun x hx => by simp [hx]))
        have ry := Lib.hid (reads_of TY.out hm (fun x hx => by simp [ZY.out x hx]))
        have mj := Lib.hid (hm.cellB (gn := gj) (cs := jcells ga N false) (t := 72) (by simp) 1 (v := .int .i64 N) rfl).1
        have mk := Lib.hid (hm.cellB (gn := gk) (cs := jcells gb M false) (t := 72) (by simp) 1 (v := .int .i64 M) rfl).1
        have M15 := Lib.hid hm
        have z1 : ((N : Int) == N) = true := by simp
        have z2 : ((M : Int) == M) = true := by simp
        have z3 : (((N : Int) + 1) == (N : Int) + 1) = true := by simp
        clear hT hm M14
        go_wp2_with fail
        refine (equal_yes xs rv.out rx.out (by omega) (fun t ht => by have := (SMX.out.2 t ht).2; omega)).mono ?_
        rintro e w16 ⟨rfl, n16, hw16⟩
        have rw2 := Lib.hid (rw_.out.drewE hw16)
        have ry2 := Lib.hid (ry.out.drewE hw16)
        have mj2 : Hid (w16.cell? ⟨gj, 1, none⟩ = some (.int .i64 N)) := Lib.hid (by rw [hw16]; exact mj.out)
        have mk2 : Hid (w16.cell? ⟨gk, 1, none⟩ = some (.int .i64 M)) := Lib.hid (by rw [hw16]; exact mk.out)
        have M16 := Lib.hid (show MedAt w [] _ gt _ w16 from hw16 ▸ M15.out.drewN n16)
        clear hw16 M15 rv rx rw_ ry
        go_wp2_with fail
        refine (equal_yes ys rw2.out ry2.out (by omega) (fun t ht => by have := (SMY.out.2 t ht).2; omega)).mono ?_
        rintro e w17 ⟨rfl, n17, hw17⟩
        have mj3 : Hid (w17.cell? ⟨gj, 1, none⟩ = some (.int .i64 N)) := Lib.hid (by rw [hw17]; exact mj2.out)
        have mk3 : Hid (w17.cell? ⟨gk, 1, none⟩ = some (.int .i64 M)) := Lib.hid (by rw [hw17]; exact mk2.out)
        have M17 := Lib.hid (show MedAt w [] _ gt _ w17 from hw17 ▸ M16.out.drewN n17)
        clear hw17 M16 rw2 ry2
        go_wp2_with fail
        refine (jcount_cell mj3.out).mono ?_
        rintro e w' ⟨rfl, rfl⟩
        go_wp2_with fail
        refine (jcount_cell mk3.out).mono ?_
        rintro e w' ⟨rfl, rfl⟩
        go_wp2_with fail
        refine (journalRuns_b M17.out.bel).mono ?_
        rintro e w19 ⟨rfl, hb19⟩
        have B19 := Lib.hid hb19
        clear hb19
        go_wp2
        go_ret
        exact ⟨rfl, B19.out⟩
end Go.Proofs.Ytefidbfhcpcgjaa


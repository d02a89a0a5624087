import Derived.Test.YtefidbfhcpcgjaaMedA
namespace Go.Proofs.Ytefidbfhcpcgjaa
open Go.RowKit
set_option linter.unusedVariables false
set_option linter.unusedSimpArgs false
attribute [local go_sem] bmax2 bmin2 bmax_two bmin_two bmax_three bmin_three
theorem Med.Ok.append {s : Med} (h : s.Ok) {l : List Int} (hl : Byt l) (hn : s.b.length + l.length ≤ 200000) : (s.append l).2.Ok := by
  have hg := h.goes
  unfold Med.append
  split
  · have := s.goes_b
    exact ⟨h.byt.app hl, by show (s.b ++ l).length ≤ _; rw [List.length_append]; exact hn, by show s.goes.2.firm ≤ (s.b ++ l).length; rw [List.length_append, this.2]; have := h.firm; omega, hg.f0, hg.f1, hg.lit⟩
  · exact hg
theorem Med.Ok.flush {s : Med} (h : s.Ok) : s.flush.2.Ok := by
  have hg := h.goes
  unfold Med.flush
  split
  · have := s.goes_b
    exact ⟨hg.byt, hg.len, by show s.b.length ≤ s.goes.2.b.length; rw [this.1]; exact Nat.le_refl _, hg.f0, hg.f1, hg.lit⟩
  · exact hg
theorem Med.Ok.keep {s : Med} (h : s.Ok) {n : Nat} (hn : n ≤ s.b.length) : (s.keep n).Ok :=
  ⟨h.byt.take n, by show (s.b.take n).length ≤ _; rw [List.length_take]; have := h.len; omega, by show n ≤ (s.b.take n).length; rw [List.length_take]; omega, h.f0, h.f1, h.lit⟩
theorem Med.Ok.cut {s : Med} (h : s.Ok) (n : Int) : (s.cut n).2.Ok := by
  have hg := h.goes
  have hb := s.goes_b
  unfold Med.cut
  split
  · exact h
  · split
    · exact hg.keep (by rw [hb.1]; omega)
    · exact hg
theorem Med.Ok.arm {s : Med} (h : s.Ok) {n : Int} (h0 : -9223372036854775808 ≤ n) (h1 : n ≤ 9223372036854775807) : (s.arm n).Ok :=
  ⟨h.byt, h.len, h.firm, h0, h1, fun hl => of_decide_eq_true hl⟩
theorem Med.Ok.boot {s : Med} (h : s.Ok) (k : Int) : (s.boot k).Ok := by
  have hf := h.firm
  have hk := h.keep (n := s.firm + (max 0 (min k ((s.b.length : Int) - s.firm))).toNat) (by omega)
  exact ⟨hk.byt, hk.len, hk.firm, hk.f0, hk.f1, fun hl => by cases hl⟩
section
variable {w0 W : World} {A B : List Ent} {g : Nat} {s : Med}
theorem MedAt.parts (h : MedAt w0 A B g s W) : ∃ R a cap, Row R 5 1 a s.b.length cap (bs s.b) ∧ Sts w0 (A ++ ((g, s.cells a cap, 66) :: (R ++ B))) W ∧ W.cell? ⟨g, 0, none⟩ = some (.slice a s.b.length cap) ∧ W.cell? ⟨g, 1, none⟩ = some (.int .i64 s.firm) ∧ W.cell? ⟨g, 2, none⟩ = some (.bool s.off) ∧ W.cell? ⟨g, 3, none⟩ = some (.int .i64 s.fuse) ∧ W.cell? ⟨g, 4, none⟩ = some (.bool s.lit) ∧
    W.frozen? ⟨g, 0, none⟩ = false ∧ W.frozen? ⟨g, 1, none⟩ = false ∧ W.frozen? ⟨g, 2, none⟩ = false ∧ W.frozen? ⟨g, 3, none⟩ = false ∧ W.frozen? ⟨g, 4, none⟩ = false := by
  obtain ⟨R, a, cap, hR, hS⟩ := h
  exact ⟨R, a, cap, hR, hS, hS.cellM (mid_mem _) 0 rfl, hS.cellM (mid_mem _) 1 rfl, hS.cellM (mid_mem _) 2 rfl, hS.cellM (mid_mem _) 3 rfl, hS.cellM (mid_mem _) 4 rfl, hS.frozenM (mid_mem _) 0, hS.frozenM (mid_mem _) 1, hS.frozenM (mid_mem _) 2, hS.frozenM (mid_mem _) 3, hS.frozenM (mid_mem _) 4⟩

set_option maxHeartbeats 2000000 in
set_option maxRecDepth 100000 in
theorem medAppend_calls {C : Option Addr} {n c : Nat} {l : List Int} (h : MedAt w0 A B g s W) (hok : s.Ok) (hs : Src W C n 1 (bs l)) (ha : Apart C n g) (hn : s.b.length + n ≤ 900000) : Calls Try.prog 22 #[.pointer (some ⟨g, 0, none⟩), .slice C n c] W (MedGoes (.int .i64 (s.append l).1) w0 A B g (s.append l).2) := by
  obtain ⟨i0, hi, hz, hs1, hs2⟩ := info_parts byte_info
  have hl := hs.len
  have hgo := goes_calls h hok
  have hap : s.append l = if s.goes.1 then (0, { s.goes.2 with b := s.goes.2.b ++ l }) else (7, s.goes.2) := by unfold Med.append; rw [s.goes_b.1]
  have hnb : s.goes.2.b.length + n ≤ 900000 := by rw [s.goes_b.1]; exact hn
  generalize s.append l = r at *
  generalize s.goes.1 = v at *
  generalize s.goes.2 = s1 at *
  have HS := Lib.hid hs; have HL := Lib.hid hl; have HGO := Lib.hid hgo; have HAP := Lib.hid hap; have HA := Lib.hid ha
  clear hs hl hgo hap h hok ha hn
  go_enter Try.func22, Try.ntmps22
  go_wp2_with fail
  refine HGO.out.mono ?_
  rintro e w1 ⟨⟨rfl, hm⟩, hb⟩
  have HSW := Lib.hid (HS.out.but hb HA.out)
  have HM := Lib.hid hm
  clear hm hb HGO HS
  cases v with
  | false =>
    go_wp2
    go_ret
    rw [HAP.out]
    exact ⟨rfl, HM.out⟩
  | true =>
    obtain ⟨R, a, cap, hR, hS, c0, c1, c2, c3, c4, d0, d1, d2, d3, d4⟩ := HM.out.parts
    have HR := Lib.hid hR; have HSS := Lib.hid hS
    clear hR hS c1 c2 c3 c4 d1 d2 d3 d4
    go_wp2_with (at_builtin; go_must (refine row_append rfl (.tmp 12) (.tmp 13) 23 rfl (A ++ [(g, s1.cells a cap, 66)]) B Try.underlying23 hi hz hs1 hs2 rfl (by omega) HR.out HSS.out.midA rfl rfl HSW.out (bs_one _) (by omega) (by omega) ?_); intro R2 a2 cap2 w2 hR2 hS2; have HR2 := Lib.hid hR2; have HS2 := Lib.hid hS2.midB; have c0 := HS2.out.cellM (mid_mem _) 0 (v := .slice a s1.b.length cap) rfl; have d0 := HS2.out.frozenM (mid_mem _) 0; clear hR2 hS2)
    go_ret
    rw [HAP.out]
    refine ⟨rfl, R2, a2, cap2, ?_, ?_⟩
    · have := HR2.out
      rw [← bs_app] at this
      simpa [HL.out] using this
    · have := HS2.out.setM 0 (.slice a2 (s1.b.length + n) cap2)
      refine this.lit ?_
      simp [Med.cells, HL.out]
set_option maxHeartbeats 2000000 in
set_option maxRecDepth 100000 in
theorem medFlush_calls (h : MedAt w0 A B g s W) (hok : s.Ok) : Calls Try.prog 23 #[.pointer (some ⟨g, 0, none⟩)] W (MedGoes (.int .i64 s.flush.1) w0 A B g s.flush.2) := by
  have hgo := goes_calls h hok
  have hap : s.flush = if s.goes.1 then (0, { s.goes.2 with firm := s.goes.2.b.length }) else (7, s.goes.2) := by unfold Med.flush; rw [s.goes_b.1]
  have hnb : s.goes.2.b.length ≤ 900000 := by rw [s.goes_b.1]; have := hok.len; omega
  generalize s.flush = r at *
  generalize s.goes.1 = v at *
  generalize s.goes.2 = s1 at *
  have HGO := Lib.hid hgo; have HAP := Lib.hid hap
  clear hgo hap h hok
  go_enter Try.func23, Try.ntmps23
  go_wp2_with fail
  refine HGO.out.mono ?_
  rintro e w1 ⟨⟨rfl, hm⟩, hb⟩
  have HM := Lib.hid hm
  clear hm hb HGO
  cases v with
  | false =>
    go_wp2
    go_ret
    rw [HAP.out]
    exact ⟨rfl, HM.out⟩
  | true =>
    obtain ⟨R, a, cap, hR, hS, c0, c1, c2, c3, c4, d0, d1, d2, d3, d4⟩ := HM.out.parts
    have HR := Lib.hid hR; have HSS := Lib.hid hS
    clear hR hS c2 c3 c4 d0 d2 d3 d4
    go_wp2
    go_ret
    rw [HAP.out]
    exact ⟨rfl, R, a, cap, HR.out, HSS.out.setM 1 (.int .i64 s1.b.length)⟩
set_option maxHeartbeats 2000000 in
set_option maxRecDepth 100000 in
theorem medKeep_calls {n : Nat} (h : MedAt w0 A B g s W) (hok : s.Ok) (hn : n ≤ s.b.length) : Calls Try.prog 45 #[.pointer (some ⟨g, 0, none⟩), .int .i64 n] W (MedGoes (.tuple #[]) w0 A B g (s.keep n)) := by
  have hlen := hok.len
  obtain ⟨R, a, cap, hR, hS, c0, c1, c2, c3, c4, d0, d1, d2, d3, d4⟩ := h.parts
  have hnc := hR.le
  have hsrc := (hR.srcIn hS fun _ h => List.mem_append_right _ (List.mem_cons_of_mem _ (List.mem_append_left _ h))).cutHi hn
  have hcc := hR.cap_le
  have hnone : a = none → cap = 0 := fun e => by
    obtain ⟨_, _, _, h4⟩ := hR
    rcases h4 with ⟨_, h5⟩ | ⟨_, _, h5, _⟩
    · exact h5
    · rw [e] at h5; cases h5
  have HR := Lib.hid hR; have HSS := Lib.hid hS; have HSR := Lib.hid hsrc
  have kk : (n : Int) ≤ (cap : Int) := by omega
  have hlk : (s.b.take n).length = n := by rw [List.length_take]; omega
  have HLK := Lib.hid hlk
  clear hR hS hsrc c1 c2 c3 c4 d0 d1 d2 d3 d4 hok h hlk
  have main : ∀ (R2 : List Ent) (a2 : Option Addr) (cap2 : Nat) (w2 : World), Row R2 5 1 a2 n cap2 (bs (s.b.take n)) → Sts w0 (A ++ ((g, s.cells a cap, 66) :: (R2 ++ B))) w2 → MedAt w0 A B g (s.keep n) ((w2.setCell ⟨g, 0, none⟩ (.slice a2 n cap2)).setCell ⟨g, 1, none⟩ (.int .i64 n)) := by
    intro R2 a2 cap2 w2 h1 h2
    refine ⟨R2, a2, cap2, ?_, ?_⟩
    · show Row R2 _ 1 a2 (s.b.take n).length cap2 (bs (s.b.take n)); rw [HLK.out]; exact h1
    · have := (h2.setM 0 (.slice a2 n cap2)).setM 1 (.int .i64 n)
      refine this.lit ?_
      simp [Med.cells, Med.keep, HLK.out]
  have HMAIN := Lib.hid main
  have drop : Sts w0 (A ++ ((g, s.cells a cap, 66) :: B)) W := HSS.out.sub ((List.Sublist.refl A).append (List.Sublist.cons_cons _ (List.sublist_append_right R B)))
  have HD := Lib.hid drop
  clear main drop
  cases a with
  | none =>
    have hn0 : n = 0 := by
      have := HSR.out.2
      rcases Nat.eq_zero_or_pos n with h0 | h0
      · exact h0
      · obtain ⟨ad, e, _⟩ := this h0; cases e
    subst hn0
    obtain rfl := hnone rfl
    go_enter Try.func45, Try.ntmps45
    go_wp2_with fail
    refine (clone_nil _).mono ?_
    rintro e w' ⟨rfl, rfl⟩
    have c0 := HD.out.cellM (mid_mem _) 0 (v := .slice none s.b.length 0) rfl
    have d0 := HD.out.frozenM (mid_mem _) 0
    have c1 := HD.out.cellM (mid_mem _) 1 (v := .int .i64 s.firm) rfl
    have d1 := HD.out.frozenM (mid_mem _) 1
    go_wp2
    go_end0
    exact ⟨rfl, HMAIN.out [] none 0 _ (by simpa [bs] using Row.nil _ _) HD.out⟩
  | some ad =>
    go_enter Try.func45, Try.ntmps45
    go_wp2_with fail
    refine (clone_some ad n cap _ _ HSR.out (bs_one _) (by omega)).mono ?_
    rintro e w2 ⟨R2, a2, cap2, rfl, hR2, hS2⟩
    have H2 := Lib.hid ((Sts.join (A ++ [(g, s.cells (some ad) cap, 66)]) B (Sts.lit HD.out (by simp)) hS2).midB)
    have HR2 := Lib.hid hR2
    have c0 := H2.out.cellM (mid_mem _) 0 (v := .slice (some ad) s.b.length cap) rfl
    have d0 := H2.out.frozenM (mid_mem _) 0
    have c1 := H2.out.cellM (mid_mem _) 1 (v := .int .i64 s.firm) rfl
    have d1 := H2.out.frozenM (mid_mem _) 1
    clear hR2 hS2
    go_wp2
    go_end0
    exact ⟨rfl, HMAIN.out R2 a2 cap2 w2 HR2.out H2.out⟩
end
end Go.Proofs.Ytefidbfhcpcgjaa

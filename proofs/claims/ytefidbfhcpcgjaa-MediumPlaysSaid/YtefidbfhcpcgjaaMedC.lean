import Derived.Test.YtefidbfhcpcgjaaMedB
import Derived.StillTailTactics
namespace Go.Proofs.Ytefidbfhcpcgjaa
open Go.RowKit
set_option linter.unusedVariables false
set_option linter.unusedSimpArgs false
attribute [local go_sem] bmax2 bmin2 bmax_two bmin_two bmax_three bmin_three
section
variable {w0 W : World} {A B : List Ent} {g : Nat} {s : Med}
theorem MedAt.drew (h : MedAt w0 A B g s W) : MedAt w0 A B g s W.drew := h.below (Below.refl _ _).drew
theorem MedAt.drewN (h : MedAt w0 A B g s W) (n : Nat) : MedAt w0 A B g s (W.drewN n) := h.below (bel_drewN (Below.refl _ _) n)
set_option maxHeartbeats 2000000 in
set_option maxRecDepth 100000 in
theorem medFirm_calls (h : MedAt w0 A B g s W) : Calls Try.prog 26 #[.pointer (some ⟨g, 0, none⟩)] W fun e w' => e = .returned (.int .i64 s.firm) ∧ W = w' := by
  obtain ⟨R, a, cap, hR, hS, c0, c1, c2, c3, c4, d0, d1, d2, d3, d4⟩ := h.parts
  clear hR hS c0 c2 c3 c4 d0 d1 d2 d3 d4 h
  go_enter Try.func26, Try.ntmps26
  go_wp2
  go_ret
  exact ⟨rfl, rfl⟩
set_option maxHeartbeats 2000000 in
set_option maxRecDepth 100000 in
theorem medOff_calls (h : MedAt w0 A B g s W) : Calls Try.prog 31 #[.pointer (some ⟨g, 0, none⟩)] W fun e w' => e = .returned (.bool s.off) ∧ W = w' := by
  obtain ⟨R, a, cap, hR, hS, c0, c1, c2, c3, c4, d0, d1, d2, d3, d4⟩ := h.parts
  clear hR hS c0 c1 c3 c4 d0 d1 d2 d3 d4 h
  go_enter Try.func31, Try.ntmps31
  go_wp2
  go_ret
  exact ⟨rfl, rfl⟩
set_option maxHeartbeats 2000000 in
set_option maxRecDepth 100000 in
theorem medArm_calls (n : Int) (h : MedAt w0 A B g s W) : Calls Try.prog 30 #[.pointer (some ⟨g, 0, none⟩), .int .i64 n] W (MedGoes (.tuple #[]) w0 A B g (s.arm n)) := by
  obtain ⟨R, a, cap, hR, hS, c0, c1, c2, c3, c4, d0, d1, d2, d3, d4⟩ := h.parts
  have HR := Lib.hid hR; have HSS := Lib.hid hS
  clear hR hS c0 c1 c2 d0 d1 d2 h
  go_enter Try.func30, Try.ntmps30
  go_wp2
  go_end0
  exact ⟨rfl, R, a, cap, HR.out, (HSS.out.setM 3 (.int .i64 n)).setM 4 (.bool (decide (0 ≤ n)))⟩
set_option maxHeartbeats 2000000 in
set_option maxRecDepth 100000 in
theorem medBytes_made (h : MedAt w0 A B g s W) (hok : s.Ok) : Calls Try.prog 25 #[.pointer (some ⟨g, 0, none⟩)] W (Made (bs s.bytes) s.bytes.length 5 1 W) := by
  have hlen := hok.len
  obtain ⟨R, a, cap, hR, hS, c0, c1, c2, c3, c4, d0, d1, d2, d3, d4⟩ := h.parts
  have hsrc := hR.srcIn hS fun _ h => List.mem_append_right _ (List.mem_cons_of_mem _ (List.mem_append_left _ h))
  have hnone : a = none → cap = 0 ∧ s.b.length = 0 := fun e => by
    have hle := hR.le
    obtain ⟨_, _, _, h4⟩ := hR
    rcases h4 with ⟨_, h5⟩ | ⟨_, _, h5, _⟩
    · omega
    · rw [e] at h5; cases h5
  have HSR := Lib.hid hsrc
  clear hR hS hsrc c1 c3 c4 d0 d1 d2 d3 d4 h hok
  obtain ⟨b, firm, off, fuse, lit⟩ := s
  simp only at c0 c2 hlen hnone HSR
  cases off with
  | true =>
    go_enter Try.func25, Try.ntmps25
    go_wp2
    go_ret
    exact ⟨[], none, 0, rfl, Row.nil _ _, Sts.nil W⟩
  | false =>
    cases a with
    | none =>
      obtain ⟨rfl, h0⟩ := hnone rfl
      have hb : b = [] := List.eq_nil_of_length_eq_zero h0
      subst hb
      clear hnone h0
      go_enter Try.func25, Try.ntmps25
      go_wp2_with fail
      refine (clone_nil _).mono ?_
      rintro e w' ⟨rfl, rfl⟩
      go_wp2
      go_ret
      exact ⟨[], none, 0, rfl, Row.nil _ _, Sts.nil W⟩
    | some ad =>
      clear hnone
      go_enter Try.func25, Try.ntmps25
      go_wp2_with fail
      refine (clone_some ad b.length cap _ _ HSR.out (bs_one _) (by omega)).mono ?_
      rintro e w2 ⟨R2, a2, cap2, rfl, hR2, hS2⟩
      have HR2 := Lib.hid hR2
      have HS2 := Lib.hid hS2
      clear hR2 hS2
      go_wp2
      go_ret
      exact ⟨R2, a2, cap2, rfl, HR2.out, HS2.out⟩
theorem medBytes_calls (h : MedAt w0 A B g s W) (hok : s.Ok) : Calls Try.prog 25 #[.pointer (some ⟨g, 0, none⟩)] W fun e w' => ∃ a m c, e = .returned (.slice a m c) ∧ Src w' a m 1 (bs s.bytes) ∧ Below W.heap.size W w' ∧ m ≤ c ∧ c ≤ 9223372036854775807 :=
  (medBytes_made h hok).mono fun _ _ ⟨R, a, c, h1, h2, h3⟩ => ⟨a, _, c, h1, h2.src0 h3, h3.bel, h2.le, h2.cap_le⟩
set_option maxHeartbeats 2000000 in
set_option maxRecDepth 100000 in
theorem medCut_calls (n : Int) (h : MedAt w0 A B g s W) (hok : s.Ok) : Calls Try.prog 29 #[.pointer (some ⟨g, 0, none⟩), .int .i64 n] W (MedGoes (.int .i64 (s.cut n).1) w0 A B g (s.cut n).2) := by
  have hlen := hok.len
  obtain ⟨R, a, cap, hR, hS, c0, c1, c2, c3, c4, d0, d1, d2, d3, d4⟩ := h.parts
  have hgo := goes_calls h hok
  have hoks := hok.goes
  have hcu : s.cut n = if n < 0 ∨ (s.b.length : Int) < n then (1, s) else if s.goes.1 then (0, s.goes.2.keep n.toNat) else (7, s.goes.2) := rfl
  have hgb := s.goes_b.1
  generalize s.cut n = r at *
  have H := Lib.hid h; have HGO := Lib.hid hgo; have HCU := Lib.hid hcu; have HOK := Lib.hid hoks; have HGB := Lib.hid hgb
  clear hR hS c1 c2 c3 c4 d0 d1 d2 d3 d4 h hok hgo hcu hoks hgb
  by_cases h0 : n < 0
  · have b0 : decide (n < 0) = true := decide_eq_true h0
    have hr : r = (1, s) := by rw [HCU.out, if_pos (.inl h0)]
    have HR := Lib.hid hr
    clear hr
    go_enter Try.func29, Try.ntmps29
    go_wp2
    go_ret
    rw [HR.out]
    exact ⟨rfl, H.out⟩
  · have b0 : decide (n < 0) = false := decide_eq_false h0
    by_cases h1 : (s.b.length : Int) < n
    · have b1 : decide ((s.b.length : Int) < n) = true := decide_eq_true h1
      have hr : r = (1, s) := by rw [HCU.out, if_pos (.inr h1)]
      have HR := Lib.hid hr
      clear hr
      go_enter Try.func29, Try.ntmps29
      go_wp2
      go_ret
      rw [HR.out]
      exact ⟨rfl, H.out⟩
    · have b1 : decide ((s.b.length : Int) < n) = false := decide_eq_false h1
      have hr : r = if s.goes.1 then (0, s.goes.2.keep n.toNat) else (7, s.goes.2) := by rw [HCU.out, if_neg (by omega)]
      obtain ⟨q, rfl⟩ := Int.eq_ofNat_of_zero_le (show 0 ≤ n by omega)
      rw [Int.toNat_natCast] at hr
      generalize s.goes.1 = v at *
      generalize s.goes.2 = s1 at *
      have HR := Lib.hid hr
      clear hr HCU
      go_enter Try.func29, Try.ntmps29
      go_wp2_with fail
      refine HGO.out.mono ?_
      rintro e w1 ⟨⟨rfl, hm⟩, hb⟩
      have HM := Lib.hid hm
      clear hm hb HGO
      cases v with
      | false =>
        go_wp2
        go_ret
        rw [HR.out]
        exact ⟨rfl, HM.out⟩
      | true =>
        go_wp2_with fail
        refine (medKeep_calls HM.out HOK.out (by rw [HGB.out]; omega)).mono ?_
        rintro e w2 ⟨rfl, hm⟩
        have HM2 := Lib.hid hm
        clear hm
        go_wp2
        go_ret
        rw [HR.out]
        exact ⟨rfl, HM2.out⟩
set_option maxHeartbeats 2000000 in
set_option maxRecDepth 100000 in
theorem medNew_calls (h : Sts w0 (A ++ B) W) : Calls Try.prog 21 #[] W fun e w' => ∃ g, e = .returned (.pointer (some ⟨g, 0, none⟩)) ∧ MedAt w0 A B g ⟨[], 0, false, 0, false⟩ w' := by
  have H := Lib.hid h
  clear h
  go_enter Try.func21, Try.ntmps21
  go_wp2
  go_ret
  exact ⟨_, rfl, [], none, 0, Row.nil _ _, H.out.ins A B rfl _ _⟩
set_option maxHeartbeats 2000000 in
set_option maxRecDepth 100000 in
theorem medBoot_calls (k : Int) (h : MedAt w0 A B g s W) (hok : s.Ok) : Calls Try.prog 24 #[.pointer (some ⟨g, 0, none⟩), .int .i64 k] W (MedGoes (.tuple #[]) w0 A B g (s.boot k)) := by
  have hlen := hok.len
  have hfirm := hok.firm
  obtain ⟨R, a, cap, hR, hS, c0, c1, c2, c3, c4, d0, d1, d2, d3, d4⟩ := h.parts
  obtain ⟨q, hq⟩ : ∃ q, q = s.firm + (max 0 (min k ((s.b.length : Int) - s.firm))).toNat := ⟨_, rfl⟩
  have hq1 : q ≤ s.b.length := by omega
  have hbt : s.boot k = { s.keep q with off := false, lit := false } := by rw [hq]; rfl
  have f1 : IntKind.i64.wrap ((s.b.length : Int) - s.firm) = (s.b.length : Int) - s.firm := IntWalk.i64_in _ (by omega)
  have f2 : IntKind.i64.wrap ((s.firm : Int) + max 0 (min k ((s.b.length : Int) - s.firm))) = q := by rw [IntWalk.i64_in _ (by omega), hq]; omega
  have H := Lib.hid h; have HOK := Lib.hid hok; have HBT := Lib.hid hbt
  clear hR hS c2 c3 c4 d0 d1 d2 d3 d4 h hok hq hbt
  go_enter Try.func24, Try.ntmps24
  go_upto_region 0 with fail
  go_still_tail 19, (by kernel_rfl)
  go_wp2_with fail
  refine (medKeep_calls (n := q) H.out.drew HOK.out hq1).mono ?_
  rintro e w2 ⟨rfl, hm⟩
  have HM := Lib.hid hm
  clear hm f1 f2 c0 c1
  obtain ⟨R2, a2, cap2, hR, hS, c0, c1, c2, c3, c4, d0, d1, d2, d3, d4⟩ := HM.out.parts
  have HR := Lib.hid hR; have HSS := Lib.hid hS
  clear hR hS c0 c1 c3 d0 d1 d3
  go_wp2
  go_end0
  rw [HBT.out]
  exact ⟨rfl, R2, a2, cap2, HR.out, (HSS.out.setM 2 (.bool false)).setM 4 (.bool false)⟩
end
end Go.Proofs.Ytefidbfhcpcgjaa

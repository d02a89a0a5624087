import Derived.Test.YtefidbfhcpcgjaaJour
namespace Go.Proofs.Ytefidbfhcpcgjaa
open Go.RowKit
set_option linter.unusedVariables false
set_option linter.unusedSimpArgs false
section
variable {w0 W : World} {A B B' : List Ent} {g : Nat} {s s' : Med}
set_option maxHeartbeats 2000000 in
set_option maxRecDepth 100000 in
theorem jopen_off (h : MedAt w0 A B g s W) (ho : s.off = true) : Calls Try.prog 37 #[.pointer (some ⟨g, 0, none⟩)] W fun e w' => e = .returned (.tuple #[.pointer none, .slice none 0 0, .int .i64 7]) ∧ MedAt w0 A B g s w' := by
  have H := Lib.hid h
  have HO := Lib.hid ho
  clear h ho
  go_enter Try.func37, Try.ntmps37
  go_wp2_with fail
  refine (off_is H.out HO.out).mono ?_
  rintro e w' ⟨rfl, rfl⟩
  go_wp2
  go_ret3
  exact ⟨rfl, H.out⟩
set_option maxHeartbeats 2000000 in
set_option maxRecDepth 100000 in
theorem jopen_bad {ts : List (List Int)} (h : MedAt w0 A B g s W) (hok : s.Ok) (ho : s.off = false) (hn : s.b.length ≤ 100000) (hL : Lies s.b ts) (hend : off ts ts.length < s.b.length) (hend2 : openL s.b (off ts ts.length) = ([], 0, 0, 2)) :
    Calls Try.prog 37 #[.pointer (some ⟨g, 0, none⟩)] W fun e w' => e = .returned (.tuple #[.pointer none, .slice none 0 0, .int .i64 8]) ∧ MedAt w0 A B g s w' := by
  have hbb : s.bytes = s.b := by unfold Med.bytes; rw [ho]; rfl
  have H := Lib.hid h; have HO := Lib.hid ho; have HOK := Lib.hid hok; have HBB := Lib.hid hbb
  have HLI := Lib.hid hL; have HE := Lib.hid hend; have HE2 := Lib.hid hend2
  clear h ho hok hbb hL hend hend2
  go_enter Try.func37, Try.ntmps37
  go_wp2_with fail
  refine (off_is H.out HO.out).mono ?_
  rintro e w' ⟨rfl, rfl⟩
  go_wp2_with fail
  refine (bytes_is H.out HOK.out HBB.out).mono ?_
  rintro e w2 ⟨a2, m2, c2, rfl, hP, hm, hb, hl, hc1, hc2⟩
  have P2 := Lib.hid hP; have H2 := Lib.hid hm
  clear hP hm hb H
  have HL2 := Lib.hid hl
  have hm2 : m2 ≤ 100000 := by omega
  clear hl
  go_wp2_with fail
  refine (records_bad a2 m2 c2 s.b ts _ P2.out hc1 hc2 HOK.out.byt hm2 HLI.out (by rw [HL2.out]; exact HE.out) HE2.out).mono ?_
  rintro e w3 ⟨rfl, hb3⟩
  have H3 := Lib.hid (H2.out.below hb3)
  clear hb3
  go_wp2
  go_ret3
  exact ⟨rfl, H3.out⟩
set_option maxHeartbeats 4000000 in
set_option maxRecDepth 100000 in
theorem jopen_ok {ts : List (List Int)} {v : Int} (h : MedAt w0 A B g s W) (hok : s.Ok) (ho : s.off = false) (hn : s.b.length ≤ 100000) (hL : Lies s.b ts) (hend : off ts ts.length = s.b.length ∨ openL s.b (off ts ts.length) = ([], 0, 0, 1))
    (hcut : (off ts ts.length = s.b.length ∧ v = 0 ∧ s' = s) ∨ (off ts ts.length < s.b.length ∧ s.cut (off ts ts.length : Nat) = (v, s'))) (hv : v = 0) :
    Calls Try.prog 37 #[.pointer (some ⟨g, 0, none⟩)] W fun e w' => ∃ gj Rs a c, e = .returned (.tuple #[.pointer (some ⟨gj, 0, none⟩), .slice a ts.length c, .int .i64 0]) ∧ Texts Rs a ts.length c ts ∧ MedAt w0 A ((gj, jcells g ts.length false, 72) :: (Rs ++ B)) g s' w' := by
  have hbb : s.bytes = s.b := by unfold Med.bytes; rw [ho]; rfl
  have H := Lib.hid h; have HO := Lib.hid ho; have HOK := Lib.hid hok; have HBB := Lib.hid hbb
  have HLI := Lib.hid hL; have HE := Lib.hid hend
  have hle := hL.len
  obtain ⟨N, hN⟩ : ∃ N, ts.length = N := ⟨_, rfl⟩
  have HN := Lib.hid hN
  obtain ⟨o, ho2⟩ : ∃ o, off ts ts.length = o := ⟨_, rfl⟩
  rw [ho2] at hle hcut
  have HO2 := Lib.hid ho2
  have hob : o ≤ 100000 := by omega
  clear h ho hok hbb hL hend hN ho2
  subst hv
  rw [HN.out]
  go_enter Try.func37, Try.ntmps37
  go_wp2_with fail
  refine (off_is H.out HO.out).mono ?_
  rintro e w' ⟨rfl, rfl⟩
  go_wp2_with fail
  refine (bytes_is H.out HOK.out HBB.out).mono ?_
  rintro e w2 ⟨a2, m2, c2, rfl, hP, hm, hb, hl, hc1, hc2⟩
  have P2 := Lib.hid hP; have H2 := Lib.hid hm
  clear hP hm hb H
  have HL2 := Lib.hid hl
  have hm2 : m2 ≤ 100000 := by omega
  rw [← hl] at hle hcut
  clear hl
  go_wp2_with fail
  have hrec := records_ok a2 m2 c2 s.b ts _ P2.out hc1 hc2 HOK.out.byt hm2 HLI.out (by rw [HL2.out]; exact HE.out)
  rw [HN.out] at hrec
  have hoo : off ts N = o := by rw [← HN.out]; exact HO2.out
  rw [hoo] at hrec
  refine hrec.mono ?_
  clear hrec hoo
  rintro e w3 ⟨Rs, a3, c3, rfl, hT, hS3⟩
  have HT := Lib.hid hT
  have H3 := Lib.hid (H2.out.join hS3)
  have hN3 := hT.len
  have hNb : N ≤ 9223372036854775807 := by omega
  clear hT hS3 H2 hN3
  have fin : ∀ (s1 : Med) (w4 : World), MedAt w0 A (Rs ++ B) g s1 w4 → MedAt w0 A ((w4.heap.size, jcells g N false, 72) :: (Rs ++ B)) g s1 (w4.alloc (.cells (jcells g N false) 72)) := fun s1 w4 h4 =>
    (h4.addB (gn := _) rfl (jcells g N false) 72).permB (List.perm_append_singleton _ _)
  have FIN := Lib.hid fin
  clear fin
  rcases hcut with ⟨h1, h2, rfl⟩ | ⟨h1, h2⟩
  · have b1 : decide (o < m2) = false := decide_eq_false (by omega)
    clear h2
    go_wp2
    go_ret3
    exact ⟨w3.heap.size, Rs, a3, c3, rfl, HT.out, FIN.out _ _ H3.out⟩
  · have b1 : decide (o < m2) = true := decide_eq_true h1
    have HC := Lib.hid h2
    clear h2
    go_wp2_with fail
    refine (cut_is (o : Int) H3.out HOK.out HC.out).mono ?_
    rintro e w4 ⟨rfl, hm⟩
    have H4 := Lib.hid hm
    clear hm H3
    go_wp2
    go_ret3
    exact ⟨w4.heap.size, Rs, a3, c3, rfl, HT.out, FIN.out _ _ H4.out⟩
set_option maxHeartbeats 4000000 in
set_option maxRecDepth 100000 in
theorem jopen_down {ts : List (List Int)} (h : MedAt w0 A B g s W) (hok : s.Ok) (ho : s.off = false) (hn : s.b.length ≤ 100000) (hL : Lies s.b ts) (hend : openL s.b (off ts ts.length) = ([], 0, 0, 1))
    (hlt : off ts ts.length < s.b.length) (hcut : s.cut (off ts ts.length : Nat) = (7, s')) :
    Calls Try.prog 37 #[.pointer (some ⟨g, 0, none⟩)] W fun e w' => e = .returned (.tuple #[.pointer none, .slice none 0 0, .int .i64 7]) ∧ MedAt w0 A B g s' w' := by
  have hbb : s.bytes = s.b := by unfold Med.bytes; rw [ho]; rfl
  have H := Lib.hid h; have HO := Lib.hid ho; have HOK := Lib.hid hok; have HBB := Lib.hid hbb
  have HLI := Lib.hid hL; have HE := Lib.hid hend
  have hle := hL.len
  obtain ⟨o, ho2⟩ : ∃ o, off ts ts.length = o := ⟨_, rfl⟩
  rw [ho2] at hle hcut hlt
  have HO2 := Lib.hid ho2; have HC := Lib.hid hcut
  have hob : o ≤ 100000 := by omega
  clear h ho hok hbb hL hend ho2 hcut
  go_enter Try.func37, Try.ntmps37
  go_wp2_with fail
  refine (off_is H.out HO.out).mono ?_
  rintro e w' ⟨rfl, rfl⟩
  go_wp2_with fail
  refine (bytes_is H.out HOK.out HBB.out).mono ?_
  rintro e w2 ⟨a2, m2, c2, rfl, hP, hm, hb, hl, hc1, hc2⟩
  have P2 := Lib.hid hP; have H2 := Lib.hid hm
  clear hP hm hb H
  have HL2 := Lib.hid hl
  have hm2 : m2 ≤ 100000 := by omega
  rw [← hl] at hle hlt
  clear hl
  go_wp2_with fail
  have hrec := records_ok a2 m2 c2 s.b ts _ P2.out hc1 hc2 HOK.out.byt hm2 HLI.out (.inr HE.out)
  rw [HO2.out] at hrec
  refine hrec.mono ?_
  clear hrec
  rintro e w3 ⟨Rs, a3, c3, rfl, hT, hS3⟩
  have H3 := Lib.hid (H2.out.below hS3.bel)
  clear hT hS3 H2
  have b1 : decide (o < m2) = true := decide_eq_true hlt
  go_wp2_with fail
  refine (cut_is (o : Int) H3.out HOK.out HC.out).mono ?_
  rintro e w4 ⟨rfl, hm⟩
  have H4 := Lib.hid hm
  clear hm H3
  go_wp2
  go_ret3
  exact ⟨rfl, H4.out⟩
end
end Go.Proofs.Ytefidbfhcpcgjaa

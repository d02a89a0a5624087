import Derived.Test.YtefidbfhcpcgjaaFrameRuns
import Derived.Deep.DeepMust
namespace Go.Proofs.Ytefidbfhcpcgjaa
open Go.RowKit
set_option linter.unusedVariables false
set_option linter.unusedSimpArgs false
attribute [local go_sem] bmax2 bmin2 bmax_two bmin_two bmax_three bmin_three
theorem sm_app (a b : List Int) : sm (a ++ b) = (sm a + sm b) % 65536 := by unfold sm; rw [List.sum_append]; omega
theorem sm_swap (a b : List Int) : sm (b ++ a) = sm (a ++ b) := by rw [sm_app, sm_app, Int.add_comm]
theorem sm_snoc (a : List Int) (x : Int) : sm (a ++ [x]) = (sm a + x) % 65536 := by unfold sm; rw [List.sum_append]; simp
theorem sm_zeros (n : Nat) : sm (List.replicate n 0) = 0 := by
  have : (List.replicate n (0 : Int)).sum = 0 := by induction n with
    | zero => rfl
    | succ n ih => rw [List.replicate_succ, List.sum_cons, ih]; rfl
  unfold sm; rw [this]; rfl
theorem zeros_byt (n : Nat) : Byt (List.replicate n 0) := by
  intro x hx; rw [List.mem_replicate] at hx; omega
theorem bs_zeros (n : Nat) : bs (List.replicate n 0) = List.replicate n (.int .u8 0) := by simp [bs]
set_option maxHeartbeats 4000000 in
set_option maxRecDepth 100000 in
theorem frameSums_walk (A1 : Option Addr) (n1 c1 : Nat) (l1 : List Int) (A2 : Option Addr) (n2 c2 : Nat) (l2 : List Int) (x : Int) (w : World) (h1 : BytesIn w A1 n1 c1 l1) (h2 : BytesIn w A2 n2 c2 l2) (hx : 0 ≤ x ∧ x ≤ 255) :
    Calls Try.prog 4 #[.slice A1 n1 c1, .slice A2 n2 c2, .int .u8 x] w fun e w' => e = .returned (.bool true) ∧ Below w.heap.size w w' := by
  obtain ⟨i0, hi, hz, hs1, hs2⟩ := info_parts byte_info
  obtain ⟨x0, x1⟩ := hx
  obtain ⟨m1, hm1⟩ : ∃ m, m = min n1 400 := ⟨_, rfl⟩
  obtain ⟨m2, hm2⟩ : ∃ m, m = min n2 400 := ⟨_, rfl⟩
  have e1 : m1 ≤ n1 := by omega
  have e2 : m2 ≤ n2 := by omega
  have e3 : m1 ≤ 400 := by omega
  have e4 : m2 ≤ 400 := by omega
  have P1 := Lib.hid (h1.src.cutHi e1)
  have P2 := Lib.hid (h2.src.cutHi e2)
  have Y1 := Lib.hid (h1.byt.take m1)
  have Y2 := Lib.hid (h2.byt.take m2)
  have q1 := h1.le; have q2 := h1.cap; have q3 := h2.le; have q4 := h2.cap
  generalize l1.take m1 = p at *
  generalize l2.take m2 = q at *
  have f1 : min (n1 : Int) 400 = (m1 : Int) := by omega
  have f2 : min (n2 : Int) 400 = (m2 : Int) := by omega
  have f3 : (m1 : Int) ≤ c1 := by omega
  have f4 : (m2 : Int) ≤ c2 := by omega
  have f5 : (0 : Int) ≤ m1 := by omega
  have f6 : (0 : Int) ≤ m2 := by omega
  clear hm1 hm2 h1 h2
  go_enter Try.func4, Try.ntmps4
  go_upto_region 1 with fail
  go_quiet (fail)
  have P1 := Lib.hid (P1.out.drewN nq)
  have P2 := Lib.hid (P2.out.drewN nq)
  have HB := Lib.hid (bel_drewN (Below.refl w.heap.size w) nq)
  clear f1 f2 f3 f4 f5 f6
  generalize w.drewN nq = w1 at *
  go_upto_region 3 with (first
    | (at_builtin; refine row_append rfl (.tmp 22) (.tmp 23) 23 rfl [] [] Try.underlying23 hi hz hs1 hs2 rfl (by omega) (Row.empty w1.heap.size 5 1) ((Sts.nil w1).add rfl _ _) rfl rfl (P1.out.alloc _) (bs_one _) (by omega) (by omega) ?_; rintro R2 ga2 gc2 w2 hR2 hS2; simp only [Nat.zero_add, List.nil_append] at hR2 hS2 ⊢)
    | (at_builtin; refine row_append rfl (.tmp 24) (.tmp 25) 23 rfl [] [] Try.underlying23 hi hz hs1 hs2 rfl (by omega) hR2 hS2 rfl rfl (P2.out.below hS2.bel) (bs_one _) (by omega) (by omega) ?_; rintro R3 ga3 gc3 w3 hR3 hS3))
  have hR3' : Row R3 5 1 ga3 (m1 + m2) gc3 (bs (p ++ q)) := by rw [bs_app]; exact hR3
  have RA := Lib.hid hR3'
  have SA := Lib.hid (Sts.lit (L' := R3) hS3 (by simp))
  clear hR2 hS2 hR3 hS3 hR3'
  go_upto_region 4 with (first
    | (at_builtin; refine row_append rfl (.tmp 27) (.tmp 28) 23 rfl R3 [] Try.underlying23 hi hz hs1 hs2 rfl (by omega) (Row.empty w3.heap.size 5 1) (Sts.lit (SA.out.add rfl _ _) (by simp)) rfl rfl ((P2.out.below SA.out.bel).alloc _) (bs_one _) (by omega) (by omega) ?_; rintro R4 ga4 gc4 w4 hR4 hS4; simp only [Nat.zero_add, List.nil_append] at hR4 hS4 ⊢)
    | (at_builtin; refine row_append rfl (.tmp 29) (.tmp 30) 23 rfl R3 [] Try.underlying23 hi hz hs1 hs2 rfl (by omega) hR4 hS4 rfl rfl (P1.out.below hS4.bel) (bs_one _) (by omega) (by omega) ?_; rintro R5 ga5 gc5 w5 hR5 hS5))
  have hR5' : Row R5 5 1 ga5 (m2 + m1) gc5 (bs (q ++ p)) := by rw [bs_app]; exact hR5
  have RB := Lib.hid hR5'
  have SB := Lib.hid hS5
  clear hR4 hS4 hR5 hS5 hR5' SA
  obtain ⟨s, hs⟩ : ∃ s, s = sm (p ++ q) := ⟨_, rfl⟩
  obtain ⟨sp, hsp⟩ : ∃ s, sm p = s := ⟨_, rfl⟩
  obtain ⟨sq, hsq⟩ : ∃ s, sm q = s := ⟨_, rfl⟩
  have b1 := sm_bd (p ++ q); have b2 := sm_bd p; have b3 := sm_bd q
  rw [← hs] at b1; rw [hsp] at b2; rw [hsq] at b3
  have k1 : bits .and .i64 (sp + sq) 65535 = s := by rw [i64_and65535 _ (by omega) (by omega), hs, sm_app, hsp, hsq]
  have k2 : bits .and .i64 (s + x) 65535 = sm ((p ++ q) ++ [x]) := by rw [i64_and65535 _ (by omega) (by omega), sm_snoc, hs]
  obtain ⟨b10, b11⟩ := b1; obtain ⟨b20, b21⟩ := b2; obtain ⟨b30, b31⟩ := b3
  have K1 := Lib.hid k1; have K2 := Lib.hid k2; have HS := Lib.hid hs; have HSP := Lib.hid hsp; have HSQ := Lib.hid hsq
  clear k1 k2 hs hsp hsq
  go_wp2_with fail
  refine (fsum_is (p ++ q) (RA.out.srcIn SB.out fun _ h => List.mem_append_left _ h) (Y1.out.app Y2.out) (by omega) HS.out.symm).mono ?_
  rintro e w' ⟨rfl, rfl⟩
  go_wp2_with fail
  refine (fsum_is p (P1.out.below SB.out.bel) Y1.out (by omega) HSP.out).mono ?_
  rintro e w' ⟨rfl, rfl⟩
  go_wp2_with fail
  refine (fsum_is q (P2.out.below SB.out.bel) Y2.out (by omega) HSQ.out).mono ?_
  rintro e w' ⟨rfl, rfl⟩
  have k1 := K1.out
  have k3 : (s == s) = true := by simp
  go_wp2_with fail
  clear k1
  refine (fsum_is (q ++ p) (RB.out.srcIn SB.out fun _ h => List.mem_append_right _ (List.mem_append_left _ h)) (Y2.out.app Y1.out) (by omega) ((sm_swap p q).trans HS.out.symm)).mono ?_
  rintro e w' ⟨rfl, rfl⟩
  go_wp2_with (at_builtin; go_must (refine row_append_g (by rfl) (.tmp 49) (.tmp 51) 23 rfl [] (R5 ++ []) Try.underlying23 hi hz hs1 hs2 rfl (by omega) RA.out (Sts.lit (SB.out.skip _) (by simp)) rfl rfl (Src.new (size := 1) (m := 1) rfl rfl) (bs_one [x]) (by omega) (by omega) ?_); rintro R6 ga6 gc6 w6 hR6 hS6)
  obtain ⟨s2, hs2'⟩ : ∃ v, sm ((p ++ q) ++ [x]) = v := ⟨_, rfl⟩
  have hR6' : Row R6 5 1 ga6 (m1 + m2 + 1) gc6 (bs ((p ++ q) ++ [x])) := by rw [bs_app]; exact hR6
  refine (fsum_is ((p ++ q) ++ [x]) (hR6'.srcIn hS6 fun _ h => List.mem_append_left (R5 ++ []) (by simpa using h)) ((Y1.out.app Y2.out).app (by intro y hy; simp at hy; omega)) (by omega) hs2').mono ?_
  rintro e w' ⟨rfl, rfl⟩
  have SC := Lib.hid hS6.bel
  have k2 := K2.out
  rw [hs2'] at k2
  have k4 : (s2 == s2) = true := by simp
  have hmk := make_bytes 300 (by omega)
  simp only [Int.cast_ofNat_Int] at hmk
  clear hR6' hR6 hS6 hs2' RA RB SB
  go_wp2_with fail
  refine (fsum_is (List.replicate 300 0) (src_made rfl) (zeros_byt _) (by omega) (sm_zeros 300)).mono ?_
  rintro e w' ⟨rfl, hw7⟩
  have B7 := Lib.hid (show Below w.heap.size w w' from hw7 ▸ bel_alloc (bel_then HB.out SC.out HB.out.size) _)
  clear hw7 hmk k2
  go_wp2_with fail
  refine (frameRuns_b B7.out).mono ?_
  rintro e w8 ⟨rfl, hb8⟩
  have B8 := Lib.hid hb8
  clear hb8
  go_wp2
  go_ret
  exact ⟨rfl, B8.out⟩
end Go.Proofs.Ytefidbfhcpcgjaa

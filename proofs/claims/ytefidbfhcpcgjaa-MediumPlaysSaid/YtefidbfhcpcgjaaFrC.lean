import Derived.Test.YtefidbfhcpcgjaaFrB
namespace Go.Proofs.Ytefidbfhcpcgjaa
open Go.RowKit
set_option linter.unusedVariables false
set_option linter.unusedSimpArgs false
theorem Made.lit {cs cs' : List Value} {n n' e size : Nat} {W W' : World} {E : Ending} (h : Made cs n e size W E W') (h1 : cs = cs') (h2 : n = n') : Made cs' n' e size W E W' := h1 ▸ h2 ▸ h
theorem concat3 {w : World} {a1 a2 a3 : Option Addr} {n1 n2 n3 c1 c2 c3 : Nat} {l1 l2 l3 : List Int} (h1 : Src w a1 n1 1 (bs l1)) (h2 : Src w a2 n2 1 (bs l2)) (h3 : Src w a3 n3 1 (bs l3)) (hn : n1 + n2 + n3 ≤ 900000) :
    Calls Try.prog 42 #[.slice (some ⟨w.heap.size, 0, none⟩) 3 3] (w.alloc (.cells #[.slice a1 n1 c1, .slice a2 n2 c2, .slice a3 n3 c3] 23)) (Made (bs (l1 ++ (l2 ++ l3))) (n1 + n2 + n3) 5 1 w) := by
  have e : cat [⟨a1, n1, c1, l1⟩, ⟨a2, n2, c2, l2⟩, ⟨a3, n3, c3, l3⟩] = l1 ++ (l2 ++ l3) := by simp [cat]
  have el : (l1 ++ (l2 ++ l3)).length = n1 + n2 + n3 := by rw [List.length_append, List.length_append, h1.len, h2.len, h3.len]; omega
  refine (concat_calls _ 3 3 [⟨a1, n1, c1, l1⟩, ⟨a2, n2, c2, l2⟩, ⟨a3, n3, c3, l3⟩] _ (Src.new (size := 1) (m := 3) rfl rfl) ?_ (by rw [e, el]; exact hn) (by omega)).mono fun E W' h => ?_
  · intro p hp
    simp only [List.mem_cons, List.not_mem_nil, or_false] at hp
    rcases hp with rfl | rfl | rfl
    · exact h1.alloc _
    · exact h2.alloc _
    · exact h3.alloc _
  · rw [e, el] at h
    exact h.rebase (bel_alloc (Below.refl _ _) _)
theorem concat4 {w : World} {a1 a2 a3 a4 : Option Addr} {n1 n2 n3 n4 c1 c2 c3 c4 : Nat} {l1 l2 l3 l4 : List Int} (h1 : Src w a1 n1 1 (bs l1)) (h2 : Src w a2 n2 1 (bs l2)) (h3 : Src w a3 n3 1 (bs l3)) (h4 : Src w a4 n4 1 (bs l4)) (hn : n1 + n2 + n3 + n4 ≤ 900000) :
    Calls Try.prog 42 #[.slice (some ⟨w.heap.size, 0, none⟩) 4 4] (w.alloc (.cells #[.slice a1 n1 c1, .slice a2 n2 c2, .slice a3 n3 c3, .slice a4 n4 c4] 23)) (Made (bs (l1 ++ (l2 ++ (l3 ++ l4)))) (n1 + n2 + n3 + n4) 5 1 w) := by
  have e : cat [⟨a1, n1, c1, l1⟩, ⟨a2, n2, c2, l2⟩, ⟨a3, n3, c3, l3⟩, ⟨a4, n4, c4, l4⟩] = l1 ++ (l2 ++ (l3 ++ l4)) := by simp [cat]
  have el : (l1 ++ (l2 ++ (l3 ++ l4))).length = n1 + n2 + n3 + n4 := by rw [List.length_append, List.length_append, List.length_append, h1.len, h2.len, h3.len, h4.len]; omega
  refine (concat_calls _ 4 4 [⟨a1, n1, c1, l1⟩, ⟨a2, n2, c2, l2⟩, ⟨a3, n3, c3, l3⟩, ⟨a4, n4, c4, l4⟩] _ (Src.new (size := 1) (m := 4) rfl rfl) ?_ (by rw [e, el]; exact hn) (by omega)).mono fun E W' h => ?_
  · intro p hp
    simp only [List.mem_cons, List.not_mem_nil, or_false] at hp
    rcases hp with rfl | rfl | rfl | rfl
    · exact h1.alloc _
    · exact h2.alloc _
    · exact h3.alloc _
    · exact h4.alloc _
  · rw [e, el] at h
    exact h.rebase (bel_alloc (Below.refl _ _) _)

set_option maxHeartbeats 2000000 in
set_option maxRecDepth 100000 in
theorem seal_calls (k : Int) (t : List Int) (A : Option Addr) (n cap : Nat) (w : World) (hs : Src w A n 1 (bs t)) (hb : Byt t) (hn : n ≤ 60000) (k0 : 0 ≤ k) (k1 : k ≤ 4294967295) :
    Calls Try.prog 19 #[.int .i64 k, .slice A n cap] w (Made (bs (sealL k t)) (n + 10) 5 1 w) := by
  have hl := hs.len
  have HL := Lib.hid hl
  have HS := Lib.hid hs
  have HB := Lib.hid hb
  clear hs hb hl
  go_enter Try.func19, Try.ntmps19
  go_wp2_with fail
  refine (two_calls (n : Int) _ (by omega) (by omega)).mono ?_
  rintro e w1 ⟨R1, a1, c1, rfl, hR1, hS1⟩
  have S1 := Lib.hid (hR1.src0 hS1)
  have B1 := Lib.hid hS1.bel
  have HS1 := Lib.hid (HS.out.below hS1.bel)
  clear hR1 hS1
  go_wp2_with fail
  refine (two_calls (k / 65536) _ (by omega) (by omega)).mono ?_
  rintro e w2 ⟨R2, a2, c2, rfl, hR2, hS2⟩
  have S2 := Lib.hid (hR2.src0 hS2)
  have T1 := Lib.hid (S1.out.below hS2.bel)
  have B2 := Lib.hid (bel_then B1.out hS2.bel B1.out.size)
  have HS2 := Lib.hid (HS1.out.below hS2.bel)
  clear hR2 hS2 S1 B1 HS1
  go_wp2_with fail
  refine (two_calls k _ (by omega) (by omega)).mono ?_
  rintro e w3 ⟨R3, a3, c3, rfl, hR3, hS3⟩
  have S3 := Lib.hid (hR3.src0 hS3)
  have U1 := Lib.hid (T1.out.below hS3.bel)
  have U2 := Lib.hid (S2.out.below hS3.bel)
  have B3 := Lib.hid (bel_then B2.out hS3.bel B2.out.size)
  have HS3 := Lib.hid (HS2.out.below hS3.bel)
  clear hR3 hS3 S2 B2 HS2 T1
  go_wp2_with fail
  refine (concat3 U1.out U2.out S3.out (by omega)).mono ?_
  rintro e w4 ⟨R4, a4, c4, rfl, hR4, hS4⟩
  have hh : two (n : Int) ++ (two (k / 65536) ++ two k) = headL k t := by rw [headL, HL.out]
  rw [hh] at hR4
  have S4 := Lib.hid (hR4.src0 hS4)
  have B4 := Lib.hid (bel_then B3.out hS4.bel B3.out.size)
  have HS4 := Lib.hid (HS3.out.below hS4.bel)
  clear hR4 hS4 B3 HS3 U1 U2 S3 hh
  go_wp2_with fail
  refine (fsum_calls a4 6 c4 (headL k t) _ S4.out (head_byt k t) (by omega)).mono ?_
  rintro e w' ⟨rfl, rfl⟩
  obtain ⟨x0, x1⟩ := sm_bd (headL k t)
  generalize hx : sm (headL k t) = x at *
  have HX := Lib.hid hx
  clear hx
  go_wp2_with fail
  refine (two_calls x _ (by omega) (by omega)).mono ?_
  rintro e w5 ⟨R5, a5, c5, rfl, hR5, hS5⟩
  have S5 := Lib.hid (hR5.src0 hS5)
  have T4 := Lib.hid (S4.out.below hS5.bel)
  have B5 := Lib.hid (bel_then B4.out hS5.bel B4.out.size)
  have HS5 := Lib.hid (HS4.out.below hS5.bel)
  clear hR5 hS5 B4 HS4 S4
  go_wp2_with fail
  refine (fsum_calls A n cap t _ HS5.out HB.out (by omega)).mono ?_
  rintro e w' ⟨rfl, rfl⟩
  obtain ⟨y0, y1⟩ := sm_bd t
  generalize hy : sm t = y at *
  have HY := Lib.hid hy
  clear hy
  go_wp2_with fail
  refine (two_calls y _ (by omega) (by omega)).mono ?_
  rintro e w6 ⟨R6, a6, c6, rfl, hR6, hS6⟩
  have S6 := Lib.hid (hR6.src0 hS6)
  have U4 := Lib.hid (T4.out.below hS6.bel)
  have U5 := Lib.hid (S5.out.below hS6.bel)
  have B6 := Lib.hid (bel_then B5.out hS6.bel B5.out.size)
  have HS6 := Lib.hid (HS5.out.below hS6.bel)
  clear hR6 hS6 B5 HS5 T4 S5
  go_wp2_with fail
  refine (concat4 U4.out U5.out HS6.out S6.out (by omega)).mono ?_
  intro e w7 hM
  obtain ⟨R7, a7, c7, rfl, hR7, hS7⟩ := Made.lit (cs' := bs (sealL k t)) (n' := n + 10) (hM.rebase B6.out) (by rw [sealL, HX.out, HY.out]) (by omega)
  have H7 := Lib.hid hR7
  have K7 := Lib.hid hS7
  clear hR7 hS7 hM
  go_wp2
  go_ret
  exact ⟨R7, a7, c7, rfl, H7.out, K7.out⟩
end Go.Proofs.Ytefidbfhcpcgjaa

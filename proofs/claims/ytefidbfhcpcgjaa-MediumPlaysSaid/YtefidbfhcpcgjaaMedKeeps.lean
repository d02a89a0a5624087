import Derived.Test.YtefidbfhcpcgjaaMedRuns
namespace Go.Proofs.Ytefidbfhcpcgjaa
open Go.RowKit
set_option linter.unusedVariables false
set_option linter.unusedSimpArgs false
attribute [local go_sem] bmax2 bmin2 bmax_two bmin_two bmax_three bmin_three
def clampI (n lo hi : Int) : Int := if n < lo then lo else if hi < n then hi else n
set_option maxHeartbeats 1000000 in
set_option maxRecDepth 100000 in
theorem clamp_calls (n lo hi : Int) (w : World) : Calls Try.prog 27 #[.int .i64 n, .int .i64 lo, .int .i64 hi] w fun e w' => e = .returned (.int .i64 (clampI n lo hi)) ∧ w = w' := by
  by_cases h0 : n < lo
  · have b0 : decide (n < lo) = true := decide_eq_true h0
    have e : clampI n lo hi = lo := by unfold clampI; rw [if_pos h0]
    have E := Lib.hid e
    clear e
    go_enter Try.func27, Try.ntmps27
    go_wp2
    go_ret
    exact ⟨ret_int E.out.symm, rfl⟩
  · have b0 : decide (n < lo) = false := decide_eq_false h0
    by_cases h1 : hi < n
    · have b1 : decide (hi < n) = true := decide_eq_true h1
      have e : clampI n lo hi = hi := by unfold clampI; rw [if_neg h0, if_pos h1]
      have E := Lib.hid e
      clear e
      go_enter Try.func27, Try.ntmps27
      go_wp2
      go_ret
      exact ⟨ret_int E.out.symm, rfl⟩
    · have b1 : decide (hi < n) = false := decide_eq_false h1
      have e : clampI n lo hi = n := by unfold clampI; rw [if_neg h0, if_neg h1]
      have E := Lib.hid e
      clear e
      go_enter Try.func27, Try.ntmps27
      go_wp2
      go_ret
      exact ⟨ret_int E.out.symm, rfl⟩
section
variable {w0 W : World} {A B : List Ent} {g : Nat} {s s' : Med}
theorem MedAt.addB (h : MedAt w0 A B g s W) {gn : Nat} (hg : gn = W.heap.size) (cs : Array Value) (t : TypeId) : MedAt w0 A (B ++ [(gn, cs, t)]) g s (W.alloc (.cells cs t)) := by
  obtain ⟨R, a, cap, hR, hS⟩ := h
  exact ⟨R, a, cap, hR, (hS.add hg cs t).lit (by simp)⟩
theorem MedAt.litB {B' : List Ent} (h : MedAt w0 A B g s W) (e : B = B') : MedAt w0 A B' g s W := e ▸ h
/-- The row behind a medium is appended to. -/
theorem MedAt.openR {Rr : List Ent} (h : MedAt w0 A (B ++ Rr) g s W) : ∃ L, Sts w0 (L ++ (Rr ++ [])) W ∧ (∀ Rr' W', Sts w0 (L ++ (Rr' ++ [])) W' → MedAt w0 A (B ++ Rr') g s W') ∧ ∀ x ∈ B, x ∈ L := by
  obtain ⟨R, a, cap, hR, hS⟩ := h
  refine ⟨A ++ ((g, s.cells a cap, 66) :: (R ++ B)), hS.lit (by simp), fun Rr' W' h' => ⟨R, a, cap, hR, h'.lit (by simp)⟩, fun x hx => by simp [hx]⟩
theorem MedAt.join {R' : List Ent} {W' : World} (h : MedAt w0 A B g s W) (hj : Sts W R' W') : MedAt w0 A (R' ++ B) g s W' := by
  obtain ⟨R, a, cap, hR, hS⟩ := h
  exact ⟨R, a, cap, hR, (Sts.join (A ++ ((g, s.cells a cap, 66) :: R)) B (hS.lit (by simp)) hj).lit (by simp)⟩
theorem bytes_row (h : MedAt w0 A B g s W) (hok : s.Ok) {l : List Int} {n : Nat} (e : s.bytes = l) (hn : l.length = n) : Calls Try.prog 25 #[.pointer (some ⟨g, 0, none⟩)] W fun e w' => ∃ R a c, e = .returned (.slice a n c) ∧ Row R 5 1 a n c (bs l) ∧ MedAt w0 A (R ++ B) g s w' ∧ Below W.heap.size W w' := by
  subst e hn
  exact (medBytes_made h hok).mono fun _ _ ⟨R, a, c, h1, h2, h3⟩ => ⟨R, a, c, h1, h2, h.join h3, h3.bel⟩
theorem MedAt.sts (h : MedAt w0 A B g s W) : ∀ x ∈ B, ∃ L, Sts w0 L W ∧ x ∈ L := by
  obtain ⟨R, a, cap, hR, hS⟩ := h
  exact fun x hx => ⟨_, hS, by simp [hx]⟩
theorem Row.srcB {R : List Ent} {e size n cap : Nat} {a : Option Addr} {xs : List Value} (hR : Row R e size a n cap xs) (h : MedAt w0 A B g s W) (hm : ∀ x ∈ R, x ∈ B) : Src W a n size xs := by
  obtain ⟨R', a', cap', _, hS⟩ := h
  exact hR.srcIn hS fun x hx => by simp [hm x hx]
set_option maxHeartbeats 8000000 in
set_option maxRecDepth 100000 in
theorem mediumKeeps_walk (A1 : Option Addr) (n1 c1 : Nat) (l1 : List Int) (A2 : Option Addr) (n2 c2 : Nat) (l2 : List Int) (keep : Int) (w : World) (h1 : BytesIn w A1 n1 c1 l1) (h2 : BytesIn w A2 n2 c2 l2) (hk : -9223372036854775808 ≤ keep ∧ keep ≤ 9223372036854775807) :
    Calls Try.prog 6 #[.slice A1 n1 c1, .slice A2 n2 c2, .int .i64 keep] w fun e w' => e = .returned (.bool true) ∧ Below w.heap.size w w' := by
  obtain ⟨i0, hi, hz, hs1, hs2⟩ := info_parts byte_info
  obtain ⟨hk0, hk1⟩ := hk
  obtain ⟨m1, hm1⟩ : ∃ m, m = min n1 60 := ⟨_, rfl⟩
  obtain ⟨m2, hm2⟩ : ∃ m, m = min n2 60 := ⟨_, rfl⟩
  have e1 : m1 ≤ n1 := by omega
  have e2 : m2 ≤ n2 := by omega
  have g1 : m1 ≤ 60 := by omega
  have g2 : m2 ≤ 60 := by omega
  have P1 := Lib.hid (h1.src.cutHi e1)
  have P2 := Lib.hid (h2.src.cutHi e2)
  have Y1 := Lib.hid (h1.byt.take m1)
  have Y2 := Lib.hid (h2.byt.take m2)
  have q1 := h1.le; have r1 := h1.cap; have q2 := h2.le; have r2 := h2.cap
  generalize l1.take m1 = x at *
  generalize l2.take m2 = y at *
  have f1 : min (n1 : Int) 60 = (m1 : Int) := by omega
  have f2 : min (n2 : Int) 60 = (m2 : Int) := by omega
  have f4 : (m1 : Int) ≤ c1 := by omega
  have f5 : (m2 : Int) ≤ c2 := by omega
  have f7 : (0 : Int) ≤ m1 := by omega
  have f8 : (0 : Int) ≤ m2 := by omega
  have L1 := Lib.hid P1.out.len
  have L2 := Lib.hid P2.out.len
  clear hm1 hm2 h1 h2
  have HS0 := Lib.hid (Sts.nil w)
  go_enter Try.func6, Try.ntmps6
  go_wp2_with fail
  refine (medNew_calls (w0 := w) (A := []) (B := []) HS0.out).mono ?_
  rintro e w1 ⟨g, rfl, hm⟩
  have M1 := Lib.hid hm
  clear hm HS0
  go_upto_region 4 with fail
  go_quiet (fail)
  have M1 := Lib.hid (M1.out.drewN nq)
  clear f1 f2 f4 f5 f7 f8
  generalize w1.drewN nq = w2 at *
  go_wp2_with fail
  refine (append_is (l := x) (s' := ⟨x, 0, false, 0, false⟩) (v := 0) M1.out m0_ok (P1.out.below M1.out.bel) (P1.out.apart M1.out) (by show 0 + _ ≤ _; omega) rfl).mono ?_
  rintro e w3 ⟨rfl, hm⟩
  have M2 := Lib.hid hm
  have ok2 : Med.Ok ⟨x, 0, false, 0, false⟩ := m0_ok.append Y1.out (by show 0 + _ ≤ _; rw [L1.out]; omega)
  clear hm M1
  go_wp2_with fail
  refine (flush_is (s' := ⟨x, x.length, false, 0, false⟩) (v := 0) M2.out ok2 rfl).mono ?_
  rintro e w4 ⟨rfl, hm⟩
  have M3 := Lib.hid hm
  have ok3 : Med.Ok ⟨x, x.length, false, 0, false⟩ := ok2.flush
  clear hm M2 ok2
  go_wp2_with fail
  refine (append_is (l := y) (s' := ⟨x ++ y, x.length, false, 0, false⟩) (v := 0) M3.out ok3 (P2.out.below M3.out.bel) (P2.out.apart M3.out) (by show x.length + _ ≤ _; rw [L1.out]; omega) rfl).mono ?_
  rintro e w5 ⟨rfl, hm⟩
  have M4 := Lib.hid hm
  have ok4 : Med.Ok ⟨x ++ y, x.length, false, 0, false⟩ := ok3.append Y2.out (by show x.length + _ ≤ _; rw [L1.out, L2.out]; omega)
  clear hm M3 ok3
  obtain ⟨k, hkk⟩ : ∃ k : Nat, k = (max 0 (min keep (m2 : Int))).toNat := ⟨_, rfl⟩
  have hk2 : k ≤ m2 := by omega
  have hclamp : clampI keep 0 m2 = k := by unfold clampI; split <;> (try split) <;> omega
  have hb5 : Med.boot ⟨x ++ y, x.length, false, 0, false⟩ keep = ⟨x ++ y.take k, m1 + k, false, 0, false⟩ := by
    have e : x.length + (max 0 (min keep (((x ++ y).length : Int) - x.length))).toNat = m1 + k := by
      rw [List.length_append, L1.out, L2.out, hkk]; push_cast; congr 3; omega
    unfold Med.boot Med.keep
    simp only
    rw [e]
    congr 1
    rw [← L1.out, List.take_length_add_append]
  have HCL := Lib.hid hclamp; have HB5 := Lib.hid hb5
  clear hkk hclamp hb5
  go_wp2_with fail
  refine (boot_is keep M4.out ok4 HB5.out).mono ?_
  rintro e w6 ⟨rfl, hm⟩
  have M5 := Lib.hid hm
  have ok5 : Med.Ok ⟨x ++ y.take k, m1 + k, false, 0, false⟩ := HB5.out ▸ ok4.boot keep
  clear hm M4 ok4
  go_wp2_with fail
  refine (clamp_calls keep 0 m2 _).mono ?_
  rw [HCL.out]
  rintro e w' ⟨rfl, rfl⟩
  go_upto_region 10 with fail
  have hl5 : (x ++ y.take k).length = m1 + k := by rw [List.length_append, List.length_take, L1.out, L2.out]; omega
  have HL5 := Lib.hid hl5
  have i1 : (0 : Int) ≤ (k : Int) := by omega
  have i2 : (k : Int) ≤ (c2 : Int) := by omega
  have PK := Lib.hid (P2.out.cutHi hk2)
  clear hl5
  have b1 : ((m1 : Int) + k == (m1 : Int) + k) = true := by simp
  have b2 : IntKind.i64.wrap ((m1 : Int) + k) = (m1 : Int) + k := IntWalk.i64_in _ (by omega)
  go_region_held3 (fun w' => True) (trivial) (first
    | (go_at_call 25; (first | (refine (bytes_row (M5.out.drew.addB (gn := w6.heap.size) rfl #[] 5) ok5 rfl HL5.out).mono ?_) | (refine (bytes_row (M5.out.addB (gn := w6.heap.size) rfl #[] 5).drew ok5 rfl HL5.out).mono ?_) | (refine (bytes_row M5.out.drew ok5 rfl HL5.out).mono ?_)); rintro e w7 ⟨R7, a7, c7, rfl, hR7, hM7, hb7⟩)
    | (obtain ⟨L, hL, back, hmem⟩ := MedAt.openR (B := R7) (Rr := [(w6.heap.size, #[], 5)]) (MedAt.litB hM7 (by simp)); refine step_row_append (by rfl) (.tmp 41) (.tmp 42) 23 (by rfl) L [] Try.underlying23 hi hz hs1 hs2 (by rfl) (by omega) (Row.empty _ _ _) hL (by rfl) (by rfl) (P1.out.below hM7.bel) (bs_one _) (by omega) (by omega) ?_; rintro R8 a8 c8 w8 hR8 hS8; simp only [Nat.zero_add, List.nil_append] at hR8 ⊢; have hM8 := back R8 w8 hS8; clear hS8 back hL hmem)
    | (obtain ⟨L, hL, back, hmem⟩ := MedAt.openR (B := R7) (Rr := [(w7.heap.size, #[], 5)]) (MedAt.litB (hM7.addB (gn := w7.heap.size) rfl #[] 5) (by simp)); refine step_row_append (by rfl) (.tmp 41) (.tmp 42) 23 (by rfl) L [] Try.underlying23 hi hz hs1 hs2 (by rfl) (by omega) (Row.empty _ _ _) hL (by rfl) (by rfl) ((P1.out.below hM7.bel).alloc _) (bs_one _) (by omega) (by omega) ?_; rintro R8 a8 c8 w8 hR8 hS8; simp only [Nat.zero_add, List.nil_append] at hR8 ⊢; have hM8 := back R8 w8 hS8; clear hS8 back hL hmem)
    | (obtain ⟨L, hL, back, hmem⟩ := MedAt.openR (B := R7) (Rr := R8) (MedAt.litB hM8 (by simp)); refine step_row_append (by rfl) (.tmp 43) (.tmp 46) 23 (by rfl) L [] Try.underlying23 hi hz hs1 hs2 (by rfl) (by omega) hR8 hL (by rfl) (by rfl) (PK.out.below hM8.bel) (bs_one _) (by omega) (by omega) ?_; rintro R9 a9 c9 w9 hR9 hS9; have hM9 := back R9 w9 hS9; clear hS9 back hL hmem)
    | (go_at_call 18; refine (same_yes (x ++ y.take k) (x ++ y.take k) (hR7.srcB hM9 (fun _ h => List.mem_append_left _ h)) ((show Row R9 5 1 a9 _ c9 (bs (x ++ y.take k)) from by rw [bs_app]; exact hR9).srcB hM9 (fun _ h => List.mem_append_right _ h)) (by omega) (by omega) rfl).mono ?_; rintro e w10 ⟨rfl, n10, hw10⟩; have hM10 := hM9.drewN n10)
    | (go_at_call 26; subst hw10; refine (firm_is hM10 (n := (m1 : Int) + k) (by push_cast; rfl)).mono ?_; rintro e w11 ⟨rfl, rfl⟩)
    | (go_at_call 23; refine (flush_is (v := 0) hM10 ok5 rfl).mono ?_; rintro e w12 ⟨rfl, hM12⟩)
    | (go_at_call 5; refine (mediumRuns_b hM12.bel).mono ?_; rintro e w13 ⟨rfl, hb13⟩))
  all_goals
    have B13 := Lib.hid hb13
    go_wp2
    go_ret
    exact ⟨rfl, B13.out⟩
end
end Go.Proofs.Ytefidbfhcpcgjaa

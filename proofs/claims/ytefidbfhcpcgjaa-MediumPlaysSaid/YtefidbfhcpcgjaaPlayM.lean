import Derived.Test.YtefidbfhcpcgjaaMedSpoil
namespace Go.Proofs.Ytefidbfhcpcgjaa
open Go.RowKit
set_option linter.unusedVariables false
set_option linter.unusedSimpArgs false
/-- The fuse, as the law counts it. -/
def fuL (s : Med) : Int := if s.lit then s.fuse else -1
/-- One call's bit of power, as the law counts it. -/
structure PwGoes (s : Med) (o2 : Bool) (u2 : Int) : Prop where
  go : s.goes.1 = !o2
  off : s.goes.2.off = o2
  fu : fuL s.goes.2 = u2
theorem goes_off {s : Med} (h : s.off = true) : PwGoes s true (fuL s) := by
  have e : s.goes = (false, s) := by unfold Med.goes; rw [h]; rfl
  exact ⟨by rw [e]; rfl, by rw [e]; exact h, by rw [e]⟩
theorem goes_zero {s : Med} (h : s.off = false) (h0 : fuL s = 0) : PwGoes s true (fuL s) := by
  have hl : s.lit = true := by
    cases hl : s.lit
    · unfold fuL at h0; rw [hl] at h0; cases h0
    · rfl
  have hf : s.fuse = 0 := by unfold fuL at h0; rw [hl] at h0; exact h0
  have e : s.goes = (false, { s with off := true }) := by unfold Med.goes; rw [h, hl, hf]; rfl
  exact ⟨by rw [e]; rfl, by rw [e], by rw [e]; rfl⟩
theorem goes_pos {s : Med} (h : s.off = false) (h0 : 0 < fuL s) : PwGoes s false (fuL s - 1) := by
  have hl : s.lit = true := by
    cases hl : s.lit
    · unfold fuL at h0; rw [hl] at h0; simp at h0
    · rfl
  have hf : fuL s = s.fuse := by unfold fuL; rw [hl]; rfl
  have e : s.goes = (true, { s with fuse := s.fuse - 1 }) := by
    unfold Med.goes; rw [h, hl, if_neg (by simp), if_pos rfl, if_neg (by omega)]
  exact ⟨by rw [e]; rfl, by rw [e]; exact h, by rw [e, hf]; unfold fuL; rw [hl]; rfl⟩
theorem goes_neg {s : Med} (hk : s.Ok) (h : s.off = false) (h0 : fuL s < 0) : PwGoes s false (fuL s) := by
  have hl : s.lit = false := by
    cases hl : s.lit
    · rfl
    · have := hk.lit hl
      unfold fuL at h0; rw [hl] at h0; simp at h0; omega
  have e : s.goes = (true, s) := by unfold Med.goes; rw [h, hl]; rfl
  exact ⟨by rw [e]; rfl, by rw [e]; exact h, by rw [e]⟩
theorem fuL_bd {s : Med} (hk : s.Ok) : -1 ≤ fuL s ∧ fuL s ≤ 9223372036854775807 := by
  have h1 := hk.f1
  unfold fuL
  cases hl : s.lit
  · simp
  · have := hk.lit hl
    simp; omega
/-- A medium's state, as the law keeps it. -/
structure Looks (s : Med) (o : Bool) (u : Int) (fi : Nat) (l : List Int) : Prop where
  off : s.off = o
  fu : fuL s = u
  firm : s.firm = fi
  b : s.b = l
section
variable {s : Med} {u2 : Int}
theorem append_off (h : PwGoes s true u2) (l : List Int) : ∃ s', s.append l = (7, s') ∧ Looks s' true u2 s.firm s.b := by
  obtain ⟨h1, h2, h3⟩ := h
  refine ⟨s.goes.2, by unfold Med.append; rw [h1]; rfl, h2, h3, s.goes_b.2, s.goes_b.1⟩
theorem append_on (h : PwGoes s false u2) (l : List Int) : ∃ s', s.append l = (0, s') ∧ Looks s' false u2 s.firm (s.b ++ l) := by
  obtain ⟨h1, h2, h3⟩ := h
  exact ⟨{ s.goes.2 with b := s.b ++ l }, by unfold Med.append; rw [h1]; rfl, h2, h3, s.goes_b.2, rfl⟩
theorem flush_off (h : PwGoes s true u2) : ∃ s', s.flush = (7, s') ∧ Looks s' true u2 s.firm s.b := by
  obtain ⟨h1, h2, h3⟩ := h
  exact ⟨s.goes.2, by unfold Med.flush; rw [h1]; rfl, h2, h3, s.goes_b.2, s.goes_b.1⟩
theorem flush_on (h : PwGoes s false u2) : ∃ s', s.flush = (0, s') ∧ Looks s' false u2 s.b.length s.b := by
  obtain ⟨h1, h2, h3⟩ := h
  exact ⟨{ s.goes.2 with firm := s.b.length }, by unfold Med.flush; rw [h1]; rfl, h2, h3, rfl, s.goes_b.1⟩
theorem cut_bad {n : Int} (h : n < 0 ∨ (s.b.length : Int) < n) : s.cut n = (1, s) := by unfold Med.cut; rw [if_pos h]
theorem cut_off {n : Int} (hn : ¬ (n < 0 ∨ (s.b.length : Int) < n)) (h : PwGoes s true u2) : ∃ s', s.cut n = (7, s') ∧ Looks s' true u2 s.firm s.b := by
  obtain ⟨h1, h2, h3⟩ := h
  exact ⟨s.goes.2, by unfold Med.cut; rw [if_neg hn, h1]; rfl, h2, h3, s.goes_b.2, s.goes_b.1⟩
theorem cut_on {n : Nat} (hn : n ≤ s.b.length) (h : PwGoes s false u2) : ∃ s', s.cut n = (0, s') ∧ Looks s' false u2 n (s.b.take n) := by
  obtain ⟨h1, h2, h3⟩ := h
  refine ⟨s.goes.2.keep n, by unfold Med.cut; rw [if_neg (by omega), h1]; rfl, h2, h3, rfl, ?_⟩
  show s.goes.2.b.take n = _
  rw [s.goes_b.1]
theorem arm_looks (n : Int) : Looks (s.arm n) s.off (max n (-1)) s.firm s.b := by
  refine ⟨rfl, ?_, rfl, rfl⟩
  unfold fuL Med.arm
  by_cases h : 0 ≤ n
  · simp only [decide_eq_true h, if_true]; omega
  · simp only [decide_eq_false h]; simp; omega
theorem boot_looks (k : Int) {n : Nat} (h : s.firm + (max 0 (min k ((s.b.length : Int) - s.firm))).toNat = n) : Looks (s.boot k) false (-1) n (s.b.take n) := by
  subst h
  exact ⟨rfl, rfl, rfl, rfl⟩
theorem spoil_looks (i : Nat) (x : Int) : Looks (s.spoil i x) s.off (fuL s) s.firm (s.b.set i (xb (s.b.getD i 0) x)) := ⟨rfl, rfl, rfl, rfl⟩
end
end Go.Proofs.Ytefidbfhcpcgjaa

import Derived.Test.YtideaimlnipkoaaOwn
namespace Go.Proofs.Ytideaimlnipkoaa
open Go.RowKit
set_option linter.unusedVariables false
set_option linter.unusedSimpArgs false

/-! ### Sums by halves -/
theorem i64_and32 (n : Int) : bits .and .i64 n 4294967295 = n % 4294967296 := by
  have h1 : (BitVec.ofInt 64 4294967295).toNat = 2 ^ 32 - 1 := by decide
  have key : (BitVec.ofInt 64 n &&& BitVec.ofInt 64 4294967295).toNat = (n % ((2 ^ 64 : Nat) : Int)).toNat % 2 ^ 32 := by
    rw [BitVec.toNat_and, BitVec.toNat_ofInt, h1, Nat.and_two_pow_sub_one_eq_mod]
  show IntKind.i64.wrap ((BitVec.ofInt 64 n &&& BitVec.ofInt 64 4294967295).toNat : Nat) = n % 4294967296
  rw [key, IntKind.wrap_i64]
  omega
theorem i64_or32 (h y : Int) (h0 : -2147483648 ≤ h) (h1 : h < 2147483648) (y0 : 0 ≤ y) (y1 : y < 4294967296) : bits .or .i64 (h * 4294967296) y = h * 4294967296 + y := by
  have e1 : (BitVec.ofInt 64 (h * 4294967296)).toNat = 2 ^ 32 * (h % 4294967296).toNat := by
    rw [BitVec.toNat_ofInt]
    omega
  have e2 : (BitVec.ofInt 64 y).toNat = y.toNat := by
    rw [BitVec.toNat_ofInt]
    omega
  have key : (BitVec.ofInt 64 (h * 4294967296) ||| BitVec.ofInt 64 y).toNat = 2 ^ 32 * (h % 4294967296).toNat + y.toNat := by
    rw [BitVec.toNat_or, e1, e2, ← Nat.two_pow_add_eq_or_of_lt (by omega)]
  show IntKind.i64.wrap ((BitVec.ofInt 64 (h * 4294967296) ||| BitVec.ofInt 64 y).toNat : Nat) = _
  rw [key, IntKind.wrap_i64]
  omega
/-- A number more for a sum by halves. -/
def hadd (s : Int × Int) (n : Int) : Int × Int := (s.1 + n / 4294967296, s.2 + n % 4294967296)
def hval (s : Int × Int) : Int := s.1 * 4294967296 + s.2
def fits (v : Int) : Bool := decide (-9223372036854775808 ≤ v) && decide (v ≤ 9223372036854775807)
def valF (v : Int) : Int × Bool := if fits v then (v, true) else (0, false)
/-- A sum of k numbers at most. -/
structure HB (k : Int) (s : Int × Int) : Prop where
  l0 : 0 ≤ s.2
  l1 : s.2 ≤ k * 4294967295
  h0 : -(k * 2147483648) ≤ s.1
  h1 : s.1 ≤ k * 2147483647
theorem HB.zero : HB 0 (0, 0) := ⟨by simp, by simp, by simp, by simp⟩
theorem HB.add {k : Int} {s : Int × Int} (h : HB k s) {n : Int} (n0 : -9223372036854775808 ≤ n) (n1 : n ≤ 9223372036854775807) : HB (k + 1) (hadd s n) := by
  obtain ⟨a, b, c, d⟩ := h
  unfold hadd
  exact ⟨by simp only; omega, by simp only; omega, by simp only; omega, by simp only; omega⟩
theorem HB.mono {k k' : Int} {s : Int × Int} (h : HB k s) (hk : k ≤ k') : HB k' s := by
  obtain ⟨a, b, c, d⟩ := h
  exact ⟨a, by omega, by omega, by omega⟩
theorem hval_add (s : Int × Int) (n : Int) : hval (hadd s n) = hval s + n := by unfold hval hadd; simp only; omega
theorem fits_iff {v : Int} : fits v = true ↔ -9223372036854775808 ≤ v ∧ v ≤ 9223372036854775807 := by unfold fits; simp
theorem valF_yes {v : Int} (h0 : -9223372036854775808 ≤ v) (h1 : v ≤ 9223372036854775807) : valF v = (v, true) := by unfold valF; rw [if_pos (fits_iff.2 ⟨h0, h1⟩)]
theorem valF_no {v : Int} (h : v < -9223372036854775808 ∨ 9223372036854775807 < v) : valF v = (0, false) := by
  unfold valF; rw [if_neg (fun hf => by have := fits_iff.1 hf; omega)]
def TopC : Int := 1152921504606846976
/-- May a balance, an amount be? -/
def inB (n : Int) : Bool := decide (-1152921504606846976 ≤ n) && decide (n ≤ 1152921504606846976)
theorem inB_iff {v : Int} : inB v = true ↔ -1152921504606846976 ≤ v ∧ v ≤ 1152921504606846976 := by unfold inB; simp
def hsum (ns : List Int) : Int × Int := ns.foldl hadd (0, 0)
theorem hsum_snoc (ns : List Int) (n : Int) : hsum (ns ++ [n]) = hadd (hsum ns) n := by unfold hsum; rw [List.foldl_append]; rfl
theorem hfold_val : ∀ (ns : List Int) (s : Int × Int), hval (ns.foldl hadd s) = hval s + ns.sum := by
  intro ns
  induction ns with
  | nil => intro s; simp
  | cons n ns ih => intro s; rw [List.foldl_cons, ih, hval_add, List.sum_cons]; omega
theorem hsum_val (ns : List Int) : hval (hsum ns) = ns.sum := by unfold hsum; rw [hfold_val]; simp [hval]
theorem hfold_bd : ∀ (ns : List Int) (s : Int × Int) (k : Int), HB k s → (∀ n ∈ ns, -9223372036854775808 ≤ n ∧ n ≤ 9223372036854775807) → HB (k + ns.length) (ns.foldl hadd s) := by
  intro ns
  induction ns with
  | nil => intro s k h _; simpa using h
  | cons n ns ih =>
    intro s k h hn
    have h1 := hn n (by simp)
    have h2 := ih (hadd s n) (k + 1) (h.add h1.1 h1.2) (fun x hx => hn x (by simp [hx]))
    rw [List.foldl_cons]
    exact h2.mono (by rw [List.length_cons]; omega)
theorem hsum_bd (ns : List Int) (h : ∀ n ∈ ns, -9223372036854775808 ≤ n ∧ n ≤ 9223372036854775807) : HB ns.length (hsum ns) := by
  have := hfold_bd ns (0, 0) 0 HB.zero h
  unfold hsum
  exact this.mono (by omega)
/-- Amounts' net. -/
def netF (es : List (Int × Int)) : Int × Bool :=
  if 64 < es.length then (0, false) else if es.all (fun e => inB e.2) then valF (es.map (·.2)).sum else (0, false)
end Go.Proofs.Ytideaimlnipkoaa

import Derived.Test.YticddmmbphoioaaMem
namespace Go.Proofs.Yticddmmbphoioaa
open Go.RowKit
set_option linter.unusedVariables false
set_option linter.unusedSimpArgs false

/-- Five purses in a row: what went in, and out. -/
structure RowAt (cs : Array Value) (I J : Nat → Int) : Prop where
  size : cs.size = 10
  fst : ∀ k, k < 5 → cs[k * 2]? = some (.int .i64 (I k))
  snd : ∀ k, k < 5 → cs[k * 2 + 1]? = some (.int .i64 (J k))
def upd (F : Nat → Int) (f : Nat) (v : Int) : Nat → Int := fun k => if k = f then v else F k
theorem upd_same (F : Nat → Int) (f : Nat) (v : Int) : upd F f v f = v := by simp [upd]
theorem upd_ne (F : Nat → Int) {f k : Nat} (v : Int) (h : k ≠ f) : upd F f v k = F k := by simp [upd, h]
theorem RowAt.out {cs : Array Value} {I J : Nat → Int} (h : RowAt cs I J) {f : Nat} (hf : f < 5) (v : Int) : RowAt (cs.setIfInBounds (f * 2 + 1) (.int .i64 v)) I (upd J f v) := by
  have hs := h.size
  refine ⟨by simpa using hs, fun k hk => ?_, fun k hk => ?_⟩
  · rw [Array.getElem?_setIfInBounds_ne (by omega)]; exact h.fst k hk
  · by_cases e : k = f
    · subst e; rw [Array.getElem?_setIfInBounds_self, if_pos (by omega), upd_same]
    · rw [Array.getElem?_setIfInBounds_ne (by omega), upd_ne _ _ e]; exact h.snd k hk
theorem RowAt.in_ {cs : Array Value} {I J : Nat → Int} (h : RowAt cs I J) {f : Nat} (hf : f < 5) (v : Int) : RowAt (cs.setIfInBounds (f * 2) (.int .i64 v)) (upd I f v) J := by
  have hs := h.size
  refine ⟨by simpa using hs, fun k hk => ?_, fun k hk => ?_⟩
  · by_cases e : k = f
    · subst e; rw [Array.getElem?_setIfInBounds_self, if_pos (by omega), upd_same]
    · rw [Array.getElem?_setIfInBounds_ne (by omega), upd_ne _ _ e]; exact h.fst k hk
  · rw [Array.getElem?_setIfInBounds_ne (by omega)]; exact h.snd k hk

/-- What the first n have. -/
def psum (I J : Nat → Int) : Nat → Int
  | 0 => 0
  | n + 1 => psum I J n + (I n - J n)
theorem psum_out (I J : Nat → Int) (f : Nat) (v : Int) : ∀ n, psum I (upd J f v) n = psum I J n + if f < n then J f - v else 0
  | 0 => by simp [psum]
  | n + 1 => by
    rw [psum, psum, psum_out I J f v n]
    by_cases e : n = f
    · subst e; rw [upd_same]; simp; omega
    · rw [upd_ne _ _ e]
      by_cases h : f < n
      · rw [if_pos h, if_pos (by omega)]; omega
      · rw [if_neg h, if_neg (by omega)]; omega
theorem psum_in (I J : Nat → Int) (f : Nat) (v : Int) : ∀ n, psum (upd I f v) J n = psum I J n + if f < n then v - I f else 0
  | 0 => by simp [psum]
  | n + 1 => by
    rw [psum, psum, psum_in I J f v n]
    by_cases e : n = f
    · subst e; rw [upd_same]; simp; omega
    · rw [upd_ne _ _ e]
      by_cases h : f < n
      · rw [if_pos h, if_pos (by omega)]; omega
      · rw [if_neg h, if_neg (by omega)]; omega
/-- What holds of the row, M being the most that went into one. -/
structure RowOk (M a : Int) (I J : Nat → Int) : Prop where
  ge : ∀ k, k < 5 → 0 ≤ J k
  le : ∀ k, k < 5 → J k ≤ I k
  top : ∀ k, k < 5 → I k ≤ M
  all : psum I J 5 = a
theorem psum_mono {M a : Int} {I J : Nat → Int} (h : RowOk M a I J) : ∀ n, n ≤ 5 → 0 ≤ psum I J n
  | 0, _ => by simp [psum]
  | n + 1, hn => by
    have := psum_mono h n (by omega)
    have := h.le n (by omega)
    rw [psum]; omega
theorem psum_up {M a : Int} {I J : Nat → Int} (h : RowOk M a I J) (n d : Nat) (hn : n + d ≤ 5) : psum I J n ≤ psum I J (n + d) := by
  induction d with
  | zero => simp
  | succ d ih =>
    have := ih (by omega)
    have := h.le (n + d) (by omega)
    rw [show n + (d + 1) = (n + d) + 1 from rfl, psum]; omega
theorem psum_most {M a : Int} {I J : Nat → Int} (h : RowOk M a I J) (n : Nat) (hn : n ≤ 5) : psum I J n ≤ a := by
  have := psum_up h n (5 - n) (by omega)
  rw [show n + (5 - n) = 5 by omega, h.all] at this
  exact this
/-- No one has more than all have. -/
theorem has_most {M a : Int} {I J : Nat → Int} (h : RowOk M a I J) (k : Nat) (hk : k < 5) : I k - J k ≤ a := by
  have h1 := psum_most h (k + 1) (by omega)
  have h2 := psum_mono h k (by omega)
  rw [psum] at h1; omega
/-- An amount goes from one to another. -/
theorem RowOk.move {M a r : Int} {I J : Nat → Int} (h : RowOk M a I J) {f t : Nat} (hf : f < 5) (ht : t < 5) (hne : f ≠ t) (hr : 0 ≤ r) (hr1 : r ≤ I f - J f) : RowOk (M + a) a (upd I t (I t + r)) (upd J f (J f + r)) := by
  have hm := has_most h f hf
  have ha : 0 ≤ a := by have := psum_mono h 5 (by omega); rw [h.all] at this; exact this
  refine ⟨fun k hk => ?_, fun k hk => ?_, fun k hk => ?_, ?_⟩
  · have := h.ge k hk
    by_cases e : k = f
    · subst e; rw [upd_same]; omega
    · rw [upd_ne _ _ e]; exact this
  · have := h.le k hk
    by_cases e : k = f
    · subst e; rw [upd_same, upd_ne _ _ hne]; omega
    · rw [upd_ne J _ e]
      by_cases e2 : k = t
      · subst e2; rw [upd_same]; omega
      · rw [upd_ne _ _ e2]; exact this
  · have := h.top k hk
    by_cases e2 : k = t
    · subst e2; rw [upd_same]; omega
    · rw [upd_ne _ _ e2]; omega
  · rw [psum_in, psum_out, if_pos ht, if_pos hf, h.all]; omega
theorem RowOk.more {M M' a : Int} {I J : Nat → Int} (h : RowOk M a I J) (hm : M ≤ M') : RowOk M' a I J := ⟨h.ge, h.le, fun k hk => by have := h.top k hk; omega, h.all⟩
/-- The k-th is emptied too, into the first. -/
theorem chain_zero {I J : Nat → Int} {k : Nat} {v u : Int} (h : ∀ m, 1 ≤ m → m < k → I m - J m = 0) (hk : k ≠ 0) (hk1 : 1 ≤ k) (hz : I k - u = 0) : ∀ m, 1 ≤ m → m < k + 1 → upd I 0 v m - upd J k u m = 0 := by
  intro m h1 h2
  rw [upd_ne I v (show m ≠ 0 by omega)]
  by_cases e : m = k
  · subst e; rw [upd_same]; exact hz
  · rw [upd_ne J u e]; exact h m h1 (by omega)
theorem chain_end {M a : Int} {I J : Nat → Int} (h : RowOk M a I J) (hz : ∀ m, 1 ≤ m → m < 5 → I m - J m = 0) : I 0 - J 0 = a := by
  have h1 := h.all
  have e1 := hz 1 (by omega) (by omega)
  have e2 := hz 2 (by omega) (by omega)
  have e3 := hz 3 (by omega) (by omega)
  have e4 := hz 4 (by omega) (by omega)
  simp only [psum] at h1
  omega
end Go.Proofs.Yticddmmbphoioaa

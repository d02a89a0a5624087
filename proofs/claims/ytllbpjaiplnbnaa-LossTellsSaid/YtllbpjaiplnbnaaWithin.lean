import Derived.Test.YtllbpjaiplnbnaaProg
import Derived.Test.YtllbpjaiplnbnaaMem
namespace Go.Proofs.Ytllbpjaiplnbnaa
open Go.RowKit
set_option linter.unusedVariables false
set_option linter.unusedSimpArgs false

theorem ret_int {k : IntKind} {a b : Int} (h : a = b) : Ending.returned (.int k a) = .returned (.int k b) := by rw [h]
/-- A number brought into lo .. hi. -/
def within (n lo hi : Int) : Int := lo + n % (hi - lo + 1)
theorem within_bd (n : Int) {lo hi : Int} (h : lo ≤ hi) : lo ≤ within n lo hi ∧ within n lo hi ≤ hi := by
  unfold within
  have h1 := Int.emod_nonneg n (show hi - lo + 1 ≠ 0 by omega)
  have h2 := Int.emod_lt_of_pos n (show 0 < hi - lo + 1 by omega)
  omega
theorem tmod_nonneg_eq (n m : Int) (hm : 0 < m) (h : ¬ n.tmod m < 0) : n.tmod m = n % m := by
  by_cases hn : 0 ≤ n
  · exact Int.tmod_eq_emod_of_nonneg hn
  · have h1 := Int.tmod_eq_emod (a := n) (b := m)
    have h2 := Int.emod_lt_of_pos n hm
    split at h1
    · exact h1.trans (by simp)
    · omega
theorem tmod_neg_eq (n m : Int) (hm : 0 < m) (h : n.tmod m < 0) : n.tmod m + m = n % m := by
  have h1 := Int.tmod_eq_emod (a := n) (b := m)
  split at h1
  · have := Int.emod_nonneg n (show m ≠ 0 by omega)
    omega
  · omega
theorem tmod_lo (n m : Int) (hm : 0 < m) : -m < n.tmod m ∧ n.tmod m < m := by
  have h1 := Int.tmod_eq_emod (a := n) (b := m)
  have h2 := Int.emod_lt_of_pos n hm
  have h3 := Int.emod_nonneg n (show m ≠ 0 by omega)
  have h4 : 0 ≤ n → n.tmod m = n % m := Int.tmod_eq_emod_of_nonneg
  split at h1
  · omega
  · by_cases h5 : 0 ≤ n
    · omega
    · have : n % m ≠ 0 := by
        intro h6
        rename_i h7
        exact h7 (.inr (Int.dvd_of_emod_eq_zero h6))
      omega

set_option maxHeartbeats 1000000 in
set_option maxRecDepth 100000 in
theorem within_calls (n lo hi : Int) (w : World) (h0 : lo ≤ hi) (h1 : -2305843009213693952 ≤ lo) (h2 : hi ≤ 2305843009213693952) :
    Calls Try.prog 20 #[.int .i64 n, .int .i64 lo, .int .i64 hi] w fun e w' => e = .returned (.int .i64 (within n lo hi)) ∧ w = w' := by
  have hm : 0 < hi - lo + 1 := by omega
  have hm1 : 1 ≤ hi - lo + 1 := by omega
  obtain ⟨hb0, hb1⟩ := tmod_lo n _ hm
  by_cases h : n.tmod (hi - lo + 1) < 0
  · have he := tmod_neg_eq n _ hm h
    have HE := Lib.hid he
    have HH := Lib.hid h
    clear he
    generalize ht : n.tmod (hi - lo + 1) = t at *
    have HT := Lib.hid ht
    go_enter Try.func20, Try.ntmps20
    go_wp2
    go_ret
    exact ⟨ret_int (by rw [within, ← HE.out]; omega), rfl⟩
  · have he := tmod_nonneg_eq n _ hm h
    have HE := Lib.hid he
    clear he
    generalize ht : n.tmod (hi - lo + 1) = t at *
    have HT := Lib.hid ht
    go_enter Try.func20, Try.ntmps20
    go_wp2
    go_ret
    exact ⟨ret_int (by rw [within, ← HE.out]), rfl⟩
theorem within_s {w0 W : World} {L : List (Nat × Array Value × TypeId)} (n lo hi : Int) (hS : Sts w0 L W) (h0 : lo ≤ hi) (h1 : -2305843009213693952 ≤ lo) (h2 : hi ≤ 2305843009213693952) :
    Calls Try.prog 20 #[.int .i64 n, .int .i64 lo, .int .i64 hi] W (Goes (.int .i64 (within n lo hi)) w0 L) :=
  (within_calls n lo hi W h0 h1 h2).mono fun _ _ ⟨he, hw⟩ => ⟨he, hw ▸ hS⟩
end Go.Proofs.Ytllbpjaiplnbnaa

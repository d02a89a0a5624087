import Derived.Test.YtefidbfhcpcgjaaOpenIs
namespace Go.Proofs.Ytefidbfhcpcgjaa
open Go.RowKit
set_option linter.unusedVariables false
set_option linter.unusedSimpArgs false
set_option maxHeartbeats 1000000 in
set_option maxRecDepth 100000 in
theorem seal_none (k : Int) (A : Option Addr) (n cap : Nat) (w : World) (h : k < 0 ∨ 4294967295 < k ∨ 60000 < n) (hn : n ≤ 1000000) :
    Calls Try.prog 19 #[.int .i64 k, .slice A n cap] w fun e w' => e = .returned (.slice none 0 0) ∧ w = w' := by
  by_cases h0 : k < 0
  · have b0 : decide (k < 0) = true := decide_eq_true h0
    clear h
    go_enter Try.func19, Try.ntmps19
    go_wp2
    go_ret
    exact ⟨rfl, rfl⟩
  · have b0 : decide (k < 0) = false := decide_eq_false h0
    by_cases h1 : 4294967295 < k
    · have b1 : decide (4294967295 < k) = true := decide_eq_true h1
      clear h
      go_enter Try.func19, Try.ntmps19
      go_wp2
      go_ret
      exact ⟨rfl, rfl⟩
    · have b1 : decide (4294967295 < k) = false := decide_eq_false h1
      have b2 : decide (60000 < (n : Int)) = true := decide_eq_true (by omega)
      clear h
      go_enter Try.func19, Try.ntmps19
      go_wp2
      go_ret
      exact ⟨rfl, rfl⟩
theorem seal_any {k : Int} {t : List Int} {A : Option Addr} {n cap : Nat} {w : World} (hs : Src w A n 1 (bs t)) (hb : Byt t) (hn : n ≤ 60000) (k0 : 0 ≤ k) (k1 : k ≤ 4294967295) :
    Calls Try.prog 19 #[.int .i64 k, .slice A n cap] w fun e w' => ∃ a c, e = .returned (.slice a (n + 10) c) ∧ Src w' a (n + 10) 1 (bs (sealL k t)) ∧ Below w.heap.size w w' ∧ n + 10 ≤ c ∧ c ≤ 9223372036854775807 := by
  refine (seal_calls k t A n cap w hs hb hn k0 k1).mono ?_
  rintro e w' ⟨R, a, c, rfl, hR, hS⟩
  exact ⟨a, c, rfl, hR.src0 hS, hS.bel, hR.le, hR.cap_le⟩
theorem seal_is {k : Int} {t : List Int} {A : Option Addr} {n cap : Nat} {w : World} (hs : Src w A n 1 (bs t)) (hb : Byt t) (hn : n ≤ 60000) (k0 : 0 ≤ k) (k1 : k ≤ 4294967295) :
    Calls Try.prog 19 #[.int .i64 k, .slice A n cap] w fun e w' => ∃ a c, e = .returned (.slice a (n + 10) c) ∧ Below w.heap.size w w' :=
  (seal_any hs hb hn k0 k1).mono fun _ _ ⟨a, c, h1, _, h2, _⟩ => ⟨a, c, h1, h2⟩
end Go.Proofs.Ytefidbfhcpcgjaa

import Derived.Test.YtefidbfhcpcgjaaXor
import Derived.Deep.DeepMust
namespace Go.Proofs.Ytefidbfhcpcgjaa
open Go.RowKit
set_option linter.unusedVariables false
set_option linter.unusedSimpArgs false
attribute [local go_sem] bmax2 bmin2 bmax_two bmin_two bmax_three bmin_three
theorem open_is {b : List Int} {A : Option Addr} {n cap p : Nat} {w : World} (hs : Src w A n 1 (bs b)) (hc : n ≤ cap) (hc2 : cap ≤ 9223372036854775807) (hb : Byt b) (hn : n ≤ 100000) (h1 : p ≤ n) (x : List Int) (s nx how : Int) (h : openL b p = (x, s, nx, how)) :
    Calls Try.prog 35 #[.slice A n cap, .int .i64 p] w fun e w' => ∃ a c m, e = .returned (.tuple #[.slice a m c, .int .i64 s, .int .i64 nx, .int .i64 how]) ∧ Src w' a m 1 (bs x) ∧ Below w.heap.size w w' ∧ m = x.length ∧ m ≤ c ∧ c ≤ 9223372036854775807 := by
  refine (open_calls b A n cap p w hs hc hc2 hb hn h1).mono ?_
  rintro e w' ⟨R, a, c, m, rfl, hR, hS⟩
  rw [h] at hR ⊢
  exact ⟨a, c, m, rfl, hR.src0 hS, hS.bel, (hR.src0 hS).len.symm, hR.le, hR.cap_le⟩
end Go.Proofs.Ytefidbfhcpcgjaa

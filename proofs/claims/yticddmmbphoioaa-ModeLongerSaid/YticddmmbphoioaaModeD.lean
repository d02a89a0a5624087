import Derived.Test.YticddmmbphoioaaModeC
namespace Go.Proofs.Yticddmmbphoioaa
open Go.RowKit
set_option linter.unusedVariables false
set_option linter.unusedSimpArgs false
/-! ### pick -/
def pickF (zs : List Int) (i : Nat) : Int := if zs.length = 0 then 0 else zs.getD (i % zs.length) 0
set_option maxHeartbeats 1000000 in
set_option maxRecDepth 100000 in
theorem pick_calls (A : Option Addr) (n c : Nat) (zs : List Int) (i : Nat) (w : World) (h : Ints w A n zs) (hi : i ≤ 1000) :
    Calls Try.prog 31 #[.slice A n c, .int .i64 i] w fun e w' => e = .returned (.int .i64 (pickF zs i)) ∧ w = w' := by
  have hl := h.length
  have hm := h.most
  have H := Lib.hid h; have HL := Lib.hid hl
  clear h hl
  by_cases h0 : n = 0
  · subst h0
    have hx : pickF zs i = 0 := by unfold pickF; rw [if_pos HL.out]
    rw [hx]
    clear hx
    go_enter Try.func31, Try.ntmps31
    go_wp2_with fail
    go_ret
    exact ⟨rfl, rfl⟩
  · have hk : i % n < n := Nat.mod_lt _ (by omega)
    obtain ⟨ad, rfl, hc⟩ := H.out.at_ (i % n) hk
    have hx : pickF zs i = zs.getD (i % n) 0 := by unfold pickF; rw [HL.out, if_neg h0]
    rw [hx]
    have t1 : Int.tmod (i : Int) (n : Int) = ((i % n : Nat) : Int) := by rw [Int.tmod_eq_emod_of_nonneg (by omega)]; omega
    have t2 : ((n : Int) == 0) = false := beq_eq_false_iff_ne.2 (by omega)
    clear hx
    generalize zs.getD (i % n) 0 = z at *
    generalize i % n = q at *
    have i1 : (0 : Int) ≤ (q : Int) := by omega
    have i2 : (q : Int) < (n : Int) := by omega
    have t3 : (n == 0) = false := beq_eq_false_iff_ne.2 h0
    go_enter Try.func31, Try.ntmps31
    go_wp2_with fail
    go_ret
    exact ⟨rfl, rfl⟩
end Go.Proofs.Yticddmmbphoioaa

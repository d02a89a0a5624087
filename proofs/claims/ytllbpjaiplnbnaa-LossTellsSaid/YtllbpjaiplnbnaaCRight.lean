import Derived.Test.YtllbpjaiplnbnaaSum
namespace Go.Proofs.Ytllbpjaiplnbnaa
open Go.RowKit
set_option linter.unusedVariables false
set_option linter.unusedSimpArgs false

/-- Is each an amount? -/
def rightL (l : List Int) : Bool := l.all fun n => decide (0 ≤ n ∧ n ≤ 1152921504606846976)
theorem rightL_cons (n : Int) (r : List Int) : rightL (n :: r) = (decide (0 ≤ n ∧ n ≤ 1152921504606846976) && rightL r) := by simp [rightL]
theorem rightL_no {n : Int} {r : List Int} (h : ¬ (0 ≤ n ∧ n ≤ 1152921504606846976)) : rightL (n :: r) = false := by rw [rightL_cons, decide_eq_false h]; rfl
theorem rightL_yes {n : Int} {r : List Int} (h : 0 ≤ n ∧ n ≤ 1152921504606846976) : rightL (n :: r) = rightL r := by rw [rightL_cons, decide_eq_true h]; rfl
set_option maxHeartbeats 1000000 in
set_option maxRecDepth 100000 in
theorem right_calls (l : List Int) (b c : Nat) (w : World) (hl : l.length ≤ 1000000) (hc : ∀ i : Nat, i < l.length → w.cell? ⟨b, i, none⟩ = some (.int .i64 (l.getD i 0))) (hb : ∀ x ∈ l, -9223372036854775808 ≤ x ∧ x ≤ 9223372036854775807) :
    Calls Try.prog 34 #[.slice (some ⟨b, 0, none⟩) l.length c] w fun e w' => e = .returned (.bool (rightL l)) ∧ w = w' := by
  have HC := Lib.hid hc
  have HX := Lib.hid hb
  clear hc hb
  go_enter Try.func34, Try.ntmps34
  go_wp2
  go_loop [7] (fun i => ∃ (k : Nat), k ≤ l.length ∧ i = .int .i64 k ∧ Hid (rightL l = rightL (l.drop k))) (fun i => l.length - (intOf i).toNat)
  case atStart => exact ⟨0, Nat.zero_le _, rfl, rfl⟩
  case round =>
    obtain ⟨k, hk, rfl, HS⟩ := hrel
    by_cases hlt : k < l.length
    · have hcell := HC.out k hlt
      obtain ⟨h2, h3⟩ := HX.out (l.getD k 0) (by rw [List.getD_eq_getElem?_getD, List.getElem?_eq_getElem hlt]; simp)
      have hd : l.drop k = l.getD k 0 :: l.drop (k + 1) := by rw [List.getD_eq_getElem?_getD, List.getElem?_eq_getElem hlt]; simp
      generalize l.getD k 0 = x at hcell h2 h3 hd
      have HD := Lib.hid hd
      clear hd
      by_cases hx : x < 0
      · have HN := Lib.hid (rightL_no (n := x) (r := l.drop (k + 1)) (by omega))
        have hb0 : decide (x < 0) = true := decide_eq_true hx
        clear hx
        go_wp2
        go_ret
        exact ⟨by rw [HS.out, HD.out, HN.out]; rfl, rfl⟩
      · have hb0 : decide (x < 0) = false := decide_eq_false hx
        by_cases hx1 : 1152921504606846976 < x
        · have HN := Lib.hid (rightL_no (n := x) (r := l.drop (k + 1)) (by omega))
          have hb1 : decide (1152921504606846976 < x) = true := decide_eq_true hx1
          clear hx hx1
          go_wp2
          go_ret
          exact ⟨by rw [HS.out, HD.out, HN.out]; rfl, rfl⟩
        · have HN := Lib.hid (rightL_yes (n := x) (r := l.drop (k + 1)) (by omega))
          have hb1 : decide (1152921504606846976 < x) = false := decide_eq_false hx1
          clear hx hx1
          go_wp2
          go_round
          case rel => exact ⟨k + 1, by omega, by go_num, by unfold Hid; rw [HS.out, HD.out, HN.out]⟩
          case measure => simp [intOf]; omega
    · have hd : l.drop k = [] := by rw [List.drop_eq_nil_iff]; omega
      have HD := Lib.hid hd
      clear hd
      go_wp2
      go_ret
      exact ⟨by rw [HS.out, HD.out]; rfl, rfl⟩
theorem right1 (x : Int) (b c : Nat) (w : World) (h0 : w.cell? ⟨b, 0, none⟩ = some (.int .i64 x)) (hx : -9223372036854775808 ≤ x) (hx1 : x ≤ 9223372036854775807) :
    Calls Try.prog 34 #[.slice (some ⟨b, 0, none⟩) 1 c] w fun e w' => e = .returned (.bool (decide (0 ≤ x ∧ x ≤ 1152921504606846976))) ∧ w = w' := by
  refine (right_calls [x] b c w (by simp) ?_ (by simp; omega)).mono ?_
  · intro i hi
    match i, hi with
    | 0, _ => exact h0
  · rintro e w' ⟨rfl, rfl⟩
    exact ⟨by rw [rightL_cons]; simp [rightL], rfl⟩
theorem right1_yes (x : Int) (b c : Nat) (w : World) (h0 : w.cell? ⟨b, 0, none⟩ = some (.int .i64 x)) (hx : 0 ≤ x) (hx1 : x ≤ 1152921504606846976) :
    Calls Try.prog 34 #[.slice (some ⟨b, 0, none⟩) 1 c] w fun e w' => e = .returned (.bool true) ∧ w = w' := by
  have := right1 x b c w h0 (by omega) (by omega)
  rw [decide_eq_true (by omega)] at this; exact this
theorem right1_no (x : Int) (b c : Nat) (w : World) (h0 : w.cell? ⟨b, 0, none⟩ = some (.int .i64 x)) (hx : -9223372036854775808 ≤ x) (hx1 : x ≤ 9223372036854775807) (hn : ¬ (0 ≤ x ∧ x ≤ 1152921504606846976)) :
    Calls Try.prog 34 #[.slice (some ⟨b, 0, none⟩) 1 c] w fun e w' => e = .returned (.bool false) ∧ w = w' := by
  have := right1 x b c w h0 hx hx1
  rw [decide_eq_false hn] at this; exact this
end Go.Proofs.Ytllbpjaiplnbnaa

import Derived.Test.YtllbpjaiplnbnaaProg
import Derived.Test.YtllbpjaiplnbnaaMem
namespace Go.Proofs.Ytllbpjaiplnbnaa
open Go.RowKit
set_option linter.unusedVariables false
set_option linter.unusedSimpArgs false

/-- Nothing has turned but the count of draws. -/
def Drawn (w w' : World) : Prop := ∃ n, w' = w.drewN n
theorem Drawn.rfl_ (w : World) : Drawn w w := ⟨0, rfl⟩

def sumL : Int → List Int → Int × Bool
  | s, [] => (s, true)
  | s, n :: r => if n < 0 ∨ 1152921504606846976 - s < n then (0, false) else sumL (s + n) r
theorem sumL_no {s n : Int} {r : List Int} (h : n < 0 ∨ 1152921504606846976 - s < n) : sumL s (n :: r) = (0, false) := by rw [sumL, if_pos h]
theorem sumL_yes {s n : Int} {r : List Int} (h : ¬ (n < 0 ∨ 1152921504606846976 - s < n)) : sumL s (n :: r) = sumL (s + n) r := by rw [sumL, if_neg h]
def sumV (l : List Int) : Value := .tuple #[.int .i64 (sumL 0 l).1, .bool (sumL 0 l).2]

set_option maxHeartbeats 1000000 in
set_option maxRecDepth 100000 in
theorem sum_calls (l : List Int) (b c : Nat) (w : World) (hl : l.length ≤ 1000000) (hc : ∀ i : Nat, i < l.length → w.cell? ⟨b, i, none⟩ = some (.int .i64 (l.getD i 0))) (hb : ∀ x ∈ l, -9223372036854775808 ≤ x ∧ x ≤ 9223372036854775807) :
    Calls Try.prog 35 #[.slice (some ⟨b, 0, none⟩) l.length c] w fun e w' => e = .returned (sumV l) ∧ w = w' := by
  have HC := Lib.hid hc
  have HX := Lib.hid hb
  clear hc hb
  go_enter Try.func35, Try.ntmps35
  go_wp2
  go_loop [4, 9] (fun t i => ∃ (k : Nat) (s : Int), k ≤ l.length ∧ i = .int .i64 k ∧ t = .int .i64 s ∧ 0 ≤ s ∧ s ≤ 1152921504606846976 ∧ Hid (sumL 0 l = sumL s (l.drop k))) (fun _ i => l.length - (intOf i).toNat)
  case atStart => exact ⟨0, 0, Nat.zero_le _, rfl, rfl, by omega, by omega, rfl⟩
  case round =>
    obtain ⟨k, s, hk, rfl, rfl, h0, h1, HS⟩ := hrel
    by_cases hlt : k < l.length
    · have hcell := HC.out k hlt
      obtain ⟨h2, h3⟩ := HX.out (l.getD k 0) (by rw [List.getD_eq_getElem?_getD, List.getElem?_eq_getElem hlt]; simp)
      have hd : l.drop k = l.getD k 0 :: l.drop (k + 1) := by rw [List.getD_eq_getElem?_getD, List.getElem?_eq_getElem hlt]; simp
      generalize l.getD k 0 = x at hcell h2 h3 hd
      have HD := Lib.hid hd
      clear hd
      by_cases hx : x < 0 ∨ 1152921504606846976 - s < x
      · have hno := sumL_no (s := s) (r := l.drop (k + 1)) hx
        have HN := Lib.hid hno
        clear hno
        by_cases hx0 : x < 0
        · have hb0 : decide (x < 0) = true := decide_eq_true hx0
          clear hx
          go_wp2
          go_ret2
          exact ⟨by rw [sumV, HS.out, HD.out, HN.out]; rfl, rfl⟩
        · have hb0 : decide (x < 0) = false := decide_eq_false hx0
          have hb1 : decide (1152921504606846976 - s < x) = true := decide_eq_true (by omega)
          clear hx hx0
          go_wp2
          go_ret2
          exact ⟨by rw [sumV, HS.out, HD.out, HN.out]; rfl, rfl⟩
      · have hyes := sumL_yes (s := s) (r := l.drop (k + 1)) hx
        have HN := Lib.hid hyes
        clear hyes
        have hx1 : 0 ≤ x := by omega
        have hx2 : x ≤ 1152921504606846976 - s := by omega
        clear hx
        go_wp2
        go_round
        case rel => exact ⟨k + 1, s + x, by omega, by go_num, rfl, by omega, by omega, by unfold Hid; rw [HS.out, HD.out, HN.out]⟩
        case measure => simp [intOf]; omega
    · have hd : l.drop k = [] := by rw [List.drop_eq_nil_iff]; omega
      have HD := Lib.hid hd
      clear hd
      go_wp2
      go_ret2
      exact ⟨by rw [sumV, HS.out, HD.out]; rfl, rfl⟩

theorem sum2_yes (x y : Int) (b c : Nat) (w : World) (h0 : w.cell? ⟨b, 0, none⟩ = some (.int .i64 x)) (h1 : w.cell? ⟨b, 1, none⟩ = some (.int .i64 y)) (hx : 0 ≤ x) (hy : 0 ≤ y) (hs : x + y ≤ 1152921504606846976) :
    Calls Try.prog 35 #[.slice (some ⟨b, 0, none⟩) 2 c] w fun e w' => e = .returned (.tuple #[.int .i64 (x + y), .bool true]) ∧ w = w' := by
  refine (sum_calls [x, y] b c w (by simp) ?_ (by simp; omega)).mono ?_
  · intro i hi
    match i, hi with
    | 0, _ => exact h0
    | 1, _ => exact h1
  · rintro e w' ⟨rfl, rfl⟩
    refine ⟨?_, rfl⟩
    rw [sumV, sumL_yes (by omega), sumL_yes (by omega)]; simp [sumL]
theorem sum2_no (x y : Int) (b c : Nat) (w : World) (h0 : w.cell? ⟨b, 0, none⟩ = some (.int .i64 x)) (h1 : w.cell? ⟨b, 1, none⟩ = some (.int .i64 y)) (hx : 0 ≤ x) (hx1 : x ≤ 1152921504606846976) (hy : -9223372036854775808 ≤ y) (hy1 : y ≤ 9223372036854775807) (hs : y < 0 ∨ 1152921504606846976 < x + y) :
    Calls Try.prog 35 #[.slice (some ⟨b, 0, none⟩) 2 c] w fun e w' => e = .returned (.tuple #[.int .i64 0, .bool false]) ∧ w = w' := by
  refine (sum_calls [x, y] b c w (by simp) ?_ (by simp; omega)).mono ?_
  · intro i hi
    match i, hi with
    | 0, _ => exact h0
    | 1, _ => exact h1
  · rintro e w' ⟨rfl, rfl⟩
    refine ⟨?_, rfl⟩
    rw [sumV, sumL_yes (by omega), sumL_no (by omega)]

end Go.Proofs.Ytllbpjaiplnbnaa

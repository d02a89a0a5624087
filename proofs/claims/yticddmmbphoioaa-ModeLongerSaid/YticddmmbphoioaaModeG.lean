import Derived.Test.YticddmmbphoioaaModeF
import Derived.Sort.BigQuietIn
namespace Go.Proofs.Yticddmmbphoioaa
open Go.RowKit
set_option linter.unusedVariables false
set_option linter.unusedSimpArgs false
/-! ### Same of steps -/
theorem pcs_length (es : List (Int × Int)) : (pcs es).length = es.length * 2 := flat_length pc 2 pc_length es
theorem Src.drewE {w wr : World} {A : Option Addr} {n size j : Nat} {xs : List Value} (h : Src w A n size xs) (e : wr = w.drewN j) : Src wr A n size xs := by subst e; exact h
theorem src_pc {W : World} {A : Option Addr} {n : Nat} {l : List (Int × Int)} (h : Src W A n 2 (pcs l)) {k : Nat} {e : Int × Int} (hg : l[k]? = some e) : ∃ ad, A = some ad ∧ W.cell? (ad.add (k * 2)) = some (.int .i64 e.1) ∧ W.cell? ⟨(ad.add (k * 2)).block, (ad.add (k * 2)).off + 1, none⟩ = some (.int .i64 e.2) := by
  have hl : l.length = n := by have := h.1; rw [pcs_length] at this; omega
  have hk := (List.getElem?_eq_some_iff.1 hg).1
  obtain ⟨ad, e1, hc⟩ := h.2 (by omega)
  refine ⟨ad, e1, ?_, ?_⟩
  · have := hc (k * 2 + 0) (.int .i64 e.1) (by rw [pcs, flat_get pc 2 pc_length l k 0 _ hg (by omega)]; rfl)
    simpa using this
  · have := hc (k * 2 + 1) (.int .i64 e.2) (by rw [pcs, flat_get pc 2 pc_length l k 1 _ hg (by omega)]; rfl)
    rw [add_nextC ad (k * 2) 1 (by omega)] at this
    exact this
set_option maxHeartbeats 2000000 in
set_option maxRecDepth 100000 in
theorem sameS_yes {A B : Option Addr} {n c d : Nat} (a : List (Int × Int)) {w : World} (ha : Src w A n 2 (pcs a)) (hb : Src w B n 2 (pcs a)) (hn : n ≤ 1000000) :
    Calls Try.prog 26 #[.slice A n c, .slice B n d] w fun e w' => e = .returned (.bool true) ∧ ∃ k, w' = w.drewN k := by
  have hl : a.length = n := by have := ha.1; rw [pcs_length] at this; omega
  have HA := Lib.hid ha; have HB := Lib.hid hb; have HL := Lib.hid hl
  clear ha hb hl
  have b1 : ((n : Int) != n) = false := by simp
  go_enter Try.func26, Try.ntmps26
  go_wp2
  go_loopw [5] (fun i wr => ∃ (k j : Nat), k ≤ n ∧ i = .int .i64 k ∧ Hid (wr = w.drewN j)) (fun i _ => n - (intOf i).toNat)
  case atStart => exact ⟨0, 0, Nat.zero_le _, rfl, Lib.hid rfl⟩
  case round =>
    obtain ⟨k, j, hk, rfl, HW⟩ := hrel
    by_cases hlt : k < n
    · have hka : k < a.length := by rw [HL.out]; exact hlt
      have hg : a[k]? = some a[k] := List.getElem?_eq_getElem hka
      obtain ⟨ad, rfl, c0, c1⟩ := src_pc (HA.out.drewE HW.out) hg
      obtain ⟨bd, rfl, e0, e1⟩ := src_pc (HB.out.drewE HW.out) hg
      generalize a[k] = e at *
      obtain ⟨x, y⟩ := e
      simp only at c0 c1 e0 e1
      have i0 : (0 : Int) ≤ (k : Int) := by omega
      have i1 : (k : Int) < (n : Int) := by omega
      clear hg
      go_upto_region 6 with fail
      go_quiet (fail)
      go_wp2
      go_roundw
      case rel => exact ⟨k + 1, j + nq, by omega, by go_num, Lib.hid (by rw [HW.out, World.drewN_drewN])⟩
      case measure => simp [intOf]; omega
    · obtain rfl : k = n := by omega
      go_wp2
      go_ret
      exact ⟨rfl, j, HW.out⟩
end Go.Proofs.Yticddmmbphoioaa

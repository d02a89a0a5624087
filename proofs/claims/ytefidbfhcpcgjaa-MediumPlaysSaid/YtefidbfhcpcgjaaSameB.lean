import Derived.Test.YtefidbfhcpcgjaaFrD
import Derived.Test.YtefidbfhcpcgjaaWithin
namespace Go.Proofs.Ytefidbfhcpcgjaa
open Go.RowKit
set_option linter.unusedVariables false
set_option linter.unusedSimpArgs false
theorem ret_bool {a b : Bool} (h : a = b) : Ending.returned (.bool a) = .returned (.bool b) := by rw [h]
theorem Src.drewE {w wr : World} {A : Option Addr} {n size j : Nat} {xs : List Value} (h : Src w A n size xs) (e : wr = w.drewN j) : Src wr A n size xs := by subst e; exact h
theorem take_eq_next {a b : List Int} {k : Nat} (h : a.take k = b.take k) (hx : a.getD k 0 = b.getD k 0) (ha : k < a.length) (hb : k < b.length) : a.take (k + 1) = b.take (k + 1) := by
  rw [List.take_succ_eq_append_getElem ha, List.take_succ_eq_append_getElem hb, h]
  rw [List.getD_eq_getElem?_getD, List.getD_eq_getElem?_getD, List.getElem?_eq_getElem ha, List.getElem?_eq_getElem hb] at hx
  simp only [Option.getD_some] at hx
  rw [hx]
set_option maxHeartbeats 1000000 in
set_option maxRecDepth 100000 in
theorem same_calls (A B : Option Addr) (n c m d : Nat) (a b : List Int) (w : World) (ha : Src w A n 1 (bs a)) (hb : Src w B m 1 (bs b)) (hn : n ≤ 1000000) (hm : m ≤ 9223372036854775807) :
    Calls Try.prog 18 #[.slice A n c, .slice B m d] w fun e w' => e = .returned (.bool (decide (a = b))) ∧ ∃ k, w' = w.drewN k := by
  have hla := ha.len
  have hlb := hb.len
  have HA := Lib.hid ha
  have HB := Lib.hid hb
  have LA := Lib.hid hla
  have LB := Lib.hid hlb
  obtain ⟨r, hr⟩ : ∃ r, r = decide (a = b) := ⟨_, rfl⟩
  rw [← hr]
  have HR := Lib.hid hr
  clear ha hb hla hlb hr
  by_cases h1 : n = m
  · subst h1
    have b1 : ((n : Int) != n) = false := by simp
    go_enter Try.func18, Try.ntmps18
    go_wp2
    go_loopw [5] (fun i wr => ∃ (k j : Nat), k ≤ n ∧ i = .int .i64 k ∧ Hid (a.take k = b.take k) ∧ Hid (wr = w.drewN j)) (fun i _ => n - (intOf i).toNat)
    case atStart => exact ⟨0, 0, Nat.zero_le _, rfl, Lib.hid (by simp), Lib.hid rfl⟩
    case round =>
      obtain ⟨k, j, hk, rfl, HT, HW⟩ := hrel
      by_cases hlt : k < n
      · obtain ⟨ad, rfl, hcell⟩ := (HA.out.drewE HW.out).byte hlt
        obtain ⟨bd, rfl, hcell2⟩ := (HB.out.drewE HW.out).byte hlt
        have i0 : (0 : Int) ≤ (k : Int) := by omega
        have i1 : (k : Int) < (n : Int) := by omega
        obtain ⟨x, hx⟩ : ∃ x, a.getD k 0 = x := ⟨_, rfl⟩
        obtain ⟨y, hy⟩ : ∃ y, b.getD k 0 = y := ⟨_, rfl⟩
        rw [hx] at hcell
        rw [hy] at hcell2
        have HX := Lib.hid hx
        have HY := Lib.hid hy
        clear hx hy
        by_cases he : x = y
        · have b2 : (x != y) = false := by rw [bne_eq_false_iff_eq]; exact he
          have HE := Lib.hid (take_eq_next HT.out (by rw [HX.out, HY.out]; exact he) (by rw [LA.out]; exact hlt) (by rw [LB.out]; exact hlt))
          clear he
          go_upto_region 6 with fail
          go_quiet (fail)
          go_wp2
          go_roundw
          case rel => exact ⟨k + 1, j + nq, by omega, by go_num, HE, Lib.hid (by rw [HW.out, World.drewN_drewN])⟩
          case measure => simp [intOf]; omega
        · have b2 : (x != y) = true := by rw [bne_iff_ne]; exact he
          have HE := Lib.hid he
          clear he
          go_upto_region 6 with fail
          go_quiet (fail)
          go_wp2
          go_ret
          refine ⟨ret_bool ?_, j + nq, by rw [HW.out, World.drewN_drewN]⟩
          rw [HR.out]
          symm
          refine decide_eq_false (fun h => HE.out ?_)
          rw [← HX.out, ← HY.out, h]
      · obtain rfl : k = n := by omega
        go_wp2
        go_ret
        refine ⟨ret_bool ?_, j, HW.out⟩
        rw [HR.out]
        symm
        refine decide_eq_true ?_
        have := HT.out
        rw [List.take_of_length_le (by rw [LA.out]; exact Nat.le_refl _), List.take_of_length_le (by rw [LB.out]; exact Nat.le_refl _)] at this
        exact this
  · have b1 : ((n : Int) != m) = true := by rw [bne_iff_ne]; omega
    have hr : r = false := by
      rw [HR.out]
      refine decide_eq_false (fun h => h1 ?_)
      rw [← LA.out, ← LB.out, h]
    have HR2 := Lib.hid hr
    clear hr h1
    go_enter Try.func18, Try.ntmps18
    go_wp2
    go_ret
    exact ⟨ret_bool HR2.out.symm, 0, rfl⟩
end Go.Proofs.Ytefidbfhcpcgjaa

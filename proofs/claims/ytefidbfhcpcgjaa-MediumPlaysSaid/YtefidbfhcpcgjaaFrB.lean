import Derived.Test.YtefidbfhcpcgjaaFrA
namespace Go.Proofs.Ytefidbfhcpcgjaa
open Go.RowKit
set_option linter.unusedVariables false
set_option linter.unusedSimpArgs false

/-! ### slices.Concat -/
structure Prt where
  a : Option Addr
  n : Nat
  cap : Nat
  l : List Int
def Prt.v (p : Prt) : Value := .slice p.a p.n p.cap
def cat (ps : List Prt) : List Int := ps.flatMap Prt.l
def Parts (W : World) (ps : List Prt) : Prop := ∀ p ∈ ps, Src W p.a p.n 1 (bs p.l)
theorem Parts.below {W W' : World} {ps : List Prt} (h : Parts W ps) (hb : Below W.heap.size W W') : Parts W' ps := fun p hp => (h p hp).below hb
theorem Parts.at_ {W : World} {ps : List Prt} {A : Option Addr} {N : Nat} (h : Src W A N 1 (ps.map Prt.v)) {k : Nat} {p : Prt} (hk : ps[k]? = some p) : ∃ ad, A = some ad ∧ W.cell? (ad.add k) = some (.slice p.a p.n p.cap) := by
  have hl := h.1
  have h0 := (List.getElem?_eq_some_iff.1 hk).1
  rw [List.length_map] at hl
  obtain ⟨ad, e, hc⟩ := h.2 (by omega)
  exact ⟨ad, e, hc k _ (by rw [List.getElem?_map, hk]; rfl)⟩
theorem cat_next {ps : List Prt} {k : Nat} {p : Prt} (hk : ps[k]? = some p) : cat (ps.take (k + 1)) = cat (ps.take k) ++ p.l := by
  obtain ⟨h1, h2⟩ := List.getElem?_eq_some_iff.1 hk
  rw [List.take_succ_eq_append_getElem h1, cat, List.flatMap_append, h2]; simp [cat]
theorem cat_le (ps : List Prt) (k : Nat) : (cat (ps.take k)).length ≤ (cat ps).length := by
  conv => rhs; rw [← List.take_append_drop k ps]
  rw [cat, cat, List.flatMap_append, List.length_append]; omega
theorem cat_all (ps : List Prt) {k : Nat} (h : ps.length ≤ k) : cat (ps.take k) = cat ps := by rw [List.take_of_length_le h]

set_option maxHeartbeats 2000000 in
set_option maxRecDepth 100000 in
theorem concat_calls (A : Option Addr) (N cap : Nat) (ps : List Prt) (w : World) (hA : Src w A N 1 (ps.map Prt.v)) (hP : Parts w ps) (hT : (cat ps).length ≤ 900000) (hN : N ≤ 100000) :
    Calls Try.prog 42 #[.slice A N cap] w (Made (bs (cat ps)) (cat ps).length 5 1 w) := by
  obtain ⟨i0, hi, hz, hs1, hs2⟩ := info_parts byte_info
  have hl : ps.length = N := by have := hA.1; simpa using this
  have HA := Lib.hid hA
  have HP := Lib.hid hP
  have HL := Lib.hid hl
  clear hA hP hl
  go_enter Try.func42, Try.ntmps42
  go_wp2
  go_loop [3, 11] (fun s i => ∃ (k m : Nat), k ≤ N ∧ i = .int .i64 k ∧ s = .int .i64 m ∧ m ≤ 900000 ∧ Hid (m = (cat (ps.take k)).length)) (fun _ i => N - (intOf i).toNat)
  case atStart => exact ⟨0, 0, Nat.zero_le _, rfl, rfl, by omega, Lib.hid (by simp [cat])⟩
  case round =>
    obtain ⟨k, m, hk, rfl, rfl, hm, HM⟩ := hrel
    by_cases hlt : k < N
    · obtain ⟨p, hp⟩ : ∃ p, ps[k]? = some p := ⟨_, List.getElem?_eq_getElem (by rw [HL.out]; exact hlt)⟩
      obtain ⟨ad, rfl, hcell⟩ := Parts.at_ HA.out hp
      have hpl := (HP.out p (List.mem_of_getElem? hp)).len
      have hcn := cat_next hp
      have hle := cat_le ps (k + 1)
      rw [hcn, List.length_append, ← HM.out, hpl] at hle
      have hbound : m + p.n ≤ 900000 := by omega
      have hmn : m + p.n = (cat (ps.take (k + 1))).length := by rw [hcn, List.length_append, ← HM.out, hpl]
      have HMN := Lib.hid hmn
      clear hp hpl hcn hle hmn
      go_wp2
      go_round
      case rel => exact ⟨k + 1, m + p.n, by omega, by go_num, by go_num, hbound, HMN⟩
      case measure => simp [intOf]; omega
    · obtain rfl : k = N := by omega
      have hm2 : m = (cat ps).length := by rw [HM.out, cat_all ps (by rw [HL.out]; exact Nat.le_refl _)]
      have HM2 := Lib.hid hm2
      clear hm2
      go_wp2_with fail
      refine (grow_calls m _ (by omega)).mono ?_
      rintro e w1 ⟨R1, a1, cap1, rfl, hR1, hS1⟩
      have HR1 := Lib.hid hR1
      have HS1 : Hid (Sts w (R1 ++ []) w1) := Lib.hid (by simpa using hS1)
      clear hR1 hS1
      go_wp2_with fail
      go_loopw [6, 27] (fun v i wr => ∃ (k' m' : Nat) (R : List Ent) (a : Option Addr) (c : Nat), k' ≤ k ∧ i = .int .i64 k' ∧ v = .slice a m' c ∧ m' ≤ 900000 ∧ Hid (m' = (cat (ps.take k')).length) ∧ Hid (Row R 5 1 a m' c (bs (cat (ps.take k')))) ∧ Hid (Sts w (R ++ []) wr)) (fun _ i _ => k - (intOf i).toNat)
      case atStart => exact ⟨0, 0, R1, a1, cap1, Nat.zero_le _, rfl, rfl, by omega, Lib.hid (by simp [cat]), HR1, HS1⟩
      case round =>
        clear HS1 HR1
        obtain ⟨k', m', R, a, c, hk', rfl, rfl, hm', HM', HR, HS⟩ := hrel
        by_cases hlt' : k' < k
        · obtain ⟨p, hp⟩ : ∃ p, ps[k']? = some p := ⟨_, List.getElem?_eq_getElem (by rw [HL.out]; exact hlt')⟩
          obtain ⟨ad, rfl, hcell⟩ := Parts.at_ (HA.out.below HS.out.bel) hp
          have hps := (HP.out p (List.mem_of_getElem? hp)).below HS.out.bel
          have hpl := hps.len
          have hcn := cat_next hp
          have hle := cat_le ps (k' + 1)
          rw [hcn, List.length_append, ← HM'.out, hpl] at hle
          have hbound : m' + p.n ≤ 900000 := by omega
          have hmn : m' + p.n = (cat (ps.take (k' + 1))).length := by rw [hcn, List.length_append, ← HM'.out, hpl]
          have hbc : bs (cat (ps.take k')) ++ bs p.l = bs (cat (ps.take (k' + 1))) := by rw [hcn, bs_app]
          have HMN := Lib.hid hmn
          have HBC := Lib.hid hbc
          have HPS := Lib.hid hps
          clear hp hpl hcn hle hmn hbc hps
          go_wp2_with (at_builtin; refine row_append rfl (.tmp 31) (.tmp 32) 23 rfl [] [] Try.underlying23 hi hz hs1 hs2 rfl (by omega) HR.out HS.out rfl rfl HPS.out (bs_one _) (by omega) (by omega) ?_; rintro R' a' cap' w' hR hS)
          go_roundw
          case rel => exact ⟨k' + 1, m' + p.n, R', a', cap', by omega, by go_num, rfl, hbound, HMN, Lib.hid (HBC.out ▸ hR), Lib.hid hS⟩
          case measure => simp [intOf]; omega
        · obtain rfl : k' = k := by omega
          go_wp2
          go_ret
          have hall := cat_all ps (k := k') (by rw [HL.out]; exact Nat.le_refl _)
          refine ⟨R, a, c, ?_, ?_, by simpa using HS.out⟩
          · rw [← hall, ← HM'.out]; rfl
          · rw [← hall, ← HM'.out]; exact HR.out
end Go.Proofs.Ytefidbfhcpcgjaa

import Derived.Test.YticddmmbphoioaaPurse2
namespace Go.Proofs.Yticddmmbphoioaa
open Go.RowKit
set_option linter.unusedVariables false
set_option linter.unusedSimpArgs false

theorem ptr_cells (w : World) (l : List (Option Addr)) (t : TypeId) : ∀ q : Nat, q < l.length → (w.alloc (.cells (l.map Value.pointer).toArray t)).cell? ⟨w.heap.size, q, none⟩ = some (.pointer (l.getD q none)) := by
  intro q hq
  rw [(Blk.new w _ t).cell q]
  simp [hq]
/-- A pointer that doesn't take r: nil, or a purse that would have too much. -/
def Refuses (L : List (Nat × Array Value × TypeId)) (r : Int) (p : Option Addr) : Prop :=
  p = none ∨ ∃ (k g o : Nat) (cs : Array Value) (t : TypeId) (i : Int), p = some ⟨g, o, none⟩ ∧ L[k]? = some (g, cs, t) ∧ cs[o]? = some (.int .i64 i) ∧ 0 ≤ i ∧ i ≤ 1152921504606846976 ∧ 1152921504606846976 < i + r

theorem pw_cell {w w1 : World} (h : Below w.heap.size w w1) {a : Addr} {v : Value} (hc : w.cell? a = some v) : w1.cell? a = some v := (h.cell (World.block_lt_of_cell? w a hc)).trans hc
theorem refuses_two {L : List (Nat × Array Value × TypeId)} {r : Int} {p0 p1 : Option Addr} (h0 : Refuses L r p0) (h1 : Refuses L r p1) : ∀ q : Nat, q < [p0, p1].length → Refuses L r ([p0, p1].getD q none) := by
  intro q hq
  match q, hq with
  | 0, _ => exact h0
  | 1, _ => exact h1
section
variable {w0 W : World} {L : List (Nat × Array Value × TypeId)} {gf : Nat} {tf : TypeId} {cf : Array Value}
set_option maxHeartbeats 1000000 in
set_option maxRecDepth 100000 in
/-- What the m-th takes, none ahead of it having taken it. -/
theorem move_takes (r i j n : Int) (kf o : Nat) (hS : Sts w0 L W) (hf : L[kf]? = some (gf, cf, tf)) (hi : cf[o]? = some (.int .i64 i)) (hj : cf[o + 1]? = some (.int .i64 j)) (h0 : 0 ≤ j) (h1 : j ≤ i) (h2 : i ≤ 1152921504606846976) (hn : -9223372036854775808 ≤ n) (hn1 : n ≤ 9223372036854775807) (hr : r = takes i j n)
    (tos : List (Option Addr)) (bs cap : Nat) (hl : tos.length ≤ 1000) (hbs : bs ≠ gf) (hcell : ∀ q : Nat, q < tos.length → W.cell? ⟨bs, q, none⟩ = some (.pointer (tos.getD q none)))
    (m : Nat) (hm : m < tos.length) (hno : ∀ q : Nat, q < m → Refuses (L.set kf (gf, cf.setIfInBounds (o + 1) (.int .i64 (j + r)), tf)) r (tos.getD q none))
    (km gm om : Nat) (cm : Array Value) (tm : TypeId) (im : Int) (hp : tos.getD m none = some ⟨gm, om, none⟩) (hkm : (L.set kf (gf, cf.setIfInBounds (o + 1) (.int .i64 (j + r)), tf))[km]? = some (gm, cm, tm)) (him : cm[om]? = some (.int .i64 im)) (hi0 : 0 ≤ im) (hi1 : im + r ≤ 1152921504606846976) :
    Calls Try.prog 27 #[.int .i64 n, .pointer (some ⟨gf, o, none⟩), .slice (some ⟨bs, 0, none⟩) tos.length cap] W (Goes (.int .i64 r) w0 ((L.set kf (gf, cf.setIfInBounds (o + 1) (.int .i64 (j + r)), tf)).set km (gm, cm.setIfInBounds om (.int .i64 (im + r)), tm))) := by
  have htb := takes_bd i j n h1
  rw [← hr] at htb
  obtain ⟨hr0, hr1⟩ := htb
  have HS := Lib.hid hS
  have HF := Lib.hid hf
  have HI := Lib.hid hi
  have HJ := Lib.hid hj
  have HR := Lib.hid hr
  have HC := Lib.hid hcell
  have HN := Lib.hid hno
  have HP := Lib.hid hp
  have HKM := Lib.hid hkm
  have HIM := Lib.hid him
  have HNE := Lib.hid hbs
  clear hS hf hi hj hr hcell hno hp hkm him hbs
  go_enter Try.func27, Try.ntmps27
  go_wp2_with fail
  refine (take_as r gf o cf tf i j n W (HS.out.at_ kf HF.out) HI.out HJ.out h0 h1 h2 hn hn1 HR.out).mono ?_
  rintro e w1 ⟨rfl, hb, hB⟩
  have hs := HS.out.upd kf HF.out hb hB
  have hcell : ∀ q : Nat, q < tos.length → w1.cell? ⟨bs, q, none⟩ = some (.pointer (tos.getD q none)) := by
    intro q hq
    have h3 := HC.out q hq
    have h4 := World.block_lt_of_cell? W _ h3
    rw [World.cell?_of_block (w := W) (w' := w1) (hB.block bs h4 HNE.out)]; exact h3
  generalize hL1 : L.set kf (gf, cf.setIfInBounds (o + 1) (.int .i64 (j + r)), tf) = L1 at *
  have HS1 := Lib.hid hs
  have HC1 := Lib.hid hcell
  clear hs hcell hb hB hL1
  go_wp2_with fail
  go_loopw [16] (fun v wr => ∃ q : Nat, q ≤ m ∧ v = .int .i64 q ∧ Hid (Sts w0 L1 wr) ∧ Hid (Below w1.heap.size w1 wr)) (fun v _ => m + 1 - (intOf v).toNat)
  case atStart => exact ⟨0, Nat.zero_le _, rfl, HS1, Below.refl _ _⟩
  case round =>
    obtain ⟨q, hq, rfl, HSr, HBr⟩ := hrel
    have hlt : q < tos.length := by omega
    by_cases hqm : q < m
    · have hno := HN.out q hqm
      have hcell := (HC1.out q hlt)
      rcases hno with hp | ⟨k, g, o', cs, t, a, hp, hk, ha, ha0, ha1, ha2⟩
      · rw [hp] at hcell
        have hcell := pw_cell HBr.out hcell
        clear hp
        go_wp2_with fail
        go_roundw
        case rel => exact ⟨q + 1, by omega, by go_num, HSr, HBr⟩
        case measure => simp [intOf]; omega
      · rw [hp] at hcell
        have hcell := pw_cell HBr.out hcell
        have HK := Lib.hid hk
        have HA := Lib.hid ha
        clear hp hk ha
        go_wp2_with fail
        refine (put_no g o' cs t a r _ (HSr.out.at_ k HK.out) HA.out ha0 ha1 (by omega) (by omega) (by omega)).mono ?_
        rintro e w2 ⟨rfl, hb⟩
        have HSr2 := Lib.hid (HSr.out.below hb)
        have HBr2 := Lib.hid (bel_then HBr.out hb HBr.out.size)
        clear hb hcell
        go_wp2_with fail
        go_roundw
        case rel => exact ⟨q + 1, by omega, by go_num, HSr2, HBr2⟩
        case measure => simp [intOf]; omega
    · have hqe : m = q := by omega
      subst hqe
      have hcell := HC1.out m hlt
      rw [HP.out] at hcell
      have hcell := pw_cell HBr.out hcell
      go_wp2_with fail
      refine (put_yes gm om cm tm im r _ (HSr.out.at_ km HKM.out) HIM.out hi0 hr0 hi1).mono ?_
      rintro e w2 ⟨rfl, hb, hB⟩
      have HSr2 := Lib.hid (HSr.out.upd km HKM.out hb hB)
      clear hb hB hcell
      go_wp2_with fail
      go_ret
      exact ⟨rfl, HSr2.out⟩

set_option maxHeartbeats 1000000 in
set_option maxRecDepth 100000 in
/-- What none takes stays. -/
theorem move_none (r i j n : Int) (kf o : Nat) (hS : Sts w0 L W) (hf : L[kf]? = some (gf, cf, tf)) (hi : cf[o]? = some (.int .i64 i)) (hj : cf[o + 1]? = some (.int .i64 j)) (h0 : 0 ≤ j) (h1 : j ≤ i) (h2 : i ≤ 1152921504606846976) (hn : -9223372036854775808 ≤ n) (hn1 : n ≤ 9223372036854775807) (hr : r = takes i j n)
    (tos : List (Option Addr)) (A : Option Addr) (bs cap : Nat) (hl : tos.length ≤ 1000) (hbs : bs ≠ gf) (hA : A = some ⟨bs, 0, none⟩ ∨ tos.length = 0) (hcell : ∀ q : Nat, q < tos.length → W.cell? ⟨bs, q, none⟩ = some (.pointer (tos.getD q none)))
    (hno : ∀ q : Nat, q < tos.length → Refuses (L.set kf (gf, cf.setIfInBounds (o + 1) (.int .i64 (j + r)), tf)) r (tos.getD q none)) :
    Calls Try.prog 27 #[.int .i64 n, .pointer (some ⟨gf, o, none⟩), .slice A tos.length cap] W (Goes (.int .i64 0) w0 (L.set kf (gf, (cf.setIfInBounds (o + 1) (.int .i64 (j + r))).setIfInBounds (o + 1) (.int .i64 j), tf))) := by
  have htb := takes_bd i j n h1
  rw [← hr] at htb
  obtain ⟨hr0, hr1⟩ := htb
  have HS := Lib.hid hS
  have HF := Lib.hid hf
  have HI := Lib.hid hi
  have HJ := Lib.hid hj
  have HR := Lib.hid hr
  have HC := Lib.hid hcell
  have HN := Lib.hid hno
  have HNE := Lib.hid hbs
  have HA := Lib.hid hA
  clear hS hf hi hj hr hcell hno hbs hA
  go_enter Try.func27, Try.ntmps27
  go_wp2_with fail
  refine (take_as r gf o cf tf i j n W (HS.out.at_ kf HF.out) HI.out HJ.out h0 h1 h2 hn hn1 HR.out).mono ?_
  rintro e w1 ⟨rfl, hb, hB⟩
  have hs := HS.out.upd kf HF.out hb hB
  have hcell : ∀ q : Nat, q < tos.length → w1.cell? ⟨bs, q, none⟩ = some (.pointer (tos.getD q none)) := by
    intro q hq
    have h3 := HC.out q hq
    have h4 := World.block_lt_of_cell? W _ h3
    rw [World.cell?_of_block (w := W) (w' := w1) (hB.block bs h4 HNE.out)]; exact h3
  have hset : (L.set kf (gf, cf.setIfInBounds (o + 1) (.int .i64 (j + r)), tf))[kf]? = some (gf, cf.setIfInBounds (o + 1) (.int .i64 (j + r)), tf) := List.getElem?_set_self (List.getElem?_eq_some_iff.1 HF.out).1
  have hend : ∀ u, (L.set kf (gf, cf.setIfInBounds (o + 1) (.int .i64 (j + r)), tf)).set kf u = L.set kf u := fun u => List.set_set ..
  have ho : o + 1 < cf.size := (Array.getElem?_eq_some_iff.1 HJ.out).1
  have HEND := Lib.hid hend
  have HSET := Lib.hid hset
  clear hend hset
  have hcf : (cf.setIfInBounds (o + 1) (.int .i64 (j + r)))[o + 1]? = some (.int .i64 (j + r)) := by rw [Array.getElem?_setIfInBounds_self, if_pos ho]
  have HCF := Lib.hid hcf
  clear hcf ho
  generalize hL1 : L.set kf (gf, cf.setIfInBounds (o + 1) (.int .i64 (j + r)), tf) = L1 at *
  have HS1 := Lib.hid hs
  have HC1 := Lib.hid hcell
  clear hs hcell hb hB hL1
  go_wp2_with fail
  go_loopw [16] (fun v wr => ∃ q : Nat, q ≤ tos.length ∧ v = .int .i64 q ∧ Hid (Sts w0 L1 wr) ∧ Hid (Below w1.heap.size w1 wr)) (fun v _ => tos.length + 1 - (intOf v).toNat)
  case atStart => exact ⟨0, Nat.zero_le _, rfl, HS1, Below.refl _ _⟩
  case round =>
    obtain ⟨q, hq, rfl, HSr, HBr⟩ := hrel
    by_cases hqm : q < tos.length
    · have hno := HN.out q hqm
      have hcell := (HC1.out q hqm)
      have hA : A = some ⟨bs, 0, none⟩ := by rcases HA.out with h | h; exact h; omega
      subst hA
      rcases hno with hp | ⟨k, g, o', cs, t, a, hp, hk, ha, ha0, ha1, ha2⟩
      · rw [hp] at hcell
        have hcell := pw_cell HBr.out hcell
        clear hp
        go_wp2_with fail
        go_roundw
        case rel => exact ⟨q + 1, by omega, by go_num, HSr, HBr⟩
        case measure => simp [intOf]; omega
      · rw [hp] at hcell
        have hcell := pw_cell HBr.out hcell
        have HK := Lib.hid hk
        have HA2 := Lib.hid ha
        clear hp hk ha
        go_wp2_with fail
        refine (put_no g o' cs t a r _ (HSr.out.at_ k HK.out) HA2.out ha0 ha1 (by omega) (by omega) (by omega)).mono ?_
        rintro e w2 ⟨rfl, hb⟩
        have HSr2 := Lib.hid (HSr.out.below hb)
        have HBr2 := Lib.hid (bel_then HBr.out hb HBr.out.size)
        clear hb hcell
        go_wp2_with fail
        go_roundw
        case rel => exact ⟨q + 1, by omega, by go_num, HSr2, HBr2⟩
        case measure => simp [intOf]; omega
    · have hc : wr.cell? ⟨gf, o + 1, none⟩ = some (.int .i64 (j + r)) := HSr.out.cell kf (o + 1) HSET.out HCF.out
      have hf2 := HSr.out.frozen kf (o + 1) HSET.out
      have hsub : j + r - r = j := by omega
      have HSU := Lib.hid hsub
      clear hsub
      go_wp2_with fail
      go_ret
      refine ⟨rfl, ?_⟩
      have := HSr.out.set kf (o + 1) (.int .i64 (j + r - r)) HSET.out
      rw [HEND.out, HSU.out] at this
      exact this
end
end Go.Proofs.Yticddmmbphoioaa

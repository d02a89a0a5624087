import Derived.Test.YtefidbfhcpcgjaaRoomy
namespace Go.Proofs.Ytefidbfhcpcgjaa
open Go.RowKit
set_option linter.unusedVariables false
set_option linter.unusedSimpArgs false
def xb (a b : Int) : Int := ((a.toNat ^^^ b.toNat : Nat) : Int)
theorem u8_xor (a b : Int) (h1 : 0 ≤ a) (h2 : a ≤ 255) (h3 : 0 ≤ b) (h4 : b ≤ 255) : bits .xor .u8 a b = xb a b := by
  obtain ⟨a, rfl⟩ := Int.eq_ofNat_of_zero_le h1
  obtain ⟨b, rfl⟩ := Int.eq_ofNat_of_zero_le h3
  have ha : a < 2 ^ 8 := by omega
  have hb : b < 2 ^ 8 := by omega
  have hx : a ^^^ b < 2 ^ 8 := Nat.xor_lt_two_pow ha hb
  have e1 : a % 2 ^ IntKind.u8.bits = a := Nat.mod_eq_of_lt (show a < 2 ^ 8 from ha)
  have e2 : b % 2 ^ IntKind.u8.bits = b := Nat.mod_eq_of_lt (show b < 2 ^ 8 from hb)
  simp only [bits, BitVec.ofInt_natCast, BitVec.toNat_xor, BitVec.toNat_ofNat, e1, e2]
  rw [wraps_u8 _ (by omega) (by omega)]
  simp [xb]
theorem xb_bd {a b : Int} (h1 : 0 ≤ a) (h2 : a ≤ 255) (h3 : 0 ≤ b) (h4 : b ≤ 255) : 0 ≤ xb a b ∧ xb a b ≤ 255 := by
  have hx : a.toNat ^^^ b.toNat < 2 ^ 8 := Nat.xor_lt_two_pow (by omega) (by omega)
  unfold xb; omega
theorem xb_zero {a : Int} (h1 : 0 ≤ a) : xb a 0 = a := by unfold xb; simp; omega
theorem xb_twice {a b : Int} (h1 : 0 ≤ a) : xb (xb a b) b = a := by
  unfold xb
  rw [Int.toNat_natCast, Nat.xor_assoc, Nat.xor_self, Nat.xor_zero]; omega
theorem xb_ne {a b : Int} (h1 : 0 ≤ a) (h3 : 0 ≤ b) (hb : b ≠ 0) : xb a b ≠ a := by
  intro h
  have h2 : xb (xb a b) a = xb a a := congrArg (fun z => xb z a) h
  have e1 : xb (xb a b) a = b := by
    unfold xb; rw [Int.toNat_natCast, Nat.xor_comm a.toNat, Nat.xor_assoc, Nat.xor_self, Nat.xor_zero]; omega
  have e2 : xb a a = 0 := by unfold xb; rw [Nat.xor_self]; rfl
  rw [e1, e2] at h2
  exact hb h2
section
variable {w0 W : World} {L : List Ent} {R : List Ent} {e : TypeId} {n cap g i : Nat} {a : Option Addr} {xs : List Value} {cur : Array Value} {v : Value}
theorem Row.form (h : Row R e 1 a n cap xs) (hn : 0 < n) : ∃ g cur, a = some ⟨g, 0, none⟩ ∧ R = [(g, cur, e)] := by
  obtain ⟨_, h2, _, h4⟩ := h
  rcases h4 with ⟨_, hc⟩ | ⟨g, cur, ha, hR, _⟩
  · omega
  · exact ⟨g, cur, ha, hR⟩
theorem Row.own1 (h : Row [(g, cur, e)] e 1 (some ⟨g, 0, none⟩) n cap xs) (hi : i < n) : cur[i]? = xs[i]? ∧ i < cur.size := by
  obtain ⟨h1, h2, _, h4⟩ := h
  rcases h4 with ⟨hR, _⟩ | ⟨g', cur', _, hR, h5, h6⟩
  · simp at hR
  · simp at hR
    obtain ⟨rfl, rfl⟩ := hR
    refine ⟨?_, by omega⟩
    rw [← h6, List.getElem?_take, if_pos (by omega), Array.getElem?_toList]
theorem Row.cell1 (h : Row [(g, cur, e)] e 1 (some ⟨g, 0, none⟩) n cap xs) (hS : Sts w0 L W) (hm : (g, cur, e) ∈ L) (hi : i < n) (hv : xs[i]? = some v) : W.cell? ⟨g, i, none⟩ = some v ∧ W.frozen? ⟨g, i, none⟩ = false := by
  have hb := ((sts_iff.1 hS).1 _ hm).1
  exact ⟨(hb.cell i).trans ((h.own1 hi).1.trans hv), hb.frozen i⟩
theorem Row.put1 (h : Row [(g, cur, e)] e 1 (some ⟨g, 0, none⟩) n cap xs) (i : Nat) (v : Value) : Row [(g, cur.setIfInBounds i v, e)] e 1 (some ⟨g, 0, none⟩) n cap (xs.set i v) := by
  obtain ⟨h1, h2, h3, h4⟩ := h
  rcases h4 with ⟨hR, _⟩ | ⟨g', cur', _, hR, h5, h6⟩
  · simp at hR
  · simp at hR
    obtain ⟨rfl, rfl⟩ := hR
    refine ⟨by simpa using h1, h2, h3, .inr ⟨g, _, rfl, rfl, by simpa using h5, ?_⟩⟩
    rw [← h6, Array.toList_setIfInBounds, List.take_set]
end
theorem bs_set (l : List Int) (i : Nat) (v : Int) : (bs l).set i (.int .u8 v) = bs (l.set i v) := by unfold bs; rw [List.map_set]
theorem set_getD (l : List Int) {i : Nat} (h : i < l.length) : l.set i (l.getD i 0) = l := by rw [List.getD_eq_getElem?_getD, List.getElem?_eq_getElem h]; simp
theorem getD_set (l : List Int) {i : Nat} (v : Int) (h : i < l.length) : (l.set i v).getD i 0 = v := by simp [List.getD_eq_getElem?_getD, h]
theorem bs_get (l : List Int) {i : Nat} (h : i < l.length) : (bs l)[i]? = some (.int .u8 (l.getD i 0)) := by
  rw [bs, List.getElem?_map, List.getElem?_eq_getElem h, List.getD_eq_getElem?_getD, List.getElem?_eq_getElem h]; rfl
end Go.Proofs.Ytefidbfhcpcgjaa

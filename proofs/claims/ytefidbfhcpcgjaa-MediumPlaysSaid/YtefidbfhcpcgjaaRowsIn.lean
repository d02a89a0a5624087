import Derived.Test.YtefidbfhcpcgjaaSealNo
import Derived.Test.YtefidbfhcpcgjaaFramesPure
import Derived.Deep.Matrix
namespace Go.Proofs.Ytefidbfhcpcgjaa
open Go.RowKit
set_option linter.unusedVariables false
set_option linter.unusedSimpArgs false
/-- Rows of bytes that came in. -/
structure RowsIn (W : World) (A : Option Addr) (n c : Nat) (ps : List Prt) : Prop where
  src : Src W A n 1 (ps.map Prt.v)
  each : ∀ p ∈ ps, BytesIn W p.a p.n p.cap p.l
  le : n ≤ c
  cap : c ≤ 9223372036854775807
theorem RowsIn.nil (W : World) : RowsIn W none 0 0 [] := ⟨Src.nil W 1, by simp, by omega, by omega⟩
theorem BytesIn.below {W W' : World} {A : Option Addr} {n c : Nat} {l : List Int} (h : BytesIn W A n c l) (hb : Below W.heap.size W W') : BytesIn W' A n c l := ⟨h.src.below hb, h.byt, h.le, h.cap⟩
theorem RowsIn.mk_ {W : World} (a : Addr) {len cap : Nat} {A : Nat → Option Addr} {L C : Nat → Nat} {Z : Nat → List Int} (hl : len ≤ cap) (hm : cap ≤ maxLen)
    (h : ∀ r, r < cap → W.cell? (a.add r) = some (.slice (A r) (L r) (C r)) ∧ L r ≤ C r ∧ C r ≤ maxLen ∧ (Z r).length = C r ∧ (∀ n ∈ Z r, (Lit.int .u8 n).wf = true) ∧ (A r = none → C r = 0) ∧
        ∀ a', A r = some a' → 0 ≤ a'.block ∧ ∀ c, c < C r → W.cell? (a'.add c) = some (.int .u8 ((Z r).getD c 0))) : ∃ ps, RowsIn W (some a) len cap ps := by
  refine ⟨(List.range len).map fun r => ⟨A r, L r, C r, (Z r).take (L r)⟩, ⟨by simp, fun _ => ⟨a, rfl, fun j u hu => ?_⟩⟩, fun p hp => ?_, hl, by unfold maxLen at hm; omega⟩
  · rw [List.getElem?_map, List.getElem?_map] at hu
    by_cases hj : j < len
    · rw [List.getElem?_range hj] at hu
      rw [(h j (by omega)).1, ← hu]; rfl
    · rw [List.getElem?_eq_none (by simpa using hj)] at hu; cases hu
  · obtain ⟨r, hr, rfl⟩ := List.mem_map.1 hp
    rw [List.mem_range] at hr
    obtain ⟨h1, h2, h3, h4, h5, h6, h7⟩ := h r (by omega)
    cases hA : A r with
    | none =>
      have hc := h6 hA
      have hL : L r = 0 := by omega
      simp only [hL, hc, List.take_zero]
      exact BytesIn.nil W
    | some a' => exact BytesIn.mk_ a' h2 h4 (by unfold maxLen at h3; omega) (fun i hi => (h7 a' hA).2 i (by omega)) h5
def Prt.cut (p : Prt) (k : Nat) : Prt := ⟨p.a, min p.n k, p.cap, p.l.take (min p.n k)⟩
theorem rows_info : (Try.prog.info? 23).map (fun i => (i.zero, i.size, i.bytes)) = some (some (.slice none 0 0), 1, 24) := by kernel_rfl
theorem map_next {α : Type} (f : Prt → α) {qs : List Prt} {i : Nat} {q : Prt} (h : qs[i]? = some q) : (qs.take (i + 1)).map f = (qs.take i).map f ++ [f q] := by
  obtain ⟨h1, h2⟩ := List.getElem?_eq_some_iff.1 h
  rw [List.take_succ_eq_append_getElem h1, List.map_append, h2]; rfl
theorem prt_one (l : List Prt) : ∀ u ∈ l.map Prt.v, u.oneCell' = true := by
  intro u hu
  obtain ⟨p, _, rfl⟩ := List.mem_map.1 hu
  rfl
end Go.Proofs.Ytefidbfhcpcgjaa

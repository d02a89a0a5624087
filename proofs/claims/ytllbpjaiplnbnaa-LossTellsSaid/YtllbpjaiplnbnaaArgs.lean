import Derived.Test.YtllbpjaiplnbnaaMem
import Derived.Deep.SlicePairs
import Derived.Deep.Slices
import Derived.Deep.Fields
import Derived.ChangeArms
import Derived.Lib.SmallJoins
namespace Go.Proofs.Ytllbpjaiplnbnaa
open Go.RowKit Go.Deep Go.ChangeShapes Go.WideShapes Go.Joins
set_option linter.unusedVariables false
set_option linter.unusedSimpArgs false

theorem add_next (ad : Addr) (m j : Nat) (hj : 0 < j) : ad.add (m + j) = ⟨(ad.add m).block, (ad.add m).off + j, none⟩ := by
  unfold Addr.add
  split <;> split <;> simp_all <;> omega

section
variable {H : Type} {enc : TypeId × Value → H} {P : Program} {w : World} {base : Nat} {spare : Nat → Bool} {held : Bool}
theorem pairs_of {t e : TypeId} {f0 f1 : Field} {fuel : Nat} {cs : List Value} {x : DataW H × List MemPlace} (ht : P.underlying t = some (.slice e)) (he : P.underlying e = some (.struct #[f0, f1]))
    (ce : P.cellsOf e = 2) (o0 : f0.offset = 0) (o1 : f1.offset = 1) (c0 : P.cellsOf f0.type = 1) (c1 : P.cellsOf f1.type = 1) (h0 : P.underlying f0.type = some (.int .i64)) (h1 : P.underlying f1.type = some (.int .i64))
    (h : DataW.trod enc P w base spare held fuel t cs = some x) : ∃ a len cap zs, cs = [.slice a len cap] ∧ Pairs w a len zs := by
  rcases open_slice_pairs ht he ce o0 o1 c0 c1 h with ⟨rfl, _⟩ | ⟨a, len, cap, m, n, V0, V1, D0, D1, P0, P1, rfl, _, hl, hm, hmm, _, hx⟩
  · exact ⟨none, 0, 0, [], rfl, Pairs.nil w⟩
  · have hlm : len ≤ m := by rw [hmm]; split <;> omega
    have each : ∀ i, i < m → ∃ z : Int × Int, V0 i = .int .i64 z.1 ∧ V1 i = .int .i64 z.2 ∧ (-9223372036854775808 ≤ z.1 ∧ z.1 ≤ 9223372036854775807) ∧ -9223372036854775808 ≤ z.2 ∧ z.2 ≤ 9223372036854775807 := by
      intro i hi
      obtain ⟨_, _, g0, g1⟩ := hx i hi
      obtain ⟨a0, q0, _, w0⟩ := DataW.trod_int h0 g0
      obtain ⟨a1, q1, _, w1⟩ := DataW.trod_int h1 g1
      exact ⟨(a0, a1), by simpa using q0, by simpa using q1, wf_bounds w0, wf_bounds w1⟩
    obtain ⟨z, hz⟩ := choose_lt each
    refine ⟨some a, len, cap, (List.range len).map z, rfl, by simp, by unfold maxLen at hm; omega, fun i hi => ⟨a, rfl, ?_, ?_⟩, fun y hy => ?_⟩
    · rw [(hx i (by omega)).1, (hz i (by omega)).1]; simp [hi]
    · rw [← add_next a (i * 2) 1 (by omega), (hx i (by omega)).2.1, (hz i (by omega)).2.1]; simp [hi]
    · obtain ⟨i, hi, rfl⟩ := List.mem_map.1 hy
      exact (hz i (by have := List.mem_range.1 hi; omega)).2.2
theorem agg3_of {r : Reach} {b0 : Nat} {t : TypeId} {f0 f1 f2 : Field} {v : Value} {d : DataW H} {p : List MemPlace} (hs : P.underlying t = some (.struct #[f0, f1, f2])) (hone : oneCellFields P #[f0, f1, f2] = true) (hC : P.cellsOf t = 3)
    (h0 : P.underlying f0.type = some (.int .i64)) (h1 : P.underlying f1.type = some (.int .i64)) (h2 : P.underlying f2.type = some (.int .i64)) (hv : Value.okWide P w r b0 t v) (h : DataW.Trod enc P w base spare held t v d p) :
    ∃ a b c : Int, v = .agg #[.int .i64 a, .int .i64 b, .int .i64 c] ∧ (-9223372036854775808 ≤ a ∧ a ≤ 9223372036854775807) ∧ (-9223372036854775808 ≤ b ∧ b ≤ 9223372036854775807) ∧ -9223372036854775808 ≤ c ∧ c ≤ 9223372036854775807 := by
  obtain ⟨v0, v1, v2, y0, y1, y2, n, rfl, _, _, g0, g1, g2⟩ := Joins.open_agg3 hs hone hC hv h
  obtain ⟨a0, q0, _, w0⟩ := DataW.trod_int h0 g0
  obtain ⟨a1, q1, _, w1⟩ := DataW.trod_int h1 g1
  obtain ⟨a2, q2, _, w2⟩ := DataW.trod_int h2 g2
  simp only [List.cons.injEq, and_true] at q0 q1 q2
  subst q0 q1 q2
  exact ⟨a0, a1, a2, rfl, wf_bounds w0, wf_bounds w1, wf_bounds w2⟩
end
/-- A list of elements of k whole numbers each. -/
structure Grid (w : World) (a : Option Addr) (len k : Nat) (f : Nat → Nat → Int) : Prop where
  most : len ≤ 9223372036854775807
  at_ : ∀ i, i < len → ∃ ad : Addr, a = some ad ∧ ∀ j, j < k → w.cell? (ad.add (i * k + j)) = some (.int .i64 (f i j)) ∧ -9223372036854775808 ≤ f i j ∧ f i j ≤ 9223372036854775807
theorem Grid.nil (w : World) (k : Nat) (f : Nat → Nat → Int) : Grid w none 0 k f := ⟨by omega, fun i h => by omega⟩
section
variable {H : Type} {enc : TypeId × Value → H} {P : Program} {w : World} {base : Nat} {spare : Nat → Bool} {held : Bool}
theorem grid_of {t e : TypeId} {fs : Array Field} {fuel : Nat} {cs : List Value} {x : DataW H × List MemPlace} (ht : P.underlying t = some (.slice e)) (he : P.underlying e = some (.struct fs))
    (hone : oneCellFields P fs = true) (hC : P.cellsOf e = fs.size) (hk : ∀ (j : Nat) (f : Field), fs[j]? = some f → P.underlying f.type = some (.int .i64)) (h : DataW.trod enc P w base spare held fuel t cs = some x) :
    ∃ a len cap f, cs = [.slice a len cap] ∧ Grid w a len fs.size f := by
  rcases open_slice ht h with ⟨rfl, _⟩ | ⟨a, len, cap, m, n, D, Pl, rfl, hb, hl, hm, hmm, hx, hi⟩
  · exact ⟨none, 0, 0, fun _ _ => 0, rfl, Grid.nil _ _ _⟩
  · have hlm : len ≤ m := by rw [hmm]; split <;> omega
    refine ⟨some a, len, cap, fun i j => match w.cell? (a.add (i * fs.size + j)) with | some (.int _ z) => z | _ => 0, rfl, by unfold maxLen at hm; omega, fun i hil => ⟨a, rfl, fun j hj => ?_⟩⟩
    obtain ⟨cs', hc, ht'⟩ := hi i (by omega)
    rw [hC] at hc
    obtain ⟨ys, n', hn', hy, hlen, hyl, hf⟩ := DataW.trod_struct he ht'
    obtain ⟨_, hcl, hat⟩ := World.cells?_some hc
    have hfj : fs[j]? = some (fs[j]'hj) := Array.getElem?_eq_getElem hj
    obtain ⟨ho, hkk⟩ := hone_of hone j _ hfj
    have h1 := hf j _ hfj
    rw [ho, hkk] at h1
    have hv : cs'[j]? = some (cs'[j]'(by omega)) := List.getElem?_eq_getElem (by omega)
    have h2 : (cs'.drop j).take 1 = [cs'[j]'(by omega)] := by
      rw [List.drop_eq_getElem_cons (by omega)]
      rfl
    rw [h2] at h1
    have hys : ys[j]? = some (ys[j]'(by omega)) := List.getElem?_eq_getElem (by omega)
    rw [hys] at h1
    obtain ⟨z, q0, _, w0⟩ := DataW.trod_int (hk j _ hfj) h1
    have hcell : w.cell? (a.add (i * fs.size + j)) = some (.int .i64 z) := by
      rw [← Go.Deep.add_add, hat j hj, hv]
      simpa using q0
    simp only [hcell]
    exact ⟨trivial, wf_bounds w0⟩
end
end Go.Proofs.Ytllbpjaiplnbnaa

import Derived.Test.YtefidbfhcpcgjaaRowsIn
import Derived.Deep.SlicePairs
import Derived.Deep.Slices
import Derived.Deep.Fields
import Derived.ChangeArms
import Derived.Lib.SmallJoins
namespace Go.Proofs.Ytefidbfhcpcgjaa
open Go.RowKit Go.Deep Go.ChangeShapes Go.WideShapes Go.Joins
set_option linter.unusedVariables false
set_option linter.unusedSimpArgs false
/-- A call that is asked for: its kind, its number, its bytes. -/
structure Ask where
  k : Int
  n : Int
  p : Prt
instance : Inhabited Ask := ⟨⟨0, 0, ⟨none, 0, 0, []⟩⟩⟩
structure AskIn (W : World) (ad : Addr) (i : Nat) (q : Ask) : Prop where
  c0 : W.cell? (ad.add (i * 3)) = some (.int .i64 q.k)
  c1 : W.cell? (ad.add (i * 3 + 1)) = some (.int .i64 q.n)
  c2 : W.cell? (ad.add (i * 3 + 2)) = some (.slice q.p.a q.p.n q.p.cap)
  b : BytesIn W q.p.a q.p.n q.p.cap q.p.l
  k0 : -9223372036854775808 ≤ q.k
  k1 : q.k ≤ 9223372036854775807
  n0 : -9223372036854775808 ≤ q.n
  n1 : q.n ≤ 9223372036854775807
structure AsksIn (W : World) (a : Option Addr) (len : Nat) (f : Nat → Ask) : Prop where
  most : len ≤ 9223372036854775807
  at_ : ∀ i, i < len → ∃ ad : Addr, a = some ad ∧ AskIn W ad i (f i)
theorem add_next (ad : Addr) (m j : Nat) (hj : 0 < j) : ad.add (m + j) = ⟨(ad.add m).block, (ad.add m).off + j, none⟩ := by
  unfold Addr.add
  split <;> split <;> simp_all <;> omega
theorem AskIn.at1 {W : World} {ad : Addr} {i : Nat} {q : Ask} (h : AskIn W ad i q) : W.cell? ⟨(ad.add (i * 3)).block, (ad.add (i * 3)).off + 1, none⟩ = some (.int .i64 q.n) := by
  rw [← add_next ad (i * 3) 1 (by omega)]; exact h.c1
theorem AskIn.at2 {W : World} {ad : Addr} {i : Nat} {q : Ask} (h : AskIn W ad i q) : W.cell? ⟨(ad.add (i * 3)).block, (ad.add (i * 3)).off + 2, none⟩ = some (.slice q.p.a q.p.n q.p.cap) := by
  rw [← add_next ad (i * 3) 2 (by omega)]; exact h.c2
theorem AsksIn.nil (W : World) (f : Nat → Ask) : AsksIn W none 0 f := ⟨by omega, fun i h => by omega⟩
section
variable {H : Type} {enc : TypeId × Value → H} {P : Program} {w : World} {base : Nat} {spare : Nat → Bool} {held : Bool}
theorem asks_of {t e u : TypeId} {f0 f1 f2 : Field} {fuel : Nat} {cs : List Value} {x : DataW H × List MemPlace} (ht : P.underlying t = some (.slice e)) (he : P.underlying e = some (.struct #[f0, f1, f2]))
    (hone : oneCellFields P #[f0, f1, f2] = true) (hC : P.cellsOf e = 3) (h0 : P.underlying f0.type = some (.int .i64)) (h1 : P.underlying f1.type = some (.int .i64)) (h2 : P.underlying f2.type = some (.slice u)) (hu : P.underlying u = some (.int .u8)) (cu : P.cellsOf u = 1)
    (h : DataW.trod enc P w base (fun _ => true) held fuel t cs = some x) :
    ∃ a len cap f, cs = [.slice a len cap] ∧ AsksIn w a len f := by
  rcases open_slice ht h with ⟨rfl, _⟩ | ⟨a, len, cap, m, n, D, Pl, rfl, hb, hl, hm, hmm, hx, hi⟩
  · exact ⟨none, 0, 0, fun _ => ⟨0, 0, ⟨none, 0, 0, []⟩⟩, rfl, AsksIn.nil _ _⟩
  · have hlm : len ≤ m := by rw [hmm]; split <;> omega
    have each : ∀ i, i < len → ∃ q : Ask, AskIn w a i q := by
      intro i hil
      obtain ⟨cs', hc, ht'⟩ := hi i (by omega)
      rw [hC] at hc
      obtain ⟨ys, n', hn', hy, hlen, hyl, hf⟩ := DataW.trod_struct he ht'
      obtain ⟨_, hcl, hat⟩ := World.cells?_some hc
      have get : ∀ (j : Nat) (f : Field), (#[f0, f1, f2] : Array Field)[j]? = some f → ∃ v, w.cell? (a.add (i * 3 + j)) = some v ∧ ∃ y, DataW.trod enc P w base (fun _ => true) held n' f.type [v] = some y := by
        intro j f hfj
        have hj : j < 3 := (Array.getElem?_eq_some_iff.1 hfj).1
        obtain ⟨ho, hkk⟩ := hone_of hone j _ hfj
        have g1 := hf j _ hfj
        rw [ho, hkk] at g1
        have hv : cs'[j]? = some (cs'[j]'(by omega)) := List.getElem?_eq_getElem (by omega)
        have g2 : (cs'.drop j).take 1 = [cs'[j]'(by omega)] := by
          rw [List.drop_eq_getElem_cons (by omega)]
          rfl
        rw [g2] at g1
        have hys : ys[j]? = some (ys[j]'(by rw [hyl]; exact hj)) := List.getElem?_eq_getElem (by rw [hyl]; exact hj)
        rw [hys] at g1
        exact ⟨_, by rw [← Go.Deep.add_add, hat j hj, hv], _, g1⟩
      obtain ⟨v0, e0, y0, g0⟩ := get 0 f0 rfl
      obtain ⟨v1, e1, y1, g1⟩ := get 1 f1 rfl
      obtain ⟨v2, e2, y2, g2⟩ := get 2 f2 rfl
      obtain ⟨z0, q0, _, w0⟩ := DataW.trod_int h0 g0
      obtain ⟨z1, q1, _, w1⟩ := DataW.trod_int h1 g1
      obtain rfl : v0 = .int .i64 z0 := by simpa using q0
      obtain rfl : v1 = .int .i64 z1 := by simpa using q1
      obtain ⟨b0, b1⟩ := wf_bounds w0
      obtain ⟨b2, b3⟩ := wf_bounds w1
      rcases open_ints h2 hu cu g2 with ⟨hcs, _⟩ | ⟨y, l, c, zs, hcs, _, hl', hm', hz, _, hcell, hwz⟩
      · obtain rfl : v2 = .slice none 0 0 := by simpa using hcs
        exact ⟨⟨z0, z1, ⟨none, 0, 0, []⟩⟩, e0, e1, e2, BytesIn.nil _, b0, b1, b2, b3⟩
      · obtain rfl : v2 = .slice (some y) l c := by simpa using hcs
        exact ⟨⟨z0, z1, ⟨some y, l, c, zs.take l⟩⟩, e0, e1, e2, BytesIn.mk_ _ hl' (by simpa using hz) (by unfold maxLen at hm'; omega) hcell hwz, b0, b1, b2, b3⟩
    obtain ⟨f, hfn⟩ := choose_lt each
    exact ⟨some a, len, cap, f, rfl, by unfold maxLen at hm; omega, fun i hi => ⟨a, rfl, hfn i hi⟩⟩
end
end Go.Proofs.Ytefidbfhcpcgjaa

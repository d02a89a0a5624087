import Derived.Test.YticddmmbphoioaaModeI
import Derived.Deep.Slices
import Derived.Deep.Fields
import Derived.ChangeArms
import Derived.Lib.SmallJoins
import Derived.OpenShut
namespace Go.Proofs.Yticddmmbphoioaa
open Go.RowKit Go.Deep Go.ChangeShapes Go.WideShapes Go.Joins
set_option linter.unusedVariables false
set_option linter.unusedSimpArgs false
/-! ### Numbers of a deal that come in by value -/
section
variable {H : Type} {enc : TypeId × Value → H} {w : World} {base : Nat} {held : Bool}
theorem int_of {fuel : Nat} {v : Value} {y : DataW H × List MemPlace} (h : DataW.trod enc Try.prog w base (fun _ => true) held fuel 3 [v] = some y) : ∃ z : Int, v = .int .i64 z := by
  obtain ⟨z, q, _, _⟩ := DataW.trod_int Try.underlying3 h
  exact ⟨z, by simpa using q⟩
theorem li_of {fuel : Nat} {v : Value} {y : DataW H × List MemPlace} (h : DataW.trod enc Try.prog w base (fun _ => true) held fuel 28 [v] = some y) : ∃ p : Li, v = p.v ∧ p.In w := by
  rcases open_ints Try.underlying28 Try.underlying3 (by kernel_rfl) h with ⟨hcs, _⟩ | ⟨x, l, c, zs, hcs, _, hl, hm, hz, _, hcell, hwz⟩
  · obtain rfl : v = .slice none 0 0 := by simpa using hcs
    exact ⟨⟨none, 0, 0, []⟩, rfl, Ints.nil w⟩
  · obtain rfl : v = .slice (some x) l c := by simpa using hcs
    exact ⟨⟨some x, l, c, zs.take l⟩, rfl, Ints.mk_ _ hl (by simpa using hz) (by unfold maxLen at hm; omega) hcell hwz⟩
set_option maxRecDepth 100000 in
set_option maxHeartbeats 2000000 in
theorem kd_of {r : Reach} {b0 : Nat} {v : Value} {d : DataW H} {p : List MemPlace} (hv : Value.okWide Try.prog w r b0 44 v) (h : DataW.Trod enc Try.prog w base (fun _ => true) held 44 v d p) :
    ∃ k : Kd, v = .agg k.cs ∧ k.In w := by
  obtain ⟨cs, rfl, hsz⟩ := okWide_struct Try.underlying44 hv
  have h20 : Try.prog.cellsOf 44 = 20 := by kernel_rfl
  have k1 : Try.prog.cellsOf 3 = 1 := by kernel_rfl
  have k2 : Try.prog.cellsOf 28 = 1 := by kernel_rfl
  have k3 : Try.prog.cellsOf 41 = 5 := by kernel_rfl
  have k4 : Try.prog.cellsOf 42 = 3 := by kernel_rfl
  rw [h20] at hsz
  obtain ⟨l⟩ := cs
  match l, hsz with
  | [c0, c1, c2, c3, c4, c5, c6, c7, c8, c9, c10, c11, c12, c13, c14, c15, c16, c17, c18, c19], _ =>
    obtain ⟨fuel, hf⟩ := h
    obtain ⟨xs, n, _, _, hl, hlen, hfld⟩ := DataW.trod_struct Try.underlying44 hf
    have ex : ∀ j, j < 14 → ∃ y, xs[j]? = some y := fun j hj => ⟨_, List.getElem?_eq_getElem (by rw [hlen]; exact hj)⟩
    have g0 := hfld 0 _ rfl; have g1 := hfld 1 _ rfl; have g2 := hfld 2 _ rfl; have g3 := hfld 3 _ rfl; have g4 := hfld 4 _ rfl; have g5 := hfld 5 _ rfl; have g6 := hfld 6 _ rfl; have g7 := hfld 7 _ rfl
    have g8 := hfld 8 _ rfl; have g9 := hfld 9 _ rfl; have g10 := hfld 10 _ rfl; have g11 := hfld 11 _ rfl; have g12 := hfld 12 _ rfl; have g13 := hfld 13 _ rfl
    simp only [List.getElem_toArray, List.getElem_cons_zero, List.getElem_cons_succ, k1, k2, k3, k4, Value.cells, List.drop_succ_cons, List.drop_zero, List.take_succ_cons, List.take_zero] at g0 g1 g2 g3 g4 g5 g6 g7 g8 g9 g10 g11 g12 g13
    obtain ⟨y0, e0⟩ := ex 0 (by omega); obtain ⟨y1, e1⟩ := ex 1 (by omega); obtain ⟨y2, e2⟩ := ex 2 (by omega); obtain ⟨y3, e3⟩ := ex 3 (by omega); obtain ⟨y4, e4⟩ := ex 4 (by omega); obtain ⟨y5, e5⟩ := ex 5 (by omega); obtain ⟨y6, e6⟩ := ex 6 (by omega); obtain ⟨y7, e7⟩ := ex 7 (by omega)
    obtain ⟨y8, e8⟩ := ex 8 (by omega); obtain ⟨y9, e9⟩ := ex 9 (by omega); obtain ⟨y10, e10⟩ := ex 10 (by omega); obtain ⟨y11, e11⟩ := ex 11 (by omega); obtain ⟨y12, e12⟩ := ex 12 (by omega); obtain ⟨y13, e13⟩ := ex 13 (by omega)
    obtain ⟨z0, rfl⟩ := int_of (g0.trans e0); obtain ⟨z1, rfl⟩ := int_of (g1.trans e1); obtain ⟨z2, rfl⟩ := int_of (g2.trans e2); obtain ⟨z3, rfl⟩ := int_of (g3.trans e3); obtain ⟨z4, rfl⟩ := int_of (g4.trans e4); obtain ⟨z5, rfl⟩ := int_of (g5.trans e5); obtain ⟨z6, rfl⟩ := int_of (g6.trans e6); obtain ⟨z7, rfl⟩ := int_of (g7.trans e7)
    obtain ⟨lo, rfl, h9⟩ := li_of (g9.trans e9); obtain ⟨no, rfl, h10⟩ := li_of (g10.trans e10); obtain ⟨ra, rfl, h11⟩ := li_of (g11.trans e11); obtain ⟨ri, rfl, h12⟩ := li_of (g12.trans e12)
    obtain ⟨ts, m, _, _, _, tl, tf⟩ := DataW.trod_array Try.underlying41 (g8.trans e8)
    have te : ∀ j, j < 5 → ∃ y, ts[j]? = some y := fun j hj => ⟨_, List.getElem?_eq_getElem (by rw [tl]; exact hj)⟩
    have t0 := tf 0 (by omega); have t1 := tf 1 (by omega); have t2 := tf 2 (by omega); have t3 := tf 3 (by omega); have t4 := tf 4 (by omega)
    simp only [k1, Nat.mul_one, List.drop_succ_cons, List.drop_zero, List.take_succ_cons, List.take_zero] at t0 t1 t2 t3 t4
    obtain ⟨x0, d0⟩ := te 0 (by omega); obtain ⟨x1, d1⟩ := te 1 (by omega); obtain ⟨x2, d2⟩ := te 2 (by omega); obtain ⟨x3, d3⟩ := te 3 (by omega); obtain ⟨x4, d4⟩ := te 4 (by omega)
    obtain ⟨q0, rfl⟩ := int_of (t0.trans d0); obtain ⟨q1, rfl⟩ := int_of (t1.trans d1); obtain ⟨q2, rfl⟩ := int_of (t2.trans d2); obtain ⟨q3, rfl⟩ := int_of (t3.trans d3); obtain ⟨q4, rfl⟩ := int_of (t4.trans d4)
    obtain ⟨ss, m2, _, _, _, sl, sf⟩ := DataW.trod_array Try.underlying42 (g13.trans e13)
    have se : ∀ j, j < 3 → ∃ y, ss[j]? = some y := fun j hj => ⟨_, List.getElem?_eq_getElem (by rw [sl]; exact hj)⟩
    have s0 := sf 0 (by omega); have s1 := sf 1 (by omega); have s2 := sf 2 (by omega)
    simp only [k2, Nat.mul_one, List.drop_succ_cons, List.drop_zero, List.take_succ_cons, List.take_zero] at s0 s1 s2
    obtain ⟨u0, v0⟩ := se 0 (by omega); obtain ⟨u1, v1⟩ := se 1 (by omega); obtain ⟨u2, v2⟩ := se 2 (by omega)
    obtain ⟨r0, rfl, h0'⟩ := li_of (s0.trans v0); obtain ⟨r1, rfl, h1'⟩ := li_of (s1.trans v1); obtain ⟨r2, rfl, h2'⟩ := li_of (s2.trans v2)
    exact ⟨⟨z0, z1, z2, z3, z4, z5, z6, z7, q0, q1, q2, q3, q4, lo, no, ra, ri, r0, r1, r2⟩, rfl, ⟨h9, h10, h11, h12, h0', h1', h2'⟩⟩
theorem st_of {r : Reach} {b0 : Nat} {v : Value} {d : DataW H} {p : List MemPlace} (hv : Value.okWide Try.prog w r b0 25 v) (h : DataW.Trod enc Try.prog w base (fun _ => true) held 25 v d p) :
    ∃ a b : Int, v = .agg #[.int .i64 a, .int .i64 b] := by
  obtain ⟨v0, v1, y0, y1, n, rfl, _, _, g0, g1⟩ := open_agg2 Try.underlying25 (by kernel_rfl) (by kernel_rfl) hv h
  obtain ⟨a, rfl⟩ := int_of g0
  obtain ⟨b, rfl⟩ := int_of g1
  exact ⟨a, b, rfl⟩
end
end Go.Proofs.Yticddmmbphoioaa

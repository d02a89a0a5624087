import Derived.Test.YtideaimlnipkoaaShRoom
namespace Go.Proofs.Ytideaimlnipkoaa
open Go.RowKit Go.Deep Go.ChangeShapes Go.WideShapes Go.Joins
set_option linter.unusedVariables false
set_option linter.unusedSimpArgs false
structure SAsk where
  a : Option Addr
  n : Nat
  cap : Nat
  es : List (Int × Int)
  f : Int
  t : Int
  x : Int
  mv : Bool
  bl : Bool
instance : Inhabited SAsk := ⟨⟨none, 0, 0, [], 0, 0, 0, false, false⟩⟩
structure SAskIn (W : World) (ad : Addr) (i : Nat) (q : SAsk) : Prop where
  c0 : W.cell? (ad.add (i * 6)) = some (.slice q.a q.n q.cap)
  c1 : W.cell? ⟨(ad.add (i * 6)).block, (ad.add (i * 6)).off + 1, none⟩ = some (.int .i64 q.f)
  c2 : W.cell? ⟨(ad.add (i * 6)).block, (ad.add (i * 6)).off + 2, none⟩ = some (.int .i64 q.t)
  c3 : W.cell? ⟨(ad.add (i * 6)).block, (ad.add (i * 6)).off + 3, none⟩ = some (.int .i64 q.x)
  c4 : W.cell? ⟨(ad.add (i * 6)).block, (ad.add (i * 6)).off + 4, none⟩ = some (.bool q.mv)
  c5 : W.cell? ⟨(ad.add (i * 6)).block, (ad.add (i * 6)).off + 5, none⟩ = some (.bool q.bl)
  ents : Ents W q.a q.n q.es
  le : q.n ≤ q.cap
  cap : q.cap ≤ 9223372036854775807
  bf : Bd q.f
  bt : Bd q.t
  bx : Bd q.x
structure SAsksIn (W : World) (a : Option Addr) (len : Nat) (f : Nat → SAsk) : Prop where
  most : len ≤ 9223372036854775807
  at_ : ∀ i, i < len → ∃ ad : Addr, a = some ad ∧ SAskIn W ad i (f i)
theorem SAsksIn.nil (W : World) (f : Nat → SAsk) : SAsksIn W none 0 f := ⟨by omega, fun i h => by omega⟩
section
variable {H : Type} {enc : TypeId × Value → H} {P : Program} {w : World} {base : Nat} {spare : Nat → Bool} {held : Bool}
theorem pairs_cap {t e : TypeId} {f0 f1 : Field} {fuel : Nat} {cs : List Value} {x : DataW H × List MemPlace} (ht : P.underlying t = some (.slice e)) (he : P.underlying e = some (.struct #[f0, f1]))
    (ce : P.cellsOf e = 2) (o0 : f0.offset = 0) (o1 : f1.offset = 1) (c0 : P.cellsOf f0.type = 1) (c1 : P.cellsOf f1.type = 1) (h0 : P.underlying f0.type = some (.int .i64)) (h1 : P.underlying f1.type = some (.int .i64))
    (h : DataW.trod enc P w base spare held fuel t cs = some x) : ∃ a len cap zs, cs = [.slice a len cap] ∧ len ≤ cap ∧ cap ≤ 9223372036854775807 ∧ Pairs w a len zs := by
  rcases open_slice_pairs ht he ce o0 o1 c0 c1 h with ⟨rfl, _⟩ | ⟨a, len, cap, m, n, V0, V1, D0, D1, P0, P1, rfl, _, hl, hm, hmm, _, hx⟩
  · exact ⟨none, 0, 0, [], rfl, by omega, by omega, Pairs.nil w⟩
  · have hlm : len ≤ m := by rw [hmm]; split <;> omega
    have each : ∀ i, i < m → ∃ z : Int × Int, V0 i = .int .i64 z.1 ∧ V1 i = .int .i64 z.2 ∧ (-9223372036854775808 ≤ z.1 ∧ z.1 ≤ 9223372036854775807) ∧ -9223372036854775808 ≤ z.2 ∧ z.2 ≤ 9223372036854775807 := by
      intro i hi
      obtain ⟨_, _, g0, g1⟩ := hx i hi
      obtain ⟨a0, q0, _, w0⟩ := DataW.trod_int h0 g0
      obtain ⟨a1, q1, _, w1⟩ := DataW.trod_int h1 g1
      exact ⟨(a0, a1), by simpa using q0, by simpa using q1, wf_bounds w0, wf_bounds w1⟩
    obtain ⟨z, hz⟩ := choose_lt each
    refine ⟨some a, len, cap, (List.range len).map z, rfl, hl, by unfold maxLen at hm; omega, by simp, by unfold maxLen at hm; omega, fun i hi => ⟨a, rfl, ?_, ?_⟩, fun y hy => ?_⟩
    · rw [(hx i (by omega)).1, (hz i (by omega)).1]; simp [hi]
    · rw [← add_next a (i * 2) 1 (by omega), (hx i (by omega)).2.1, (hz i (by omega)).2.1]; simp [hi]
    · obtain ⟨i, hi, rfl⟩ := List.mem_map.1 hy
      exact (hz i (by have := List.mem_range.1 hi; omega)).2.2
theorem sasks_of {t e u v : TypeId} {f0 f1 f2 f3 f4 f5 k0 k1 : Field} {fuel : Nat} {cs : List Value} {x : DataW H × List MemPlace} (ht : P.underlying t = some (.slice e)) (he : P.underlying e = some (.struct #[f0, f1, f2, f3, f4, f5]))
    (hone : oneCellFields P #[f0, f1, f2, f3, f4, f5] = true) (hC : P.cellsOf e = 6) (h0 : P.underlying f0.type = some (.slice u)) (h1 : P.underlying f1.type = some (.int .i64)) (h2 : P.underlying f2.type = some (.int .i64)) (h3 : P.underlying f3.type = some (.int .i64)) (h4 : P.underlying f4.type = some .bool) (h5 : P.underlying f5.type = some .bool)
    (hu : P.underlying u = some (.struct #[k0, k1])) (cu : P.cellsOf u = 2) (o0 : k0.offset = 0) (o1 : k1.offset = 1) (c0 : P.cellsOf k0.type = 1) (c1 : P.cellsOf k1.type = 1) (i0 : P.underlying k0.type = some (.int .i64)) (i1 : P.underlying k1.type = some (.int .i64))
    (h : DataW.trod enc P w base (fun _ => true) held fuel t cs = some x) :
    ∃ a len cap f, cs = [.slice a len cap] ∧ SAsksIn w a len f := by
  rcases open_slice ht h with ⟨rfl, _⟩ | ⟨a, len, cap, m, n, D, Pl, rfl, hb, hl, hm, hmm, hx, hi⟩
  · exact ⟨none, 0, 0, fun _ => default, rfl, SAsksIn.nil _ _⟩
  · have hlm : len ≤ m := by rw [hmm]; split <;> omega
    have each : ∀ i, i < len → ∃ q : SAsk, SAskIn w a i q := by
      intro i hil
      obtain ⟨cs', hc, ht'⟩ := hi i (by omega)
      rw [hC] at hc
      obtain ⟨ys, n', hn', hy, hlen, hyl, hf⟩ := DataW.trod_struct he ht'
      obtain ⟨_, hcl, hat⟩ := World.cells?_some hc
      have get : ∀ (j : Nat) (f : Field), (#[f0, f1, f2, f3, f4, f5] : Array Field)[j]? = some f → ∃ v, w.cell? (a.add (i * 6 + j)) = some v ∧ ∃ y, DataW.trod enc P w base (fun _ => true) held n' f.type [v] = some y := by
        intro j f hfj
        have hj : j < 6 := (Array.getElem?_eq_some_iff.1 hfj).1
        obtain ⟨ho, hkk⟩ := hone_of hone j _ hfj
        have g1 := hf j _ hfj
        rw [ho, hkk] at g1
        have hv : cs'[j]? = some (cs'[j]'(by omega)) := List.getElem?_eq_getElem (by omega)
        have g2 : (cs'.drop j).take 1 = [cs'[j]'(by omega)] := by
          rw [List.drop_eq_getElem_cons (by omega)]
          rfl
        rw [g2] at g1
        have hys : ys[j]? = some (ys[j]'(by rw [hyl]; exact hj)) := List.getElem?_eq_getElem (by rw [hyl]; exact hj)
        rw [hys] at g1
        exact ⟨_, by rw [← Go.Deep.add_add, hat j hj, hv], _, g1⟩
      obtain ⟨v0, e0, y0, g0⟩ := get 0 f0 rfl
      obtain ⟨v1, e1, y1, g1⟩ := get 1 f1 rfl
      obtain ⟨v2, e2, y2, g2⟩ := get 2 f2 rfl
      obtain ⟨v3, e3, y3, g3⟩ := get 3 f3 rfl
      obtain ⟨v4, e4, y4, g4⟩ := get 4 f4 rfl
      obtain ⟨v5, e5, y5, g5⟩ := get 5 f5 rfl
      obtain ⟨z1, q1, _, w1⟩ := DataW.trod_int h1 g1
      obtain ⟨z2, q2, _, w2⟩ := DataW.trod_int h2 g2
      obtain ⟨z3, q3, _, w3⟩ := DataW.trod_int h3 g3
      obtain ⟨z4, q4, _⟩ := DataW.trod_bool h4 g4
      obtain ⟨z5, q5, _⟩ := DataW.trod_bool h5 g5
      obtain rfl : v1 = .int .i64 z1 := by simpa using q1
      obtain rfl : v2 = .int .i64 z2 := by simpa using q2
      obtain rfl : v3 = .int .i64 z3 := by simpa using q3
      obtain rfl : v4 = .bool z4 := by simpa using q4
      obtain rfl : v5 = .bool z5 := by simpa using q5
      obtain ⟨pa, pl, pc, zs, hp, hle, hcap, hz⟩ := pairs_cap h0 hu cu o0 o1 c0 c1 i0 i1 g0
      obtain rfl : v0 = .slice pa pl pc := by simpa using hp
      rw [add_next a (i * 6) 1 (by omega)] at e1
      rw [add_next a (i * 6) 2 (by omega)] at e2
      rw [add_next a (i * 6) 3 (by omega)] at e3
      rw [add_next a (i * 6) 4 (by omega)] at e4
      rw [add_next a (i * 6) 5 (by omega)] at e5
      exact ⟨⟨pa, pl, pc, zs, z1, z2, z3, z4, z5⟩, e0, e1, e2, e3, e4, e5, hz.ents, hle, hcap, wf_bounds w1, wf_bounds w2, wf_bounds w3⟩
    obtain ⟨f, hfn⟩ := choose_lt each
    exact ⟨some a, len, cap, f, rfl, by unfold maxLen at hm; omega, fun i hi => ⟨a, rfl, hfn i hi⟩⟩
end
/-! ### What a law counts of a post -/
def thereOk (n : Nat) (e : Int × Int) : Bool := inB e.2 && thereB n e
/-- May entries be posted? -/
def mayF (bal : List Int) (es : List (Int × Int)) : Bool := decide (es ≠ []) && es.all (thereOk bal.length) && decide ((amts es).sum = 0) && (postL bal es).all inB
theorem sum_small : ∀ (l : List Int), (∀ x ∈ l, inB x = true) → -(1152921504606846976 * (l.length : Int)) ≤ l.sum ∧ l.sum ≤ 1152921504606846976 * (l.length : Int) := fun l h => sum_bd (M := 1152921504606846976) (by omega) l (fun x hx => by have := inB_iff.1 (h x hx); omega)
theorem mayF_post {bal : List Int} {es : List (Int × Int)} (hl : es.length ≤ 6) : postF bal es = if mayF bal es then some (postL bal es) else none := by
  unfold postF mayF
  have hlen : ¬ 64 < es.length := by omega
  by_cases h1 : es.all (fun e => inB e.2) = true
  · have hs := sum_small (amts es) (fun x hx => by obtain ⟨e, he, rfl⟩ := List.mem_map.1 hx; exact List.all_eq_true.1 h1 e he)
    have hsl : (amts es).length ≤ 6 := by simp [amts]; omega
    have hnet : netF es = ((amts es).sum, true) := by
      unfold netF
      rw [if_neg hlen, if_pos h1]
      exact valF_yes (by show _ ≤ (amts es).sum; omega) (by show (amts es).sum ≤ _; omega)
    rw [hnet]
    have hall : es.all (thereOk bal.length) = es.all (thereB bal.length) := by
      rw [Bool.eq_iff_iff, List.all_eq_true, List.all_eq_true]
      refine ⟨fun h e he => ?_, fun h e he => ?_⟩
      · have := h e he; unfold thereOk at this; simp only [Bool.and_eq_true] at this; exact this.2
      · unfold thereOk; simp only [Bool.and_eq_true]; exact ⟨List.all_eq_true.1 h1 e he, h e he⟩
    rw [hall]
    unfold behindF
    by_cases h2 : (amts es).sum = 0
    · by_cases h3 : es = []
      · subst h3; simp
      · by_cases h4 : es.all (thereB bal.length) = true
        · by_cases h5 : (postL bal es).all inB = true
          · rw [if_pos ⟨by rw [h2], h3⟩, if_pos h4, if_pos h5, if_pos]
            simp [h2, h3, h4, h5]
          · have h5 : (postL bal es).all inB = false := by simpa using h5
            rw [if_pos ⟨by rw [h2], h3⟩, if_pos h4, h5]
            simp
        · have h4 : es.all (thereB bal.length) = false := by simpa using h4
          rw [if_pos ⟨by rw [h2], h3⟩, h4]
          simp
    · rw [if_neg (fun h => h2 (Prod.mk.inj h.1).1)]
      simp [h2]
  · have h1 : es.all (fun e => inB e.2) = false := by simpa using h1
    have hnet : netF es = (0, false) := by unfold netF; rw [if_neg hlen, h1]; rfl
    have hall : es.all (thereOk bal.length) = false := by
      rw [Bool.eq_false_iff]
      intro h
      rw [Bool.eq_false_iff] at h1
      refine h1 (List.all_eq_true.2 fun e he => ?_)
      have := List.all_eq_true.1 h e he
      unfold thereOk at this; simp only [Bool.and_eq_true] at this; exact this.1
    rw [hnet, hall, if_neg (fun h => by cases h.1)]
    simp
/-- .. and a Move of max(x, -5). -/
theorem mayF_move {bal : List Int} {f t x : Int} : moveF bal f t (max x (-5)) = if mayF bal [(f, -(max x (-5))), (t, max x (-5))] && decide (0 ≤ x) then some (postL bal [(f, -(max x (-5))), (t, max x (-5))]) else none := by
  unfold moveF
  by_cases h0 : 0 ≤ x
  · have hx : max x (-5) = x := by omega
    rw [hx, mayF_post (by simp), decide_eq_true h0, Bool.and_true]
    by_cases h1 : x ≤ 1152921504606846976
    · rw [if_pos ⟨h0, h1⟩]
    · have hno : mayF bal [(f, -x), (t, x)] = false := by
        unfold mayF thereOk
        have : inB x = false := by rw [Bool.eq_false_iff]; intro h; have := inB_iff.1 h; omega
        simp [this]
      rw [if_neg (by omega), hno]; rfl
  · rw [if_neg (by omega), decide_eq_false h0, Bool.and_false]; rfl
end Go.Proofs.Ytideaimlnipkoaa

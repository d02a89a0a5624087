import Derived.Test.YtideaimlnipkoaaShPure
import Derived.Test.YtideaimlnipkoaaWithin
import Derived.Test.YtideaimlnipkoaaArgs
namespace Go.Proofs.Ytideaimlnipkoaa
open Go.RowKit
set_option linter.unusedVariables false
set_option linter.unusedSimpArgs false
/-- An entry's cells. -/
def ec (e : Int × Int) : List Value := [.int .i64 e.1, .int .i64 e.2]
theorem ec_length (e : Int × Int) : (ec e).length = 2 := rfl
def ecs (es : List (Int × Int)) : List Value := es.flatMap ec
def Bd (n : Int) : Prop := -9223372036854775808 ≤ n ∧ n ≤ 9223372036854775807
/-- A slice that reads as entries. -/
structure Ents (W : World) (A : Option Addr) (n : Nat) (es : List (Int × Int)) : Prop where
  src : Src W A n 2 (ecs es)
  bd : ∀ e ∈ es, Bd e.1 ∧ Bd e.2
theorem ecs_length (es : List (Int × Int)) : (ecs es).length = es.length * 2 := flat_length ec 2 ec_length es
theorem Ents.len {W : World} {A : Option Addr} {n : Nat} {es : List (Int × Int)} (h : Ents W A n es) : es.length = n := by
  have := h.src.1
  rw [ecs_length] at this
  omega
theorem Ents.at_ {W : World} {A : Option Addr} {n : Nat} {es : List (Int × Int)} (h : Ents W A n es) {k : Nat} (hk : k < n) :
    ∃ ad e, A = some ad ∧ es[k]? = some e ∧ es.getD k (0, 0) = e ∧ Bd e.1 ∧ Bd e.2 ∧ W.cell? (ad.add (k * 2)) = some (.int .i64 e.1) ∧ W.cell? ⟨(ad.add (k * 2)).block, (ad.add (k * 2)).off + 1, none⟩ = some (.int .i64 e.2) := by
  have hl := h.len
  obtain ⟨ad, e1, hc⟩ := h.src.2 (by omega)
  have hk' : k < es.length := by omega
  have hg : es[k]? = some es[k] := List.getElem?_eq_getElem hk'
  have hb := h.bd es[k] (List.getElem_mem hk')
  refine ⟨ad, es[k], e1, hg, by rw [List.getD_eq_getElem?_getD, hg]; rfl, hb.1, hb.2, ?_, ?_⟩
  · have := hc (k * 2 + 0) (.int .i64 (es[k]).1) (by rw [ecs, flat_get ec 2 ec_length es k 0 _ hg (by omega)]; rfl)
    simpa using this
  · have := hc (k * 2 + 1) (.int .i64 (es[k]).2) (by rw [ecs, flat_get ec 2 ec_length es k 1 _ hg (by omega)]; rfl)
    rw [add_next ad (k * 2) 1 (by omega)] at this
    exact this
theorem Pairs.ents {W : World} {A : Option Addr} {n : Nat} {zs : List (Int × Int)} (h : Pairs W A n zs) : Ents W A n zs := by
  refine ⟨⟨by rw [ecs_length, h.length], fun hn => ?_⟩, fun e he => h.bd e he⟩
  obtain ⟨ad, e1, _, _⟩ := h.at_ 0 hn
  refine ⟨ad, e1, fun j u hu => ?_⟩
  have hj : j < n * 2 := by have := (List.getElem?_eq_some_iff.1 hu).1; rw [ecs_length, h.length] at this; exact this
  obtain ⟨q, hq⟩ : ∃ q, j = q * 2 ∨ j = q * 2 + 1 := ⟨j / 2, by omega⟩
  obtain ⟨ad', e2, c0, c1⟩ := h.at_ q (by omega)
  obtain rfl : ad = ad' := Option.some.inj (e1.symm.trans e2)
  have hk : q < zs.length := by rw [h.length]; omega
  have hg : zs[q]? = some zs[q] := List.getElem?_eq_getElem hk
  have hd : zs.getD q (0, 0) = zs[q] := by rw [List.getD_eq_getElem?_getD, hg]; rfl
  rw [hd] at c0 c1
  rcases hq with rfl | rfl
  · rw [← Nat.add_zero (q * 2), ecs, flat_get ec 2 ec_length zs _ 0 _ hg (by omega)] at hu
    obtain rfl : (.int .i64 (zs[q]).1 : Value) = u := by simpa [ec] using hu
    exact c0
  · rw [ecs, flat_get ec 2 ec_length zs _ 1 _ hg (by omega)] at hu
    obtain rfl : (.int .i64 (zs[q]).2 : Value) = u := by simpa [ec] using hu
    rw [add_next ad _ 1 (by omega)]; exact c1
theorem ret_bool {a b : Bool} (h : a = b) : Ending.returned (.bool a) = .returned (.bool b) := by rw [h]
set_option maxHeartbeats 1000000 in
set_option maxRecDepth 100000 in
theorem inside_calls (n : Int) (w : World) : Calls Try.prog 23 #[.int .i64 n] w fun e w' => e = .returned (.bool (inB n)) ∧ w = w' := by
  have e : inB n = (decide (-1152921504606846976 ≤ n) && decide (n ≤ 1152921504606846976)) := rfl
  generalize inB n = v at *
  have E := Lib.hid e
  clear e
  by_cases h0 : -1152921504606846976 ≤ n
  · have b0 : decide (-1152921504606846976 ≤ n) = true := decide_eq_true h0
    by_cases h1 : n ≤ 1152921504606846976
    · have b1 : decide (n ≤ 1152921504606846976) = true := decide_eq_true h1
      have e : v = true := by rw [E.out, b0, b1]; rfl
      have E2 := Lib.hid e
      clear e E
      go_enter Try.func23, Try.ntmps23
      go_wp2
      go_ret
      exact ⟨ret_bool E2.out.symm, rfl⟩
    · have b1 : decide (n ≤ 1152921504606846976) = false := decide_eq_false h1
      have e : v = false := by rw [E.out, b0, b1]; rfl
      have E2 := Lib.hid e
      clear e E
      go_enter Try.func23, Try.ntmps23
      go_wp2
      go_ret
      exact ⟨ret_bool E2.out.symm, rfl⟩
  · have b0 : decide (-1152921504606846976 ≤ n) = false := decide_eq_false h0
    have e : v = false := by rw [E.out, b0]; rfl
    have E2 := Lib.hid e
    clear e E
    go_enter Try.func23, Try.ntmps23
    go_wp2
    go_ret
    exact ⟨ret_bool E2.out.symm, rfl⟩
section
variable {w0 W : World} {L : List Ent}
set_option maxHeartbeats 2000000 in
set_option maxRecDepth 100000 in
theorem add_calls (n : Int) (k o : Nat) {g : Nat} {cs : Array Value} {t : TypeId} {a b : Int} (hS : Sts w0 L W) (hk : L[k]? = some (g, cs, t)) (ha : cs[o]? = some (.int .i64 a)) (hb : cs[o + 1]? = some (.int .i64 b)) (hB : HB 200 (a, b)) (hn : Bd n) :
    Calls Try.prog 24 #[.pointer (some ⟨g, o, none⟩), .int .i64 n] W fun e w' => e = .returned (.tuple #[]) ∧ Sts w0 (L.set k (g, (cs.setIfInBounds o (.int .i64 (a + n / 4294967296))).setIfInBounds (o + 1) (.int .i64 (b + n % 4294967296)), t)) w' := by
  have c0 := hS.cell k o hk ha
  have c1 := hS.cell k (o + 1) hk hb
  have f0 := hS.frozen k o hk
  have f1 := hS.frozen k (o + 1) hk
  have hand := i64_and32 n
  obtain ⟨x0, x1, x2, x3⟩ := hB
  obtain ⟨n0, n1⟩ := hn
  simp only at x0 x1 x2 x3
  have y0 : -2147483648 ≤ n / 4294967296 := by omega
  have y1 : n / 4294967296 < 2147483648 := by omega
  have y2 : 0 ≤ n % 4294967296 := by omega
  have y3 : n % 4294967296 < 4294967296 := by omega
  have HS := Lib.hid hS; have HK := Lib.hid hk; have HA := Lib.hid ha; have HB' := Lib.hid hb
  clear hS hk ha hb
  go_enter Try.func24, Try.ntmps24
  go_wp2
  go_end0
  refine ⟨rfl, ?_⟩
  have hk := HK.out
  have hlt := (List.getElem?_eq_some_iff.1 hk).1
  have := (HS.out.set k o (.int .i64 (a + n / 4294967296)) hk).set k (o + 1) (.int .i64 (b + n % 4294967296)) (List.getElem?_set_self hlt)
  rw [List.set_set] at this
  exact this
set_option maxHeartbeats 2000000 in
set_option maxRecDepth 100000 in
theorem value_calls (a b : Int) (w : World) (hB : HB 200 (a, b)) : Calls Try.prog 25 #[.agg #[.int .i64 a, .int .i64 b]] w fun e w' => e = .returned (.tuple #[.int .i64 (valF (hval (a, b))).1, .bool (valF (hval (a, b))).2]) ∧ Below w.heap.size w w' := by
  obtain ⟨x0, x1, x2, x3⟩ := hB
  simp only at x0 x1 x2 x3
  have y0 : 0 ≤ b / 4294967296 := by omega
  have y1 : b / 4294967296 ≤ 200 := by omega
  have y2 : 0 ≤ b % 4294967296 := by omega
  have y3 : b % 4294967296 < 4294967296 := by omega
  have hand := i64_and32 b
  by_cases h0 : a + b / 4294967296 < -2147483648
  · have hv : valF (hval (a, b)) = (0, false) := valF_no (.inl (by unfold hval; simp only; omega))
    have HV := Lib.hid hv
    clear hv
    have b0 : decide (a + b / 4294967296 < -2147483648) = true := decide_eq_true h0
    go_enter Try.func25, Try.ntmps25
    go_wp2
    go_ret2
    rw [HV.out]
    exact ⟨rfl, bel_alloc (Below.refl _ _) _⟩
  · have b0 : decide (a + b / 4294967296 < -2147483648) = false := decide_eq_false h0
    by_cases h1 : 2147483648 ≤ a + b / 4294967296
    · have hv : valF (hval (a, b)) = (0, false) := valF_no (.inr (by unfold hval; simp only; omega))
      have HV := Lib.hid hv
      clear hv
      have b1 : decide (2147483648 ≤ a + b / 4294967296) = true := decide_eq_true h1
      go_enter Try.func25, Try.ntmps25
      go_wp2
      go_ret2
      rw [HV.out]
      exact ⟨rfl, bel_alloc (Below.refl _ _) _⟩
    · have b1 : decide (2147483648 ≤ a + b / 4294967296) = false := decide_eq_false h1
      have hor := i64_or32 (a + b / 4294967296) (b % 4294967296) (by omega) (by omega) y2 y3
      have hv : valF (hval (a, b)) = ((a + b / 4294967296) * 4294967296 + b % 4294967296, true) := by
        rw [valF_yes (by unfold hval; simp only; omega) (by unfold hval; simp only; omega)]
        unfold hval
        congr 1
        simp only
        omega
      have HV := Lib.hid hv
      have k0 : -9223372036854775808 ≤ (a + b / 4294967296) * 4294967296 := by omega
      have k1 : (a + b / 4294967296) * 4294967296 ≤ 9223372036854775807 := by omega
      clear hv
      go_enter Try.func25, Try.ntmps25
      go_wp2
      go_ret2
      rw [HV.out]
      exact ⟨rfl, bel_alloc (Below.refl _ _) _⟩
end
end Go.Proofs.Ytideaimlnipkoaa

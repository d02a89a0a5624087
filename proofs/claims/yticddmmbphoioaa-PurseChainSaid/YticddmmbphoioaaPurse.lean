import Derived.Test.YticddmmbphoioaaSum
namespace Go.Proofs.Yticddmmbphoioaa
open Go.RowKit
set_option linter.unusedVariables false
set_option linter.unusedSimpArgs false

/-- What the call hands back, and that only block g turned, to cs. -/
def Upd (v : Value) (g : Nat) (cs : Array Value) (t : TypeId) (w : World) (e : Ending) (w' : World) : Prop := e = .returned v ∧ Blk w' g cs t ∧ But g w w'

set_option maxHeartbeats 1000000 in
set_option maxRecDepth 100000 in
theorem put_yes (g o : Nat) (cs : Array Value) (t : TypeId) (i n : Int) (w : World) (hb : Blk w g cs t) (hi : cs[o]? = some (.int .i64 i)) (h0 : 0 ≤ i) (h1 : 0 ≤ n) (h2 : i + n ≤ 1152921504606846976) :
    Calls Try.prog 21 #[.pointer (some ⟨g, o, none⟩), .int .i64 n] w (Upd (.bool true) g (cs.setIfInBounds o (.int .i64 (i + n))) t w) := by
  have hc : w.cell? ⟨g, o, none⟩ = some (.int .i64 i) := (hb.cell o).trans hi
  have hf := hb.frozen o
  have HB := Lib.hid hb
  have HI := Lib.hid hi
  clear hb hi
  go_enter Try.func21, Try.ntmps21
  go_wp2_with fail
  refine (sum2_yes i n w.heap.size 2 _ (by simp) (by simp) h0 h1 h2).mono ?_
  rintro e w1 ⟨rfl, hw⟩
  have hb : Blk w1 g cs t := hw ▸ HB.out.alloc _
  have hk : But g w w1 := hw ▸ (But.refl _ _).alloc _
  have hc : w1.cell? ⟨g, o, none⟩ = some (.int .i64 i) := (hb.cell o).trans HI.out
  have hf := hb.frozen o
  clear hw
  have HB1 := Lib.hid hb
  have HK := Lib.hid hk
  clear hb hk
  go_wp2
  go_ret
  exact ⟨rfl, HB1.out.set _ _, HK.out.set _ _⟩

set_option maxHeartbeats 1000000 in
set_option maxRecDepth 100000 in
theorem put_no (g o : Nat) (cs : Array Value) (t : TypeId) (i n : Int) (w : World) (hb : Blk w g cs t) (hi : cs[o]? = some (.int .i64 i)) (h0 : 0 ≤ i) (h1 : i ≤ 1152921504606846976) (hn : -9223372036854775808 ≤ n) (hn1 : n ≤ 9223372036854775807) (h2 : n < 0 ∨ 1152921504606846976 < i + n) :
    Calls Try.prog 21 #[.pointer (some ⟨g, o, none⟩), .int .i64 n] w fun e w' => e = .returned (.bool false) ∧ Below w.heap.size w w' := by
  have hc : w.cell? ⟨g, o, none⟩ = some (.int .i64 i) := (hb.cell o).trans hi
  have hf := hb.frozen o
  have HB := Lib.hid hb
  clear hb hi
  go_enter Try.func21, Try.ntmps21
  go_wp2_with fail
  refine (sum2_no i n w.heap.size 2 _ (by simp) (by simp) h0 h1 hn hn1 h2).mono ?_
  rintro e w' ⟨rfl, rfl⟩
  go_wp2
  go_ret
  exact ⟨rfl, bel_alloc (Below.refl _ _) _⟩

set_option maxHeartbeats 1000000 in
set_option maxRecDepth 100000 in
theorem has_calls (i j : Int) (w : World) (h0 : 0 ≤ j) (h1 : j ≤ i) (h2 : i ≤ 1152921504606846976) :
    Calls Try.prog 18 #[.agg #[.int .i64 i, .int .i64 j]] w fun e w' => e = .returned (.int .i64 (i - j)) ∧ Below w.heap.size w w' := by
  go_enter Try.func18, Try.ntmps18
  go_wp2
  go_ret
  exact ⟨rfl, bel_alloc (Below.refl _ _) _⟩
set_option maxHeartbeats 1000000 in
set_option maxRecDepth 100000 in
theorem in_calls (i j : Int) (w : World) :
    Calls Try.prog 19 #[.agg #[.int .i64 i, .int .i64 j]] w fun e w' => e = .returned (.int .i64 i) ∧ Below w.heap.size w w' := by
  go_enter Try.func19, Try.ntmps19
  go_wp2
  go_ret
  exact ⟨rfl, bel_alloc (Below.refl _ _) _⟩
set_option maxHeartbeats 1000000 in
set_option maxRecDepth 100000 in
theorem out_calls (i j : Int) (w : World) :
    Calls Try.prog 20 #[.agg #[.int .i64 i, .int .i64 j]] w fun e w' => e = .returned (.int .i64 j) ∧ Below w.heap.size w w' := by
  go_enter Try.func20, Try.ntmps20
  go_wp2
  go_ret
  exact ⟨rfl, bel_alloc (Below.refl _ _) _⟩

def takes (i j n : Int) : Int := max (min n (i - j)) 0
theorem takes_bd (i j n : Int) (h : j ≤ i) : 0 ≤ takes i j n ∧ takes i j n ≤ i - j := by unfold takes; omega
theorem takes_neg {i j n : Int} (_h : j ≤ i) (hn : n < 0) : takes i j n = 0 := by unfold takes; omega
theorem takes_in {i j n : Int} (hn : 0 ≤ n) (hn1 : n ≤ i - j) : takes i j n = n := by unfold takes; omega
theorem takes_all {i j n : Int} (h : j ≤ i) (hn1 : i - j < n) : takes i j n = i - j := by unfold takes; omega

set_option maxHeartbeats 1000000 in
set_option maxRecDepth 100000 in
theorem take_as (r : Int) (g o : Nat) (cs : Array Value) (t : TypeId) (i j n : Int) (w : World) (hb : Blk w g cs t) (hi : cs[o]? = some (.int .i64 i)) (hj : cs[o + 1]? = some (.int .i64 j)) (h0 : 0 ≤ j) (h1 : j ≤ i) (h2 : i ≤ 1152921504606846976) (hn : -9223372036854775808 ≤ n) (hn1 : n ≤ 9223372036854775807)
    (hr : r = takes i j n) :
    Calls Try.prog 17 #[.pointer (some ⟨g, o, none⟩), .int .i64 n] w (Upd (.int .i64 r) g (cs.setIfInBounds (o + 1) (.int .i64 (j + r))) t w) := by
  have hc : w.cell? ⟨g, o, none⟩ = some (.int .i64 i) := (hb.cell o).trans hi
  have hc1 : w.cell? ⟨g, o + 1, none⟩ = some (.int .i64 j) := (hb.cell _).trans hj
  have hf := hb.frozen (o + 1)
  have HB := Lib.hid hb
  have HJ := Lib.hid hj
  have HR := Lib.hid hr
  clear hb hi hj hr


  by_cases c1 : n < 0
  · have e := takes_neg h1 c1
    have hr := HR.out.trans e
    subst hr
    clear e
    go_enter Try.func17, Try.ntmps17
    go_wp2_with fail
    refine (has_calls i j _ h0 h1 h2).mono ?_
    rintro e w1 ⟨rfl, hbel⟩
    have hb := HB.out.below hbel
    have hk : But g w w1 := But.of_below hbel
    have hc1 : w1.cell? ⟨g, o + 1, none⟩ = some (.int .i64 j) := (hb.cell _).trans HJ.out
    have hf := hb.frozen (o + 1)
    have HB1 := Lib.hid hb
    have HK := Lib.hid hk
    clear hb hbel hk
    go_wp2
    go_ret
    exact ⟨rfl, by simpa using HB1.out.set _ _, HK.out.set _ _⟩
  · by_cases c2 : n ≤ i - j
    · have e := takes_in (by omega) c2
      have hr := HR.out.trans e
      subst hr
      clear e
      go_enter Try.func17, Try.ntmps17
      go_wp2_with fail
      refine (has_calls i j _ h0 h1 h2).mono ?_
      rintro e w1 ⟨rfl, hbel⟩
      have hb := HB.out.below hbel
      have hk : But g w w1 := But.of_below hbel
      have hc1 : w1.cell? ⟨g, o + 1, none⟩ = some (.int .i64 j) := (hb.cell _).trans HJ.out
      have hf := hb.frozen (o + 1)
      have HB1 := Lib.hid hb
      have HK := Lib.hid hk
      clear hb hbel hk
      go_wp2
      go_ret
      exact ⟨rfl, HB1.out.set _ _, HK.out.set _ _⟩
    · have e := takes_all h1 (Int.not_le.1 c2)
      have hr := HR.out.trans e
      subst hr
      clear e
      go_enter Try.func17, Try.ntmps17
      go_wp2_with fail
      refine (has_calls i j _ h0 h1 h2).mono ?_
      rintro e w1 ⟨rfl, hbel⟩
      have hb := HB.out.below hbel
      have hk : But g w w1 := But.of_below hbel
      have hc1 : w1.cell? ⟨g, o + 1, none⟩ = some (.int .i64 j) := (hb.cell _).trans HJ.out
      have hf := hb.frozen (o + 1)
      have HB1 := Lib.hid hb
      have HK := Lib.hid hk
      clear hb hbel hk
      go_wp2
      go_ret
      exact ⟨rfl, HB1.out.set _ _, HK.out.set _ _⟩
end Go.Proofs.Yticddmmbphoioaa

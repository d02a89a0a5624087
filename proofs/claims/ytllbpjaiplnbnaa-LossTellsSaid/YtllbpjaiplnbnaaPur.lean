import Derived.Test.YtllbpjaiplnbnaaSum
namespace Go.Proofs.Ytllbpjaiplnbnaa
open Go.RowKit
set_option linter.unusedVariables false
set_option linter.unusedSimpArgs false

/-- What the call hands back, and that only block g turned, to cs. -/
def Upd (v : Value) (g : Nat) (cs : Array Value) (t : TypeId) (w : World) (e : Ending) (w' : World) : Prop := e = .returned v ∧ Blk w' g cs t ∧ But g w w'

set_option maxHeartbeats 1000000 in
set_option maxRecDepth 100000 in
theorem put_yes (g o : Nat) (cs : Array Value) (t : TypeId) (i n : Int) (w : World) (hb : Blk w g cs t) (hi : cs[o]? = some (.int .i64 i)) (h0 : 0 ≤ i) (h1 : 0 ≤ n) (h2 : i + n ≤ 1152921504606846976) :
    Calls Try.prog 21 #[.pointer (some ⟨g, o, none⟩), .int .i64 n] w (Upd (.bool true) g (cs.setIfInBounds o (.int .i64 (i + n))) t w) := by
  have hc : w.cell? ⟨g, o, none⟩ = some (.int .i64 i) := (hb.cell o).trans hi
  have hf := hb.frozen o
  have HB := Lib.hid hb
  have HI := Lib.hid hi
  clear hb hi
  go_enter Try.func21, Try.ntmps21
  go_wp2_with fail
  refine (sum2_yes i n w.heap.size 2 _ (by simp) (by simp) h0 h1 h2).mono ?_
  rintro e w1 ⟨rfl, hw⟩
  have hb : Blk w1 g cs t := hw ▸ HB.out.alloc _
  have hk : But g w w1 := hw ▸ (But.refl _ _).alloc _
  have hc : w1.cell? ⟨g, o, none⟩ = some (.int .i64 i) := (hb.cell o).trans HI.out
  have hf := hb.frozen o
  clear hw
  have HB1 := Lib.hid hb
  have HK := Lib.hid hk
  clear hb hk
  go_wp2
  go_ret
  exact ⟨rfl, HB1.out.set _ _, HK.out.set _ _⟩

set_option maxHeartbeats 1000000 in
set_option maxRecDepth 100000 in
theorem put_no (g o : Nat) (cs : Array Value) (t : TypeId) (i n : Int) (w : World) (hb : Blk w g cs t) (hi : cs[o]? = some (.int .i64 i)) (h0 : 0 ≤ i) (h1 : i ≤ 1152921504606846976) (hn : -9223372036854775808 ≤ n) (hn1 : n ≤ 9223372036854775807) (h2 : n < 0 ∨ 1152921504606846976 < i + n) :
    Calls Try.prog 21 #[.pointer (some ⟨g, o, none⟩), .int .i64 n] w fun e w' => e = .returned (.bool false) ∧ Below w.heap.size w w' := by
  have hc : w.cell? ⟨g, o, none⟩ = some (.int .i64 i) := (hb.cell o).trans hi
  have hf := hb.frozen o
  have HB := Lib.hid hb
  clear hb hi
  go_enter Try.func21, Try.ntmps21
  go_wp2_with fail
  refine (sum2_no i n w.heap.size 2 _ (by simp) (by simp) h0 h1 hn hn1 h2).mono ?_
  rintro e w' ⟨rfl, rfl⟩
  go_wp2
  go_ret
  exact ⟨rfl, bel_alloc (Below.refl _ _) _⟩

set_option maxHeartbeats 1000000 in
set_option maxRecDepth 100000 in
theorem has_calls (i j : Int) (w : World) (h0 : 0 ≤ j) (h1 : j ≤ i) (h2 : i ≤ 1152921504606846976) :
    Calls Try.prog 18 #[.agg #[.int .i64 i, .int .i64 j]] w fun e w' => e = .returned (.int .i64 (i - j)) ∧ Below w.heap.size w w' := by
  go_enter Try.func18, Try.ntmps18
  go_wp2
  go_ret
  exact ⟨rfl, bel_alloc (Below.refl _ _) _⟩
set_option maxHeartbeats 1000000 in
set_option maxRecDepth 100000 in
theorem in_calls (i j : Int) (w : World) :
    Calls Try.prog 26 #[.agg #[.int .i64 i, .int .i64 j]] w fun e w' => e = .returned (.int .i64 i) ∧ Below w.heap.size w w' := by
  go_enter Try.func26, Try.ntmps26
  go_wp2
  go_ret
  exact ⟨rfl, bel_alloc (Below.refl _ _) _⟩
set_option maxHeartbeats 1000000 in
set_option maxRecDepth 100000 in
theorem out_calls (i j : Int) (w : World) :
    Calls Try.prog 27 #[.agg #[.int .i64 i, .int .i64 j]] w fun e w' => e = .returned (.int .i64 j) ∧ Below w.heap.size w w' := by
  go_enter Try.func27, Try.ntmps27
  go_wp2
  go_ret
  exact ⟨rfl, bel_alloc (Below.refl _ _) _⟩

end Go.Proofs.Ytllbpjaiplnbnaa

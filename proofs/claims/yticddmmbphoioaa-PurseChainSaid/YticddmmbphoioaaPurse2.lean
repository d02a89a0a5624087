import Derived.Test.YticddmmbphoioaaPurse
namespace Go.Proofs.Yticddmmbphoioaa
open Go.RowKit
set_option linter.unusedVariables false
set_option linter.unusedSimpArgs false

theorem take_calls (g o : Nat) (cs : Array Value) (t : TypeId) (i j n : Int) (w : World) (hb : Blk w g cs t) (hi : cs[o]? = some (.int .i64 i)) (hj : cs[o + 1]? = some (.int .i64 j)) (h0 : 0 ≤ j) (h1 : j ≤ i) (h2 : i ≤ 1152921504606846976) (hn : -9223372036854775808 ≤ n) (hn1 : n ≤ 9223372036854775807) :
    Calls Try.prog 17 #[.pointer (some ⟨g, o, none⟩), .int .i64 n] w (Upd (.int .i64 (takes i j n)) g (cs.setIfInBounds (o + 1) (.int .i64 (j + takes i j n))) t w) :=
  take_as _ g o cs t i j n w hb hi hj h0 h1 h2 hn hn1 rfl

set_option maxHeartbeats 1000000 in
set_option maxRecDepth 100000 in
theorem all_calls (g o : Nat) (cs : Array Value) (t : TypeId) (i j : Int) (w : World) (hb : Blk w g cs t) (hi : cs[o]? = some (.int .i64 i)) (hj : cs[o + 1]? = some (.int .i64 j)) (h0 : 0 ≤ j) (h1 : j ≤ i) (h2 : i ≤ 1152921504606846976) :
    Calls Try.prog 22 #[.pointer (some ⟨g, o, none⟩)] w (Upd (.int .i64 (i - j)) g (cs.setIfInBounds (o + 1) (.int .i64 i)) t w) := by
  have hc : w.cell? ⟨g, o, none⟩ = some (.int .i64 i) := (hb.cell o).trans hi
  have hc1 : w.cell? ⟨g, o + 1, none⟩ = some (.int .i64 j) := (hb.cell _).trans hj
  have HB := Lib.hid hb
  have HI := Lib.hid hi
  have HJ := Lib.hid hj
  clear hb hi hj
  go_enter Try.func22, Try.ntmps22
  go_wp2_with fail
  refine (has_calls i j _ h0 h1 h2).mono ?_
  rintro e w1 ⟨rfl, hbel⟩
  have hb := HB.out.below hbel
  have hk : But g w w1 := But.of_below hbel
  have HB1 := Lib.hid hb
  have HK := Lib.hid hk
  clear hb hbel hk
  go_wp2_with fail
  refine (take_as (i - j) g o cs t i j (i - j) w1 HB1.out HI.out HJ.out h0 h1 h2 (by omega) (by omega) (by unfold takes; omega)).mono ?_
  rintro e w2 ⟨rfl, hb2, hk2⟩
  have hh : Blk w2 g (cs.setIfInBounds (o + 1) (.int .i64 i)) t := by
    have : j + (i - j) = i := by omega
    rw [this] at hb2; exact hb2
  have HB2 := Lib.hid hh
  have HK2 := Lib.hid hk2
  clear hb2 hk2 hh
  go_wp2
  go_ret
  exact ⟨rfl, HB2.out, HK.out.trans HK2.out⟩

set_option maxHeartbeats 1000000 in
set_option maxRecDepth 100000 in
theorem of_yes (n : Int) (w : World) (h0 : 0 ≤ n) (h1 : n ≤ 1152921504606846976) :
    Calls Try.prog 16 #[.int .i64 n] w fun e w' => e = .returned (.agg #[.int .i64 n, .int .i64 0]) ∧ Below w.heap.size w w' := by
  go_enter Try.func16, Try.ntmps16
  go_wp2_with fail
  refine (put_yes (w.heap.size + 1) 0 #[.int .i64 0, .int .i64 0] 35 0 n _ (Blk.newAt (by simp) _ _) rfl (by omega) h0 (by omega)).mono ?_
  rintro e w1 ⟨rfl, hb, hk⟩
  have hb0 : Blk w1 (w.heap.size + 1) #[.int .i64 n, .int .i64 0] 35 := by simpa using hb
  have hr : Blk w1 w.heap.size #[.int .i64 0, .int .i64 0] 35 := Blk.but ((Blk.newAt (by simp) _ _).alloc _) hk (by omega)
  have hbel : Below w.heap.size w w1 := bel_but (bel_alloc (bel_alloc (Below.refl _ _) _) _) hk (by simp; omega) (by omega)
  clear hb hk
  have c0 : w1.cell? ⟨w.heap.size + 1, 0, none⟩ = some (.int .i64 n) := hb0.cell 0
  have c1 : w1.cell? ⟨w.heap.size + 1, 1, none⟩ = some (.int .i64 0) := hb0.cell 1
  have d0 : w1.cell? ⟨w.heap.size, 0, none⟩ = some (.int .i64 0) := hr.cell 0
  have d1 : w1.cell? ⟨w.heap.size, 1, none⟩ = some (.int .i64 0) := hr.cell 1
  have f0 := hr.frozen 0
  have f1 := hr.frozen 1
  have HR := Lib.hid hr
  have HB := Lib.hid hb0
  have HL := Lib.hid hbel
  clear hb0 hr hbel
  generalize hg : w.heap.size = g at *
  have HG := Lib.hid hg
  clear hg
  go_wp2
  refine bodyPost_ret (v := .agg #[.int .i64 n, .int .i64 0]) (by simp [results, Try.results16, go_sem, d0, d1]) rfl ⟨rfl, ?_⟩
  rw [HG.out]
  exact bel_set (bel_set HL.out _ _ (Nat.le_refl _) _) _ _ (Nat.le_refl _) _

set_option maxHeartbeats 1000000 in
set_option maxRecDepth 100000 in
theorem of_no (n : Int) (w : World) (hn : -9223372036854775808 ≤ n) (hn1 : n ≤ 9223372036854775807) (h2 : n < 0 ∨ 1152921504606846976 < n) :
    Calls Try.prog 16 #[.int .i64 n] w fun e w' => e = .returned (.agg #[.int .i64 0, .int .i64 0]) ∧ Below w.heap.size w w' := by
  go_enter Try.func16, Try.ntmps16
  go_wp2_with fail
  refine (put_no (w.heap.size + 1) 0 #[.int .i64 0, .int .i64 0] 35 0 n _ (Blk.newAt (by simp) _ _) rfl (by omega) (by omega) hn hn1 (by omega)).mono ?_
  rintro e w1 ⟨rfl, hk⟩
  have hb0 : Blk w1 (w.heap.size + 1) #[.int .i64 0, .int .i64 0] 35 := (Blk.newAt (by simp) _ _).below hk
  have hr : Blk w1 w.heap.size #[.int .i64 0, .int .i64 0] 35 := ((Blk.newAt (by simp) _ _).alloc _).below hk
  have hbel : Below w.heap.size w w1 := bel_then (bel_alloc (bel_alloc (Below.refl _ _) _) _) hk (by simp; omega)
  clear hk
  have c0 : w1.cell? ⟨w.heap.size + 1, 0, none⟩ = some (.int .i64 0) := hb0.cell 0
  have c1 : w1.cell? ⟨w.heap.size + 1, 1, none⟩ = some (.int .i64 0) := hb0.cell 1
  have d0 : w1.cell? ⟨w.heap.size, 0, none⟩ = some (.int .i64 0) := hr.cell 0
  have d1 : w1.cell? ⟨w.heap.size, 1, none⟩ = some (.int .i64 0) := hr.cell 1
  have f0 := hr.frozen 0
  have f1 := hr.frozen 1
  have HL := Lib.hid hbel
  clear hb0 hr hbel
  generalize hg : w.heap.size = g at *
  have HG := Lib.hid hg
  clear hg
  go_wp2
  refine bodyPost_ret (v := .agg #[.int .i64 0, .int .i64 0]) (by simp [results, Try.results16, go_sem, d0, d1]) rfl ⟨rfl, ?_⟩
  rw [HG.out]
  exact bel_set (bel_set HL.out _ _ (Nat.le_refl _) _) _ _ (Nat.le_refl _) _

/-- What goes into a new purse. -/
def ofs (n : Int) : Int := if 0 ≤ n ∧ n ≤ 1152921504606846976 then n else 0
theorem ofs_bd (n : Int) : 0 ≤ ofs n ∧ ofs n ≤ 1152921504606846976 := by unfold ofs; split <;> omega
theorem of_calls (n : Int) (w : World) (hn : -9223372036854775808 ≤ n) (hn1 : n ≤ 9223372036854775807) :
    Calls Try.prog 16 #[.int .i64 n] w fun e w' => e = .returned (.agg #[.int .i64 (ofs n), .int .i64 0]) ∧ Below w.heap.size w w' := by
  unfold ofs
  by_cases h : 0 ≤ n ∧ n ≤ 1152921504606846976
  · rw [if_pos h]; exact of_yes n w h.1 h.2
  · rw [if_neg h]; exact of_no n w hn hn1 (by omega)


/-! ### The same of a purse that stands alone in a block that is kept an eye on -/
section
variable {w0 W : World} {L : List (Nat × Array Value × TypeId)} {g : Nat} {t : TypeId}
theorem put_s (i j n : Int) (k : Nat) (hS : Sts w0 L W) (hk : L[k]? = some (g, #[.int .i64 i, .int .i64 j], t)) (h0 : 0 ≤ i) (h1 : 0 ≤ n) (h2 : i + n ≤ 1152921504606846976) :
    Calls Try.prog 21 #[.pointer (some ⟨g, 0, none⟩), .int .i64 n] W (Goes (.bool true) w0 (L.set k (g, #[.int .i64 (i + n), .int .i64 j], t))) :=
  (put_yes g 0 _ t i n W (hS.at_ k hk) rfl h0 h1 h2).mono fun _ _ ⟨he, hb, hB⟩ => ⟨he, hS.upd k hk hb hB⟩
theorem putno_s (i j n : Int) (k : Nat) (hS : Sts w0 L W) (hk : L[k]? = some (g, #[.int .i64 i, .int .i64 j], t)) (h0 : 0 ≤ i) (h1 : i ≤ 1152921504606846976) (hn : -9223372036854775808 ≤ n) (hn1 : n ≤ 9223372036854775807) (h2 : n < 0 ∨ 1152921504606846976 < i + n) :
    Calls Try.prog 21 #[.pointer (some ⟨g, 0, none⟩), .int .i64 n] W (Goes (.bool false) w0 L) :=
  (put_no g 0 _ t i n W (hS.at_ k hk) rfl h0 h1 hn hn1 h2).mono fun _ _ ⟨he, hb⟩ => ⟨he, hS.below hb⟩
theorem take_s (r i j n : Int) (k : Nat) (hS : Sts w0 L W) (hk : L[k]? = some (g, #[.int .i64 i, .int .i64 j], t)) (h0 : 0 ≤ j) (h1 : j ≤ i) (h2 : i ≤ 1152921504606846976) (hn : -9223372036854775808 ≤ n) (hn1 : n ≤ 9223372036854775807) (hr : r = takes i j n) :
    Calls Try.prog 17 #[.pointer (some ⟨g, 0, none⟩), .int .i64 n] W (Goes (.int .i64 r) w0 (L.set k (g, #[.int .i64 i, .int .i64 (j + r)], t))) :=
  (take_as r g 0 _ t i j n W (hS.at_ k hk) rfl rfl h0 h1 h2 hn hn1 hr).mono fun _ _ ⟨he, hb, hB⟩ => ⟨he, hS.upd k hk hb hB⟩
theorem set_same {L : List (Nat × Array Value × TypeId)} {k : Nat} {e : Nat × Array Value × TypeId} (hk : L[k]? = some e) : L.set k e = L := by
  obtain ⟨h, rfl⟩ := List.getElem?_eq_some_iff.1 hk
  simp
theorem takezero_s (i j n : Int) (k : Nat) (hS : Sts w0 L W) (hk : L[k]? = some (g, #[.int .i64 i, .int .i64 j], t)) (h0 : 0 ≤ j) (h1 : j ≤ i) (h2 : i ≤ 1152921504606846976) (hn : -9223372036854775808 ≤ n) (hn1 : n ≤ 9223372036854775807) (hr : 0 = takes i j n) :
    Calls Try.prog 17 #[.pointer (some ⟨g, 0, none⟩), .int .i64 n] W (Goes (.int .i64 0) w0 L) :=
  (take_s 0 i j n k hS hk h0 h1 h2 hn hn1 hr).mono fun _ _ ⟨he, hs⟩ => ⟨he, by rw [Int.add_zero, set_same hk] at hs; exact hs⟩
theorem all_s (i j : Int) (k : Nat) (hS : Sts w0 L W) (hk : L[k]? = some (g, #[.int .i64 i, .int .i64 j], t)) (h0 : 0 ≤ j) (h1 : j ≤ i) (h2 : i ≤ 1152921504606846976) :
    Calls Try.prog 22 #[.pointer (some ⟨g, 0, none⟩)] W (Goes (.int .i64 (i - j)) w0 (L.set k (g, #[.int .i64 i, .int .i64 i], t))) :=
  (all_calls g 0 _ t i j W (hS.at_ k hk) rfl rfl h0 h1 h2).mono fun _ _ ⟨he, hb, hB⟩ => ⟨he, hS.upd k hk hb hB⟩
theorem has_s (r i j : Int) (hS : Sts w0 L W) (h0 : 0 ≤ j) (h1 : j ≤ i) (h2 : i ≤ 1152921504606846976) (hr : r = i - j) : Calls Try.prog 18 #[.agg #[.int .i64 i, .int .i64 j]] W (Goes (.int .i64 r) w0 L) :=
  (has_calls i j W h0 h1 h2).mono fun _ _ ⟨he, hb⟩ => ⟨he.trans (by rw [hr]), hS.below hb⟩
theorem in_s (i j : Int) (hS : Sts w0 L W) : Calls Try.prog 19 #[.agg #[.int .i64 i, .int .i64 j]] W (Goes (.int .i64 i) w0 L) :=
  (in_calls i j W).mono fun _ _ ⟨he, hb⟩ => ⟨he, hS.below hb⟩
theorem out_s (i j : Int) (hS : Sts w0 L W) : Calls Try.prog 20 #[.agg #[.int .i64 i, .int .i64 j]] W (Goes (.int .i64 j) w0 L) :=
  (out_calls i j W).mono fun _ _ ⟨he, hb⟩ => ⟨he, hS.below hb⟩
theorem ofyes_s (r n : Int) (hS : Sts w0 L W) (hn : 0 ≤ n) (hn1 : n ≤ 1152921504606846976) (hr : r = n) : Calls Try.prog 16 #[.int .i64 n] W (Goes (.agg #[.int .i64 r, .int .i64 0]) w0 L) :=
  (of_yes n W hn hn1).mono fun _ _ ⟨he, hb⟩ => ⟨he.trans (by rw [hr]), hS.below hb⟩
theorem of_s (n : Int) (hS : Sts w0 L W) (hn : -9223372036854775808 ≤ n) (hn1 : n ≤ 9223372036854775807) : Calls Try.prog 16 #[.int .i64 n] W (Goes (.agg #[.int .i64 (ofs n), .int .i64 0]) w0 L) :=
  (of_calls n W hn hn1).mono fun _ _ ⟨he, hb⟩ => ⟨he, hS.below hb⟩
end
end Go.Proofs.Yticddmmbphoioaa

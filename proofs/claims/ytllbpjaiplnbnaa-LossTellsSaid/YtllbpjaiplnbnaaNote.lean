import Derived.Test.YtllbpjaiplnbnaaPurS
import Derived.Test.YtllbpjaiplnbnaaWithin
namespace Go.Proofs.Ytllbpjaiplnbnaa
open Go.RowKit
set_option linter.unusedVariables false
set_option linter.unusedSimpArgs false
attribute [local go_sem] bmax2 bmin2 bmax_two bmin_two bmax_three bmin_three

/-- What the call hands back, and that only block g turned, to cs. -/
abbrev nv (r og rt i j sh dn : Int) : Value := .agg #[.int .i64 r, .int .i64 og, .int .i64 rt, .int .i64 i, .int .i64 j, .int .i64 sh, .int .i64 dn]
abbrev ncells (r og rt i j sh dn : Int) : Array Value := #[.int .i64 r, .int .i64 og, .int .i64 rt, .int .i64 i, .int .i64 j, .int .i64 sh, .int .i64 dn]
/-- A note's cells from place o on. -/
structure NoteAt (cs : Array Value) (o : Nat) (r og rt i j sh dn : Int) : Prop where
  c0 : cs[o]? = some (.int .i64 r)
  c1 : cs[o + 1]? = some (.int .i64 og)
  c2 : cs[o + 2]? = some (.int .i64 rt)
  c3 : cs[o + 3]? = some (.int .i64 i)
  c4 : cs[o + 4]? = some (.int .i64 j)
  c5 : cs[o + 5]? = some (.int .i64 sh)
  c6 : cs[o + 6]? = some (.int .i64 dn)
theorem NoteAt.lit (r og rt i j sh dn : Int) : NoteAt (ncells r og rt i j sh dn) 0 r og rt i j sh dn := ⟨rfl, rfl, rfl, rfl, rfl, rfl, rfl⟩
/-- Amounts of a note that may be reckoned with. -/
structure Fair (og i j sh dn : Int) : Prop where
  og0 : -2251799813685248 ≤ og
  og1 : og ≤ 2251799813685248
  j0 : 0 ≤ j
  j1 : j ≤ i
  i1 : i ≤ 2251799813685248
  sh0 : 0 ≤ sh
  sh1 : sh ≤ 1152921504606846976
  dn0 : -2251799813685248 ≤ dn
  dn1 : dn ≤ 2251799813685248
/-- As much of an amount as there is room for. -/
def wi (c room : Int) : Int := max (min c room) 0
theorem wi_bd (c room : Int) : 0 ≤ wi c room := by unfold wi; omega
theorem wi_le (c : Int) {room : Int} (h : 0 ≤ room) : wi c room ≤ room := by unfold wi; omega
theorem wi_max (c room m : Int) (h : room ≤ m) (h0 : 0 ≤ m) : wi c room ≤ m := by unfold wi; omega

set_option maxHeartbeats 2000000 in
set_option maxRecDepth 100000 in
theorem wi_calls (c room : Int) (w : World) : Calls Try.prog 33 #[.int .i64 c, .int .i64 room] w fun e w' => e = .returned (.int .i64 (wi c room)) ∧ w = w' := by
  go_enter Try.func33, Try.ntmps33
  go_wp2
  go_ret
  exact ⟨rfl, rfl⟩

set_option maxHeartbeats 2000000 in
set_option maxRecDepth 100000 in
theorem balance_calls (r og rt i j sh dn : Int) (w : World) (hF : Fair og i j sh dn) : Calls Try.prog 17 #[nv r og rt i j sh dn] w fun e w' => e = .returned (.int .i64 (og - (i - j) - dn)) ∧ Below w.heap.size w w' := by
  obtain ⟨a0, a1, a2, a3, a4, a5, a6, a7, a8⟩ := hF
  go_enter Try.func17, Try.ntmps17
  have HS0 := Lib.hid (Sts.nil w)
  go_upto_region 1 with fail
  have HS1 := Lib.hid ((HS0.out.add (g := w.heap.size) (by simp) #[.int .i64 r, .int .i64 og, .int .i64 rt, .int .i64 i, .int .i64 j, .int .i64 sh, .int .i64 dn] 27).lit (L' := [(w.heap.size, #[.int .i64 r, .int .i64 og, .int .i64 rt, .int .i64 i, .int .i64 j, .int .i64 sh, .int .i64 dn], 27)]) rfl)
  clear HS0
  generalize w.heap.size = g at *
  refine wp_region_sts HS1.out (by kernel_rfl) (by kernel_rfl) ?_
  have hne : Nonempty (Later w [(g, #[.int .i64 r, .int .i64 og, .int .i64 rt, .int .i64 i, .int .i64 j, .int .i64 sh, .int .i64 dn], 27)]) := ⟨⟨_, HS1.out⟩⟩
  have q0_0 : ∀ p : Later w [(g, #[.int .i64 r, .int .i64 og, .int .i64 rt, .int .i64 i, .int .i64 j, .int .i64 sh, .int .i64 dn], 27)], p.val.cell? ⟨g, 0, none⟩ = some (.int .i64 r) := fun p => p.property.cell 0 0 rfl rfl
  have q0_1 : ∀ p : Later w [(g, #[.int .i64 r, .int .i64 og, .int .i64 rt, .int .i64 i, .int .i64 j, .int .i64 sh, .int .i64 dn], 27)], p.val.cell? ⟨g, 1, none⟩ = some (.int .i64 og) := fun p => p.property.cell 0 1 rfl rfl
  have q0_2 : ∀ p : Later w [(g, #[.int .i64 r, .int .i64 og, .int .i64 rt, .int .i64 i, .int .i64 j, .int .i64 sh, .int .i64 dn], 27)], p.val.cell? ⟨g, 2, none⟩ = some (.int .i64 rt) := fun p => p.property.cell 0 2 rfl rfl
  have q0_3 : ∀ p : Later w [(g, #[.int .i64 r, .int .i64 og, .int .i64 rt, .int .i64 i, .int .i64 j, .int .i64 sh, .int .i64 dn], 27)], p.val.cell? ⟨g, 3, none⟩ = some (.int .i64 i) := fun p => p.property.cell 0 3 rfl rfl
  have q0_4 : ∀ p : Later w [(g, #[.int .i64 r, .int .i64 og, .int .i64 rt, .int .i64 i, .int .i64 j, .int .i64 sh, .int .i64 dn], 27)], p.val.cell? ⟨g, 4, none⟩ = some (.int .i64 j) := fun p => p.property.cell 0 4 rfl rfl
  have q0_5 : ∀ p : Later w [(g, #[.int .i64 r, .int .i64 og, .int .i64 rt, .int .i64 i, .int .i64 j, .int .i64 sh, .int .i64 dn], 27)], p.val.cell? ⟨g, 5, none⟩ = some (.int .i64 sh) := fun p => p.property.cell 0 5 rfl rfl
  have q0_6 : ∀ p : Later w [(g, #[.int .i64 r, .int .i64 og, .int .i64 rt, .int .i64 i, .int .i64 j, .int .i64 sh, .int .i64 dn], 27)], p.val.cell? ⟨g, 6, none⟩ = some (.int .i64 dn) := fun p => p.property.cell 0 6 rfl rfl
  repeat (go_big_quiet_step (first | (go_at_call 18; exact Goes.quiet (has_s _ _ _ (Later.property _) (by omega) (by omega) (by omega) rfl))))
  clear hne q0_0 q0_1 q0_2 q0_3 q0_4 q0_5 q0_6
  refine wpQuiet_nil ?_
  rintro w2 ⟨⟨_, hs⟩, rfl⟩
  have HS2 := Lib.hid hs
  clear hs HS1
  have c0_0 : w2.cell? ⟨g, 0, none⟩ = some (.int .i64 r) := HS2.out.cell 0 0 rfl rfl
  have c0_1 : w2.cell? ⟨g, 1, none⟩ = some (.int .i64 og) := HS2.out.cell 0 1 rfl rfl
  have c0_2 : w2.cell? ⟨g, 2, none⟩ = some (.int .i64 rt) := HS2.out.cell 0 2 rfl rfl
  have c0_3 : w2.cell? ⟨g, 3, none⟩ = some (.int .i64 i) := HS2.out.cell 0 3 rfl rfl
  have c0_4 : w2.cell? ⟨g, 4, none⟩ = some (.int .i64 j) := HS2.out.cell 0 4 rfl rfl
  have c0_5 : w2.cell? ⟨g, 5, none⟩ = some (.int .i64 sh) := HS2.out.cell 0 5 rfl rfl
  have c0_6 : w2.cell? ⟨g, 6, none⟩ = some (.int .i64 dn) := HS2.out.cell 0 6 rfl rfl
  go_wp2
  go_ret
  exact ⟨rfl, HS2.out.bel⟩

set_option maxHeartbeats 2000000 in
set_option maxRecDepth 100000 in
theorem write_calls (g o : Nat) (cs : Array Value) (t : TypeId) (r og rt i j sh dn c : Int) (w : World) (hb : Blk w g cs t) (hA : NoteAt cs o r og rt i j sh dn) (hF : Fair og i j sh dn) (hc0 : -9223372036854775808 ≤ c) (hc1 : c ≤ 9223372036854775807) : Calls Try.prog 15 #[.pointer (some ⟨g, o, none⟩), .int .i64 c] w (Upd (.int .i64 (wi c (og - (i - j) - dn))) g (cs.setIfInBounds (o + 6) (.int .i64 (dn + wi c (og - (i - j) - dn)))) t w) := by
  have d0 : w.cell? ⟨g, o, none⟩ = some (.int .i64 r) := (hb.cell _).trans hA.c0
  have d1 : w.cell? ⟨g, o + 1, none⟩ = some (.int .i64 og) := (hb.cell _).trans hA.c1
  have d2 : w.cell? ⟨g, o + 2, none⟩ = some (.int .i64 rt) := (hb.cell _).trans hA.c2
  have d3 : w.cell? ⟨g, o + 3, none⟩ = some (.int .i64 i) := (hb.cell _).trans hA.c3
  have d4 : w.cell? ⟨g, o + 4, none⟩ = some (.int .i64 j) := (hb.cell _).trans hA.c4
  have d5 : w.cell? ⟨g, o + 5, none⟩ = some (.int .i64 sh) := (hb.cell _).trans hA.c5
  have d6 : w.cell? ⟨g, o + 6, none⟩ = some (.int .i64 dn) := (hb.cell _).trans hA.c6
  have HB := Lib.hid hb
  have HA := Lib.hid hA
  have HF := Lib.hid hF
  obtain ⟨a0, a1, a2, a3, a4, a5, a6, a7, a8⟩ := hF
  clear hb hA
  go_enter Try.func15, Try.ntmps15
  go_wp2_with fail
  refine (balance_calls r og rt i j sh dn _ HF.out).mono ?_
  rintro e w1 ⟨rfl, hbel⟩
  have hb := HB.out.below hbel
  have hk : But g w w1 := But.of_below hbel
  have d6 : w1.cell? ⟨g, o + 6, none⟩ = some (.int .i64 dn) := (hb.cell _).trans HA.out.c6
  have f6 := hb.frozen (o + 6)
  have HB1 := Lib.hid hb
  have HK := Lib.hid hk
  clear hb hbel hk
  go_wp2_with fail
  refine (wi_calls c (og - (i - j) - dn) _).mono ?_
  rintro e w2 ⟨rfl, rfl⟩
  have x0 := wi_bd c (og - (i - j) - dn)
  have x1 := wi_max c (og - (i - j) - dn) 9007199254740992 (by omega) (by omega)
  generalize wi c (og - (i - j) - dn) = v at *
  go_wp2
  go_ret
  exact ⟨rfl, HB1.out.set _ _, HK.out.set _ _⟩

set_option maxHeartbeats 2000000 in
set_option maxRecDepth 100000 in
theorem pay_calls (g o : Nat) (cs : Array Value) (t : TypeId) (r og rt i j sh dn c : Int) (w : World) (hb : Blk w g cs t) (hA : NoteAt cs o r og rt i j sh dn) (hF : Fair og i j sh dn) (hc0 : -9223372036854775808 ≤ c) (hc1 : c ≤ 9223372036854775807) : Calls Try.prog 14 #[.pointer (some ⟨g, o, none⟩), .int .i64 c] w (Upd (.int .i64 (wi c (og - (i - j) - dn))) g (cs.setIfInBounds (o + 3) (.int .i64 (i + wi c (og - (i - j) - dn)))) t w) := by
  have d0 : w.cell? ⟨g, o, none⟩ = some (.int .i64 r) := (hb.cell _).trans hA.c0
  have d1 : w.cell? ⟨g, o + 1, none⟩ = some (.int .i64 og) := (hb.cell _).trans hA.c1
  have d2 : w.cell? ⟨g, o + 2, none⟩ = some (.int .i64 rt) := (hb.cell _).trans hA.c2
  have d3 : w.cell? ⟨g, o + 3, none⟩ = some (.int .i64 i) := (hb.cell _).trans hA.c3
  have d4 : w.cell? ⟨g, o + 4, none⟩ = some (.int .i64 j) := (hb.cell _).trans hA.c4
  have d5 : w.cell? ⟨g, o + 5, none⟩ = some (.int .i64 sh) := (hb.cell _).trans hA.c5
  have d6 : w.cell? ⟨g, o + 6, none⟩ = some (.int .i64 dn) := (hb.cell _).trans hA.c6
  have HB := Lib.hid hb
  have HA := Lib.hid hA
  have HF := Lib.hid hF
  obtain ⟨a0, a1, a2, a3, a4, a5, a6, a7, a8⟩ := hF
  clear hb hA
  go_enter Try.func14, Try.ntmps14
  go_wp2_with fail
  refine (balance_calls r og rt i j sh dn _ HF.out).mono ?_
  rintro e w1 ⟨rfl, hbel⟩
  have hb := HB.out.below hbel
  have hk : But g w w1 := But.of_below hbel
  have HB1 := Lib.hid hb
  have HK := Lib.hid hk
  clear hb hbel hk
  go_wp2_with fail
  refine (wi_calls c (og - (i - j) - dn) _).mono ?_
  rintro e w2 ⟨rfl, rfl⟩
  have x0 := wi_bd c (og - (i - j) - dn)
  have x1 := wi_max c (og - (i - j) - dn) 9007199254740992 (by omega) (by omega)
  generalize wi c (og - (i - j) - dn) = v at *
  go_wp2_with fail
  refine (put_yes g (o + 3) cs t i v _ HB1.out HA.out.c3 (by omega) x0 (by omega)).mono ?_
  rintro e w3 ⟨rfl, hb, hk⟩
  have HB2 := Lib.hid hb
  have HK2 := Lib.hid (HK.out.trans hk)
  clear hb hk
  go_wp2
  go_ret
  exact ⟨rfl, HB2.out, HK2.out⟩

set_option maxHeartbeats 2000000 in
set_option maxRecDepth 100000 in
theorem restore_calls (g o : Nat) (cs : Array Value) (t : TypeId) (r og rt i j sh dn c : Int) (w : World) (hb : Blk w g cs t) (hA : NoteAt cs o r og rt i j sh dn) (hF : Fair og i j sh dn) (hc0 : -9223372036854775808 ≤ c) (hc1 : c ≤ 9223372036854775807) : Calls Try.prog 16 #[.pointer (some ⟨g, o, none⟩), .int .i64 c] w (Upd (.int .i64 (wi c dn)) g (cs.setIfInBounds (o + 6) (.int .i64 (dn - wi c dn))) t w) := by
  have d0 : w.cell? ⟨g, o, none⟩ = some (.int .i64 r) := (hb.cell _).trans hA.c0
  have d1 : w.cell? ⟨g, o + 1, none⟩ = some (.int .i64 og) := (hb.cell _).trans hA.c1
  have d2 : w.cell? ⟨g, o + 2, none⟩ = some (.int .i64 rt) := (hb.cell _).trans hA.c2
  have d3 : w.cell? ⟨g, o + 3, none⟩ = some (.int .i64 i) := (hb.cell _).trans hA.c3
  have d4 : w.cell? ⟨g, o + 4, none⟩ = some (.int .i64 j) := (hb.cell _).trans hA.c4
  have d5 : w.cell? ⟨g, o + 5, none⟩ = some (.int .i64 sh) := (hb.cell _).trans hA.c5
  have d6 : w.cell? ⟨g, o + 6, none⟩ = some (.int .i64 dn) := (hb.cell _).trans hA.c6
  have HB := Lib.hid hb
  have HA := Lib.hid hA
  have HF := Lib.hid hF
  obtain ⟨a0, a1, a2, a3, a4, a5, a6, a7, a8⟩ := hF
  clear hb hA
  go_enter Try.func16, Try.ntmps16
  go_wp2_with fail
  refine (wi_calls c dn _).mono ?_
  rintro e w2 ⟨rfl, rfl⟩
  have f6 := HB.out.frozen (o + 6)
  have x0 := wi_bd c dn
  have x1 := wi_max c dn 9007199254740992 (by omega) (by omega)
  generalize wi c dn = v at *
  go_wp2
  go_ret
  exact ⟨rfl, HB.out.set _ _, (But.refl _ _).set _ _⟩

set_option maxHeartbeats 2000000 in
set_option maxRecDepth 100000 in
theorem settle_calls (g o : Nat) (cs : Array Value) (t : TypeId) (r og rt i j sh dn c : Int) (w : World) (hb : Blk w g cs t) (hA : NoteAt cs o r og rt i j sh dn) (hF : Fair og i j sh dn) (hc0 : -9223372036854775808 ≤ c) (hc1 : c ≤ 9223372036854775807) : Calls Try.prog 25 #[.pointer (some ⟨g, o, none⟩), .int .i64 c] w (Upd (.int .i64 (wi c sh)) g (cs.setIfInBounds (o + 5) (.int .i64 (sh - wi c sh))) t w) := by
  have d0 : w.cell? ⟨g, o, none⟩ = some (.int .i64 r) := (hb.cell _).trans hA.c0
  have d1 : w.cell? ⟨g, o + 1, none⟩ = some (.int .i64 og) := (hb.cell _).trans hA.c1
  have d2 : w.cell? ⟨g, o + 2, none⟩ = some (.int .i64 rt) := (hb.cell _).trans hA.c2
  have d3 : w.cell? ⟨g, o + 3, none⟩ = some (.int .i64 i) := (hb.cell _).trans hA.c3
  have d4 : w.cell? ⟨g, o + 4, none⟩ = some (.int .i64 j) := (hb.cell _).trans hA.c4
  have d5 : w.cell? ⟨g, o + 5, none⟩ = some (.int .i64 sh) := (hb.cell _).trans hA.c5
  have d6 : w.cell? ⟨g, o + 6, none⟩ = some (.int .i64 dn) := (hb.cell _).trans hA.c6
  have HB := Lib.hid hb
  have HA := Lib.hid hA
  have HF := Lib.hid hF
  obtain ⟨a0, a1, a2, a3, a4, a5, a6, a7, a8⟩ := hF
  clear hb hA
  go_enter Try.func25, Try.ntmps25
  go_wp2_with fail
  refine (wi_calls c sh _).mono ?_
  rintro e w2 ⟨rfl, rfl⟩
  have f5 := HB.out.frozen (o + 5)
  have x0 := wi_bd c sh
  have x1 := wi_max c sh 1152921504606846976 (by omega) (by omega)
  generalize wi c sh = v at *
  go_wp2
  go_ret
  exact ⟨rfl, HB.out.set _ _, (But.refl _ _).set _ _⟩

set_option maxHeartbeats 2000000 in
set_option maxRecDepth 100000 in
theorem oweyes_calls (g o : Nat) (cs : Array Value) (t : TypeId) (r og rt i j sh dn c : Int) (w : World) (hb : Blk w g cs t) (hA : NoteAt cs o r og rt i j sh dn) (hF : Fair og i j sh dn) (hc0 : -9223372036854775808 ≤ c) (hc1 : c ≤ 9223372036854775807) (hc2 : 0 ≤ c) (hc3 : sh + c ≤ 1152921504606846976) : Calls Try.prog 24 #[.pointer (some ⟨g, o, none⟩), .int .i64 c] w (Upd (.bool true) g (cs.setIfInBounds (o + 5) (.int .i64 (sh + c))) t w) := by
  have d0 : w.cell? ⟨g, o, none⟩ = some (.int .i64 r) := (hb.cell _).trans hA.c0
  have d1 : w.cell? ⟨g, o + 1, none⟩ = some (.int .i64 og) := (hb.cell _).trans hA.c1
  have d2 : w.cell? ⟨g, o + 2, none⟩ = some (.int .i64 rt) := (hb.cell _).trans hA.c2
  have d3 : w.cell? ⟨g, o + 3, none⟩ = some (.int .i64 i) := (hb.cell _).trans hA.c3
  have d4 : w.cell? ⟨g, o + 4, none⟩ = some (.int .i64 j) := (hb.cell _).trans hA.c4
  have d5 : w.cell? ⟨g, o + 5, none⟩ = some (.int .i64 sh) := (hb.cell _).trans hA.c5
  have d6 : w.cell? ⟨g, o + 6, none⟩ = some (.int .i64 dn) := (hb.cell _).trans hA.c6
  have HB := Lib.hid hb
  have HA := Lib.hid hA
  have HF := Lib.hid hF
  obtain ⟨a0, a1, a2, a3, a4, a5, a6, a7, a8⟩ := hF
  clear hb hA
  go_enter Try.func24, Try.ntmps24
  go_wp2_with fail
  refine (sum2_yes sh c w.heap.size 2 _ (by simp) (by simp) a5 hc2 (by omega)).mono ?_
  rintro e w1 ⟨rfl, hw⟩
  have hb : Blk w1 g cs t := hw ▸ HB.out.alloc _
  have hk : But g w w1 := hw ▸ (But.refl _ _).alloc _
  have f5 := hb.frozen (o + 5)
  have d5 : w1.cell? ⟨g, o + 5, none⟩ = some (.int .i64 sh) := (hb.cell _).trans HA.out.c5
  clear hw
  have HB1 := Lib.hid hb
  have HK := Lib.hid hk
  clear hb hk
  go_wp2
  go_ret
  exact ⟨rfl, HB1.out.set _ _, HK.out.set _ _⟩

set_option maxHeartbeats 2000000 in
set_option maxRecDepth 100000 in
theorem oweno_calls (g o : Nat) (cs : Array Value) (t : TypeId) (r og rt i j sh dn c : Int) (w : World) (hb : Blk w g cs t) (hA : NoteAt cs o r og rt i j sh dn) (hF : Fair og i j sh dn) (hc0 : -9223372036854775808 ≤ c) (hc1 : c ≤ 9223372036854775807) (hc2 : c < 0 ∨ 1152921504606846976 < sh + c) : Calls Try.prog 24 #[.pointer (some ⟨g, o, none⟩), .int .i64 c] w (fun e w' => e = .returned (.bool false) ∧ Below w.heap.size w w') := by
  have d0 : w.cell? ⟨g, o, none⟩ = some (.int .i64 r) := (hb.cell _).trans hA.c0
  have d1 : w.cell? ⟨g, o + 1, none⟩ = some (.int .i64 og) := (hb.cell _).trans hA.c1
  have d2 : w.cell? ⟨g, o + 2, none⟩ = some (.int .i64 rt) := (hb.cell _).trans hA.c2
  have d3 : w.cell? ⟨g, o + 3, none⟩ = some (.int .i64 i) := (hb.cell _).trans hA.c3
  have d4 : w.cell? ⟨g, o + 4, none⟩ = some (.int .i64 j) := (hb.cell _).trans hA.c4
  have d5 : w.cell? ⟨g, o + 5, none⟩ = some (.int .i64 sh) := (hb.cell _).trans hA.c5
  have d6 : w.cell? ⟨g, o + 6, none⟩ = some (.int .i64 dn) := (hb.cell _).trans hA.c6
  have HB := Lib.hid hb
  have HA := Lib.hid hA
  have HF := Lib.hid hF
  obtain ⟨a0, a1, a2, a3, a4, a5, a6, a7, a8⟩ := hF
  clear hb hA
  go_enter Try.func24, Try.ntmps24
  go_wp2_with fail
  refine (sum2_no sh c w.heap.size 2 _ (by simp) (by simp) a5 a6 hc0 hc1 hc2).mono ?_
  rintro e w1 ⟨rfl, rfl⟩
  go_wp2
  go_ret
  exact ⟨rfl, bel_alloc (Below.refl _ _) _⟩

set_option maxHeartbeats 2000000 in
set_option maxRecDepth 100000 in
theorem new_calls (r og rt : Int) (w : World) : Calls Try.prog 13 #[.agg #[.int .i64 r, .int .i64 og, .int .i64 rt]] w fun e w' => e = .returned (nv r og rt 0 0 0 0) ∧ Below w.heap.size w w' := by
  go_enter Try.func13, Try.ntmps13
  go_wp2
  have e1 := (Blk.newAt (w := (w.alloc (.cells #[.int .i64 r, .int .i64 og, .int .i64 rt] 23))) (g := w.heap.size + 1) (by simp) (ncells r og rt 0 0 0 0) 27)
  refine bodyPost_ret (v := nv r og rt 0 0 0 0) (by simp [results, Try.results13, go_sem, e1.cell]) rfl ⟨rfl, bel_alloc (bel_alloc (Below.refl _ _) _) _⟩

end Go.Proofs.Ytllbpjaiplnbnaa

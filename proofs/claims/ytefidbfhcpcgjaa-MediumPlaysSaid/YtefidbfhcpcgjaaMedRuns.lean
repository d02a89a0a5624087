import Derived.Test.YtefidbfhcpcgjaaMedC
namespace Go.Proofs.Ytefidbfhcpcgjaa
open Go.RowKit
set_option linter.unusedVariables false
set_option linter.unusedSimpArgs false
section
variable {w0 W : World} {A B : List Ent} {g : Nat} {s s' : Med} {v : Int}
theorem MedAt.alloc (h : MedAt w0 A B g s W) (o : Obj) : MedAt w0 A B g s (W.alloc o) := h.below (bel_alloc (Below.refl _ _) o)
theorem apart_new (h : MedAt w0 A B g s W) (n : Nat) : Apart (some ⟨W.heap.size, 0, none⟩) n g := by
  intro ad e hn
  obtain rfl := Option.some.inj e
  have := h.ge.2
  show W.heap.size ≠ g
  omega
theorem append_is {C : Option Addr} {n c : Nat} {l : List Int} (h : MedAt w0 A B g s W) (hok : s.Ok) (hs : Src W C n 1 (bs l)) (ha : Apart C n g) (hn : s.b.length + n ≤ 900000) (e : s.append l = (v, s')) : Calls Try.prog 22 #[.pointer (some ⟨g, 0, none⟩), .slice C n c] W (MedGoes (.int .i64 v) w0 A B g s') := by
  have := medAppend_calls (c := c) h hok hs ha hn
  rwa [e] at this
theorem flush_is (h : MedAt w0 A B g s W) (hok : s.Ok) (e : s.flush = (v, s')) : Calls Try.prog 23 #[.pointer (some ⟨g, 0, none⟩)] W (MedGoes (.int .i64 v) w0 A B g s') := by
  have := medFlush_calls h hok
  rwa [e] at this
theorem cut_is (n : Int) (h : MedAt w0 A B g s W) (hok : s.Ok) (e : s.cut n = (v, s')) : Calls Try.prog 29 #[.pointer (some ⟨g, 0, none⟩), .int .i64 n] W (MedGoes (.int .i64 v) w0 A B g s') := by
  have := medCut_calls n h hok
  rwa [e] at this
theorem boot_is (k : Int) (h : MedAt w0 A B g s W) (hok : s.Ok) (e : s.boot k = s') : Calls Try.prog 24 #[.pointer (some ⟨g, 0, none⟩), .int .i64 k] W (MedGoes (.tuple #[]) w0 A B g s') := by
  have := medBoot_calls k h hok
  rwa [e] at this
theorem firm_is (h : MedAt w0 A B g s W) {n : Int} (e : (s.firm : Int) = n) : Calls Try.prog 26 #[.pointer (some ⟨g, 0, none⟩)] W fun e w' => e = .returned (.int .i64 n) ∧ W = w' := e ▸ medFirm_calls h
theorem off_is (h : MedAt w0 A B g s W) {v : Bool} (e : s.off = v) : Calls Try.prog 31 #[.pointer (some ⟨g, 0, none⟩)] W fun e w' => e = .returned (.bool v) ∧ W = w' := e ▸ medOff_calls h
/-- Bytes; the medium stays. -/
theorem bytes_is (h : MedAt w0 A B g s W) (hok : s.Ok) {l : List Int} (e : s.bytes = l) : Calls Try.prog 25 #[.pointer (some ⟨g, 0, none⟩)] W fun e w' => ∃ a m c, e = .returned (.slice a m c) ∧ Src w' a m 1 (bs l) ∧ MedAt w0 A B g s w' ∧ Below W.heap.size W w' ∧ m = l.length ∧ m ≤ c ∧ c ≤ 9223372036854775807 :=
  e ▸ (medBytes_calls h hok).mono fun _ _ ⟨a, m, c, h1, h2, h3, h4, h5⟩ => ⟨a, m, c, h1, h2, h.below h3, h3, h2.len.symm, h4, h5⟩
end
def m0 : Med := ⟨[], 0, false, 0, false⟩
theorem m0_ok : m0.Ok := ⟨Byt.nil, by decide, by decide, by decide, by decide, fun h => by cases h⟩
theorem byt_of (l : List Int) (h : l.all (fun x => decide (0 ≤ x ∧ x ≤ 255)) = true) : Byt l := by
  intro x hx
  have := List.all_eq_true.1 h x hx
  simpa using this
set_option maxHeartbeats 2000000 in
set_option maxRecDepth 100000 in
theorem mediumRuns_calls (w : World) : Calls Try.prog 5 #[] w fun e w' => e = .returned (.bool true) ∧ Below w.heap.size w w' := by
  have HS0 := Lib.hid (Sts.nil w)
  go_enter Try.func5, Try.ntmps5
  go_wp2_with fail
  refine (medNew_calls (w0 := w) (A := []) (B := []) HS0.out).mono ?_
  rintro e w1 ⟨g, rfl, hm⟩
  have M1 := Lib.hid hm
  clear hm HS0
  go_wp2_with fail
  refine (append_is (l := [1, 2]) (s' := ⟨[1, 2], 0, false, 0, false⟩) (v := 0) (M1.out.alloc _) m0_ok (Src.new (size := 1) (m := 2) rfl rfl) (apart_new M1.out 2) (by decide) rfl).mono ?_
  rintro e w2 ⟨rfl, hm⟩
  have M2 := Lib.hid hm
  clear hm M1
  go_wp2_with fail
  refine (flush_is (s' := ⟨[1, 2], 2, false, 0, false⟩) (v := 0) M2.out (m0_ok.append (byt_of [1, 2] rfl) (by decide)) rfl).mono ?_
  rintro e w3 ⟨rfl, hm⟩
  have M3 := Lib.hid hm
  clear hm M2
  have ok3 : Med.Ok ⟨[1, 2], 2, false, 0, false⟩ := (m0_ok.append (byt_of [1, 2] rfl) (by decide)).flush
  go_wp2_with fail
  refine (append_is (l := [3, 4]) (s' := ⟨[1, 2, 3, 4], 2, false, 0, false⟩) (v := 0) (M3.out.alloc _) ok3 (Src.new (size := 1) (m := 2) rfl rfl) (apart_new M3.out 2) (by decide) rfl).mono ?_
  rintro e w4 ⟨rfl, hm⟩
  have M4 := Lib.hid hm
  clear hm M3
  have ok4 : Med.Ok ⟨[1, 2, 3, 4], 2, false, 0, false⟩ := ok3.append (byt_of [3, 4] rfl) (by decide)
  clear ok3
  go_wp2_with fail
  refine (boot_is 1 (s' := ⟨[1, 2, 3], 3, false, 0, false⟩) M4.out ok4 rfl).mono ?_
  rintro e w5 ⟨rfl, hm⟩
  have M5 := Lib.hid hm
  have ok5 : Med.Ok ⟨[1, 2, 3], 3, false, 0, false⟩ := ok4.boot 1
  clear hm M4 ok4
  go_wp2_with fail
  refine (bytes_is M5.out ok5 (l := [1, 2, 3]) rfl).mono ?_
  rintro e w6 ⟨a6, m6, c6, rfl, hP, hm, hb, hl, hc1, hc2⟩
  have P6 := Lib.hid hP; have M6 := Lib.hid hm
  obtain rfl : m6 = 3 := hl
  clear hP hm hb M5
  go_wp2_with fail
  refine (same_yes [1, 2, 3] [1, 2, 3] (P6.out.alloc _) (Src.new (size := 1) (m := 3) rfl rfl) (by omega) (by omega) rfl).mono ?_
  rintro e w7 ⟨rfl, n7, hw7⟩
  have M7 := Lib.hid (show MedAt w [] [] g _ w7 from hw7 ▸ (M6.out.alloc _).drewN n7)
  clear hw7 M6 P6
  go_wp2_with fail
  refine (firm_is M7.out (n := 3) rfl).mono ?_
  rintro e w8 ⟨rfl, rfl⟩
  go_wp2
  go_ret
  exact ⟨rfl, M7.out.bel⟩
theorem mediumRuns_b {w W : World} (h : Below w.heap.size w W) : Calls Try.prog 5 #[] W fun e w' => e = .returned (.bool true) ∧ Below w.heap.size w w' :=
  (mediumRuns_calls W).mono fun _ _ ⟨he, hb⟩ => ⟨he, bel_then h hb h.size⟩
end Go.Proofs.Ytefidbfhcpcgjaa

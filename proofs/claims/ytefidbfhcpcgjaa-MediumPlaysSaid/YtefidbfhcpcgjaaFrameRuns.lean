import Derived.Test.YtefidbfhcpcgjaaSameB
import Derived.Lib.SlBytesConst
namespace Go.Proofs.Ytefidbfhcpcgjaa
open Go.RowKit
set_option linter.unusedVariables false
set_option linter.unusedSimpArgs false
theorem same_yes {A B : Option Addr} {n c m d : Nat} (a b : List Int) {w : World} (ha : Src w A n 1 (bs a)) (hb : Src w B m 1 (bs b)) (hn : n ≤ 1000000) (hm : m ≤ 9223372036854775807) (h : a = b) :
    Calls Try.prog 18 #[.slice A n c, .slice B m d] w fun e w' => e = .returned (.bool true) ∧ ∃ k, w' = w.drewN k :=
  (same_calls A B n c m d a b w ha hb hn hm).mono fun _ _ ⟨he, hw⟩ => ⟨by rw [he, decide_eq_true h], hw⟩
theorem same_no {A B : Option Addr} {n c m d : Nat} (a b : List Int) {w : World} (ha : Src w A n 1 (bs a)) (hb : Src w B m 1 (bs b)) (hn : n ≤ 1000000) (hm : m ≤ 9223372036854775807) (h : a ≠ b) :
    Calls Try.prog 18 #[.slice A n c, .slice B m d] w fun e w' => e = .returned (.bool false) ∧ ∃ k, w' = w.drewN k :=
  (same_calls A B n c m d a b w ha hb hn hm).mono fun _ _ ⟨he, hw⟩ => ⟨by rw [he, decide_eq_false h], hw⟩
theorem fsum_is {A : Option Addr} {n cap : Nat} (l : List Int) {w : World} (hs : Src w A n 1 (bs l)) (hb : Byt l) (hn : n ≤ 100000) {v : Int} (hv : sm l = v) :
    Calls Try.prog 20 #[.slice A n cap] w fun e w' => e = .returned (.int .i64 v) ∧ w = w' := hv ▸ fsum_calls A n cap l w hs hb hn
theorem Src.newM {W : World} {size : Nat} {cs : Array Value} {t : TypeId} {m : Nat} {fr : Nat × Nat} (hm : cs.size = m * size) {g : Nat} (hg : g = W.heap.size) : Src (W.alloc (.cells cs t fr)) (some ⟨g, 0, none⟩) m size cs.toList := by
  subst hg
  refine ⟨by simpa using hm, fun _ => ⟨_, rfl, fun j u hu => ?_⟩⟩
  have e1 : (⟨W.heap.size, 0, none⟩ : Addr).add j = ⟨W.heap.size, j, none⟩ := by unfold Addr.add; split <;> simp_all
  have e2 : (W.alloc (.cells cs t fr)).heap[W.heap.size]? = some (.cells cs t fr) := by show (W.heap.push _)[W.heap.size]? = _; simp
  rw [e1]
  simp only [World.cell?, e2]
  simpa using hu
theorem bel_drw {B : Nat} {a b : World} (h : Below B a b) (n : Nat) : Below B a (b.drewN n) := bel_drewN h n
set_option maxHeartbeats 2000000 in
set_option maxRecDepth 100000 in
theorem frameRuns_calls (w : World) : Calls Try.prog 3 #[] w fun e w' => e = .returned (.bool true) ∧ Below w.heap.size w w' := by
  have kc := fun (w : World) (C : Array Value) (n c : Nat) => Lib.run_convert_bytes_const (P := Try.prog) w 23 5 C n c Try.underlying23 Try.underlying5
  go_enter Try.func3, Try.ntmps3
  go_wp2_with fail
  refine (seal_calls 1 [97, 98] _ 2 2 _ (Src.newM (size := 1) (m := 2) rfl rfl) (by intro x hx; simp only [List.mem_cons, List.not_mem_nil, or_false] at hx; rcases hx with rfl | rfl <;> decide) (by omega) (by omega) (by omega)).mono ?_
  rintro e w1 ⟨R1, a1, c1, rfl, hR1, hS1⟩
  have S1 := Lib.hid (hR1.src0 hS1)
  have B1 := Lib.hid (bel_then (bel_alloc (Below.refl _ w) _) hS1.bel (by simp))
  clear hR1 hS1
  go_wp2_with fail
  refine (same_yes (sealL 1 [97, 98]) [0, 2, 0, 0, 0, 1, 0, 3, 97, 98, 0, 195] (S1.out.alloc _) (Src.new (size := 1) (m := 12) rfl rfl) (by omega) (by omega) (by decide)).mono ?_
  rintro e w2 ⟨rfl, k2, hw2⟩
  have B2 : Hid (Below w.heap.size w w2) := Lib.hid (by rw [hw2]; exact bel_drewN (bel_alloc B1.out _) _)
  clear hw2 S1 B1
  go_wp2_with fail
  refine (fsum_is [255, 255] (Src.new (size := 1) (m := 2) rfl rfl) (by intro x hx; simp only [List.mem_cons, List.not_mem_nil, or_false] at hx; rcases hx with rfl | rfl <;> decide) (by omega) (v := 510) (by decide)).mono ?_
  rintro e w3 ⟨rfl, hw3⟩
  have B3 : Hid (Below w.heap.size w w3) := Lib.hid (by rw [← hw3]; exact bel_alloc B2.out _)
  clear hw3 B2
  go_wp2_with fail
  refine (fsum_is [] (Src.nil _ 1) Byt.nil (by omega) (v := 0) (by decide)).mono ?_
  rintro e w4 ⟨rfl, rfl⟩
  go_wp2
  go_ret
  exact ⟨rfl, B3.out⟩
theorem frameRuns_b {w W : World} (h : Below w.heap.size w W) : Calls Try.prog 3 #[] W fun e w' => e = .returned (.bool true) ∧ Below w.heap.size w w' :=
  (frameRuns_calls W).mono fun _ _ ⟨he, hb⟩ => ⟨he, bel_then h hb h.size⟩
end Go.Proofs.Ytefidbfhcpcgjaa

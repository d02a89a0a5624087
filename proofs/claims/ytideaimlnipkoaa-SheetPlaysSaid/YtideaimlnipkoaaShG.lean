import Derived.Test.YtideaimlnipkoaaShF
namespace Go.Proofs.Ytideaimlnipkoaa
open Go.RowKit
set_option linter.unusedVariables false
set_option linter.unusedSimpArgs false
section
variable {w0 W : World} {L : List Ent} {g cnt : Nat} {bal : List Int}
theorem post_yes {A : Option Addr} {n c : Nat} (es : List (Int × Int)) {v : List Int} (h : ShAt w0 L g bal cnt W) (hE : Ents W A n es) (hn : n ≤ 900000) (hl : bal.length ≤ 64) (hb : ∀ x ∈ bal, Bd x) (hc : cnt ≤ 1000000) (e : postF bal es = some v) :
    Calls Try.prog 10 #[.pointer (some ⟨g, 0, none⟩), .slice A n c] W fun e w' => e = .returned (.bool true) ∧ ShAt w0 L g v (cnt + 1) w' := by
  have := post_calls A n c es h hE hn hl hb hc
  rwa [e] at this
theorem post_none {A : Option Addr} {n c : Nat} (es : List (Int × Int)) (h : ShAt w0 L g bal cnt W) (hE : Ents W A n es) (hn : n ≤ 900000) (hl : bal.length ≤ 64) (hb : ∀ x ∈ bal, Bd x) (hc : cnt ≤ 1000000) (e : postF bal es = none) :
    Calls Try.prog 10 #[.pointer (some ⟨g, 0, none⟩), .slice A n c] W fun e w' => e = .returned (.bool false) ∧ ShAt w0 L g bal cnt w' := by
  have := post_calls A n c es h hE hn hl hb hc
  rwa [e] at this
theorem move_yes (f t x : Int) {v : List Int} (h : ShAt w0 L g bal cnt W) (hf : Bd f) (ht : Bd t) (hx : Bd x) (hl : bal.length ≤ 64) (hb : ∀ x ∈ bal, Bd x) (hc : cnt ≤ 1000000) (e : moveF bal f t x = some v) :
    Calls Try.prog 9 #[.pointer (some ⟨g, 0, none⟩), .int .i64 f, .int .i64 t, .int .i64 x] W fun e w' => e = .returned (.bool true) ∧ ShAt w0 L g v (cnt + 1) w' := by
  have := move_calls f t x h hf ht hx hl hb hc
  rwa [e] at this
end
def bdB (x : Int) : Bool := decide (-9223372036854775808 ≤ x) && decide (x ≤ 9223372036854775807)
theorem bd_of {x : Int} (h : bdB x = true) : Bd x := by unfold bdB at h; unfold Bd; simpa using h
theorem bds_of (l : List Int) (h : l.all bdB = true) : ∀ x ∈ l, Bd x := fun x hx => bd_of (List.all_eq_true.1 h x hx)
theorem ents_new {W : World} {cs : Array Value} {t : TypeId} {m : Nat} (es : List (Int × Int)) (h : cs.toList = ecs es) (hm : es.length = m) (hb : es.all (fun e => bdB e.1 && bdB e.2) = true) {g : Nat} (hg : g = W.heap.size) : Ents (W.alloc (.cells cs t)) (some ⟨g, 0, none⟩) m es := by
  refine ⟨?_, fun e he => ?_⟩
  · rw [← h]; exact Src.new (by rw [← Array.length_toList, h, ecs_length, hm]) hg
  · have := List.all_eq_true.1 hb e he
    simp only [Bool.and_eq_true] at this
    exact ⟨bd_of this.1, bd_of this.2⟩
set_option maxHeartbeats 2000000 in
set_option maxRecDepth 100000 in
theorem sheetRuns_calls (w : World) : Calls Try.prog 3 #[] w fun e w' => e = .returned (.bool true) ∧ Below w.heap.size w w' := by
  have HS0 := Lib.hid (Sts.nil w)
  go_enter Try.func3, Try.ntmps3
  go_wp2_with fail
  refine (new_calls (w0 := w) (L := []) 3 3 (by decide) HS0.out).mono ?_
  rintro e w1 ⟨g, rfl, hs⟩
  have S1 := Lib.hid (show ShAt w [] g [0, 0, 0] 0 w1 from hs)
  clear hs HS0
  go_wp2_with fail
  refine (move_yes 0 1 5 (v := [-5, 5, 0]) S1.out (bd_of rfl) (bd_of rfl) (bd_of rfl) (by decide) (bds_of _ rfl) (by decide) (by decide)).mono ?_
  rintro e w2 ⟨rfl, hs⟩
  have S2 := Lib.hid hs
  clear hs S1
  go_wp2_with fail
  refine (post_yes [(1, -2), (2, 2)] (v := [-5, 3, 2]) (S2.out.alloc _) (ents_new _ rfl rfl rfl rfl) (by decide) (by decide) (bds_of _ rfl) (by decide) (by decide)).mono ?_
  rintro e w3 ⟨rfl, hs⟩
  have S3 := Lib.hid hs
  clear hs S2
  go_wp2_with fail
  refine (post_none [(0, 1)] (S3.out.alloc _) (ents_new _ rfl rfl rfl rfl) (by decide) (by decide) (bds_of _ rfl) (by decide) (by decide)).mono ?_
  rintro e w4 ⟨rfl, hs⟩
  have S4 := Lib.hid hs
  clear hs S3
  go_wp2_with fail
  refine (balances_calls S4.out (by decide)).mono ?_
  rintro e w5 ⟨R, a, cap, rfl, hR, hs⟩
  have hsrc := hs.src hR (fun x hx => by simp [hx])
  have S5 := Lib.hid hs; have P5 := Lib.hid hsrc
  clear hs hR hsrc S4
  go_wp2_with fail
  refine (sameI_yes [-5, 3, 2] [-5, 3, 2] (P5.out.alloc _) (Src.new (size := 1) (m := 3) rfl rfl) (by decide) (by decide) rfl).mono ?_
  rintro e w6 ⟨rfl, k, hw⟩
  have S6 := Lib.hid (show ShAt w _ g [-5, 3, 2] 2 w6 from hw ▸ (S5.out.alloc _).drewN k)
  clear hw S5 P5
  go_wp2_with fail
  refine (count_calls S6.out).mono ?_
  rintro e w' ⟨rfl, rfl⟩
  go_wp2
  go_ret
  exact ⟨rfl, S6.out.bel⟩
theorem sheetRuns_b {w W : World} (h : Below w.heap.size w W) : Calls Try.prog 3 #[] W fun e w' => e = .returned (.bool true) ∧ Below w.heap.size w w' :=
  (sheetRuns_calls W).mono fun _ _ ⟨he, hb⟩ => ⟨he, bel_then h hb h.size⟩
end Go.Proofs.Ytideaimlnipkoaa

import Derived.Test.YticddmmbphoioaaModeO
import Derived.Test.YticddmmbphoioaaModeR
import Derived.Deep.MidRow
namespace Go.Proofs.Yticddmmbphoioaa
open Go.RowKit
set_option linter.unusedVariables false
set_option linter.unusedSimpArgs false
/-! ### Many cells at once -/
def fillA (cs : Array Value) : Nat → List Value → Array Value
  | _, [] => cs
  | o, v :: r => fillA (cs.setIfInBounds o v) (o + 1) r
theorem Blk.fill {g : Nat} {t : TypeId} : ∀ (vs : List Value) (o : Nat) (W : World) (cs : Array Value), Blk W g cs t → Blk (W.setCells g o vs) g (fillA cs o vs) t
  | [], _, _, _, h => h
  | v :: r, o, W, cs, h => Blk.fill r (o + 1) _ _ (h.set o v)
theorem But.fill {g : Nat} : ∀ (vs : List Value) (o : Nat) (W : World), But g W (W.setCells g o vs)
  | [], _, _ => But.refl _ _
  | v :: r, o, W => ((But.refl g W).set o v).trans (But.fill r (o + 1) _)
theorem Sts.fill {w0 W : World} {L : List Ent} {g : Nat} {cs : Array Value} {t : TypeId} (h : Sts w0 L W) (k : Nat) (hk : L[k]? = some (g, cs, t)) (vs : List Value) : Sts w0 (L.set k (g, fillA cs 0 vs, t)) (W.setCells g 0 vs) :=
  h.upd k hk (Blk.fill vs 0 W cs (h.at_ k hk)) (But.fill vs 0 W)
theorem Sts.range {w0 W : World} {L : List Ent} {g : Nat} {cs : Array Value} {t : TypeId} (h : Sts w0 L W) (k : Nat) (hk : L[k]? = some (g, cs, t)) : W.rangeAt g 0 cs.toList := fun j v hv => by
  rw [Nat.zero_add]
  exact h.cell k j hk (by rw [← Array.getElem?_toList]; exact hv)
theorem Sts.there {w0 W : World} {L : List Ent} {g n : Nat} {cs : Array Value} {t : TypeId} (h : Sts w0 L W) (k : Nat) (hk : L[k]? = some (g, cs, t)) (hn : cs.size = n) : W.there g 0 n := fun j hj => by
  rw [Nat.zero_add]
  refine ⟨?_, h.frozen k j hk⟩
  rw [(h.at_ k hk).cell j, Array.getElem?_eq_getElem (show j < cs.size by omega)]
  rfl
theorem deal_size : (Try.prog.info? 54).map (·.size) = some 18 := by kernel_rfl
theorem keep_size : (Try.prog.info? 44).map (·.size) = some 20 := by kernel_rfl
theorem ds_one (k : Kd) (L N S0 S1 S2 : Sl) : (k.ds L N S0 S1 S2).toList.toArray.all (·.oneCell') = true := by kernel_rfl
theorem ds_fill (k : Kd) (L N S0 S1 S2 : Sl) : fillA z18 0 (k.ds L N S0 S1 S2).toList = k.ds L N S0 S1 S2 := by simp [Kd.ds, z18, fillA]
/-! ### Steps -/
set_option maxHeartbeats 4000000 in
set_option maxRecDepth 100000 in
theorem steps_no (ds : Array Value) (m p : Int) (w : World) (h : m < 0 ∨ 3 ≤ m) :
    Calls Try.prog 25 #[.agg ds, .agg #[.int .i64 m, .int .i64 p]] w fun e w' => e = .returned (.slice none 0 0) ∧ Below w.heap.size w w' := by
  have h1 := (Sts.nil w).add (g := w.heap.size) rfl ds 54
  have h2 := h1.add (g := w.heap.size + 1) (by unfold World.alloc; rw [Array.size_push]) #[.int .i64 m, .int .i64 p] 25
  have HS := Lib.hid h2
  clear h1 h2
  go_enter Try.func25, Try.ntmps25
  go_upto_region 1 with fail
  generalize (w.alloc (.cells ds 54)).alloc (.cells #[.int .i64 m, .int .i64 p] 25) = w3 at *
  generalize w.heap.size + 1 = g2 at *
  generalize hg : w.heap.size = g1 at *
  have c0 := HS.out.cell 1 0 rfl (v := .int .i64 m) rfl
  by_cases h0 : m < 0
  · have b0 : decide (m < 0) = true := decide_eq_true h0
    go_wp2_with fail
    go_ret
    first | exact ⟨rfl, HS.out.bel⟩ | exact ⟨rfl, by rw [← hg]; exact HS.out.bel⟩
  · have b0 : decide (m < 0) = false := decide_eq_false h0
    have b1 : decide (3 ≤ m) = true := decide_eq_true (by omega)
    go_wp2_with fail
    go_ret
    first | exact ⟨rfl, HS.out.bel⟩ | exact ⟨rfl, by rw [← hg]; exact HS.out.bel⟩
set_option maxHeartbeats 4000000 in
set_option maxRecDepth 100000 in
theorem steps_yes (ds : Array Value) (m : Nat) (p : Int) (w : World) (hm : m < 3) (ad : Addr) (n c : Nat) (cs : List Value) (hd : ds[15 + m]? = some (.slice (some ad) n c)) (hs : Src w (some ad) n 2 cs) (h1 : ∀ u ∈ cs, u.oneCell' = true) (hn : n ≤ 900000) :
    Calls Try.prog 25 #[.agg ds, .agg #[.int .i64 m, .int .i64 p]] w fun e w' => ∃ R a c', e = .returned (.slice a n c') ∧ Row R 59 2 a n c' cs ∧ Sts w R w' := by
  have h1' := (Sts.nil w).add (g := w.heap.size) rfl ds 54
  have h2 := h1'.add (g := w.heap.size + 1) (by unfold World.alloc; rw [Array.size_push]) #[.int .i64 m, .int .i64 p] 25
  have HS := Lib.hid h2
  have H1 := Lib.hid h1
  have HSR := Lib.hid (hs.below h2.bel)
  clear h1' h2 h1 hs
  go_enter Try.func25, Try.ntmps25
  go_upto_region 1 with fail
  generalize (w.alloc (.cells ds 54)).alloc (.cells #[.int .i64 m, .int .i64 p] 25) = w3 at *
  generalize w.heap.size + 1 = g2 at *
  generalize hg : w.heap.size = g1 at *
  have c0 := HS.out.cell 1 0 rfl (v := .int .i64 m) rfl
  have d0 := HS.out.cell 0 (15 + m) rfl hd
  have m0 : (0 : Int) ≤ (m : Int) := by omega
  have m1 : (m : Int) < 3 := by omega
  have b0 : decide ((m : Int) < 0) = false := decide_eq_false (by omega)
  have b1 : decide (3 ≤ (m : Int)) = false := decide_eq_false (by omega)
  go_wp2_with fail
  refine (cloneS_some ad n c cs w3 HSR.out H1.out hn).mono ?_
  rintro e w4 ⟨R, a, c', rfl, hR, hS⟩
  have HJ := Lib.hid (Sts.join [(g1, ds, 54), (g2, #[.int .i64 m, .int .i64 p], 25)] [] HS.out hS)
  have HR := Lib.hid hR
  clear hR hS
  go_wp2_with fail
  go_ret
  exact ⟨R, a, c', rfl, HR.out, HJ.out.sub (by simp)⟩
end Go.Proofs.Yticddmmbphoioaa

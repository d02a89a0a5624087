import Derived.Test.YticddmmbphoioaaChainRow
import Derived.Test.YticddmmbphoioaaMove
namespace Go.Proofs.Yticddmmbphoioaa
open Go.RowKit
set_option linter.unusedVariables false
set_option linter.unusedSimpArgs false

def ChainSt (w0 : World) (gl : Nat) (I J : Nat → Int) (W : World) : Prop := ∃ cs, RowAt cs I J ∧ Sts w0 [(gl, cs, 35)] W
def ChainGoes (r : Int) (w0 : World) (gl : Nat) (I J : Nat → Int) (e : Ending) (w' : World) : Prop := e = .returned (.int .i64 r) ∧ ChainSt w0 gl I J w'
theorem ChainSt.below {w0 W W1 : World} {gl : Nat} {I J : Nat → Int} (h : ChainSt w0 gl I J W) (hb : Below W.heap.size W W1) : ChainSt w0 gl I J W1 := by
  obtain ⟨cs, hr, hs⟩ := h; exact ⟨cs, hr, hs.below hb⟩
theorem ChainSt.skip {w0 W : World} {gl : Nat} {I J : Nat → Int} (h : ChainSt w0 gl I J W) (o : Obj) : ChainSt w0 gl I J (W.alloc o) := h.below (bel_alloc (Below.refl _ _) o)
theorem ChainSt.drew {w0 W : World} {gl : Nat} {I J : Nat → Int} (h : ChainSt w0 gl I J W) : ChainSt w0 gl I J W.drew := h.below (Below.refl _ _).drew
theorem ChainSt.lt {w0 W : World} {gl : Nat} {I J : Nat → Int} (h : ChainSt w0 gl I J W) : gl < W.heap.size := by obtain ⟨cs, hr, hs⟩ := h; exact hs.lt 0 rfl
theorem ChainSt.bel {w0 W : World} {gl : Nat} {I J : Nat → Int} (h : ChainSt w0 gl I J W) : Below w0.heap.size w0 W := by obtain ⟨cs, hr, hs⟩ := h; exact hs.bel
theorem ChainSt.old {w0 W : World} {gl : Nat} {I J : Nat → Int} (h : ChainSt w0 gl I J W) {a : Addr} {v : Value} (hv : w0.cell? a = some v) : W.cell? a = some v := by obtain ⟨cs, hr, hs⟩ := h; exact hs.old hv
theorem ChainSt.fst {w0 W : World} {gl : Nat} {I J : Nat → Int} (h : ChainSt w0 gl I J W) (k : Nat) (hk : k < 5) : W.cell? ⟨gl, k * 2, none⟩ = some (.int .i64 (I k)) := by
  obtain ⟨cs, hr, hs⟩ := h; exact hs.cell 0 _ rfl (hr.fst k hk)
theorem ChainSt.snd {w0 W : World} {gl : Nat} {I J : Nat → Int} (h : ChainSt w0 gl I J W) (k : Nat) (hk : k < 5) : W.cell? ⟨gl, k * 2 + 1, none⟩ = some (.int .i64 (J k)) := by
  obtain ⟨cs, hr, hs⟩ := h; exact hs.cell 0 _ rfl (hr.snd k hk)

theorem chain_start (a : Int) : RowAt #[.int .i64 a, .int .i64 0, .int .i64 0, .int .i64 0, .int .i64 0, .int .i64 0, .int .i64 0, .int .i64 0, .int .i64 0, .int .i64 0] (upd (fun _ => 0) 0 a) (fun _ => 0) := by
  refine ⟨rfl, fun k hk => ?_, fun k hk => ?_⟩
  · match k, hk with
    | 0, _ => rfl
    | 1, _ => rfl
    | 2, _ => rfl
    | 3, _ => rfl
    | 4, _ => rfl
  · match k, hk with
    | 0, _ => rfl
    | 1, _ => rfl
    | 2, _ => rfl
    | 3, _ => rfl
    | 4, _ => rfl
theorem chain_ok (a : Int) (h : 0 ≤ a) : RowOk a a (upd (fun _ => 0) 0 a) (fun _ => 0) := by
  refine ⟨fun k hk => by simp, fun k hk => ?_, fun k hk => ?_, by simp [psum, upd]⟩
  · by_cases e : k = 0
    · subst e; rw [upd_same]; exact h
    · rw [upd_ne _ _ e]; exact Int.le_refl _
  · by_cases e : k = 0
    · subst e; rw [upd_same]; exact Int.le_refl _
    · rw [upd_ne _ _ e]; exact h
theorem move_row {w0 W : World} {gl : Nat} {I J : Nat → Int} {M a : Int} (r n : Int) (f t bs : Nat) (hS : ChainSt w0 gl I J W) (hok : RowOk M a I J) (hM : M + a ≤ 1152921504606846976) (hf : f < 5) (ht : t < 5) (hne : f ≠ t) (hn : -9223372036854775808 ≤ n) (hn1 : n ≤ 9223372036854775807) (hr : r = takes (I f) (J f) n)
    (hbs : bs ≠ gl) (hcell : W.cell? ⟨bs, 0, none⟩ = some (.pointer (some ⟨gl, t * 2, none⟩))) :
    Calls Try.prog 27 #[.int .i64 n, .pointer (some ⟨gl, f * 2, none⟩), .slice (some ⟨bs, 0, none⟩) 1 1] W (ChainGoes r w0 gl (upd I t (I t + r)) (upd J f (J f + r))) := by
  obtain ⟨cs, hrow, hs⟩ := hS
  have tb := takes_bd (I f) (J f) n (hok.le f hf)
  rw [← hr] at tb
  have hm := has_most hok f hf
  have h5 := hok.top f hf
  have h6 := hok.top t ht
  have h7 := hok.ge t ht
  have h8 := hok.le t ht
  have ha : 0 ≤ a := by have := psum_mono hok 5 (by omega); rw [hok.all] at this; exact this
  have hrow2 := hrow.out hf (J f + r)
  refine (move_takes (w0 := w0) r (I f) (J f) n 0 (f * 2) hs rfl (hrow.fst f hf) (hrow.snd f hf) (hok.ge f hf) (hok.le f hf) (by omega) hn hn1 hr [some ⟨gl, t * 2, none⟩] bs 1 (by simp) hbs (fun q hq => by obtain rfl : q = 0 := (by simpa using hq); exact hcell) 0 (by simp) (fun q hq => by omega) 0 gl (t * 2) _ _ (I t) rfl rfl (hrow2.fst t ht) (by omega) (by omega)).mono ?_
  rintro e w' ⟨rfl, h⟩
  exact ⟨rfl, _, hrow2.in_ ht (I t + r), h⟩
end Go.Proofs.Yticddmmbphoioaa

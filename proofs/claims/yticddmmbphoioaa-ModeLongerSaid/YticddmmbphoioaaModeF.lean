import Derived.Test.YticddmmbphoioaaModeE
import Derived.Lib.SliceRun
namespace Go.Proofs.Yticddmmbphoioaa
open Go.RowKit
set_option linter.unusedVariables false
set_option linter.unusedSimpArgs false
/-! ### Clone of steps -/
theorem step_info : (Try.prog.info? 59).map (fun i => (i.zero, i.size, i.bytes)) = some (some (.agg #[.int .i64 0, .int .i64 0]), 2, 16) := by kernel_rfl
theorem Row.emptyM (g : Nat) (e : TypeId) (size : Nat) : Row [(g, #[], e)] e size (some ⟨g, 0, none⟩) 0 0 [] := ⟨by simp, Nat.le_refl _, by unfold maxLen; omega, .inr ⟨g, #[], rfl, rfl, by simp, by simp⟩⟩
set_option maxHeartbeats 2000000 in
set_option maxRecDepth 100000 in
theorem cloneS_some (ad : Addr) (n cap : Nat) (cs : List Value) (w : World) (hs : Src w (some ad) n 2 cs) (h1 : ∀ u ∈ cs, u.oneCell' = true) (hn : n ≤ 900000) :
    Calls Try.prog 32 #[.slice (some ad) n cap] w fun e w' => ∃ R a c, e = .returned (.slice a n c) ∧ Row R 59 2 a n c cs ∧ Sts w R w' := by
  obtain ⟨i0, hi, hz, hs1, hs2⟩ := info_parts' step_info
  have HS := Lib.hid hs
  have H1 := Lib.hid h1
  clear hs h1
  have q := fun (w : World) (a : Option Addr) (n c n' c' : Nat) => Lib.run_eql_slice_nil w 51 59 a n c n' c' Try.underlying51
  go_enter Try.func32, Try.ntmps32
  go_wp2_with (at_builtin; refine row_append rfl (.tmp 5) (.tmp 6) 51 rfl [] [] Try.underlying51 hi hz hs1 hs2 rfl (by omega) (Row.emptyM w.heap.size 59 2) ((Sts.nil w).add rfl _ _) rfl rfl (HS.out.alloc _) H1.out (by omega) (by omega) ?_; rintro R' a' cap' w' hR hS)
  go_ret
  simp only [Nat.zero_add, List.nil_append, List.append_nil] at hR hS ⊢
  exact ⟨R', a', cap', rfl, hR, hS⟩
end Go.Proofs.Yticddmmbphoioaa

import Derived.Test.YtllbpjaiplnbnaaLossRow
import Derived.Sort.BigQuietIn
namespace Go.Proofs.Ytllbpjaiplnbnaa
open Go.RowKit
set_option linter.unusedVariables false
set_option linter.unusedSimpArgs false
/-! ### Two notes that tell the same -/
set_option maxHeartbeats 4000000 in
set_option maxRecDepth 100000 in
theorem same_note (r og rt i j sh dn : Int) (w : World) : Calls Try.prog 32 #[nv r og rt i j sh dn, nv r og rt i j sh dn] w fun e w' => e = .returned (.bool true) ∧ Below w.heap.size w w' := by
  have h1 := (Sts.nil w).add (g := w.heap.size) rfl (ncells r og rt i j sh dn) 27
  have h2 := h1.add (g := w.heap.size + 1) (by unfold World.alloc; rw [Array.size_push]) (ncells r og rt i j sh dn) 27
  have HS := Lib.hid h2
  clear h1 h2
  go_enter Try.func32, Try.ntmps32
  go_upto_region 1 with fail
  generalize (w.alloc (.cells #[.int .i64 r, .int .i64 og, .int .i64 rt, .int .i64 i, .int .i64 j, .int .i64 sh, .int .i64 dn] 27)).alloc (.cells #[.int .i64 r, .int .i64 og, .int .i64 rt, .int .i64 i, .int .i64 j, .int .i64 sh, .int .i64 dn] 27) = w3 at *
  generalize w.heap.size + 1 = g3 at *
  generalize hg : w.heap.size = g2 at *
  have hne : Nonempty (Later w ([(g2, #[.int .i64 r, .int .i64 og, .int .i64 rt, .int .i64 i, .int .i64 j, .int .i64 sh, .int .i64 dn], 27), (g3, #[.int .i64 r, .int .i64 og, .int .i64 rt, .int .i64 i, .int .i64 j, .int .i64 sh, .int .i64 dn], 27)])) := ⟨⟨_, HS.out⟩⟩
  have q0_0 : ∀ p : Later w ([(g2, #[.int .i64 r, .int .i64 og, .int .i64 rt, .int .i64 i, .int .i64 j, .int .i64 sh, .int .i64 dn], 27), (g3, #[.int .i64 r, .int .i64 og, .int .i64 rt, .int .i64 i, .int .i64 j, .int .i64 sh, .int .i64 dn], 27)]), p.val.cell? ⟨g2, 0, none⟩ = some (.int .i64 r) := fun p => p.property.cell 0 0 rfl rfl
  have q0_1 : ∀ p : Later w ([(g2, #[.int .i64 r, .int .i64 og, .int .i64 rt, .int .i64 i, .int .i64 j, .int .i64 sh, .int .i64 dn], 27), (g3, #[.int .i64 r, .int .i64 og, .int .i64 rt, .int .i64 i, .int .i64 j, .int .i64 sh, .int .i64 dn], 27)]), p.val.cell? ⟨g2, 1, none⟩ = some (.int .i64 og) := fun p => p.property.cell 0 1 rfl rfl
  have q0_2 : ∀ p : Later w ([(g2, #[.int .i64 r, .int .i64 og, .int .i64 rt, .int .i64 i, .int .i64 j, .int .i64 sh, .int .i64 dn], 27), (g3, #[.int .i64 r, .int .i64 og, .int .i64 rt, .int .i64 i, .int .i64 j, .int .i64 sh, .int .i64 dn], 27)]), p.val.cell? ⟨g2, 2, none⟩ = some (.int .i64 rt) := fun p => p.property.cell 0 2 rfl rfl
  have q0_3 : ∀ p : Later w ([(g2, #[.int .i64 r, .int .i64 og, .int .i64 rt, .int .i64 i, .int .i64 j, .int .i64 sh, .int .i64 dn], 27), (g3, #[.int .i64 r, .int .i64 og, .int .i64 rt, .int .i64 i, .int .i64 j, .int .i64 sh, .int .i64 dn], 27)]), p.val.cell? ⟨g2, 3, none⟩ = some (.int .i64 i) := fun p => p.property.cell 0 3 rfl rfl
  have q0_4 : ∀ p : Later w ([(g2, #[.int .i64 r, .int .i64 og, .int .i64 rt, .int .i64 i, .int .i64 j, .int .i64 sh, .int .i64 dn], 27), (g3, #[.int .i64 r, .int .i64 og, .int .i64 rt, .int .i64 i, .int .i64 j, .int .i64 sh, .int .i64 dn], 27)]), p.val.cell? ⟨g2, 4, none⟩ = some (.int .i64 j) := fun p => p.property.cell 0 4 rfl rfl
  have q0_5 : ∀ p : Later w ([(g2, #[.int .i64 r, .int .i64 og, .int .i64 rt, .int .i64 i, .int .i64 j, .int .i64 sh, .int .i64 dn], 27), (g3, #[.int .i64 r, .int .i64 og, .int .i64 rt, .int .i64 i, .int .i64 j, .int .i64 sh, .int .i64 dn], 27)]), p.val.cell? ⟨g2, 5, none⟩ = some (.int .i64 sh) := fun p => p.property.cell 0 5 rfl rfl
  have q0_6 : ∀ p : Later w ([(g2, #[.int .i64 r, .int .i64 og, .int .i64 rt, .int .i64 i, .int .i64 j, .int .i64 sh, .int .i64 dn], 27), (g3, #[.int .i64 r, .int .i64 og, .int .i64 rt, .int .i64 i, .int .i64 j, .int .i64 sh, .int .i64 dn], 27)]), p.val.cell? ⟨g2, 6, none⟩ = some (.int .i64 dn) := fun p => p.property.cell 0 6 rfl rfl
  have q1_0 : ∀ p : Later w ([(g2, #[.int .i64 r, .int .i64 og, .int .i64 rt, .int .i64 i, .int .i64 j, .int .i64 sh, .int .i64 dn], 27), (g3, #[.int .i64 r, .int .i64 og, .int .i64 rt, .int .i64 i, .int .i64 j, .int .i64 sh, .int .i64 dn], 27)]), p.val.cell? ⟨g3, 0, none⟩ = some (.int .i64 r) := fun p => p.property.cell 1 0 rfl rfl
  have q1_1 : ∀ p : Later w ([(g2, #[.int .i64 r, .int .i64 og, .int .i64 rt, .int .i64 i, .int .i64 j, .int .i64 sh, .int .i64 dn], 27), (g3, #[.int .i64 r, .int .i64 og, .int .i64 rt, .int .i64 i, .int .i64 j, .int .i64 sh, .int .i64 dn], 27)]), p.val.cell? ⟨g3, 1, none⟩ = some (.int .i64 og) := fun p => p.property.cell 1 1 rfl rfl
  have q1_2 : ∀ p : Later w ([(g2, #[.int .i64 r, .int .i64 og, .int .i64 rt, .int .i64 i, .int .i64 j, .int .i64 sh, .int .i64 dn], 27), (g3, #[.int .i64 r, .int .i64 og, .int .i64 rt, .int .i64 i, .int .i64 j, .int .i64 sh, .int .i64 dn], 27)]), p.val.cell? ⟨g3, 2, none⟩ = some (.int .i64 rt) := fun p => p.property.cell 1 2 rfl rfl
  have q1_3 : ∀ p : Later w ([(g2, #[.int .i64 r, .int .i64 og, .int .i64 rt, .int .i64 i, .int .i64 j, .int .i64 sh, .int .i64 dn], 27), (g3, #[.int .i64 r, .int .i64 og, .int .i64 rt, .int .i64 i, .int .i64 j, .int .i64 sh, .int .i64 dn], 27)]), p.val.cell? ⟨g3, 3, none⟩ = some (.int .i64 i) := fun p => p.property.cell 1 3 rfl rfl
  have q1_4 : ∀ p : Later w ([(g2, #[.int .i64 r, .int .i64 og, .int .i64 rt, .int .i64 i, .int .i64 j, .int .i64 sh, .int .i64 dn], 27), (g3, #[.int .i64 r, .int .i64 og, .int .i64 rt, .int .i64 i, .int .i64 j, .int .i64 sh, .int .i64 dn], 27)]), p.val.cell? ⟨g3, 4, none⟩ = some (.int .i64 j) := fun p => p.property.cell 1 4 rfl rfl
  have q1_5 : ∀ p : Later w ([(g2, #[.int .i64 r, .int .i64 og, .int .i64 rt, .int .i64 i, .int .i64 j, .int .i64 sh, .int .i64 dn], 27), (g3, #[.int .i64 r, .int .i64 og, .int .i64 rt, .int .i64 i, .int .i64 j, .int .i64 sh, .int .i64 dn], 27)]), p.val.cell? ⟨g3, 5, none⟩ = some (.int .i64 sh) := fun p => p.property.cell 1 5 rfl rfl
  have q1_6 : ∀ p : Later w ([(g2, #[.int .i64 r, .int .i64 og, .int .i64 rt, .int .i64 i, .int .i64 j, .int .i64 sh, .int .i64 dn], 27), (g3, #[.int .i64 r, .int .i64 og, .int .i64 rt, .int .i64 i, .int .i64 j, .int .i64 sh, .int .i64 dn], 27)]), p.val.cell? ⟨g3, 6, none⟩ = some (.int .i64 dn) := fun p => p.property.cell 1 6 rfl rfl
  refine wp_region_sts HS.out (by kernel_rfl) (by kernel_rfl) ?_
  repeat (go_big_quiet_step (first | exact rfl | (go_at_call 26; exact Goes.quiet (in_s _ _ (Later.property _))) | (go_at_call 27; exact Goes.quiet (out_s _ _ (Later.property _)))))
  refine wpQuiet_nil ?_
  rintro wz ⟨⟨_, hz⟩, rfl⟩
  clear hne q0_0 q0_1 q0_2 q0_3 q0_4 q0_5 q0_6 q1_0 q1_1 q1_2 q1_3 q1_4 q1_5 q1_6 HS
  go_wp2_with fail
  go_ret
  first | exact ⟨rfl, hz.bel⟩ | exact ⟨rfl, by rw [← hg]; exact hz.bel⟩
end Go.Proofs.Ytllbpjaiplnbnaa

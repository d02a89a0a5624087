import Derived.Test.YtllbpjaiplnbnaaLossT1
namespace Go.Proofs.Ytllbpjaiplnbnaa
open Go.RowKit
set_option linter.unusedVariables false
set_option linter.unusedSimpArgs false
/-! ### The comparison of one note with the document's rows -/
set_option maxHeartbeats 32000000 in
set_option maxRecDepth 1000000 in
theorem tells20 (w : World) (L : List Ent) (m k ga gb gd ca cb cd : Nat) (r og rt pi pj sh dn bl : Int) (hkm : k < m) (hm6 : m ≤ 6)
    (hn : ∀ W, Sts w L W → NC ga (k * 7) r og rt pi pj sh dn W ∧ W.cell? ⟨gb, k, none⟩ = some (.int .i64 bl) ∧ W.cell? ⟨gd, k, none⟩ = some (.int .i64 dn))
    (hB : ∀ W, Calls Try.prog 17 #[nv r og rt pi pj sh dn] W fun e w' => e = .returned (.int .i64 bl) ∧ Below W.heap.size W w')
    (W : World) (HS : Hid (Sts w L W)) (u0 u1 u2 u3 u4 u5 u6 u7 u8 u9 u10 u11 u12 u14 u17 u18 u19 u20 u21 u22 u24 u25 u26 u27 u28 u29 u30 u31 u32 u33 u34 u35 u36 u37 u38 u39 u40 u41 u42 u43 u44 u45 u46 u47 u48 u49 u50 u51 u52 u53 u54 u55 u56 u57 u58 u59 u60 u61 u62 u63 u64 u65 u66 u67 u68 u69 u70 u71 u72 u73 u74 u75 u76 u77 u78 u79 u80 u81 u82 u83 u84 u85 u86 u87 u88 u89 u90 u91 u92 u93 u94 u95 u96 u97 u98 u99 u100 u101 u102 u103 u104 u105 u106 u107 u108 u109 u110 u111 u112 u113 u114 u115 u116 u117 u118 u119 u120 u121 u122 u123 u124 u125 u126 u127 u128 u129 u130 u131 u132 u133 u134 u135 u136 u137 u138 u139 u140 u141 u142 u143 u144 u145 u146 u147 u148 u149 u150 u151 u152 : Value) (K : Act → World → Prop) (Q1 : Exit → Act → World → Prop)
    (hK : ∀ (v99 v100 v101 v102 v103 v104 v105 v106 v107 v108 v109 v110 v111 v112 v113 v114 v115 v116 v117 v118 v119 : Value) (wc : World), Hid (Sts w L wc) → K ⟨#[u0, u1, u2, u3, u4, u5, u6, u7, u8, u9, u10, u11, u12, .slice (some ⟨ga, 0, none⟩) m ca, u14, .slice (some ⟨gb, 0, none⟩) m cb, .slice (some ⟨gd, 0, none⟩) m cd, u17, u18, u19, u20, u21, u22, .int .i64 k, u24, u25, u26, u27, u28, u29, u30, u31, u32, u33, u34, u35, u36, u37, u38, u39, u40, u41, u42, u43, u44, u45, u46, u47, u48, u49, u50, u51, u52, u53, u54, u55, u56, u57, u58, u59, u60, u61, u62, u63, u64, u65, u66, u67, u68, u69, u70, u71, u72, u73, u74, u75, u76, u77, u78, u79, u80, u81, u82, u83, u84, u85, u86, u87, u88, u89, u90, u91, u92, u93, u94, u95, u96, u97, u98, v99, v100, v101, v102, v103, v104, v105, v106, v107, v108, v109, v110, v111, v112, v113, v114, v115, v116, v117, v118, v119, .bool false, u121, u122, u123, u124, u125, u126, u127, u128, u129, u130, u131, u132, u133, u134, u135, u136, u137, u138, u139, u140, u141, u142, u143, u144, u145, u146, u147, u148, u149, u150, u151, u152], []⟩ wc) :
    Code.wp Try.prog ((Try.f10.body.bind (regOf 20)).getD .skip) (Exit.then K Q1) ⟨#[u0, u1, u2, u3, u4, u5, u6, u7, u8, u9, u10, u11, u12, .slice (some ⟨ga, 0, none⟩) m ca, u14, .slice (some ⟨gb, 0, none⟩) m cb, .slice (some ⟨gd, 0, none⟩) m cd, u17, u18, u19, u20, u21, u22, .int .i64 k, u24, u25, u26, u27, u28, u29, u30, u31, u32, u33, u34, u35, u36, u37, u38, u39, u40, u41, u42, u43, u44, u45, u46, u47, u48, u49, u50, u51, u52, u53, u54, u55, u56, u57, u58, u59, u60, u61, u62, u63, u64, u65, u66, u67, u68, u69, u70, u71, u72, u73, u74, u75, u76, u77, u78, u79, u80, u81, u82, u83, u84, u85, u86, u87, u88, u89, u90, u91, u92, u93, u94, u95, u96, u97, u98, u99, u100, u101, u102, u103, u104, u105, u106, u107, u108, u109, u110, u111, u112, u113, u114, u115, u116, u117, u118, u119, u120, u121, u122, u123, u124, u125, u126, u127, u128, u129, u130, u131, u132, u133, u134, u135, u136, u137, u138, u139, u140, u141, u142, u143, u144, u145, u146, u147, u148, u149, u150, u151, u152], []⟩ W := by
  have j1 : (0 : Int) ≤ (k : Int) := by omega
  have j2 : (k : Int) < (m : Int) := by omega
  have t1 : (bl != bl) = false := by simp
  have t2 : (dn != dn) = false := by simp
  have hne : Nonempty (Later w L) := ⟨⟨_, HS.out⟩⟩
  have x0 : ∀ p : Later w L, p.val.cell? ⟨ga, k * 7, none⟩ = some (.int .i64 r) := fun p => (hn p.val p.property).1.1
  have x1 : ∀ p : Later w L, p.val.cell? ⟨ga, k * 7 + 1, none⟩ = some (.int .i64 og) := fun p => (hn p.val p.property).1.2.1
  have x2 : ∀ p : Later w L, p.val.cell? ⟨ga, k * 7 + 2, none⟩ = some (.int .i64 rt) := fun p => (hn p.val p.property).1.2.2.1
  have x3 : ∀ p : Later w L, p.val.cell? ⟨ga, k * 7 + 3, none⟩ = some (.int .i64 pi) := fun p => (hn p.val p.property).1.2.2.2.1
  have x4 : ∀ p : Later w L, p.val.cell? ⟨ga, k * 7 + 4, none⟩ = some (.int .i64 pj) := fun p => (hn p.val p.property).1.2.2.2.2.1
  have x5 : ∀ p : Later w L, p.val.cell? ⟨ga, k * 7 + 5, none⟩ = some (.int .i64 sh) := fun p => (hn p.val p.property).1.2.2.2.2.2.1
  have x6 : ∀ p : Later w L, p.val.cell? ⟨ga, k * 7 + 6, none⟩ = some (.int .i64 dn) := fun p => (hn p.val p.property).1.2.2.2.2.2.2
  have y0 : ∀ p : Later w L, p.val.cell? ⟨gb, k, none⟩ = some (.int .i64 bl) := fun p => (hn p.val p.property).2.1
  have y1 : ∀ p : Later w L, p.val.cell? ⟨gd, k, none⟩ = some (.int .i64 dn) := fun p => (hn p.val p.property).2.2
  have NB : ∀ p : Later w L, Calls Try.prog 17 #[nv r og rt pi pj sh dn] p.val (fun e w'' => e = .returned (.int .i64 bl) ∧ ∃ q : Later w L, w'' = q.val) := fun p =>
    (hB p.val).mono fun e w' h => ⟨h.1, ⟨w', p.property.below h.2⟩, rfl⟩
  clear hn hB
  conv => arg 2; whnf
  dsimp only
  refine wp_region_sts HS.out (by kernel_rfl) (by kernel_rfl) ?_
  repeat (go_big_quiet_step (first | exact rfl | (go_at_call 17; exact NB _)))
  refine wpQuiet_nil ?_
  rintro wz ⟨⟨_, hz'⟩, rfl⟩
  exact hK _ _ _ _ _ _ _ _ _ _ _ _ _ _ _ _ _ _ _ _ _ _ (Lib.hid hz')
end Go.Proofs.Ytllbpjaiplnbnaa

import Derived.Test.YtllbpjaiplnbnaaLossBack
namespace Go.Proofs.Ytllbpjaiplnbnaa
open Go.RowKit
set_option linter.unusedVariables false
set_option linter.unusedSimpArgs false
/-- The region of a number. -/
def regAt (n : Nat) : Code → Option Code
  | .region k ops d => if k = n then some (.region k ops d) else none
  | .block _ c => regAt n c
  | .cond _ a b => match regAt n a with
    | some c => some c
    | none => regAt n b
  | .seq a b => match regAt n a with
    | some c => some c
    | none => regAt n b
  | .scope c => regAt n c
  | .loop c => regAt n c
  | _ => none
set_option maxHeartbeats 32000000 in
set_option maxRecDepth 1000000 in
theorem ranks18 (w : World) (m ga gw ca cw : Nat) (Ra Rw Rp : List Ent) (zs zs' : List Nt) (HA : Hid (NRow Ra (some ⟨ga, 0, none⟩) m ga zs')) (HW : Hid (NRow Rw (some ⟨gw, 0, none⟩) m gw zs)) (W : World) (HS : Hid (Sts w (Rw ++ (Rp ++ (Ra ++ []))) W)) (i : Nat) (him : i < m) (hm6 : m ≤ 6) (r og pi d dn b1 b2 : Int) (hz : zs'[i]? = some ⟨r, og, 0, pi, 0, 0, d⟩) (hw : zs[i]? = some ⟨r, og, 0, pi, 0, 0, dn⟩) (m0 : 0 ≤ r) (m1 : r ≤ 3) (o0 : 0 ≤ og) (o1 : og ≤ 900) (p0 : 0 ≤ pi) (p1 : pi ≤ og) (d0 : 0 ≤ d) (d1 : d ≤ og - pi) (n0 : 0 ≤ dn) (n1 : dn ≤ og - pi) (hb1 : b1 = og - pi - d) (hb2 : b2 = og - pi - dn) (u0 u1 u2 u3 u4 u7 u8 u9 u10 u11 u12 u14 u15 u16 u17 u18 u19 u20 u21 u22 u23 u24 u25 u26 u27 u28 u29 u30 u31 u32 u33 u34 u35 u36 u37 u38 u39 u40 u41 u42 u43 u44 u45 u46 u47 u48 u49 u50 u51 u52 u53 u54 u55 u56 u57 u58 u59 u60 u61 u62 u63 u64 u65 u66 u67 u68 u69 u70 u71 u72 u73 u74 u75 u76 u77 u78 u79 u80 u81 u82 u83 u84 u85 u86 u87 u88 u89 u90 u91 u92 u93 u94 u95 u96 u97 u98 u99 u100 u101 u102 u103 u104 u105 u106 u107 u108 u109 u110 u111 u112 u113 u114 u115 u116 u117 u118 u119 u120 u121 u122 u123 u124 u125 u126 u127 u128 u129 u130 u131 u132 u133 u134 u135 u136 u137 u138 u139 u140 u141 u142 u143 u144 u145 u146 u147 u148 u149 u150 u151 u152 u153 u154 u155 u156 u157 u158 u159 u160 u161 u162 u163 u164 u165 u166 u167 u168 u169 u170 u171 u172 u173 u174 u175 u176 u177 u178 u179 u180 u181 u182 u183 u184 u185 u186 u187 u188 u189 u190 u191 u192 u193 u194 u195 u196 u197 u198 u199 u200 u201 u202 u203 u204 u205 u206 u207 u208 u209 u210 u211 u212 u213 u214 u215 u216 u217 u218 u219 u220 u221 u222 u223 u224 u225 u226 u227 u228 u229 u230 u231 u232 u233 u234 u235 u236 u237 u238 u239 u240 u241 u242 u243 u244 u245 u246 u247 u248 u249 u250 u251 u252 u253 u254 : Value) (K : Act → World → Prop) (Q1 : Exit → Act → World → Prop)
    (hK : ∀ (v68 v69 v70 v71 v72 v73 v74 v75 v76 v77 v78 v79 v80 v81 v82 v83 v84 v85 v86 v87 v88 v89 v90 v91 v92 v93 v94 v95 v96 v97 v98 v99 v100 v101 v102 v103 v104 v105 v106 v107 v108 v109 v110 v111 v112 v113 v114 v115 v116 v117 v118 v119 v120 v121 v122 v123 v124 v125 : Value) (wc : World), Hid (Sts w (Rw ++ (Rp ++ (Ra ++ []))) wc) → K ⟨#[u0, u1, u2, u3, u4, .slice (some ⟨ga, 0, none⟩) m ca, .slice (some ⟨gw, 0, none⟩) m cw, u7, u8, u9, u10, u11, u12, .int .i64 i, u14, u15, u16, u17, u18, u19, u20, u21, u22, u23, u24, u25, u26, u27, u28, u29, u30, u31, u32, u33, u34, u35, u36, u37, u38, u39, u40, u41, u42, u43, u44, u45, u46, u47, u48, u49, u50, u51, u52, u53, u54, u55, u56, u57, u58, u59, u60, u61, u62, u63, u64, u65, u66, u67, v68, v69, v70, v71, v72, v73, v74, v75, v76, v77, v78, v79, v80, v81, v82, v83, v84, v85, v86, v87, v88, v89, v90, v91, v92, v93, v94, v95, v96, v97, v98, v99, v100, v101, v102, v103, v104, v105, v106, v107, v108, v109, v110, v111, v112, v113, v114, v115, v116, v117, v118, v119, v120, v121, v122, v123, v124, v125, .bool false, u127, u128, u129, u130, u131, u132, u133, u134, u135, u136, u137, u138, u139, u140, u141, u142, u143, u144, u145, u146, u147, u148, u149, u150, u151, u152, u153, u154, u155, u156, u157, u158, u159, u160, u161, u162, u163, u164, u165, u166, u167, u168, u169, u170, u171, u172, u173, u174, u175, u176, u177, u178, u179, u180, u181, u182, u183, u184, u185, u186, u187, u188, u189, u190, u191, u192, u193, u194, u195, u196, u197, u198, u199, u200, u201, u202, u203, u204, u205, u206, u207, u208, u209, u210, u211, u212, u213, u214, u215, u216, u217, u218, u219, u220, u221, u222, u223, u224, u225, u226, u227, u228, u229, u230, u231, u232, u233, u234, u235, u236, u237, u238, u239, u240, u241, u242, u243, u244, u245, u246, u247, u248, u249, u250, u251, u252, u253, u254], []⟩ wc) :
    Code.wp Try.prog ((Try.f12.body.bind (regAt 18)).getD .skip) (Exit.then K Q1) ⟨#[u0, u1, u2, u3, u4, .slice (some ⟨ga, 0, none⟩) m ca, .slice (some ⟨gw, 0, none⟩) m cw, u7, u8, u9, u10, u11, u12, .int .i64 i, u14, u15, u16, u17, u18, u19, u20, u21, u22, u23, u24, u25, u26, u27, u28, u29, u30, u31, u32, u33, u34, u35, u36, u37, u38, u39, u40, u41, u42, u43, u44, u45, u46, u47, u48, u49, u50, u51, u52, u53, u54, u55, u56, u57, u58, u59, u60, u61, u62, u63, u64, u65, u66, u67, u68, u69, u70, u71, u72, u73, u74, u75, u76, u77, u78, u79, u80, u81, u82, u83, u84, u85, u86, u87, u88, u89, u90, u91, u92, u93, u94, u95, u96, u97, u98, u99, u100, u101, u102, u103, u104, u105, u106, u107, u108, u109, u110, u111, u112, u113, u114, u115, u116, u117, u118, u119, u120, u121, u122, u123, u124, u125, u126, u127, u128, u129, u130, u131, u132, u133, u134, u135, u136, u137, u138, u139, u140, u141, u142, u143, u144, u145, u146, u147, u148, u149, u150, u151, u152, u153, u154, u155, u156, u157, u158, u159, u160, u161, u162, u163, u164, u165, u166, u167, u168, u169, u170, u171, u172, u173, u174, u175, u176, u177, u178, u179, u180, u181, u182, u183, u184, u185, u186, u187, u188, u189, u190, u191, u192, u193, u194, u195, u196, u197, u198, u199, u200, u201, u202, u203, u204, u205, u206, u207, u208, u209, u210, u211, u212, u213, u214, u215, u216, u217, u218, u219, u220, u221, u222, u223, u224, u225, u226, u227, u228, u229, u230, u231, u232, u233, u234, u235, u236, u237, u238, u239, u240, u241, u242, u243, u244, u245, u246, u247, u248, u249, u250, u251, u252, u253, u254], []⟩ W := by
  have xC := fun (W : World) (hW : Sts w (Rw ++ (Rp ++ (Ra ++ []))) W) => HA.out.cells (A := Rw ++ Rp) (B := []) (hW.lit (by simp)) hz
  have yC := fun (W : World) (hW : Sts w (Rw ++ (Rp ++ (Ra ++ []))) W) => HW.out.cells (A := []) (B := Rp ++ (Ra ++ [])) (hW.lit (by simp)) hw
  simp only at xC yC
  have hne : Nonempty (Later w (Rw ++ (Rp ++ (Ra ++ [])))) := ⟨⟨_, HS.out⟩⟩
  have x0 : ∀ p : Later w (Rw ++ (Rp ++ (Ra ++ []))), p.val.cell? ⟨ga, i * 7, none⟩ = some (.int .i64 r) := fun p => (xC p.val p.property).2.1
  have x1 : ∀ p : Later w (Rw ++ (Rp ++ (Ra ++ []))), p.val.cell? ⟨ga, i * 7 + 1, none⟩ = some (.int .i64 og) := fun p => (xC p.val p.property).2.2.1
  have x2 : ∀ p : Later w (Rw ++ (Rp ++ (Ra ++ []))), p.val.cell? ⟨ga, i * 7 + 2, none⟩ = some (.int .i64 0) := fun p => (xC p.val p.property).2.2.2.1
  have x3 : ∀ p : Later w (Rw ++ (Rp ++ (Ra ++ []))), p.val.cell? ⟨ga, i * 7 + 3, none⟩ = some (.int .i64 pi) := fun p => (xC p.val p.property).2.2.2.2.1
  have x4 : ∀ p : Later w (Rw ++ (Rp ++ (Ra ++ []))), p.val.cell? ⟨ga, i * 7 + 4, none⟩ = some (.int .i64 0) := fun p => (xC p.val p.property).2.2.2.2.2.1
  have x5 : ∀ p : Later w (Rw ++ (Rp ++ (Ra ++ []))), p.val.cell? ⟨ga, i * 7 + 5, none⟩ = some (.int .i64 0) := fun p => (xC p.val p.property).2.2.2.2.2.2.1
  have x6 : ∀ p : Later w (Rw ++ (Rp ++ (Ra ++ []))), p.val.cell? ⟨ga, i * 7 + 6, none⟩ = some (.int .i64 d) := fun p => (xC p.val p.property).2.2.2.2.2.2.2
  have y0 : ∀ p : Later w (Rw ++ (Rp ++ (Ra ++ []))), p.val.cell? ⟨gw, i * 7, none⟩ = some (.int .i64 r) := fun p => (yC p.val p.property).2.1
  have y1 : ∀ p : Later w (Rw ++ (Rp ++ (Ra ++ []))), p.val.cell? ⟨gw, i * 7 + 1, none⟩ = some (.int .i64 og) := fun p => (yC p.val p.property).2.2.1
  have y2 : ∀ p : Later w (Rw ++ (Rp ++ (Ra ++ []))), p.val.cell? ⟨gw, i * 7 + 2, none⟩ = some (.int .i64 0) := fun p => (yC p.val p.property).2.2.2.1
  have y3 : ∀ p : Later w (Rw ++ (Rp ++ (Ra ++ []))), p.val.cell? ⟨gw, i * 7 + 3, none⟩ = some (.int .i64 pi) := fun p => (yC p.val p.property).2.2.2.2.1
  have y4 : ∀ p : Later w (Rw ++ (Rp ++ (Ra ++ []))), p.val.cell? ⟨gw, i * 7 + 4, none⟩ = some (.int .i64 0) := fun p => (yC p.val p.property).2.2.2.2.2.1
  have y5 : ∀ p : Later w (Rw ++ (Rp ++ (Ra ++ []))), p.val.cell? ⟨gw, i * 7 + 5, none⟩ = some (.int .i64 0) := fun p => (yC p.val p.property).2.2.2.2.2.2.1
  have y6 : ∀ p : Later w (Rw ++ (Rp ++ (Ra ++ []))), p.val.cell? ⟨gw, i * 7 + 6, none⟩ = some (.int .i64 dn) := fun p => (yC p.val p.property).2.2.2.2.2.2.2
  clear xC yC hz hw
  have NH : ∀ p : Later w (Rw ++ (Rp ++ (Ra ++ []))), Calls Try.prog 18 #[.agg #[.int .i64 pi, .int .i64 0]] p.val (fun e w'' => e = .returned (.int .i64 (pi - 0)) ∧ ∃ q : Later w (Rw ++ (Rp ++ (Ra ++ []))), w'' = q.val) := fun p => Goes.quiet (has_s (pi - 0) pi 0 p.property (by omega) (by omega) (by omega) rfl)
  have NB1 : ∀ p : Later w (Rw ++ (Rp ++ (Ra ++ []))), Calls Try.prog 17 #[nv r og 0 pi 0 0 d] p.val (fun e w'' => e = .returned (.int .i64 b1) ∧ ∃ q : Later w (Rw ++ (Rp ++ (Ra ++ []))), w'' = q.val) := fun p => Goes.quiet (balance_s b1 r og 0 pi 0 0 d p.property (Fair.mk_ (by omega) (by omega) (by omega) (by omega) (by omega) (by omega) (by omega) (by omega) (by omega)) (by omega))
  have NB2 : ∀ p : Later w (Rw ++ (Rp ++ (Ra ++ []))), Calls Try.prog 17 #[nv r og 0 pi 0 0 dn] p.val (fun e w'' => e = .returned (.int .i64 b2) ∧ ∃ q : Later w (Rw ++ (Rp ++ (Ra ++ []))), w'' = q.val) := fun p => Goes.quiet (balance_s b2 r og 0 pi 0 0 dn p.property (Fair.mk_ (by omega) (by omega) (by omega) (by omega) (by omega) (by omega) (by omega) (by omega) (by omega)) (by omega))
  have NR : ∀ p : Later w (Rw ++ (Rp ++ (Ra ++ []))), Calls Try.prog 19 #[nv r og 0 pi 0 0 d] p.val (fun e w'' => e = .returned (.bool true) ∧ ∃ q : Later w (Rw ++ (Rp ++ (Ra ++ []))), w'' = q.val) := fun p => Goes.quiet (nright_s true r og 0 pi 0 0 d p.property (by omega) (by omega) (by omega) (by omega) (by omega) (by omega) (by omega) (by omega) (by omega) (by unfold rightB; simp; omega))
  have t1 : ((b1 + d) != (b2 + dn)) = false := by have : b1 + d = b2 + dn := by omega
                                                  rw [this]; simp
  have i0 : (0 : Int) ≤ (i : Int) := by omega
  have i1 : (i : Int) < (m : Int) := by omega
  conv => arg 2; whnf
  dsimp only
  refine wp_region_sts HS.out (by kernel_rfl) (by kernel_rfl) ?_
  repeat (go_big_quiet_step (first | exact rfl | (go_at_call 18; exact NH _) | (go_at_call 19; exact NR _) | (go_at_call 17; first | (with_reducible exact NB1 _) | (with_reducible exact NB2 _))))
  refine wpQuiet_nil ?_
  rintro wz ⟨⟨_, hz'⟩, rfl⟩
  exact hK _ _ _ _ _ _ _ _ _ _ _ _ _ _ _ _ _ _ _ _ _ _ _ _ _ _ _ _ _ _ _ _ _ _ _ _ _ _ _ _ _ _ _ _ _ _ _ _ _ _ _ _ _ _ _ _ _ _ _ (Lib.hid hz')
end Go.Proofs.Ytllbpjaiplnbnaa

import Derived.Test.YtllbpjaiplnbnaaLossRk1
namespace Go.Proofs.Ytllbpjaiplnbnaa
open Go.RowKit
set_option linter.unusedVariables false
set_option linter.unusedSimpArgs false
set_option maxHeartbeats 32000000 in
set_option maxRecDepth 1000000 in
theorem ranks20 (w : World) (m ga gw ca cw : Nat) (Ra Rw Rp : List Ent) (zs zs' : List Nt) (HA : Hid (NRow Ra (some ⟨ga, 0, none⟩) m ga zs')) (HW : Hid (NRow Rw (some ⟨gw, 0, none⟩) m gw zs)) (W : World) (HS : Hid (Sts w (Rw ++ (Rp ++ (Ra ++ []))) W)) (i : Nat) (him : i < m) (hm6 : m ≤ 6) (hv t r og pi d dn : Int) (hz : zs'[i]? = some ⟨r, og, 0, pi, 0, 0, d⟩) (hw : zs[i]? = some ⟨r, og, 0, pi, 0, 0, dn⟩) (hA1 : hv ≤ t → dn ≤ d) (hA2 : t ≤ hv → d ≤ dn) (u0 u1 u2 u3 u4 u7 u9 u10 u12 u14 u15 u16 u17 u18 u19 u20 u21 u22 u23 u24 u25 u26 u27 u28 u29 u30 u31 u32 u33 u34 u35 u36 u37 u38 u39 u40 u41 u42 u43 u44 u45 u46 u47 u48 u49 u50 u51 u52 u53 u54 u55 u56 u57 u58 u59 u60 u61 u62 u63 u64 u65 u66 u67 u68 u69 u70 u71 u72 u73 u74 u75 u76 u77 u78 u79 u80 u81 u82 u83 u84 u85 u86 u87 u88 u89 u90 u91 u92 u93 u94 u95 u96 u97 u98 u99 u100 u101 u102 u103 u104 u105 u106 u107 u108 u109 u110 u111 u112 u113 u114 u115 u116 u117 u118 u119 u120 u121 u122 u123 u124 u125 u126 u127 u128 u129 u130 u131 u132 u133 u134 u135 u136 u137 u138 u139 u140 u141 u142 u143 u144 u145 u146 u147 u148 u149 u150 u151 u152 u153 u154 u155 u156 u157 u158 u159 u160 u161 u162 u163 u164 u165 u166 u167 u168 u169 u170 u171 u172 u173 u174 u175 u176 u177 u178 u179 u180 u181 u182 u183 u184 u185 u186 u187 u188 u189 u190 u191 u192 u193 u194 u195 u196 u197 u198 u199 u200 u201 u202 u203 u204 u205 u206 u207 u208 u209 u210 u211 u212 u213 u214 u215 u216 u217 u218 u219 u220 u221 u222 u223 u224 u225 u226 u227 u228 u229 u230 u231 u232 u233 u234 u235 u236 u237 u238 u239 u240 u241 u242 u243 u244 u245 u246 u247 u248 u249 u250 u251 u252 u253 u254 : Value) (K : Act → World → Prop) (Q1 : Exit → Act → World → Prop)
    (hK : ∀ (v127 v128 v129 v130 v131 v132 v133 v134 v135 v136 v137 v138 v139 v140 v141 v142 v143 v144 v145 v146 v147 v148 v149 v150 v151 v152 v153 v154 v155 v156 v157 v158 v159 : Value) (wc : World), Hid (Sts w (Rw ++ (Rp ++ (Ra ++ []))) wc) → K ⟨#[u0, u1, u2, u3, u4, .slice (some ⟨ga, 0, none⟩) m ca, .slice (some ⟨gw, 0, none⟩) m cw, u7, .int .i64 hv, u9, u10, .int .i64 t, u12, .int .i64 i, u14, u15, u16, u17, u18, u19, u20, u21, u22, u23, u24, u25, u26, u27, u28, u29, u30, u31, u32, u33, u34, u35, u36, u37, u38, u39, u40, u41, u42, u43, u44, u45, u46, u47, u48, u49, u50, u51, u52, u53, u54, u55, u56, u57, u58, u59, u60, u61, u62, u63, u64, u65, u66, u67, u68, u69, u70, u71, u72, u73, u74, u75, u76, u77, u78, u79, u80, u81, u82, u83, u84, u85, u86, u87, u88, u89, u90, u91, u92, u93, u94, u95, u96, u97, u98, u99, u100, u101, u102, u103, u104, u105, u106, u107, u108, u109, u110, u111, u112, u113, u114, u115, u116, u117, u118, u119, u120, u121, u122, u123, u124, u125, u126, v127, v128, v129, v130, v131, v132, v133, v134, v135, v136, v137, v138, v139, v140, v141, v142, v143, v144, v145, v146, v147, v148, v149, v150, v151, v152, v153, v154, v155, v156, v157, v158, v159, .bool false, u161, u162, u163, u164, u165, u166, u167, u168, u169, u170, u171, u172, u173, u174, u175, u176, u177, u178, u179, u180, u181, u182, u183, u184, u185, u186, u187, u188, u189, u190, u191, u192, u193, u194, u195, u196, u197, u198, u199, u200, u201, u202, u203, u204, u205, u206, u207, u208, u209, u210, u211, u212, u213, u214, u215, u216, u217, u218, u219, u220, u221, u222, u223, u224, u225, u226, u227, u228, u229, u230, u231, u232, u233, u234, u235, u236, u237, u238, u239, u240, u241, u242, u243, u244, u245, u246, u247, u248, u249, u250, u251, u252, u253, u254], []⟩ wc) :
    Code.wp Try.prog ((Try.f12.body.bind (regAt 20)).getD .skip) (Exit.then K Q1) ⟨#[u0, u1, u2, u3, u4, .slice (some ⟨ga, 0, none⟩) m ca, .slice (some ⟨gw, 0, none⟩) m cw, u7, .int .i64 hv, u9, u10, .int .i64 t, u12, .int .i64 i, u14, u15, u16, u17, u18, u19, u20, u21, u22, u23, u24, u25, u26, u27, u28, u29, u30, u31, u32, u33, u34, u35, u36, u37, u38, u39, u40, u41, u42, u43, u44, u45, u46, u47, u48, u49, u50, u51, u52, u53, u54, u55, u56, u57, u58, u59, u60, u61, u62, u63, u64, u65, u66, u67, u68, u69, u70, u71, u72, u73, u74, u75, u76, u77, u78, u79, u80, u81, u82, u83, u84, u85, u86, u87, u88, u89, u90, u91, u92, u93, u94, u95, u96, u97, u98, u99, u100, u101, u102, u103, u104, u105, u106, u107, u108, u109, u110, u111, u112, u113, u114, u115, u116, u117, u118, u119, u120, u121, u122, u123, u124, u125, u126, u127, u128, u129, u130, u131, u132, u133, u134, u135, u136, u137, u138, u139, u140, u141, u142, u143, u144, u145, u146, u147, u148, u149, u150, u151, u152, u153, u154, u155, u156, u157, u158, u159, u160, u161, u162, u163, u164, u165, u166, u167, u168, u169, u170, u171, u172, u173, u174, u175, u176, u177, u178, u179, u180, u181, u182, u183, u184, u185, u186, u187, u188, u189, u190, u191, u192, u193, u194, u195, u196, u197, u198, u199, u200, u201, u202, u203, u204, u205, u206, u207, u208, u209, u210, u211, u212, u213, u214, u215, u216, u217, u218, u219, u220, u221, u222, u223, u224, u225, u226, u227, u228, u229, u230, u231, u232, u233, u234, u235, u236, u237, u238, u239, u240, u241, u242, u243, u244, u245, u246, u247, u248, u249, u250, u251, u252, u253, u254], []⟩ W := by
  have xC := fun (W : World) (hW : Sts w (Rw ++ (Rp ++ (Ra ++ []))) W) => HA.out.cells (A := Rw ++ Rp) (B := []) (hW.lit (by simp)) hz
  have yC := fun (W : World) (hW : Sts w (Rw ++ (Rp ++ (Ra ++ []))) W) => HW.out.cells (A := []) (B := Rp ++ (Ra ++ [])) (hW.lit (by simp)) hw
  simp only at xC yC
  have hne : Nonempty (Later w (Rw ++ (Rp ++ (Ra ++ [])))) := ⟨⟨_, HS.out⟩⟩
  have x6 : ∀ p : Later w (Rw ++ (Rp ++ (Ra ++ []))), p.val.cell? ⟨ga, i * 7 + 6, none⟩ = some (.int .i64 d) := fun p => (xC p.val p.property).2.2.2.2.2.2.2
  have y6 : ∀ p : Later w (Rw ++ (Rp ++ (Ra ++ []))), p.val.cell? ⟨gw, i * 7 + 6, none⟩ = some (.int .i64 dn) := fun p => (yC p.val p.property).2.2.2.2.2.2.2
  clear xC yC hz hw
  have i0 : (0 : Int) ≤ (i : Int) := by omega
  have i1 : (i : Int) < (m : Int) := by omega
  conv => arg 2; whnf
  dsimp only
  by_cases h1 : hv ≤ t
  · have c1 : decide (hv ≤ t) = true := decide_eq_true h1
    have c2 : decide (d < dn) = false := decide_eq_false (by have := hA1 h1; omega)
    by_cases h2 : t ≤ hv
    · have c3 : decide (t ≤ hv) = true := decide_eq_true h2
      have c4 : decide (dn < d) = false := decide_eq_false (by have := hA2 h2; omega)
      clear hA1 hA2
      refine wp_region_sts HS.out (by kernel_rfl) (by kernel_rfl) ?_
      repeat (go_big_quiet_step (first | exact rfl))
      refine wpQuiet_nil ?_
      rintro wz ⟨⟨_, hz'⟩, rfl⟩
      exact hK _ _ _ _ _ _ _ _ _ _ _ _ _ _ _ _ _ _ _ _ _ _ _ _ _ _ _ _ _ _ _ _ _ _ (Lib.hid hz')
    · have c3 : decide (t ≤ hv) = false := decide_eq_false h2
      clear hA1 hA2
      refine wp_region_sts HS.out (by kernel_rfl) (by kernel_rfl) ?_
      repeat (go_big_quiet_step (first | exact rfl))
      refine wpQuiet_nil ?_
      rintro wz ⟨⟨_, hz'⟩, rfl⟩
      exact hK _ _ _ _ _ _ _ _ _ _ _ _ _ _ _ _ _ _ _ _ _ _ _ _ _ _ _ _ _ _ _ _ _ _ (Lib.hid hz')
  · have c1 : decide (hv ≤ t) = false := decide_eq_false h1
    have c3 : decide (t ≤ hv) = true := decide_eq_true (by omega)
    have c4 : decide (dn < d) = false := decide_eq_false (by have := hA2 (by omega); omega)
    clear hA1 hA2
    refine wp_region_sts HS.out (by kernel_rfl) (by kernel_rfl) ?_
    repeat (go_big_quiet_step (first | exact rfl))
    refine wpQuiet_nil ?_
    rintro wz ⟨⟨_, hz'⟩, rfl⟩
    exact hK _ _ _ _ _ _ _ _ _ _ _ _ _ _ _ _ _ _ _ _ _ _ _ _ _ _ _ _ _ _ _ _ _ _ (Lib.hid hz')
set_option maxHeartbeats 32000000 in
set_option maxRecDepth 1000000 in
theorem ranks25 (w : World) (m ga gw ca cw : Nat) (Ra Rw Rp : List Ent) (zs zs' : List Nt) (HA : Hid (NRow Ra (some ⟨ga, 0, none⟩) m ga zs')) (HW : Hid (NRow Rw (some ⟨gw, 0, none⟩) m gw zs)) (W : World) (HS : Hid (Sts w (Rw ++ (Rp ++ (Ra ++ []))) W)) (i q : Nat) (him : i < m) (hqm : q < m) (hm6 : m ≤ 6) (ri iog ipi id rk kog kpi kd : Int) (jb : Bool) (hz : zs'[i]? = some ⟨ri, iog, 0, ipi, 0, 0, id⟩) (hq : zs'[q]? = some ⟨rk, kog, 0, kpi, 0, 0, kd⟩) (hjb : jb = decide (ri < rk ∨ (rk = ri ∧ i < q))) (u0 u1 u2 u3 u4 u6 u7 u8 u9 u10 u11 u12 u15 u16 u17 u18 u19 u20 u21 u22 u23 u24 u25 u26 u27 u28 u29 u30 u31 u32 u33 u34 u35 u36 u37 u38 u39 u40 u41 u42 u43 u44 u45 u46 u47 u48 u49 u50 u51 u52 u53 u54 u55 u56 u57 u58 u59 u60 u61 u62 u63 u64 u65 u66 u67 u68 u69 u70 u71 u72 u73 u74 u75 u76 u77 u78 u79 u80 u81 u82 u83 u84 u85 u86 u87 u88 u89 u90 u91 u92 u93 u94 u95 u96 u97 u98 u99 u100 u101 u102 u103 u104 u105 u106 u107 u108 u109 u110 u111 u112 u113 u114 u115 u116 u117 u118 u119 u120 u121 u122 u123 u124 u125 u126 u127 u128 u129 u130 u131 u132 u133 u134 u135 u136 u137 u138 u139 u140 u141 u142 u143 u144 u145 u146 u147 u148 u149 u150 u151 u152 u153 u154 u155 u156 u157 u158 u159 u160 u161 u162 u163 u164 u165 u166 u167 u168 u169 u170 u171 u172 u173 u174 u175 u176 u177 u178 u179 u180 u181 u182 u183 u184 u185 u186 u187 u188 u189 u190 u191 u192 u193 u194 u195 u196 u197 u198 u199 u200 u201 u202 u203 u204 u205 u206 u207 u208 u209 u210 u211 u212 u213 u214 u215 u216 u217 u218 u219 u220 u221 u222 u223 u224 u225 u226 u227 u228 u229 u230 u231 u232 u233 u234 u235 u236 u237 u238 u239 u240 u241 u242 u243 u244 u245 u246 u247 u248 u249 u250 u251 u252 u253 u254 : Value) (K : Act → World → Prop) (Q1 : Exit → Act → World → Prop)
    (hK : ∀ (v166 v167 v168 v169 v170 v171 v172 v173 v174 v175 v176 v177 v178 v179 v180 v181 v182 v183 v184 v185 v186 v187 v188 v189 v190 v191 v192 v193 v194 v195 v196 v197 v198 : Value) (wc : World), Hid (Sts w (Rw ++ (Rp ++ (Ra ++ []))) wc) → K ⟨#[u0, u1, u2, u3, u4, .slice (some ⟨ga, 0, none⟩) m ca, u6, u7, u8, u9, u10, u11, u12, .int .i64 i, .int .i64 q, .bool jb, u16, u17, u18, u19, u20, u21, u22, u23, u24, u25, u26, u27, u28, u29, u30, u31, u32, u33, u34, u35, u36, u37, u38, u39, u40, u41, u42, u43, u44, u45, u46, u47, u48, u49, u50, u51, u52, u53, u54, u55, u56, u57, u58, u59, u60, u61, u62, u63, u64, u65, u66, u67, u68, u69, u70, u71, u72, u73, u74, u75, u76, u77, u78, u79, u80, u81, u82, u83, u84, u85, u86, u87, u88, u89, u90, u91, u92, u93, u94, u95, u96, u97, u98, u99, u100, u101, u102, u103, u104, u105, u106, u107, u108, u109, u110, u111, u112, u113, u114, u115, u116, u117, u118, u119, u120, u121, u122, u123, u124, u125, u126, u127, u128, u129, u130, u131, u132, u133, u134, u135, u136, u137, u138, u139, u140, u141, u142, u143, u144, u145, u146, u147, u148, u149, u150, u151, u152, u153, u154, u155, u156, u157, u158, u159, u160, u161, u162, u163, u164, u165, v166, v167, v168, v169, v170, v171, v172, v173, v174, v175, v176, v177, v178, v179, v180, v181, v182, v183, v184, v185, v186, v187, v188, v189, v190, v191, v192, v193, v194, v195, v196, v197, v198, u199, u200, u201, u202, u203, u204, u205, u206, u207, u208, u209, u210, u211, u212, u213, u214, u215, u216, u217, u218, u219, u220, u221, u222, u223, u224, u225, u226, u227, u228, u229, u230, u231, u232, u233, u234, u235, u236, u237, u238, u239, u240, u241, u242, u243, u244, u245, u246, u247, u248, u249, u250, u251, u252, u253, u254], []⟩ wc) :
    Code.wp Try.prog ((Try.f12.body.bind (regAt 25)).getD .skip) (Exit.then K Q1) ⟨#[u0, u1, u2, u3, u4, .slice (some ⟨ga, 0, none⟩) m ca, u6, u7, u8, u9, u10, u11, u12, .int .i64 i, .int .i64 q, u15, u16, u17, u18, u19, u20, u21, u22, u23, u24, u25, u26, u27, u28, u29, u30, u31, u32, u33, u34, u35, u36, u37, u38, u39, u40, u41, u42, u43, u44, u45, u46, u47, u48, u49, u50, u51, u52, u53, u54, u55, u56, u57, u58, u59, u60, u61, u62, u63, u64, u65, u66, u67, u68, u69, u70, u71, u72, u73, u74, u75, u76, u77, u78, u79, u80, u81, u82, u83, u84, u85, u86, u87, u88, u89, u90, u91, u92, u93, u94, u95, u96, u97, u98, u99, u100, u101, u102, u103, u104, u105, u106, u107, u108, u109, u110, u111, u112, u113, u114, u115, u116, u117, u118, u119, u120, u121, u122, u123, u124, u125, u126, u127, u128, u129, u130, u131, u132, u133, u134, u135, u136, u137, u138, u139, u140, u141, u142, u143, u144, u145, u146, u147, u148, u149, u150, u151, u152, u153, u154, u155, u156, u157, u158, u159, u160, u161, u162, u163, u164, u165, u166, u167, u168, u169, u170, u171, u172, u173, u174, u175, u176, u177, u178, u179, u180, u181, u182, u183, u184, u185, u186, u187, u188, u189, u190, u191, u192, u193, u194, u195, u196, u197, u198, u199, u200, u201, u202, u203, u204, u205, u206, u207, u208, u209, u210, u211, u212, u213, u214, u215, u216, u217, u218, u219, u220, u221, u222, u223, u224, u225, u226, u227, u228, u229, u230, u231, u232, u233, u234, u235, u236, u237, u238, u239, u240, u241, u242, u243, u244, u245, u246, u247, u248, u249, u250, u251, u252, u253, u254], []⟩ W := by
  have xC := fun (W : World) (hW : Sts w (Rw ++ (Rp ++ (Ra ++ []))) W) => HA.out.cells (A := Rw ++ Rp) (B := []) (hW.lit (by simp)) hz
  have yC := fun (W : World) (hW : Sts w (Rw ++ (Rp ++ (Ra ++ []))) W) => HA.out.cells (A := Rw ++ Rp) (B := []) (hW.lit (by simp)) hq
  simp only at xC yC
  have hne : Nonempty (Later w (Rw ++ (Rp ++ (Ra ++ [])))) := ⟨⟨_, HS.out⟩⟩
  have x0 : ∀ p : Later w (Rw ++ (Rp ++ (Ra ++ []))), p.val.cell? ⟨ga, i * 7, none⟩ = some (.int .i64 ri) := fun p => (xC p.val p.property).2.1
  have y0 : ∀ p : Later w (Rw ++ (Rp ++ (Ra ++ []))), p.val.cell? ⟨ga, q * 7, none⟩ = some (.int .i64 rk) := fun p => (yC p.val p.property).2.1
  clear xC yC hz hq
  have i0 : (0 : Int) ≤ (i : Int) := by omega
  have i1 : (i : Int) < (m : Int) := by omega
  have k0 : (0 : Int) ≤ (q : Int) := by omega
  have k1 : (q : Int) < (m : Int) := by omega
  subst hjb
  conv => arg 2; whnf
  dsimp only
  by_cases h1 : ri < rk
  · have c1 : decide (ri < rk) = true := decide_eq_true h1
    have hj : decide (ri < rk ∨ (rk = ri ∧ i < q)) = true := decide_eq_true (.inl h1)
    rw [hj] at hK
    clear hj
    refine wp_region_sts HS.out (by kernel_rfl) (by kernel_rfl) ?_
    repeat (go_big_quiet_step (first | exact rfl))
    refine wpQuiet_nil ?_
    rintro wz ⟨⟨_, hz'⟩, rfl⟩
    exact hK _ _ _ _ _ _ _ _ _ _ _ _ _ _ _ _ _ _ _ _ _ _ _ _ _ _ _ _ _ _ _ _ _ _ (Lib.hid hz')
  · have c1 : decide (ri < rk) = false := decide_eq_false h1
    by_cases h2 : rk = ri
    · subst h2
      by_cases h3 : i < q
      · have c3 : decide ((i : Int) < (q : Int)) = true := decide_eq_true (by omega)
        have hj : decide (rk < rk ∨ (rk = rk ∧ i < q)) = true := decide_eq_true (.inr ⟨rfl, h3⟩)
        rw [hj] at hK
        clear hj
        refine wp_region_sts HS.out (by kernel_rfl) (by kernel_rfl) ?_
        repeat (go_big_quiet_step (first | exact rfl))
        refine wpQuiet_nil ?_
        rintro wz ⟨⟨_, hz'⟩, rfl⟩
        exact hK _ _ _ _ _ _ _ _ _ _ _ _ _ _ _ _ _ _ _ _ _ _ _ _ _ _ _ _ _ _ _ _ _ _ (Lib.hid hz')
      · have c3 : decide ((i : Int) < (q : Int)) = false := decide_eq_false (by omega)
        have hj : decide (rk < rk ∨ (rk = rk ∧ i < q)) = false := decide_eq_false (fun h => by rcases h with h | h; exact h1 h; exact h3 h.2)
        rw [hj] at hK
        clear hj
        refine wp_region_sts HS.out (by kernel_rfl) (by kernel_rfl) ?_
        repeat (go_big_quiet_step (first | exact rfl))
        refine wpQuiet_nil ?_
        rintro wz ⟨⟨_, hz'⟩, rfl⟩
        exact hK _ _ _ _ _ _ _ _ _ _ _ _ _ _ _ _ _ _ _ _ _ _ _ _ _ _ _ _ _ _ _ _ _ _ (Lib.hid hz')
    · have c2 : (rk == ri) = false := beq_eq_false_iff_ne.2 h2
      have hj : decide (ri < rk ∨ (rk = ri ∧ i < q)) = false := decide_eq_false (fun h => by rcases h with h | h; exact h1 h; exact h2 h.1)
      rw [hj] at hK
      clear hj
      refine wp_region_sts HS.out (by kernel_rfl) (by kernel_rfl) ?_
      repeat (go_big_quiet_step (first | exact rfl))
      refine wpQuiet_nil ?_
      rintro wz ⟨⟨_, hz'⟩, rfl⟩
      exact hK _ _ _ _ _ _ _ _ _ _ _ _ _ _ _ _ _ _ _ _ _ _ _ _ _ _ _ _ _ _ _ _ _ _ (Lib.hid hz')
end Go.Proofs.Ytllbpjaiplnbnaa

import Derived.Test.YtllbpjaiplnbnaaLossRk1
namespace Go.Proofs.Ytllbpjaiplnbnaa
open Go.RowKit
set_option linter.unusedVariables false
set_option linter.unusedSimpArgs false
set_option maxHeartbeats 32000000 in
set_option maxRecDepth 1000000 in
theorem ranks26 (w : World) (m ga gw ca cw : Nat) (Ra Rw Rp : List Ent) (zs zs' : List Nt) (HA : Hid (NRow Ra (some ⟨ga, 0, none⟩) m ga zs')) (HW : Hid (NRow Rw (some ⟨gw, 0, none⟩) m gw zs)) (W : World) (HS : Hid (Sts w (Rw ++ (Rp ++ (Ra ++ []))) W)) (i q : Nat) (him : i < m) (hqm : q < m) (hm6 : m ≤ 6) (ri iog ipi id idn rk kog kpi kd kdn bk : Int) (jb : Bool) (hz : zs'[i]? = some ⟨ri, iog, 0, ipi, 0, 0, id⟩) (hq : zs'[q]? = some ⟨rk, kog, 0, kpi, 0, 0, kd⟩) (hw : zs[i]? = some ⟨ri, iog, 0, ipi, 0, 0, idn⟩) (hv : zs[q]? = some ⟨rk, kog, 0, kpi, 0, 0, kdn⟩) (o0 : 0 ≤ kog) (o1 : kog ≤ 900) (p0 : 0 ≤ kpi) (p1 : kpi ≤ kog) (d0 : 0 ≤ kd) (d1 : kd ≤ kog - kpi) (hbk : bk = kog - kpi - kd) (hX : jb = true → ¬ (idn < id ∧ 0 < bk) ∧ ¬ (kd < kdn ∧ 0 < id)) (u0 u1 u2 u3 u4 u7 u8 u9 u10 u11 u12 u16 u17 u18 u19 u20 u21 u22 u23 u24 u25 u26 u27 u28 u29 u30 u31 u32 u33 u34 u35 u36 u37 u38 u39 u40 u41 u42 u43 u44 u45 u46 u47 u48 u49 u50 u51 u52 u53 u54 u55 u56 u57 u58 u59 u60 u61 u62 u63 u64 u65 u66 u67 u68 u69 u70 u71 u72 u73 u74 u75 u76 u77 u78 u79 u80 u81 u82 u83 u84 u85 u86 u87 u88 u89 u90 u91 u92 u93 u94 u95 u96 u97 u98 u99 u100 u101 u102 u103 u104 u105 u106 u107 u108 u109 u110 u111 u112 u113 u114 u115 u116 u117 u118 u119 u120 u121 u122 u123 u124 u125 u126 u127 u128 u129 u130 u131 u132 u133 u134 u135 u136 u137 u138 u139 u140 u141 u142 u143 u144 u145 u146 u147 u148 u149 u150 u151 u152 u153 u154 u155 u156 u157 u158 u159 u160 u161 u162 u163 u164 u165 u166 u167 u168 u169 u170 u171 u172 u173 u174 u175 u176 u177 u178 u179 u180 u181 u182 u183 u184 u185 u186 u187 u188 u189 u190 u191 u192 u193 u194 u195 u196 u197 u198 u199 u200 u201 u202 u203 u204 u205 u206 u207 u208 u209 u210 u211 u212 u213 u214 u215 u216 u217 u218 u219 u220 u221 u222 u223 u224 u225 u226 u227 u228 u229 u230 u231 u232 u233 u234 u235 u236 u237 u238 u239 u240 u241 u242 u243 u244 u245 u246 u247 u248 u249 u250 u251 u252 u253 u254 : Value) (K : Act → World → Prop) (Q1 : Exit → Act → World → Prop)
    (hK : ∀ (v199 v200 v201 v202 v203 v204 v205 v206 v207 v208 v209 v210 v211 v212 v213 v214 v215 v216 v217 v218 v219 v220 v221 v222 v223 v224 v225 v226 v227 v228 v229 v230 v231 v232 v233 v234 v235 v236 v237 v238 v239 v240 v241 v242 v243 : Value) (wc : World), Hid (Sts w (Rw ++ (Rp ++ (Ra ++ []))) wc) → K ⟨#[u0, u1, u2, u3, u4, .slice (some ⟨ga, 0, none⟩) m ca, .slice (some ⟨gw, 0, none⟩) m cw, u7, u8, u9, u10, u11, u12, .int .i64 i, .int .i64 q, .bool jb, u16, u17, u18, u19, u20, u21, u22, u23, u24, u25, u26, u27, u28, u29, u30, u31, u32, u33, u34, u35, u36, u37, u38, u39, u40, u41, u42, u43, u44, u45, u46, u47, u48, u49, u50, u51, u52, u53, u54, u55, u56, u57, u58, u59, u60, u61, u62, u63, u64, u65, u66, u67, u68, u69, u70, u71, u72, u73, u74, u75, u76, u77, u78, u79, u80, u81, u82, u83, u84, u85, u86, u87, u88, u89, u90, u91, u92, u93, u94, u95, u96, u97, u98, u99, u100, u101, u102, u103, u104, u105, u106, u107, u108, u109, u110, u111, u112, u113, u114, u115, u116, u117, u118, u119, u120, u121, u122, u123, u124, u125, u126, u127, u128, u129, u130, u131, u132, u133, u134, u135, u136, u137, u138, u139, u140, u141, u142, u143, u144, u145, u146, u147, u148, u149, u150, u151, u152, u153, u154, u155, u156, u157, u158, u159, u160, u161, u162, u163, u164, u165, u166, u167, u168, u169, u170, u171, u172, u173, u174, u175, u176, u177, u178, u179, u180, u181, u182, u183, u184, u185, u186, u187, u188, u189, u190, u191, u192, u193, u194, u195, u196, u197, u198, v199, v200, v201, v202, v203, v204, v205, v206, v207, v208, v209, v210, v211, v212, v213, v214, v215, v216, v217, v218, v219, v220, v221, v222, v223, v224, v225, v226, v227, v228, v229, v230, v231, v232, v233, v234, v235, v236, v237, v238, v239, v240, v241, v242, v243, .bool false, u245, u246, u247, u248, u249, u250, u251, u252, u253, u254], []⟩ wc) :
    Code.wp Try.prog ((Try.f12.body.bind (regAt 26)).getD .skip) (Exit.then K Q1) ⟨#[u0, u1, u2, u3, u4, .slice (some ⟨ga, 0, none⟩) m ca, .slice (some ⟨gw, 0, none⟩) m cw, u7, u8, u9, u10, u11, u12, .int .i64 i, .int .i64 q, .bool jb, u16, u17, u18, u19, u20, u21, u22, u23, u24, u25, u26, u27, u28, u29, u30, u31, u32, u33, u34, u35, u36, u37, u38, u39, u40, u41, u42, u43, u44, u45, u46, u47, u48, u49, u50, u51, u52, u53, u54, u55, u56, u57, u58, u59, u60, u61, u62, u63, u64, u65, u66, u67, u68, u69, u70, u71, u72, u73, u74, u75, u76, u77, u78, u79, u80, u81, u82, u83, u84, u85, u86, u87, u88, u89, u90, u91, u92, u93, u94, u95, u96, u97, u98, u99, u100, u101, u102, u103, u104, u105, u106, u107, u108, u109, u110, u111, u112, u113, u114, u115, u116, u117, u118, u119, u120, u121, u122, u123, u124, u125, u126, u127, u128, u129, u130, u131, u132, u133, u134, u135, u136, u137, u138, u139, u140, u141, u142, u143, u144, u145, u146, u147, u148, u149, u150, u151, u152, u153, u154, u155, u156, u157, u158, u159, u160, u161, u162, u163, u164, u165, u166, u167, u168, u169, u170, u171, u172, u173, u174, u175, u176, u177, u178, u179, u180, u181, u182, u183, u184, u185, u186, u187, u188, u189, u190, u191, u192, u193, u194, u195, u196, u197, u198, u199, u200, u201, u202, u203, u204, u205, u206, u207, u208, u209, u210, u211, u212, u213, u214, u215, u216, u217, u218, u219, u220, u221, u222, u223, u224, u225, u226, u227, u228, u229, u230, u231, u232, u233, u234, u235, u236, u237, u238, u239, u240, u241, u242, u243, u244, u245, u246, u247, u248, u249, u250, u251, u252, u253, u254], []⟩ W := by
  have xC := fun (W : World) (hW : Sts w (Rw ++ (Rp ++ (Ra ++ []))) W) => HA.out.cells (A := Rw ++ Rp) (B := []) (hW.lit (by simp)) hz
  have yC := fun (W : World) (hW : Sts w (Rw ++ (Rp ++ (Ra ++ []))) W) => HA.out.cells (A := Rw ++ Rp) (B := []) (hW.lit (by simp)) hq
  have aC := fun (W : World) (hW : Sts w (Rw ++ (Rp ++ (Ra ++ []))) W) => HW.out.cells (A := []) (B := Rp ++ (Ra ++ [])) (hW.lit (by simp)) hw
  have bC := fun (W : World) (hW : Sts w (Rw ++ (Rp ++ (Ra ++ []))) W) => HW.out.cells (A := []) (B := Rp ++ (Ra ++ [])) (hW.lit (by simp)) hv
  simp only at xC yC aC bC
  have hne : Nonempty (Later w (Rw ++ (Rp ++ (Ra ++ [])))) := ⟨⟨_, HS.out⟩⟩
  have x6 : ∀ p : Later w (Rw ++ (Rp ++ (Ra ++ []))), p.val.cell? ⟨ga, i * 7 + 6, none⟩ = some (.int .i64 id) := fun p => (xC p.val p.property).2.2.2.2.2.2.2
  have y0 : ∀ p : Later w (Rw ++ (Rp ++ (Ra ++ []))), p.val.cell? ⟨ga, q * 7, none⟩ = some (.int .i64 rk) := fun p => (yC p.val p.property).2.1
  have y1 : ∀ p : Later w (Rw ++ (Rp ++ (Ra ++ []))), p.val.cell? ⟨ga, q * 7 + 1, none⟩ = some (.int .i64 kog) := fun p => (yC p.val p.property).2.2.1
  have y2 : ∀ p : Later w (Rw ++ (Rp ++ (Ra ++ []))), p.val.cell? ⟨ga, q * 7 + 2, none⟩ = some (.int .i64 0) := fun p => (yC p.val p.property).2.2.2.1
  have y3 : ∀ p : Later w (Rw ++ (Rp ++ (Ra ++ []))), p.val.cell? ⟨ga, q * 7 + 3, none⟩ = some (.int .i64 kpi) := fun p => (yC p.val p.property).2.2.2.2.1
  have y4 : ∀ p : Later w (Rw ++ (Rp ++ (Ra ++ []))), p.val.cell? ⟨ga, q * 7 + 4, none⟩ = some (.int .i64 0) := fun p => (yC p.val p.property).2.2.2.2.2.1
  have y5 : ∀ p : Later w (Rw ++ (Rp ++ (Ra ++ []))), p.val.cell? ⟨ga, q * 7 + 5, none⟩ = some (.int .i64 0) := fun p => (yC p.val p.property).2.2.2.2.2.2.1
  have y6 : ∀ p : Later w (Rw ++ (Rp ++ (Ra ++ []))), p.val.cell? ⟨ga, q * 7 + 6, none⟩ = some (.int .i64 kd) := fun p => (yC p.val p.property).2.2.2.2.2.2.2
  have a6 : ∀ p : Later w (Rw ++ (Rp ++ (Ra ++ []))), p.val.cell? ⟨gw, i * 7 + 6, none⟩ = some (.int .i64 idn) := fun p => (aC p.val p.property).2.2.2.2.2.2.2
  have b6 : ∀ p : Later w (Rw ++ (Rp ++ (Ra ++ []))), p.val.cell? ⟨gw, q * 7 + 6, none⟩ = some (.int .i64 kdn) := fun p => (bC p.val p.property).2.2.2.2.2.2.2
  clear xC yC aC bC hz hq hw hv
  have NB : ∀ p : Later w (Rw ++ (Rp ++ (Ra ++ []))), Calls Try.prog 17 #[nv rk kog 0 kpi 0 0 kd] p.val (fun e w'' => e = .returned (.int .i64 bk) ∧ ∃ q : Later w (Rw ++ (Rp ++ (Ra ++ []))), w'' = q.val) := fun p => Goes.quiet (balance_s bk rk kog 0 kpi 0 0 kd p.property (Fair.mk_ (by omega) (by omega) (by omega) (by omega) (by omega) (by omega) (by omega) (by omega) (by omega)) (by omega))
  clear hbk o0 o1 p0 p1 d0 d1
  have i0 : (0 : Int) ≤ (i : Int) := by omega
  have i1 : (i : Int) < (m : Int) := by omega
  have k0 : (0 : Int) ≤ (q : Int) := by omega
  have k1 : (q : Int) < (m : Int) := by omega
  conv => arg 2; whnf
  dsimp only
  cases jb with
  | false =>
    clear hX
    refine wp_region_sts HS.out (by kernel_rfl) (by kernel_rfl) ?_
    repeat (go_big_quiet_step (first | exact rfl | (go_at_call 17; exact NB _)))
    refine wpQuiet_nil ?_
    rintro wz ⟨⟨_, hz'⟩, rfl⟩
    exact hK _ _ _ _ _ _ _ _ _ _ _ _ _ _ _ _ _ _ _ _ _ _ _ _ _ _ _ _ _ _ _ _ _ _ _ _ _ _ _ _ _ _ _ _ _ _ (Lib.hid hz')
  | true =>
    obtain ⟨g1, g2⟩ := hX rfl
    by_cases h1 : idn < id
    · have c1 : decide (idn < id) = true := decide_eq_true h1
      have c2 : decide (0 < bk) = false := decide_eq_false (fun h => g1 ⟨h1, h⟩)
      by_cases h3 : kd < kdn
      · have c3 : decide (kd < kdn) = true := decide_eq_true h3
        have c4 : decide (0 < id) = false := decide_eq_false (fun h => g2 ⟨h3, h⟩)
        clear g1 g2 hX
        refine wp_region_sts HS.out (by kernel_rfl) (by kernel_rfl) ?_
        repeat (go_big_quiet_step (first | exact rfl | (go_at_call 17; exact NB _)))
        refine wpQuiet_nil ?_
        rintro wz ⟨⟨_, hz'⟩, rfl⟩
        exact hK _ _ _ _ _ _ _ _ _ _ _ _ _ _ _ _ _ _ _ _ _ _ _ _ _ _ _ _ _ _ _ _ _ _ _ _ _ _ _ _ _ _ _ _ _ _ (Lib.hid hz')
      · have c3 : decide (kd < kdn) = false := decide_eq_false h3
        clear g1 g2 hX
        refine wp_region_sts HS.out (by kernel_rfl) (by kernel_rfl) ?_
        repeat (go_big_quiet_step (first | exact rfl | (go_at_call 17; exact NB _)))
        refine wpQuiet_nil ?_
        rintro wz ⟨⟨_, hz'⟩, rfl⟩
        exact hK _ _ _ _ _ _ _ _ _ _ _ _ _ _ _ _ _ _ _ _ _ _ _ _ _ _ _ _ _ _ _ _ _ _ _ _ _ _ _ _ _ _ _ _ _ _ (Lib.hid hz')
    · have c1 : decide (idn < id) = false := decide_eq_false h1
      by_cases h3 : kd < kdn
      · have c3 : decide (kd < kdn) = true := decide_eq_true h3
        have c4 : decide (0 < id) = false := decide_eq_false (fun h => g2 ⟨h3, h⟩)
        clear g1 g2 hX
        refine wp_region_sts HS.out (by kernel_rfl) (by kernel_rfl) ?_
        repeat (go_big_quiet_step (first | exact rfl | (go_at_call 17; exact NB _)))
        refine wpQuiet_nil ?_
        rintro wz ⟨⟨_, hz'⟩, rfl⟩
        exact hK _ _ _ _ _ _ _ _ _ _ _ _ _ _ _ _ _ _ _ _ _ _ _ _ _ _ _ _ _ _ _ _ _ _ _ _ _ _ _ _ _ _ _ _ _ _ (Lib.hid hz')
      · have c3 : decide (kd < kdn) = false := decide_eq_false h3
        clear g1 g2 hX
        refine wp_region_sts HS.out (by kernel_rfl) (by kernel_rfl) ?_
        repeat (go_big_quiet_step (first | exact rfl | (go_at_call 17; exact NB _)))
        refine wpQuiet_nil ?_
        rintro wz ⟨⟨_, hz'⟩, rfl⟩
        exact hK _ _ _ _ _ _ _ _ _ _ _ _ _ _ _ _ _ _ _ _ _ _ _ _ _ _ _ _ _ _ _ _ _ _ _ _ _ _ _ _ _ _ _ _ _ _ (Lib.hid hz')
end Go.Proofs.Ytllbpjaiplnbnaa

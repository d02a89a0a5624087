import Derived.Test.YtideaimlnipkoaaShP2
import Derived.Test.YtideaimlnipkoaaShP3
namespace Go.Proofs.Ytideaimlnipkoaa
open Go.RowKit
set_option linter.unusedVariables false
set_option linter.unusedSimpArgs false
attribute [local go_sem] bmax2 bmin2 bmax_two bmin_two bmax_three bmin_three
set_option maxHeartbeats 32000000 in
set_option maxRecDepth 1000000 in
theorem play_Pm (w : World) (K0 : Int) (A1 : Option Addr) (n1 c1 g n0 : Nat) (f : Nat → SAsk) (c2_ c3_ c22_ c23_ c24_ c25_ c26_ c27_ c28_ c29_ c30_ c245_ : Value) (u4 u10 u11 u12 u13 u14 u15 u16 u17 u18 u19 u20 u21 u31 u32 u33 u34 u35 u36 u37 u38 u39 u40 u41 u42 u43 u44 u45 u46 u47 u48 u49 u50 u51 u52 u53 u54 u55 u56 u57 u58 u59 u60 u61 u62 u63 u64 u65 u66 u67 u68 u69 u70 u71 u72 u73 u74 u75 u76 u77 u78 u79 u80 u81 u82 u83 u84 u85 u86 u87 u88 u89 u90 u91 u92 u93 u94 u95 u96 u97 u98 u99 u100 u101 u102 u103 u104 u105 u106 u107 u108 u109 u110 u111 u112 u113 u114 u115 u116 u117 u118 u119 u120 u121 u122 u123 u124 u125 u126 u127 u128 u129 u130 u131 u132 u133 u134 u135 u136 u137 u138 u139 u140 u141 u142 u143 u144 u145 u146 u147 u148 u149 u150 u151 u152 u153 u154 u155 u156 u157 u158 u159 u160 u161 u162 u163 u164 u165 u166 u167 u168 u169 u170 u171 u172 u173 u174 u175 u176 u177 u178 u179 u180 u181 u182 u183 u184 u185 u186 u187 u188 u189 u190 u191 u192 u193 u194 u195 u196 u197 u198 u199 u200 u201 u202 u203 u204 u205 u206 u207 u208 u209 u210 u211 u212 u213 u214 u215 u216 u217 u218 u219 u220 u221 u222 u223 u224 u225 u226 u227 u228 u229 u230 u231 u232 u233 u234 u235 u236 u237 u238 u239 u240 u241 u242 u243 u244 : Value) (i cnt cw : Nat) (aw : Option Addr) (bal : List Int) (Rw : List Ent) (Q0 : Exit → Act → World → Prop) (wr : World)
    (hmost : n1 ≤ 9223372036854775807) (q2 : i < n1) (q3 : i < 20) (H1 : Hid (SAsksIn w A1 n1 f)) (P1 : Hid (Play w g bal cnt n0 Rw aw cw i wr)) (hmv : (f i).mv = true) :
    Code.wp Try.prog playBody (Exit.then (fun a' w'' => PlayI w K0 A1 n1 c1 g n0 c2_ c3_ c22_ c23_ c24_ c25_ c26_ c27_ c28_ c29_ c30_ c245_ a' w'' ∧ playMu a' w'' < playMu ⟨#[.int .i64 K0, .slice A1 n1 c1, c2_, c3_, u4, .pointer (some ⟨g, 0, none⟩), .int .i64 n0, .slice aw n0 cw, .int .i64 cnt, .int .i64 i, u10, u11, u12, u13, u14, u15, u16, u17, u18, u19, u20, u21, c22_, c23_, c24_, c25_, c26_, c27_, c28_, c29_, c30_, u31, u32, u33, u34, u35, u36, u37, u38, u39, u40, u41, u42, u43, u44, u45, u46, u47, u48, u49, u50, u51, u52, u53, u54, u55, u56, u57, u58, u59, u60, u61, u62, u63, u64, u65, u66, u67, u68, u69, u70, u71, u72, u73, u74, u75, u76, u77, u78, u79, u80, u81, u82, u83, u84, u85, u86, u87, u88, u89, u90, u91, u92, u93, u94, u95, u96, u97, u98, u99, u100, u101, u102, u103, u104, u105, u106, u107, u108, u109, u110, u111, u112, u113, u114, u115, u116, u117, u118, u119, u120, u121, u122, u123, u124, u125, u126, u127, u128, u129, u130, u131, u132, u133, u134, u135, u136, u137, u138, u139, u140, u141, u142, u143, u144, u145, u146, u147, u148, u149, u150, u151, u152, u153, u154, u155, u156, u157, u158, u159, u160, u161, u162, u163, u164, u165, u166, u167, u168, u169, u170, u171, u172, u173, u174, u175, u176, u177, u178, u179, u180, u181, u182, u183, u184, u185, u186, u187, u188, u189, u190, u191, u192, u193, u194, u195, u196, u197, u198, u199, u200, u201, u202, u203, u204, u205, u206, u207, u208, u209, u210, u211, u212, u213, u214, u215, u216, u217, u218, u219, u220, u221, u222, u223, u224, u225, u226, u227, u228, u229, u230, u231, u232, u233, u234, u235, u236, u237, u238, u239, u240, u241, u242, u243, u244, c245_], []⟩ wr) Q0) ⟨#[.int .i64 K0, .slice A1 n1 c1, c2_, c3_, u4, .pointer (some ⟨g, 0, none⟩), .int .i64 n0, .slice aw n0 cw, .int .i64 cnt, .int .i64 i, u10, u11, u12, u13, u14, u15, u16, u17, u18, u19, u20, u21, c22_, c23_, c24_, c25_, c26_, c27_, c28_, c29_, c30_, u31, u32, u33, u34, u35, u36, u37, u38, u39, u40, u41, u42, u43, u44, u45, u46, u47, u48, u49, u50, u51, u52, u53, u54, u55, u56, u57, u58, u59, u60, u61, u62, u63, u64, u65, u66, u67, u68, u69, u70, u71, u72, u73, u74, u75, u76, u77, u78, u79, u80, u81, u82, u83, u84, u85, u86, u87, u88, u89, u90, u91, u92, u93, u94, u95, u96, u97, u98, u99, u100, u101, u102, u103, u104, u105, u106, u107, u108, u109, u110, u111, u112, u113, u114, u115, u116, u117, u118, u119, u120, u121, u122, u123, u124, u125, u126, u127, u128, u129, u130, u131, u132, u133, u134, u135, u136, u137, u138, u139, u140, u141, u142, u143, u144, u145, u146, u147, u148, u149, u150, u151, u152, u153, u154, u155, u156, u157, u158, u159, u160, u161, u162, u163, u164, u165, u166, u167, u168, u169, u170, u171, u172, u173, u174, u175, u176, u177, u178, u179, u180, u181, u182, u183, u184, u185, u186, u187, u188, u189, u190, u191, u192, u193, u194, u195, u196, u197, u198, u199, u200, u201, u202, u203, u204, u205, u206, u207, u208, u209, u210, u211, u212, u213, u214, u215, u216, u217, u218, u219, u220, u221, u222, u223, u224, u225, u226, u227, u228, u229, u230, u231, u232, u233, u234, u235, u236, u237, u238, u239, u240, u241, u242, u243, u244, c245_], []⟩ wr := by
  conv => arg 2; whnf
  obtain ⟨ad, hA, hq⟩ := H1.out.at_ i q2
  obtain ⟨q, hfq⟩ : ∃ q, f i = q := ⟨_, rfl⟩
  rw [hfq] at hq hmv
  obtain ⟨pa, pn, pc, es, qf, qt, qx, qm, qb⟩ := q
  obtain ⟨k0, k1, k2, k3, k4, k5, hen, hle, hcap, bf, bt, bx⟩ := hq
  simp only at k0 k1 k2 k3 k4 k5 hen hle hcap bf bt bx hmv
  subst hmv
  have hbel := P1.out.at_.bel
  replace k0 := (hbel.cell (World.block_lt_of_cell? w _ k0)).trans k0
  replace k1 := (hbel.cell (World.block_lt_of_cell? w _ k1)).trans k1
  replace k2 := (hbel.cell (World.block_lt_of_cell? w _ k2)).trans k2
  replace k3 := (hbel.cell (World.block_lt_of_cell? w _ k3)).trans k3
  replace k4 := (hbel.cell (World.block_lt_of_cell? w _ k4)).trans k4
  replace k5 := (hbel.cell (World.block_lt_of_cell? w _ k5)).trans k5
  obtain rfl := hA
  have HEN := Lib.hid hen
  obtain ⟨x0, x1⟩ := bx
  have BF := Lib.hid bf; have BT := Lib.hid bt
  clear hen hbel hfq H1 bf bt
  have hn0 := P1.out.n0
  have hct := P1.out.cnt
  have b0 : decide (i < n1) = true := decide_eq_true q2
  have b1 : decide ((i : Int) < 20) = true := decide_eq_true (by omega)
  go_upto_region 11 with fail
  clear k0 k1 k2 k3 k4 k5
  have hqc : (#[.slice pa pn pc, .int .i64 qf, .int .i64 qt, .int .i64 qx, .bool true, .bool qb] : Array Value) = qcells ⟨pa, pn, pc, es, qf, qt, qx, true, qb⟩ := rfl
  rw [hqc]
  have hs2 := P1.out.at_.join ((Sts.nil wr).add (g := wr.heap.size) rfl (qcells ⟨pa, pn, pc, es, qf, qt, qx, true, qb⟩) 43)
  have S2 := Lib.hid (show ShAt w ((wr.heap.size, qcells ⟨pa, pn, pc, es, qf, qt, qx, true, qb⟩, 43) :: Rw) g bal cnt _ from hs2)
  clear hs2 hqc
  generalize wr.alloc (.cells (qcells ⟨pa, pn, pc, es, qf, qt, qx, true, qb⟩) 43) = w2 at *
  generalize wr.heap.size = gq at *
  have HEB := Lib.hid HEN.out.bd
  have hbel2 := S2.out.bel
  have hsrc := (HEN.out.src.below hbel2)
  obtain ⟨m, hm⟩ : ∃ m, m = min pn 6 := ⟨_, rfl⟩
  have tm : min (pn : Int) 6 = (m : Int) := by omega
  have i1 : (0 : Int) ≤ (m : Int) := by omega
  have i2 : (m : Int) ≤ (pc : Int) := by omega
  have hm6 : m ≤ 6 := by omega
  have hmp : m ≤ pn := by omega
  have HSB := Lib.hid (hsrc.cutE hmp)
  have HBD : Hid (∀ e ∈ es.take m, Bd e.1 ∧ Bd e.2) := Lib.hid (fun e he => HEB.out e (List.mem_of_mem_take he))
  have HL0 : Hid ((es.take m).length = m) := Lib.hid (by have := HEN.out.len; rw [List.length_take]; omega)
  clear HEN HEB hbel2 hsrc hm
  obtain ⟨d0, _⟩ := S2.out.cellL (g' := gq) (cs := qcells ⟨pa, pn, pc, es, qf, qt, qx, true, qb⟩) (t := 43) (by simp) 0 (v := .slice pa pn pc) rfl
  have dA : ∀ ob, (w2.alloc ob).cell? ⟨gq, 0, none⟩ = some (.slice pa pn pc) := fun ob => ((bel_alloc (Below.refl _ w2) ob).cell (World.block_lt_of_cell? w2 _ d0)).trans d0
  generalize hQ : qcells ⟨pa, pn, pc, es, qf, qt, qx, true, qb⟩ = Q at *
  generalize es.take m = es0 at *
  have HQ1 : Hid (Q = #[.slice pa pn pc, .int .i64 qf, .int .i64 qt, .int .i64 qx, .bool true, .bool qb]) := Lib.hid hQ.symm
  clear hQ
  have HSE := Lib.hid ((Sts.nil w2).add (g := w2.heap.size) rfl #[] 27)
  obtain ⟨j0, hi, hz, hs1, hs2⟩ := info_parts entry_info
  go_upto_region 12 with (at_builtin; go_must (refine row_append (by rfl) (.tmp 45) (.tmp 52) 35 rfl [] [] Try.underlying35 hi hz hs1 hs2 rfl (by omega) (Row.empty _ _ _) HSE.out rfl rfl (HSB.out.alloc _) (ecs_one _) (by omega) (by omega) ?_); rintro Re ae ce w3 hRe hSe; simp only [Nat.zero_add, List.nil_append] at hRe hSe ⊢)
  have hs3 := S2.out.join hSe
  rw [List.append_nil] at hs3
  have S3 := Lib.hid hs3; have RE := Lib.hid hRe
  clear hs3 hRe hSe HSE HSB S2 d0 dA tm i1 i2 hmp
  have CQ : ∀ (L : List Ent) (W : World), ShAt w L g bal cnt W → (gq, Q, 43) ∈ L → W.cell? ⟨gq, 1, none⟩ = some (.int .i64 qf) ∧ W.cell? ⟨gq, 2, none⟩ = some (.int .i64 qt) ∧ W.cell? ⟨gq, 3, none⟩ = some (.int .i64 qx) ∧ W.cell? ⟨gq, 4, none⟩ = some (.bool true) ∧ W.cell? ⟨gq, 5, none⟩ = some (.bool qb) := by
    intro L W h hm
    rw [HQ1.out] at hm
    exact ⟨(h.cellL hm 1 rfl).1, (h.cellL hm 2 rfl).1, (h.cellL hm 3 rfl).1, (h.cellL hm 4 rfl).1, (h.cellL hm 5 rfl).1⟩
  have HCQ := Lib.hid CQ
  clear CQ
  go_cut [60] from 31 to 244 (fun v60 wc => v60 = .bool (qb && decide (0 < m)) ∧ wc = w3)
  case first =>
    obtain ⟨_, _, _, _, d5⟩ := HCQ.out _ _ S3.out (by simp)
    cases qb with
    | false =>
      go_wp2_with fail
      go_meet
      exact ⟨rfl, rfl⟩
    | true =>
      obtain ⟨t0, ht0⟩ : ∃ t0, decide (0 < m) = t0 := ⟨_, rfl⟩
      have t1 : decide (0 < (m : Int)) = t0 := by rw [← ht0]; exact decide_eq_decide.2 (by omega)
      go_wp2_with fail
      go_meet
      exact ⟨by rw [ht0]; rfl, rfl⟩
  case rest =>
  obtain ⟨rfl, rfl⟩ := hcut
  obtain ⟨tb, htb⟩ : ∃ tb, (qb && decide (0 < m)) = tb := ⟨_, rfl⟩
  rw [htb]
  have HTB : Hid (tb = true → 0 < m) := Lib.hid (fun h => by rw [h] at htb; simp at htb; exact htb.2)
  clear htb
  go_upto_if 60 with fail
  refine play_if w K0 _ n1 c1 g n0 _ _ _ _ _ _ _ _ _ _ _ _ _ _ _ _ _ _ _ _ _ _ _ _ _ _ _ _ _ _ _ _ _ _ _ _ _ _ _ _ _ _ _ _ _ _ _ _ _ _ _ _ _ _ _ _ _ _ _ _ _ _ _ _ _ _ _ _ _ _ _ _ _ _ _ _ _ _ _ _ _ _ _ _ _ _ _ _ _ _ _ _ _ _ _ _ _ _ _ _ _ _ _ _ _ _ _ _ _ _ _ _ _ _ _ _ _ _ _ _ _ _ _ _ _ _ _ _ _ _ _ _ _ _ _ _ _ _ _ _ _ _ _ _ _ _ _ _ _ _ _ _ _ _ _ _ _ _ _ _ _ _ _ _ _ _ _ _ _ _ _ _ _ _ _ _ _ _ _ _ _ _ _ _ _ _ _ _ _ _ _ _ _ _ _ _ _ _ _ _ _ _ _ _ _ _ _ _ _ _ _ _ _ _ _ _ _ _ _ _ _ _ _ _ _ _ _ _ _ _ _ _ _ _ _ _ i cnt cw aw bal Rw _ gq Q ae m ce Re es0 tb hm6 HTB HL0 HBD RE S3 _ _ ?_
  intro v12 v13 v61 v62 v63 v64 v65 v66 v67 v68 v69 v70 v71 v72 v73 v74 v75 v76 v77 v78 v79 v80 v81 v82 v83 v84 v85 v86 v87 v88 v89 v90 v91 v92 wc hcut
  dsimp only
  clear RE S3 HL0 HBD HTB
  obtain ⟨Re', es1, HL1, HB1, RE, S3⟩ := hcut
  obtain ⟨_, _, _, d4, _⟩ := HCQ.out _ _ S3.out (by simp)
  go_upto_if 94 with fail
  clear d4
  go_cut [11] from 31 to 244 (fun v11 wc => ∃ (ae2 : Option Addr) (m2 ce2 : Nat) (Re2 : List Ent) (es2 : List (Int × Int)) (L2 : List Ent), v11 = .slice ae2 m2 ce2 ∧ Hid (es2.length = m2) ∧ m2 ≤ 6 ∧ Hid (∀ e ∈ es2, Bd e.1 ∧ Bd e.2) ∧ Hid (Row Re2 27 2 ae2 m2 ce2 (ecs es2)) ∧ Hid (ShAt w (Re2 ++ L2) g bal cnt wc) ∧ Hid ((gq, Q, 43) ∈ L2 ∧ Rw.Sublist L2) ∧ Hid (es2 = [(qf, -(max qx (-5))), (qt, max qx (-5))]))
  case first =>
    obtain ⟨d1, d2, d3, _, _⟩ := HCQ.out _ _ S3.out (by simp)
    obtain ⟨X, hX⟩ : ∃ X, max qx (-5) = X := ⟨_, rfl⟩
    have xb : -5 ≤ X ∧ X ≤ 9223372036854775807 := by omega
    obtain ⟨xb0, xb1⟩ := xb
    have hs2 := S3.out.join ((Sts.nil wc).add (g := wc.heap.size) rfl #[.int .i64 qf, .int .i64 (-X), .int .i64 qt, .int .i64 X] 27)
    have S4 := Lib.hid (show ShAt w ([(wc.heap.size, #[.int .i64 qf, .int .i64 (-X), .int .i64 qt, .int .i64 X], 27)] ++ (Re' ++ ((gq, Q, 43) :: Rw))) g bal cnt _ from hs2)
    have hr : Hid (Row [(wc.heap.size, #[.int .i64 qf, .int .i64 (-X), .int .i64 qt, .int .i64 X], 27)] 27 2 (some ⟨wc.heap.size, 0, none⟩) 2 2 (ecs [(qf, -X), (qt, X)])) := Lib.hid ⟨rfl, Nat.le_refl _, by unfold maxLen; omega, .inr ⟨_, _, rfl, rfl, by simp, rfl⟩⟩
    have hbd : Hid (∀ e ∈ [(qf, -X), (qt, X)], Bd e.1 ∧ Bd e.2) := Lib.hid (by
      have h1 := BF.out; have h2 := BT.out
      intro e he; simp only [List.mem_cons, List.not_mem_nil, or_false] at he
      rcases he with rfl | rfl <;> (unfold Bd at *; simp only; omega))
    have hml : Hid ((gq, Q, 43) ∈ (Re' ++ ((gq, Q, 43) :: Rw)) ∧ Rw.Sublist (Re' ++ ((gq, Q, 43) :: Rw))) := Lib.hid ⟨by simp, (List.sublist_cons_self _ _).trans (List.sublist_append_right _ _)⟩
    clear hs2
    go_wp2_with fail
    go_meet
    exact ⟨some ⟨wc.heap.size, 0, none⟩, 2, 2, _, _, _, rfl, Lib.hid rfl, by omega, hbd, hr, S4, hml, Lib.hid (by rw [hX])⟩
  case rest =>
  clear RE S3 HL1 HB1 Re' es1 hm6
  obtain ⟨ae2, m2, ce2, Re2, es2, L2, rfl, HL2, hm6, HB2, RE, S3, HM2, HES⟩ := hcut
  have HSR := Lib.hid (S3.out.src P1.out.row (by intro x hx; exact List.mem_append_right _ (HM2.out.2.subset hx)))
  have HSI := Lib.hid ((Sts.nil wc).add (g := wc.heap.size) rfl #[] 3)
  obtain ⟨k0, ki, kz, ks1, ks2⟩ := info_parts int_info
  go_upto_region 24 with (at_builtin; go_must (refine row_append (by rfl) (.tmp 109) (.tmp 110) 29 rfl [] [] Try.underlying29 ki kz ks1 ks2 rfl (by omega) (Row.empty _ _ _) HSI.out rfl rfl (HSR.out.alloc _) (is_one _) (by omega) (by omega) ?_); rintro Rn an cn w5 hRn hSn; simp only [Nat.zero_add, List.nil_append] at hRn hSn ⊢)
  have hs5 := S3.out.join hSn
  rw [List.append_nil] at hs5
  have S5 := Lib.hid hs5; have RN := Lib.hid hRn
  clear hs5 hRn hSn HSI HSR S3 ki kz ks1 ks2 k0
  obtain ⟨t0, ht0⟩ : ∃ t0, decide (0 < m2) = t0 := ⟨_, rfl⟩
  have t1 : decide (0 < (m2 : Int)) = t0 := by rw [← ht0]; exact decide_eq_decide.2 (by omega)
  have HT0 := Lib.hid ht0
  go_upto_block 4 with fail
  clear ht0 t1
  refine play_entries w K0 _ n1 c1 g n0 _ _ _ _ _ _ _ _ _ _ _ _ _ _ _ _ _ _ _ _ _ _ _ _ _ _ _ _ _ _ _ _ _ _ _ _ _ _ _ _ _ _ _ _ _ _ _ _ _ _ _ _ _ _ _ _ _ _ _ _ _ _ _ _ _ _ _ _ _ _ _ _ _ _ _ _ _ _ _ _ _ _ _ _ _ _ _ _ _ _ _ _ _ _ _ _ _ _ _ _ _ _ _ _ _ _ _ _ _ _ _ _ _ _ _ _ _ _ _ _ _ _ _ _ _ _ _ _ _ _ _ _ _ _ _ _ _ _ _ _ _ _ _ _ _ _ _ _ _ _ _ _ _ _ _ _ _ _ _ _ _ _ _ _ _ _ _ _ _ _ _ _ _ _ _ _ _ _ _ _ _ _ _ _ _ _ _ _ _ _ _ _ _ _ _ _ _ _ _ _ _ _ _ _ _ _ _ _ _ _ _ _ _ _ _ _ _ _ _ _ _ _ _ _ _ _ _ _ _ _ _ i cnt cw aw bal _ gq ae2 m2 ce2 Re2 es2 L2 an cn Rn t0 hn0 hm6 (Lib.hid P1.out.len) (Lib.hid P1.out.bd) HT0 HL2 HB2 RE RN S5 _ _ ?_
  intro v15 v16 v18 v117 v118 v119 v120 v121 v122 v123 v124 v125 v126 v127 v128 v129 v130 v131 v132 v133 v134 v135 v136 v137 v138 v139 v140 v141 v142 v143 v144 v145 v146 v147 v148 v149 v150 v151 v152 v153 v154 v155 v156 wc hcut
  dsimp only
  clear S5 RN HT0
  obtain ⟨mb, s, nx, Rn', rfl, rfl, HNL, RN, S5, HMB1, HMB0⟩ := hcut
  obtain ⟨_, _, d3, d4, _⟩ := HCQ.out _ _ S5.out (List.mem_append_right _ (List.mem_append_right _ HM2.out.1))
  go_upto_region 34 with fail
  go_cut [15] from 157 to 171 (fun v15 wd => v15 = .bool (mb && decide (s = 0) && (!true || decide (0 ≤ qx))) ∧ wd = wc)
  case first =>
    cases mb with
    | false =>
      go_wp2_with fail
      go_meet
      exact ⟨by simp, rfl⟩
    | true =>
      by_cases h1 : s = 0
      · subst h1
        by_cases h2 : 0 ≤ qx
        · have t2 : decide (0 ≤ qx) = true := decide_eq_true h2
          go_wp2_with fail
          go_meet
          exact ⟨by simp [h2], rfl⟩
        · have t2 : decide (0 ≤ qx) = false := decide_eq_false h2
          go_wp2_with fail
          go_meet
          exact ⟨by simp [h2], rfl⟩
      · have t1 : (s == 0) = false := beq_eq_false_iff_ne.2 h1
        go_wp2_with fail
        go_meet
        exact ⟨by simp [h1], rfl⟩
  case rest =>
  obtain ⟨rfl, rfl⟩ := hcut
  obtain ⟨m1, hm1⟩ : ∃ m1, (mb && decide (s = 0) && (!true || decide (0 ≤ qx))) = m1 := ⟨_, rfl⟩
  rw [hm1]
  have HM1 := Lib.hid hm1
  clear hm1 d3 d4
  go_upto_block 6 with fail
  go_cut [15, 20] from 174 to 187 (fun v15 v20 wd => v15 = .bool (m1 && nx.all inB) ∧ Hid (ShAt w (Rn' ++ (Re2 ++ L2)) g bal cnt wd))
  case first =>
    go_wp2_with fail
    go_loopw [15, 174] (fun v15 v174 wr => ∃ (k : Nat) (r : Bool), k ≤ n0 ∧ v15 = .bool r ∧ v174 = .int .i64 k ∧ Hid (r = (m1 && (nx.take k).all inB)) ∧ Hid (ShAt w (Rn' ++ (Re2 ++ L2)) g bal cnt wr)) (fun _ v174 _ => n0 - (intOf v174).toNat)
    case atStart => exact ⟨0, m1, by omega, rfl, rfl, Lib.hid (by simp), S5⟩
    case round =>
      clear S5
      obtain ⟨k, r, hk, rfl, rfl, HR, S5⟩ := hrel
      by_cases hlt : k < n0
      · obtain ⟨an2, han, c0⟩ := src_int (S5.out.src RN.out (fun x hx => List.mem_append_left _ hx)) hlt
        obtain rfl := han
        have hg : nx[k]? = some (nx.getD k 0) := by
          rw [List.getD_eq_getElem?_getD, List.getElem?_eq_getElem (by rw [HNL.out]; exact hlt)]; rfl
        have hnx2 : (m1 && (nx.take (k + 1)).all inB) = (r && inB (nx.getD k 0)) := by rw [HR.out, take_next hg, List.all_append]; simp [Bool.and_assoc]
        have HN2 := Lib.hid hnx2
        clear hnx2 hg
        generalize nx.getD k 0 = z at *
        have hz : inB z = (decide (-1152921504606846976 ≤ z) && decide (z ≤ 1152921504606846976)) := rfl
        have i1 : (0 : Int) ≤ (k : Int) := by omega
        have i2 : (k : Int) < (n0 : Int) := by omega
        cases r with
        | false =>
          go_wp2_with fail
          go_roundw
          case rel => exact ⟨k + 1, false, by omega, rfl, by go_num, Lib.hid (by rw [HN2.out]; rfl), S5⟩
          case measure => simp [intOf]; omega
        | true =>
          by_cases q1 : -1152921504606846976 ≤ z
          · have t2 : decide (-1152921504606846976 ≤ z) = true := decide_eq_true q1
            by_cases q2 : z ≤ 1152921504606846976
            · have t3 : decide (z ≤ 1152921504606846976) = true := decide_eq_true q2
              go_wp2_with fail
              go_roundw
              case rel => exact ⟨k + 1, true, by omega, rfl, by go_num, Lib.hid (by rw [HN2.out, hz, t2, t3]; rfl), S5⟩
              case measure => simp [intOf]; omega
            · have t3 : decide (z ≤ 1152921504606846976) = false := decide_eq_false q2
              go_wp2_with fail
              go_roundw
              case rel => exact ⟨k + 1, false, by omega, rfl, by go_num, Lib.hid (by rw [HN2.out, hz, t2, t3]; rfl), S5⟩
              case measure => simp [intOf]; omega
          · have t2 : decide (-1152921504606846976 ≤ z) = false := decide_eq_false q1
            go_wp2_with fail
            go_roundw
            case rel => exact ⟨k + 1, false, by omega, rfl, by go_num, Lib.hid (by rw [HN2.out, hz, t2]; rfl), S5⟩
            case measure => simp [intOf]; omega
      · obtain rfl : k = n0 := by omega
        have htk : nx.take k = nx := List.take_of_length_le (by rw [HNL.out]; exact Nat.le_refl _)
        rw [htk] at HR
        go_wp2_with fail
        go_meet
        exact ⟨by rw [HR.out], S5⟩
  case rest =>
  clear S5
  obtain ⟨rfl, S5⟩ := hcut
  obtain ⟨may, hmay⟩ : ∃ may, (m1 && nx.all inB) = may := ⟨_, rfl⟩
  rw [hmay]
  have hm2 : may = (mayF bal es2 && (!true || decide (0 ≤ qx))) := by rw [← hmay, ← HM1.out]; exact may_is HMB1.out HMB0.out _
  have HM3 : Hid (may = true → nx = postL bal es2 ∧ Within nx 1152921504606846976) := Lib.hid (fun h => may_nx HMB1.out (!true || decide (0 ≤ qx)) (by rw [HM1.out, hmay, h]))
  have HM4 := Lib.hid hm2
  clear hmay hm2 HMB1 HMB0 HM1 m1 mb
  obtain ⟨d1, d2, d3, d4, _⟩ := HCQ.out _ _ S5.out (List.mem_append_right _ (List.mem_append_right _ HM2.out.1))
  obtain ⟨X, hX⟩ : ∃ X, max qx (-5) = X := ⟨_, rfl⟩
  have hmf : moveF bal qf qt X = if may = true then some nx else none := by
    rw [← hX, mayF_move, ← HES.out]
    have : (mayF bal es2 && decide (0 ≤ qx)) = may := by rw [HM4.out]; simp
    rw [this]
    cases may with
    | false => rfl
    | true => rw [(HM3.out rfl).1]
  have hcall := move_calls qf qt X S5.out BF.out BT.out (by unfold Bd; omega) (by rw [P1.out.len]; omega) (fun x hx => by have := P1.out.bd x hx; unfold Bd; omega) (by omega)
  rw [hmf] at hcall
  have HCALL := Lib.hid hcall
  clear hcall hmf
  cases may with
  | true =>
    go_wp2_with fail
    refine HCALL.out.mono ?_
    intro e w6 hp
    have hp2 : PostGoes (some nx) w (Rn' ++ (Re2 ++ L2)) g bal cnt e w6 := hp
    obtain ⟨rfl, hs⟩ := hp2
    have S6 := Lib.hid hs
    clear hs hp d1 d2 d3 d4 S5 HCALL hX
    obtain ⟨c2, hc2⟩ : ∃ c2 : Nat, cnt + 1 = c2 := ⟨_, rfl⟩
    rw [hc2] at S6
    have t9 : (cnt : Int) + 1 = (c2 : Int) := by omega
    have t8 : c2 ≤ i + 1 := by omega
    have hb0 := balances_calls S6.out (by rw [HNL.out]; omega)
    rw [HNL.out] at hb0
    have HB0 := Lib.hid hb0
    clear hb0
    go_wp2_with fail
    refine HB0.out.mono ?_
    rintro e w7 ⟨R9, a9, c9, rfl, hR9, hs9⟩
    have hsame := sameI_calls a9 an n0 c9 n0 cn nx nx w7 (hs9.src hR9 (fun x hx => List.mem_append_left _ hx)) (hs9.src RN.out (fun x hx => List.mem_append_right _ (List.mem_append_left _ hx))) (by omega) (by omega)
    rw [decide_eq_true (rfl : nx = nx)] at hsame
    have S7 := Lib.hid (hs9.sub (List.sublist_append_right _ _)); have HSAME := Lib.hid hsame
    clear hsame hs9 hR9 HB0
    go_wp2_with fail
    refine HSAME.out.mono ?_
    rintro e w8 ⟨rfl, k8, rfl⟩
    have S8 := Lib.hid (S7.out.drewN k8)
    have hb1 := balance_calls (-1) S8.out
    rw [if_neg (by omega)] at hb1
    have hb2 := balance_calls (n0 : Int) S8.out
    rw [if_neg (by rw [HNL.out]; omega)] at hb2
    have HB1 := Lib.hid hb1; have HB2 := Lib.hid hb2
    clear hb1 hb2 HSAME S7 S6
    generalize w7.drewN k8 = w8 at *
    go_wp2_with fail
    refine (count_calls S8.out).mono ?_
    rintro e w9 ⟨rfl, rfl⟩
    go_wp2_with fail
    refine HB1.out.mono ?_
    rintro e w9 ⟨rfl, rfl⟩
    go_wp2_with fail
    refine HB2.out.mono ?_
    rintro e w9 ⟨rfl, rfl⟩
    go_wp2_with fail
    refine ⟨?_, by simp [playMu, intOf]; omega⟩
    unfold PlayI
    refine ⟨_, _, _, _, _, _, _, _, _, _, _, _, _, _, _, _, _, _, _, _, _, _, _, _, _, _, _, _, _, _, _, _, _, _, _, _, _, _, _, _, _, _, _, _, _, _, _, _, _, _, _, _, _, _, _, _, _, _, _, _, _, _, _, _, _, _, _, _, _, _, _, _, _, _, _, _, _, _, _, _, _, _, _, _, _, _, _, _, _, _, _, _, _, _, _, _, _, _, _, _, _, _, _, _, _, _, _, _, _, _, _, _, _, _, _, _, _, _, _, _, _, _, _, _, _, _, _, _, _, _, _, _, _, _, _, _, _, _, _, _, _, _, _, _, _, _, _, _, _, _, _, _, _, _, _, _, _, _, _, _, _, _, _, _, _, _, _, _, _, _, _, _, _, _, _, _, _, _, _, _, _, _, _, _, _, _, _, _, _, _, _, _, _, _, _, _, _, _, _, _, _, _, _, _, _, _, _, _, _, _, _, _, _, _, _, _, _, _, _, _, _, _, _, _, _, _, _, _, _, _, _, ⟨i + 1, nx, Rn', by simp, by omega, Lib.hid ⟨S8.out.sub (List.sublist_append_left _ _), RN.out, HNL.out, (HM3.out (by simp)).2, by omega, hn0⟩⟩, rfl⟩
  | false =>
    go_wp2_with fail
    refine HCALL.out.mono ?_
    intro e w6 hp
    have hp2 : PostGoes none w (Rn' ++ (Re2 ++ L2)) g bal cnt e w6 := hp
    obtain ⟨rfl, hs⟩ := hp2
    have S6 := Lib.hid hs
    clear hs hp d1 d2 d3 d4 S5 HCALL hX
    have hb0 := balances_calls S6.out (by rw [P1.out.len]; omega)
    rw [P1.out.len] at hb0
    have HB0 := Lib.hid hb0
    clear hb0
    go_wp2_with fail
    refine HB0.out.mono ?_
    rintro e w7 ⟨R9, a9, c9, rfl, hR9, hs9⟩
    have hsame := sameI_calls a9 aw n0 c9 n0 cw bal bal w7 (hs9.src hR9 (fun x hx => List.mem_append_left _ hx)) (hs9.src P1.out.row (fun x hx => List.mem_append_right _ (List.mem_append_right _ (List.mem_append_right _ (HM2.out.2.subset hx))))) (by omega) (by omega)
    rw [decide_eq_true (rfl : bal = bal)] at hsame
    have S7 := Lib.hid (hs9.sub (List.sublist_append_right _ _)); have HSAME := Lib.hid hsame
    clear hsame hs9 hR9 HB0
    go_wp2_with fail
    refine HSAME.out.mono ?_
    rintro e w8 ⟨rfl, k8, rfl⟩
    have S8 := Lib.hid (S7.out.drewN k8)
    have hb1 := balance_calls (-1) S8.out
    rw [if_neg (by omega)] at hb1
    have hb2 := balance_calls (n0 : Int) S8.out
    rw [if_neg (by rw [P1.out.len]; omega)] at hb2
    have HB1 := Lib.hid hb1; have HB2 := Lib.hid hb2
    clear hb1 hb2 HSAME S7 S6
    generalize w7.drewN k8 = w8 at *
    go_wp2_with fail
    refine (count_calls S8.out).mono ?_
    rintro e w9 ⟨rfl, rfl⟩
    go_wp2_with fail
    refine HB1.out.mono ?_
    rintro e w9 ⟨rfl, rfl⟩
    go_wp2_with fail
    refine HB2.out.mono ?_
    rintro e w9 ⟨rfl, rfl⟩
    go_wp2_with fail
    refine ⟨?_, by simp [playMu, intOf]; omega⟩
    unfold PlayI
    refine ⟨_, _, _, _, _, _, _, _, _, _, _, _, _, _, _, _, _, _, _, _, _, _, _, _, _, _, _, _, _, _, _, _, _, _, _, _, _, _, _, _, _, _, _, _, _, _, _, _, _, _, _, _, _, _, _, _, _, _, _, _, _, _, _, _, _, _, _, _, _, _, _, _, _, _, _, _, _, _, _, _, _, _, _, _, _, _, _, _, _, _, _, _, _, _, _, _, _, _, _, _, _, _, _, _, _, _, _, _, _, _, _, _, _, _, _, _, _, _, _, _, _, _, _, _, _, _, _, _, _, _, _, _, _, _, _, _, _, _, _, _, _, _, _, _, _, _, _, _, _, _, _, _, _, _, _, _, _, _, _, _, _, _, _, _, _, _, _, _, _, _, _, _, _, _, _, _, _, _, _, _, _, _, _, _, _, _, _, _, _, _, _, _, _, _, _, _, _, _, _, _, _, _, _, _, _, _, _, _, _, _, _, _, _, _, _, _, _, _, _, _, _, _, _, _, _, _, _, _, _, _, _, ⟨i + 1, bal, Rw, by simp, by omega, Lib.hid ⟨S8.out.sub (HM2.out.2.trans ((List.sublist_append_right _ _).trans (List.sublist_append_right _ _))), P1.out.row, P1.out.len, P1.out.bd, by omega, hn0⟩⟩, rfl⟩
end Go.Proofs.Ytideaimlnipkoaa

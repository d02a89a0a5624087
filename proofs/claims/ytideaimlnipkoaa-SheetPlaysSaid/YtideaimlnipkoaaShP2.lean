import Derived.Test.YtideaimlnipkoaaShPB
namespace Go.Proofs.Ytideaimlnipkoaa
open Go.RowKit
set_option linter.unusedVariables false
set_option linter.unusedSimpArgs false
attribute [local go_sem] bmax2 bmin2 bmax_two bmin_two bmax_three bmin_three
set_option maxHeartbeats 32000000 in
set_option maxRecDepth 1000000 in
theorem play_if (w : World) (K0 : Int) (A1 : Option Addr) (n1 c1 g n0 : Nat) (c2_ c3_ c22_ c23_ c24_ c25_ c26_ c27_ c28_ c29_ c30_ c245_ : Value) (u4 u12 u13 u14 u15 u16 u17 u18 u19 u20 u21 u31 u32 u33 u34 u35 u36 u37 u38 u39 u40 u41 u42 u43 u44 u45 u46 u47 u48 u49 u50 u51 u52 u53 u54 u55 u56 u57 u58 u59 u61 u62 u63 u64 u65 u66 u67 u68 u69 u70 u71 u72 u73 u74 u75 u76 u77 u78 u79 u80 u81 u82 u83 u84 u85 u86 u87 u88 u89 u90 u91 u92 u93 u94 u95 u96 u97 u98 u99 u100 u101 u102 u103 u104 u105 u106 u107 u108 u109 u110 u111 u112 u113 u114 u115 u116 u117 u118 u119 u120 u121 u122 u123 u124 u125 u126 u127 u128 u129 u130 u131 u132 u133 u134 u135 u136 u137 u138 u139 u140 u141 u142 u143 u144 u145 u146 u147 u148 u149 u150 u151 u152 u153 u154 u155 u156 u157 u158 u159 u160 u161 u162 u163 u164 u165 u166 u167 u168 u169 u170 u171 u172 u173 u174 u175 u176 u177 u178 u179 u180 u181 u182 u183 u184 u185 u186 u187 u188 u189 u190 u191 u192 u193 u194 u195 u196 u197 u198 u199 u200 u201 u202 u203 u204 u205 u206 u207 u208 u209 u210 u211 u212 u213 u214 u215 u216 u217 u218 u219 u220 u221 u222 u223 u224 u225 u226 u227 u228 u229 u230 u231 u232 u233 u234 u235 u236 u237 u238 u239 u240 u241 u242 u243 u244 : Value) (i cnt cw : Nat) (aw : Option Addr) (bal : List Int) (Rw : List Ent) (w3 : World) (gq : Nat) (Q : Array Value) (ae : Option Addr) (m ce : Nat) (Re : List Ent) (es0 : List (Int × Int)) (tb : Bool)
    (hm6 : m ≤ 6) (HTB : Hid (tb = true → 0 < m)) (HL0 : Hid (es0.length = m)) (HBD : Hid (∀ e ∈ es0, Bd e.1 ∧ Bd e.2)) (RE : Hid (Row Re 27 2 ae m ce (ecs es0))) (S3 : Hid (ShAt w (Re ++ ((gq, Q, 43) :: Rw)) g bal cnt w3)) (K : Act → World → Prop) (Q1 : Exit → Act → World → Prop)
    (hK : ∀ (v12 v13 v61 v62 v63 v64 v65 v66 v67 v68 v69 v70 v71 v72 v73 v74 v75 v76 v77 v78 v79 v80 v81 v82 v83 v84 v85 v86 v87 v88 v89 v90 v91 v92 : Value) (wc : World), (∃ (Re' : List Ent) (es1 : List (Int × Int)), Hid (es1.length = m) ∧ Hid (∀ e ∈ es1, Bd e.1 ∧ Bd e.2) ∧ Hid (Row Re' 27 2 ae m ce (ecs es1)) ∧ Hid (ShAt w (Re' ++ ((gq, Q, 43) :: Rw)) g bal cnt wc)) → K ⟨#[.int .i64 K0, .slice A1 n1 c1, c2_, c3_, u4, .pointer (some ⟨g, 0, none⟩), .int .i64 n0, .slice aw n0 cw, .int .i64 cnt, .int .i64 i, .pointer (some ⟨gq, 0, none⟩), .slice ae m ce, v12, v13, u14, u15, u16, u17, u18, u19, u20, u21, c22_, c23_, c24_, c25_, c26_, c27_, c28_, c29_, c30_, u31, u32, u33, u34, u35, u36, u37, u38, u39, u40, u41, u42, u43, u44, u45, u46, u47, u48, u49, u50, u51, u52, u53, u54, u55, u56, u57, u58, u59, .bool tb, v61, v62, v63, v64, v65, v66, v67, v68, v69, v70, v71, v72, v73, v74, v75, v76, v77, v78, v79, v80, v81, v82, v83, v84, v85, v86, v87, v88, v89, v90, v91, v92, u93, u94, u95, u96, u97, u98, u99, u100, u101, u102, u103, u104, u105, u106, u107, u108, u109, u110, u111, u112, u113, u114, u115, u116, u117, u118, u119, u120, u121, u122, u123, u124, u125, u126, u127, u128, u129, u130, u131, u132, u133, u134, u135, u136, u137, u138, u139, u140, u141, u142, u143, u144, u145, u146, u147, u148, u149, u150, u151, u152, u153, u154, u155, u156, u157, u158, u159, u160, u161, u162, u163, u164, u165, u166, u167, u168, u169, u170, u171, u172, u173, u174, u175, u176, u177, u178, u179, u180, u181, u182, u183, u184, u185, u186, u187, u188, u189, u190, u191, u192, u193, u194, u195, u196, u197, u198, u199, u200, u201, u202, u203, u204, u205, u206, u207, u208, u209, u210, u211, u212, u213, u214, u215, u216, u217, u218, u219, u220, u221, u222, u223, u224, u225, u226, u227, u228, u229, u230, u231, u232, u233, u234, u235, u236, u237, u238, u239, u240, u241, u242, u243, u244, c245_], []⟩ wc) :
    Code.wp Try.prog ((Try.f7.body.bind (ifAt 60)).getD .skip) (Exit.then K Q1) ⟨#[.int .i64 K0, .slice A1 n1 c1, c2_, c3_, u4, .pointer (some ⟨g, 0, none⟩), .int .i64 n0, .slice aw n0 cw, .int .i64 cnt, .int .i64 i, .pointer (some ⟨gq, 0, none⟩), .slice ae m ce, u12, u13, u14, u15, u16, u17, u18, u19, u20, u21, c22_, c23_, c24_, c25_, c26_, c27_, c28_, c29_, c30_, u31, u32, u33, u34, u35, u36, u37, u38, u39, u40, u41, u42, u43, u44, u45, u46, u47, u48, u49, u50, u51, u52, u53, u54, u55, u56, u57, u58, u59, .bool tb, u61, u62, u63, u64, u65, u66, u67, u68, u69, u70, u71, u72, u73, u74, u75, u76, u77, u78, u79, u80, u81, u82, u83, u84, u85, u86, u87, u88, u89, u90, u91, u92, u93, u94, u95, u96, u97, u98, u99, u100, u101, u102, u103, u104, u105, u106, u107, u108, u109, u110, u111, u112, u113, u114, u115, u116, u117, u118, u119, u120, u121, u122, u123, u124, u125, u126, u127, u128, u129, u130, u131, u132, u133, u134, u135, u136, u137, u138, u139, u140, u141, u142, u143, u144, u145, u146, u147, u148, u149, u150, u151, u152, u153, u154, u155, u156, u157, u158, u159, u160, u161, u162, u163, u164, u165, u166, u167, u168, u169, u170, u171, u172, u173, u174, u175, u176, u177, u178, u179, u180, u181, u182, u183, u184, u185, u186, u187, u188, u189, u190, u191, u192, u193, u194, u195, u196, u197, u198, u199, u200, u201, u202, u203, u204, u205, u206, u207, u208, u209, u210, u211, u212, u213, u214, u215, u216, u217, u218, u219, u220, u221, u222, u223, u224, u225, u226, u227, u228, u229, u230, u231, u232, u233, u234, u235, u236, u237, u238, u239, u240, u241, u242, u243, u244, c245_], []⟩ w3 := by
  conv => arg 2; whnf
  dsimp only
  go_cut [12, 13] from 61 to 92 (fun v12 v13 wc => ∃ (Re' : List Ent) (es1 : List (Int × Int)), Hid (es1.length = m) ∧ Hid (∀ e ∈ es1, Bd e.1 ∧ Bd e.2) ∧ Hid (Row Re' 27 2 ae m ce (ecs es1)) ∧ Hid (ShAt w (Re' ++ ((gq, Q, 43) :: Rw)) g bal cnt wc))
  case first =>
    clear hK
    cases tb with
    | false =>
      go_wp2_with fail
      go_meet
      exact ⟨Re, es0, HL0, HBD, RE, S3⟩
    | true =>
        have hm0 := HTB.out rfl
        obtain ⟨ge, cur0, rfl, rfl⟩ := RE.out.formN hm0
        go_wp2_with fail
        go_loopw [12, 63] (fun v12 v63 wr => ∃ (k : Nat) (s : Int) (cur : Array Value) (es1 : List (Int × Int)), k ≤ m ∧ v12 = .int .i64 s ∧ v63 = .int .i64 k ∧ -(1099511627776 * k) ≤ s ∧ s ≤ 1099511627776 * k ∧ Hid (es1.length = m) ∧ Hid (∀ e ∈ es1, Bd e.1 ∧ Bd e.2) ∧ Hid (0 < k → -1099511627776 ≤ (es1.getD 0 (0, 0)).2 ∧ (es1.getD 0 (0, 0)).2 ≤ 1099511627776) ∧ Hid (Row [(ge, cur, 27)] 27 2 (some ⟨ge, 0, none⟩) m ce (ecs es1)) ∧ Hid (ShAt w ((ge, cur, 27) :: ((gq, Q, 43) :: Rw)) g bal cnt wr)) (fun _ v63 _ => m - (intOf v63).toNat)
        case atStart => exact ⟨0, 0, cur0, es0, by omega, rfl, rfl, by omega, by omega, HL0, HBD, Lib.hid (fun h => absurd h (by omega)), RE, S3⟩
        case round =>
          clear S3 RE HL0 HBD
          obtain ⟨k, s, cur, es1, hk, rfl, rfl, s0, s1, HL1, HB1, HF1, RE, S3⟩ := hrel
          by_cases hlt : k < m
          · have hgx := ecs_get1 es1 (k := k) (by rw [HL1.out]; exact hlt)
            have hcx : cur[k * 2 + 1]? = some (.int .i64 (es1.getD k (0, 0)).2) := by rw [RE.out.ownN (by omega)]; exact hgx
            obtain ⟨c0, f0⟩ := S3.out.cellL (g' := ge) (cs := cur) (t := 27) (by simp) (k * 2 + 1) hcx
            obtain ⟨v, hv⟩ : ∃ v, within (es1.getD k (0, 0)).2 (-1099511627776) 1099511627776 = v := ⟨_, rfl⟩
            have hvb := within_bd (es1.getD k (0, 0)).2 (lo := -1099511627776) (hi := 1099511627776) (by omega)
            rw [hv] at hvb
            obtain ⟨v0, v1⟩ := hvb
            have hst := ecs_set1 es1 k v (by rw [HL1.out]; exact hlt)
            have hb2 := bd_set HB1.out (k := k) (v := v) (by rw [HL1.out]; exact hlt) (by unfold Bd; omega)
            have hf2 : 0 < k + 1 → -1099511627776 ≤ ((es1.set k ((es1.getD k (0, 0)).1, v)).getD 0 (0, 0)).2 ∧ ((es1.set k ((es1.getD k (0, 0)).1, v)).getD 0 (0, 0)).2 ≤ 1099511627776 := by
              intro _
              by_cases h0 : k = 0
              · subst h0; rw [getD_set_self' _ _ _ _ (by rw [HL1.out]; exact hlt)]; exact ⟨v0, v1⟩
              · rw [getD_set_other' _ _ _ (Ne.symm h0)]; exact HF1.out (by omega)
            have hl2 : (es1.set k ((es1.getD k (0, 0)).1, v)).length = m := by rw [List.length_set]; exact HL1.out
            have hr2 := RE.out.putN (k * 2 + 1) (.int .i64 v)
            rw [hst] at hr2
            have hcv : (cur.setIfInBounds (k * 2 + 1) (.int .i64 v))[k * 2 + 1]? = some (.int .i64 v) := by
              rw [Array.getElem?_setIfInBounds_self_of_lt (Array.getElem?_eq_some_iff.1 hcx).1]
            have HV := Lib.hid hv; have HB2 := Lib.hid hb2; have HF2 := Lib.hid hf2; have HL2 := Lib.hid hl2; have HR2 := Lib.hid hr2; have HCV := Lib.hid hcv
            generalize es1.set k ((es1.getD k (0, 0)).1, v) = es2 at *
            generalize (es1.getD k (0, 0)).2 = y at *
            have i1 : (0 : Int) ≤ (k : Int) := by omega
            have i2 : (k : Int) < (m : Int) := by omega
            clear hgx hcx hv hst hb2 hf2 hl2 hr2 hcv
            go_wp2_with fail
            refine (within_calls y (-1099511627776) 1099511627776 _ (by omega) (by omega) (by omega)).mono ?_
            rw [HV.out]
            rintro e w' ⟨rfl, rfl⟩
            go_upto_region 18 with fail
            have S4 := Lib.hid (S3.out.setL (k * 2 + 1) (.int .i64 v))
            obtain ⟨c1, _⟩ := S4.out.cellL (g' := ge) (cs := cur.setIfInBounds (k * 2 + 1) (.int .i64 v)) (t := 27) (by simp) (k * 2 + 1) HCV.out
            generalize wr.setCell ⟨ge, k * 2 + 1, none⟩ (.int .i64 v) = w5 at *
            clear c0 f0 S3 RE
            go_wp2_with fail
            go_roundw
            case rel => exact ⟨k + 1, s + v, _, es2, by omega, rfl, by go_num, by omega, by omega, HL2, HB2, HF2, HR2, S4⟩
            case measure => simp [intOf]; omega
          · obtain rfl : k = m := by omega
            have hgx := ecs_get1 es1 (k := 0) (by rw [HL1.out]; exact hm0)
            have hcx : cur[1]? = some (.int .i64 (es1.getD 0 (0, 0)).2) := by rw [RE.out.ownN (by omega)]; exact hgx
            obtain ⟨c0, f0⟩ := S3.out.cellL (g' := ge) (cs := cur) (t := 27) (by simp) 1 hcx
            obtain ⟨y0, y1⟩ := HF1.out hm0
            have hst := ecs_set1 es1 0 ((es1.getD 0 (0, 0)).2 - s) (by rw [HL1.out]; exact hm0)
            have hb2 := bd_set HB1.out (k := 0) (v := (es1.getD 0 (0, 0)).2 - s) (by rw [HL1.out]; exact hm0) (by unfold Bd; omega)
            have hl2 : (es1.set 0 ((es1.getD 0 (0, 0)).1, (es1.getD 0 (0, 0)).2 - s)).length = k := by rw [List.length_set]; exact HL1.out
            have hr2 := RE.out.putN (0 * 2 + 1) (.int .i64 ((es1.getD 0 (0, 0)).2 - s))
            rw [hst] at hr2
            have HB2 := Lib.hid hb2; have HL2 := Lib.hid hl2; have HR2 := Lib.hid hr2
            have S4 := Lib.hid (S3.out.setL 1 (.int .i64 ((es1.getD 0 (0, 0)).2 - s)))
            generalize es1.set 0 ((es1.getD 0 (0, 0)).1, (es1.getD 0 (0, 0)).2 - s) = es2 at *
            generalize (es1.getD 0 (0, 0)).2 = y at *
            clear hgx hcx hst hb2 hl2 hr2
            go_wp2_with fail
            go_meet
            exact ⟨_, es2, HL2, HB2, HR2, S4⟩
  case rest => exact hK _ _ _ _ _ _ _ _ _ _ _ _ _ _ _ _ _ _ _ _ _ _ _ _ _ _ _ _ _ _ _ _ _ _ _ hcut
end Go.Proofs.Ytideaimlnipkoaa

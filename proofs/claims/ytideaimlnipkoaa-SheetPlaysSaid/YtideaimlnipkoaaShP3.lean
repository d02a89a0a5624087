import Derived.Test.YtideaimlnipkoaaShPB
namespace Go.Proofs.Ytideaimlnipkoaa
open Go.RowKit
set_option linter.unusedVariables false
set_option linter.unusedSimpArgs false
attribute [local go_sem] bmax2 bmin2 bmax_two bmin_two bmax_three bmin_three
set_option maxHeartbeats 32000000 in
set_option maxRecDepth 1000000 in
theorem play_entries (w : World) (K0 : Int) (A1 : Option Addr) (n1 c1 g n0 : Nat) (c2_ c3_ c22_ c23_ c24_ c25_ c26_ c27_ c28_ c29_ c30_ c245_ : Value) (u4 u12 u13 u17 u18 u19 u20 u21 u31 u32 u33 u34 u35 u36 u37 u38 u39 u40 u41 u42 u43 u44 u45 u46 u47 u48 u49 u50 u51 u52 u53 u54 u55 u56 u57 u58 u59 u60 u61 u62 u63 u64 u65 u66 u67 u68 u69 u70 u71 u72 u73 u74 u75 u76 u77 u78 u79 u80 u81 u82 u83 u84 u85 u86 u87 u88 u89 u90 u91 u92 u93 u94 u95 u96 u97 u98 u99 u100 u101 u102 u103 u104 u105 u106 u107 u108 u109 u110 u111 u112 u113 u114 u118 u119 u120 u121 u122 u123 u124 u125 u126 u127 u128 u129 u130 u131 u132 u133 u134 u135 u136 u137 u138 u139 u140 u141 u142 u143 u144 u145 u146 u147 u148 u149 u150 u151 u152 u153 u154 u155 u156 u157 u158 u159 u160 u161 u162 u163 u164 u165 u166 u167 u168 u169 u170 u171 u172 u173 u174 u175 u176 u177 u178 u179 u180 u181 u182 u183 u184 u185 u186 u187 u188 u189 u190 u191 u192 u193 u194 u195 u196 u197 u198 u199 u200 u201 u202 u203 u204 u205 u206 u207 u208 u209 u210 u211 u212 u213 u214 u215 u216 u217 u218 u219 u220 u221 u222 u223 u224 u225 u226 u227 u228 u229 u230 u231 u232 u233 u234 u235 u236 u237 u238 u239 u240 u241 u242 u243 u244 : Value) (i cnt cw : Nat) (aw : Option Addr) (bal : List Int) (wc : World) (gq : Nat) (ae2 : Option Addr) (m2 ce2 : Nat) (Re2 : List Ent) (es2 : List (Int × Int)) (L2 : List Ent) (an : Option Addr) (cn : Nat) (Rn : List Ent) (t0 : Bool)
    (hn0 : n0 ≤ 64) (hm6 : m2 ≤ 6) (HPL : Hid (bal.length = n0)) (HPB : Hid (Within bal 1152921504606846976)) (HT0 : Hid (decide (0 < m2) = t0)) (HL2 : Hid (es2.length = m2)) (HB2 : Hid (∀ e ∈ es2, Bd e.1 ∧ Bd e.2)) (RE : Hid (Row Re2 27 2 ae2 m2 ce2 (ecs es2))) (RN : Hid (Row Rn 3 1 an n0 cn (is bal))) (S5 : Hid (ShAt w (Rn ++ (Re2 ++ L2)) g bal cnt wc)) (K : Act → World → Prop) (Q1 : Exit → Act → World → Prop)
    (hK : ∀ (v15 v16 v18 v117 v118 v119 v120 v121 v122 v123 v124 v125 v126 v127 v128 v129 v130 v131 v132 v133 v134 v135 v136 v137 v138 v139 v140 v141 v142 v143 v144 v145 v146 v147 v148 v149 v150 v151 v152 v153 v154 v155 v156 : Value) (wc : World), (∃ (mb : Bool) (s : Int) (nx : List Int) (Rn' : List Ent), v15 = .bool mb ∧ v16 = .int .i64 s ∧ Hid (nx.length = n0) ∧ Hid (Row Rn' 3 1 an n0 cn (is nx)) ∧ Hid (ShAt w (Rn' ++ (Re2 ++ L2)) g bal cnt wc) ∧ Hid (mb = true → es2 ≠ [] ∧ es2.all (thereOk bal.length) = true ∧ (amts es2).sum = s ∧ nx = postL bal es2) ∧ Hid (mb = false → mayF bal es2 = false)) → K ⟨#[.int .i64 K0, .slice A1 n1 c1, c2_, c3_, u4, .pointer (some ⟨g, 0, none⟩), .int .i64 n0, .slice aw n0 cw, .int .i64 cnt, .int .i64 i, .pointer (some ⟨gq, 0, none⟩), .slice ae2 m2 ce2, u12, u13, .slice an n0 cn, v15, v16, u17, v18, u19, u20, u21, c22_, c23_, c24_, c25_, c26_, c27_, c28_, c29_, c30_, u31, u32, u33, u34, u35, u36, u37, u38, u39, u40, u41, u42, u43, u44, u45, u46, u47, u48, u49, u50, u51, u52, u53, u54, u55, u56, u57, u58, u59, u60, u61, u62, u63, u64, u65, u66, u67, u68, u69, u70, u71, u72, u73, u74, u75, u76, u77, u78, u79, u80, u81, u82, u83, u84, u85, u86, u87, u88, u89, u90, u91, u92, u93, u94, u95, u96, u97, u98, u99, u100, u101, u102, u103, u104, u105, u106, u107, u108, u109, u110, u111, u112, u113, u114, .slice ae2 m2 ce2, .int .i64 m2, v117, v118, v119, v120, v121, v122, v123, v124, v125, v126, v127, v128, v129, v130, v131, v132, v133, v134, v135, v136, v137, v138, v139, v140, v141, v142, v143, v144, v145, v146, v147, v148, v149, v150, v151, v152, v153, v154, v155, v156, u157, u158, u159, u160, u161, u162, u163, u164, u165, u166, u167, u168, u169, u170, u171, u172, u173, u174, u175, u176, u177, u178, u179, u180, u181, u182, u183, u184, u185, u186, u187, u188, u189, u190, u191, u192, u193, u194, u195, u196, u197, u198, u199, u200, u201, u202, u203, u204, u205, u206, u207, u208, u209, u210, u211, u212, u213, u214, u215, u216, u217, u218, u219, u220, u221, u222, u223, u224, u225, u226, u227, u228, u229, u230, u231, u232, u233, u234, u235, u236, u237, u238, u239, u240, u241, u242, u243, u244, c245_], []⟩ wc) :
    Code.wp Try.prog ((Try.f7.body.bind (blockAt 4)).getD .skip) (Exit.then K Q1) ⟨#[.int .i64 K0, .slice A1 n1 c1, c2_, c3_, u4, .pointer (some ⟨g, 0, none⟩), .int .i64 n0, .slice aw n0 cw, .int .i64 cnt, .int .i64 i, .pointer (some ⟨gq, 0, none⟩), .slice ae2 m2 ce2, u12, u13, .slice an n0 cn, .bool t0, .int .i64 0, u17, u18, u19, u20, u21, c22_, c23_, c24_, c25_, c26_, c27_, c28_, c29_, c30_, u31, u32, u33, u34, u35, u36, u37, u38, u39, u40, u41, u42, u43, u44, u45, u46, u47, u48, u49, u50, u51, u52, u53, u54, u55, u56, u57, u58, u59, u60, u61, u62, u63, u64, u65, u66, u67, u68, u69, u70, u71, u72, u73, u74, u75, u76, u77, u78, u79, u80, u81, u82, u83, u84, u85, u86, u87, u88, u89, u90, u91, u92, u93, u94, u95, u96, u97, u98, u99, u100, u101, u102, u103, u104, u105, u106, u107, u108, u109, u110, u111, u112, u113, u114, .slice ae2 m2 ce2, .int .i64 m2, .int .i64 0, u118, u119, u120, u121, u122, u123, u124, u125, u126, u127, u128, u129, u130, u131, u132, u133, u134, u135, u136, u137, u138, u139, u140, u141, u142, u143, u144, u145, u146, u147, u148, u149, u150, u151, u152, u153, u154, u155, u156, u157, u158, u159, u160, u161, u162, u163, u164, u165, u166, u167, u168, u169, u170, u171, u172, u173, u174, u175, u176, u177, u178, u179, u180, u181, u182, u183, u184, u185, u186, u187, u188, u189, u190, u191, u192, u193, u194, u195, u196, u197, u198, u199, u200, u201, u202, u203, u204, u205, u206, u207, u208, u209, u210, u211, u212, u213, u214, u215, u216, u217, u218, u219, u220, u221, u222, u223, u224, u225, u226, u227, u228, u229, u230, u231, u232, u233, u234, u235, u236, u237, u238, u239, u240, u241, u242, u243, u244, c245_], []⟩ wc := by
  conv => arg 2; whnf
  dsimp only
  go_cut [15, 16, 18] from 117 to 156 (fun v15 v16 v18 wc => ∃ (mb : Bool) (s : Int) (nx : List Int) (Rn' : List Ent), v15 = .bool mb ∧ v16 = .int .i64 s ∧ Hid (nx.length = n0) ∧ Hid (Row Rn' 3 1 an n0 cn (is nx)) ∧ Hid (ShAt w (Rn' ++ (Re2 ++ L2)) g bal cnt wc) ∧ Hid (mb = true → es2 ≠ [] ∧ es2.all (thereOk bal.length) = true ∧ (amts es2).sum = s ∧ nx = postL bal es2) ∧ Hid (mb = false → mayF bal es2 = false))
  case first =>
    clear hK
    go_wp2_with fail
    go_loopw [15, 16, 117] (fun v15 v16 v117 wr => ∃ (k : Nat) (s : Int) (nx : List Int) (Rn' : List Ent), k ≤ m2 ∧ v15 = .bool t0 ∧ v16 = .int .i64 s ∧ v117 = .int .i64 k ∧ -(1152921504606846976 * k) ≤ s ∧ s ≤ 1152921504606846976 * k ∧ Hid (nx.length = n0) ∧ Hid (Within nx (1152921504606846976 * (k + 1))) ∧ Hid ((es2.take k).all (thereOk bal.length) = true) ∧ Hid ((amts (es2.take k)).sum = s) ∧ Hid (nx = postL bal (es2.take k)) ∧ Hid (Row Rn' 3 1 an n0 cn (is nx)) ∧ Hid (ShAt w (Rn' ++ (Re2 ++ L2)) g bal cnt wr)) (fun _ _ v117 _ => m2 - (intOf v117).toNat)
    case atStart => exact ⟨0, 0, bal, Rn, by omega, rfl, rfl, rfl, by omega, by omega, Lib.hid HPL.out, Lib.hid (HPB.out.mono (by omega)), Lib.hid (by simp), Lib.hid (by simp [amts]), Lib.hid (by simp [postL]), RN, S5⟩
    case round =>
      clear S5 RN
      obtain ⟨k, s, nx, Rn', hk, rfl, rfl, rfl, s0, s1, HNL, HNW, HAL, HSM, HNX, RN, S5⟩ := hrel
      by_cases hlt : k < m2
      · obtain ⟨e, he⟩ : ∃ e, es2[k]? = some e := ⟨_, List.getElem?_eq_getElem (by rw [HL2.out]; exact hlt)⟩
        obtain ⟨ad2, hae, c0, c1⟩ := src_ec (S5.out.src RE.out (fun x hx => by simp [hx])) he
        have HE := Lib.hid he
        obtain rfl := hae
        obtain ⟨x, y⟩ := e
        simp only at c0 c1
        have S6 := Lib.hid (show ShAt w ((wr.heap.size, #[.int .i64 x, .int .i64 y], 27) :: (Rn' ++ (Re2 ++ L2))) g bal cnt _ from S5.out.join ((Sts.nil wr).add (g := wr.heap.size) rfl #[.int .i64 x, .int .i64 y] 27))
        have i1 : (0 : Int) ≤ (k : Int) := by omega
        have i2 : (k : Int) < (m2 : Int) := by omega
        clear he
        go_upto_region 29 with fail
        clear c0 c1 S5
        generalize wr.alloc (.cells #[.int .i64 x, .int .i64 y] 27) = w6 at *
        generalize wr.heap.size = gn at *
        obtain ⟨e0, _⟩ := S6.out.cellL (g' := gn) (cs := #[.int .i64 x, .int .i64 y]) (t := 27) (by simp) 0 (v := .int .i64 x) rfl
        obtain ⟨e1, _⟩ := S6.out.cellL (g' := gn) (cs := #[.int .i64 x, .int .i64 y]) (t := 27) (by simp) 1 (v := .int .i64 y) rfl
        go_cut [139] from 121 to 139 (fun v139 wc => v139 = .bool (!thereOk n0 (x, y)) ∧ wc = w6)
        case first =>
          have hv : thereOk n0 (x, y) = ((decide (-1152921504606846976 ≤ y) && decide (y ≤ 1152921504606846976)) && (decide (0 ≤ x) && decide (x < (n0 : Int)))) := rfl
          by_cases q1 : y < -1152921504606846976
          · have t2 : decide (y < -1152921504606846976) = true := decide_eq_true q1
            go_wp2_with fail
            go_meet
            exact ⟨by rw [hv, decide_eq_false (show ¬ -1152921504606846976 ≤ y by omega)]; rfl, rfl⟩
          have t2 : decide (y < -1152921504606846976) = false := decide_eq_false q1
          by_cases q2 : 1152921504606846976 < y
          · have t3 : decide (1152921504606846976 < y) = true := decide_eq_true q2
            go_wp2_with fail
            go_meet
            exact ⟨by rw [hv, decide_eq_false (show ¬ y ≤ 1152921504606846976 by omega)]; simp, rfl⟩
          have t3 : decide (1152921504606846976 < y) = false := decide_eq_false q2
          by_cases q3 : x < 0
          · have t4 : decide (x < 0) = true := decide_eq_true q3
            go_wp2_with fail
            go_meet
            exact ⟨by rw [hv, decide_eq_false (show ¬ 0 ≤ x by omega)]; simp, rfl⟩
          have t4 : decide (x < 0) = false := decide_eq_false q3
          by_cases q4 : (n0 : Int) ≤ x
          · have t5 : decide ((n0 : Int) ≤ x) = true := decide_eq_true q4
            go_wp2_with fail
            go_meet
            exact ⟨by rw [hv, decide_eq_false (show ¬ x < (n0 : Int) by omega)]; simp, rfl⟩
          have t5 : decide ((n0 : Int) ≤ x) = false := decide_eq_false q4
          go_wp2_with fail
          go_meet
          exact ⟨by rw [hv, decide_eq_true (show -1152921504606846976 ≤ y by omega), decide_eq_true (show y ≤ 1152921504606846976 by omega), decide_eq_true (show 0 ≤ x by omega), decide_eq_true (show x < (n0 : Int) by omega)]; rfl, rfl⟩
        case rest =>
          obtain ⟨rfl, rfl⟩ := hcut
          have hbl := HPL.out
          cases hok : thereOk n0 (x, y) with
          | false =>
            have HMF := Lib.hid (mayF_out (bal := bal) HE.out (by rw [hbl]; exact hok))
            have S7 := Lib.hid (S6.out.sub (List.sublist_cons_self _ _))
            clear S6 e0 e1 hbl hok
            go_wp2_with fail
            go_meet
            exact ⟨false, s, nx, Rn', rfl, rfl, HNL, RN, S7, Lib.hid (fun h => Bool.noConfusion h), Lib.hid (fun _ => HMF.out)⟩
          | true =>
            have h0 : 0 ≤ x ∧ x < (n0 : Int) ∧ -1152921504606846976 ≤ y ∧ y ≤ 1152921504606846976 := by unfold thereOk thereB inB at hok; simp at hok; omega
            have hal2 : (es2.take (k + 1)).all (thereOk bal.length) = true := by rw [take_next HE.out, List.all_append, HAL.out, hbl]; simp [hok]
            have hsm2 : (amts (es2.take (k + 1))).sum = s + y := by
              have := HSM.out
              rw [take_next HE.out]; unfold amts at *; rw [List.map_append, List.sum_append, this]; simp
            obtain ⟨h1, h2, h3, h4⟩ := h0
            obtain ⟨q, rfl⟩ := Int.eq_ofNat_of_zero_le h1
            have hq : q < n0 := by omega
            obtain ⟨gx, cur, rfl, rfl⟩ := RN.out.formN (by omega)
            have hcx : cur[q]? = some (.int .i64 (nx.getD q 0)) := by rw [RN.out.ownN (by omega)]; exact is_get nx (by rw [HNL.out]; omega)
            have hwb := HNW.out.getD (by omega) q
            have hp1 : nx.set q (nx.getD q 0 + y) = postL bal (es2.take (k + 1)) := by rw [take_next HE.out, postL_snoc, ← HNX.out]; rfl
            have hw2 : Within (nx.set q (nx.getD q 0 + y)) (1152921504606846976 * (((k + 1 : Nat) : Int) + 1)) := by
              intro z hz
              rcases List.mem_or_eq_of_mem_set hz with hz | rfl
              · have := HNW.out z hz; omega
              · omega
            have hl2 : (nx.set q (nx.getD q 0 + y)).length = n0 := by rw [List.length_set]; exact HNL.out
            have hrow := RN.out.putN q (.int .i64 (nx.getD q 0 + y))
            have hise : (is nx).set q (.int .i64 (nx.getD q 0 + y)) = is (nx.set q (nx.getD q 0 + y)) := by simp [is, List.map_set]
            rw [hise] at hrow
            have hs7 := S6.out.perm (List.Perm.swap (gx, cur, 3) _ _)
            have hs8 := (ShAt.setL hs7 q (.int .i64 (nx.getD q 0 + y))).drew
            obtain ⟨c2, f2⟩ := S6.out.cellL (g' := gx) (cs := cur) (t := 3) (by simp) q hcx
            have AL2 := Lib.hid hal2; have SM2 := Lib.hid hsm2; have PL2 := Lib.hid hp1; have WB2 := Lib.hid hw2; have NL2 := Lib.hid hl2; have RW2 := Lib.hid hrow; have S8 := Lib.hid hs8
            generalize nx.set q (nx.getD q 0 + y) = nx2 at *
            generalize nx.getD q 0 = z at *
            have wr1 : IntKind.i64.wrap (z + y) = z + y := IntWalk.i64_in _ (by omega)
            have i3 : (0 : Int) ≤ (q : Int) := by omega
            have i4 : (q : Int) < (n0 : Int) := by omega
            clear hal2 hsm2 hp1 hw2 hl2 hrow hise hs7 hs8 hcx hwb hbl hok
            go_upto_region 31 with fail
            go_cut [] from 140 to 151 (fun wc => Hid (ShAt w ((gx, cur.setIfInBounds q (.int .i64 (z + y)), 3) :: (gn, #[.int .i64 (q : Int), .int .i64 y], 27) :: (Re2 ++ L2)) g bal cnt wc))
            case first =>
              refine wp_only ?_
              go_region_law (fail)
              all_goals
                go_wp2_with fail
                go_meet
                exact S8
            case rest =>
              clear S6 S8 e0 e1 c2 f2 wr1
              have S8 := hcut
              obtain ⟨e2, _⟩ := S8.out.cellL (g' := gn) (cs := #[.int .i64 (q : Int), .int .i64 y]) (t := 27) (by simp) 1 (v := .int .i64 y) rfl
              have S9 := Lib.hid (S8.out.sub (List.Sublist.cons_cons _ (List.sublist_cons_self _ _)))
              clear hcut S8
              go_wp2_with fail
              go_roundw
              case rel => exact ⟨k + 1, s + y, nx2, _, by omega, rfl, rfl, by go_num, by omega, by omega, NL2, WB2, AL2, SM2, PL2, RW2, S9⟩
              case measure => simp [intOf]; omega
      · obtain rfl : k = m2 := by omega
        have htk : es2.take k = es2 := List.take_of_length_le (by rw [HL2.out]; exact Nat.le_refl _)
        rw [htk] at HAL HSM HNX
        go_wp2_with fail
        go_meet
        refine ⟨t0, s, nx, Rn', rfl, rfl, HNL, RN, S5, Lib.hid (fun h => ⟨?_, HAL.out, HSM.out, HNX.out⟩), Lib.hid (fun h => ?_)⟩
        · intro he
          have h1 := HT0.out; have h2 := HL2.out
          rw [h] at h1; simp at h1; rw [he] at h2; simp at h2; omega
        · have h1 := HT0.out; have h2 := HL2.out
          rw [h] at h1; simp at h1
          have : es2 = [] := List.eq_nil_of_length_eq_zero (by omega)
          rw [this]; exact mayF_nil bal
  case rest => exact hK _ _ _ _ _ _ _ _ _ _ _ _ _ _ _ _ _ _ _ _ _ _ _ _ _ _ _ _ _ _ _ _ _ _ _ _ _ _ _ _ _ _ _ _ hcut
end Go.Proofs.Ytideaimlnipkoaa

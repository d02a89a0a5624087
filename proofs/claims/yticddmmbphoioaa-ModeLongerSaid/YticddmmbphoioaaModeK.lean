import Derived.Test.YticddmmbphoioaaModeI
import Derived.Deep.RegionHeld3
import Derived.Sort.BigQuietIn
namespace Go.Proofs.Yticddmmbphoioaa
open Go.RowKit
set_option linter.unusedVariables false
set_option linter.unusedSimpArgs false
/-- The block of a number: a piece of a round as a code of its own. -/
def blockAt (n : Nat) : Code → Option Code
  | .block k c => if k = n then some (.block k c) else blockAt n c
  | .cond _ a b => match blockAt n a with
    | some c => some c
    | none => blockAt n b
  | .seq a b => match blockAt n a with
    | some c => some c
    | none => blockAt n b
  | .scope c => blockAt n c
  | .loop c => blockAt n c
  | _ => none
theorem wp_only {P : Program} {c : Code} {K : Act → World → Prop} {Q : Exit → Act → World → Prop} {a : Act} {w : World} (h : Code.wp P c (Exit.then K (fun _ _ _ => False)) a w) : Code.wp P c (Exit.then K Q) a w :=
  Code.wp_mono (fun e a w => by cases e <;> intro h <;> first | exact h | exact h.elim) h
/-! ### The deal's steps -/
theorem mem_take_next {l : List (Int × Int)} {j : Nat} {e s : Int × Int} (h : l[j]? = some e) : decide (s ∈ l.take (j + 1)) = (decide (s ∈ l.take j) || decide (e = s)) := by
  rw [take_next' h]
  by_cases h1 : s ∈ l.take j <;> by_cases h2 : e = s <;> simp [h1, h2] <;> (try exact fun h => h2 h.symm)
theorem addK_yes {l : List (Int × Int)} {s : Int × Int} (h : s ∈ l) : addK l s = l := if_pos h
theorem addK_no {l : List (Int × Int)} {s : Int × Int} (h : ¬ s ∈ l) : addK l s = l ++ [s] := if_neg h
theorem tdiv7_bd (z : Int) (h0 : -9223372036854775808 ≤ z) (h1 : z ≤ 9223372036854775807) : -9223372036854775808 ≤ z.tdiv 7 ∧ z.tdiv 7 ≤ 9223372036854775807 := by
  have h := Int.tdiv_eq_ediv (a := z) (b := 7)
  have h7 : Int.sign 7 = 1 := rfl
  rw [h7] at h
  split at h <;> omega
def Kd.ss (k : Kd) (m : Nat) : Li := if m = 0 then k.s0 else if m = 1 then k.s1 else k.s2
theorem ss_cell (k : Kd) (m : Nat) (h : m < 3) : k.cs[17 + m]? = some (.slice (k.ss m).a (k.ss m).n (k.ss m).c) := by
  match m, h with
  | 0, _ => rfl
  | 1, _ => rfl
  | 2, _ => rfl
theorem ss_in {k : Kd} {W : World} (h : k.In W) (m : Nat) : Ints W (k.ss m).a (k.ss m).n (k.ss m).l := by
  unfold Kd.ss
  split
  · exact h.s0
  · split
    · exact h.s1
    · exact h.s2
set_option maxHeartbeats 32000000 in
set_option maxRecDepth 1000000 in
theorem step_round (k : Kd) (w : World) (hk : Hid (k.In w)) (g1 g2 g3 : Nat) (m : Nat) (hm : m < 3) (i : Nat) (hi12 : i < 12) (hin : i < (k.ss m).n) (n : Nat) (hni : n ≤ i) (a : Option Addr) (c : Nat) (L N S0 S1 S2 : Sl) (R O : List Ent) (W : World) (HL : Hid ((foldK (k.ss m).l i).length = n)) (HR : Hid (Row R 59 2 a n c (pcs (foldK (k.ss m).l i)))) (HS : Hid (Sts w (Heads k g1 g2 g3 L N S0 S1 S2 ++ (R ++ O)) W)) (u4 u5 u6 u7 u8 u12 u13 u14 u15 u16 u17 u18 u19 u20 u21 u22 u23 u24 u25 u26 u27 u28 u29 u30 u31 u32 u33 u34 u35 u36 u37 u38 u39 u40 u41 u42 u43 u44 u45 u46 u47 u48 u49 u50 u51 u52 u53 u54 u55 u56 u57 u58 u59 u60 u61 u62 u63 u64 u65 u66 u67 u68 u69 u70 u71 u72 u73 u74 u75 u76 u77 u78 u79 u80 u81 u82 u83 u84 u85 u86 u87 u88 u89 u90 u91 u92 u93 u94 u95 u96 u97 u98 u99 u100 u101 u102 u103 u104 u105 u106 u107 u108 u109 u110 u111 u112 u113 u114 u115 u116 u117 u118 u119 u120 u121 u122 u123 u124 u125 u126 u127 u128 u129 u130 u131 u132 u133 u134 u135 u136 u137 u138 u139 u140 u141 u142 u143 u144 u145 u146 u147 u148 u149 u150 u151 u152 u153 u154 u155 u156 u157 u158 u159 u160 u161 u162 u163 u164 u165 u166 u167 u168 u169 u170 u171 u172 u173 u174 u175 u176 u177 u178 u179 u180 u181 u182 u183 u184 u185 u186 u187 u188 u189 u190 u191 : Value) (K : Act → World → Prop) (Q1 : Exit → Act → World → Prop)
    (hK : ∀ (v10 v12 v13 v15 v135 v136 v137 v138 v139 v140 v141 v142 v143 v144 v145 v146 v147 v148 v149 v150 v151 v152 v153 v154 v155 v156 v157 v158 v159 v160 v161 v162 v163 v164 v165 v166 v167 v168 v169 v170 v171 v172 v173 v174 v175 : Value) (wc : World), (∃ (n' : Nat) (a' : Option Addr) (c' : Nat) (R' : List Ent), v10 = .slice a' n' c' ∧ n' ≤ i + 1 ∧ Hid ((foldK (k.ss m).l (i + 1)).length = n') ∧ Hid (Row R' 59 2 a' n' c' (pcs (foldK (k.ss m).l (i + 1)))) ∧ Hid (Sts w (Heads k g1 g2 g3 L N S0 S1 S2 ++ (R' ++ O)) wc)) → K ⟨#[.agg k.cs, .pointer (some ⟨g1, 0, none⟩), .pointer (some ⟨g2, 0, none⟩), .pointer (some ⟨g3, 0, none⟩), u4, u5, u6, u7, u8, .int .i64 m, v10, .int .i64 i, v12, v13, u14, v15, u16, u17, u18, u19, u20, u21, u22, u23, u24, u25, u26, u27, u28, u29, u30, u31, u32, u33, u34, u35, u36, u37, u38, u39, u40, u41, u42, u43, u44, u45, u46, u47, u48, u49, u50, u51, u52, u53, u54, u55, u56, u57, u58, u59, u60, u61, u62, u63, u64, u65, u66, u67, u68, u69, u70, u71, u72, u73, u74, u75, u76, u77, u78, u79, u80, u81, u82, u83, u84, u85, u86, u87, u88, u89, u90, u91, u92, u93, u94, u95, u96, u97, u98, u99, u100, u101, u102, u103, u104, u105, u106, u107, u108, u109, u110, u111, u112, u113, u114, u115, u116, u117, u118, u119, u120, u121, u122, u123, u124, u125, u126, u127, u128, u129, u130, u131, u132, u133, u134, v135, v136, v137, v138, v139, v140, v141, v142, v143, v144, v145, v146, v147, v148, v149, v150, v151, v152, v153, v154, v155, v156, v157, v158, v159, v160, v161, v162, v163, v164, v165, v166, v167, v168, v169, v170, v171, v172, v173, v174, v175, u176, u177, u178, u179, u180, u181, u182, u183, u184, u185, u186, u187, u188, u189, u190, u191], []⟩ wc) :
    Code.wp Try.prog ((Try.f24.body.bind (blockAt 7)).getD .skip) (Exit.then K Q1) ⟨#[.agg k.cs, .pointer (some ⟨g1, 0, none⟩), .pointer (some ⟨g2, 0, none⟩), .pointer (some ⟨g3, 0, none⟩), u4, u5, u6, u7, u8, .int .i64 m, .slice a n c, .int .i64 i, u12, u13, u14, u15, u16, u17, u18, u19, u20, u21, u22, u23, u24, u25, u26, u27, u28, u29, u30, u31, u32, u33, u34, u35, u36, u37, u38, u39, u40, u41, u42, u43, u44, u45, u46, u47, u48, u49, u50, u51, u52, u53, u54, u55, u56, u57, u58, u59, u60, u61, u62, u63, u64, u65, u66, u67, u68, u69, u70, u71, u72, u73, u74, u75, u76, u77, u78, u79, u80, u81, u82, u83, u84, u85, u86, u87, u88, u89, u90, u91, u92, u93, u94, u95, u96, u97, u98, u99, u100, u101, u102, u103, u104, u105, u106, u107, u108, u109, u110, u111, u112, u113, u114, u115, u116, u117, u118, u119, u120, u121, u122, u123, u124, u125, u126, u127, u128, u129, u130, u131, u132, u133, u134, u135, u136, u137, u138, u139, u140, u141, u142, u143, u144, u145, u146, u147, u148, u149, u150, u151, u152, u153, u154, u155, u156, u157, u158, u159, u160, u161, u162, u163, u164, u165, u166, u167, u168, u169, u170, u171, u172, u173, u174, u175, u176, u177, u178, u179, u180, u181, u182, u183, u184, u185, u186, u187, u188, u189, u190, u191], []⟩ W := by
  obtain ⟨i0, hi, hz, hs1, hs2⟩ := info_parts' step_info
  have HM := Lib.hid (ss_in hk.out m)
  have c17 := HS.out.cell 0 (17 + m) rfl (ss_cell k m hm)
  obtain ⟨ad, had, hc⟩ := HM.out.at_ i hin
  have HC0 := Lib.hid hc
  replace hc := HS.out.old hc
  obtain ⟨zb0, zb1⟩ := HM.out.bd _ (getD_mem (l := (k.ss m).l) (i := i) (d := 0) (by rw [HM.out.length]; exact hin))
  have hg : (k.ss m).l[i]? = some ((k.ss m).l.getD i 0) := by
    rw [List.getD_eq_getElem?_getD, List.getElem?_eq_getElem (by rw [HM.out.length]; exact hin)]; rfl
  have HF := Lib.hid (foldK_next hg)
  clear hg
  generalize (k.ss m).l.getD i 0 = z at *
  have i0' : (0 : Int) ≤ (i : Int) := by omega
  have i1 : (i : Int) < ((k.ss m).n : Int) := by omega
  have m0 : (0 : Int) ≤ (m : Int) := by omega
  have m1 : (m : Int) < 3 := by omega
  obtain ⟨d0, d1⟩ := tdiv7_bd z zb0 zb1
  obtain ⟨q, hq⟩ : ∃ q, within z 1 7 = q := ⟨_, rfl⟩
  obtain ⟨r, hr⟩ : ∃ r : Int, (if q = 3 then within (z.tdiv 7) 0 3 else 0) = r := ⟨_, rfl⟩
  have HSK := Lib.hid (show stepK z = (q, r) from by unfold stepK; rw [hq, hr])
  have HWQ := Lib.hid (within_calls z 1 7 W (by omega) (by omega) (by omega))
  rw [hq] at HWQ
  clear hq
  conv => arg 2; whnf
  dsimp only
  go_cut [10, 12, 13, 15] from 135 to 175 (fun v10 v12 v13 v15 wc => ∃ (n' : Nat) (a' : Option Addr) (c' : Nat) (R' : List Ent), v10 = .slice a' n' c' ∧ n' ≤ i + 1 ∧ Hid ((foldK (k.ss m).l (i + 1)).length = n') ∧ Hid (Row R' 59 2 a' n' c' (pcs (foldK (k.ss m).l (i + 1)))) ∧ Hid (Sts w (Heads k g1 g2 g3 L N S0 S1 S2 ++ (R' ++ O)) wc))
  case rest => exact hK _ _ _ _ _ _ _ _ _ _ _ _ _ _ _ _ _ _ _ _ _ _ _ _ _ _ _ _ _ _ _ _ _ _ _ _ _ _ _ _ _ _ _ _ _ _ hcut
  case first =>
    clear hK
    go_wp2_with fail
    refine HWQ.out.mono ?_
    rintro e w2 ⟨rfl, rfl⟩
    have HX := Lib.hid (HS.out.ins (g := W.heap.size) (Heads k g1 g2 g3 L N S0 S1 S2) (R ++ O) rfl #[.int .i64 q, .int .i64 0] 59)
    clear HWQ HS c17 hc
    go_upto_region 23 with fail
    generalize W.alloc (.cells #[.int .i64 q, .int .i64 0] 59) = w3 at *
    generalize W.heap.size = gx at *
    have e0 := HX.out.cell 3 0 rfl (v := .int .i64 q) rfl
    have f1 := HX.out.frozen 3 1 rfl
    have e1 := HX.out.cell 3 1 rfl (v := .int .i64 0) rfl
    have c17 := HX.out.cell 0 (17 + m) rfl (ss_cell k m hm)
    have hcx := HX.out.old HC0.out
    go_upto_if 146 with fail
    go_cut [] from 147 to 156 (fun wc => Hid (Sts w (Heads k g1 g2 g3 L N S0 S1 S2 ++ ((gx, #[.int .i64 q, .int .i64 r], 59) :: (R ++ O))) wc))
    case first =>
      by_cases hq3 : q = 3
      · subst hq3
        rw [if_pos rfl] at hr
        subst hr
        go_wp2_with fail
        refine (within_calls (z.tdiv 7) 0 3 w3 (by omega) (by omega) (by omega)).mono ?_
        rintro e w2 ⟨rfl, rfl⟩
        go_wp2_with fail
        go_meet
        exact Lib.hid ((HX.out.set 3 1 (.int .i64 (within (z.tdiv 7) 0 3)) rfl).lit rfl)
      · rw [if_neg hq3] at hr
        subst hr
        have t0 : (q == 3) = false := beq_eq_false_iff_ne.2 hq3
        go_wp2_with fail
        go_meet
        exact HX
    case rest =>
      have HY := hcut
      clear HX e0 e1 f1 c17 hcx hcut d0 d1 i0' i1 m0 m1 zb0 zb1 hr
      have e0 := HY.out.cell 3 0 rfl (v := .int .i64 q) rfl
      have e1 := HY.out.cell 3 1 rfl (v := .int .i64 r) rfl
      go_wp2_with fail
      go_loopw [13, 159] (fun v13 v159 wr => ∃ j : Nat, j ≤ n ∧ v13 = .bool (decide ((q, r) ∈ (foldK (k.ss m).l i).take j)) ∧ v159 = .int .i64 j ∧ Hid (Sts w (Heads k g1 g2 g3 L N S0 S1 S2 ++ ((gx, #[.int .i64 q, .int .i64 r], 59) :: (R ++ O))) wr)) (fun _ v159 _ => n - (intOf v159).toNat)
      case atStart => exact ⟨0, by omega, by simp, rfl, HY⟩
      case round =>
        obtain ⟨j, hj, rfl, rfl, HZ⟩ := hrel
        clear HY e0 e1
        have e0 := HZ.out.cell 3 0 rfl (v := .int .i64 q) rfl
        have e1 := HZ.out.cell 3 1 rfl (v := .int .i64 r) rfl
        by_cases hlt : j < n
        · obtain ⟨⟨x, y⟩, hge⟩ : ∃ e, (foldK (k.ss m).l i)[j]? = some e := ⟨_, List.getElem?_eq_getElem (by rw [HL.out]; exact hlt)⟩
          obtain ⟨ad, hA, c0, c1⟩ := src_pc (HR.out.src (Heads k g1 g2 g3 L N S0 S1 S2 ++ [(gx, #[.int .i64 q, .int .i64 r], 59)]) O (HZ.out.lit (by simp))) hge
          have hnx := mem_take_next (s := (q, r)) hge
          simp only at c0 c1
          subst hA
          have j0 : (0 : Int) ≤ (j : Int) := by omega
          have j1 : (j : Int) < (n : Int) := by omega
          obtain ⟨b, hb⟩ : ∃ b, decide ((q, r) ∈ (foldK (k.ss m).l i).take j) = b := ⟨_, rfl⟩
          rw [hb] at hnx ⊢
          have HN := Lib.hid hnx
          have hw3 := HZ.out.ins (g := wr.heap.size) (Heads k g1 g2 g3 L N S0 S1 S2) ((gx, #[.int .i64 q, .int .i64 r], 59) :: (R ++ O)) rfl #[.int .i64 x, .int .i64 y] 59
          have HW3 := Lib.hid hw3
          clear hge hnx hb hw3
          go_upto_region 29 with fail
          clear c0 c1 e0 e1
          generalize wr.alloc (.cells #[.int .i64 x, .int .i64 y] 59) = w4 at *
          generalize wr.heap.size = gy at *
          have e0 := HW3.out.cell 4 0 rfl (v := .int .i64 q) rfl
          have e1 := HW3.out.cell 4 1 rfl (v := .int .i64 r) rfl
          have c0 := HW3.out.cell 3 0 rfl (v := .int .i64 x) rfl
          have c1 := HW3.out.cell 3 1 rfl (v := .int .i64 y) rfl
          have HV := Lib.hid (HW3.out.sub (L' := Heads k g1 g2 g3 L N S0 S1 S2 ++ ((gx, #[.int .i64 q, .int .i64 r], 59) :: (R ++ O))) (by simp))
          cases b with
          | true =>
            go_wp2_with fail
            go_roundw
            case rel => exact ⟨j + 1, by omega, by rw [HN.out]; rfl, by go_num, HV⟩
            case measure => simp [intOf]; omega
          | false =>
            by_cases hx : x = q
            · subst hx
              by_cases hy : y = r
              · subst hy
                have hN2 : decide ((x, y) ∈ (foldK (k.ss m).l i).take (j + 1)) = true := by rw [HN.out]; simp
                have HN2 := Lib.hid hN2
                clear hN2
                go_wp2_with fail
                go_roundw
                case rel => exact ⟨j + 1, by omega, by rw [HN2.out], by go_num, HV⟩
                case measure => simp [intOf]; omega
              · have hN2 : decide ((x, r) ∈ (foldK (k.ss m).l i).take (j + 1)) = false := by rw [HN.out]; simp [hy]
                have HN2 := Lib.hid hN2
                clear hN2
                go_wp2_with fail
                go_roundw
                case rel => exact ⟨j + 1, by omega, by rw [HN2.out], by go_num, HV⟩
                case measure => simp [intOf]; omega
            · have hN2 : decide ((q, r) ∈ (foldK (k.ss m).l i).take (j + 1)) = false := by rw [HN.out]; simp [hx]
              have HN2 := Lib.hid hN2
              clear hN2
              go_wp2_with fail
              go_roundw
              case rel => exact ⟨j + 1, by omega, by rw [HN2.out], by go_num, HV⟩
              case measure => simp [intOf]; omega
        · obtain rfl : j = n := by omega
          have htk : (foldK (k.ss m).l i).take j = foldK (k.ss m).l i := List.take_of_length_le (by rw [HL.out]; exact Nat.le_refl _)
          rw [htk]
          clear htk
          have e0 := HZ.out.cell 3 0 rfl (v := .int .i64 q) rfl
          have e1 := HZ.out.cell 3 1 rfl (v := .int .i64 r) rfl
          by_cases hmem : (q, r) ∈ foldK (k.ss m).l i
          · have b0 : decide ((q, r) ∈ foldK (k.ss m).l i) = true := decide_eq_true hmem
            have hF : foldK (k.ss m).l (i + 1) = foldK (k.ss m).l i := by rw [HF.out, HSK.out, addK_yes hmem]
            have HF2 := Lib.hid hF
            clear hmem hF
            rw [b0]
            go_wp2_with fail
            go_meet
            exact ⟨j, a, c, R, rfl, by omega, by rw [HF2.out]; exact HL, by rw [HF2.out]; exact HR, Lib.hid (HZ.out.sub (by simp))⟩
          · have b0 : decide ((q, r) ∈ foldK (k.ss m).l i) = false := decide_eq_false hmem
            have hF : foldK (k.ss m).l (i + 1) = foldK (k.ss m).l i ++ [(q, r)] := by rw [HF.out, HSK.out, addK_no hmem]
            have HF2 := Lib.hid hF
            clear hmem hF
            rw [b0]
            have HJ := Lib.hid (show j ≤ i from hni)
            have hj20 : j ≤ 20 := by omega
            clear hni hi12 hin hm b0
            go_wp2_with (at_builtin; refine row_append rfl (.tmp 172) (.tmp 174) 51 rfl (Heads k g1 g2 g3 L N S0 S1 S2 ++ [(gx, #[.int .i64 q, .int .i64 r], 59)]) O Try.underlying51 hi hz hs1 hs2 rfl (by omega) HR.out ((HZ.out.lit (by simp)).skip _) rfl rfl (Src.new (size := 2) (m := 1) rfl rfl) (pcs_one [(q, r)]) (by omega) (by omega) ?_; rintro R3 a3 c3 w5 hR3' hS3'; have hR3 := Lib.hid hR3'; have hS3 := Lib.hid hS3'; clear hR3' hS3' HR HZ e0 e1 hj20 hi hz hs1 hs2)
            go_meet
            exact ⟨j + 1, a3, c3, R3, rfl, by have := HJ.out; omega, by rw [HF2.out, List.length_append, HL.out]; rfl, Lib.hid (by rw [HF2.out, pcs_app]; exact hR3.out), Lib.hid (hS3.out.sub (by simp))⟩
end Go.Proofs.Yticddmmbphoioaa

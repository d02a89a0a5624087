import Derived.Test.YticddmmbphoioaaModeK
import Derived.Deep.RegionHeld3
import Derived.Sort.BigQuietIn
namespace Go.Proofs.Yticddmmbphoioaa
open Go.RowKit
set_option linter.unusedVariables false
set_option linter.unusedSimpArgs false
/-! ### The deal's steps: a mode's -/
def updS (S : Nat → Sl) (m : Nat) (s : Sl) : Nat → Sl := fun j => if j = m then s else S j
theorem ds_cell (k : Kd) (L N : Sl) (S : Nat → Sl) (m : Nat) (h : m < 3) : (k.ds L N (S 0) (S 1) (S 2))[15 + m]? = some (.slice (S m).a (S m).n (S m).c) := by
  match m, h with
  | 0, _ => rfl
  | 1, _ => rfl
  | 2, _ => rfl
theorem ds_upd (k : Kd) (L N : Sl) (S : Nat → Sl) (m : Nat) (h : m < 3) (s : Sl) : (k.ds L N (S 0) (S 1) (S 2)).setIfInBounds (15 + m) s.v = k.ds L N (updS S m s 0) (updS S m s 1) (updS S m s 2) := by
  match m, h with
  | 0, _ => rfl
  | 1, _ => rfl
  | 2, _ => rfl
theorem foldK_full {zs : List Int} {i n : Nat} (hl : zs.length = n) (h : i = min n 12) : foldK zs i = foldK zs 12 := by
  unfold foldK
  by_cases h12 : 12 ≤ n
  · rw [show i = 12 by omega]
  · rw [List.take_of_length_le (by omega), List.take_of_length_le (by omega)]
theorem dflt_row (g : Nat) (t : TypeId) : Row [(g, #[.int .i64 1, .int .i64 0, .int .i64 3, .int .i64 0, .int .i64 3, .int .i64 1, .int .i64 4, .int .i64 0, .int .i64 2, .int .i64 0, .int .i64 6, .int .i64 0], t)] t 2 (some ⟨g, 0, none⟩) 6 6 (pcs dflt) :=
  ⟨rfl, Nat.le_refl _, by unfold maxLen; omega, .inr ⟨g, _, rfl, rfl, rfl, rfl⟩⟩
set_option maxHeartbeats 32000000 in
set_option maxRecDepth 1000000 in
theorem mode_round (k : Kd) (w : World) (hk : Hid (k.In w)) (g1 g2 g3 : Nat) (m : Nat) (hm : m < 3) (L N : Sl) (S : Nat → Sl) (O : List Ent) (W : World) (HS : Hid (Sts w (Heads k g1 g2 g3 L N (S 0) (S 1) (S 2) ++ O) W)) (u4 u5 u6 u7 u8 u9 u10 u11 u12 u13 u14 u15 u16 u17 u18 u19 u20 u21 u22 u23 u24 u25 u26 u27 u28 u29 u30 u31 u32 u33 u34 u35 u36 u37 u38 u39 u40 u41 u42 u43 u44 u45 u46 u47 u48 u49 u50 u51 u52 u53 u54 u55 u56 u57 u58 u59 u60 u61 u62 u63 u64 u65 u66 u67 u68 u69 u70 u71 u72 u73 u74 u75 u76 u77 u78 u79 u80 u81 u82 u83 u84 u85 u86 u87 u88 u89 u90 u91 u92 u93 u94 u95 u96 u97 u98 u99 u100 u101 u102 u103 u104 u105 u106 u107 u108 u109 u110 u111 u112 u113 u114 u115 u116 u117 u118 u120 u121 u122 u123 u124 u125 u126 u127 u128 u129 u130 u131 u132 u133 u134 u135 u136 u137 u138 u139 u140 u141 u142 u143 u144 u145 u146 u147 u148 u149 u150 u151 u152 u153 u154 u155 u156 u157 u158 u159 u160 u161 u162 u163 u164 u165 u166 u167 u168 u169 u170 u171 u172 u173 u174 u175 u176 u177 u178 u179 u180 u181 u182 u183 u184 u185 u186 u187 u188 u189 u190 u191 : Value) (K : Act → World → Prop) (Q1 : Exit → Act → World → Prop)
    (hK : ∀ (v9 v10 v11 v12 v13 v15 v121 v122 v123 v124 v125 v126 v127 v128 v129 v130 v131 v132 v133 v134 v135 v136 v137 v138 v139 v140 v141 v142 v143 v144 v145 v146 v147 v148 v149 v150 v151 v152 v153 v154 v155 v156 v157 v158 v159 v160 v161 v162 v163 v164 v165 v166 v167 v168 v169 v170 v171 v172 v173 v174 v175 v176 v177 v178 v179 v180 v181 v182 v183 v184 v185 v186 v187 v188 v189 : Value) (wc : World), (∃ (n' : Nat) (a' : Option Addr) (c' : Nat) (R' : List Ent), Hid ((stepsK (k.ss m).l).length = n') ∧ Hid (Row R' 59 2 a' n' c' (pcs (stepsK (k.ss m).l))) ∧ Hid (Sts w (Heads k g1 g2 g3 L N (updS S m ⟨a', n', c'⟩ 0) (updS S m ⟨a', n', c'⟩ 1) (updS S m ⟨a', n', c'⟩ 2) ++ (R' ++ O)) wc)) → K ⟨#[.agg k.cs, .pointer (some ⟨g1, 0, none⟩), .pointer (some ⟨g2, 0, none⟩), .pointer (some ⟨g3, 0, none⟩), u4, u5, u6, u7, u8, v9, v10, v11, v12, v13, u14, v15, u16, u17, u18, u19, u20, u21, u22, u23, u24, u25, u26, u27, u28, u29, u30, u31, u32, u33, u34, u35, u36, u37, u38, u39, u40, u41, u42, u43, u44, u45, u46, u47, u48, u49, u50, u51, u52, u53, u54, u55, u56, u57, u58, u59, u60, u61, u62, u63, u64, u65, u66, u67, u68, u69, u70, u71, u72, u73, u74, u75, u76, u77, u78, u79, u80, u81, u82, u83, u84, u85, u86, u87, u88, u89, u90, u91, u92, u93, u94, u95, u96, u97, u98, u99, u100, u101, u102, u103, u104, u105, u106, u107, u108, u109, u110, u111, u112, u113, u114, u115, u116, u117, u118, .int .i64 m, u120, v121, v122, v123, v124, v125, v126, v127, v128, v129, v130, v131, v132, v133, v134, v135, v136, v137, v138, v139, v140, v141, v142, v143, v144, v145, v146, v147, v148, v149, v150, v151, v152, v153, v154, v155, v156, v157, v158, v159, v160, v161, v162, v163, v164, v165, v166, v167, v168, v169, v170, v171, v172, v173, v174, v175, v176, v177, v178, v179, v180, v181, v182, v183, v184, v185, v186, v187, v188, v189, u190, u191], []⟩ wc) :
    Code.wp Try.prog ((Try.f24.body.bind (blockAt 5)).getD .skip) (Exit.then K Q1) ⟨#[.agg k.cs, .pointer (some ⟨g1, 0, none⟩), .pointer (some ⟨g2, 0, none⟩), .pointer (some ⟨g3, 0, none⟩), u4, u5, u6, u7, u8, u9, u10, u11, u12, u13, u14, u15, u16, u17, u18, u19, u20, u21, u22, u23, u24, u25, u26, u27, u28, u29, u30, u31, u32, u33, u34, u35, u36, u37, u38, u39, u40, u41, u42, u43, u44, u45, u46, u47, u48, u49, u50, u51, u52, u53, u54, u55, u56, u57, u58, u59, u60, u61, u62, u63, u64, u65, u66, u67, u68, u69, u70, u71, u72, u73, u74, u75, u76, u77, u78, u79, u80, u81, u82, u83, u84, u85, u86, u87, u88, u89, u90, u91, u92, u93, u94, u95, u96, u97, u98, u99, u100, u101, u102, u103, u104, u105, u106, u107, u108, u109, u110, u111, u112, u113, u114, u115, u116, u117, u118, .int .i64 m, u120, u121, u122, u123, u124, u125, u126, u127, u128, u129, u130, u131, u132, u133, u134, u135, u136, u137, u138, u139, u140, u141, u142, u143, u144, u145, u146, u147, u148, u149, u150, u151, u152, u153, u154, u155, u156, u157, u158, u159, u160, u161, u162, u163, u164, u165, u166, u167, u168, u169, u170, u171, u172, u173, u174, u175, u176, u177, u178, u179, u180, u181, u182, u183, u184, u185, u186, u187, u188, u189, u190, u191], []⟩ W := by
  have HM := Lib.hid (ss_in hk.out m)
  have m0 : (0 : Int) ≤ (m : Int) := by omega
  have m1 : (m : Int) < 3 := by omega
  conv => arg 2; whnf
  dsimp only
  go_cut [9, 10, 11, 12, 13, 15] from 121 to 189 (fun v9 v10 v11 v12 v13 v15 wc => ∃ (n' : Nat) (a' : Option Addr) (c' : Nat) (R' : List Ent), Hid ((stepsK (k.ss m).l).length = n') ∧ Hid (Row R' 59 2 a' n' c' (pcs (stepsK (k.ss m).l))) ∧ Hid (Sts w (Heads k g1 g2 g3 L N (updS S m ⟨a', n', c'⟩ 0) (updS S m ⟨a', n', c'⟩ 1) (updS S m ⟨a', n', c'⟩ 2) ++ (R' ++ O)) wc))
  case rest => exact hK _ _ _ _ _ _ _ _ _ _ _ _ _ _ _ _ _ _ _ _ _ _ _ _ _ _ _ _ _ _ _ _ _ _ _ _ _ _ _ _ _ _ _ _ _ _ _ _ _ _ _ _ _ _ _ _ _ _ _ _ _ _ _ _ _ _ _ _ _ _ _ _ _ _ _ _ hcut
  case first =>
    clear hK
    go_wp2_with fail
    go_loopw [10, 11] (fun v10 v11 wr => ∃ (i n : Nat) (a : Option Addr) (c : Nat) (R : List Ent), i ≤ 12 ∧ i ≤ (k.ss m).n ∧ v10 = .slice a n c ∧ v11 = .int .i64 i ∧ n ≤ i ∧ Hid ((foldK (k.ss m).l i).length = n) ∧ Hid (Row R 59 2 a n c (pcs (foldK (k.ss m).l i))) ∧ Hid (Sts w (Heads k g1 g2 g3 L N (S 0) (S 1) (S 2) ++ (R ++ O)) wr)) (fun v10 v11 _ => 12 - (intOf v11).toNat)
    case atStart => exact ⟨0, 0, none, 0, [], by omega, by omega, rfl, rfl, by omega, Lib.hid rfl, Lib.hid (Row.nil _ _), HS⟩
    case round =>
      obtain ⟨i, n, a, c, R, i12, iN, rfl, rfl, hn, HL, HR, HS'⟩ := hrel
      clear HS
      have c17 := HS'.out.cell 0 (17 + m) rfl (ss_cell k m hm)
      by_cases q1 : i < (k.ss m).n ∧ i < 12
      · obtain ⟨q2, q3⟩ := q1
        have b0 : decide (i < (k.ss m).n) = true := decide_eq_true q2
        have b1 : decide ((i : Int) < 12) = true := decide_eq_true (by omega)
        go_upto_block 7 with fail
        refine step_round k w hk g1 g2 g3 m hm i q3 q2 n hn a c L N (S 0) (S 1) (S 2) R O _ HL HR HS' _ _ _ _ _ _ _ _ _ _ _ _ _ _ _ _ _ _ _ _ _ _ _ _ _ _ _ _ _ _ _ _ _ _ _ _ _ _ _ _ _ _ _ _ _ _ _ _ _ _ _ _ _ _ _ _ _ _ _ _ _ _ _ _ _ _ _ _ _ _ _ _ _ _ _ _ _ _ _ _ _ _ _ _ _ _ _ _ _ _ _ _ _ _ _ _ _ _ _ _ _ _ _ _ _ _ _ _ _ _ _ _ _ _ _ _ _ _ _ _ _ _ _ _ _ _ _ _ _ _ _ _ _ _ _ _ _ _ _ _ _ _ _ _ _ _ _ _ _ _ _ _ _ _ _ _ _ _ _ _ _ _ _ _ _ _ _ _ _ _ _ _ _ _ _ _ _ _ _ _ _ _ _ _ _ _ _ ?_
        intro v10 v12 v13 v15 v135 v136 v137 v138 v139 v140 v141 v142 v143 v144 v145 v146 v147 v148 v149 v150 v151 v152 v153 v154 v155 v156 v157 v158 v159 v160 v161 v162 v163 v164 v165 v166 v167 v168 v169 v170 v171 v172 v173 v174 v175 wc hcut
        obtain ⟨n', a', c', R', rfl, hn', HL', HR', HS2⟩ := hcut
        clear HL HR HS' c17 b0 b1
        dsimp only
        go_wp2_with fail
        go_roundw
        case rel => exact ⟨i + 1, n', a', c', R', by omega, by omega, rfl, by go_num, hn', HL', HR', HS2⟩
        case measure => simp [intOf]; omega
      · have hmin : i = min (k.ss m).n 12 := by omega
        have HF := Lib.hid (foldK_full HM.out.length hmin)
        by_cases q2 : i < (k.ss m).n
        · have b0 : decide (i < (k.ss m).n) = true := decide_eq_true q2
          have b1 : decide ((i : Int) < 12) = false := decide_eq_false (by omega)
          clear q1 q2 hmin
          go_upto_if 178 with fail
          clear b0 c17
          go_cut [10] from 179 to 185 (fun v10 wc => ∃ (n' : Nat) (a' : Option Addr) (c' : Nat) (R' : List Ent), v10 = .slice a' n' c' ∧ Hid ((stepsK (k.ss m).l).length = n') ∧ Hid (Row R' 59 2 a' n' c' (pcs (stepsK (k.ss m).l))) ∧ Hid (Sts w (Heads k g1 g2 g3 L N (S 0) (S 1) (S 2) ++ (R' ++ O)) wc))
          case first =>
            by_cases hn0 : n = 0
            · subst hn0
              have hst : stepsK (k.ss m).l = dflt := by unfold stepsK; rw [← HF.out, if_pos HL.out]
              have HST := Lib.hid hst
              clear hst
              have hz := HS'.out.sub (L' := Heads k g1 g2 g3 L N (S 0) (S 1) (S 2) ++ O) (by simp)
              have HZ := Lib.hid (hz.ins (g := wr.heap.size) (Heads k g1 g2 g3 L N (S 0) (S 1) (S 2)) O rfl #[.int .i64 1, .int .i64 0, .int .i64 3, .int .i64 0, .int .i64 3, .int .i64 1, .int .i64 4, .int .i64 0, .int .i64 2, .int .i64 0, .int .i64 6, .int .i64 0] 59)
              clear hz
              go_wp2_with fail
              go_meet
              exact ⟨6, some ⟨wr.heap.size, 0, none⟩, 6, [(wr.heap.size, _, 59)], rfl, by rw [HST.out]; exact Lib.hid rfl, by rw [HST.out]; exact Lib.hid (dflt_row _ _), HZ⟩
            · have hst : stepsK (k.ss m).l = foldK (k.ss m).l i := by unfold stepsK; rw [← HF.out, if_neg (by rw [HL.out]; exact hn0)]
              have HST := Lib.hid hst
              clear hst
              have t0 : ((n : Int) == 0) = false := beq_eq_false_iff_ne.2 (by omega)
              have t1 : (n == 0) = false := beq_eq_false_iff_ne.2 hn0
              go_wp2_with fail
              go_meet
              exact ⟨n, a, c, R, rfl, by rw [HST.out]; exact HL, by rw [HST.out]; exact HR, HS'⟩
          case rest =>
            obtain ⟨n', a', c', R', rfl, HL2, HR2, HS2⟩ := hcut
            clear HS' HL HR HF
            have f0 := HS2.out.frozen 2 (15 + m) rfl
            have e0 := HS2.out.cell 2 (15 + m) rfl (ds_cell k L N S m hm)
            go_wp2_with fail
            go_meet
            exact ⟨n', a', c', R', HL2, HR2, Lib.hid ((HS2.out.set 2 (15 + m) (.slice a' n' c') rfl).lit (by rw [show Value.slice a' n' c' = Sl.v ⟨a', n', c'⟩ from rfl, ds_upd k L N S m hm]; rfl))⟩
        · have b0 : decide (i < (k.ss m).n) = false := decide_eq_false q2
          clear q1 q2 hmin
          go_upto_if 178 with fail
          clear b0 c17
          go_cut [10] from 179 to 185 (fun v10 wc => ∃ (n' : Nat) (a' : Option Addr) (c' : Nat) (R' : List Ent), v10 = .slice a' n' c' ∧ Hid ((stepsK (k.ss m).l).length = n') ∧ Hid (Row R' 59 2 a' n' c' (pcs (stepsK (k.ss m).l))) ∧ Hid (Sts w (Heads k g1 g2 g3 L N (S 0) (S 1) (S 2) ++ (R' ++ O)) wc))
          case first =>
            by_cases hn0 : n = 0
            · subst hn0
              have hst : stepsK (k.ss m).l = dflt := by unfold stepsK; rw [← HF.out, if_pos HL.out]
              have HST := Lib.hid hst
              clear hst
              have hz := HS'.out.sub (L' := Heads k g1 g2 g3 L N (S 0) (S 1) (S 2) ++ O) (by simp)
              have HZ := Lib.hid (hz.ins (g := wr.heap.size) (Heads k g1 g2 g3 L N (S 0) (S 1) (S 2)) O rfl #[.int .i64 1, .int .i64 0, .int .i64 3, .int .i64 0, .int .i64 3, .int .i64 1, .int .i64 4, .int .i64 0, .int .i64 2, .int .i64 0, .int .i64 6, .int .i64 0] 59)
              clear hz
              go_wp2_with fail
              go_meet
              exact ⟨6, some ⟨wr.heap.size, 0, none⟩, 6, [(wr.heap.size, _, 59)], rfl, by rw [HST.out]; exact Lib.hid rfl, by rw [HST.out]; exact Lib.hid (dflt_row _ _), HZ⟩
            · have hst : stepsK (k.ss m).l = foldK (k.ss m).l i := by unfold stepsK; rw [← HF.out, if_neg (by rw [HL.out]; exact hn0)]
              have HST := Lib.hid hst
              clear hst
              have t0 : ((n : Int) == 0) = false := beq_eq_false_iff_ne.2 (by omega)
              have t1 : (n == 0) = false := beq_eq_false_iff_ne.2 hn0
              go_wp2_with fail
              go_meet
              exact ⟨n, a, c, R, rfl, by rw [HST.out]; exact HL, by rw [HST.out]; exact HR, HS'⟩
          case rest =>
            obtain ⟨n', a', c', R', rfl, HL2, HR2, HS2⟩ := hcut
            clear HS' HL HR HF
            have f0 := HS2.out.frozen 2 (15 + m) rfl
            have e0 := HS2.out.cell 2 (15 + m) rfl (ds_cell k L N S m hm)
            go_wp2_with fail
            go_meet
            exact ⟨n', a', c', R', HL2, HR2, Lib.hid ((HS2.out.set 2 (15 + m) (.slice a' n' c') rfl).lit (by rw [show Value.slice a' n' c' = Sl.v ⟨a', n', c'⟩ from rfl, ds_upd k L N S m hm]; rfl))⟩
end Go.Proofs.Yticddmmbphoioaa

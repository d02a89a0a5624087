import Derived.Test.YticddmmbphoioaaModeL
import Derived.Deep.RegionHeld3
import Derived.Sort.BigQuietIn
namespace Go.Proofs.Yticddmmbphoioaa
open Go.RowKit
set_option linter.unusedVariables false
set_option linter.unusedSimpArgs false
/-! ### The deal's steps: all -/
/-- Among the blocks of O lies the row of a slice. -/
def Holds (O : List Ent) (e : TypeId) (size : Nat) (s : Sl) (xs : List Value) : Prop := ∃ A R B, O = A ++ (R ++ B) ∧ Row R e size s.a s.n s.c xs
theorem Holds.more {O : List Ent} {e : TypeId} {size : Nat} {s : Sl} {xs : List Value} (P : List Ent) (h : Holds O e size s xs) : Holds (P ++ O) e size s xs := by
  obtain ⟨A, R, B, rfl, hR⟩ := h
  exact ⟨P ++ A, R, B, by simp, hR⟩
theorem Holds.here {R O : List Ent} {e : TypeId} {size : Nat} {s : Sl} {xs : List Value} (h : Row R e size s.a s.n s.c xs) : Holds (R ++ O) e size s xs := ⟨[], R, O, by simp, h⟩
theorem Holds.src {w0 W : World} {H O : List Ent} {e : TypeId} {size : Nat} {s : Sl} {xs : List Value} (h : Holds O e size s xs) (hS : Sts w0 (H ++ O) W) : Src W s.a s.n size xs := by
  obtain ⟨A, R, B, rfl, hR⟩ := h
  exact hR.src (H ++ A) B (hS.lit (by simp))
theorem updS_self (S : Nat → Sl) (m : Nat) (s : Sl) : updS S m s m = s := if_pos rfl
theorem updS_other (S : Nat → Sl) {m j : Nat} (s : Sl) (h : j ≠ m) : updS S m s j = S j := if_neg h
set_option maxHeartbeats 32000000 in
set_option maxRecDepth 1000000 in
theorem steps_piece (k : Kd) (w : World) (hk : Hid (k.In w)) (g1 g2 g3 : Nat) (L N : Sl) (O : List Ent) (W : World) (HS : Hid (Sts w (Heads k g1 g2 g3 L N nilS nilS nilS ++ O) W)) (u4 u5 u6 u7 u8 u9 u10 u11 u12 u13 u14 u15 u16 u17 u18 u19 u20 u21 u22 u23 u24 u25 u26 u27 u28 u29 u30 u31 u32 u33 u34 u35 u36 u37 u38 u39 u40 u41 u42 u43 u44 u45 u46 u47 u48 u49 u50 u51 u52 u53 u54 u55 u56 u57 u58 u59 u60 u61 u62 u63 u64 u65 u66 u67 u68 u69 u70 u71 u72 u73 u74 u75 u76 u77 u78 u79 u80 u81 u82 u83 u84 u85 u86 u87 u88 u89 u90 u91 u92 u93 u94 u95 u96 u97 u98 u99 u100 u101 u102 u103 u104 u105 u106 u107 u108 u109 u110 u111 u112 u113 u114 u115 u116 u117 u118 u120 u121 u122 u123 u124 u125 u126 u127 u128 u129 u130 u131 u132 u133 u134 u135 u136 u137 u138 u139 u140 u141 u142 u143 u144 u145 u146 u147 u148 u149 u150 u151 u152 u153 u154 u155 u156 u157 u158 u159 u160 u161 u162 u163 u164 u165 u166 u167 u168 u169 u170 u171 u172 u173 u174 u175 u176 u177 u178 u179 u180 u181 u182 u183 u184 u185 u186 u187 u188 u189 u190 u191 : Value) (K : Act → World → Prop) (Q1 : Exit → Act → World → Prop)
    (hK : ∀ (v9 v10 v11 v12 v13 v15 v119 v120 v121 v122 v123 v124 v125 v126 v127 v128 v129 v130 v131 v132 v133 v134 v135 v136 v137 v138 v139 v140 v141 v142 v143 v144 v145 v146 v147 v148 v149 v150 v151 v152 v153 v154 v155 v156 v157 v158 v159 v160 v161 v162 v163 v164 v165 v166 v167 v168 v169 v170 v171 v172 v173 v174 v175 v176 v177 v178 v179 v180 v181 v182 v183 v184 v185 v186 v187 v188 v189 v190 : Value) (wc : World), (∃ (S : Nat → Sl) (P : List Ent), Hid (∀ j, j < 3 → Holds (P ++ O) 59 2 (S j) (pcs (stepsK (k.ss j).l)) ∧ (stepsK (k.ss j).l).length = (S j).n) ∧ Hid (Sts w (Heads k g1 g2 g3 L N (S 0) (S 1) (S 2) ++ (P ++ O)) wc)) → K ⟨#[.agg k.cs, .pointer (some ⟨g1, 0, none⟩), .pointer (some ⟨g2, 0, none⟩), .pointer (some ⟨g3, 0, none⟩), u4, u5, u6, u7, u8, v9, v10, v11, v12, v13, u14, v15, u16, u17, u18, u19, u20, u21, u22, u23, u24, u25, u26, u27, u28, u29, u30, u31, u32, u33, u34, u35, u36, u37, u38, u39, u40, u41, u42, u43, u44, u45, u46, u47, u48, u49, u50, u51, u52, u53, u54, u55, u56, u57, u58, u59, u60, u61, u62, u63, u64, u65, u66, u67, u68, u69, u70, u71, u72, u73, u74, u75, u76, u77, u78, u79, u80, u81, u82, u83, u84, u85, u86, u87, u88, u89, u90, u91, u92, u93, u94, u95, u96, u97, u98, u99, u100, u101, u102, u103, u104, u105, u106, u107, u108, u109, u110, u111, u112, u113, u114, u115, u116, u117, u118, v119, v120, v121, v122, v123, v124, v125, v126, v127, v128, v129, v130, v131, v132, v133, v134, v135, v136, v137, v138, v139, v140, v141, v142, v143, v144, v145, v146, v147, v148, v149, v150, v151, v152, v153, v154, v155, v156, v157, v158, v159, v160, v161, v162, v163, v164, v165, v166, v167, v168, v169, v170, v171, v172, v173, v174, v175, v176, v177, v178, v179, v180, v181, v182, v183, v184, v185, v186, v187, v188, v189, v190, u191], []⟩ wc) :
    Code.wp Try.prog ((Try.f24.body.bind (blockAt 4)).getD .skip) (Exit.then K Q1) ⟨#[.agg k.cs, .pointer (some ⟨g1, 0, none⟩), .pointer (some ⟨g2, 0, none⟩), .pointer (some ⟨g3, 0, none⟩), u4, u5, u6, u7, u8, u9, u10, u11, u12, u13, u14, u15, u16, u17, u18, u19, u20, u21, u22, u23, u24, u25, u26, u27, u28, u29, u30, u31, u32, u33, u34, u35, u36, u37, u38, u39, u40, u41, u42, u43, u44, u45, u46, u47, u48, u49, u50, u51, u52, u53, u54, u55, u56, u57, u58, u59, u60, u61, u62, u63, u64, u65, u66, u67, u68, u69, u70, u71, u72, u73, u74, u75, u76, u77, u78, u79, u80, u81, u82, u83, u84, u85, u86, u87, u88, u89, u90, u91, u92, u93, u94, u95, u96, u97, u98, u99, u100, u101, u102, u103, u104, u105, u106, u107, u108, u109, u110, u111, u112, u113, u114, u115, u116, u117, u118, .int .i64 0, u120, u121, u122, u123, u124, u125, u126, u127, u128, u129, u130, u131, u132, u133, u134, u135, u136, u137, u138, u139, u140, u141, u142, u143, u144, u145, u146, u147, u148, u149, u150, u151, u152, u153, u154, u155, u156, u157, u158, u159, u160, u161, u162, u163, u164, u165, u166, u167, u168, u169, u170, u171, u172, u173, u174, u175, u176, u177, u178, u179, u180, u181, u182, u183, u184, u185, u186, u187, u188, u189, u190, u191], []⟩ W := by
  conv => arg 2; whnf
  dsimp only
  go_cut [9, 10, 11, 12, 13, 15] from 119 to 190 (fun v9 v10 v11 v12 v13 v15 wc => ∃ (S : Nat → Sl) (P : List Ent), Hid (∀ j, j < 3 → Holds (P ++ O) 59 2 (S j) (pcs (stepsK (k.ss j).l)) ∧ (stepsK (k.ss j).l).length = (S j).n) ∧ Hid (Sts w (Heads k g1 g2 g3 L N (S 0) (S 1) (S 2) ++ (P ++ O)) wc))
  case rest => exact hK _ _ _ _ _ _ _ _ _ _ _ _ _ _ _ _ _ _ _ _ _ _ _ _ _ _ _ _ _ _ _ _ _ _ _ _ _ _ _ _ _ _ _ _ _ _ _ _ _ _ _ _ _ _ _ _ _ _ _ _ _ _ _ _ _ _ _ _ _ _ _ _ _ _ _ _ _ _ _ hcut
  case first =>
    clear hK
    go_wp2_with fail
    go_loopw [119] (fun v119 wr => ∃ (m : Nat) (S : Nat → Sl) (P : List Ent), m ≤ 3 ∧ v119 = .int .i64 m ∧ Hid (∀ j, j < m → Holds (P ++ O) 59 2 (S j) (pcs (stepsK (k.ss j).l)) ∧ (stepsK (k.ss j).l).length = (S j).n) ∧ Hid (Sts w (Heads k g1 g2 g3 L N (S 0) (S 1) (S 2) ++ (P ++ O)) wr)) (fun v119 _ => 3 - (intOf v119).toNat)
    case atStart => exact ⟨0, fun _ => nilS, [], by omega, rfl, Lib.hid (fun j h => absurd h (by omega)), HS⟩
    case round =>
      obtain ⟨m, S, P, m3, rfl, HH, HS'⟩ := hrel
      clear HS
      by_cases q1 : m < 3
      · have b1 : decide ((m : Int) < 3) = true := decide_eq_true (by omega)
        go_upto_block 5 with fail
        refine mode_round k w hk g1 g2 g3 m q1 L N S (P ++ O) _ HS' _ _ _ _ _ _ _ _ _ _ _ _ _ _ _ _ _ _ _ _ _ _ _ _ _ _ _ _ _ _ _ _ _ _ _ _ _ _ _ _ _ _ _ _ _ _ _ _ _ _ _ _ _ _ _ _ _ _ _ _ _ _ _ _ _ _ _ _ _ _ _ _ _ _ _ _ _ _ _ _ _ _ _ _ _ _ _ _ _ _ _ _ _ _ _ _ _ _ _ _ _ _ _ _ _ _ _ _ _ _ _ _ _ _ _ _ _ _ _ _ _ _ _ _ _ _ _ _ _ _ _ _ _ _ _ _ _ _ _ _ _ _ _ _ _ _ _ _ _ _ _ _ _ _ _ _ _ _ _ _ _ _ _ _ _ _ _ _ _ _ _ _ _ _ _ _ _ _ _ _ _ _ _ _ _ _ _ _ _ ?_
        intro v9 v10 v11 v12 v13 v15 v121 v122 v123 v124 v125 v126 v127 v128 v129 v130 v131 v132 v133 v134 v135 v136 v137 v138 v139 v140 v141 v142 v143 v144 v145 v146 v147 v148 v149 v150 v151 v152 v153 v154 v155 v156 v157 v158 v159 v160 v161 v162 v163 v164 v165 v166 v167 v168 v169 v170 v171 v172 v173 v174 v175 v176 v177 v178 v179 v180 v181 v182 v183 v184 v185 v186 v187 v188 v189 wc hcut
        obtain ⟨n', a', c', R', HL2, HR2, HS2⟩ := hcut
        clear HS' b1
        have hh : ∀ j, j < m + 1 → Holds ((R' ++ P) ++ O) 59 2 (updS S m ⟨a', n', c'⟩ j) (pcs (stepsK (k.ss j).l)) ∧ (stepsK (k.ss j).l).length = (updS S m ⟨a', n', c'⟩ j).n := by
          intro j hj
          by_cases hjm : j = m
          · subst hjm
            rw [updS_self, List.append_assoc]
            exact ⟨Holds.here (s := ⟨a', n', c'⟩) HR2.out, HL2.out⟩
          · rw [updS_other S _ hjm, List.append_assoc]
            obtain ⟨x, y⟩ := HH.out j (by omega)
            exact ⟨x.more R', y⟩
        have HH2 := Lib.hid hh
        have HS3 := Lib.hid (HS2.out.lit (L' := Heads k g1 g2 g3 L N (updS S m ⟨a', n', c'⟩ 0) (updS S m ⟨a', n', c'⟩ 1) (updS S m ⟨a', n', c'⟩ 2) ++ ((R' ++ P) ++ O)) (by simp))
        clear hh HH HL2 HR2 HS2
        generalize updS S m ⟨a', n', c'⟩ = S' at *
        dsimp only
        go_wp2_with fail
        go_roundw
        case rel => exact ⟨m + 1, S', R' ++ P, by omega, by go_num, HH2, HS3⟩
        case measure => simp [intOf]; omega
      · obtain rfl : m = 3 := by omega
        have b1 : decide (((3 : Nat) : Int) < 3) = false := by decide
        go_wp2_with fail
        go_meet
        exact ⟨S, P, HH, HS'⟩
end Go.Proofs.Yticddmmbphoioaa

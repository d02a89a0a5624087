import Derived.Test.YticddmmbphoioaaModeM
import Derived.Test.YticddmmbphoioaaModeJ
import Derived.Deep.RegionHeld3
import Derived.Sort.BigQuietIn
namespace Go.Proofs.Yticddmmbphoioaa
open Go.RowKit
set_option linter.unusedVariables false
set_option linter.unusedSimpArgs false
/-! ### The deal's notes: all -/
set_option maxHeartbeats 32000000 in
set_option maxRecDepth 1000000 in
theorem notes_piece (k : Kd) (w : World) (hk : Hid (k.In w)) (g1 g2 g3 : Nat) (pool : Int) (p0 : 0 ≤ pool) (p1 : pool ≤ 10000000) (L S0 S1 S2 : Sl) (RL : List Ent) (W : World) (HS0 : Hid (Sts w (Heads k g1 g2 g3 L nilS S0 S1 S2 ++ RL) W)) (u5 u6 u8 u9 u10 u11 u12 u13 u14 u15 u16 u17 u18 u19 u20 u21 u22 u23 u24 u25 u26 u27 u28 u29 u30 u31 u32 u33 u34 u35 u36 u37 u38 u39 u40 u41 u42 u43 u44 u45 u46 u47 u48 u49 u50 u51 u52 u53 u54 u55 u56 u57 u58 u59 u60 u61 u62 u63 u64 u65 u66 u67 u68 u69 u70 u71 u72 u73 u74 u75 u76 u77 u78 u79 u80 u81 u82 u83 u84 u85 u86 u87 u88 u89 u90 u91 u92 u93 u94 u95 u96 u97 u98 u99 u100 u101 u102 u103 u104 u105 u106 u107 u108 u109 u110 u111 u112 u113 u114 u115 u116 u117 u118 u119 u120 u121 u122 u123 u124 u125 u126 u127 u128 u129 u130 u131 u132 u133 u134 u135 u136 u137 u138 u139 u140 u141 u142 u143 u144 u145 u146 u147 u148 u149 u150 u151 u152 u153 u154 u155 u156 u157 u158 u159 u160 u161 u162 u163 u164 u165 u166 u167 u168 u169 u170 u171 u172 u173 u174 u175 u176 u177 u178 u179 u180 u181 u182 u183 u184 u185 u186 u187 u188 u189 u190 u191 : Value) (K : Act → World → Prop) (Q1 : Exit → Act → World → Prop)
    (hK : ∀ (v7 v8 v82 v83 v84 v85 v86 v87 v88 v89 v90 v91 v92 v93 v94 v95 v96 v97 v98 v99 v100 v101 v102 v103 v104 v105 v106 v107 v108 v109 v110 v111 v112 v113 v114 v115 v116 v117 v118 : Value) (wc : World), (∃ (m : Nat) (Na : Option Addr) (Nc : Nat) (RN : List Ent), m ≤ 5 ∧ Hid (k.no.n < 1000000000000000000 → m = min (1 + k.no.n) 5) ∧ Hid (Row RN 78 3 Na m Nc (tcs (notesN k pool m))) ∧ Hid (Sts w (Heads k g1 g2 g3 L ⟨Na, m, Nc⟩ S0 S1 S2 ++ (RN ++ RL)) wc)) → K ⟨#[.agg k.cs, .pointer (some ⟨g1, 0, none⟩), .pointer (some ⟨g2, 0, none⟩), .pointer (some ⟨g3, 0, none⟩), .int .i64 pool, u5, u6, v7, v8, u9, u10, u11, u12, u13, u14, u15, u16, u17, u18, u19, u20, u21, u22, u23, u24, u25, u26, u27, u28, u29, u30, u31, u32, u33, u34, u35, u36, u37, u38, u39, u40, u41, u42, u43, u44, u45, u46, u47, u48, u49, u50, u51, u52, u53, u54, u55, u56, u57, u58, u59, u60, u61, u62, u63, u64, u65, u66, u67, u68, u69, u70, u71, u72, u73, u74, u75, u76, u77, u78, u79, u80, u81, v82, v83, v84, v85, v86, v87, v88, v89, v90, v91, v92, v93, v94, v95, v96, v97, v98, v99, v100, v101, v102, v103, v104, v105, v106, v107, v108, v109, v110, v111, v112, v113, v114, v115, v116, v117, v118, u119, u120, u121, u122, u123, u124, u125, u126, u127, u128, u129, u130, u131, u132, u133, u134, u135, u136, u137, u138, u139, u140, u141, u142, u143, u144, u145, u146, u147, u148, u149, u150, u151, u152, u153, u154, u155, u156, u157, u158, u159, u160, u161, u162, u163, u164, u165, u166, u167, u168, u169, u170, u171, u172, u173, u174, u175, u176, u177, u178, u179, u180, u181, u182, u183, u184, u185, u186, u187, u188, u189, u190, u191], []⟩ wc) :
    Code.wp Try.prog ((Try.f24.body.bind (blockAt 2)).getD .skip) (Exit.then K Q1) ⟨#[.agg k.cs, .pointer (some ⟨g1, 0, none⟩), .pointer (some ⟨g2, 0, none⟩), .pointer (some ⟨g3, 0, none⟩), .int .i64 pool, u5, u6, .int .i64 0, u8, u9, u10, u11, u12, u13, u14, u15, u16, u17, u18, u19, u20, u21, u22, u23, u24, u25, u26, u27, u28, u29, u30, u31, u32, u33, u34, u35, u36, u37, u38, u39, u40, u41, u42, u43, u44, u45, u46, u47, u48, u49, u50, u51, u52, u53, u54, u55, u56, u57, u58, u59, u60, u61, u62, u63, u64, u65, u66, u67, u68, u69, u70, u71, u72, u73, u74, u75, u76, u77, u78, u79, u80, u81, u82, u83, u84, u85, u86, u87, u88, u89, u90, u91, u92, u93, u94, u95, u96, u97, u98, u99, u100, u101, u102, u103, u104, u105, u106, u107, u108, u109, u110, u111, u112, u113, u114, u115, u116, u117, u118, u119, u120, u121, u122, u123, u124, u125, u126, u127, u128, u129, u130, u131, u132, u133, u134, u135, u136, u137, u138, u139, u140, u141, u142, u143, u144, u145, u146, u147, u148, u149, u150, u151, u152, u153, u154, u155, u156, u157, u158, u159, u160, u161, u162, u163, u164, u165, u166, u167, u168, u169, u170, u171, u172, u173, u174, u175, u176, u177, u178, u179, u180, u181, u182, u183, u184, u185, u186, u187, u188, u189, u190, u191], []⟩ W := by
  have n1 := hk.out.no.most
  conv => arg 2; whnf
  dsimp only
  go_cut [7, 8] from 82 to 118 (fun v7 v8 wc => ∃ (m : Nat) (Na : Option Addr) (Nc : Nat) (RN : List Ent), m ≤ 5 ∧ Hid (k.no.n < 1000000000000000000 → m = min (1 + k.no.n) 5) ∧ Hid (Row RN 78 3 Na m Nc (tcs (notesN k pool m))) ∧ Hid (Sts w (Heads k g1 g2 g3 L ⟨Na, m, Nc⟩ S0 S1 S2 ++ (RN ++ RL)) wc))
  case rest => exact hK _ _ _ _ _ _ _ _ _ _ _ _ _ _ _ _ _ _ _ _ _ _ _ _ _ _ _ _ _ _ _ _ _ _ _ _ _ _ _ _ hcut
  case first =>
    clear hK
    go_wp2_with fail
    go_loopw [7] (fun v7 wr => ∃ (i : Nat) (Na : Option Addr) (Nc : Nat) (RN : List Ent), i ≤ 5 ∧ Hid (k.no.n < 1000000000000000000 → i ≤ 1 + k.no.n) ∧ v7 = .int .i64 i ∧ Hid (Row RN 78 3 Na i Nc (tcs (notesN k pool i))) ∧ Hid (Sts w (Heads k g1 g2 g3 L ⟨Na, i, Nc⟩ S0 S1 S2 ++ (RN ++ RL)) wr)) (fun v7 _ => 5 - (intOf v7).toNat)
    case atStart => exact ⟨0, none, 0, [], by omega, Lib.hid (fun _ => by omega), rfl, Lib.hid (Row.nil _ _), HS0⟩
    case round =>
      obtain ⟨i, Na, Nc, RN, i5, I6, rfl, HR, HS⟩ := hrel
      clear HS0
      have c14 := HS.out.cell 0 14 rfl (v := .slice k.no.a k.no.n k.no.c) rfl
      by_cases q1 : (i : Int) < wrap64 (1 + (k.no.n : Int)) ∧ (i : Int) < 5
      · obtain ⟨q2, q3⟩ := q1
        have b0 : decide ((i : Int) < wrap64 (1 + (k.no.n : Int))) = true := decide_eq_true q2
        have b1 : decide ((i : Int) < 5) = true := decide_eq_true q3
        have hi1 : k.no.n < 1000000000000000000 → i + 1 ≤ 1 + k.no.n := by
          intro h
          have hwr : wrap64 (1 + (k.no.n : Int)) = 1 + (k.no.n : Int) := IntWalk.wrap64_in _ (by omega)
          rw [hwr] at q2
          omega
        have HI1 := Lib.hid hi1
        clear hi1
        go_upto_block 3 with fail
        refine note_round k w hk g1 g2 g3 pool p0 p1 i (by omega) Na Nc L S0 S1 S2 RN RL _ HR HS _ _ _ _ _ _ _ _ _ _ _ _ _ _ _ _ _ _ _ _ _ _ _ _ _ _ _ _ _ _ _ _ _ _ _ _ _ _ _ _ _ _ _ _ _ _ _ _ _ _ _ _ _ _ _ _ _ _ _ _ _ _ _ _ _ _ _ _ _ _ _ _ _ _ _ _ _ _ _ _ _ _ _ _ _ _ _ _ _ _ _ _ _ _ _ _ _ _ _ _ _ _ _ _ _ _ _ _ _ _ _ _ _ _ _ _ _ _ _ _ _ _ _ _ _ _ _ _ _ _ _ _ _ _ _ _ _ _ _ _ _ _ _ _ _ _ _ _ _ _ _ _ _ _ _ _ _ _ _ _ _ _ _ _ _ _ _ _ _ _ _ _ _ _ _ _ _ _ _ _ _ _ _ _ _ _ _ _ ?_
        intro v8 v94 v95 v96 v97 v98 v99 v100 v101 v102 v103 v104 v105 v106 v107 v108 v109 v110 v111 v112 v113 v114 v115 v116 v117 v118 wc hcut
        obtain ⟨Na', Nc', RN', HR', HS'⟩ := hcut
        clear c14 b0 b1 q2 HR HS n1 I6
        dsimp only
        go_wp2_with fail
        go_roundw
        case rel => exact ⟨i + 1, Na', Nc', RN', by omega, HI1, by go_num, HR', HS'⟩
        case measure => simp [intOf]; omega
      · have hend : k.no.n < 1000000000000000000 → i = min (1 + k.no.n) 5 := by
          intro h
          have h6 := I6.out h
          have hwr : wrap64 (1 + (k.no.n : Int)) = 1 + (k.no.n : Int) := IntWalk.wrap64_in _ (by omega)
          rw [hwr] at q1
          omega
        have HE := Lib.hid hend
        clear hend
        by_cases q2 : (i : Int) < wrap64 (1 + (k.no.n : Int))
        · have b0 : decide ((i : Int) < wrap64 (1 + (k.no.n : Int))) = true := decide_eq_true q2
          have b1 : decide ((i : Int) < 5) = false := decide_eq_false (fun h => q1 ⟨q2, h⟩)
          go_wp2_with fail
          go_meet
          exact ⟨i, Na, Nc, RN, i5, HE, HR, HS⟩
        · have b0 : decide ((i : Int) < wrap64 (1 + (k.no.n : Int))) = false := decide_eq_false q2
          go_wp2_with fail
          go_meet
          exact ⟨i, Na, Nc, RN, i5, HE, HR, HS⟩
end Go.Proofs.Yticddmmbphoioaa

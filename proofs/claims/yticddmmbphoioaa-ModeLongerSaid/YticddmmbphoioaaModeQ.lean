import Derived.Test.YticddmmbphoioaaModeP
import Derived.Deep.RegionHeld3
import Derived.Sort.BigQuietIn
namespace Go.Proofs.Yticddmmbphoioaa
open Go.RowKit
set_option linter.unusedVariables false
set_option linter.unusedSimpArgs false
/-! ### The deal's numbers -/
set_option maxHeartbeats 32000000 in
set_option maxRecDepth 1000000 in
theorem deal_head (k : Kd) (w : World) (hk : Hid (k.In w)) (g1 g2 : Nat) (w1 : World) (HS1 : Hid (Sts w ([(g1, k.cs, 44), (g2, z18, 54)]) w1)) (u3 u4 u5 u6 u7 u8 u9 u10 u11 u12 u13 u14 u15 u16 u17 u18 u19 u20 u21 u22 u23 u24 u25 u26 u27 u28 u29 u30 u31 u32 u33 u34 u35 u36 u37 u38 u39 u40 u41 u42 u43 u44 u45 u46 u47 u48 u49 u50 u51 u52 u53 u54 u55 u56 u57 u58 u59 u60 u61 u62 u63 u64 u65 u66 u67 u68 u69 u70 u71 u72 u73 u74 u75 u76 u77 u78 u79 u80 u81 u82 u83 u84 u85 u86 u87 u88 u89 u90 u91 u92 u93 u94 u95 u96 u97 u98 u99 u100 u101 u102 u103 u104 u105 u106 u107 u108 u109 u110 u111 u112 u113 u114 u115 u116 u117 u118 u119 u120 u121 u122 u123 u124 u125 u126 u127 u128 u129 u130 u131 u132 u133 u134 u135 u136 u137 u138 u139 u140 u141 u142 u143 u144 u145 u146 u147 u148 u149 u150 u151 u152 u153 u154 u155 u156 u157 u158 u159 u160 u161 u162 u163 u164 u165 u166 u167 u168 u169 u170 u171 u172 u173 u174 u175 u176 u177 u178 u179 u180 u181 u182 u183 u184 u185 u186 u187 u188 u189 u190 u191 : Value) (K : Act → World → Prop) (Q1 : Exit → Act → World → Prop)
    (hK : ∀ (v3 v16 v17 v18 v19 v20 v21 v22 v23 v24 v25 v26 v27 v28 v29 v30 v31 v32 v33 v34 v35 v36 v37 v38 v39 v40 : Value) (wc : World), (∃ g3 : Nat, v3 = .pointer (some ⟨g3, 0, none⟩) ∧ Hid (Sts w ([(g1, k.cs, 44), (g2, z18, 54), (g3, k.d0, 54)] ++ []) wc)) → K ⟨#[.agg k.cs, .pointer (some ⟨g1, 0, none⟩), .pointer (some ⟨g2, 0, none⟩), v3, u4, u5, u6, u7, u8, u9, u10, u11, u12, u13, u14, u15, v16, v17, v18, v19, v20, v21, v22, v23, v24, v25, v26, v27, v28, v29, v30, v31, v32, v33, v34, v35, v36, v37, v38, v39, v40, u41, u42, u43, u44, u45, u46, u47, u48, u49, u50, u51, u52, u53, u54, u55, u56, u57, u58, u59, u60, u61, u62, u63, u64, u65, u66, u67, u68, u69, u70, u71, u72, u73, u74, u75, u76, u77, u78, u79, u80, u81, u82, u83, u84, u85, u86, u87, u88, u89, u90, u91, u92, u93, u94, u95, u96, u97, u98, u99, u100, u101, u102, u103, u104, u105, u106, u107, u108, u109, u110, u111, u112, u113, u114, u115, u116, u117, u118, u119, u120, u121, u122, u123, u124, u125, u126, u127, u128, u129, u130, u131, u132, u133, u134, u135, u136, u137, u138, u139, u140, u141, u142, u143, u144, u145, u146, u147, u148, u149, u150, u151, u152, u153, u154, u155, u156, u157, u158, u159, u160, u161, u162, u163, u164, u165, u166, u167, u168, u169, u170, u171, u172, u173, u174, u175, u176, u177, u178, u179, u180, u181, u182, u183, u184, u185, u186, u187, u188, u189, u190, u191], []⟩ wc) :
    Code.wp Try.prog ((Try.f24.body.bind (regAt 1)).getD .skip) (Exit.then K Q1) ⟨#[.agg k.cs, .pointer (some ⟨g1, 0, none⟩), .pointer (some ⟨g2, 0, none⟩), u3, u4, u5, u6, u7, u8, u9, u10, u11, u12, u13, u14, u15, u16, u17, u18, u19, u20, u21, u22, u23, u24, u25, u26, u27, u28, u29, u30, u31, u32, u33, u34, u35, u36, u37, u38, u39, u40, u41, u42, u43, u44, u45, u46, u47, u48, u49, u50, u51, u52, u53, u54, u55, u56, u57, u58, u59, u60, u61, u62, u63, u64, u65, u66, u67, u68, u69, u70, u71, u72, u73, u74, u75, u76, u77, u78, u79, u80, u81, u82, u83, u84, u85, u86, u87, u88, u89, u90, u91, u92, u93, u94, u95, u96, u97, u98, u99, u100, u101, u102, u103, u104, u105, u106, u107, u108, u109, u110, u111, u112, u113, u114, u115, u116, u117, u118, u119, u120, u121, u122, u123, u124, u125, u126, u127, u128, u129, u130, u131, u132, u133, u134, u135, u136, u137, u138, u139, u140, u141, u142, u143, u144, u145, u146, u147, u148, u149, u150, u151, u152, u153, u154, u155, u156, u157, u158, u159, u160, u161, u162, u163, u164, u165, u166, u167, u168, u169, u170, u171, u172, u173, u174, u175, u176, u177, u178, u179, u180, u181, u182, u183, u184, u185, u186, u187, u188, u189, u190, u191], []⟩ w1 := by
  have c0 := HS1.out.cell 0 0 rfl (v := .int .i64 k.n0) rfl
  have c1 := HS1.out.cell 0 1 rfl (v := .int .i64 k.n1) rfl
  have c2 := HS1.out.cell 0 2 rfl (v := .int .i64 k.n2) rfl
  have c3 := HS1.out.cell 0 3 rfl (v := .int .i64 k.n3) rfl
  have c4 := HS1.out.cell 0 4 rfl (v := .int .i64 k.n4) rfl
  have c5 := HS1.out.cell 0 5 rfl (v := .int .i64 k.n5) rfl
  have c6 := HS1.out.cell 0 6 rfl (v := .int .i64 k.n6) rfl
  have c7 := HS1.out.cell 0 7 rfl (v := .int .i64 k.n7) rfl
  conv => arg 2; whnf
  dsimp only
  refine wp_only ?_
  clear hk
  go_region_held3 (fun w' => w'.cell? ⟨g1, 0, none⟩ = some (.int .i64 k.n0) ∧ w'.cell? ⟨g1, 1, none⟩ = some (.int .i64 k.n1) ∧ w'.cell? ⟨g1, 2, none⟩ = some (.int .i64 k.n2) ∧ w'.cell? ⟨g1, 3, none⟩ = some (.int .i64 k.n3) ∧ w'.cell? ⟨g1, 4, none⟩ = some (.int .i64 k.n4) ∧ w'.cell? ⟨g1, 5, none⟩ = some (.int .i64 k.n5) ∧ w'.cell? ⟨g1, 6, none⟩ = some (.int .i64 k.n6) ∧ w'.cell? ⟨g1, 7, none⟩ = some (.int .i64 k.n7)) (first | exact ⟨c0, c1, c2, c3, c4, c5, c6, c7⟩ | go_keep) ((go_at_call 13; refine (within_calls _ _ _ _ (by omega) (by omega) (by omega)).mono ?_; rintro e w' ⟨rfl, rfl⟩))
  all_goals exact hK _ _ _ _ _ _ _ _ _ _ _ _ _ _ _ _ _ _ _ _ _ _ _ _ _ _ _ ⟨w1.heap.size, rfl, Lib.hid ((HS1.out.add rfl _ _).drew)⟩
end Go.Proofs.Yticddmmbphoioaa

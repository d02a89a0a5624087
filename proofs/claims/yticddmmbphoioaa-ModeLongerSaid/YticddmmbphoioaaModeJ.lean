import Derived.Test.YticddmmbphoioaaModeM
import Derived.Test.YticddmmbphoioaaSegT
import Derived.Deep.RegionHeld3
import Derived.Sort.BigQuietIn
namespace Go.Proofs.Yticddmmbphoioaa
open Go.RowKit
set_option linter.unusedVariables false
set_option linter.unusedSimpArgs false
/-! ### The deal's notes -/
set_option maxHeartbeats 32000000 in
set_option maxRecDepth 1000000 in
theorem note_round (k : Kd) (w : World) (hk : Hid (k.In w)) (g1 g2 g3 : Nat) (pool : Int) (p0 : 0 ≤ pool) (p1 : pool ≤ 10000000) (i : Nat) (hi5 : i ≤ 4) (Na : Option Addr) (Nc : Nat) (L S0 S1 S2 : Sl) (RN RL : List Ent) (W : World) (HR : Hid (Row RN 78 3 Na i Nc (tcs (notesN k pool i)))) (HS : Hid (Sts w (Heads k g1 g2 g3 L ⟨Na, i, Nc⟩ S0 S1 S2 ++ (RN ++ RL)) W)) (u5 u6 u8 u9 u10 u11 u12 u13 u14 u15 u16 u17 u18 u19 u20 u21 u22 u23 u24 u25 u26 u27 u28 u29 u30 u31 u32 u33 u34 u35 u36 u37 u38 u39 u40 u41 u42 u43 u44 u45 u46 u47 u48 u49 u50 u51 u52 u53 u54 u55 u56 u57 u58 u59 u60 u61 u62 u63 u64 u65 u66 u67 u68 u69 u70 u71 u72 u73 u74 u75 u76 u77 u78 u79 u80 u81 u82 u83 u84 u85 u86 u87 u88 u89 u90 u91 u92 u93 u94 u95 u96 u97 u98 u99 u100 u101 u102 u103 u104 u105 u106 u107 u108 u109 u110 u111 u112 u113 u114 u115 u116 u117 u118 u119 u120 u121 u122 u123 u124 u125 u126 u127 u128 u129 u130 u131 u132 u133 u134 u135 u136 u137 u138 u139 u140 u141 u142 u143 u144 u145 u146 u147 u148 u149 u150 u151 u152 u153 u154 u155 u156 u157 u158 u159 u160 u161 u162 u163 u164 u165 u166 u167 u168 u169 u170 u171 u172 u173 u174 u175 u176 u177 u178 u179 u180 u181 u182 u183 u184 u185 u186 u187 u188 u189 u190 u191 : Value) (K : Act → World → Prop) (Q1 : Exit → Act → World → Prop)
    (hK : ∀ (v8 v94 v95 v96 v97 v98 v99 v100 v101 v102 v103 v104 v105 v106 v107 v108 v109 v110 v111 v112 v113 v114 v115 v116 v117 v118 : Value) (wc : World), (∃ (Na' : Option Addr) (Nc' : Nat) (RN' : List Ent), Hid (Row RN' 78 3 Na' (i + 1) Nc' (tcs (notesN k pool (i + 1)))) ∧ Hid (Sts w (Heads k g1 g2 g3 L ⟨Na', i + 1, Nc'⟩ S0 S1 S2 ++ (RN' ++ RL)) wc)) → K ⟨#[.agg k.cs, .pointer (some ⟨g1, 0, none⟩), .pointer (some ⟨g2, 0, none⟩), .pointer (some ⟨g3, 0, none⟩), .int .i64 pool, u5, u6, .int .i64 i, v8, u9, u10, u11, u12, u13, u14, u15, u16, u17, u18, u19, u20, u21, u22, u23, u24, u25, u26, u27, u28, u29, u30, u31, u32, u33, u34, u35, u36, u37, u38, u39, u40, u41, u42, u43, u44, u45, u46, u47, u48, u49, u50, u51, u52, u53, u54, u55, u56, u57, u58, u59, u60, u61, u62, u63, u64, u65, u66, u67, u68, u69, u70, u71, u72, u73, u74, u75, u76, u77, u78, u79, u80, u81, u82, u83, u84, u85, u86, u87, u88, u89, u90, u91, u92, u93, v94, v95, v96, v97, v98, v99, v100, v101, v102, v103, v104, v105, v106, v107, v108, v109, v110, v111, v112, v113, v114, v115, v116, v117, v118, u119, u120, u121, u122, u123, u124, u125, u126, u127, u128, u129, u130, u131, u132, u133, u134, u135, u136, u137, u138, u139, u140, u141, u142, u143, u144, u145, u146, u147, u148, u149, u150, u151, u152, u153, u154, u155, u156, u157, u158, u159, u160, u161, u162, u163, u164, u165, u166, u167, u168, u169, u170, u171, u172, u173, u174, u175, u176, u177, u178, u179, u180, u181, u182, u183, u184, u185, u186, u187, u188, u189, u190, u191], []⟩ wc) :
    Code.wp Try.prog ((Try.f24.body.bind (blockAt 3)).getD .skip) (Exit.then K Q1) ⟨#[.agg k.cs, .pointer (some ⟨g1, 0, none⟩), .pointer (some ⟨g2, 0, none⟩), .pointer (some ⟨g3, 0, none⟩), .int .i64 pool, u5, u6, .int .i64 i, u8, u9, u10, u11, u12, u13, u14, u15, u16, u17, u18, u19, u20, u21, u22, u23, u24, u25, u26, u27, u28, u29, u30, u31, u32, u33, u34, u35, u36, u37, u38, u39, u40, u41, u42, u43, u44, u45, u46, u47, u48, u49, u50, u51, u52, u53, u54, u55, u56, u57, u58, u59, u60, u61, u62, u63, u64, u65, u66, u67, u68, u69, u70, u71, u72, u73, u74, u75, u76, u77, u78, u79, u80, u81, u82, u83, u84, u85, u86, u87, u88, u89, u90, u91, u92, u93, u94, u95, u96, u97, u98, u99, u100, u101, u102, u103, u104, u105, u106, u107, u108, u109, u110, u111, u112, u113, u114, u115, u116, u117, u118, u119, u120, u121, u122, u123, u124, u125, u126, u127, u128, u129, u130, u131, u132, u133, u134, u135, u136, u137, u138, u139, u140, u141, u142, u143, u144, u145, u146, u147, u148, u149, u150, u151, u152, u153, u154, u155, u156, u157, u158, u159, u160, u161, u162, u163, u164, u165, u166, u167, u168, u169, u170, u171, u172, u173, u174, u175, u176, u177, u178, u179, u180, u181, u182, u183, u184, u185, u186, u187, u188, u189, u190, u191], []⟩ W := by
  obtain ⟨i0, hi, hz, hs1, hs2⟩ := info_parts' terms_info
  have HN := Lib.hid hk.out.no; have HA := Lib.hid hk.out.ra; have HI := Lib.hid hk.out.ri
  have d0 := Int.tdiv_nonneg p0 (show (0 : Int) ≤ 6 by omega)
  have d1 : pool.tdiv 6 ≤ pool := by rw [Int.tdiv_eq_ediv_of_nonneg p0]; omega
  have d2 : pool.tdiv 6 ≤ 10000000 := by omega
  have b2 : IntKind.i64.wrap (pool.tdiv 6) = pool.tdiv 6 := IntWalk.i64_in _ (by omega)
  have hwb := within_bd (pickF k.no.l i) (lo := 0) (hi := pool.tdiv 6) (by omega)
  have HNT := Lib.hid (notesN_next k pool i)
  have hnt : noteK k pool i = (within (pickF k.ra.l i) 0 3, 1 + within (pickF k.no.l i) 0 (pool.tdiv 6), within (pickF k.ri.l i) 0 1200) := rfl
  have HWQ := Lib.hid (within_calls (pickF k.no.l i) 0 (pool.tdiv 6) W (by omega) (by omega) (by omega))
  obtain ⟨x, hx⟩ : ∃ x, within (pickF k.no.l i) 0 (pool.tdiv 6) = x := ⟨_, rfl⟩
  rw [hx] at hnt hwb HWQ
  obtain ⟨w0, w1⟩ := hwb
  have HNE := Lib.hid hnt
  clear hnt hx
  have c14 := HS.out.cell 0 14 rfl (v := .slice k.no.a k.no.n k.no.c) rfl
  conv => arg 2; whnf
  dsimp only
  refine wp_only ?_
  go_wp2_with fail
  refine (pick_calls k.no.a k.no.n k.no.c k.no.l i W (HN.out.after HS.out) (by omega)).mono ?_
  rintro e w2 ⟨rfl, rfl⟩
  go_wp2_with fail
  refine HWQ.out.mono ?_
  rintro e w2 ⟨rfl, rfl⟩
  go_upto_region 14 with fail
  clear b2 c14 d0 d1 d2 p0 p1 w0 w1 HWQ
  have c15 := HS.out.cell 0 15 rfl (v := .slice k.ra.a k.ra.n k.ra.c) rfl
  have c16 := HS.out.cell 0 16 rfl (v := .slice k.ri.a k.ri.n k.ri.c) rfl
  have c4 := HS.out.cell 2 4 rfl (v := .slice Na i Nc) rfl
  have bel := bel_alloc (Below.refl _ W) (.cells #[.int .i64 (within (pickF k.ra.l i) 0 3), .int .i64 (1 + x), .int .i64 (within (pickF k.ri.l i) 0 1200)] 78)
  have c4b := (bel.cell (World.block_lt_of_cell? W _ c4)).trans c4
  clear bel
  have PA := Lib.hid (HA.out.after HS.out.drew : Ints W.drew k.ra.a k.ra.n k.ra.l)
  have PI := Lib.hid (HI.out.after HS.out.drew : Ints W.drew k.ri.a k.ri.n k.ri.l)
  clear HN HA HI hk
  refine wp_region_T (fun w' => w'.cell? ⟨g1, 15, none⟩ = some (.slice k.ra.a k.ra.n k.ra.c) ∧ w'.cell? ⟨g1, 16, none⟩ = some (.slice k.ri.a k.ri.n k.ri.c) ∧ w'.cell? ⟨g3, 4, none⟩ = some (.slice Na i Nc)) 15 (by kernel_rfl) ?_
  refine wpAnyT_take (i := 0) 18 (v := .pointer (some ⟨g3, 4, none⟩)) rfl (by kernel_rfl) (fun _ _ _ h => h) (Or.inl ⟨by rfl, by (intro w hSw; (try dsimp only at hSw); go_simp)⟩) ⟨c15, c16, c4⟩ ?_
  (try simp only [Act.put, List.getElem_toArray, List.getElem_cons_zero, List.getElem_cons_succ, List.setIfInBounds_toArray, List.set_cons_zero, List.set_cons_succ])
  refine wpAnyT_take (i := 1) 18 (v := .slice Na i Nc) rfl (by kernel_rfl) (fun _ _ _ h => h) (Or.inl ⟨by rfl, by (intro w hSw; (try dsimp only at hSw); go_simp)⟩) ⟨c15, c16, c4⟩ ?_
  (try simp only [Act.put, List.getElem_toArray, List.getElem_cons_zero, List.getElem_cons_succ, List.setIfInBounds_toArray, List.set_cons_zero, List.set_cons_succ])
  refine wpAnyT_take (i := 2) 18 (v := .pointer (some ⟨g1, 15, none⟩)) rfl (by kernel_rfl) (fun _ _ _ h => h) (Or.inl ⟨by rfl, by (intro w hSw; (try dsimp only at hSw); go_simp)⟩) ⟨c15, c16, c4⟩ ?_
  (try simp only [Act.put, List.getElem_toArray, List.getElem_cons_zero, List.getElem_cons_succ, List.setIfInBounds_toArray, List.set_cons_zero, List.set_cons_succ])
  refine wpAnyT_take (i := 3) 18 (v := .slice k.ra.a k.ra.n k.ra.c) rfl (by kernel_rfl) (fun _ _ _ h => h) (Or.inl ⟨by rfl, by (intro w hSw; (try dsimp only at hSw); go_simp)⟩) ⟨c15, c16, c4⟩ ?_
  (try simp only [Act.put, List.getElem_toArray, List.getElem_cons_zero, List.getElem_cons_succ, List.setIfInBounds_toArray, List.set_cons_zero, List.set_cons_succ])
  refine wpAnyT_take (i := 4) 18 (v := .int .i64 i) rfl (by kernel_rfl) (fun _ _ _ h => h) (Or.inl ⟨by rfl, by (intro w hSw; (try dsimp only at hSw); go_simp)⟩) ⟨c15, c16, c4⟩ ?_
  (try simp only [Act.put, List.getElem_toArray, List.getElem_cons_zero, List.getElem_cons_succ, List.setIfInBounds_toArray, List.set_cons_zero, List.set_cons_succ])
  refine wpAnyT_take (i := 7) 18 (v := .int .i64 (1 + x)) rfl (by kernel_rfl) (fun _ _ _ h => h) (Or.inl ⟨by rfl, by (intro w hSw; (try dsimp only at hSw); go_simp)⟩) ⟨c15, c16, c4⟩ ?_
  (try simp only [Act.put, List.getElem_toArray, List.getElem_cons_zero, List.getElem_cons_succ, List.setIfInBounds_toArray, List.set_cons_zero, List.set_cons_succ])
  refine wpAnyT_take (i := 8) 18 (v := .pointer (some ⟨g1, 16, none⟩)) rfl (by kernel_rfl) (fun _ _ _ h => h) (Or.inl ⟨by rfl, by (intro w hSw; (try dsimp only at hSw); go_simp)⟩) ⟨c15, c16, c4⟩ ?_
  (try simp only [Act.put, List.getElem_toArray, List.getElem_cons_zero, List.getElem_cons_succ, List.setIfInBounds_toArray, List.set_cons_zero, List.set_cons_succ])
  refine wpAnyT_take (i := 9) 18 (v := .slice k.ri.a k.ri.n k.ri.c) rfl (by kernel_rfl) (fun _ _ _ h => h) (Or.inl ⟨by rfl, by (intro w hSw; (try dsimp only at hSw); go_simp)⟩) ⟨c15, c16, c4⟩ ?_
  (try simp only [Act.put, List.getElem_toArray, List.getElem_cons_zero, List.getElem_cons_succ, List.setIfInBounds_toArray, List.set_cons_zero, List.set_cons_succ])
  refine wpAnyT_take (i := 10) 18 (v := .int .i64 i) rfl (by kernel_rfl) (fun _ _ _ h => h) (Or.inl ⟨by rfl, by (intro w hSw; (try dsimp only at hSw); go_simp)⟩) ⟨c15, c16, c4⟩ ?_
  (try simp only [Act.put, List.getElem_toArray, List.getElem_cons_zero, List.getElem_cons_succ, List.setIfInBounds_toArray, List.set_cons_zero, List.set_cons_succ])
  refine wpAnyT_one 5 rfl (by kernel_rfl) ?_
  (try simp only [List.getElem_toArray, List.getElem_cons_zero, List.getElem_cons_succ])
  go_wp2_with fail
  refine (pick_calls _ _ _ _ i _ PA.out (by omega)).mono ?_
  rintro e w' ⟨rfl, rfl⟩
  go_wp2_with fail
  refine kq_in ⟨⟨c15, c16, c4⟩, ?_⟩
  refine wpAnyT_one 6 rfl (by kernel_rfl) ?_
  (try simp only [List.getElem_toArray, List.getElem_cons_zero, List.getElem_cons_succ])
  go_wp2_with fail
  refine (within_calls _ _ _ _ (by omega) (by omega) (by omega)).mono ?_
  rintro e w' ⟨rfl, rfl⟩
  go_wp2_with fail
  refine kq_in ⟨⟨c15, c16, c4⟩, ?_⟩
  refine wpAnyT_one 11 rfl (by kernel_rfl) ?_
  (try simp only [List.getElem_toArray, List.getElem_cons_zero, List.getElem_cons_succ])
  go_wp2_with fail
  refine (pick_calls _ _ _ _ i _ PI.out (by omega)).mono ?_
  rintro e w' ⟨rfl, rfl⟩
  go_wp2_with fail
  refine kq_in ⟨⟨c15, c16, c4⟩, ?_⟩
  refine wpAnyT_one 12 rfl (by kernel_rfl) ?_
  (try simp only [List.getElem_toArray, List.getElem_cons_zero, List.getElem_cons_succ])
  go_wp2_with fail
  refine (within_calls _ _ _ _ (by omega) (by omega) (by omega)).mono ?_
  rintro e w' ⟨rfl, rfl⟩
  go_wp2_with fail
  refine kq_in ⟨⟨c15, c16, c4⟩, ?_⟩
  refine wpAnyT_one 13 rfl (by kernel_rfl) ?_
  (try simp only [List.getElem_toArray, List.getElem_cons_zero, List.getElem_cons_succ])
  go_wp2_with fail
  refine kq_in ⟨⟨c15, c16, c4⟩, ?_⟩
  refine wpAnyT_one 14 rfl (by kernel_rfl) ?_
  (try simp only [List.getElem_toArray, List.getElem_cons_zero, List.getElem_cons_succ])
  have HX := Lib.hid (HS.out.drew.skip (.cells #[.int .i64 (within (pickF k.ra.l i) 0 3), .int .i64 (1 + x), .int .i64 (within (pickF k.ri.l i) 0 1200)] 78))
  have d15 := HX.out.cell 0 15 rfl (v := .slice k.ra.a k.ra.n k.ra.c) rfl
  have d16 := HX.out.cell 0 16 rfl (v := .slice k.ri.a k.ri.n k.ri.c) rfl
  have d4 := HX.out.cell 2 4 rfl (v := .slice Na i Nc) rfl
  have SRC := Lib.hid (Src.new (W := W.drew) (size := 3) (m := 1) (cs := #[.int .i64 (within (pickF k.ra.l i) 0 3), .int .i64 (1 + x), .int .i64 (within (pickF k.ri.l i) 0 1200)]) (t := 78) rfl rfl)
  go_wp2_with fail
  refine kq_in ⟨⟨d15, d16, d4⟩, ?_⟩
  refine wpAnyT_last rfl (by kernel_rfl) ?_
  (try simp only [List.getElem_toArray, List.getElem_cons_zero, List.getElem_cons_succ])
  go_wp2_with (at_builtin; refine row_append rfl (.tmp 103) (.tmp 116) 48 rfl (Heads k g1 g2 g3 L ⟨Na, i, Nc⟩ S0 S1 S2) RL Try.underlying48 hi hz hs1 hs2 rfl (by omega) HR.out HX.out rfl rfl SRC.out (tcs_one [(within (pickF k.ra.l i) 0 3, 1 + x, within (pickF k.ri.l i) 0 1200)]) (by omega) (by omega) ?_; rintro R3 a3 c3 w5 hR3' hS3'; have HR3 := Lib.hid hR3'; have HS3 := Lib.hid hS3'; clear hR3' hS3' HR HX HS SRC c15 c16 c4 d15 d16 d4)
  refine kq_in ?_
  refine wpAny_one 16 rfl (by kernel_rfl) ?_
  (try simp only [List.getElem_toArray, List.getElem_cons_zero, List.getElem_cons_succ])
  go_wp2_with fail
  refine kq_in ?_
  have f5 := HS3.out.frozen 2 4 rfl
  have e5 := HS3.out.cell 2 4 rfl (v := .slice Na i Nc) rfl
  refine wpAny_one 17 rfl (by kernel_rfl) ?_
  (try simp only [List.getElem_toArray, List.getElem_cons_zero, List.getElem_cons_succ])
  go_wp2_with fail
  refine kq_in ?_
  refine wpAny_done (by kernel_rfl) ?_ _
  have HS4 := Lib.hid ((HS3.out.set 2 4 (.slice a3 (i + 1) c3) rfl).lit (L' := Heads k g1 g2 g3 L ⟨a3, i + 1, c3⟩ S0 S1 S2 ++ (R3 ++ RL)) rfl)
  exact hK _ _ _ _ _ _ _ _ _ _ _ _ _ _ _ _ _ _ _ _ _ _ _ _ _ _ _ ⟨a3, c3, R3, Lib.hid (by rw [HNT.out, HNE.out, tcs_app]; exact HR3.out), HS4⟩
end Go.Proofs.Yticddmmbphoioaa

import Derived.Test.YticddmmbphoioaaModeN
import Derived.Deep.RegionHeld3
import Derived.Deep.MidRow
import Derived.Sort.BigQuietIn
namespace Go.Proofs.Yticddmmbphoioaa
open Go.RowKit
set_option linter.unusedVariables false
set_option linter.unusedSimpArgs false
/-! ### The deal handed back -/
/-- The region of a number. -/
def regAt (n : Nat) : Code → Option Code
  | .region k ops d => if k = n then some (.region k ops d) else none
  | .block _ c => regAt n c
  | .cond _ a b => match regAt n a with
    | some c => some c
    | none => regAt n b
  | .seq a b => match regAt n a with
    | some c => some c
    | none => regAt n b
  | .scope c => regAt n c
  | .loop c => regAt n c
  | _ => none
theorem fill18 {w0 W : World} {A : Ent} {g : Nat} {t : TypeId} {B : List Ent} (h : Sts w0 (A :: (g, z18, t) :: B) W) (v0 v1 v2 v3 v4 v5 v6 v7 v8 v9 v10 v11 v12 v13 v14 v15 v16 v17 : Value) : Sts w0 (A :: (g, #[v0, v1, v2, v3, v4, v5, v6, v7, v8, v9, v10, v11, v12, v13, v14, v15, v16, v17], t) :: B) (((((((((((((((((((W.setCell ⟨g, 0, none⟩ v0).setCell ⟨g, 1, none⟩ v1).setCell ⟨g, 2, none⟩ v2).setCell ⟨g, 3, none⟩ v3).setCell ⟨g, 4, none⟩ v4).setCell ⟨g, 5, none⟩ v5).setCell ⟨g, 6, none⟩ v6).setCell ⟨g, 7, none⟩ v7).setCell ⟨g, 8, none⟩ v8).setCell ⟨g, 9, none⟩ v9).setCell ⟨g, 10, none⟩ v10).setCell ⟨g, 11, none⟩ v11).setCell ⟨g, 12, none⟩ v12).setCell ⟨g, 13, none⟩ v13).setCell ⟨g, 14, none⟩ v14).setCell ⟨g, 15, none⟩ v15).setCell ⟨g, 16, none⟩ v16).setCell ⟨g, 17, none⟩ v17)) := by
  have h0 : Sts w0 (A :: (g, #[v0, .int .i64 0, .int .i64 0, .slice none 0 0, .slice none 0 0, .int .i64 0, .int .i64 0, .int .i64 0, .int .i64 0, .int .i64 0, .int .i64 0, .int .i64 0, .int .i64 0, .int .i64 0, .int .i64 0, .slice none 0 0, .slice none 0 0, .slice none 0 0], t) :: B) _ := (h.set 1 0 v0 rfl).lit rfl
  have h1 : Sts w0 (A :: (g, #[v0, v1, .int .i64 0, .slice none 0 0, .slice none 0 0, .int .i64 0, .int .i64 0, .int .i64 0, .int .i64 0, .int .i64 0, .int .i64 0, .int .i64 0, .int .i64 0, .int .i64 0, .int .i64 0, .slice none 0 0, .slice none 0 0, .slice none 0 0], t) :: B) _ := (h0.set 1 1 v1 rfl).lit rfl
  have h2 : Sts w0 (A :: (g, #[v0, v1, v2, .slice none 0 0, .slice none 0 0, .int .i64 0, .int .i64 0, .int .i64 0, .int .i64 0, .int .i64 0, .int .i64 0, .int .i64 0, .int .i64 0, .int .i64 0, .int .i64 0, .slice none 0 0, .slice none 0 0, .slice none 0 0], t) :: B) _ := (h1.set 1 2 v2 rfl).lit rfl
  have h3 : Sts w0 (A :: (g, #[v0, v1, v2, v3, .slice none 0 0, .int .i64 0, .int .i64 0, .int .i64 0, .int .i64 0, .int .i64 0, .int .i64 0, .int .i64 0, .int .i64 0, .int .i64 0, .int .i64 0, .slice none 0 0, .slice none 0 0, .slice none 0 0], t) :: B) _ := (h2.set 1 3 v3 rfl).lit rfl
  have h4 : Sts w0 (A :: (g, #[v0, v1, v2, v3, v4, .int .i64 0, .int .i64 0, .int .i64 0, .int .i64 0, .int .i64 0, .int .i64 0, .int .i64 0, .int .i64 0, .int .i64 0, .int .i64 0, .slice none 0 0, .slice none 0 0, .slice none 0 0], t) :: B) _ := (h3.set 1 4 v4 rfl).lit rfl
  have h5 : Sts w0 (A :: (g, #[v0, v1, v2, v3, v4, v5, .int .i64 0, .int .i64 0, .int .i64 0, .int .i64 0, .int .i64 0, .int .i64 0, .int .i64 0, .int .i64 0, .int .i64 0, .slice none 0 0, .slice none 0 0, .slice none 0 0], t) :: B) _ := (h4.set 1 5 v5 rfl).lit rfl
  have h6 : Sts w0 (A :: (g, #[v0, v1, v2, v3, v4, v5, v6, .int .i64 0, .int .i64 0, .int .i64 0, .int .i64 0, .int .i64 0, .int .i64 0, .int .i64 0, .int .i64 0, .slice none 0 0, .slice none 0 0, .slice none 0 0], t) :: B) _ := (h5.set 1 6 v6 rfl).lit rfl
  have h7 : Sts w0 (A :: (g, #[v0, v1, v2, v3, v4, v5, v6, v7, .int .i64 0, .int .i64 0, .int .i64 0, .int .i64 0, .int .i64 0, .int .i64 0, .int .i64 0, .slice none 0 0, .slice none 0 0, .slice none 0 0], t) :: B) _ := (h6.set 1 7 v7 rfl).lit rfl
  have h8 : Sts w0 (A :: (g, #[v0, v1, v2, v3, v4, v5, v6, v7, v8, .int .i64 0, .int .i64 0, .int .i64 0, .int .i64 0, .int .i64 0, .int .i64 0, .slice none 0 0, .slice none 0 0, .slice none 0 0], t) :: B) _ := (h7.set 1 8 v8 rfl).lit rfl
  have h9 : Sts w0 (A :: (g, #[v0, v1, v2, v3, v4, v5, v6, v7, v8, v9, .int .i64 0, .int .i64 0, .int .i64 0, .int .i64 0, .int .i64 0, .slice none 0 0, .slice none 0 0, .slice none 0 0], t) :: B) _ := (h8.set 1 9 v9 rfl).lit rfl
  have h10 : Sts w0 (A :: (g, #[v0, v1, v2, v3, v4, v5, v6, v7, v8, v9, v10, .int .i64 0, .int .i64 0, .int .i64 0, .int .i64 0, .slice none 0 0, .slice none 0 0, .slice none 0 0], t) :: B) _ := (h9.set 1 10 v10 rfl).lit rfl
  have h11 : Sts w0 (A :: (g, #[v0, v1, v2, v3, v4, v5, v6, v7, v8, v9, v10, v11, .int .i64 0, .int .i64 0, .int .i64 0, .slice none 0 0, .slice none 0 0, .slice none 0 0], t) :: B) _ := (h10.set 1 11 v11 rfl).lit rfl
  have h12 : Sts w0 (A :: (g, #[v0, v1, v2, v3, v4, v5, v6, v7, v8, v9, v10, v11, v12, .int .i64 0, .int .i64 0, .slice none 0 0, .slice none 0 0, .slice none 0 0], t) :: B) _ := (h11.set 1 12 v12 rfl).lit rfl
  have h13 : Sts w0 (A :: (g, #[v0, v1, v2, v3, v4, v5, v6, v7, v8, v9, v10, v11, v12, v13, .int .i64 0, .slice none 0 0, .slice none 0 0, .slice none 0 0], t) :: B) _ := (h12.set 1 13 v13 rfl).lit rfl
  have h14 : Sts w0 (A :: (g, #[v0, v1, v2, v3, v4, v5, v6, v7, v8, v9, v10, v11, v12, v13, v14, .slice none 0 0, .slice none 0 0, .slice none 0 0], t) :: B) _ := (h13.set 1 14 v14 rfl).lit rfl
  have h15 : Sts w0 (A :: (g, #[v0, v1, v2, v3, v4, v5, v6, v7, v8, v9, v10, v11, v12, v13, v14, v15, .slice none 0 0, .slice none 0 0], t) :: B) _ := (h14.set 1 15 v15 rfl).lit rfl
  have h16 : Sts w0 (A :: (g, #[v0, v1, v2, v3, v4, v5, v6, v7, v8, v9, v10, v11, v12, v13, v14, v15, v16, .slice none 0 0], t) :: B) _ := (h15.set 1 16 v16 rfl).lit rfl
  have h17 : Sts w0 (A :: (g, #[v0, v1, v2, v3, v4, v5, v6, v7, v8, v9, v10, v11, v12, v13, v14, v15, v16, v17], t) :: B) _ := (h16.set 1 17 v17 rfl).lit rfl
  exact h17
set_option maxHeartbeats 32000000 in
set_option maxRecDepth 1000000 in
theorem deal_tail (k : Kd) (w : World) (hk : Hid (k.In w)) (g1 g2 g3 : Nat) (L N : Sl) (S : Nat → Sl) (O : List Ent) (W : World) (HS : Hid (Sts w (Heads k g1 g2 g3 L N (S 0) (S 1) (S 2) ++ O) W)) (u4 u5 u6 u7 u8 u9 u10 u11 u12 u13 u14 u15 u16 u17 u18 u19 u20 u21 u22 u23 u24 u25 u26 u27 u28 u29 u30 u31 u32 u33 u34 u35 u36 u37 u38 u39 u40 u41 u42 u43 u44 u45 u46 u47 u48 u49 u50 u51 u52 u53 u54 u55 u56 u57 u58 u59 u60 u61 u62 u63 u64 u65 u66 u67 u68 u69 u70 u71 u72 u73 u74 u75 u76 u77 u78 u79 u80 u81 u82 u83 u84 u85 u86 u87 u88 u89 u90 u91 u92 u93 u94 u95 u96 u97 u98 u99 u100 u101 u102 u103 u104 u105 u106 u107 u108 u109 u110 u111 u112 u113 u114 u115 u116 u117 u118 u119 u120 u121 u122 u123 u124 u125 u126 u127 u128 u129 u130 u131 u132 u133 u134 u135 u136 u137 u138 u139 u140 u141 u142 u143 u144 u145 u146 u147 u148 u149 u150 u151 u152 u153 u154 u155 u156 u157 u158 u159 u160 u161 u162 u163 u164 u165 u166 u167 u168 u169 u170 u171 u172 u173 u174 u175 u176 u177 u178 u179 u180 u181 u182 u183 u184 u185 u186 u187 u188 u189 u190 u191 : Value) (K : Act → World → Prop) (Q1 : Exit → Act → World → Prop)
    (hK : ∀ (v191 : Value) (wc : World), (Hid (Sts w ((g1, k.cs, 44) :: (g2, k.ds L N (S 0) (S 1) (S 2), 54) :: (g3, k.ds L N (S 0) (S 1) (S 2), 54) :: O) wc)) → K ⟨#[.agg k.cs, .pointer (some ⟨g1, 0, none⟩), .pointer (some ⟨g2, 0, none⟩), .pointer (some ⟨g3, 0, none⟩), u4, u5, u6, u7, u8, u9, u10, u11, u12, u13, u14, u15, u16, u17, u18, u19, u20, u21, u22, u23, u24, u25, u26, u27, u28, u29, u30, u31, u32, u33, u34, u35, u36, u37, u38, u39, u40, u41, u42, u43, u44, u45, u46, u47, u48, u49, u50, u51, u52, u53, u54, u55, u56, u57, u58, u59, u60, u61, u62, u63, u64, u65, u66, u67, u68, u69, u70, u71, u72, u73, u74, u75, u76, u77, u78, u79, u80, u81, u82, u83, u84, u85, u86, u87, u88, u89, u90, u91, u92, u93, u94, u95, u96, u97, u98, u99, u100, u101, u102, u103, u104, u105, u106, u107, u108, u109, u110, u111, u112, u113, u114, u115, u116, u117, u118, u119, u120, u121, u122, u123, u124, u125, u126, u127, u128, u129, u130, u131, u132, u133, u134, u135, u136, u137, u138, u139, u140, u141, u142, u143, u144, u145, u146, u147, u148, u149, u150, u151, u152, u153, u154, u155, u156, u157, u158, u159, u160, u161, u162, u163, u164, u165, u166, u167, u168, u169, u170, u171, u172, u173, u174, u175, u176, u177, u178, u179, u180, u181, u182, u183, u184, u185, u186, u187, u188, u189, u190, v191], []⟩ wc) :
    Code.wp Try.prog ((Try.f24.body.bind (regAt 37)).getD .skip) (Exit.then K Q1) ⟨#[.agg k.cs, .pointer (some ⟨g1, 0, none⟩), .pointer (some ⟨g2, 0, none⟩), .pointer (some ⟨g3, 0, none⟩), u4, u5, u6, u7, u8, u9, u10, u11, u12, u13, u14, u15, u16, u17, u18, u19, u20, u21, u22, u23, u24, u25, u26, u27, u28, u29, u30, u31, u32, u33, u34, u35, u36, u37, u38, u39, u40, u41, u42, u43, u44, u45, u46, u47, u48, u49, u50, u51, u52, u53, u54, u55, u56, u57, u58, u59, u60, u61, u62, u63, u64, u65, u66, u67, u68, u69, u70, u71, u72, u73, u74, u75, u76, u77, u78, u79, u80, u81, u82, u83, u84, u85, u86, u87, u88, u89, u90, u91, u92, u93, u94, u95, u96, u97, u98, u99, u100, u101, u102, u103, u104, u105, u106, u107, u108, u109, u110, u111, u112, u113, u114, u115, u116, u117, u118, u119, u120, u121, u122, u123, u124, u125, u126, u127, u128, u129, u130, u131, u132, u133, u134, u135, u136, u137, u138, u139, u140, u141, u142, u143, u144, u145, u146, u147, u148, u149, u150, u151, u152, u153, u154, u155, u156, u157, u158, u159, u160, u161, u162, u163, u164, u165, u166, u167, u168, u169, u170, u171, u172, u173, u174, u175, u176, u177, u178, u179, u180, u181, u182, u183, u184, u185, u186, u187, u188, u189, u190, u191], []⟩ W := by
  have HF := Lib.hid (fill18 (A := (g1, k.cs, 44)) (B := (g3, k.ds L N (S 0) (S 1) (S 2), 54) :: O) (HS.out.lit rfl) (.int .i64 (within k.n0 1990 2040)) (.int .i64 (within k.n1 1 12)) (.int .i64 (within k.n2 0 2)) (.slice L.a L.n L.c) (.slice N.a N.n N.c) (.int .i64 (within k.n3 0 200)) (.int .i64 (within k.n4 0 5000)) (.int .i64 (within k.n5 0 500)) (.int .i64 (within k.n6 0 3000)) (.int .i64 (within k.n7 0 3)) (.int .i64 (within k.t0 0 12000)) (.int .i64 (within k.t1 0 15000)) (.int .i64 (within k.t2 0 5000)) (.int .i64 (within k.t3 0 5000)) (.int .i64 (within k.t4 0 3000)) (.slice (S 0).a (S 0).n (S 0).c) (.slice (S 1).a (S 1).n (S 1).c) (.slice (S 2).a (S 2).n (S 2).c))
  have hsz : (Try.prog.info? 54).map (·.size) = some 18 := by kernel_rfl
  have hrange : W.rangeAt g3 0 (k.ds L N (S 0) (S 1) (S 2)).toList := fun j v hv => by
    rw [Nat.zero_add]
    exact HS.out.cell 2 j rfl (by rw [← Array.getElem?_toList]; exact hv)
  have hthere : W.there g2 0 18 := fun j hj => by
    rw [Nat.zero_add]
    refine ⟨?_, HS.out.frozen 1 j rfl⟩
    rw [(HS.out.at_ 1 rfl).cell j, Array.getElem?_eq_getElem (show j < z18.size from hj)]
    rfl
  conv => arg 2; whnf
  dsimp only
  refine wp_region_lit ?_
  refine wpList_load_mid rfl 54 (.tmp 3) rfl g3 0 rfl (k.ds L N (S 0) (S 1) (S 2)).toList _ hrange Try.underlying54 rfl hsz ?_
  simp only [Act.put, List.setIfInBounds_toArray, List.set_cons_zero, List.set_cons_succ]
  refine wpList_store_mid rfl 54 (.tmp 2) (.tmp 191) rfl g2 0 (k.ds L N (S 0) (S 1) (S 2)).toList.toArray rfl rfl hthere hsz (by kernel_rfl) ?_
  exact hK _ _ HF
end Go.Proofs.Yticddmmbphoioaa

import Derived.Test.YtllbpjaiplnbnaaRefAllot
namespace Go.Proofs.Ytllbpjaiplnbnaa
open Go.RowKit
set_option linter.unusedVariables false
set_option linter.unusedSimpArgs false
/-! ### What a round of LossTells takes down -/
theorem IRow.src {w0 W : World} {A B R : List Ent} {a : Option Addr} {n g : Nat} {l : List Int} (h : IRow R a n g l) (hS : Sts w0 (A ++ (R ++ B)) W) : Src W a n 1 (ivs l) := by
  refine ⟨by simp [ivs, h.len], fun hn => ?_⟩
  obtain ⟨cs, ha, rfl, hc⟩ := h.row hn
  have hb := ((sts_iff.1 hS).1 (g, cs, 3) (by simp)).1
  refine ⟨_, ha, fun j u hu => ?_⟩
  have hj : j < n := by have := (List.getElem?_eq_some_iff.1 hu).1; simpa [ivs, h.len] using this
  rw [ivs_get (by rw [h.len]; exact hj)] at hu
  obtain rfl := Option.some.inj hu
  have e1 : (⟨g, 0, none⟩ : Addr).add j = ⟨g, j, none⟩ := by unfold Addr.add; split <;> simp_all
  rw [e1]
  exact (hb.cell j).trans (hc j hj)
theorem ivs_app (l : List Int) (x : Int) : ivs (l ++ [x]) = ivs l ++ ivs [x] := by simp [ivs]
/-- A note's cells lie there. -/
def NC (g o : Nat) (r og rt pi pj sh dn : Int) (W : World) : Prop := W.cell? ⟨g, o, none⟩ = some (.int .i64 r) ∧ W.cell? ⟨g, o + 1, none⟩ = some (.int .i64 og) ∧ W.cell? ⟨g, o + 2, none⟩ = some (.int .i64 rt) ∧ W.cell? ⟨g, o + 3, none⟩ = some (.int .i64 pi) ∧ W.cell? ⟨g, o + 4, none⟩ = some (.int .i64 pj) ∧ W.cell? ⟨g, o + 5, none⟩ = some (.int .i64 sh) ∧ W.cell? ⟨g, o + 6, none⟩ = some (.int .i64 dn)
/-- The region of a number. -/
def regOf (n : Nat) : Code → Option Code
  | .region k ops d => if k = n then some (.region k ops d) else none
  | .block _ c => regOf n c
  | .cond _ a b => match regOf n a with
    | some c => some c
    | none => regOf n b
  | .seq a b => match regOf n a with
    | some c => some c
    | none => regOf n b
  | .scope c => regOf n c
  | .loop c => regOf n c
  | _ => none
set_option maxHeartbeats 32000000 in
set_option maxRecDepth 1000000 in
theorem tells7 (w : World) (m k ga ca cr cb cd : Nat) (Rr Rb Rd OO : List Ent) (ar ab ad : Option Addr) (lr lb ld : List Int) (r og rt pi pj sh dn bl : Int) (hkm : k < m) (hm6 : m ≤ 6)
    (hR : Row Rr 3 1 ar k cr (ivs lr)) (hRb : Row Rb 3 1 ab k cb (ivs lb)) (hRd : Row Rd 3 1 ad k cd (ivs ld))
    (hn : ∀ X W, Sts w (X ++ OO) W → NC ga (k * 7) r og rt pi pj sh dn W)
    (hB : ∀ W, Calls Try.prog 17 #[nv r og rt pi pj sh dn] W fun e w' => e = .returned (.int .i64 bl) ∧ Below W.heap.size W w')
    (W : World) (HS : Hid (Sts w (Rr ++ (Rb ++ (Rd ++ OO))) W)) (u0 u1 u2 u3 u4 u5 u6 u7 u8 u9 u10 u11 u12 u17 u19 u20 u21 u22 u23 u24 u25 u26 u27 u28 u29 u30 u31 u32 u33 u34 u35 u36 u37 u38 u39 u40 u41 u42 u43 u44 u45 u46 u47 u48 u49 u50 u51 u52 u53 u54 u55 u56 u57 u58 u59 u60 u61 u62 u63 u64 u65 u66 u67 u68 u69 u70 u71 u72 u73 u74 u75 u76 u77 u78 u79 u80 u81 u82 u83 u84 u85 u86 u87 u88 u89 u90 u91 u92 u93 u94 u95 u96 u97 u98 u99 u100 u101 u102 u103 u104 u105 u106 u107 u108 u109 u110 u111 u112 u113 u114 u115 u116 u117 u118 u119 u120 u121 u122 u123 u124 u125 u126 u127 u128 u129 u130 u131 u132 u133 u134 u135 u136 u137 u138 u139 u140 u141 u142 u143 u144 u145 u146 u147 u148 u149 u150 u151 u152 : Value) (K : Act → World → Prop) (Q1 : Exit → Act → World → Prop)
    (hK : ∀ (v35 v36 v37 v38 v39 v40 v41 v42 v43 v44 v45 v46 v47 v48 v49 v50 v51 v52 v53 v54 v55 v56 v57 v58 v59 : Value) (wc : World) (Rr' Rb' Rd' : List Ent) (ar' ab' ad' : Option Addr) (cr' cb' cd' : Nat), Row Rr' 3 1 ar' (k + 1) cr' (ivs (lr ++ [r])) → Row Rb' 3 1 ab' (k + 1) cb' (ivs (lb ++ [bl])) → Row Rd' 3 1 ad' (k + 1) cd' (ivs (ld ++ [dn])) → Hid (Sts w (Rr' ++ (Rb' ++ (Rd' ++ OO))) wc) → K ⟨#[u0, u1, u2, u3, u4, u5, u6, u7, u8, u9, u10, u11, u12, .slice (some ⟨ga, 0, none⟩) m ca, .slice ar' (k + 1) cr', .slice ab' (k + 1) cb', .slice ad' (k + 1) cd', u17, .int .i64 k, u19, u20, u21, u22, u23, u24, u25, u26, u27, u28, u29, u30, u31, u32, u33, u34, v35, v36, v37, v38, v39, v40, v41, v42, v43, v44, v45, v46, v47, v48, v49, v50, v51, v52, v53, v54, v55, v56, v57, v58, v59, u60, u61, u62, u63, u64, u65, u66, u67, u68, u69, u70, u71, u72, u73, u74, u75, u76, u77, u78, u79, u80, u81, u82, u83, u84, u85, u86, u87, u88, u89, u90, u91, u92, u93, u94, u95, u96, u97, u98, u99, u100, u101, u102, u103, u104, u105, u106, u107, u108, u109, u110, u111, u112, u113, u114, u115, u116, u117, u118, u119, u120, u121, u122, u123, u124, u125, u126, u127, u128, u129, u130, u131, u132, u133, u134, u135, u136, u137, u138, u139, u140, u141, u142, u143, u144, u145, u146, u147, u148, u149, u150, u151, u152], []⟩ wc) :
    Code.wp Try.prog ((Try.f10.body.bind (regOf 7)).getD .skip) (Exit.then K Q1) ⟨#[u0, u1, u2, u3, u4, u5, u6, u7, u8, u9, u10, u11, u12, .slice (some ⟨ga, 0, none⟩) m ca, .slice ar k cr, .slice ab k cb, .slice ad k cd, u17, .int .i64 k, u19, u20, u21, u22, u23, u24, u25, u26, u27, u28, u29, u30, u31, u32, u33, u34, u35, u36, u37, u38, u39, u40, u41, u42, u43, u44, u45, u46, u47, u48, u49, u50, u51, u52, u53, u54, u55, u56, u57, u58, u59, u60, u61, u62, u63, u64, u65, u66, u67, u68, u69, u70, u71, u72, u73, u74, u75, u76, u77, u78, u79, u80, u81, u82, u83, u84, u85, u86, u87, u88, u89, u90, u91, u92, u93, u94, u95, u96, u97, u98, u99, u100, u101, u102, u103, u104, u105, u106, u107, u108, u109, u110, u111, u112, u113, u114, u115, u116, u117, u118, u119, u120, u121, u122, u123, u124, u125, u126, u127, u128, u129, u130, u131, u132, u133, u134, u135, u136, u137, u138, u139, u140, u141, u142, u143, u144, u145, u146, u147, u148, u149, u150, u151, u152], []⟩ W := by
  obtain ⟨i0, hi, hz, hs1, hs2⟩ := info_parts int_info
  have j1 : (0 : Int) ≤ (k : Int) := by omega
  have j2 : (k : Int) < (m : Int) := by omega
  conv => arg 2; whnf
  dsimp only
  refine wp_normal ?_
  have H0 := Lib.hid (show Sts w ([] ++ (Rr ++ (Rb ++ (Rd ++ OO)))) W.drew from HS.out.drew)
  generalize hwq : W.drew = wq at *
  refine wp_region_T (NC ga (k * 7) r og rt pi pj sh dn) 24 (by kernel_rfl) ?_
  rw [hwq]
  refine wpAnyT_take (i := 0) 24 (v := .slice ar k cr) rfl (by kernel_rfl) (fun _ _ _ h => h) (Or.inl ⟨by rfl, by (intro w' hSw; obtain ⟨x0, x1, x2, x3, x4, x5, x6⟩ := hSw; go_simp)⟩) (hn ([] ++ (Rr ++ (Rb ++ Rd))) _ (H0.out.lit (by simp))) ?_
  (try simp only [Act.put, List.getElem_toArray, List.getElem_cons_zero, List.getElem_cons_succ, List.setIfInBounds_toArray, List.set_cons_zero, List.set_cons_succ])
  refine wpAnyT_take (i := 1) 24 (v := .slice (some ⟨ga, 0, none⟩) m ca) rfl (by kernel_rfl) (fun _ _ _ h => h) (Or.inl ⟨by rfl, by (intro w' hSw; obtain ⟨x0, x1, x2, x3, x4, x5, x6⟩ := hSw; go_simp)⟩) (hn ([] ++ (Rr ++ (Rb ++ Rd))) _ (H0.out.lit (by simp))) ?_
  (try simp only [Act.put, List.getElem_toArray, List.getElem_cons_zero, List.getElem_cons_succ, List.setIfInBounds_toArray, List.set_cons_zero, List.set_cons_succ])
  refine wpAnyT_take (i := 2) 24 (v := .int .i64 k) rfl (by kernel_rfl) (fun _ _ _ h => h) (Or.inl ⟨by rfl, by (intro w' hSw; obtain ⟨x0, x1, x2, x3, x4, x5, x6⟩ := hSw; go_simp)⟩) (hn ([] ++ (Rr ++ (Rb ++ Rd))) _ (H0.out.lit (by simp))) ?_
  (try simp only [Act.put, List.getElem_toArray, List.getElem_cons_zero, List.getElem_cons_succ, List.setIfInBounds_toArray, List.set_cons_zero, List.set_cons_succ])
  refine wpAnyT_take (i := 3) 24 (v := .pointer (some ⟨ga, k * 7, none⟩)) rfl (by kernel_rfl) (fun _ _ _ h => h) (Or.inl ⟨by rfl, by (intro w' hSw; obtain ⟨x0, x1, x2, x3, x4, x5, x6⟩ := hSw; go_simp)⟩) (hn ([] ++ (Rr ++ (Rb ++ Rd))) _ (H0.out.lit (by simp))) ?_
  (try simp only [Act.put, List.getElem_toArray, List.getElem_cons_zero, List.getElem_cons_succ, List.setIfInBounds_toArray, List.set_cons_zero, List.set_cons_succ])
  refine wpAnyT_take (i := 4) 24 (v := .pointer (some ⟨ga, k * 7, none⟩)) rfl (by kernel_rfl) (fun _ _ _ h => h) (Or.inl ⟨by rfl, by (intro w' hSw; obtain ⟨x0, x1, x2, x3, x4, x5, x6⟩ := hSw; go_simp)⟩) (hn ([] ++ (Rr ++ (Rb ++ Rd))) _ (H0.out.lit (by simp))) ?_
  (try simp only [Act.put, List.getElem_toArray, List.getElem_cons_zero, List.getElem_cons_succ, List.setIfInBounds_toArray, List.set_cons_zero, List.set_cons_succ])
  refine wpAnyT_take (i := 5) 24 (v := .pointer (some ⟨ga, k * 7, none⟩)) rfl (by kernel_rfl) (fun _ _ _ h => h) (Or.inl ⟨by rfl, by (intro w' hSw; obtain ⟨x0, x1, x2, x3, x4, x5, x6⟩ := hSw; go_simp)⟩) (hn ([] ++ (Rr ++ (Rb ++ Rd))) _ (H0.out.lit (by simp))) ?_
  (try simp only [Act.put, List.getElem_toArray, List.getElem_cons_zero, List.getElem_cons_succ, List.setIfInBounds_toArray, List.set_cons_zero, List.set_cons_succ])
  refine wpAnyT_take (i := 6) 24 (v := .int .i64 r) rfl (by kernel_rfl) (fun _ _ _ h => h) (Or.inl ⟨by rfl, by (intro w' hSw; obtain ⟨x0, x1, x2, x3, x4, x5, x6⟩ := hSw; go_simp)⟩) (hn ([] ++ (Rr ++ (Rb ++ Rd))) _ (H0.out.lit (by simp))) ?_
  (try simp only [Act.put, List.getElem_toArray, List.getElem_cons_zero, List.getElem_cons_succ, List.setIfInBounds_toArray, List.set_cons_zero, List.set_cons_succ])
  refine wpAnyT_take (i := 9) 24 (v := .slice ab k cb) rfl (by kernel_rfl) (fun _ _ _ h => h) (Or.inl ⟨by rfl, by (intro w' hSw; obtain ⟨x0, x1, x2, x3, x4, x5, x6⟩ := hSw; go_simp)⟩) (hn ([] ++ (Rr ++ (Rb ++ Rd))) _ (H0.out.lit (by simp))) ?_
  (try simp only [Act.put, List.getElem_toArray, List.getElem_cons_zero, List.getElem_cons_succ, List.setIfInBounds_toArray, List.set_cons_zero, List.set_cons_succ])
  refine wpAnyT_take (i := 10) 24 (v := .slice (some ⟨ga, 0, none⟩) m ca) rfl (by kernel_rfl) (fun _ _ _ h => h) (Or.inl ⟨by rfl, by (intro w' hSw; obtain ⟨x0, x1, x2, x3, x4, x5, x6⟩ := hSw; go_simp)⟩) (hn ([] ++ (Rr ++ (Rb ++ Rd))) _ (H0.out.lit (by simp))) ?_
  (try simp only [Act.put, List.getElem_toArray, List.getElem_cons_zero, List.getElem_cons_succ, List.setIfInBounds_toArray, List.set_cons_zero, List.set_cons_succ])
  refine wpAnyT_take (i := 11) 24 (v := .int .i64 k) rfl (by kernel_rfl) (fun _ _ _ h => h) (Or.inl ⟨by rfl, by (intro w' hSw; obtain ⟨x0, x1, x2, x3, x4, x5, x6⟩ := hSw; go_simp)⟩) (hn ([] ++ (Rr ++ (Rb ++ Rd))) _ (H0.out.lit (by simp))) ?_
  (try simp only [Act.put, List.getElem_toArray, List.getElem_cons_zero, List.getElem_cons_succ, List.setIfInBounds_toArray, List.set_cons_zero, List.set_cons_succ])
  refine wpAnyT_take (i := 12) 24 (v := .pointer (some ⟨ga, k * 7, none⟩)) rfl (by kernel_rfl) (fun _ _ _ h => h) (Or.inl ⟨by rfl, by (intro w' hSw; obtain ⟨x0, x1, x2, x3, x4, x5, x6⟩ := hSw; go_simp)⟩) (hn ([] ++ (Rr ++ (Rb ++ Rd))) _ (H0.out.lit (by simp))) ?_
  (try simp only [Act.put, List.getElem_toArray, List.getElem_cons_zero, List.getElem_cons_succ, List.setIfInBounds_toArray, List.set_cons_zero, List.set_cons_succ])
  refine wpAnyT_take (i := 13) 24 (v := nv r og rt pi pj sh dn) rfl (by kernel_rfl) (fun _ _ _ h => h) (Or.inl ⟨by rfl, by (intro w' hSw; obtain ⟨x0, x1, x2, x3, x4, x5, x6⟩ := hSw; go_simp)⟩) (hn ([] ++ (Rr ++ (Rb ++ Rd))) _ (H0.out.lit (by simp))) ?_
  (try simp only [Act.put, List.getElem_toArray, List.getElem_cons_zero, List.getElem_cons_succ, List.setIfInBounds_toArray, List.set_cons_zero, List.set_cons_succ])
  refine wpAnyT_take (i := 17) 24 (v := .slice ad k cd) rfl (by kernel_rfl) (fun _ _ _ h => h) (Or.inl ⟨by rfl, by (intro w' hSw; obtain ⟨x0, x1, x2, x3, x4, x5, x6⟩ := hSw; go_simp)⟩) (hn ([] ++ (Rr ++ (Rb ++ Rd))) _ (H0.out.lit (by simp))) ?_
  (try simp only [Act.put, List.getElem_toArray, List.getElem_cons_zero, List.getElem_cons_succ, List.setIfInBounds_toArray, List.set_cons_zero, List.set_cons_succ])
  refine wpAnyT_take (i := 18) 24 (v := .slice (some ⟨ga, 0, none⟩) m ca) rfl (by kernel_rfl) (fun _ _ _ h => h) (Or.inl ⟨by rfl, by (intro w' hSw; obtain ⟨x0, x1, x2, x3, x4, x5, x6⟩ := hSw; go_simp)⟩) (hn ([] ++ (Rr ++ (Rb ++ Rd))) _ (H0.out.lit (by simp))) ?_
  (try simp only [Act.put, List.getElem_toArray, List.getElem_cons_zero, List.getElem_cons_succ, List.setIfInBounds_toArray, List.set_cons_zero, List.set_cons_succ])
  refine wpAnyT_take (i := 19) 24 (v := .int .i64 k) rfl (by kernel_rfl) (fun _ _ _ h => h) (Or.inl ⟨by rfl, by (intro w' hSw; obtain ⟨x0, x1, x2, x3, x4, x5, x6⟩ := hSw; go_simp)⟩) (hn ([] ++ (Rr ++ (Rb ++ Rd))) _ (H0.out.lit (by simp))) ?_
  (try simp only [Act.put, List.getElem_toArray, List.getElem_cons_zero, List.getElem_cons_succ, List.setIfInBounds_toArray, List.set_cons_zero, List.set_cons_succ])
  refine wpAnyT_take (i := 20) 24 (v := .pointer (some ⟨ga, k * 7, none⟩)) rfl (by kernel_rfl) (fun _ _ _ h => h) (Or.inl ⟨by rfl, by (intro w' hSw; obtain ⟨x0, x1, x2, x3, x4, x5, x6⟩ := hSw; go_simp)⟩) (hn ([] ++ (Rr ++ (Rb ++ Rd))) _ (H0.out.lit (by simp))) ?_
  (try simp only [Act.put, List.getElem_toArray, List.getElem_cons_zero, List.getElem_cons_succ, List.setIfInBounds_toArray, List.set_cons_zero, List.set_cons_succ])
  refine wpAnyT_take (i := 21) 24 (v := .pointer (some ⟨ga, k * 7 + 6, none⟩)) rfl (by kernel_rfl) (fun _ _ _ h => h) (Or.inl ⟨by rfl, by (intro w' hSw; obtain ⟨x0, x1, x2, x3, x4, x5, x6⟩ := hSw; go_simp)⟩) (hn ([] ++ (Rr ++ (Rb ++ Rd))) _ (H0.out.lit (by simp))) ?_
  (try simp only [Act.put, List.getElem_toArray, List.getElem_cons_zero, List.getElem_cons_succ, List.setIfInBounds_toArray, List.set_cons_zero, List.set_cons_succ])
  refine wpAnyT_take (i := 22) 24 (v := .int .i64 dn) rfl (by kernel_rfl) (fun _ _ _ h => h) (Or.inl ⟨by rfl, by (intro w' hSw; obtain ⟨x0, x1, x2, x3, x4, x5, x6⟩ := hSw; go_simp)⟩) (hn ([] ++ (Rr ++ (Rb ++ Rd))) _ (H0.out.lit (by simp))) ?_
  (try simp only [Act.put, List.getElem_toArray, List.getElem_cons_zero, List.getElem_cons_succ, List.setIfInBounds_toArray, List.set_cons_zero, List.set_cons_succ])
  refine wpAnyT_two 7 23 rfl rfl (by kernel_rfl) ?_ ?_
  · (try simp only [List.getElem_toArray, List.getElem_cons_zero, List.getElem_cons_succ])
    have H1 := Lib.hid (H0.out.ins (g := wq.heap.size) [] (Rr ++ (Rb ++ (Rd ++ OO))) rfl #[.int .i64 r] 3)
    go_wp2_with fail
    generalize hw1 : World.alloc wq _ = wn1 at *
    generalize hg1 : wq.heap.size = gn1 at *
    refine kq_in ⟨(hn ([(gn1, #[.int .i64 r], 3)] ++ (Rr ++ (Rb ++ Rd))) _ (H1.out.lit (by simp))), ?_⟩
    refine wpAnyT_two 8 23 rfl rfl (by kernel_rfl) ?_ ?_
    · (try simp only [List.getElem_toArray, List.getElem_cons_zero, List.getElem_cons_succ])
      go_wp2_with (at_builtin; refine row_append rfl (.tmp 35) (.tmp 42) 45 rfl [(gn1, #[.int .i64 r], 3)] (Rb ++ (Rd ++ OO)) Try.underlying45 hi hz hs1 hs2 rfl (by omega) hR (H1.out.lit (by simp)) rfl rfl (Src.blk (size := 1) (m := 1) (H1.out.at_ 0 rfl) rfl) (ivs_one [r]) (by omega) (by omega) ?_; rintro R2 a2 c2 wn2 hR2 hS2')
      have H2 := Lib.hid (hS2'.lit (L' := [(gn1, #[.int .i64 r], 3)] ++ (R2 ++ (Rb ++ (Rd ++ OO)))) (by simp))
      clear hS2'
      refine kq_in ⟨(hn ([(gn1, #[.int .i64 r], 3)] ++ (R2 ++ (Rb ++ Rd))) _ (H2.out.lit (by simp))), ?_⟩
      refine wpAnyT_two 14 23 rfl rfl (by kernel_rfl) ?_ ?_
      · (try simp only [List.getElem_toArray, List.getElem_cons_zero, List.getElem_cons_succ])
        go_wp2_with fail
        refine (hB _).mono ?_
        rintro e wn3 ⟨rfl, hb3⟩
        have H3 := Lib.hid (H2.out.below hb3)
        clear hb3
        go_wp2_with fail
        refine kq_in ⟨(hn ([(gn1, #[.int .i64 r], 3)] ++ (R2 ++ (Rb ++ Rd))) _ (H3.out.lit (by simp))), ?_⟩
        refine wpAnyT_two 15 23 rfl rfl (by kernel_rfl) ?_ ?_
        · (try simp only [List.getElem_toArray, List.getElem_cons_zero, List.getElem_cons_succ])
          have H4 := Lib.hid (H3.out.ins (g := wn3.heap.size) [(gn1, #[.int .i64 r], 3)] (R2 ++ (Rb ++ (Rd ++ OO))) rfl #[.int .i64 bl] 3)
          go_wp2_with fail
          generalize hw4 : World.alloc wn3 _ = wn4 at *
          generalize hg4 : wn3.heap.size = gn4 at *
          refine kq_in ⟨(hn ([(gn1, #[.int .i64 r], 3), (gn4, #[.int .i64 bl], 3)] ++ (R2 ++ (Rb ++ Rd))) _ (H4.out.lit (by simp))), ?_⟩
          refine wpAnyT_two 16 23 rfl rfl (by kernel_rfl) ?_ ?_
          · (try simp only [List.getElem_toArray, List.getElem_cons_zero, List.getElem_cons_succ])
            go_wp2_with (at_builtin; refine row_append rfl (.tmp 44) (.tmp 50) 45 rfl ([(gn1, #[.int .i64 r], 3), (gn4, #[.int .i64 bl], 3)] ++ R2) (Rd ++ OO) Try.underlying45 hi hz hs1 hs2 rfl (by omega) hRb (H4.out.lit (by simp)) rfl rfl (Src.blk (size := 1) (m := 1) (H4.out.at_ 1 rfl) rfl) (ivs_one [bl]) (by omega) (by omega) ?_; rintro R5 a5 c5 wn5 hR5 hS5')
            have H5 := Lib.hid (hS5'.lit (L' := [(gn1, #[.int .i64 r], 3), (gn4, #[.int .i64 bl], 3)] ++ (R2 ++ (R5 ++ (Rd ++ OO)))) (by simp))
            clear hS5'
            refine kq_in ⟨(hn ([(gn1, #[.int .i64 r], 3), (gn4, #[.int .i64 bl], 3)] ++ (R2 ++ (R5 ++ Rd))) _ (H5.out.lit (by simp))), ?_⟩
            refine wpAnyT_one 23 rfl (by kernel_rfl) ?_
            (try simp only [List.getElem_toArray, List.getElem_cons_zero, List.getElem_cons_succ])
            have H6 := Lib.hid (H5.out.ins (g := wn5.heap.size) [(gn1, #[.int .i64 r], 3), (gn4, #[.int .i64 bl], 3)] (R2 ++ (R5 ++ (Rd ++ OO))) rfl #[.int .i64 dn] 3)
            go_wp2_with fail
            generalize hw6 : World.alloc wn5 _ = wn6 at *
            generalize hg6 : wn5.heap.size = gn6 at *
            refine kq_in ⟨(hn ([(gn1, #[.int .i64 r], 3), (gn4, #[.int .i64 bl], 3), (gn6, #[.int .i64 dn], 3)] ++ (R2 ++ (R5 ++ Rd))) _ (H6.out.lit (by simp))), ?_⟩
            refine wpAnyT_last rfl (by kernel_rfl) ?_
            (try simp only [List.getElem_toArray, List.getElem_cons_zero, List.getElem_cons_succ])
            go_wp2_with (at_builtin; refine row_append rfl (.tmp 52) (.tmp 58) 45 rfl ([(gn1, #[.int .i64 r], 3), (gn4, #[.int .i64 bl], 3), (gn6, #[.int .i64 dn], 3)] ++ (R2 ++ R5)) OO Try.underlying45 hi hz hs1 hs2 rfl (by omega) hRd (H6.out.lit (by simp)) rfl rfl (Src.blk (size := 1) (m := 1) (H6.out.at_ 2 rfl) rfl) (ivs_one [dn]) (by omega) (by omega) ?_; rintro R7 a7 c7 wn7 hR7 hS7')
            have H7 := Lib.hid (hS7'.lit (L' := [(gn1, #[.int .i64 r], 3), (gn4, #[.int .i64 bl], 3), (gn6, #[.int .i64 dn], 3)] ++ (R2 ++ (R5 ++ (R7 ++ OO)))) (by simp))
            clear hS7'
            refine kq_in ?_
            refine wpAny_one 25 rfl (by kernel_rfl) ?_
            (try simp only [List.getElem_toArray, List.getElem_cons_zero, List.getElem_cons_succ])
            go_wp2_with fail
            refine kq_in ?_
            refine wpAny_one 26 rfl (by kernel_rfl) ?_
            (try simp only [List.getElem_toArray, List.getElem_cons_zero, List.getElem_cons_succ])
            go_wp2_with fail
            refine kq_in ?_
            refine wpAny_one 27 rfl (by kernel_rfl) ?_
            (try simp only [List.getElem_toArray, List.getElem_cons_zero, List.getElem_cons_succ])
            go_wp2_with fail
            refine kq_in ?_
            refine wpAny_done (by kernel_rfl) ?_ _
            go_wp2_with fail
            exact hK _ _ _ _ _ _ _ _ _ _ _ _ _ _ _ _ _ _ _ _ _ _ _ _ _ _ _ _ _ _ _ _ _ _ _ (by rw [ivs_app]; exact hR2) (by rw [ivs_app]; exact hR5) (by rw [ivs_app]; exact hR7) (Lib.hid (H7.out.sub (List.sublist_append_right _ _)))
          · (try simp only [List.getElem_toArray, List.getElem_cons_zero, List.getElem_cons_succ])
            have H8 := Lib.hid (H4.out.ins (g := wn4.heap.size) [(gn1, #[.int .i64 r], 3), (gn4, #[.int .i64 bl], 3)] (R2 ++ (Rb ++ (Rd ++ OO))) rfl #[.int .i64 dn] 3)
            go_wp2_with fail
            generalize hw8 : World.alloc wn4 _ = wn8 at *
            generalize hg8 : wn4.heap.size = gn8 at *
            refine kq_in ⟨(hn ([(gn1, #[.int .i64 r], 3), (gn4, #[.int .i64 bl], 3), (gn8, #[.int .i64 dn], 3)] ++ (R2 ++ (Rb ++ Rd))) _ (H8.out.lit (by simp))), ?_⟩
            refine wpAnyT_one 16 rfl (by kernel_rfl) ?_
            (try simp only [List.getElem_toArray, List.getElem_cons_zero, List.getElem_cons_succ])
            go_wp2_with (at_builtin; refine row_append rfl (.tmp 44) (.tmp 50) 45 rfl ([(gn1, #[.int .i64 r], 3), (gn4, #[.int .i64 bl], 3), (gn8, #[.int .i64 dn], 3)] ++ R2) (Rd ++ OO) Try.underlying45 hi hz hs1 hs2 rfl (by omega) hRb (H8.out.lit (by simp)) rfl rfl (Src.blk (size := 1) (m := 1) (H8.out.at_ 1 rfl) rfl) (ivs_one [bl]) (by omega) (by omega) ?_; rintro R9 a9 c9 wn9 hR9 hS9')
            have H9 := Lib.hid (hS9'.lit (L' := [(gn1, #[.int .i64 r], 3), (gn4, #[.int .i64 bl], 3), (gn8, #[.int .i64 dn], 3)] ++ (R2 ++ (R9 ++ (Rd ++ OO)))) (by simp))
            clear hS9'
            refine kq_in ⟨(hn ([(gn1, #[.int .i64 r], 3), (gn4, #[.int .i64 bl], 3), (gn8, #[.int .i64 dn], 3)] ++ (R2 ++ (R9 ++ Rd))) _ (H9.out.lit (by simp))), ?_⟩
            refine wpAnyT_last rfl (by kernel_rfl) ?_
            (try simp only [List.getElem_toArray, List.getElem_cons_zero, List.getElem_cons_succ])
            go_wp2_with (at_builtin; refine row_append rfl (.tmp 52) (.tmp 58) 45 rfl ([(gn1, #[.int .i64 r], 3), (gn4, #[.int .i64 bl], 3), (gn8, #[.int .i64 dn], 3)] ++ (R2 ++ R9)) OO Try.underlying45 hi hz hs1 hs2 rfl (by omega) hRd (H9.out.lit (by simp)) rfl rfl (Src.blk (size := 1) (m := 1) (H9.out.at_ 2 rfl) rfl) (ivs_one [dn]) (by omega) (by omega) ?_; rintro R10 a10 c10 wn10 hR10 hS10')
            have H10 := Lib.hid (hS10'.lit (L' := [(gn1, #[.int .i64 r], 3), (gn4, #[.int .i64 bl], 3), (gn8, #[.int .i64 dn], 3)] ++ (R2 ++ (R9 ++ (R10 ++ OO)))) (by simp))
            clear hS10'
            refine kq_in ?_
            refine wpAny_one 25 rfl (by kernel_rfl) ?_
            (try simp only [List.getElem_toArray, List.getElem_cons_zero, List.getElem_cons_succ])
            go_wp2_with fail
            refine kq_in ?_
            refine wpAny_one 26 rfl (by kernel_rfl) ?_
            (try simp only [List.getElem_toArray, List.getElem_cons_zero, List.getElem_cons_succ])
            go_wp2_with fail
            refine kq_in ?_
            refine wpAny_one 27 rfl (by kernel_rfl) ?_
            (try simp only [List.getElem_toArray, List.getElem_cons_zero, List.getElem_cons_succ])
            go_wp2_with fail
            refine kq_in ?_
            refine wpAny_done (by kernel_rfl) ?_ _
            go_wp2_with fail
            exact hK _ _ _ _ _ _ _ _ _ _ _ _ _ _ _ _ _ _ _ _ _ _ _ _ _ _ _ _ _ _ _ _ _ _ _ (by rw [ivs_app]; exact hR2) (by rw [ivs_app]; exact hR9) (by rw [ivs_app]; exact hR10) (Lib.hid (H10.out.sub (List.sublist_append_right _ _)))
        · (try simp only [List.getElem_toArray, List.getElem_cons_zero, List.getElem_cons_succ])
          have H11 := Lib.hid (H3.out.ins (g := wn3.heap.size) [(gn1, #[.int .i64 r], 3)] (R2 ++ (Rb ++ (Rd ++ OO))) rfl #[.int .i64 dn] 3)
          go_wp2_with fail
          generalize hw11 : World.alloc wn3 _ = wn11 at *
          generalize hg11 : wn3.heap.size = gn11 at *
          refine kq_in ⟨(hn ([(gn1, #[.int .i64 r], 3), (gn11, #[.int .i64 dn], 3)] ++ (R2 ++ (Rb ++ Rd))) _ (H11.out.lit (by simp))), ?_⟩
          refine wpAnyT_one 15 rfl (by kernel_rfl) ?_
          (try simp only [List.getElem_toArray, List.getElem_cons_zero, List.getElem_cons_succ])
          have H12 := Lib.hid (H11.out.ins (g := wn11.heap.size) [(gn1, #[.int .i64 r], 3), (gn11, #[.int .i64 dn], 3)] (R2 ++ (Rb ++ (Rd ++ OO))) rfl #[.int .i64 bl] 3)
          go_wp2_with fail
          generalize hw12 : World.alloc wn11 _ = wn12 at *
          generalize hg12 : wn11.heap.size = gn12 at *
          refine kq_in ⟨(hn ([(gn1, #[.int .i64 r], 3), (gn11, #[.int .i64 dn], 3), (gn12, #[.int .i64 bl], 3)] ++ (R2 ++ (Rb ++ Rd))) _ (H12.out.lit (by simp))), ?_⟩
          refine wpAnyT_one 16 rfl (by kernel_rfl) ?_
          (try simp only [List.getElem_toArray, List.getElem_cons_zero, List.getElem_cons_succ])
          go_wp2_with (at_builtin; refine row_append rfl (.tmp 44) (.tmp 50) 45 rfl ([(gn1, #[.int .i64 r], 3), (gn11, #[.int .i64 dn], 3), (gn12, #[.int .i64 bl], 3)] ++ R2) (Rd ++ OO) Try.underlying45 hi hz hs1 hs2 rfl (by omega) hRb (H12.out.lit (by simp)) rfl rfl (Src.blk (size := 1) (m := 1) (H12.out.at_ 2 rfl) rfl) (ivs_one [bl]) (by omega) (by omega) ?_; rintro R13 a13 c13 wn13 hR13 hS13')
          have H13 := Lib.hid (hS13'.lit (L' := [(gn1, #[.int .i64 r], 3), (gn11, #[.int .i64 dn], 3), (gn12, #[.int .i64 bl], 3)] ++ (R2 ++ (R13 ++ (Rd ++ OO)))) (by simp))
          clear hS13'
          refine kq_in ⟨(hn ([(gn1, #[.int .i64 r], 3), (gn11, #[.int .i64 dn], 3), (gn12, #[.int .i64 bl], 3)] ++ (R2 ++ (R13 ++ Rd))) _ (H13.out.lit (by simp))), ?_⟩
          refine wpAnyT_last rfl (by kernel_rfl) ?_
          (try simp only [List.getElem_toArray, List.getElem_cons_zero, List.getElem_cons_succ])
          go_wp2_with (at_builtin; refine row_append rfl (.tmp 52) (.tmp 58) 45 rfl ([(gn1, #[.int .i64 r], 3), (gn11, #[.int .i64 dn], 3), (gn12, #[.int .i64 bl], 3)] ++ (R2 ++ R13)) OO Try.underlying45 hi hz hs1 hs2 rfl (by omega) hRd (H13.out.lit (by simp)) rfl rfl (Src.blk (size := 1) (m := 1) (H13.out.at_ 1 rfl) rfl) (ivs_one [dn]) (by omega) (by omega) ?_; rintro R14 a14 c14 wn14 hR14 hS14')
          have H14 := Lib.hid (hS14'.lit (L' := [(gn1, #[.int .i64 r], 3), (gn11, #[.int .i64 dn], 3), (gn12, #[.int .i64 bl], 3)] ++ (R2 ++ (R13 ++ (R14 ++ OO)))) (by simp))
          clear hS14'
          refine kq_in ?_
          refine wpAny_one 25 rfl (by kernel_rfl) ?_
          (try simp only [List.getElem_toArray, List.getElem_cons_zero, List.getElem_cons_succ])
          go_wp2_with fail
          refine kq_in ?_
          refine wpAny_one 26 rfl (by kernel_rfl) ?_
          (try simp only [List.getElem_toArray, List.getElem_cons_zero, List.getElem_cons_succ])
          go_wp2_with fail
          refine kq_in ?_
          refine wpAny_one 27 rfl (by kernel_rfl) ?_
          (try simp only [List.getElem_toArray, List.getElem_cons_zero, List.getElem_cons_succ])
          go_wp2_with fail
          refine kq_in ?_
          refine wpAny_done (by kernel_rfl) ?_ _
          go_wp2_with fail
          exact hK _ _ _ _ _ _ _ _ _ _ _ _ _ _ _ _ _ _ _ _ _ _ _ _ _ _ _ _ _ _ _ _ _ _ _ (by rw [ivs_app]; exact hR2) (by rw [ivs_app]; exact hR13) (by rw [ivs_app]; exact hR14) (Lib.hid (H14.out.sub (List.sublist_append_right _ _)))
      · (try simp only [List.getElem_toArray, List.getElem_cons_zero, List.getElem_cons_succ])
        have H15 := Lib.hid (H2.out.ins (g := wn2.heap.size) [(gn1, #[.int .i64 r], 3)] (R2 ++ (Rb ++ (Rd ++ OO))) rfl #[.int .i64 dn] 3)
        go_wp2_with fail
        generalize hw15 : World.alloc wn2 _ = wn15 at *
        generalize hg15 : wn2.heap.size = gn15 at *
        refine kq_in ⟨(hn ([(gn1, #[.int .i64 r], 3), (gn15, #[.int .i64 dn], 3)] ++ (R2 ++ (Rb ++ Rd))) _ (H15.out.lit (by simp))), ?_⟩
        refine wpAnyT_one 14 rfl (by kernel_rfl) ?_
        (try simp only [List.getElem_toArray, List.getElem_cons_zero, List.getElem_cons_succ])
        go_wp2_with fail
        refine (hB _).mono ?_
        rintro e wn16 ⟨rfl, hb16⟩
        have H16 := Lib.hid (H15.out.below hb16)
        clear hb16
        go_wp2_with fail
        refine kq_in ⟨(hn ([(gn1, #[.int .i64 r], 3), (gn15, #[.int .i64 dn], 3)] ++ (R2 ++ (Rb ++ Rd))) _ (H16.out.lit (by simp))), ?_⟩
        refine wpAnyT_one 15 rfl (by kernel_rfl) ?_
        (try simp only [List.getElem_toArray, List.getElem_cons_zero, List.getElem_cons_succ])
        have H17 := Lib.hid (H16.out.ins (g := wn16.heap.size) [(gn1, #[.int .i64 r], 3), (gn15, #[.int .i64 dn], 3)] (R2 ++ (Rb ++ (Rd ++ OO))) rfl #[.int .i64 bl] 3)
        go_wp2_with fail
        generalize hw17 : World.alloc wn16 _ = wn17 at *
        generalize hg17 : wn16.heap.size = gn17 at *
        refine kq_in ⟨(hn ([(gn1, #[.int .i64 r], 3), (gn15, #[.int .i64 dn], 3), (gn17, #[.int .i64 bl], 3)] ++ (R2 ++ (Rb ++ Rd))) _ (H17.out.lit (by simp))), ?_⟩
        refine wpAnyT_one 16 rfl (by kernel_rfl) ?_
        (try simp only [List.getElem_toArray, List.getElem_cons_zero, List.getElem_cons_succ])
        go_wp2_with (at_builtin; refine row_append rfl (.tmp 44) (.tmp 50) 45 rfl ([(gn1, #[.int .i64 r], 3), (gn15, #[.int .i64 dn], 3), (gn17, #[.int .i64 bl], 3)] ++ R2) (Rd ++ OO) Try.underlying45 hi hz hs1 hs2 rfl (by omega) hRb (H17.out.lit (by simp)) rfl rfl (Src.blk (size := 1) (m := 1) (H17.out.at_ 2 rfl) rfl) (ivs_one [bl]) (by omega) (by omega) ?_; rintro R18 a18 c18 wn18 hR18 hS18')
        have H18 := Lib.hid (hS18'.lit (L' := [(gn1, #[.int .i64 r], 3), (gn15, #[.int .i64 dn], 3), (gn17, #[.int .i64 bl], 3)] ++ (R2 ++ (R18 ++ (Rd ++ OO)))) (by simp))
        clear hS18'
        refine kq_in ⟨(hn ([(gn1, #[.int .i64 r], 3), (gn15, #[.int .i64 dn], 3), (gn17, #[.int .i64 bl], 3)] ++ (R2 ++ (R18 ++ Rd))) _ (H18.out.lit (by simp))), ?_⟩
        refine wpAnyT_last rfl (by kernel_rfl) ?_
        (try simp only [List.getElem_toArray, List.getElem_cons_zero, List.getElem_cons_succ])
        go_wp2_with (at_builtin; refine row_append rfl (.tmp 52) (.tmp 58) 45 rfl ([(gn1, #[.int .i64 r], 3), (gn15, #[.int .i64 dn], 3), (gn17, #[.int .i64 bl], 3)] ++ (R2 ++ R18)) OO Try.underlying45 hi hz hs1 hs2 rfl (by omega) hRd (H18.out.lit (by simp)) rfl rfl (Src.blk (size := 1) (m := 1) (H18.out.at_ 1 rfl) rfl) (ivs_one [dn]) (by omega) (by omega) ?_; rintro R19 a19 c19 wn19 hR19 hS19')
        have H19 := Lib.hid (hS19'.lit (L' := [(gn1, #[.int .i64 r], 3), (gn15, #[.int .i64 dn], 3), (gn17, #[.int .i64 bl], 3)] ++ (R2 ++ (R18 ++ (R19 ++ OO)))) (by simp))
        clear hS19'
        refine kq_in ?_
        refine wpAny_one 25 rfl (by kernel_rfl) ?_
        (try simp only [List.getElem_toArray, List.getElem_cons_zero, List.getElem_cons_succ])
        go_wp2_with fail
        refine kq_in ?_
        refine wpAny_one 26 rfl (by kernel_rfl) ?_
        (try simp only [List.getElem_toArray, List.getElem_cons_zero, List.getElem_cons_succ])
        go_wp2_with fail
        refine kq_in ?_
        refine wpAny_one 27 rfl (by kernel_rfl) ?_
        (try simp only [List.getElem_toArray, List.getElem_cons_zero, List.getElem_cons_succ])
        go_wp2_with fail
        refine kq_in ?_
        refine wpAny_done (by kernel_rfl) ?_ _
        go_wp2_with fail
        exact hK _ _ _ _ _ _ _ _ _ _ _ _ _ _ _ _ _ _ _ _ _ _ _ _ _ _ _ _ _ _ _ _ _ _ _ (by rw [ivs_app]; exact hR2) (by rw [ivs_app]; exact hR18) (by rw [ivs_app]; exact hR19) (Lib.hid (H19.out.sub (List.sublist_append_right _ _)))
    · (try simp only [List.getElem_toArray, List.getElem_cons_zero, List.getElem_cons_succ])
      have H20 := Lib.hid (H1.out.ins (g := wn1.heap.size) [(gn1, #[.int .i64 r], 3)] (Rr ++ (Rb ++ (Rd ++ OO))) rfl #[.int .i64 dn] 3)
      go_wp2_with fail
      generalize hw20 : World.alloc wn1 _ = wn20 at *
      generalize hg20 : wn1.heap.size = gn20 at *
      refine kq_in ⟨(hn ([(gn1, #[.int .i64 r], 3), (gn20, #[.int .i64 dn], 3)] ++ (Rr ++ (Rb ++ Rd))) _ (H20.out.lit (by simp))), ?_⟩
      refine wpAnyT_one 8 rfl (by kernel_rfl) ?_
      (try simp only [List.getElem_toArray, List.getElem_cons_zero, List.getElem_cons_succ])
      go_wp2_with (at_builtin; refine row_append rfl (.tmp 35) (.tmp 42) 45 rfl [(gn1, #[.int .i64 r], 3), (gn20, #[.int .i64 dn], 3)] (Rb ++ (Rd ++ OO)) Try.underlying45 hi hz hs1 hs2 rfl (by omega) hR (H20.out.lit (by simp)) rfl rfl (Src.blk (size := 1) (m := 1) (H20.out.at_ 0 rfl) rfl) (ivs_one [r]) (by omega) (by omega) ?_; rintro R21 a21 c21 wn21 hR21 hS21')
      have H21 := Lib.hid (hS21'.lit (L' := [(gn1, #[.int .i64 r], 3), (gn20, #[.int .i64 dn], 3)] ++ (R21 ++ (Rb ++ (Rd ++ OO)))) (by simp))
      clear hS21'
      refine kq_in ⟨(hn ([(gn1, #[.int .i64 r], 3), (gn20, #[.int .i64 dn], 3)] ++ (R21 ++ (Rb ++ Rd))) _ (H21.out.lit (by simp))), ?_⟩
      refine wpAnyT_one 14 rfl (by kernel_rfl) ?_
      (try simp only [List.getElem_toArray, List.getElem_cons_zero, List.getElem_cons_succ])
      go_wp2_with fail
      refine (hB _).mono ?_
      rintro e wn22 ⟨rfl, hb22⟩
      have H22 := Lib.hid (H21.out.below hb22)
      clear hb22
      go_wp2_with fail
      refine kq_in ⟨(hn ([(gn1, #[.int .i64 r], 3), (gn20, #[.int .i64 dn], 3)] ++ (R21 ++ (Rb ++ Rd))) _ (H22.out.lit (by simp))), ?_⟩
      refine wpAnyT_one 15 rfl (by kernel_rfl) ?_
      (try simp only [List.getElem_toArray, List.getElem_cons_zero, List.getElem_cons_succ])
      have H23 := Lib.hid (H22.out.ins (g := wn22.heap.size) [(gn1, #[.int .i64 r], 3), (gn20, #[.int .i64 dn], 3)] (R21 ++ (Rb ++ (Rd ++ OO))) rfl #[.int .i64 bl] 3)
      go_wp2_with fail
      generalize hw23 : World.alloc wn22 _ = wn23 at *
      generalize hg23 : wn22.heap.size = gn23 at *
      refine kq_in ⟨(hn ([(gn1, #[.int .i64 r], 3), (gn20, #[.int .i64 dn], 3), (gn23, #[.int .i64 bl], 3)] ++ (R21 ++ (Rb ++ Rd))) _ (H23.out.lit (by simp))), ?_⟩
      refine wpAnyT_one 16 rfl (by kernel_rfl) ?_
      (try simp only [List.getElem_toArray, List.getElem_cons_zero, List.getElem_cons_succ])
      go_wp2_with (at_builtin; refine row_append rfl (.tmp 44) (.tmp 50) 45 rfl ([(gn1, #[.int .i64 r], 3), (gn20, #[.int .i64 dn], 3), (gn23, #[.int .i64 bl], 3)] ++ R21) (Rd ++ OO) Try.underlying45 hi hz hs1 hs2 rfl (by omega) hRb (H23.out.lit (by simp)) rfl rfl (Src.blk (size := 1) (m := 1) (H23.out.at_ 2 rfl) rfl) (ivs_one [bl]) (by omega) (by omega) ?_; rintro R24 a24 c24 wn24 hR24 hS24')
      have H24 := Lib.hid (hS24'.lit (L' := [(gn1, #[.int .i64 r], 3), (gn20, #[.int .i64 dn], 3), (gn23, #[.int .i64 bl], 3)] ++ (R21 ++ (R24 ++ (Rd ++ OO)))) (by simp))
      clear hS24'
      refine kq_in ⟨(hn ([(gn1, #[.int .i64 r], 3), (gn20, #[.int .i64 dn], 3), (gn23, #[.int .i64 bl], 3)] ++ (R21 ++ (R24 ++ Rd))) _ (H24.out.lit (by simp))), ?_⟩
      refine wpAnyT_last rfl (by kernel_rfl) ?_
      (try simp only [List.getElem_toArray, List.getElem_cons_zero, List.getElem_cons_succ])
      go_wp2_with (at_builtin; refine row_append rfl (.tmp 52) (.tmp 58) 45 rfl ([(gn1, #[.int .i64 r], 3), (gn20, #[.int .i64 dn], 3), (gn23, #[.int .i64 bl], 3)] ++ (R21 ++ R24)) OO Try.underlying45 hi hz hs1 hs2 rfl (by omega) hRd (H24.out.lit (by simp)) rfl rfl (Src.blk (size := 1) (m := 1) (H24.out.at_ 1 rfl) rfl) (ivs_one [dn]) (by omega) (by omega) ?_; rintro R25 a25 c25 wn25 hR25 hS25')
      have H25 := Lib.hid (hS25'.lit (L' := [(gn1, #[.int .i64 r], 3), (gn20, #[.int .i64 dn], 3), (gn23, #[.int .i64 bl], 3)] ++ (R21 ++ (R24 ++ (R25 ++ OO)))) (by simp))
      clear hS25'
      refine kq_in ?_
      refine wpAny_one 25 rfl (by kernel_rfl) ?_
      (try simp only [List.getElem_toArray, List.getElem_cons_zero, List.getElem_cons_succ])
      go_wp2_with fail
      refine kq_in ?_
      refine wpAny_one 26 rfl (by kernel_rfl) ?_
      (try simp only [List.getElem_toArray, List.getElem_cons_zero, List.getElem_cons_succ])
      go_wp2_with fail
      refine kq_in ?_
      refine wpAny_one 27 rfl (by kernel_rfl) ?_
      (try simp only [List.getElem_toArray, List.getElem_cons_zero, List.getElem_cons_succ])
      go_wp2_with fail
      refine kq_in ?_
      refine wpAny_done (by kernel_rfl) ?_ _
      go_wp2_with fail
      exact hK _ _ _ _ _ _ _ _ _ _ _ _ _ _ _ _ _ _ _ _ _ _ _ _ _ _ _ _ _ _ _ _ _ _ _ (by rw [ivs_app]; exact hR21) (by rw [ivs_app]; exact hR24) (by rw [ivs_app]; exact hR25) (Lib.hid (H25.out.sub (List.sublist_append_right _ _)))
  · (try simp only [List.getElem_toArray, List.getElem_cons_zero, List.getElem_cons_succ])
    have H26 := Lib.hid (H0.out.ins (g := wq.heap.size) [] (Rr ++ (Rb ++ (Rd ++ OO))) rfl #[.int .i64 dn] 3)
    go_wp2_with fail
    generalize hw26 : World.alloc wq _ = wn26 at *
    generalize hg26 : wq.heap.size = gn26 at *
    refine kq_in ⟨(hn ([(gn26, #[.int .i64 dn], 3)] ++ (Rr ++ (Rb ++ Rd))) _ (H26.out.lit (by simp))), ?_⟩
    refine wpAnyT_one 7 rfl (by kernel_rfl) ?_
    (try simp only [List.getElem_toArray, List.getElem_cons_zero, List.getElem_cons_succ])
    have H27 := Lib.hid (H26.out.ins (g := wn26.heap.size) [(gn26, #[.int .i64 dn], 3)] (Rr ++ (Rb ++ (Rd ++ OO))) rfl #[.int .i64 r] 3)
    go_wp2_with fail
    generalize hw27 : World.alloc wn26 _ = wn27 at *
    generalize hg27 : wn26.heap.size = gn27 at *
    refine kq_in ⟨(hn ([(gn26, #[.int .i64 dn], 3), (gn27, #[.int .i64 r], 3)] ++ (Rr ++ (Rb ++ Rd))) _ (H27.out.lit (by simp))), ?_⟩
    refine wpAnyT_one 8 rfl (by kernel_rfl) ?_
    (try simp only [List.getElem_toArray, List.getElem_cons_zero, List.getElem_cons_succ])
    go_wp2_with (at_builtin; refine row_append rfl (.tmp 35) (.tmp 42) 45 rfl [(gn26, #[.int .i64 dn], 3), (gn27, #[.int .i64 r], 3)] (Rb ++ (Rd ++ OO)) Try.underlying45 hi hz hs1 hs2 rfl (by omega) hR (H27.out.lit (by simp)) rfl rfl (Src.blk (size := 1) (m := 1) (H27.out.at_ 1 rfl) rfl) (ivs_one [r]) (by omega) (by omega) ?_; rintro R28 a28 c28 wn28 hR28 hS28')
    have H28 := Lib.hid (hS28'.lit (L' := [(gn26, #[.int .i64 dn], 3), (gn27, #[.int .i64 r], 3)] ++ (R28 ++ (Rb ++ (Rd ++ OO)))) (by simp))
    clear hS28'
    refine kq_in ⟨(hn ([(gn26, #[.int .i64 dn], 3), (gn27, #[.int .i64 r], 3)] ++ (R28 ++ (Rb ++ Rd))) _ (H28.out.lit (by simp))), ?_⟩
    refine wpAnyT_one 14 rfl (by kernel_rfl) ?_
    (try simp only [List.getElem_toArray, List.getElem_cons_zero, List.getElem_cons_succ])
    go_wp2_with fail
    refine (hB _).mono ?_
    rintro e wn29 ⟨rfl, hb29⟩
    have H29 := Lib.hid (H28.out.below hb29)
    clear hb29
    go_wp2_with fail
    refine kq_in ⟨(hn ([(gn26, #[.int .i64 dn], 3), (gn27, #[.int .i64 r], 3)] ++ (R28 ++ (Rb ++ Rd))) _ (H29.out.lit (by simp))), ?_⟩
    refine wpAnyT_one 15 rfl (by kernel_rfl) ?_
    (try simp only [List.getElem_toArray, List.getElem_cons_zero, List.getElem_cons_succ])
    have H30 := Lib.hid (H29.out.ins (g := wn29.heap.size) [(gn26, #[.int .i64 dn], 3), (gn27, #[.int .i64 r], 3)] (R28 ++ (Rb ++ (Rd ++ OO))) rfl #[.int .i64 bl] 3)
    go_wp2_with fail
    generalize hw30 : World.alloc wn29 _ = wn30 at *
    generalize hg30 : wn29.heap.size = gn30 at *
    refine kq_in ⟨(hn ([(gn26, #[.int .i64 dn], 3), (gn27, #[.int .i64 r], 3), (gn30, #[.int .i64 bl], 3)] ++ (R28 ++ (Rb ++ Rd))) _ (H30.out.lit (by simp))), ?_⟩
    refine wpAnyT_one 16 rfl (by kernel_rfl) ?_
    (try simp only [List.getElem_toArray, List.getElem_cons_zero, List.getElem_cons_succ])
    go_wp2_with (at_builtin; refine row_append rfl (.tmp 44) (.tmp 50) 45 rfl ([(gn26, #[.int .i64 dn], 3), (gn27, #[.int .i64 r], 3), (gn30, #[.int .i64 bl], 3)] ++ R28) (Rd ++ OO) Try.underlying45 hi hz hs1 hs2 rfl (by omega) hRb (H30.out.lit (by simp)) rfl rfl (Src.blk (size := 1) (m := 1) (H30.out.at_ 2 rfl) rfl) (ivs_one [bl]) (by omega) (by omega) ?_; rintro R31 a31 c31 wn31 hR31 hS31')
    have H31 := Lib.hid (hS31'.lit (L' := [(gn26, #[.int .i64 dn], 3), (gn27, #[.int .i64 r], 3), (gn30, #[.int .i64 bl], 3)] ++ (R28 ++ (R31 ++ (Rd ++ OO)))) (by simp))
    clear hS31'
    refine kq_in ⟨(hn ([(gn26, #[.int .i64 dn], 3), (gn27, #[.int .i64 r], 3), (gn30, #[.int .i64 bl], 3)] ++ (R28 ++ (R31 ++ Rd))) _ (H31.out.lit (by simp))), ?_⟩
    refine wpAnyT_last rfl (by kernel_rfl) ?_
    (try simp only [List.getElem_toArray, List.getElem_cons_zero, List.getElem_cons_succ])
    go_wp2_with (at_builtin; refine row_append rfl (.tmp 52) (.tmp 58) 45 rfl ([(gn26, #[.int .i64 dn], 3), (gn27, #[.int .i64 r], 3), (gn30, #[.int .i64 bl], 3)] ++ (R28 ++ R31)) OO Try.underlying45 hi hz hs1 hs2 rfl (by omega) hRd (H31.out.lit (by simp)) rfl rfl (Src.blk (size := 1) (m := 1) (H31.out.at_ 0 rfl) rfl) (ivs_one [dn]) (by omega) (by omega) ?_; rintro R32 a32 c32 wn32 hR32 hS32')
    have H32 := Lib.hid (hS32'.lit (L' := [(gn26, #[.int .i64 dn], 3), (gn27, #[.int .i64 r], 3), (gn30, #[.int .i64 bl], 3)] ++ (R28 ++ (R31 ++ (R32 ++ OO)))) (by simp))
    clear hS32'
    refine kq_in ?_
    refine wpAny_one 25 rfl (by kernel_rfl) ?_
    (try simp only [List.getElem_toArray, List.getElem_cons_zero, List.getElem_cons_succ])
    go_wp2_with fail
    refine kq_in ?_
    refine wpAny_one 26 rfl (by kernel_rfl) ?_
    (try simp only [List.getElem_toArray, List.getElem_cons_zero, List.getElem_cons_succ])
    go_wp2_with fail
    refine kq_in ?_
    refine wpAny_one 27 rfl (by kernel_rfl) ?_
    (try simp only [List.getElem_toArray, List.getElem_cons_zero, List.getElem_cons_succ])
    go_wp2_with fail
    refine kq_in ?_
    refine wpAny_done (by kernel_rfl) ?_ _
    go_wp2_with fail
    exact hK _ _ _ _ _ _ _ _ _ _ _ _ _ _ _ _ _ _ _ _ _ _ _ _ _ _ _ _ _ _ _ _ _ _ _ (by rw [ivs_app]; exact hR28) (by rw [ivs_app]; exact hR31) (by rw [ivs_app]; exact hR32) (Lib.hid (H32.out.sub (List.sublist_append_right _ _)))
end Go.Proofs.Ytllbpjaiplnbnaa

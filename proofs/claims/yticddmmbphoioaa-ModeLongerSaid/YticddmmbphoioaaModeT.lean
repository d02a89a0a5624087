import Derived.Test.YticddmmbphoioaaModeS
import Derived.Sort.BigQuietIn
namespace Go.Proofs.Yticddmmbphoioaa
open Go.RowKit
set_option linter.unusedVariables false
set_option linter.unusedSimpArgs false
/-! ### Each state, the steps -/
theorem Kd.In.after {k : Kd} {w W : World} {L : List Ent} (h : k.In w) (hS : Sts w L W) : k.In W := ⟨h.lo.after hS, h.no.after hS, h.ra.after hS, h.ri.after hS, h.s0.after hS, h.s1.after hS, h.s2.after hS⟩
set_option maxHeartbeats 8000000 in
set_option maxRecDepth 100000 in
theorem modeTells_walk (A1 : Option Addr) (n1 c1 : Nat) (zs : List Int) (cure : Int) (k : Kd) (sm sp : Int) (w : World) (h1 : Ints w A1 n1 zs) (hk : k.In w) :
    Calls Try.prog 7 #[.slice A1 n1 c1, .int .i64 cure, .agg k.cs, .agg #[.int .i64 sm, .int .i64 sp]] w fun e w' => e = .returned (.bool true) ∧ Below w.heap.size w w' := by
  have H1 := Lib.hid h1; have HK := Lib.hid hk
  clear h1 hk
  have h2 := (Sts.nil w).add (g := w.heap.size) rfl k.cs 44
  have h3 := h2.add (g := w.heap.size + 1) (by unfold World.alloc; rw [Array.size_push]) #[.int .i64 sm, .int .i64 sp] 25
  have HS := Lib.hid h3
  clear h2 h3
  go_enter Try.func7, Try.ntmps7
  go_upto_region 1 with fail
  generalize (w.alloc (.cells k.cs 44)).alloc (.cells #[.int .i64 sm, .int .i64 sp] 25) = w3 at *
  generalize w.heap.size + 1 = g7 at *
  generalize hg : w.heap.size = g6 at *
  have HG := Lib.hid hg
  clear hg
  obtain ⟨c, hc⟩ : ∃ c, within cure (-1) 5 = c := ⟨_, rfl⟩
  have hcb := within_bd cure (lo := -1) (hi := 5) (by omega)
  have HWI := Lib.hid (within_calls cure (-1) 5 w3 (by omega) (by omega) (by omega))
  rw [hc] at HWI hcb
  clear hc
  obtain ⟨cb0, cb1⟩ := hcb
  go_wp2_with fail
  refine HWI.out.mono ?_
  rintro e w4 ⟨rfl, rfl⟩
  clear HWI
  go_wp2_with fail
  refine (some_calls A1 n1 c1 zs w3 (H1.out.after HS.out)).mono ?_
  rintro e w5 ⟨m, R, a, cap, hm, rfl, hR, hS⟩
  have hm20 : m ≤ 20 := by omega
  have HR := Lib.hid hR
  have h5 := Sts.join [(g6, k.cs, 44), (g7, #[.int .i64 sm, .int .i64 sp], 25)] [] HS.out hS
  generalize (zs.take m).map resF = rs at *
  have h6 := h5.ins (g := w5.heap.size) [(g6, k.cs, 44), (g7, #[.int .i64 sm, .int .i64 sp], 25)] (R ++ []) rfl #[.int .i64 0, .int .i64 0] 25
  have h7 := h6.ins (g := w5.heap.size + 1) [(g6, k.cs, 44), (g7, #[.int .i64 sm, .int .i64 sp], 25), (w5.heap.size, #[.int .i64 0, .int .i64 0], 25)] (R ++ []) (by unfold World.alloc; rw [Array.size_push]) #[.int .i64 0, .int .i64 0] 45
  have HS7 := Lib.hid h7
  clear hm hR hS h5 h6 h7 HS
  go_upto_region 4 with fail
  generalize (w5.alloc (.cells #[.int .i64 0, .int .i64 0] 25)).alloc (.cells #[.int .i64 0, .int .i64 0] 45) = w6 at *
  generalize w5.heap.size + 1 = g12 at *
  generalize w5.heap.size = g11 at *
  go_upto_block 0 with fail
  have hlr : rs.length = m := by have := HR.out.1; rw [rcs, flat_length Res.c 4 Res.c_length] at this; omega
  have HL := Lib.hid hlr
  clear hlr
  go_cut [14] from 25 to 55 (fun v14 wc => ∃ q1 q2 : Int, Hid (runF c rs = (q1, q2)) ∧ Hid (Sts w ([(g6, k.cs, 44), (g7, #[.int .i64 sm, .int .i64 sp], 25), (g11, #[.int .i64 q1, .int .i64 q2], 25), (g12, #[.int .i64 q1, .int .i64 q2], 45)] ++ (R ++ [])) wc))
  case first =>
    go_wp2_with fail
    go_loopw [25] (fun v25 wr => ∃ (j : Nat) (q p : Int), j ≤ m ∧ v25 = .int .i64 j ∧ 0 ≤ p ∧ p ≤ j ∧ Hid (runF c (rs.take j) = (q, p)) ∧ Hid (Sts w ([(g6, k.cs, 44), (g7, #[.int .i64 sm, .int .i64 sp], 25), (g11, #[.int .i64 q, .int .i64 p], 25), (g12, #[.int .i64 q, .int .i64 p], 45)] ++ (R ++ [])) wr)) (fun v25 _ => m - (intOf v25).toNat)
    case atStart => exact ⟨0, 0, 0, by omega, rfl, by omega, by omega, Lib.hid rfl, HS7⟩
    case round =>
      obtain ⟨j, q, p, hj, rfl, p0, p1, HRF, HS⟩ := hrel
      clear HS7
      by_cases hlt : j < m
      · obtain ⟨r, hr⟩ : ∃ r, rs[j]? = some r := ⟨_, List.getElem?_eq_getElem (by rw [HL.out]; exact hlt)⟩
        obtain ⟨ad, hA, c0, c1, c2, c3⟩ := src_res (HR.out.src _ [] HS.out) hr
        have hnx : runF c (rs.take (j + 1)) = stepF c (q, p) r := by rw [take_next' hr, runF_snoc, HRF.out]
        have hbd := stepF_bd (c := c) (s := (q, p)) (r := r) (k := j) ⟨p0, p1⟩
        subst hA
        obtain ⟨oc, ic, la, lo⟩ := r
        simp only at c0 c1 c2 c3
        have hcall := fun W => next_calls q p c oc ic la lo W (by omega) (by omega)
        have hcall2 := fun W => rnext_calls q p c (failsF ⟨oc, ic, la, lo⟩) (!ic) W (by omega) (by omega)
        have hst : nextF (q, p) c (failsF ⟨oc, ic, la, lo⟩) (!ic) = stepF c (q, p) ⟨oc, ic, la, lo⟩ := rfl
        rw [hst] at hcall hcall2
        generalize stepF c (q, p) ⟨oc, ic, la, lo⟩ = s2 at *
        obtain ⟨q2, p2⟩ := s2
        simp only at hbd hcall hcall2
        have HNX := Lib.hid hnx; have HCALL := Lib.hid hcall; have HCALL2 := Lib.hid hcall2
        have HB := Lib.hid hbd
        have hs2 := HS.out.ins (g := wr.heap.size) [(g6, k.cs, 44), (g7, #[.int .i64 sm, .int .i64 sp], 25), (g11, #[.int .i64 q, .int .i64 p], 25), (g12, #[.int .i64 q, .int .i64 p], 45)] (R ++ []) rfl #[.bool oc, .bool ic, .bool la, .bool lo] 23
        have HS2 := Lib.hid hs2
        have i1 : (0 : Int) ≤ (j : Int) := by omega
        have i2 : (j : Int) < (m : Int) := by omega
        clear hr hnx hbd hcall hcall2 hst hs2
        go_upto_region 7 with fail
        clear c0 c1 c2 c3 HS
        generalize wr.alloc (.cells #[.bool oc, .bool ic, .bool la, .bool lo] 23) = w7 at *
        generalize wr.heap.size = g14 at *
        have e0 := HS2.out.cell 2 0 rfl (v := .int .i64 q) rfl
        have e1 := HS2.out.cell 2 1 rfl (v := .int .i64 p) rfl
        have r0 := HS2.out.cell 4 0 rfl (v := .bool oc) rfl
        have r1 := HS2.out.cell 4 1 rfl (v := .bool ic) rfl
        have r2 := HS2.out.cell 4 2 rfl (v := .bool la) rfl
        have r3 := HS2.out.cell 4 3 rfl (v := .bool lo) rfl
        go_wp2_with fail
        refine (HCALL.out w7).mono ?_
        rintro e w8 ⟨rfl, hb⟩
        have HS6 := Lib.hid (HS2.out.below hb)
        clear e0 e1 r0 r1 r2 r3 hb HS2 HCALL
        have f0 := HS6.out.frozen 2 0 rfl
        have f1 := HS6.out.frozen 2 1 rfl
        have e0 := HS6.out.cell 2 0 rfl (v := .int .i64 q) rfl
        have e1 := HS6.out.cell 2 1 rfl (v := .int .i64 p) rfl
        go_upto_region 8 with fail
        have hs8 := (HS6.out.set 2 0 (.int .i64 q2) rfl).set 2 1 (.int .i64 p2) rfl
        have HS8 := Lib.hid (hs8.lit (L' := [(g6, k.cs, 44), (g7, #[.int .i64 sm, .int .i64 sp], 25), (g11, #[.int .i64 q2, .int .i64 p2], 25), (g12, #[.int .i64 q, .int .i64 p], 45), (g14, #[.bool oc, .bool ic, .bool la, .bool lo], 23)] ++ (R ++ [])) rfl)
        clear hs8 HS6 e0 e1 f0 f1
        generalize World.setCell _ _ _ = w9 at *
        have e0 := HS8.out.cell 3 0 rfl (v := .int .i64 q) rfl
        have e1 := HS8.out.cell 3 1 rfl (v := .int .i64 p) rfl
        have r0 := HS8.out.cell 4 0 rfl (v := .bool oc) rfl
        have r1 := HS8.out.cell 4 1 rfl (v := .bool ic) rfl
        have r2 := HS8.out.cell 4 2 rfl (v := .bool la) rfl
        have r3 := HS8.out.cell 4 3 rfl (v := .bool lo) rfl
        have FIN : ∀ wx, Below w9.heap.size w9 wx → Hid (Sts w ([(g6, k.cs, 44), (g7, #[.int .i64 sm, .int .i64 sp], 25), (g11, #[.int .i64 q2, .int .i64 p2], 25), (g12, #[.int .i64 q2, .int .i64 p2], 45)] ++ (R ++ [])) ((wx.setCell ⟨g12, 0, none⟩ (.int .i64 q2)).setCell ⟨g12, 1, none⟩ (.int .i64 p2))) := fun wx hb =>
          Lib.hid ((((HS8.out.below hb).set 3 0 (.int .i64 q2) rfl).set 3 1 (.int .i64 p2) rfl).sub (by simp))
        have CEL : ∀ wx, Below w9.heap.size w9 wx → (wx.cell? ⟨g11, 0, none⟩ = some (.int .i64 q2) ∧ wx.cell? ⟨g11, 1, none⟩ = some (.int .i64 p2)) ∧ (wx.cell? ⟨g12, 0, none⟩ = some (.int .i64 q) ∧ wx.cell? ⟨g12, 1, none⟩ = some (.int .i64 p)) ∧ wx.frozen? ⟨g12, 0, none⟩ = false ∧ wx.frozen? ⟨g12, 1, none⟩ = false := fun wx hb =>
          ⟨⟨(HS8.out.below hb).cell 2 0 rfl rfl, (HS8.out.below hb).cell 2 1 rfl rfl⟩, ⟨(HS8.out.below hb).cell 3 0 rfl rfl, (HS8.out.below hb).cell 3 1 rfl rfl⟩, (HS8.out.below hb).frozen 3 0 rfl, (HS8.out.below hb).frozen 3 1 rfl⟩
        have hne : g12 ≠ g11 := HS8.out.ne (k := 3) (k' := 2) rfl rfl (by omega)
        have hne2 : g11 ≠ g12 := hne.symm
        have HFIN := Lib.hid FIN; have HCEL := Lib.hid CEL
        clear FIN CEL HS8
        cases oc <;> cases la <;> cases lo
        all_goals
          go_wp2_with fail
          refine (HCALL2.out w9).mono ?_
          rintro e w10 ⟨rfl, hb⟩
          have HF := HFIN.out w10 hb
          obtain ⟨⟨x0, x1⟩, ⟨y0, y1⟩, z0, z1⟩ := HCEL.out w10 hb
          clear e0 e1 r0 r1 r2 r3 HFIN HCEL HCALL2 hb
          go_wp2_with fail
          go_roundw
          case rel => exact ⟨j + 1, q2, p2, by omega, by go_num, HB.out.1, HB.out.2, HNX, HF⟩
          case measure => simp [intOf]; omega
      · obtain rfl : j = m := by omega
        have htk : rs.take j = rs := List.take_of_length_le (by rw [HL.out]; exact Nat.le_refl _)
        rw [htk] at HRF
        go_wp2_with fail
        go_meet
        exact ⟨q, p, HRF, HS⟩
  case rest =>
    obtain ⟨q1, q2, HRF, HS8⟩ := hcut
    clear HS7
    go_upto_region 12 with fail
    refine wp_region_lit ?_
    refine wpList_load_mid rfl 44 (.tmp 6) rfl g6 0 rfl k.cs.toList _ (HS8.out.range 0 rfl) Try.underlying44 rfl keep_size ?_
    simp only [Act.put, List.setIfInBounds_toArray, List.set_cons_zero, List.set_cons_succ, Array.toArray_toList]
    go_wp2_with fail
    rename_i K0 hK0
    refine (deal_calls k wc (HK.out.after HS8.out)).mono ?_
    rintro e w9 ⟨Ls, Ns, S, rfl, _, _, hst, hbel⟩
    have HS9 := Lib.hid ((HS8.out.below hbel).ins (g := w9.heap.size) [(g6, k.cs, 44), (g7, #[.int .i64 sm, .int .i64 sp], 25), (g11, #[.int .i64 q1, .int .i64 q2], 25), (g12, #[.int .i64 q1, .int .i64 q2], 45)] (R ++ []) rfl z18 54)
    have HST := Lib.hid hst
    clear hst hbel
    refine hK0 _ _ ?_
    clear hK0 K0
    refine wpList_plain rfl fun K1 hK1 => ?_
    go_simp
    refine hK1 _ _ ?_
    clear hK1 K1
    refine wpList_store_mid rfl 54 (.tmp 15) (.tmp 57) rfl w9.heap.size 0 (k.ds Ls Ns (S 0) (S 1) (S 2)).toList.toArray rfl rfl (HS9.out.there 4 rfl rfl) deal_size (ds_one _ _ _ _ _ _) ?_
    simp only [Act.put, Array.toArray_toList]
    have h10 := HS9.out.fill 4 rfl (k.ds Ls Ns (S 0) (S 1) (S 2)).toList
    rw [ds_fill] at h10
    have HS10 := Lib.hid h10
    clear h10
    have hb10 := (((Sts.nil w9).add (g := w9.heap.size) rfl z18 54).fill 0 rfl (k.ds Ls Ns (S 0) (S 1) (S 2)).toList).bel
    have h11 : ∀ j, j < 3 → Src (World.setCells (World.alloc w9 (.cells z18 54)) w9.heap.size 0 (k.ds Ls Ns (S 0) (S 1) (S 2)).toList) (S j).a (S j).n 2 (pcs (stepsK (k.ss j).l)) ∧ (stepsK (k.ss j).l).length = (S j).n := fun j hj => ⟨(HST.out j hj).1.below hb10, (HST.out j hj).2⟩
    have HST2 := Lib.hid h11
    clear hb10 h11 HST
    change Hid (Sts w _ (World.setCells (World.alloc w9 _) w9.heap.size 0 _)) at HS10
    change Hid (∀ j, j < 3 → Src (World.setCells (World.alloc w9 _) w9.heap.size 0 _) _ _ 2 _ ∧ _) at HST2
    unfold z18 at HS10 HST2
    generalize World.setCells _ _ _ _ = w10 at *
    generalize w9.heap.size = g15 at *
    have HSA := Lib.hid (HS10.out.lit (L' := [(g6, k.cs, 44), (g7, #[.int .i64 sm, .int .i64 sp], 25), (g11, #[.int .i64 q1, .int .i64 q2], 25), (g12, #[.int .i64 q1, .int .i64 q2], 45), (g15, k.ds Ls Ns (S 0) (S 1) (S 2), 54)] ++ (R ++ [])) rfl)
    clear HS10 HS9
    have s0 := HSA.out.cell 1 0 rfl (v := .int .i64 sm) rfl
    have s1 := HSA.out.cell 1 1 rfl (v := .int .i64 sp) rfl
    go_upto_region 13 with fail
    refine wp_region_lit ?_
    refine wpList_load_mid rfl 54 (.tmp 15) rfl g15 0 rfl (k.ds Ls Ns (S 0) (S 1) (S 2)).toList _ (HSA.out.range 4 rfl) Try.underlying54 rfl deal_size ?_
    simp only [Act.put, List.setIfInBounds_toArray, List.set_cons_zero, List.set_cons_succ, Array.toArray_toList]
    by_cases hin : sm < 0 ∨ 3 ≤ sm
    · have HNO := Lib.hid (steps_no (k.ds Ls Ns (S 0) (S 1) (S 2)) sm sp w10 hin)
      go_wp2_with fail
      refine HNO.out.mono ?_
      rintro e w11 ⟨rfl, hb⟩
      have HSB := Lib.hid (HSA.out.below hb)
      clear hb HNO s0 s1 HSA
      have s0 := HSB.out.cell 1 0 rfl (v := .int .i64 sm) rfl
      by_cases h0 : sm < 0
      · have b0 : decide (sm < 0) = true := decide_eq_true h0
        go_upto_region 19 with fail
        have HSZ := HSB
        clear HSB s0 b0
        have HRUN : ∀ p : Later w ([(g6, k.cs, 44), (g7, #[.int .i64 sm, .int .i64 sp], 25), (g11, #[.int .i64 q1, .int .i64 q2], 25), (g12, #[.int .i64 q1, .int .i64 q2], 45), (g15, k.ds Ls Ns (S 0) (S 1) (S 2), 54)] ++ (R ++ [])), Calls Try.prog 12 #[.int .i64 c, .slice a m cap] p.val (fun e w'' => e = .returned (.agg #[.int .i64 q1, .int .i64 q2]) ∧ ∃ q : Later w ([(g6, k.cs, 44), (g7, #[.int .i64 sm, .int .i64 sp], 25), (g11, #[.int .i64 q1, .int .i64 q2], 25), (g12, #[.int .i64 q1, .int .i64 q2], 45), (g15, k.ds Ls Ns (S 0) (S 1) (S 2), 54)] ++ (R ++ [])), w'' = q.val) := fun p =>
          (run_calls c a m cap rs p.val (HR.out.src _ [] p.property) (by omega)).mono fun e w' h => ⟨by rw [h.1, HRF.out], ⟨w', p.property.below h.2⟩, rfl⟩
        have HMR : ∀ p : Later w ([(g6, k.cs, 44), (g7, #[.int .i64 sm, .int .i64 sp], 25), (g11, #[.int .i64 q1, .int .i64 q2], 25), (g12, #[.int .i64 q1, .int .i64 q2], 45), (g15, k.ds Ls Ns (S 0) (S 1) (S 2), 54)] ++ (R ++ [])), Calls Try.prog 3 #[] p.val (fun e w'' => e = .returned (.bool true) ∧ ∃ q : Later w ([(g6, k.cs, 44), (g7, #[.int .i64 sm, .int .i64 sp], 25), (g11, #[.int .i64 q1, .int .i64 q2], 25), (g12, #[.int .i64 q1, .int .i64 q2], 45), (g15, k.ds Ls Ns (S 0) (S 1) (S 2), 54)] ++ (R ++ [])), w'' = q.val) := fun p =>
          (modeRuns_calls p.val).mono fun e w' h => ⟨h.1, ⟨w', p.property.below h.2⟩, rfl⟩
        have hne : Nonempty (Later w ([(g6, k.cs, 44), (g7, #[.int .i64 sm, .int .i64 sp], 25), (g11, #[.int .i64 q1, .int .i64 q2], 25), (g12, #[.int .i64 q1, .int .i64 q2], 45), (g15, k.ds Ls Ns (S 0) (S 1) (S 2), 54)] ++ (R ++ []))) := ⟨⟨_, HSZ.out⟩⟩
        have y0 : ∀ p : Later w ([(g6, k.cs, 44), (g7, #[.int .i64 sm, .int .i64 sp], 25), (g11, #[.int .i64 q1, .int .i64 q2], 25), (g12, #[.int .i64 q1, .int .i64 q2], 45), (g15, k.ds Ls Ns (S 0) (S 1) (S 2), 54)] ++ (R ++ [])), p.val.cell? ⟨g11, 0, none⟩ = some (.int .i64 q1) := fun p => p.property.cell 2 0 rfl rfl
        have y1 : ∀ p : Later w ([(g6, k.cs, 44), (g7, #[.int .i64 sm, .int .i64 sp], 25), (g11, #[.int .i64 q1, .int .i64 q2], 25), (g12, #[.int .i64 q1, .int .i64 q2], 45), (g15, k.ds Ls Ns (S 0) (S 1) (S 2), 54)] ++ (R ++ [])), p.val.cell? ⟨g11, 1, none⟩ = some (.int .i64 q2) := fun p => p.property.cell 2 1 rfl rfl
        refine wp_region_sts HSZ.out (by kernel_rfl) (by kernel_rfl) ?_
        repeat (go_big_quiet_step (first | exact rfl | (go_at_call 12; exact HRUN _) | (go_at_call 3; exact HMR _)))
        refine wpQuiet_nil ?_
        rintro wz ⟨⟨_, hz⟩, rfl⟩
        clear hne y0 y1 HRUN HMR HSZ
        go_wp2_with fail
        go_ret
        exact ⟨rfl, by first | exact hz.bel | (rw [HG.out]; exact hz.bel) | (rw [← HG.out]; exact hz.bel)⟩
      · have b0 : decide (sm < 0) = false := decide_eq_false h0
        have b1 : decide (3 ≤ sm) = true := decide_eq_true (by omega)
        go_upto_region 19 with fail
        have HSZ := HSB
        clear HSB s0 b0 b1
        have HRUN : ∀ p : Later w ([(g6, k.cs, 44), (g7, #[.int .i64 sm, .int .i64 sp], 25), (g11, #[.int .i64 q1, .int .i64 q2], 25), (g12, #[.int .i64 q1, .int .i64 q2], 45), (g15, k.ds Ls Ns (S 0) (S 1) (S 2), 54)] ++ (R ++ [])), Calls Try.prog 12 #[.int .i64 c, .slice a m cap] p.val (fun e w'' => e = .returned (.agg #[.int .i64 q1, .int .i64 q2]) ∧ ∃ q : Later w ([(g6, k.cs, 44), (g7, #[.int .i64 sm, .int .i64 sp], 25), (g11, #[.int .i64 q1, .int .i64 q2], 25), (g12, #[.int .i64 q1, .int .i64 q2], 45), (g15, k.ds Ls Ns (S 0) (S 1) (S 2), 54)] ++ (R ++ [])), w'' = q.val) := fun p =>
          (run_calls c a m cap rs p.val (HR.out.src _ [] p.property) (by omega)).mono fun e w' h => ⟨by rw [h.1, HRF.out], ⟨w', p.property.below h.2⟩, rfl⟩
        have HMR : ∀ p : Later w ([(g6, k.cs, 44), (g7, #[.int .i64 sm, .int .i64 sp], 25), (g11, #[.int .i64 q1, .int .i64 q2], 25), (g12, #[.int .i64 q1, .int .i64 q2], 45), (g15, k.ds Ls Ns (S 0) (S 1) (S 2), 54)] ++ (R ++ [])), Calls Try.prog 3 #[] p.val (fun e w'' => e = .returned (.bool true) ∧ ∃ q : Later w ([(g6, k.cs, 44), (g7, #[.int .i64 sm, .int .i64 sp], 25), (g11, #[.int .i64 q1, .int .i64 q2], 25), (g12, #[.int .i64 q1, .int .i64 q2], 45), (g15, k.ds Ls Ns (S 0) (S 1) (S 2), 54)] ++ (R ++ [])), w'' = q.val) := fun p =>
          (modeRuns_calls p.val).mono fun e w' h => ⟨h.1, ⟨w', p.property.below h.2⟩, rfl⟩
        have hne : Nonempty (Later w ([(g6, k.cs, 44), (g7, #[.int .i64 sm, .int .i64 sp], 25), (g11, #[.int .i64 q1, .int .i64 q2], 25), (g12, #[.int .i64 q1, .int .i64 q2], 45), (g15, k.ds Ls Ns (S 0) (S 1) (S 2), 54)] ++ (R ++ []))) := ⟨⟨_, HSZ.out⟩⟩
        have y0 : ∀ p : Later w ([(g6, k.cs, 44), (g7, #[.int .i64 sm, .int .i64 sp], 25), (g11, #[.int .i64 q1, .int .i64 q2], 25), (g12, #[.int .i64 q1, .int .i64 q2], 45), (g15, k.ds Ls Ns (S 0) (S 1) (S 2), 54)] ++ (R ++ [])), p.val.cell? ⟨g11, 0, none⟩ = some (.int .i64 q1) := fun p => p.property.cell 2 0 rfl rfl
        have y1 : ∀ p : Later w ([(g6, k.cs, 44), (g7, #[.int .i64 sm, .int .i64 sp], 25), (g11, #[.int .i64 q1, .int .i64 q2], 25), (g12, #[.int .i64 q1, .int .i64 q2], 45), (g15, k.ds Ls Ns (S 0) (S 1) (S 2), 54)] ++ (R ++ [])), p.val.cell? ⟨g11, 1, none⟩ = some (.int .i64 q2) := fun p => p.property.cell 2 1 rfl rfl
        refine wp_region_sts HSZ.out (by kernel_rfl) (by kernel_rfl) ?_
        repeat (go_big_quiet_step (first | exact rfl | (go_at_call 12; exact HRUN _) | (go_at_call 3; exact HMR _)))
        refine wpQuiet_nil ?_
        rintro wz ⟨⟨_, hz⟩, rfl⟩
        clear hne y0 y1 HRUN HMR HSZ
        go_wp2_with fail
        go_ret
        exact ⟨rfl, by first | exact hz.bel | (rw [HG.out]; exact hz.bel) | (rw [← HG.out]; exact hz.bel)⟩
    · obtain ⟨i, rfl⟩ : ∃ i : Nat, sm = i := ⟨sm.toNat, by omega⟩
      have i3 : i < 3 := by omega
      have hsl := stepsK_len (k.ss i).l
      obtain ⟨hsrc, hlen⟩ := HST2.out i i3
      have n0 : 0 < (S i).n := by omega
      have n12 : (S i).n ≤ 12 := by omega
      obtain ⟨ad, hA, _⟩ := hsrc.2 n0
      have hcl := ds_cell k Ls Ns S i i3
      rw [hA] at hcl hsrc
      have HSRC := Lib.hid hsrc; have HCL := Lib.hid hcl
      have HYES := Lib.hid (steps_yes (k.ds Ls Ns (S 0) (S 1) (S 2)) i sp w10 i3 ad (S i).n (S i).c (pcs (stepsK (k.ss i).l)) hcl hsrc (pcs_one _) (by omega))
      clear hsrc hcl hsl hlen hA
      go_wp2_with fail
      refine HYES.out.mono ?_
      rintro e w11 ⟨R', a', c', rfl, hR', hS'⟩
      have HR' := Lib.hid hR'
      have HB := Lib.hid hS'.bel
      have HJ := Lib.hid (Sts.join [(g6, k.cs, 44), (g7, #[.int .i64 i, .int .i64 sp], 25), (g11, #[.int .i64 q1, .int .i64 q2], 25), (g12, #[.int .i64 q1, .int .i64 q2], 45), (g15, k.ds Ls Ns (S 0) (S 1) (S 2), 54)] (R ++ []) HSA.out hS')
      clear hR' hS' HYES s0 s1 HSA
      have s0 := HJ.out.cell 1 0 rfl (v := .int .i64 i) rfl
      have d0 := HJ.out.cell 4 (15 + i) rfl HCL.out
      have b0 : decide ((i : Int) < 0) = false := decide_eq_false (by omega)
      have b1 : decide (3 ≤ (i : Int)) = false := decide_eq_false (by omega)
      have m0 : (0 : Int) ≤ (i : Int) := by omega
      have m1 : (i : Int) < 3 := by omega
      go_wp2_with fail
      refine (sameS_yes (stepsK (k.ss i).l) (HR'.out.src [(g6, k.cs, 44), (g7, #[.int .i64 i, .int .i64 sp], 25), (g11, #[.int .i64 q1, .int .i64 q2], 25), (g12, #[.int .i64 q1, .int .i64 q2], 45), (g15, k.ds Ls Ns (S 0) (S 1) (S 2), 54)] (R ++ []) HJ.out) (HSRC.out.below HB.out) (by omega)).mono ?_
      rintro e w12 ⟨rfl, n13, rfl⟩
      have HSZ := Lib.hid ((HJ.out.drewN n13).sub (L' := [(g6, k.cs, 44), (g7, #[.int .i64 i, .int .i64 sp], 25), (g11, #[.int .i64 q1, .int .i64 q2], 25), (g12, #[.int .i64 q1, .int .i64 q2], 45), (g15, k.ds Ls Ns (S 0) (S 1) (S 2), 54)] ++ (R ++ [])) (by simp))
      clear s0 d0 b0 b1 m0 m1 HJ HR' HB
      go_upto_region 19 with fail
      have HRUN : ∀ p : Later w ([(g6, k.cs, 44), (g7, #[.int .i64 i, .int .i64 sp], 25), (g11, #[.int .i64 q1, .int .i64 q2], 25), (g12, #[.int .i64 q1, .int .i64 q2], 45), (g15, k.ds Ls Ns (S 0) (S 1) (S 2), 54)] ++ (R ++ [])), Calls Try.prog 12 #[.int .i64 c, .slice a m cap] p.val (fun e w'' => e = .returned (.agg #[.int .i64 q1, .int .i64 q2]) ∧ ∃ q : Later w ([(g6, k.cs, 44), (g7, #[.int .i64 i, .int .i64 sp], 25), (g11, #[.int .i64 q1, .int .i64 q2], 25), (g12, #[.int .i64 q1, .int .i64 q2], 45), (g15, k.ds Ls Ns (S 0) (S 1) (S 2), 54)] ++ (R ++ [])), w'' = q.val) := fun p =>
        (run_calls c a m cap rs p.val (HR.out.src _ [] p.property) (by omega)).mono fun e w' h => ⟨by rw [h.1, HRF.out], ⟨w', p.property.below h.2⟩, rfl⟩
      have HMR : ∀ p : Later w ([(g6, k.cs, 44), (g7, #[.int .i64 i, .int .i64 sp], 25), (g11, #[.int .i64 q1, .int .i64 q2], 25), (g12, #[.int .i64 q1, .int .i64 q2], 45), (g15, k.ds Ls Ns (S 0) (S 1) (S 2), 54)] ++ (R ++ [])), Calls Try.prog 3 #[] p.val (fun e w'' => e = .returned (.bool true) ∧ ∃ q : Later w ([(g6, k.cs, 44), (g7, #[.int .i64 i, .int .i64 sp], 25), (g11, #[.int .i64 q1, .int .i64 q2], 25), (g12, #[.int .i64 q1, .int .i64 q2], 45), (g15, k.ds Ls Ns (S 0) (S 1) (S 2), 54)] ++ (R ++ [])), w'' = q.val) := fun p =>
        (modeRuns_calls p.val).mono fun e w' h => ⟨h.1, ⟨w', p.property.below h.2⟩, rfl⟩
      have hne : Nonempty (Later w ([(g6, k.cs, 44), (g7, #[.int .i64 i, .int .i64 sp], 25), (g11, #[.int .i64 q1, .int .i64 q2], 25), (g12, #[.int .i64 q1, .int .i64 q2], 45), (g15, k.ds Ls Ns (S 0) (S 1) (S 2), 54)] ++ (R ++ []))) := ⟨⟨_, HSZ.out⟩⟩
      have y0 : ∀ p : Later w ([(g6, k.cs, 44), (g7, #[.int .i64 i, .int .i64 sp], 25), (g11, #[.int .i64 q1, .int .i64 q2], 25), (g12, #[.int .i64 q1, .int .i64 q2], 45), (g15, k.ds Ls Ns (S 0) (S 1) (S 2), 54)] ++ (R ++ [])), p.val.cell? ⟨g11, 0, none⟩ = some (.int .i64 q1) := fun p => p.property.cell 2 0 rfl rfl
      have y1 : ∀ p : Later w ([(g6, k.cs, 44), (g7, #[.int .i64 i, .int .i64 sp], 25), (g11, #[.int .i64 q1, .int .i64 q2], 25), (g12, #[.int .i64 q1, .int .i64 q2], 45), (g15, k.ds Ls Ns (S 0) (S 1) (S 2), 54)] ++ (R ++ [])), p.val.cell? ⟨g11, 1, none⟩ = some (.int .i64 q2) := fun p => p.property.cell 2 1 rfl rfl
      refine wp_region_sts HSZ.out (by kernel_rfl) (by kernel_rfl) ?_
      repeat (go_big_quiet_step (first | exact rfl | (go_at_call 12; exact HRUN _) | (go_at_call 3; exact HMR _)))
      refine wpQuiet_nil ?_
      rintro wz ⟨⟨_, hz⟩, rfl⟩
      clear hne y0 y1 HRUN HMR HSZ
      go_wp2_with fail
      go_ret
      exact ⟨rfl, by first | exact hz.bel | (rw [HG.out]; exact hz.bel) | (rw [← HG.out]; exact hz.bel)⟩
theorem modeTells_row (A1 : Option Addr) (n1 c1 : Nat) (zs : List Int) (cure : Int) (k : Kd) (sm sp : Int) (w : World) (h1 : Ints w A1 n1 zs) (_ : -9223372036854775808 ≤ cure ∧ cure ≤ 9223372036854775807) (hk : k.In w) :
    Calls Try.prog 7 #[.slice A1 n1 c1, .int .i64 cure, .agg k.cs, .agg #[.int .i64 sm, .int .i64 sp]] w fun e w' => e = .returned (.bool true) ∧ Below w.heap.size w w' :=
  modeTells_walk A1 n1 c1 zs cure k sm sp w h1 hk
end Go.Proofs.Yticddmmbphoioaa

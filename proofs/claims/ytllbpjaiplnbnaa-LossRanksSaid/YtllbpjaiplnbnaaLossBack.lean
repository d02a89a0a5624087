import Derived.Test.YtllbpjaiplnbnaaLossSame
import Derived.Test.YtllbpjaiplnbnaaSegT
namespace Go.Proofs.Ytllbpjaiplnbnaa
open Go.RowKit
set_option linter.unusedVariables false
set_option linter.unusedSimpArgs false
/-! ### Written down and brought back -/
theorem ptr_info : (Try.prog.info? 37).map (fun i => (i.zero, i.size, i.bytes)) = some (some (.pointer none), 1, 8) := by kernel_rfl
theorem pvs_one (l : List (Option (Nat × Nat))) : ∀ u ∈ l.map ptrV, u.oneCell' = true := by
  intro u hu
  obtain ⟨x, _, rfl⟩ := List.mem_map.1 hu
  cases x <;> rfl
def ogi (z : Nt) : Int := z.og - z.i
set_option maxHeartbeats 16000000 in
set_option maxRecDepth 100000 in
theorem lossBack_walk (A1 : Option Addr) (n1 c1 : Nat) (zi : List Int) (up mid : Int) (w : World) (h1 : Ints w A1 n1 zi) (hu : -9223372036854775808 ≤ up ∧ up ≤ 9223372036854775807) (hm : -9223372036854775808 ≤ mid ∧ mid ≤ 9223372036854775807) :
    Calls Try.prog 11 #[.slice A1 n1 c1, .int .i64 up, .int .i64 mid] w fun e w' => e = .returned (.bool true) ∧ Below w.heap.size w w' := by
  obtain ⟨i0, hi, hz, hs1, hs2⟩ := info_parts ptr_info
  have H1 := Lib.hid h1
  clear h1
  go_enter Try.func11, Try.ntmps11
  go_wp2_with fail
  refine (notes_calls A1 n1 c1 zi w H1.out).mono ?_
  rintro e w1 ⟨m, Ra, a, ca, hma, rfl, hRa, hSa⟩
  have HMA := Lib.hid hma
  clear hma
  go_wp2_with fail
  have HI1 := Lib.hid (show Ints w1 A1 n1 zi from ⟨H1.out.length, H1.out.most, fun i hi => by obtain ⟨ad, e, c⟩ := H1.out.at_ i hi; exact ⟨ad, e, hSa.old c⟩, H1.out.bd⟩)
  refine (notes_calls A1 n1 c1 zi w1 HI1.out).mono ?_
  rintro e w2 ⟨m2, Rb, b, cb, hmb, rfl, hRb, hSb⟩
  have hmm : m = m2 := HMA.out.trans hmb.symm
  subst hmm
  have hm6 : m ≤ 6 := by omega
  have HS2 := Lib.hid (Sts.join Ra [] (hSa.lit (by simp)) hSb)
  have HRb := Lib.hid hRb; have HRa := Lib.hid hRa
  obtain ⟨ga, hNa⟩ := NRow.of hRa
  obtain ⟨gb, hNb⟩ := NRow.of hRb
  have hzl := notesN_length zi m
  have hmade := notesN_made zi m
  generalize notesN zi m = zs at *
  have HNa := Lib.hid hNa; have HNb := Lib.hid hNb; have HL := Lib.hid hzl; have HMD := Lib.hid hmade
  clear hRa hRb hSa hSb hNa hNb hzl hmade HMA hmb HI1 HRa HRb
  go_upto_block 0 with fail
  go_cut [9, 10, 11, 12] from 24 to 54 (fun v9 v10 v11 v12 wc => ∃ (Ra' Rb' Rp Rq : List Ent) (ap aq : Option Addr) (cp cq : Nat) (sv : Int), v9 = .slice ap m cp ∧ v10 = .slice aq m cq ∧ v11 = .int .i64 sv ∧ 0 ≤ sv ∧ sv ≤ 5400 ∧ Hid (sv = (zs.map ogi).sum) ∧ Hid (NRow Ra' a m ga (dz zs m)) ∧ Hid (NRow Rb' b m gb (dz zs m)) ∧ Hid (Row Rp 37 1 ap m cp ((ptrs ga m).map ptrV)) ∧ Hid (Row Rq 37 1 aq m cq ((ptrs gb m).map ptrV)) ∧ Hid (Sts w (Rp ++ (Rq ++ (Ra' ++ (Rb' ++ [])))) wc))
  case first =>
    go_wp2_with fail
    go_loopw [9, 10, 11, 24] (fun v9 v10 v11 v24 wr => ∃ (k : Nat) (Ra' Rb' Rp Rq : List Ent) (ap aq : Option Addr) (cp cq : Nat) (sv : Int), k ≤ m ∧ v9 = .slice ap k cp ∧ v10 = .slice aq k cq ∧ v11 = .int .i64 sv ∧ v24 = .int .i64 k ∧ 0 ≤ sv ∧ sv ≤ 900 * k ∧ Hid (sv = ((zs.take k).map ogi).sum) ∧ Hid (NRow Ra' a m ga (dz zs k)) ∧ Hid (NRow Rb' b m gb (dz zs k)) ∧ Hid (Row Rp 37 1 ap k cp ((ptrs ga k).map ptrV)) ∧ Hid (Row Rq 37 1 aq k cq ((ptrs gb k).map ptrV)) ∧ Hid (Sts w (Rp ++ (Rq ++ (Ra' ++ (Rb' ++ [])))) wr)) (fun _ _ _ v24 _ => m - (intOf v24).toNat)
    case atStart => exact ⟨0, Ra, Rb, [], [], none, none, 0, 0, 0, by omega, rfl, rfl, rfl, rfl, by omega, by omega, Lib.hid (by simp), by rw [dz_zero]; exact HNa, by rw [dz_zero]; exact HNb, Lib.hid (Row.nil _ _), Lib.hid (Row.nil _ _), Lib.hid (HS2.out.lit (by simp))⟩
    case round =>
      obtain ⟨k, Ra', Rb', Rp, Rq, ap, aq, cp, cq, sv, hk, rfl, rfl, rfl, rfl, s0, s1, HSV, HA, HB, HP, HQ, HS⟩ := hrel
      clear HS2 HNa HNb
      by_cases hlt : k < m
      · obtain ⟨z, hz⟩ : ∃ z, zs[k]? = some z := ⟨_, List.getElem?_eq_getElem (by rw [HL.out]; exact hlt)⟩
        have hlz : Lossy z := (HMD.out z (List.mem_of_getElem? hz)).lossy
        have hdz := dz_get hz
        have hSA := HS.out.lit (L' := (Rp ++ Rq) ++ (Ra' ++ (Rb' ++ []))) (by simp)
        obtain ⟨ha, _⟩ := HA.out.cells hSA hdz
        have hSB := HS.out.lit (L' := (Rp ++ (Rq ++ Ra')) ++ (Rb' ++ [])) (by simp)
        obtain ⟨hb, _⟩ := HB.out.cells hSB hdz
        subst ha hb
        have i1 : (0 : Int) ≤ (k : Int) := by omega
        have i2 : (k : Int) < (m : Int) := by omega
        go_wp2_with fail
        refine (restore_row HA.out hSA hdz hlz).mono ?_
        rintro e w3 ⟨⟨v, rfl⟩, Ra2, hA2, hS3⟩
        have hS3' := hS3.lit (L' := (Rp ++ (Rq ++ Ra2)) ++ (Rb' ++ [])) (by simp)
        go_wp2_with fail
        refine (restore_row HB.out hS3' hdz hlz).mono ?_
        rintro e w4 ⟨⟨v2, rfl⟩, Rb2, hB2, hS4⟩
        rw [dz_next hz] at hA2 hB2
        have HA2 := Lib.hid hA2; have HB2 := Lib.hid hB2
        have HS4 := Lib.hid (hS4.lit (L' := Rp ++ (Rq ++ (Ra2 ++ (Rb2 ++ [])))) (by simp))
        have HZ := Lib.hid hz; have HLZ := Lib.hid hlz
        clear hA2 hB2 hS3 hS3' hS4 hSA hSB hdz HS HA HB hz hlz
        go_upto_region 9 with fail
        have hk6 : k ≤ 6 := by omega
        obtain ⟨OO, hOO⟩ : ∃ OO, Ra2 ++ (Rb2 ++ []) = OO := ⟨_, rfl⟩
        rw [hOO] at HS4
        go_cut [9, 10] from 35 to 46 (fun v9 v10 wc => ∃ (Rp2 Rq2 : List Ent) (ap2 aq2 : Option Addr) (cp2 cq2 : Nat), v9 = .slice ap2 (k + 1) cp2 ∧ v10 = .slice aq2 (k + 1) cq2 ∧ Row Rp2 37 1 ap2 (k + 1) cp2 ((ptrs ga (k + 1)).map ptrV) ∧ Row Rq2 37 1 aq2 (k + 1) cq2 ((ptrs gb (k + 1)).map ptrV) ∧ Hid (Sts w (Rp2 ++ (Rq2 ++ OO)) wc))
        case first =>
          have H0 := Lib.hid (show Sts w ([] ++ (Rp ++ (Rq ++ OO))) w4.drew from HS4.out.drew)
          have hP0 := HP.out; have hQ0 := HQ.out
          generalize hwq : w4.drew = wq at *
          refine wp_region_T (fun _ => Hid True) 13 (by kernel_rfl) ?_
          rw [hwq]
          refine wpAnyT_take (i := 0) 15 (v := .slice ap k cp) rfl (by kernel_rfl) (fun _ _ _ h => h) (Or.inl ⟨by rfl, by (intro w' hSw; go_simp)⟩) (Lib.hid trivial) ?_
          (try simp only [Act.put, List.getElem_toArray, List.getElem_cons_zero, List.getElem_cons_succ, List.setIfInBounds_toArray, List.set_cons_zero, List.set_cons_succ])
          refine wpAnyT_take (i := 1) 15 (v := .slice (some ⟨ga, 0, none⟩) m ca) rfl (by kernel_rfl) (fun _ _ _ h => h) (Or.inl ⟨by rfl, by (intro w' hSw; go_simp)⟩) (Lib.hid trivial) ?_
          (try simp only [Act.put, List.getElem_toArray, List.getElem_cons_zero, List.getElem_cons_succ, List.setIfInBounds_toArray, List.set_cons_zero, List.set_cons_succ])
          refine wpAnyT_take (i := 2) 15 (v := .int .i64 k) rfl (by kernel_rfl) (fun _ _ _ h => h) (Or.inl ⟨by rfl, by (intro w' hSw; go_simp)⟩) (Lib.hid trivial) ?_
          (try simp only [Act.put, List.getElem_toArray, List.getElem_cons_zero, List.getElem_cons_succ, List.setIfInBounds_toArray, List.set_cons_zero, List.set_cons_succ])
          refine wpAnyT_take (i := 3) 15 (v := .pointer (some ⟨ga, k * 7, none⟩)) rfl (by kernel_rfl) (fun _ _ _ h => h) (Or.inl ⟨by rfl, by (intro w' hSw; go_simp)⟩) (Lib.hid trivial) ?_
          (try simp only [Act.put, List.getElem_toArray, List.getElem_cons_zero, List.getElem_cons_succ, List.setIfInBounds_toArray, List.set_cons_zero, List.set_cons_succ])
          refine wpAnyT_take (i := 6) 15 (v := .slice aq k cq) rfl (by kernel_rfl) (fun _ _ _ h => h) (Or.inl ⟨by rfl, by (intro w' hSw; go_simp)⟩) (Lib.hid trivial) ?_
          (try simp only [Act.put, List.getElem_toArray, List.getElem_cons_zero, List.getElem_cons_succ, List.setIfInBounds_toArray, List.set_cons_zero, List.set_cons_succ])
          refine wpAnyT_take (i := 7) 15 (v := .slice (some ⟨gb, 0, none⟩) m cb) rfl (by kernel_rfl) (fun _ _ _ h => h) (Or.inl ⟨by rfl, by (intro w' hSw; go_simp)⟩) (Lib.hid trivial) ?_
          (try simp only [Act.put, List.getElem_toArray, List.getElem_cons_zero, List.getElem_cons_succ, List.setIfInBounds_toArray, List.set_cons_zero, List.set_cons_succ])
          refine wpAnyT_take (i := 8) 15 (v := .int .i64 k) rfl (by kernel_rfl) (fun _ _ _ h => h) (Or.inl ⟨by rfl, by (intro w' hSw; go_simp)⟩) (Lib.hid trivial) ?_
          (try simp only [Act.put, List.getElem_toArray, List.getElem_cons_zero, List.getElem_cons_succ, List.setIfInBounds_toArray, List.set_cons_zero, List.set_cons_succ])
          refine wpAnyT_take (i := 9) 15 (v := .pointer (some ⟨gb, k * 7, none⟩)) rfl (by kernel_rfl) (fun _ _ _ h => h) (Or.inl ⟨by rfl, by (intro w' hSw; go_simp)⟩) (Lib.hid trivial) ?_
          (try simp only [Act.put, List.getElem_toArray, List.getElem_cons_zero, List.getElem_cons_succ, List.setIfInBounds_toArray, List.set_cons_zero, List.set_cons_succ])
          refine wpAnyT_two 4 10 rfl rfl (by kernel_rfl) ?_ ?_
          · (try simp only [List.getElem_toArray, List.getElem_cons_zero, List.getElem_cons_succ])
            have H1 := Lib.hid (H0.out.ins (g := wq.heap.size) [] (Rp ++ (Rq ++ OO)) rfl #[.pointer (some ⟨ga, k * 7, none⟩)] 37)
            go_wp2_with fail
            refine kq_in ⟨Lib.hid trivial, ?_⟩
            generalize hw1 : World.alloc wq _ = wn1 at *
            generalize hg1 : wq.heap.size = gn1 at *
            refine wpAnyT_two 5 10 rfl rfl (by kernel_rfl) ?_ ?_
            · (try simp only [List.getElem_toArray, List.getElem_cons_zero, List.getElem_cons_succ])
              go_wp2_with (at_builtin; refine row_append rfl (.tmp 35) (.tmp 39) 51 rfl [(gn1, #[.pointer (some ⟨ga, k * 7, none⟩)], 37)] (Rq ++ OO) Try.underlying51 hi hz hs1 hs2 rfl (by omega) hP0 (H1.out.lit (by simp)) rfl rfl (Src.blk (size := 1) (m := 1) (H1.out.at_ 0 rfl) rfl) (pvs_one [some (ga, k * 7)]) (by omega) (by omega) ?_; rintro R2 a2 c2 wn2 hR2 hS2')
              refine kq_in ⟨Lib.hid trivial, ?_⟩
              have H2 := Lib.hid (hS2'.lit (L' := [(gn1, #[.pointer (some ⟨ga, k * 7, none⟩)], 37)] ++ (R2 ++ (Rq ++ OO))) (by simp))
              clear hS2'
              refine wpAnyT_one 10 rfl (by kernel_rfl) ?_
              (try simp only [List.getElem_toArray, List.getElem_cons_zero, List.getElem_cons_succ])
              have H3 := Lib.hid (H2.out.ins (g := wn2.heap.size) [(gn1, #[.pointer (some ⟨ga, k * 7, none⟩)], 37)] (R2 ++ (Rq ++ OO)) rfl #[.pointer (some ⟨gb, k * 7, none⟩)] 37)
              go_wp2_with fail
              refine kq_in ⟨Lib.hid trivial, ?_⟩
              generalize hw3 : World.alloc wn2 _ = wn3 at *
              generalize hg3 : wn2.heap.size = gn3 at *
              refine wpAnyT_one 11 rfl (by kernel_rfl) ?_
              (try simp only [List.getElem_toArray, List.getElem_cons_zero, List.getElem_cons_succ])
              go_wp2_with (at_builtin; refine row_append rfl (.tmp 41) (.tmp 45) 51 rfl ([(gn1, #[.pointer (some ⟨ga, k * 7, none⟩)], 37), (gn3, #[.pointer (some ⟨gb, k * 7, none⟩)], 37)] ++ R2) OO Try.underlying51 hi hz hs1 hs2 rfl (by omega) hQ0 (H3.out.lit (by simp)) rfl rfl (Src.blk (size := 1) (m := 1) (H3.out.at_ 1 rfl) rfl) (pvs_one [some (gb, k * 7)]) (by omega) (by omega) ?_; rintro R4 a4 c4 wn4 hR4 hS4')
              refine kq_in ⟨Lib.hid trivial, ?_⟩
              have H4 := Lib.hid (hS4'.lit (L' := [(gn1, #[.pointer (some ⟨ga, k * 7, none⟩)], 37), (gn3, #[.pointer (some ⟨gb, k * 7, none⟩)], 37)] ++ (R2 ++ (R4 ++ OO))) (by simp))
              clear hS4'
              refine wpAnyT_take (i := 12) 15 (v := .slice a2 (k + 1) c2) rfl (by kernel_rfl) (fun _ _ _ h => h) (Or.inl ⟨by rfl, by (intro w' hSw; go_simp)⟩) (Lib.hid trivial) ?_
              (try simp only [Act.put, List.getElem_toArray, List.getElem_cons_zero, List.getElem_cons_succ, List.setIfInBounds_toArray, List.set_cons_zero, List.set_cons_succ])
              refine wpAnyT_last rfl (by kernel_rfl) ?_
              (try simp only [List.getElem_toArray, List.getElem_cons_zero, List.getElem_cons_succ])
              go_wp2_with fail
              refine kq_in ?_
              refine wpAny_done (by kernel_rfl) ?_ _
              go_wp2_with fail
              go_meet
              exact ⟨R2, R4, a2, a4, c2, c4, rfl, rfl, by rw [ptrs_next, List.map_append]; exact hR2, by rw [ptrs_next, List.map_append]; exact hR4, Lib.hid (H4.out.sub (by simp))⟩
            · (try simp only [List.getElem_toArray, List.getElem_cons_zero, List.getElem_cons_succ])
              have H5 := Lib.hid (H1.out.ins (g := wn1.heap.size) [(gn1, #[.pointer (some ⟨ga, k * 7, none⟩)], 37)] (Rp ++ (Rq ++ OO)) rfl #[.pointer (some ⟨gb, k * 7, none⟩)] 37)
              go_wp2_with fail
              refine kq_in ⟨Lib.hid trivial, ?_⟩
              generalize hw5 : World.alloc wn1 _ = wn5 at *
              generalize hg5 : wn1.heap.size = gn5 at *
              refine wpAnyT_one 5 rfl (by kernel_rfl) ?_
              (try simp only [List.getElem_toArray, List.getElem_cons_zero, List.getElem_cons_succ])
              go_wp2_with (at_builtin; refine row_append rfl (.tmp 35) (.tmp 39) 51 rfl [(gn1, #[.pointer (some ⟨ga, k * 7, none⟩)], 37), (gn5, #[.pointer (some ⟨gb, k * 7, none⟩)], 37)] (Rq ++ OO) Try.underlying51 hi hz hs1 hs2 rfl (by omega) hP0 (H5.out.lit (by simp)) rfl rfl (Src.blk (size := 1) (m := 1) (H5.out.at_ 0 rfl) rfl) (pvs_one [some (ga, k * 7)]) (by omega) (by omega) ?_; rintro R6 a6 c6 wn6 hR6 hS6')
              refine kq_in ⟨Lib.hid trivial, ?_⟩
              have H6 := Lib.hid (hS6'.lit (L' := [(gn1, #[.pointer (some ⟨ga, k * 7, none⟩)], 37), (gn5, #[.pointer (some ⟨gb, k * 7, none⟩)], 37)] ++ (R6 ++ (Rq ++ OO))) (by simp))
              clear hS6'
              refine wpAnyT_one 11 rfl (by kernel_rfl) ?_
              (try simp only [List.getElem_toArray, List.getElem_cons_zero, List.getElem_cons_succ])
              go_wp2_with (at_builtin; refine row_append rfl (.tmp 41) (.tmp 45) 51 rfl ([(gn1, #[.pointer (some ⟨ga, k * 7, none⟩)], 37), (gn5, #[.pointer (some ⟨gb, k * 7, none⟩)], 37)] ++ R6) OO Try.underlying51 hi hz hs1 hs2 rfl (by omega) hQ0 (H6.out.lit (by simp)) rfl rfl (Src.blk (size := 1) (m := 1) (H6.out.at_ 1 rfl) rfl) (pvs_one [some (gb, k * 7)]) (by omega) (by omega) ?_; rintro R7 a7 c7 wn7 hR7 hS7')
              refine kq_in ⟨Lib.hid trivial, ?_⟩
              have H7 := Lib.hid (hS7'.lit (L' := [(gn1, #[.pointer (some ⟨ga, k * 7, none⟩)], 37), (gn5, #[.pointer (some ⟨gb, k * 7, none⟩)], 37)] ++ (R6 ++ (R7 ++ OO))) (by simp))
              clear hS7'
              refine wpAnyT_take (i := 12) 15 (v := .slice a6 (k + 1) c6) rfl (by kernel_rfl) (fun _ _ _ h => h) (Or.inl ⟨by rfl, by (intro w' hSw; go_simp)⟩) (Lib.hid trivial) ?_
              (try simp only [Act.put, List.getElem_toArray, List.getElem_cons_zero, List.getElem_cons_succ, List.setIfInBounds_toArray, List.set_cons_zero, List.set_cons_succ])
              refine wpAnyT_last rfl (by kernel_rfl) ?_
              (try simp only [List.getElem_toArray, List.getElem_cons_zero, List.getElem_cons_succ])
              go_wp2_with fail
              refine kq_in ?_
              refine wpAny_done (by kernel_rfl) ?_ _
              go_wp2_with fail
              go_meet
              exact ⟨R6, R7, a6, a7, c6, c7, rfl, rfl, by rw [ptrs_next, List.map_append]; exact hR6, by rw [ptrs_next, List.map_append]; exact hR7, Lib.hid (H7.out.sub (by simp))⟩
          · (try simp only [List.getElem_toArray, List.getElem_cons_zero, List.getElem_cons_succ])
            have H8 := Lib.hid (H0.out.ins (g := wq.heap.size) [] (Rp ++ (Rq ++ OO)) rfl #[.pointer (some ⟨gb, k * 7, none⟩)] 37)
            go_wp2_with fail
            refine kq_in ⟨Lib.hid trivial, ?_⟩
            generalize hw8 : World.alloc wq _ = wn8 at *
            generalize hg8 : wq.heap.size = gn8 at *
            refine wpAnyT_one 4 rfl (by kernel_rfl) ?_
            (try simp only [List.getElem_toArray, List.getElem_cons_zero, List.getElem_cons_succ])
            have H9 := Lib.hid (H8.out.ins (g := wn8.heap.size) [(gn8, #[.pointer (some ⟨gb, k * 7, none⟩)], 37)] (Rp ++ (Rq ++ OO)) rfl #[.pointer (some ⟨ga, k * 7, none⟩)] 37)
            go_wp2_with fail
            refine kq_in ⟨Lib.hid trivial, ?_⟩
            generalize hw9 : World.alloc wn8 _ = wn9 at *
            generalize hg9 : wn8.heap.size = gn9 at *
            refine wpAnyT_one 5 rfl (by kernel_rfl) ?_
            (try simp only [List.getElem_toArray, List.getElem_cons_zero, List.getElem_cons_succ])
            go_wp2_with (at_builtin; refine row_append rfl (.tmp 35) (.tmp 39) 51 rfl [(gn8, #[.pointer (some ⟨gb, k * 7, none⟩)], 37), (gn9, #[.pointer (some ⟨ga, k * 7, none⟩)], 37)] (Rq ++ OO) Try.underlying51 hi hz hs1 hs2 rfl (by omega) hP0 (H9.out.lit (by simp)) rfl rfl (Src.blk (size := 1) (m := 1) (H9.out.at_ 1 rfl) rfl) (pvs_one [some (ga, k * 7)]) (by omega) (by omega) ?_; rintro R10 a10 c10 wn10 hR10 hS10')
            refine kq_in ⟨Lib.hid trivial, ?_⟩
            have H10 := Lib.hid (hS10'.lit (L' := [(gn8, #[.pointer (some ⟨gb, k * 7, none⟩)], 37), (gn9, #[.pointer (some ⟨ga, k * 7, none⟩)], 37)] ++ (R10 ++ (Rq ++ OO))) (by simp))
            clear hS10'
            refine wpAnyT_one 11 rfl (by kernel_rfl) ?_
            (try simp only [List.getElem_toArray, List.getElem_cons_zero, List.getElem_cons_succ])
            go_wp2_with (at_builtin; refine row_append rfl (.tmp 41) (.tmp 45) 51 rfl ([(gn8, #[.pointer (some ⟨gb, k * 7, none⟩)], 37), (gn9, #[.pointer (some ⟨ga, k * 7, none⟩)], 37)] ++ R10) OO Try.underlying51 hi hz hs1 hs2 rfl (by omega) hQ0 (H10.out.lit (by simp)) rfl rfl (Src.blk (size := 1) (m := 1) (H10.out.at_ 0 rfl) rfl) (pvs_one [some (gb, k * 7)]) (by omega) (by omega) ?_; rintro R11 a11 c11 wn11 hR11 hS11')
            refine kq_in ⟨Lib.hid trivial, ?_⟩
            have H11 := Lib.hid (hS11'.lit (L' := [(gn8, #[.pointer (some ⟨gb, k * 7, none⟩)], 37), (gn9, #[.pointer (some ⟨ga, k * 7, none⟩)], 37)] ++ (R10 ++ (R11 ++ OO))) (by simp))
            clear hS11'
            refine wpAnyT_take (i := 12) 15 (v := .slice a10 (k + 1) c10) rfl (by kernel_rfl) (fun _ _ _ h => h) (Or.inl ⟨by rfl, by (intro w' hSw; go_simp)⟩) (Lib.hid trivial) ?_
            (try simp only [Act.put, List.getElem_toArray, List.getElem_cons_zero, List.getElem_cons_succ, List.setIfInBounds_toArray, List.set_cons_zero, List.set_cons_succ])
            refine wpAnyT_last rfl (by kernel_rfl) ?_
            (try simp only [List.getElem_toArray, List.getElem_cons_zero, List.getElem_cons_succ])
            go_wp2_with fail
            refine kq_in ?_
            refine wpAny_done (by kernel_rfl) ?_ _
            go_wp2_with fail
            go_meet
            exact ⟨R10, R11, a10, a11, c10, c11, rfl, rfl, by rw [ptrs_next, List.map_append]; exact hR10, by rw [ptrs_next, List.map_append]; exact hR11, Lib.hid (H11.out.sub (by simp))⟩
        case rest =>
          obtain ⟨Rp2, Rq2, ap2, aq2, cp2, cq2, rfl, rfl, hP2, hQ2, HS5⟩ := hcut
          rw [← hOO] at HS5
          have HP2 := Lib.hid hP2; have HQ2 := Lib.hid hQ2
          clear hP2 hQ2 HS4 hOO HP HQ hi hz hs1 hs2
          have hmd := HMD.out z (List.mem_of_getElem? HZ.out)
          have hsv : ((zs.take (k + 1)).map ogi).sum = ((zs.take k).map ogi).sum + ogi z := take_next ogi zs k z HZ.out
          have hz2 : (dz zs (k + 1))[k]? = some (z.down 0) := by rw [← dz_next HZ.out, List.getElem?_set_self (by rw [dz_len, HL.out]; exact hlt)]
          have hS6 := HS5.out.lit (L' := (Rp2 ++ Rq2) ++ (Ra2 ++ (Rb2 ++ []))) (by simp)
          obtain ⟨_, e0, e1, e2, e3, e4, e5, e6⟩ := HA2.out.cells hS6 hz2
          obtain ⟨zr, zog, zrt, zi, zj, zsh, zdn⟩ := z
          obtain ⟨m1, m2, m3, m4, m5, m6, m7, m8, m9, m10, m11⟩ := hmd
          simp only at m1 m2 m3 m4 m5 m6 m7 m8 m9 m10 m11
          simp only [Nt.down] at e0 e1 e2 e3 e4 e5 e6
          subst m5 m6 m7
          have HSV2 := Lib.hid (show sv + (zog - zi) = ((zs.take (k + 1)).map ogi).sum from by rw [hsv, ← HSV.out]; rfl)
          clear hsv hz2 hS6 HZ HLZ HSV
          go_wp2_with fail
          refine (balance_calls zr zog 0 zi 0 0 0 wc (Fair.mk_ (by omega) (by omega) (by omega) (by omega) (by omega) (by omega) (by omega) (by omega) (by omega))).mono ?_
          rintro e w9 ⟨rfl, hb⟩
          have HS7 := Lib.hid (HS5.out.below hb)
          have hv1 : zog - (zi - 0) - 0 = zog - zi := by omega
          rw [hv1]
          have hv2 : IntKind.i64.wrap (sv + (zog - zi)) = sv + (zog - zi) := IntWalk.i64_in _ (by omega)
          clear hb HS5 e0 e1 e2 e3 e4 e5 e6 hv1
          go_wp2_with fail
          go_roundw
          case rel => exact ⟨k + 1, Ra2, Rb2, Rp2, Rq2, ap2, aq2, cp2, cq2, sv + (zog - zi), by omega, rfl, rfl, by go_num, by go_num, by omega, by push_cast; omega, HSV2, HA2, HB2, HP2, HQ2, HS7⟩
          case measure => simp [intOf]; omega
      · obtain rfl : k = m := by omega
        have htk : zs.take k = zs := List.take_of_length_le (by rw [HL.out]; exact Nat.le_refl _)
        rw [htk] at HSV
        go_wp2_with fail
        go_meet
        exact ⟨Ra', Rb', Rp, Rq, ap, aq, cp, cq, sv, rfl, rfl, rfl, s0, by omega, HSV, HA, HB, HP, HQ, HS⟩
  case rest =>
    obtain ⟨Ra', Rb', Rp, Rq, ap, aq, cp, cq, sv, rfl, rfl, rfl, s0, s1, HSV, HA, HB, HP, HQ, HS⟩ := hcut
    clear HS2 HNa HNb hi hz hs1 hs2
    obtain ⟨i1, hi, hz, hs1, hs2⟩ := info_parts note_info
    rw [dz_full HL.out] at HA HB
    change Hid (NRow Ra' a m ga (zd zs)) at HA
    change Hid (NRow Rb' b m gb (zd zs)) at HB
    have hsv : sv = ((zd zs).map Nt.bal).sum := by rw [zd_bal HMD.out, HSV.out]; rfl
    have HSV2 := Lib.hid hsv
    have HZL := Lib.hid (zd_lossy HMD.out)
    have HZM := Lib.hid (show (zd zs).length = m from by rw [zd_len, HL.out])
    have HZS := Lib.hid (zd_sum zs)
    have HZF := Lib.hid (fun rs => zd_filled rs m zs)
    clear hsv HSV
    generalize zd zs = z0 at *
    have HSe := Lib.hid (HS.out.ins (g := wc.heap.size) [] (Rp ++ (Rq ++ (Ra' ++ (Rb' ++ [])))) rfl #[] 27)
    have HSR := Lib.hid (HA.out.src (A := Rp ++ Rq) (B := Rb' ++ []) (HS.out.lit (by simp)))
    go_upto_region 13 with (at_builtin; refine row_append rfl (.tmp 55) (.tmp 56) 46 rfl [] (Rp ++ (Rq ++ (Ra' ++ (Rb' ++ [])))) Try.underlying46 hi hz hs1 hs2 rfl (by omega) (emptyRow wc.heap.size 27 7) HSe.out rfl rfl (HSR.out.alloc _) (ncs_one z0) (by omega) (by omega) ?_; rintro Rw aw cw w5 hRw' hSw'; have hRw := Lib.hid hRw'; have HS5 := Lib.hid hSw'; clear hRw' hSw' HSe HSR HS hi hz hs1 hs2)
    have hRw2 : Row Rw 27 7 aw m cw (z0.flatMap Nt.c) := by have := hRw.out; simpa using this
    obtain ⟨gw, hNw⟩ := NRow.of hRw2
    have HNw := Lib.hid hNw
    clear hRw hRw2 hNw
    obtain ⟨t, ht⟩ : ∃ t, within up 0 sv = t := ⟨_, rfl⟩
    have htb := within_bd up (lo := 0) (hi := sv) (by omega)
    have HW1 := Lib.hid (within_calls up 0 sv w5 (by omega) (by omega) (by omega))
    rw [ht] at HW1 htb
    clear ht
    obtain ⟨tb0, tb1⟩ := htb
    obtain ⟨m2, hm2⟩ : ∃ t', within mid 0 t = t' := ⟨_, rfl⟩
    have hmb := within_bd mid (lo := 0) (hi := t) (by omega)
    have HW2 := Lib.hid (within_calls mid 0 t w5 (by omega) (by omega) (by omega))
    rw [hm2] at HW2 hmb
    clear hm2
    obtain ⟨mb0, mb1⟩ := hmb
    go_wp2_with fail
    refine HW1.out.mono ?_
    rintro e w' ⟨rfl, rfl⟩
    go_wp2_with fail
    refine HW2.out.mono ?_
    rintro e w' ⟨rfl, rfl⟩
    clear HW1 HW2
    go_wp2_with fail
    have hlen0 : ((stN z0).1.sum + (stN z0).2.sum) = sv := by
      show (z0.map Nt.bal).sum + (z0.map Nt.dn).sum = sv
      rw [HZS.out, ← HSV2.out]; omega
    have HT0 := Lib.hid hlen0
    clear hlen0
    refine (allot_row (A := [] ++ (Rw ++ (Rp ++ Rq))) (B := Rb' ++ []) t HA.out (HS5.out.lit (by simp)) HZL.out (by omega) HP.out ⟨Rw, Rq ++ (Rb' ++ []), by simp⟩ (by omega) (by omega)).mono ?_
    rintro e w6 ⟨za, Ra2, rfl, hsh, hNa, hS6, hsn, hla⟩
    have hok0 := stN_ok HZM.out HZL.out
    have hfa := hsh.far hok0 (by omega)
    have hka := (hsh.keeps hok0).2
    have hffa := hsh.filled hok0 (HZF.out _)
    have hsa : (za.map Nt.dn).sum = t := by have : (za.map Nt.dn).sum = _ := hfa; rw [this, HT0.out]; omega
    rw [hsa]
    have hlena : za.length = m := hsn.1.trans HZM.out
    have hoka := stN_ok hlena hla
    have HNA := Lib.hid hNa; have HSNA := Lib.hid hsn; have HLA := Lib.hid hla; have HKA := Lib.hid hka; have HFA := Lib.hid hffa; have HSA := Lib.hid hsa; have HOA := Lib.hid hoka; have HO0 := Lib.hid hok0
    have HS6 := Lib.hid (hS6.lit (L' := Rw ++ (Rp ++ (Rq ++ (Ra2 ++ (Rb' ++ []))))) (by simp))
    clear hsh hNa hS6 hsn hla hok0 hfa hka hffa hsa hoka hlena HS5 HA
    go_wp2_with fail
    refine (allot_row (A := Rw ++ (Rp ++ (Rq ++ Ra2))) (B := []) m2 HB.out (HS6.out.lit (by simp)) HZL.out (by omega) HQ.out ⟨Rw ++ Rp, Ra2, by simp⟩ (by omega) (by omega)).mono ?_
    rintro e w7 ⟨zb, Rb2, rfl, hsh, hNb, hS7, hsn, hlb⟩
    have hfb := hsh.far HO0.out (by omega)
    have hkb := (hsh.keeps HO0.out).2
    have hffb := hsh.filled HO0.out (HZF.out _)
    have hsb : (zb.map Nt.dn).sum = m2 := by have : (zb.map Nt.dn).sum = _ := hfb; rw [this, HT0.out]; omega
    rw [hsb]
    have hlenb : zb.length = m := hsn.1.trans HZM.out
    have hokb := stN_ok hlenb hlb
    have HNB := Lib.hid hNb; have HSNB := Lib.hid hsn; have HLB := Lib.hid hlb; have HKB := Lib.hid hkb; have HFB := Lib.hid hffb; have HOB := Lib.hid hokb; have HLENB := Lib.hid hlenb
    have HS7 := Lib.hid (hS7.lit (L' := Rw ++ (Rp ++ (Rq ++ (Ra2 ++ (Rb2 ++ []))))) (by simp))
    clear hsh hNb hS7 hsn hlb hfb hkb hffb hsb hokb hlenb HS6 HB
    go_wp2_with fail
    refine (allot_row (A := Rw ++ (Rp ++ (Rq ++ Ra2))) (B := []) t HNB.out (HS7.out.lit (by simp)) HLB.out (by omega) HQ.out ⟨Rw ++ Rp, Ra2, by simp⟩ (by omega) (by omega)).mono ?_
    rintro e w8 ⟨zc, Rb3, rfl, hsh, hNc, hS8, hsn, hlc⟩
    rw [same_ranks HSNB.out] at hsh
    have hfc := hsh.far HOB.out (by omega)
    have hkc := HKB.out.trans (hsh.keeps HOB.out).2
    have hffc := hsh.filled HOB.out HFB.out
    have htot := HKB.out.total
    have hsc : (zc.map Nt.dn).sum = t := by have : (zc.map Nt.dn).sum = _ := hfc; rw [this, htot, HT0.out]; omega
    rw [hsc]
    have hlenc : zc.length = m := hsn.1.trans HLENB.out
    have hokc := stN_ok hlenc hlc
    have hsnc := HSNB.out.trans hsn
    have heq : stN za = stN zc := filled_one HOA.out hokc HFA.out hffc (fun i hi => (HKA.out.sum i hi).trans (hkc.sum i hi).symm) (HSA.out.trans hsc.symm)
    have hac : zc = za := same_eq hsnc HSNA.out (congrArg Prod.snd heq.symm)
    subst hac
    have HNC := Lib.hid hNc; have HLC := Lib.hid hlc; have HOC := Lib.hid hokc; have HLENC := Lib.hid hlenc
    have HS8 := Lib.hid (hS8.lit (L' := Rw ++ (Rp ++ (Rq ++ (Ra2 ++ (Rb3 ++ []))))) (by simp))
    clear hsh hNc hS8 hsn hlc hfc hkc hffc hsc hokc hlenc heq hsnc htot HS7 HNB HSNB HLB HKB HFB HOB HLENB
    go_upto_block 2 with fail
    go_cut [16] from 85 to 98 (fun v16 wc => Hid (Sts w (Rw ++ (Rp ++ (Rq ++ (Ra2 ++ (Rb3 ++ []))))) wc))
    case first =>
      go_wp2_with fail
      go_loopw [85] (fun v85 wr => ∃ k : Nat, k ≤ m ∧ v85 = .int .i64 k ∧ Hid (Sts w (Rw ++ (Rp ++ (Rq ++ (Ra2 ++ (Rb3 ++ []))))) wr)) (fun v85 _ => m - (intOf v85).toNat)
      case atStart => exact ⟨0, by omega, rfl, HS8⟩
      case round =>
        obtain ⟨k, hk, rfl, HSr⟩ := hrel
        clear HS8
        by_cases hlt : k < m
        · obtain ⟨z, hz⟩ : ∃ z, zc[k]? = some z := ⟨_, List.getElem?_eq_getElem (by rw [HLENC.out]; exact hlt)⟩
          have i1 : (0 : Int) ≤ (k : Int) := by omega
          have i2 : (k : Int) < (m : Int) := by omega
          obtain ⟨zr, zog, zrt, zi', zj, zsh, zdn⟩ := z
          have CA := fun (W : World) (hW : Sts w (Rw ++ (Rp ++ (Rq ++ (Ra2 ++ (Rb3 ++ []))))) W) => HNA.out.cells (A := Rw ++ (Rp ++ Rq)) (B := Rb3 ++ []) (hW.lit (by simp)) hz
          have CB := fun (W : World) (hW : Sts w (Rw ++ (Rp ++ (Rq ++ (Ra2 ++ (Rb3 ++ []))))) W) => HNC.out.cells (A := Rw ++ (Rp ++ (Rq ++ Ra2))) (B := []) (hW.lit (by simp)) hz
          simp only at CA CB
          have ha := (CA _ HSr.out).1
          have hb := (CB _ HSr.out).1
          subst ha hb
          go_upto_region 20 with fail
          have hne : Nonempty (Later w (Rw ++ (Rp ++ (Rq ++ (Ra2 ++ (Rb3 ++ [])))))) := ⟨⟨_, HSr.out⟩⟩
          have x0 : ∀ p : Later w (Rw ++ (Rp ++ (Rq ++ (Ra2 ++ (Rb3 ++ []))))), p.val.cell? ⟨ga, k * 7, none⟩ = some (.int .i64 zr) := fun p => (CA p.val p.property).2.1
          have x1 : ∀ p : Later w (Rw ++ (Rp ++ (Rq ++ (Ra2 ++ (Rb3 ++ []))))), p.val.cell? ⟨ga, k * 7 + 1, none⟩ = some (.int .i64 zog) := fun p => (CA p.val p.property).2.2.1
          have x2 : ∀ p : Later w (Rw ++ (Rp ++ (Rq ++ (Ra2 ++ (Rb3 ++ []))))), p.val.cell? ⟨ga, k * 7 + 2, none⟩ = some (.int .i64 zrt) := fun p => (CA p.val p.property).2.2.2.1
          have x3 : ∀ p : Later w (Rw ++ (Rp ++ (Rq ++ (Ra2 ++ (Rb3 ++ []))))), p.val.cell? ⟨ga, k * 7 + 3, none⟩ = some (.int .i64 zi') := fun p => (CA p.val p.property).2.2.2.2.1
          have x4 : ∀ p : Later w (Rw ++ (Rp ++ (Rq ++ (Ra2 ++ (Rb3 ++ []))))), p.val.cell? ⟨ga, k * 7 + 4, none⟩ = some (.int .i64 zj) := fun p => (CA p.val p.property).2.2.2.2.2.1
          have x5 : ∀ p : Later w (Rw ++ (Rp ++ (Rq ++ (Ra2 ++ (Rb3 ++ []))))), p.val.cell? ⟨ga, k * 7 + 5, none⟩ = some (.int .i64 zsh) := fun p => (CA p.val p.property).2.2.2.2.2.2.1
          have x6 : ∀ p : Later w (Rw ++ (Rp ++ (Rq ++ (Ra2 ++ (Rb3 ++ []))))), p.val.cell? ⟨ga, k * 7 + 6, none⟩ = some (.int .i64 zdn) := fun p => (CA p.val p.property).2.2.2.2.2.2.2
          have y0 : ∀ p : Later w (Rw ++ (Rp ++ (Rq ++ (Ra2 ++ (Rb3 ++ []))))), p.val.cell? ⟨gb, k * 7, none⟩ = some (.int .i64 zr) := fun p => (CB p.val p.property).2.1
          have y1 : ∀ p : Later w (Rw ++ (Rp ++ (Rq ++ (Ra2 ++ (Rb3 ++ []))))), p.val.cell? ⟨gb, k * 7 + 1, none⟩ = some (.int .i64 zog) := fun p => (CB p.val p.property).2.2.1
          have y2 : ∀ p : Later w (Rw ++ (Rp ++ (Rq ++ (Ra2 ++ (Rb3 ++ []))))), p.val.cell? ⟨gb, k * 7 + 2, none⟩ = some (.int .i64 zrt) := fun p => (CB p.val p.property).2.2.2.1
          have y3 : ∀ p : Later w (Rw ++ (Rp ++ (Rq ++ (Ra2 ++ (Rb3 ++ []))))), p.val.cell? ⟨gb, k * 7 + 3, none⟩ = some (.int .i64 zi') := fun p => (CB p.val p.property).2.2.2.2.1
          have y4 : ∀ p : Later w (Rw ++ (Rp ++ (Rq ++ (Ra2 ++ (Rb3 ++ []))))), p.val.cell? ⟨gb, k * 7 + 4, none⟩ = some (.int .i64 zj) := fun p => (CB p.val p.property).2.2.2.2.2.1
          have y5 : ∀ p : Later w (Rw ++ (Rp ++ (Rq ++ (Ra2 ++ (Rb3 ++ []))))), p.val.cell? ⟨gb, k * 7 + 5, none⟩ = some (.int .i64 zsh) := fun p => (CB p.val p.property).2.2.2.2.2.2.1
          have y6 : ∀ p : Later w (Rw ++ (Rp ++ (Rq ++ (Ra2 ++ (Rb3 ++ []))))), p.val.cell? ⟨gb, k * 7 + 6, none⟩ = some (.int .i64 zdn) := fun p => (CB p.val p.property).2.2.2.2.2.2.2
          have NS : ∀ p : Later w (Rw ++ (Rp ++ (Rq ++ (Ra2 ++ (Rb3 ++ []))))), Calls Try.prog 32 #[nv zr zog zrt zi' zj zsh zdn, nv zr zog zrt zi' zj zsh zdn] p.val (fun e w'' => e = .returned (.bool true) ∧ ∃ q : Later w (Rw ++ (Rp ++ (Rq ++ (Ra2 ++ (Rb3 ++ []))))), w'' = q.val) := fun p =>
            (same_note zr zog zrt zi' zj zsh zdn p.val).mono fun e w' h => ⟨h.1, ⟨w', p.property.below h.2⟩, rfl⟩
          refine wp_region_sts HSr.out (by kernel_rfl) (by kernel_rfl) ?_
          repeat (go_big_quiet_step (first | exact rfl | (go_at_call 32; exact NS _)))
          refine wpQuiet_nil ?_
          rintro wz ⟨⟨_, hz'⟩, rfl⟩
          have HSz := Lib.hid hz'
          clear hz' hne NS CA CB HSr x0 x1 x2 x3 x4 x5 x6 y0 y1 y2 y3 y4 y5 y6
          go_wp2_with fail
          go_roundw
          case rel => exact ⟨k + 1, by omega, by go_num, HSz⟩
          case measure => simp [intOf]; omega
        · obtain rfl : k = m := by omega
          go_wp2_with fail
          go_meet
          exact HSr
    case rest =>
      have HS9 := hcut
      clear HS8 hcut
      go_wp2_with fail
      refine (allot_row (A := Rw ++ (Rp ++ Rq)) (B := Rb3 ++ []) 0 HNA.out (HS9.out.lit (by simp)) HLA.out (by omega) HP.out ⟨Rw, Rq ++ (Rb3 ++ []), by simp⟩ (by omega) (by omega)).mono ?_
      rintro e w10 ⟨ze, Ra4, rfl, hsh, hNe, hS10, hsn, hle⟩
      rw [same_ranks HSNA.out] at hsh
      have hfe := hsh.far HOA.out (by omega)
      have hke := HKA.out.trans (hsh.keeps HOA.out).2
      have hffe := hsh.filled HOA.out HFA.out
      have htot := HKA.out.total
      have hse : (ze.map Nt.dn).sum = 0 := by have : (ze.map Nt.dn).sum = _ := hfe; rw [this, htot, HT0.out]; omega
      rw [hse]
      have hlene : ze.length = m := hsn.1.trans (HSNA.out.1.trans HZM.out)
      have hoke := stN_ok hlene hle
      have hsne := HSNA.out.trans hsn
      have heq : stN ze = stN z0 := filled_one hoke HO0.out hffe (HZF.out _) (fun i hi => hke.sum i hi) (hse.trans HZS.out.symm)
      have haz : ze = z0 := same_eq hsne (SameN.refl z0) (congrArg Prod.snd heq)
      subst haz
      have HNE := Lib.hid hNe
      have HS10 := Lib.hid (hS10.lit (L' := Rw ++ (Rp ++ (Rq ++ (Ra4 ++ (Rb3 ++ []))))) (by simp))
      clear hsh hNe hS10 hsn hle hfe hke hffe htot hse hlene hoke hsne heq HS9 HNA HKA HFA HSA HOA HLA HSNA
      go_upto_block 4 with fail
      go_cut [17] from 104 to 117 (fun v17 wc => Hid (Sts w (Rw ++ (Rp ++ (Rq ++ (Ra4 ++ (Rb3 ++ []))))) wc))
      case first =>
        go_wp2_with fail
        go_loopw [104] (fun v104 wr => ∃ k : Nat, k ≤ m ∧ v104 = .int .i64 k ∧ Hid (Sts w (Rw ++ (Rp ++ (Rq ++ (Ra4 ++ (Rb3 ++ []))))) wr)) (fun v104 _ => m - (intOf v104).toNat)
        case atStart => exact ⟨0, by omega, rfl, HS10⟩
        case round =>
          obtain ⟨k, hk, rfl, HSr⟩ := hrel
          clear HS10
          by_cases hlt : k < m
          · obtain ⟨z, hz⟩ : ∃ z, ze[k]? = some z := ⟨_, List.getElem?_eq_getElem (by rw [HZM.out]; exact hlt)⟩
            have i1 : (0 : Int) ≤ (k : Int) := by omega
            have i2 : (k : Int) < (m : Int) := by omega
            obtain ⟨zr, zog, zrt, zi', zj, zsh, zdn⟩ := z
            have CA := fun (W : World) (hW : Sts w (Rw ++ (Rp ++ (Rq ++ (Ra4 ++ (Rb3 ++ []))))) W) => HNE.out.cells (A := Rw ++ (Rp ++ Rq)) (B := Rb3 ++ []) (hW.lit (by simp)) hz
            have CB := fun (W : World) (hW : Sts w (Rw ++ (Rp ++ (Rq ++ (Ra4 ++ (Rb3 ++ []))))) W) => HNw.out.cells (A := []) (B := Rp ++ (Rq ++ (Ra4 ++ (Rb3 ++ [])))) (hW.lit (by simp)) hz
            simp only at CA CB
            have ha := (CA _ HSr.out).1
            have hb := (CB _ HSr.out).1
            subst ha hb
            go_upto_region 28 with fail
            have hne : Nonempty (Later w (Rw ++ (Rp ++ (Rq ++ (Ra4 ++ (Rb3 ++ [])))))) := ⟨⟨_, HSr.out⟩⟩
            have x0 : ∀ p : Later w (Rw ++ (Rp ++ (Rq ++ (Ra4 ++ (Rb3 ++ []))))), p.val.cell? ⟨ga, k * 7, none⟩ = some (.int .i64 zr) := fun p => (CA p.val p.property).2.1
            have x1 : ∀ p : Later w (Rw ++ (Rp ++ (Rq ++ (Ra4 ++ (Rb3 ++ []))))), p.val.cell? ⟨ga, k * 7 + 1, none⟩ = some (.int .i64 zog) := fun p => (CA p.val p.property).2.2.1
            have x2 : ∀ p : Later w (Rw ++ (Rp ++ (Rq ++ (Ra4 ++ (Rb3 ++ []))))), p.val.cell? ⟨ga, k * 7 + 2, none⟩ = some (.int .i64 zrt) := fun p => (CA p.val p.property).2.2.2.1
            have x3 : ∀ p : Later w (Rw ++ (Rp ++ (Rq ++ (Ra4 ++ (Rb3 ++ []))))), p.val.cell? ⟨ga, k * 7 + 3, none⟩ = some (.int .i64 zi') := fun p => (CA p.val p.property).2.2.2.2.1
            have x4 : ∀ p : Later w (Rw ++ (Rp ++ (Rq ++ (Ra4 ++ (Rb3 ++ []))))), p.val.cell? ⟨ga, k * 7 + 4, none⟩ = some (.int .i64 zj) := fun p => (CA p.val p.property).2.2.2.2.2.1
            have x5 : ∀ p : Later w (Rw ++ (Rp ++ (Rq ++ (Ra4 ++ (Rb3 ++ []))))), p.val.cell? ⟨ga, k * 7 + 5, none⟩ = some (.int .i64 zsh) := fun p => (CA p.val p.property).2.2.2.2.2.2.1
            have x6 : ∀ p : Later w (Rw ++ (Rp ++ (Rq ++ (Ra4 ++ (Rb3 ++ []))))), p.val.cell? ⟨ga, k * 7 + 6, none⟩ = some (.int .i64 zdn) := fun p => (CA p.val p.property).2.2.2.2.2.2.2
            have y0 : ∀ p : Later w (Rw ++ (Rp ++ (Rq ++ (Ra4 ++ (Rb3 ++ []))))), p.val.cell? ⟨gw, k * 7, none⟩ = some (.int .i64 zr) := fun p => (CB p.val p.property).2.1
            have y1 : ∀ p : Later w (Rw ++ (Rp ++ (Rq ++ (Ra4 ++ (Rb3 ++ []))))), p.val.cell? ⟨gw, k * 7 + 1, none⟩ = some (.int .i64 zog) := fun p => (CB p.val p.property).2.2.1
            have y2 : ∀ p : Later w (Rw ++ (Rp ++ (Rq ++ (Ra4 ++ (Rb3 ++ []))))), p.val.cell? ⟨gw, k * 7 + 2, none⟩ = some (.int .i64 zrt) := fun p => (CB p.val p.property).2.2.2.1
            have y3 : ∀ p : Later w (Rw ++ (Rp ++ (Rq ++ (Ra4 ++ (Rb3 ++ []))))), p.val.cell? ⟨gw, k * 7 + 3, none⟩ = some (.int .i64 zi') := fun p => (CB p.val p.property).2.2.2.2.1
            have y4 : ∀ p : Later w (Rw ++ (Rp ++ (Rq ++ (Ra4 ++ (Rb3 ++ []))))), p.val.cell? ⟨gw, k * 7 + 4, none⟩ = some (.int .i64 zj) := fun p => (CB p.val p.property).2.2.2.2.2.1
            have y5 : ∀ p : Later w (Rw ++ (Rp ++ (Rq ++ (Ra4 ++ (Rb3 ++ []))))), p.val.cell? ⟨gw, k * 7 + 5, none⟩ = some (.int .i64 zsh) := fun p => (CB p.val p.property).2.2.2.2.2.2.1
            have y6 : ∀ p : Later w (Rw ++ (Rp ++ (Rq ++ (Ra4 ++ (Rb3 ++ []))))), p.val.cell? ⟨gw, k * 7 + 6, none⟩ = some (.int .i64 zdn) := fun p => (CB p.val p.property).2.2.2.2.2.2.2
            have NS : ∀ p : Later w (Rw ++ (Rp ++ (Rq ++ (Ra4 ++ (Rb3 ++ []))))), Calls Try.prog 32 #[nv zr zog zrt zi' zj zsh zdn, nv zr zog zrt zi' zj zsh zdn] p.val (fun e w'' => e = .returned (.bool true) ∧ ∃ q : Later w (Rw ++ (Rp ++ (Rq ++ (Ra4 ++ (Rb3 ++ []))))), w'' = q.val) := fun p =>
              (same_note zr zog zrt zi' zj zsh zdn p.val).mono fun e w' h => ⟨h.1, ⟨w', p.property.below h.2⟩, rfl⟩
            refine wp_region_sts HSr.out (by kernel_rfl) (by kernel_rfl) ?_
            repeat (go_big_quiet_step (first | exact rfl | (go_at_call 32; exact NS _)))
            refine wpQuiet_nil ?_
            rintro wz ⟨⟨_, hz'⟩, rfl⟩
            have HSz := Lib.hid hz'
            clear hz' hne NS CA CB HSr x0 x1 x2 x3 x4 x5 x6 y0 y1 y2 y3 y4 y5 y6
            go_wp2_with fail
            go_roundw
            case rel => exact ⟨k + 1, by omega, by go_num, HSz⟩
            case measure => simp [intOf]; omega
          · obtain rfl : k = m := by omega
            go_wp2_with fail
            go_meet
            exact HSr
      case rest =>
        have HS11 := hcut
        clear HS10 hcut
        go_wp2_with fail
        refine (allot_row (A := Rw ++ (Rp ++ (Rq ++ Ra4))) (B := []) (-5) HNC.out (HS11.out.lit (by simp)) HLC.out (by omega) HQ.out ⟨Rw ++ Rp, Ra4, by simp⟩ (by omega) (by omega)).mono ?_
        rintro e w12 ⟨zf, Rb5, rfl, hsh, hNf, hS12, hsn, hlf⟩
        have hff := hsh.far HOC.out (by omega)
        have hsf : (zf.map Nt.dn).sum = 0 := by
          have h9 : (zf.map Nt.dn).sum = _ := hff
          have q1 := HOC.out.sum1
          have q2 := HOC.out.sum2
          rw [h9]; omega
        rw [hsf]
        have HSZ := Lib.hid hS12
        clear hsh hNf hS12 hsn hlf hff hsf HS11
        go_wp2_with fail
        refine (lossRuns_calls w12).mono ?_
        rintro e w13 ⟨rfl, hb⟩
        have HB13 := Lib.hid (HSZ.out.below hb).bel
        clear hb HSZ
        go_wp2_with fail
        go_ret
        exact ⟨rfl, HB13.out⟩
end Go.Proofs.Ytllbpjaiplnbnaa

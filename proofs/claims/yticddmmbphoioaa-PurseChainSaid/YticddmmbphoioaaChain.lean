import Derived.Test.YticddmmbphoioaaChainMove
import Derived.Test.YticddmmbphoioaaPurseRuns
import Derived.Test.YticddmmbphoioaaWithin
namespace Go.Proofs.Yticddmmbphoioaa
open Go.RowKit
set_option linter.unusedVariables false
set_option linter.unusedSimpArgs false
attribute [local go_sem] bmax2 bmin2 bmax_two bmin_two bmax_three bmin_three
set_option maxHeartbeats 4000000 in
set_option maxRecDepth 100000 in
theorem purseChain_walk (a0 : Int) (A1 : Option Addr) (n1 c1 : Nat) (z1 : List Int) (w : World) (_h0 : -9223372036854775808 ≤ a0 ∧ a0 ≤ 9223372036854775807) (h1 : Ints w A1 n1 z1) :
    Calls Try.prog 10 #[.int .i64 a0, .slice A1 n1 c1] w fun e w' => e = .returned (.bool true) ∧ Below w.heap.size w w' := by
  obtain ⟨a, ha⟩ : ∃ a, a = within a0 0 1099511627776 := ⟨_, rfl⟩
  obtain ⟨ba0, ba1⟩ : 0 ≤ a ∧ a ≤ 1099511627776 := by rw [ha]; exact within_bd a0 (by omega)
  have Ea := Lib.hid ha
  clear ha
  have N1 := h1.most
  have H1 := Lib.hid h1
  clear h1
  have hmk : ∀ w, (Instr.makeSlice 65 (.int .i64 5) (.int .i64 5)).run Try.prog w = .ok (.slice (some ⟨w.heap.size, 0, none⟩) 5 5) (w.alloc (.cells #[.int .i64 0, .int .i64 0, .int .i64 0, .int .i64 0, .int .i64 0, .int .i64 0, .int .i64 0, .int .i64 0, .int .i64 0, .int .i64 0] 35)) := fun _ => by kernel_rfl
  have HS0 := Lib.hid (Sts.nil w)
  go_enter Try.func10, Try.ntmps10
  go_wp2_with fail
  refine (within_s a0 0 1099511627776 HS0.out (by omega) (by omega) (by omega)).mono ?_
  rintro e w1 ⟨rfl, hs⟩
  have HS1 := Lib.hid ((hs.lit rfl : Sts w [] w1))
  clear HS0
  clear hs
  rw [← Ea.out]
  go_wp2_with fail
  clear hmk
  have HS2 := Lib.hid ((HS1.out.add (g := w1.heap.size) (by simp) #[.int .i64 0, .int .i64 0, .int .i64 0, .int .i64 0, .int .i64 0, .int .i64 0, .int .i64 0, .int .i64 0, .int .i64 0, .int .i64 0] 35).lit (L' := [(w1.heap.size, #[.int .i64 0, .int .i64 0, .int .i64 0, .int .i64 0, .int .i64 0, .int .i64 0, .int .i64 0, .int .i64 0, .int .i64 0, .int .i64 0], 35)]) rfl)
  clear HS1
  generalize w1.heap.size = gl at *
  refine (ofyes_s a a HS2.out (by omega) (by omega) rfl).mono ?_
  rintro e w3 ⟨rfl, hs⟩
  have HS3 := Lib.hid ((hs.lit rfl : Sts w [(gl, #[.int .i64 0, .int .i64 0, .int .i64 0, .int .i64 0, .int .i64 0, .int .i64 0, .int .i64 0, .int .i64 0, .int .i64 0, .int .i64 0], 35)] w3))
  clear HS2
  clear hs
  have c0_0 : w3.cell? ⟨gl, 0, none⟩ = some (.int .i64 0) := HS3.out.cell 0 0 rfl rfl
  have c0_1 : w3.cell? ⟨gl, 1, none⟩ = some (.int .i64 0) := HS3.out.cell 0 1 rfl rfl
  have c0_2 : w3.cell? ⟨gl, 2, none⟩ = some (.int .i64 0) := HS3.out.cell 0 2 rfl rfl
  have c0_3 : w3.cell? ⟨gl, 3, none⟩ = some (.int .i64 0) := HS3.out.cell 0 3 rfl rfl
  have c0_4 : w3.cell? ⟨gl, 4, none⟩ = some (.int .i64 0) := HS3.out.cell 0 4 rfl rfl
  have c0_5 : w3.cell? ⟨gl, 5, none⟩ = some (.int .i64 0) := HS3.out.cell 0 5 rfl rfl
  have c0_6 : w3.cell? ⟨gl, 6, none⟩ = some (.int .i64 0) := HS3.out.cell 0 6 rfl rfl
  have c0_7 : w3.cell? ⟨gl, 7, none⟩ = some (.int .i64 0) := HS3.out.cell 0 7 rfl rfl
  have c0_8 : w3.cell? ⟨gl, 8, none⟩ = some (.int .i64 0) := HS3.out.cell 0 8 rfl rfl
  have c0_9 : w3.cell? ⟨gl, 9, none⟩ = some (.int .i64 0) := HS3.out.cell 0 9 rfl rfl
  clear c0_0 c0_1 c0_2 c0_3 c0_4 c0_5 c0_6 c0_7 c0_8 c0_9
  have c0_0 : w3.cell? ⟨gl, 0, none⟩ = some (.int .i64 0) := HS3.out.cell 0 0 rfl rfl
  have f0_0 := HS3.out.frozen 0 0 rfl
  have c0_1 : w3.cell? ⟨gl, 1, none⟩ = some (.int .i64 0) := HS3.out.cell 0 1 rfl rfl
  have f0_1 := HS3.out.frozen 0 1 rfl
  have c0_2 : w3.cell? ⟨gl, 2, none⟩ = some (.int .i64 0) := HS3.out.cell 0 2 rfl rfl
  have f0_2 := HS3.out.frozen 0 2 rfl
  have c0_3 : w3.cell? ⟨gl, 3, none⟩ = some (.int .i64 0) := HS3.out.cell 0 3 rfl rfl
  have f0_3 := HS3.out.frozen 0 3 rfl
  have c0_4 : w3.cell? ⟨gl, 4, none⟩ = some (.int .i64 0) := HS3.out.cell 0 4 rfl rfl
  have f0_4 := HS3.out.frozen 0 4 rfl
  have c0_5 : w3.cell? ⟨gl, 5, none⟩ = some (.int .i64 0) := HS3.out.cell 0 5 rfl rfl
  have f0_5 := HS3.out.frozen 0 5 rfl
  have c0_6 : w3.cell? ⟨gl, 6, none⟩ = some (.int .i64 0) := HS3.out.cell 0 6 rfl rfl
  have f0_6 := HS3.out.frozen 0 6 rfl
  have c0_7 : w3.cell? ⟨gl, 7, none⟩ = some (.int .i64 0) := HS3.out.cell 0 7 rfl rfl
  have f0_7 := HS3.out.frozen 0 7 rfl
  have c0_8 : w3.cell? ⟨gl, 8, none⟩ = some (.int .i64 0) := HS3.out.cell 0 8 rfl rfl
  have f0_8 := HS3.out.frozen 0 8 rfl
  have c0_9 : w3.cell? ⟨gl, 9, none⟩ = some (.int .i64 0) := HS3.out.cell 0 9 rfl rfl
  have f0_9 := HS3.out.frozen 0 9 rfl
  go_upto_block 0 with fail
  have hch : ChainSt w gl (upd (fun _ => 0) 0 a) (fun _ => 0) ((w3.setCell ⟨gl, 0, none⟩ (.int .i64 a)).setCell ⟨gl, 1, none⟩ (.int .i64 0)) := ⟨_, chain_start a, ((HS3.out.set 0 0 _ rfl).set 0 1 _ rfl).lit (by simp)⟩
  have HC := Lib.hid hch
  have HK := Lib.hid (chain_ok a ba0)
  clear hch HS3
  clear c0_0 f0_0 c0_1 f0_1 c0_2 f0_2 c0_3 f0_3 c0_4 f0_4 c0_5 f0_5 c0_6 f0_6 c0_7 f0_7 c0_8 f0_8 c0_9 f0_9
  generalize (w3.setCell ⟨gl, 0, none⟩ (.int .i64 a)).setCell ⟨gl, 1, none⟩ (.int .i64 0) = w4 at *
  generalize upd (fun _ => 0) 0 a = I0 at *
  generalize (fun _ : Nat => (0 : Int)) = J0 at *
  go_cut [] (fun wc => ∃ (I J : Nat → Int), Hid (RowOk (a + 20 * 1099511627776) a I J) ∧ Hid (ChainSt w gl I J wc))
  case first =>
    go_wp2_with fail
    go_loopw [7] (fun v7 wr => ∃ (i : Nat) (I J : Nat → Int), v7 = .int .i64 i ∧ i ≤ 20 ∧ Hid (RowOk (a + i * 1099511627776) a I J) ∧ Hid (ChainSt w gl I J wr)) (fun v7 _ => 20 - (intOf v7).toNat)
    case atStart => exact ⟨0, I0, J0, rfl, by omega, HK.out.more (by omega), HC⟩
    case round =>
      obtain ⟨i, I, J, rfl, hi, HKr, HCr⟩ := hrel
      clear HK HC
      by_cases q1 : i < n1 ∧ i < 20
      · obtain ⟨q2, q3⟩ := q1
        obtain ⟨ad, hA, hc⟩ := H1.out.at_ i q2
        have hcell := HCr.out.old hc
        clear hc
        generalize z1.getD i 0 = x at hcell
        obtain ⟨y, hy⟩ : ∃ y, y = within x 0 2199023255552 := ⟨_, rfl⟩
        obtain ⟨by0, by1⟩ : 0 ≤ y ∧ y ≤ 2199023255552 := by rw [hy]; exact within_bd x (by omega)
        have Ey := Lib.hid hy
        clear hy
        obtain rfl := hA
        go_upto_region 8 with fail
        obtain ⟨f, hf⟩ : ∃ f : Nat, (i : Int) % 5 = f := ⟨i % 5, by omega⟩
        obtain ⟨t, ht⟩ : ∃ t : Nat, ((i : Int) + 1 + (i : Int) / 5) % 5 = t := ⟨(i + 1 + i / 5) % 5, by omega⟩
        have f5 : f < 5 := by omega
        have t5 : t < 5 := by omega
        rw [hf, ht]
        clear hf ht
        go_upto_if 41 with fail
        go_cut [] (fun wc => ∃ (I J : Nat → Int), Hid (RowOk (a + i * 1099511627776 + 1099511627776) a I J) ∧ Hid (ChainSt w gl I J wc))
        case first =>
          by_cases q5 : (((f : Nat) : Int) != ((t : Nat) : Int)) = true
          · have hne : f ≠ t := by intro h; subst h; simp at q5
            go_upto_region 9 with fail
            have wb := within_bd x (show (0 : Int) ≤ 2199023255552 by omega)
            obtain ⟨wb0, wb1⟩ := wb
            have hbs : wr.heap.size ≠ gl := by have := HCr.out.lt; omega
            have HBS := Lib.hid hbs
            clear hbs
            have hcellA : ∀ ob, (wr.alloc ob).cell? (ad.add i) = some (.int .i64 x) := fun ob => pw_cell (bel_alloc (Below.refl _ _) ob) hcell
            go_region_with (first | (go_at_call 13; refine (within_calls x 0 2199023255552 _ (by omega) (by omega) (by omega)).mono ?_; rintro e w5 ⟨rfl, rfl⟩) | (go_at_call 27; refine (move_row (w0 := w) _ _ f t _ ((HCr.out.skip _).drew) HKr.out (by omega) f5 t5 hne (by omega) (by omega) rfl HBS.out (((Blk.newAt rfl #[.pointer (some ⟨gl, t * 2, none⟩)] _).drew).cell 0)).mono ?_; rintro e w6 ⟨rfl, hs⟩; have HS6 := Lib.hid hs; clear hs))
            all_goals
              go_wp2_with fail
              go_meet
              exact ⟨_, _, (HKr.out.move f5 t5 hne (takes_bd _ _ _ (HKr.out.le f f5)).1 (takes_bd _ _ _ (HKr.out.le f f5)).2).more (by omega), HS6⟩
          · have q6 := Bool.eq_false_iff.2 q5
            clear q5
            go_wp2_with fail
            go_meet
            exact ⟨I, J, HKr.out.more (by omega), HCr⟩
        case rest =>
          obtain ⟨I2, J2, HK2, HC2⟩ := hcut
          clear HKr HCr hcell
          go_wp2_with fail
          go_loopw [10, 57] (fun v10 v57 wr => ∃ (k : Nat), v57 = .int .i64 k ∧ v10 = .int .i64 (psum I2 J2 k) ∧ k ≤ 5 ∧ Hid (ChainSt w gl I2 J2 wr)) (fun _ v57 _ => 5 - (intOf v57).toNat)
          case atStart => exact ⟨0, rfl, rfl, by omega, HC2⟩
          case round =>
            obtain ⟨k, rfl, rfl, hk5, HC3⟩ := hrel
            clear HC2
            have s0 := psum_mono HK2.out k hk5
            have s1 := psum_most HK2.out k hk5
            by_cases q7 : k < 5
            · skip
              have c0 := HC3.out.fst k q7
              have c1 := HC3.out.snd k q7
              have g0 := HK2.out.ge k q7
              have g1 := HK2.out.le k q7
              have g2 := HK2.out.top k q7
              have s2 := psum_most HK2.out (k + 1) (by omega)
              have s3 : psum I2 J2 (k + 1) = psum I2 J2 k + (I2 k - J2 k) := rfl
              rw [s3] at s2
              have S3 := Lib.hid s3
              clear s3
              generalize psum I2 J2 k = sm at *
              generalize I2 k = ik at *
              generalize J2 k = jk at *
              go_wp2_with fail
              refine (has_calls ik jk _ g0 g1 (by omega)).mono ?_
              rintro e w7 ⟨rfl, hb⟩
              have HC4 := Lib.hid (HC3.out.below hb)
              clear hb c0 c1
              go_wp2_with fail
              go_roundw
              case rel => exact ⟨k + 1, by go_num, by rw [S3.out], by omega, HC4⟩
              case measure => simp [intOf]; omega
            · have hk : k = 5 := by omega
              subst hk
              have hall := HK2.out.all
              rw [hall]
              clear hall
              go_wp2_with fail
              go_roundw
              case rel => exact ⟨i + 1, I2, J2, by go_num, by omega, HK2.out.more (by omega), HC3⟩
              case measure => simp [intOf]; omega
      · have q6 : ¬ i < n1 ∨ (i < n1 ∧ ¬ i < 20) := by omega
        clear q1
        rcases q6 with q2 | ⟨q2, q3⟩
        all_goals
          go_wp2_with fail
          go_meet
          exact ⟨I, J, HKr.out.more (by omega), HCr⟩
  case rest =>
    obtain ⟨I, J, HK1, HC1⟩ := hcut
    clear HK HC
    go_upto_block 4 with fail
    go_wp2_with fail
    go_loopw [12] (fun v12 wr => ∃ (k : Nat) (I J : Nat → Int), v12 = .int .i64 k ∧ 1 ≤ k ∧ k ≤ 5 ∧ Hid (RowOk (a + 20 * 1099511627776 + k * 1099511627776) a I J) ∧ Hid (∀ m, 1 ≤ m → m < k → I m - J m = 0) ∧ Hid (ChainSt w gl I J wr)) (fun v12 _ => 5 - (intOf v12).toNat)
    case atStart => exact ⟨1, I, J, rfl, by omega, by omega, HK1.out.more (by omega), (fun m h h' => by omega), HC1⟩
    case round =>
      obtain ⟨k, I2, J2, rfl, hk1, hk5, HK2, HZ, HC2⟩ := hrel
      clear HC1 HK1
      by_cases q7 : k < 5
      · have hk0 : k ≠ 0 := by omega
        obtain ⟨ik, hik⟩ : ∃ v, v = I2 k := ⟨_, rfl⟩
        obtain ⟨jk, hjk⟩ : ∃ v, v = J2 k := ⟨_, rfl⟩
        have c0 := HC2.out.fst k q7
        have c1 := HC2.out.snd k q7
        have g0 := HK2.out.ge k q7
        have g1 := HK2.out.le k q7
        have g2 := HK2.out.top k q7
        have g3 := has_most HK2.out k q7
        rw [← hik] at c0 g1 g2 g3
        rw [← hjk] at c1 g0 g1 g3
        have EI := Lib.hid hik
        have EJ := Lib.hid hjk
        have HK0 := Lib.hid hk0
        clear hik hjk hk0
        go_wp2_with fail
        refine (has_calls ik jk _ g0 g1 (by omega)).mono ?_
        rintro e w7 ⟨rfl, hb⟩
        have HC3 := Lib.hid (HC2.out.below hb)
        clear hb c0 c1 HC2
        go_upto_region 22 with fail
        have hbs : w7.heap.size ≠ gl := by have := HC3.out.lt; omega
        have HBS := Lib.hid hbs
        clear hbs
        have HMV : Hid (∀ W bs, ChainSt w gl I2 J2 W → bs ≠ gl → W.cell? ⟨bs, 0, none⟩ = some (.pointer (some ⟨gl, 0, none⟩)) → Calls Try.prog 27 #[.int .i64 (ik - jk), .pointer (some ⟨gl, k * 2, none⟩), .slice (some ⟨bs, 0, none⟩) 1 1] W (fun e w6 => e = .returned (.int .i64 (ik - jk)) ∧ Hid (ChainSt w gl (upd I2 0 (I2 0 + (ik - jk))) (upd J2 k (jk + (ik - jk))) w6) ∧ w6.cell? ⟨gl, k * 2, none⟩ = some (.int .i64 ik) ∧ w6.cell? ⟨gl, k * 2 + 1, none⟩ = some (.int .i64 (jk + (ik - jk))))) := by
          intro W bs hS hb hc
          refine (move_row (w0 := w) (ik - jk) (ik - jk) k 0 bs hS HK2.out (by omega) q7 (by omega) HK0.out (by omega) (by omega) (by rw [← EI.out, ← EJ.out]; unfold takes; omega) hb hc).mono ?_
          rintro e w6 ⟨rfl, hs⟩
          rw [← EJ.out] at hs
          refine ⟨rfl, hs, ?_, ?_⟩
          · rw [hs.fst k q7, upd_ne _ _ HK0.out, EI.out]
          · rw [hs.snd k q7, upd_same]
        have e0 : ik - (jk + (ik - jk)) = 0 := by omega
        have E0 := Lib.hid e0
        clear e0
        have HHS : Hid (∀ W, Calls Try.prog 18 #[.agg #[.int .i64 ik, .int .i64 (jk + (ik - jk))]] W (fun e w8 => e = .returned (.int .i64 0) ∧ Below W.heap.size W w8)) := by
          intro W
          have := has_calls ik (jk + (ik - jk)) W (by omega) (by omega) (by omega)
          rw [E0.out] at this
          exact this
        go_cut [97] (fun s wc => s = .bool false ∧ Hid (ChainSt w gl (upd I2 0 (I2 0 + (ik - jk))) (upd J2 k (jk + (ik - jk))) wc))
        case first =>
          go_region_with (first | (go_at_call 27; refine (HMV.out _ _ ((HC3.out.skip _).drew) HBS.out (((Blk.newAt rfl #[.pointer (some ⟨gl, 0, none⟩)] _).drew).cell 0)).mono ?_; rintro e w6 ⟨rfl, HS6, d0, d1⟩) | (go_at_call 18; refine (HHS.out _).mono ?_; rintro e w8 ⟨rfl, hb⟩; have HS7 := Lib.hid (ChainSt.below HS6.out hb); clear hb))
          all_goals
            go_wp2_with fail
            go_meet
            exact ⟨rfl, HS7⟩
        case rest =>
          obtain ⟨rfl, HC4⟩ := hcut
          clear HC3 HMV HHS HBS
          go_wp2_with fail
          go_roundw
          case rel => exact ⟨k + 1, _, _, by go_num, by omega, by omega, by have := (HK2.out.move q7 (show 0 < 5 by omega) HK0.out (show 0 ≤ ik - jk by omega) (by rw [← EI.out, ← EJ.out]; omega)).more (M' := a + 20 * 1099511627776 + ((k + 1 : Nat) : Int) * 1099511627776) (by omega); rw [← EJ.out] at this; exact this, chain_zero HZ.out HK0.out (by omega) (by rw [← EI.out]; omega), HC4⟩
          case measure => simp [intOf]; omega
      · have hk : k = 5 := by omega
        subst hk
        have hall := chain_end HK2.out HZ.out
        have c0 := HC2.out.fst 0 (by omega)
        have c1 := HC2.out.snd 0 (by omega)
        have g0 := HK2.out.ge 0 (by omega)
        have g1 := HK2.out.le 0 (by omega)
        have g2 := HK2.out.top 0 (by omega)
        have EA := Lib.hid hall
        clear hall
        generalize I2 0 = ik at *
        generalize J2 0 = jk at *
        simp only [Nat.zero_mul, Nat.zero_add] at c0 c1
        go_wp2_with fail
        refine (has_calls ik jk _ g0 g1 (by omega)).mono ?_
        rintro e w7 ⟨rfl, hb⟩
        rw [EA.out]
        have HC4 := Lib.hid (bel_then HC2.out.bel hb HC2.out.bel.size)
        clear hb c0 c1
        go_wp2_with fail
        refine (purseRuns_calls _).mono ?_
        rintro e w8 ⟨rfl, hb⟩
        have HC5 := Lib.hid (bel_then HC4.out hb HC4.out.size)
        clear hb
        go_wp2
        go_ret
        exact ⟨rfl, HC5.out⟩

end Go.Proofs.Yticddmmbphoioaa

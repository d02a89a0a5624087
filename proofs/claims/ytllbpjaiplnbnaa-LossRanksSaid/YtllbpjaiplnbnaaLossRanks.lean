import Derived.Test.YtllbpjaiplnbnaaLossRk2
import Derived.Test.YtllbpjaiplnbnaaLossRk3
namespace Go.Proofs.Ytllbpjaiplnbnaa
open Go.RowKit
set_option linter.unusedVariables false
set_option linter.unusedSimpArgs false
/-! ### Ranks -/
def alli (z : Nt) : Int := z.og - z.i
theorem alli_sum {zs : List Nt} (h : ∀ z ∈ zs, Made z) : (zs.map alli).sum = (zs.map Nt.bal).sum + (zs.map Nt.dn).sum := by
  induction zs with
  | nil => rfl
  | cons z l ih =>
    have h1 := ih (fun y hy => h y (List.mem_cons_of_mem _ hy))
    have hj := (h z (by simp)).j
    simp only [List.map_cons, List.sum_cons, h1, alli, Nt.bal, hj]
    omega
theorem getD_some {l : List Nt} {k : Nat} {z : Nt} (f : Nt → Int) (h : l[k]? = some z) : (l.map f).getD k 0 = f z := getD_map f l k z h
attribute [local go_sem] bmax2 bmin2 bmax_two bmin_two bmax_three bmin_three
set_option maxHeartbeats 32000000 in
set_option maxRecDepth 1000000 in
theorem lossRanks_walk (A1 : Option Addr) (n1 c1 : Nat) (zi : List Int) (target : Int) (w : World) (h1 : Ints w A1 n1 zi) (hu : -9223372036854775808 ≤ target ∧ target ≤ 9223372036854775807) :
    Calls Try.prog 12 #[.slice A1 n1 c1, .int .i64 target] w fun e w' => e = .returned (.bool true) ∧ Below w.heap.size w w' := by
  obtain ⟨i0, hi, hz, hs1, hs2⟩ := info_parts note_info
  obtain ⟨i1, pi, pz, ps1, ps2⟩ := info_parts ptr_info
  have H1 := Lib.hid h1
  clear h1
  go_enter Try.func12, Try.ntmps12
  go_wp2_with fail
  refine (notes_calls A1 n1 c1 zi w H1.out).mono ?_
  rintro e w1 ⟨m, Ra, a, ca, hma, rfl, hRa, hSa⟩
  have hm6 : m ≤ 6 := by omega
  obtain ⟨ga, hNa⟩ := NRow.of hRa
  have hzl := notesN_length zi m
  have hmade := notesN_made zi m
  generalize notesN zi m = zs at *
  have HA := Lib.hid hNa; have HL := Lib.hid hzl; have HMD := Lib.hid hmade
  have HSe := Lib.hid (Sts.ins (g := w1.heap.size) [] (Ra ++ []) (hSa.lit (by simp)) rfl #[] 27)
  have HSR := Lib.hid (HA.out.src (A := []) (B := []) (hSa.lit (by simp)))
  clear hRa hSa hNa hzl hmade hma
  go_upto_region 3 with (at_builtin; refine row_append rfl (.tmp 18) (.tmp 19) 46 rfl [] (Ra ++ []) Try.underlying46 hi hz hs1 hs2 rfl (by omega) (emptyRow w1.heap.size 27 7) HSe.out rfl rfl (HSR.out.alloc _) (ncs_one zs) (by omega) (by omega) ?_; rintro Rw aw cw w5 hRw' hSw'; have hRw := Lib.hid hRw'; have HS5 := Lib.hid hSw'; clear hRw' hSw' HSe HSR hi hz hs1 hs2)
  have hRw2 : Row Rw 27 7 aw m cw (zs.flatMap Nt.c) := by have := hRw.out; simpa using this
  obtain ⟨gw, hNw⟩ := NRow.of hRw2
  have HW := Lib.hid hNw
  clear hRw hRw2 hNw
  go_upto_block 0 with fail
  go_cut [7, 8, 9, 10] from 23 to 52 (fun v7 v8 v9 v10 wc => ∃ (Rp : List Ent) (ap : Option Addr) (cp : Nat) (hv av : Int), v7 = .slice ap m cp ∧ v8 = .int .i64 hv ∧ v9 = .int .i64 av ∧ (0 ≤ hv ∧ hv ≤ 5400) ∧ (0 ≤ av ∧ av ≤ 5400) ∧ Hid (hv = (zs.map Nt.dn).sum) ∧ Hid (av = (zs.map alli).sum) ∧ Hid (Row Rp 37 1 ap m cp ((ptrs ga m).map ptrV)) ∧ Hid (Sts w (Rw ++ (Rp ++ (Ra ++ []))) wc))
  case first =>
    go_wp2_with fail
    go_loopw [7, 8, 9, 23] (fun v7 v8 v9 v23 wr => ∃ (k : Nat) (Rp : List Ent) (ap : Option Addr) (cp : Nat) (hv av : Int), k ≤ m ∧ v7 = .slice ap k cp ∧ v8 = .int .i64 hv ∧ v9 = .int .i64 av ∧ v23 = .int .i64 k ∧ (0 ≤ hv ∧ hv ≤ 900 * k) ∧ (0 ≤ av ∧ av ≤ 900 * k) ∧ Hid (hv = ((zs.take k).map Nt.dn).sum) ∧ Hid (av = ((zs.take k).map alli).sum) ∧ Hid (Row Rp 37 1 ap k cp ((ptrs ga k).map ptrV)) ∧ Hid (Sts w (Rw ++ (Rp ++ (Ra ++ []))) wr)) (fun _ _ _ v23 _ => m - (intOf v23).toNat)
    case atStart => exact ⟨0, [], none, 0, 0, 0, by omega, rfl, rfl, rfl, rfl, by omega, by omega, Lib.hid (by simp), Lib.hid (by simp), Lib.hid (Row.nil _ _), Lib.hid (HS5.out.lit (by simp))⟩
    case round =>
      obtain ⟨k, Rp, ap, cp, hv, av, hk, rfl, rfl, rfl, rfl, ⟨hv0, hv1⟩, ⟨av0, av1⟩, HHV, HAV, HP, HS⟩ := hrel
      clear HS5
      by_cases hlt : k < m
      · obtain ⟨z, hz⟩ : ∃ z, zs[k]? = some z := ⟨_, List.getElem?_eq_getElem (by rw [HL.out]; exact hlt)⟩
        have hmd := HMD.out z (List.mem_of_getElem? hz)
        have hs1 : ((zs.take (k + 1)).map Nt.dn).sum = ((zs.take k).map Nt.dn).sum + z.dn := take_next Nt.dn zs k z hz
        have hs2 : ((zs.take (k + 1)).map alli).sum = ((zs.take k).map alli).sum + alli z := take_next alli zs k z hz
        obtain ⟨r, og, rt, pi', j, sh, dn⟩ := z
        obtain ⟨m1, m2, m3, m4, m5, m6, m7, m8, m9, m10, m11⟩ := hmd
        simp only at m1 m2 m3 m4 m5 m6 m7 m8 m9 m10 m11
        subst m5 m6 m7
        obtain ⟨ha, _⟩ := HA.out.cells (A := Rw ++ Rp) (B := []) (HS.out.lit (by simp)) hz
        subst ha
        obtain ⟨bk, hbk⟩ : ∃ b, b = og - pi' - dn := ⟨_, rfl⟩
        have bk0 : 0 ≤ bk := by omega
        have bk1 : bk ≤ 900 := by omega
        have dnbk : dn + bk ≤ 900 := by omega
        have HS1 := Lib.hid (show hv + dn = ((zs.take (k + 1)).map Nt.dn).sum from by rw [hs1, ← HHV.out])
        have HS2 := Lib.hid (show av + dn + bk = ((zs.take (k + 1)).map alli).sum from by rw [hs2, ← HAV.out]; simp only [alli]; omega)
        have NBF := Lib.hid (fun (p : World) => balance_calls r og 0 pi' 0 0 dn p (Fair.mk_ (by omega) (by omega) (by omega) (by omega) (by omega) (by omega) (by omega) (by omega) (by omega)))
        have HBK := Lib.hid hbk
        have HZ := Lib.hid hz
        clear hbk hs1 hs2 hz HHV HAV
        have i1 : (0 : Int) ≤ (k : Int) := by omega
        have i2 : (k : Int) < (m : Int) := by omega
        have dn1 : dn ≤ 900 := by omega
        clear m1 m2 m3 m4 m8 m9 m11
        go_upto_region 9 with (at_builtin; refine row_append rfl (.tmp 26) (.tmp 30) 51 rfl Rw (Ra ++ []) Try.underlying51 pi pz ps1 ps2 rfl (by omega) HP.out (HS.out.skip _) rfl rfl (Src.new (size := 1) (m := 1) rfl rfl) (pvs_one [some (ga, k * 7)]) (by omega) (by omega) ?_; rintro Rp2 ap2 cp2 w6 hRp' hSp'; have hRp := Lib.hid hRp'; have HS6 := Lib.hid hSp'; clear hRp' hSp' HS HP pi pz ps1 ps2)
        have HP2 := Lib.hid (show Row Rp2 37 1 ap2 (k + 1) cp2 ((ptrs ga (k + 1)).map ptrV) from by rw [ptrs_next, List.map_append]; exact hRp.out)
        clear hRp
        have xC := fun (W : World) (hW : Sts w (Rw ++ (Rp2 ++ (Ra ++ []))) W) => HA.out.cells (A := Rw ++ Rp2) (B := []) (hW.lit (by simp)) HZ.out
        simp only at xC
        have hne : Nonempty (Later w (Rw ++ (Rp2 ++ (Ra ++ [])))) := ⟨⟨_, HS6.out⟩⟩
        have x0 : ∀ p : Later w (Rw ++ (Rp2 ++ (Ra ++ []))), p.val.cell? ⟨ga, k * 7, none⟩ = some (.int .i64 r) := fun p => (xC p.val p.property).2.1
        have x1 : ∀ p : Later w (Rw ++ (Rp2 ++ (Ra ++ []))), p.val.cell? ⟨ga, k * 7 + 1, none⟩ = some (.int .i64 og) := fun p => (xC p.val p.property).2.2.1
        have x2 : ∀ p : Later w (Rw ++ (Rp2 ++ (Ra ++ []))), p.val.cell? ⟨ga, k * 7 + 2, none⟩ = some (.int .i64 0) := fun p => (xC p.val p.property).2.2.2.1
        have x3 : ∀ p : Later w (Rw ++ (Rp2 ++ (Ra ++ []))), p.val.cell? ⟨ga, k * 7 + 3, none⟩ = some (.int .i64 pi') := fun p => (xC p.val p.property).2.2.2.2.1
        have x4 : ∀ p : Later w (Rw ++ (Rp2 ++ (Ra ++ []))), p.val.cell? ⟨ga, k * 7 + 4, none⟩ = some (.int .i64 0) := fun p => (xC p.val p.property).2.2.2.2.2.1
        have x5 : ∀ p : Later w (Rw ++ (Rp2 ++ (Ra ++ []))), p.val.cell? ⟨ga, k * 7 + 5, none⟩ = some (.int .i64 0) := fun p => (xC p.val p.property).2.2.2.2.2.2.1
        have x6 : ∀ p : Later w (Rw ++ (Rp2 ++ (Ra ++ []))), p.val.cell? ⟨ga, k * 7 + 6, none⟩ = some (.int .i64 dn) := fun p => (xC p.val p.property).2.2.2.2.2.2.2
        have NB : ∀ p : Later w (Rw ++ (Rp2 ++ (Ra ++ []))), Calls Try.prog 17 #[nv r og 0 pi' 0 0 dn] p.val (fun e w'' => e = .returned (.int .i64 bk) ∧ ∃ q : Later w (Rw ++ (Rp2 ++ (Ra ++ []))), w'' = q.val) := fun p =>
          (NBF.out p.val).mono fun e w' h => ⟨by rw [h.1, HBK.out]; congr 2; omega, ⟨w', p.property.below h.2⟩, rfl⟩
        clear xC
        refine wp_region_sts HS6.out (by kernel_rfl) (by kernel_rfl) ?_
        repeat (go_big_quiet_step (first | exact rfl | (go_at_call 17; exact NB _)))
        refine wpQuiet_nil ?_
        rintro wz ⟨⟨_, hz'⟩, rfl⟩
        have HSz := Lib.hid hz'
        clear hz' hne NB NBF x0 x1 x2 x3 x4 x5 x6 HS6 HBK HZ
        go_wp2_with fail
        go_roundw
        case rel => exact ⟨k + 1, Rp2, ap2, cp2, hv + dn, av + dn + bk, by omega, rfl, by go_num, by go_num, by go_num, ⟨by omega, by push_cast; omega⟩, ⟨by omega, by push_cast; omega⟩, HS1, HS2, HP2, HSz⟩
        case measure => simp [intOf]; omega
      · obtain rfl : k = m := by omega
        have htk : zs.take k = zs := List.take_of_length_le (by rw [HL.out]; exact Nat.le_refl _)
        rw [htk] at HHV HAV
        go_wp2_with fail
        go_meet
        exact ⟨Rp, ap, cp, hv, av, rfl, rfl, rfl, ⟨hv0, by omega⟩, ⟨av0, by omega⟩, HHV, HAV, HP, HS⟩
  case rest =>
    obtain ⟨Rp, ap, cp, hv, av, rfl, rfl, rfl, ⟨hv0, hv1⟩, ⟨av0, av1⟩, HHV, HAV, HP, HS⟩ := hcut
    clear HS5 pi pz ps1 ps2
    obtain ⟨t, ht⟩ : ∃ t, within target 0 4000 = t := ⟨_, rfl⟩
    have htb := within_bd target (lo := 0) (hi := 4000) (by omega)
    have HW1 := Lib.hid (within_calls target 0 4000 wc (by omega) (by omega) (by omega))
    rw [ht] at HW1 htb
    clear ht
    obtain ⟨tb0, tb1⟩ := htb
    have HZL := Lib.hid (fun z (hz : z ∈ zs) => (HMD.out z hz).lossy)
    go_wp2_with fail
    refine HW1.out.mono ?_
    rintro e w' ⟨rfl, rfl⟩
    go_wp2_with fail
    refine (allot_row (A := Rw ++ Rp) (B := []) t HA.out (HS.out.lit (by simp)) HZL.out (by omega) HP.out ⟨Rw, [], by simp⟩ (by omega) (by omega)).mono ?_
    rintro e w6 ⟨zt, Ra2, rfl, hsh, hNa, hS6, hsn, hla⟩
    rw [show max t 0 = t by omega] at hsh
    have hok0 := stN_ok HL.out HZL.out
    have hfa := hsh.far hok0 (by omega)
    have hka := (hsh.keeps hok0).2
    have hrk := hsh.ranks hok0
    have hav : (stN zs).1.sum + (stN zs).2.sum = av := by rw [HAV.out, alli_sum HMD.out]; rfl
    have hhv : (stN zs).2.sum = hv := HHV.out.symm
    rw [hav] at hfa
    rw [hhv] at hrk
    have hsa : (zt.map Nt.dn).sum = min t av := hfa
    rw [hsa]
    have hlent : zt.length = m := hsn.1.trans HL.out
    have htot := hka.total
    have HA2 := Lib.hid hNa; have HSN := Lib.hid hsn; have HLT := Lib.hid hla; have HRK := Lib.hid hrk; have HLENT := Lib.hid hlent; have HTOT := Lib.hid (htot.trans hav); have HSA := Lib.hid hsa
    have HS6 := Lib.hid (hS6.lit (L' := Rw ++ (Rp ++ (Ra2 ++ []))) (by simp))
    clear hsh hNa hS6 hsn hla hok0 hfa hka hrk hav hhv hsa hlent htot HS HA HW1
    go_upto_block 2 with fail
    go_cut [13, 14, 15] from 65 to 246 (fun v13 v14 v15 wc => Hid (Sts w (Rw ++ (Rp ++ (Ra2 ++ []))) wc))
    case first =>
      go_wp2_with fail
      go_loopw [65] (fun v65 wr => ∃ i : Nat, i ≤ m ∧ v65 = .int .i64 i ∧ Hid (Sts w (Rw ++ (Rp ++ (Ra2 ++ []))) wr)) (fun v65 _ => m - (intOf v65).toNat)
      case atStart => exact ⟨0, by omega, rfl, HS6⟩
      case round =>
        obtain ⟨i, hi, rfl, HSr⟩ := hrel
        clear HS6
        by_cases hlt : i < m
        · obtain ⟨z, hz⟩ : ∃ z, zs[i]? = some z := ⟨_, List.getElem?_eq_getElem (by rw [HL.out]; exact hlt)⟩
          obtain ⟨d, hzt⟩ := HSN.out.2 i z hz
          have hmd := HMD.out z (List.mem_of_getElem? hz)
          have hly := HLT.out _ (List.mem_of_getElem? hzt)
          have hd0 := hly.dn0; have hd1 := hly.bal
          have hdi : (stN zt).2.getD i 0 = d := getD_some Nt.dn hzt
          have hdn : (stN zs).2.getD i 0 = z.dn := getD_some Nt.dn hz
          have hA1 : hv ≤ t → z.dn ≤ d := fun h => by have := (HRK.out.1 h).1 i hlt; rwa [hdi, hdn] at this
          have hA2 : t ≤ hv → d ≤ z.dn := fun h => by have := (HRK.out.2 h).1 i hlt; rwa [hdi, hdn] at this
          have hri : (zs.map Nt.r).getD i 0 = z.r := getD_some Nt.r hz
          obtain ⟨r, og, rt, pi', j, sh, dn⟩ := z
          obtain ⟨m1, m2, m3, m4, m5, m6, m7, m8, m9, m10, m11⟩ := hmd
          simp only [Nt.bal, Nt.down] at m1 m2 m3 m4 m5 m6 m7 m8 m9 m10 m11 hd0 hd1 hA1 hA2 hdn hri
          simp only [Nt.down] at hzt
          subst m5 m6 m7
          obtain ⟨ha, _⟩ := HA2.out.cells (A := Rw ++ Rp) (B := []) (HSr.out.lit (by simp)) hzt
          obtain ⟨haw, _⟩ := HW.out.cells (A := []) (B := Rp ++ (Ra2 ++ [])) (HSr.out.lit (by simp)) hz
          subst ha haw
          have q1 : (0 : Int) ≤ (i : Int) := by omega
          have q2 : (i : Int) < (m : Int) := by omega
          go_upto_region 18 with fail
          refine ranks18 w m ga gw ca cw Ra2 Rw Rp zs zt HA2 HW _ HSr i hlt hm6 r og pi' d dn _ _ hzt hz m1 m2 m3 m4 m8 m9 hd0 (by omega) m10 (by omega) rfl rfl _ _ _ _ _ _ _ _ _ _ _ _ _ _ _ _ _ _ _ _ _ _ _ _ _ _ _ _ _ _ _ _ _ _ _ _ _ _ _ _ _ _ _ _ _ _ _ _ _ _ _ _ _ _ _ _ _ _ _ _ _ _ _ _ _ _ _ _ _ _ _ _ _ _ _ _ _ _ _ _ _ _ _ _ _ _ _ _ _ _ _ _ _ _ _ _ _ _ _ _ _ _ _ _ _ _ _ _ _ _ _ _ _ _ _ _ _ _ _ _ _ _ _ _ _ _ _ _ _ _ _ _ _ _ _ _ _ _ _ _ _ _ _ _ _ _ _ _ _ _ _ _ _ _ _ _ _ _ _ _ _ _ _ _ _ _ _ _ _ _ _ _ _ _ _ _ _ _ _ _ _ _ _ _ _ _ _ _ _ _ _ _ _ _ _ _ _ _ _ _ _ _ _ _ _ _ _ _ _ _ _ _ _ _ _ _ _ _ _ _ _ _ _ _ _ _ _ _ _ _ _ _ _ _ _ _ _ _ _ _ _ _ _ _ _ _ _ _ _ _ _ _ _ _ ?_
          intro v68 v69 v70 v71 v72 v73 v74 v75 v76 v77 v78 v79 v80 v81 v82 v83 v84 v85 v86 v87 v88 v89 v90 v91 v92 v93 v94 v95 v96 v97 v98 v99 v100 v101 v102 v103 v104 v105 v106 v107 v108 v109 v110 v111 v112 v113 v114 v115 v116 v117 v118 v119 v120 v121 v122 v123 v124 v125 w7 HS7
          dsimp only
          go_upto_region 20 with fail
          refine ranks20 w m ga gw ca cw Ra2 Rw Rp zs zt HA2 HW _ HS7 i hlt hm6 hv t r og pi' d dn hzt hz hA1 hA2 _ _ _ _ _ _ _ _ _ _ _ _ _ _ _ _ _ _ _ _ _ _ _ _ _ _ _ _ _ _ _ _ _ _ _ _ _ _ _ _ _ _ _ _ _ _ _ _ _ _ _ _ _ _ _ _ _ _ _ _ _ _ _ _ _ _ _ _ _ _ _ _ _ _ _ _ _ _ _ _ _ _ _ _ _ _ _ _ _ _ _ _ _ _ _ _ _ _ _ _ _ _ _ _ _ _ _ _ _ _ _ _ _ _ _ _ _ _ _ _ _ _ _ _ _ _ _ _ _ _ _ _ _ _ _ _ _ _ _ _ _ _ _ _ _ _ _ _ _ _ _ _ _ _ _ _ _ _ _ _ _ _ _ _ _ _ _ _ _ _ _ _ _ _ _ _ _ _ _ _ _ _ _ _ _ _ _ _ _ _ _ _ _ _ _ _ _ _ _ _ _ _ _ _ _ _ _ _ _ _ _ _ _ _ _ _ _ _ _ _ _ _ _ _ _ _ _ _ _ _ _ _ _ _ _ _ _ _ _ _ _ _ _ _ _ _ _ _ _ _ _ _ ?_
          intro v127 v128 v129 v130 v131 v132 v133 v134 v135 v136 v137 v138 v139 v140 v141 v142 v143 v144 v145 v146 v147 v148 v149 v150 v151 v152 v153 v154 v155 v156 v157 v158 v159 w8 HS8
          clear HSr HS7
          dsimp only
          go_upto_block 4 with fail
          go_wp2_with fail
          go_loopw [163] (fun v163 wr => ∃ k : Nat, k ≤ m ∧ v163 = .int .i64 k ∧ Hid (Sts w (Rw ++ (Rp ++ (Ra2 ++ []))) wr)) (fun v163 _ => m - (intOf v163).toNat)
          case atStart => exact ⟨0, by omega, rfl, HS8⟩
          case round =>
            obtain ⟨k, hk, rfl, HSk⟩ := hrel
            clear HS8
            by_cases hlk : k < m
            · obtain ⟨y, hy⟩ : ∃ z, zs[k]? = some z := ⟨_, List.getElem?_eq_getElem (by rw [HL.out]; exact hlk)⟩
              obtain ⟨dk, hyt⟩ := HSN.out.2 k y hy
              have hmk := HMD.out y (List.mem_of_getElem? hy)
              have hlk2 := HLT.out _ (List.mem_of_getElem? hyt)
              have hk0 := hlk2.dn0; have hk1 := hlk2.bal
              have hdk : (stN zt).2.getD k 0 = dk := getD_some Nt.dn hyt
              have hdnk : (stN zs).2.getD k 0 = y.dn := getD_some Nt.dn hy
              have hbk : (stN zt).1.getD k 0 = (y.down dk).bal := getD_some Nt.bal hyt
              have hrk : (zs.map Nt.r).getD k 0 = y.r := getD_some Nt.r hy
              have hX : (decide (r < y.r ∨ (y.r = r ∧ i < k))) = true → ¬ (dn < d ∧ 0 < (y.down dk).bal) ∧ ¬ (dk < y.dn ∧ 0 < d) := by
                intro hj
                have hB : Behind (zs.map Nt.r) i k := by unfold Behind; rw [hri, hrk]; exact of_decide_eq_true hj
                by_cases hc : hv ≤ t
                · obtain ⟨g1, g2⟩ := HRK.out.1 hc
                  refine ⟨fun h => ?_, fun h => ?_⟩
                  · have := g2 i k hlt hlk hB (by rw [hdi, hdn]; exact h.1)
                    rw [hbk] at this; omega
                  · have := g1 k hlk
                    rw [hdk, hdnk] at this; omega
                · obtain ⟨g1, g2⟩ := HRK.out.2 (by omega)
                  refine ⟨fun h => ?_, fun h => ?_⟩
                  · have := g1 i hlt
                    rw [hdi, hdn] at this; omega
                  · have := g2 i k hlt hlk hB (by rw [hdk, hdnk]; exact h.1)
                    rw [hdi] at this; omega
              obtain ⟨rk, kog, krt, kpi, kj, ksh, kdn⟩ := y
              obtain ⟨k1, k2, k3, k4, k5, k6, k7, k8, k9, k10, k11⟩ := hmk
              simp only [Nt.bal, Nt.down] at k1 k2 k3 k4 k5 k6 k7 k8 k9 k10 k11 hk0 hk1 hX
              simp only [Nt.down] at hyt
              subst k5 k6 k7
              rw [show kog - (kpi - 0) - dk = kog - kpi - dk by omega] at hX
              have q3 : (0 : Int) ≤ (k : Int) := by omega
              have q4 : (k : Int) < (m : Int) := by omega
              clear hdk hdnk hbk hrk
              go_upto_region 25 with fail
              refine ranks25 w m ga gw ca cw Ra2 Rw Rp zs zt HA2 HW _ HSk i k hlt hlk hm6 r og pi' d rk kog kpi dk _ hzt hyt rfl _ _ _ _ _ _ _ _ _ _ _ _ _ _ _ _ _ _ _ _ _ _ _ _ _ _ _ _ _ _ _ _ _ _ _ _ _ _ _ _ _ _ _ _ _ _ _ _ _ _ _ _ _ _ _ _ _ _ _ _ _ _ _ _ _ _ _ _ _ _ _ _ _ _ _ _ _ _ _ _ _ _ _ _ _ _ _ _ _ _ _ _ _ _ _ _ _ _ _ _ _ _ _ _ _ _ _ _ _ _ _ _ _ _ _ _ _ _ _ _ _ _ _ _ _ _ _ _ _ _ _ _ _ _ _ _ _ _ _ _ _ _ _ _ _ _ _ _ _ _ _ _ _ _ _ _ _ _ _ _ _ _ _ _ _ _ _ _ _ _ _ _ _ _ _ _ _ _ _ _ _ _ _ _ _ _ _ _ _ _ _ _ _ _ _ _ _ _ _ _ _ _ _ _ _ _ _ _ _ _ _ _ _ _ _ _ _ _ _ _ _ _ _ _ _ _ _ _ _ _ _ _ _ _ _ _ _ _ _ _ _ _ _ _ _ _ _ _ _ _ _ _ _ _ ?_
              intro v166 v167 v168 v169 v170 v171 v172 v173 v174 v175 v176 v177 v178 v179 v180 v181 v182 v183 v184 v185 v186 v187 v188 v189 v190 v191 v192 v193 v194 v195 v196 v197 v198 w9 HS9
              clear HSk
              dsimp only
              go_upto_region 26 with fail
              refine ranks26 w m ga gw ca cw Ra2 Rw Rp zs zt HA2 HW _ HS9 i k hlt hlk hm6 r og pi' d dn rk kog kpi dk kdn (kog - kpi - dk) _ hzt hyt hz hy k3 k4 k8 k9 hk0 (by omega) rfl hX _ _ _ _ _ _ _ _ _ _ _ _ _ _ _ _ _ _ _ _ _ _ _ _ _ _ _ _ _ _ _ _ _ _ _ _ _ _ _ _ _ _ _ _ _ _ _ _ _ _ _ _ _ _ _ _ _ _ _ _ _ _ _ _ _ _ _ _ _ _ _ _ _ _ _ _ _ _ _ _ _ _ _ _ _ _ _ _ _ _ _ _ _ _ _ _ _ _ _ _ _ _ _ _ _ _ _ _ _ _ _ _ _ _ _ _ _ _ _ _ _ _ _ _ _ _ _ _ _ _ _ _ _ _ _ _ _ _ _ _ _ _ _ _ _ _ _ _ _ _ _ _ _ _ _ _ _ _ _ _ _ _ _ _ _ _ _ _ _ _ _ _ _ _ _ _ _ _ _ _ _ _ _ _ _ _ _ _ _ _ _ _ _ _ _ _ _ _ _ _ _ _ _ _ _ _ _ _ _ _ _ _ _ _ _ _ _ _ _ _ _ _ _ _ _ _ _ _ _ _ _ _ _ _ _ _ _ _ _ _ _ _ _ _ _ _ _ _ _ _ _ _ ?_
              intro v199 v200 v201 v202 v203 v204 v205 v206 v207 v208 v209 v210 v211 v212 v213 v214 v215 v216 v217 v218 v219 v220 v221 v222 v223 v224 v225 v226 v227 v228 v229 v230 v231 v232 v233 v234 v235 v236 v237 v238 v239 v240 v241 v242 v243 w10 HS10
              clear HS9 hX
              dsimp only
              go_wp2_with fail
              go_roundw
              case rel => exact ⟨k + 1, by omega, by go_num, HS10⟩
              case measure => simp [intOf]; omega
            · obtain rfl : k = m := by omega
              clear hA1 hA2 hdi hdn hri
              go_wp2_with fail
              go_roundw
              case rel => exact ⟨i + 1, by omega, by go_num, HSk⟩
              case measure => simp [intOf]; omega
        · obtain rfl : i = m := by omega
          go_wp2_with fail
          go_meet
          exact HSr
    case rest =>
      have HS12 := hcut
      clear HS6 hcut
      have hokt := stN_ok HLENT.out HLT.out
      go_wp2_with fail
      refine (allot_row (A := Rw ++ Rp) (B := []) t HA2.out (HS12.out.lit (by simp)) HLT.out (by omega) HP.out ⟨Rw, [], by simp⟩ (by omega) (by omega)).mono ?_
      rintro e w13 ⟨zu, Ra3, rfl, hsh, _, hS13, _, _⟩
      have hfu := hsh.far hokt (by omega)
      have hsu : (zu.map Nt.dn).sum = min t av := by
        have h9 : (zu.map Nt.dn).sum = _ := hfu
        rw [h9, HTOT.out]; omega
      rw [hsu]
      have HSZ := Lib.hid hS13
      clear hsh hS13 hfu hsu hokt HS12
      go_wp2_with fail
      refine (lossRuns_calls w13).mono ?_
      rintro e w14 ⟨rfl, hb⟩
      have HB14 := Lib.hid (HSZ.out.below hb).bel
      clear hb HSZ
      go_wp2_with fail
      go_ret
      exact ⟨rfl, HB14.out⟩
end Go.Proofs.Ytllbpjaiplnbnaa

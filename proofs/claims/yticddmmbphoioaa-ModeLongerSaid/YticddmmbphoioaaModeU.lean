import Derived.Test.YticddmmbphoioaaModeT
namespace Go.Proofs.Yticddmmbphoioaa
open Go.RowKit
set_option linter.unusedVariables false
set_option linter.unusedSimpArgs false
/-! ### Runs one behind the other -/
theorem runF_add (c : Int) (l : List Res) (n j : Nat) (r : Res) (h : (l.drop n)[j]? = some r) : runF c (l.take (n + (j + 1))) = stepF c (runF c (l.take (n + j))) r := by
  have h2 : l[n + j]? = some r := by rw [← List.getElem?_drop]; exact h
  have := take_next' h2
  rw [show n + (j + 1) = n + j + 1 by omega, this, runF_snoc]
theorem stepF_mode (c : Int) (s : Int × Int) (r : Res) : 0 ≤ (stepF c s r).1 ∧ (stepF c s r).1 ≤ 2 := by
  unfold stepF nextF
  repeat' split
  all_goals (simp only; omega)
theorem runF_mode (c : Int) (l : List Res) : 0 ≤ (runF c l).1 ∧ (runF c l).1 ≤ 2 := by
  rcases List.eq_nil_or_concat l with rfl | ⟨l', r, rfl⟩
  · simp [runF]
  · rw [List.concat_eq_append, runF_snoc]; exact stepF_mode c _ r
theorem runF_bd (c : Int) : ∀ (n : Nat) (l : List Res), l.length = n → 0 ≤ (runF c l).2 ∧ (runF c l).2 ≤ n := by
  intro n
  induction n with
  | zero => intro l h; obtain rfl := List.eq_nil_of_length_eq_zero h; simp [runF]
  | succ n ih =>
    intro l h
    rcases List.eq_nil_or_concat l with rfl | ⟨l', r, rfl⟩
    · simp at h
    · rw [List.concat_eq_append] at h ⊢
      rw [runF_snoc]
      exact stepF_bd (ih l' (by simpa using h))
/-- A longer cure: what the two states are to each other. -/
def Long (x y : Int × Int) : Prop := (x.1 = 2 ↔ y.1 = 2) ∧ (x.1 = 1 → y.1 = 1 ∧ y.2 = x.2)
theorem long_step {c d : Int} (h : c ≤ d) {x y : Int × Int} (r : Res) (hl : Long x y) : Long (stepF c x r) (stepF d y r) := by
  obtain ⟨h1, h2⟩ := hl
  unfold stepF nextF Long
  by_cases i : (!r.ic) = true
  · simp [i]
  · by_cases x2 : x.1 = 2
    · have := h1.1 x2; simp [x2, this]
    · have y2 : ¬ y.1 = 2 := fun e => x2 (h1.2 e)
      by_cases f : failsF r = true
      · simp [i, x2, y2, f]
      · simp only [i, x2, y2, f, or_self, if_false, Bool.false_eq_true]
        by_cases g : x.1 = 1 ∧ x.2 + 1 < c
        · obtain ⟨e1, e2⟩ := h2 g.1
          rw [if_pos g, if_pos ⟨e1, by omega⟩]
          simp [e2]
        · rw [if_neg g]
          by_cases g2 : y.1 = 1 ∧ y.2 + 1 < d
          · rw [if_pos g2]; simp
          · rw [if_neg g2]; simp
theorem Row.form {R : List Ent} {e : TypeId} {size n cap : Nat} {a : Option Addr} {xs : List Value} (h : Row R e size a n cap xs) (hn : 0 < n) : ∃ g cur, a = some ⟨g, 0, none⟩ ∧ R = [(g, cur, e)] ∧ cur.size = cap * size := by
  obtain ⟨_, h2, _, h4⟩ := h
  rcases h4 with ⟨_, rfl⟩ | ⟨g, cur, h5, h6, h7, _⟩
  · omega
  · exact ⟨g, cur, h5, h6, h7⟩
set_option maxHeartbeats 16000000 in
set_option maxRecDepth 100000 in
theorem modeLonger_walk (A1 : Option Addr) (n1 c1 : Nat) (zs : List Int) (cut cure more : Int) (k : Kd) (w : World) (h1 : Ints w A1 n1 zs) (hk : k.In w) :
    Calls Try.prog 8 #[.slice A1 n1 c1, .int .i64 cut, .int .i64 cure, .int .i64 more, .agg k.cs] w fun e w' => e = .returned (.bool true) ∧ Below w.heap.size w w' := by
  have H1 := Lib.hid h1; have HK := Lib.hid hk
  clear h1 hk
  have HS := Lib.hid ((Sts.nil w).add (g := w.heap.size) rfl k.cs 44)
  go_enter Try.func8, Try.ntmps8
  go_upto_region 1 with fail
  generalize w.alloc (.cells k.cs 44) = w3 at *
  generalize hg : w.heap.size = g9 at *
  have HG := Lib.hid hg
  clear hg
  obtain ⟨c, hc⟩ : ∃ c, within cure 1 5 = c := ⟨_, rfl⟩
  have hcb := within_bd cure (lo := 1) (hi := 5) (by omega)
  have HWI := Lib.hid (within_calls cure 1 5 w3 (by omega) (by omega) (by omega))
  rw [hc] at HWI hcb
  clear hc
  obtain ⟨cb0, cb1⟩ := hcb
  go_wp2_with fail
  refine HWI.out.mono ?_
  rintro e w4 ⟨rfl, rfl⟩
  clear HWI
  go_wp2_with fail
  refine (some_calls A1 n1 c1 zs w3 (H1.out.after HS.out)).mono ?_
  rintro e w5 ⟨m, R, a, cap, hm, rfl, hR, hS⟩
  have hm20 : m ≤ 20 := by omega
  have HR := Lib.hid hR
  have HS5 := Lib.hid (Sts.join [(g9, k.cs, 44)] [] HS.out hS)
  generalize (zs.take m).map resF = rs at *
  clear hm hR hS HS
  have hlr : rs.length = m := by have := HR.out.1; rw [rcs, flat_length Res.c 4 Res.c_length] at this; omega
  have HL := Lib.hid hlr
  clear hlr
  obtain ⟨n, hn⟩ : ∃ n, within cut 0 m = n := ⟨_, rfl⟩
  have hnb := within_bd cut (lo := 0) (hi := m) (by omega)
  have HWI := Lib.hid (within_calls cut 0 m w5 (by omega) (by omega) (by omega))
  rw [hn] at HWI hnb
  clear hn
  obtain ⟨nb0, nb1⟩ := hnb
  obtain ⟨n, rfl⟩ : ∃ i : Nat, n = i := ⟨n.toNat, by omega⟩
  have hnm : n ≤ m := by omega
  have hcap := HR.out.le
  have hcm := HR.out.cap_le
  go_wp2_with fail
  refine HWI.out.mono ?_
  rintro e w6 ⟨rfl, rfl⟩
  clear HWI
  have hst : Src w5 a n 4 (rcs (rs.take n)) := by
    have := HR.out.src_take [(g9, k.cs, 44)] [] HS5.out hnm
    rw [rcs, flat_take Res.c 4 Res.c_length] at this
    exact this
  have SRCD : ∀ (L : List Ent) (wr : World), Sts w (L ++ (R ++ [])) wr → Src wr (if cap = n then a else Option.map (fun x => x.add (n * 4)) a) (m - n) 4 (rcs (rs.drop n)) := fun L wr h => by
    have := HR.out.src_drop L [] h hnm
    rw [rcs, flat_drop Res.c 4 Res.c_length] at this
    exact this
  have HSRCD := Lib.hid SRCD
  have HRC := Lib.hid (run_calls c a n cap (rs.take n) w5 hst (by omega))
  clear hst SRCD
  go_wp2_with fail
  refine HRC.out.mono ?_
  rintro e w6 ⟨rfl, hb⟩
  clear HRC
  obtain ⟨⟨q1, q2⟩, hq⟩ : ∃ q, runF c (rs.take n) = q := ⟨_, rfl⟩
  rw [hq]
  have HQ := Lib.hid hq
  have h6 := HS5.out.below hb
  have HS6 := Lib.hid (h6.ins (g := w6.heap.size) [(g9, k.cs, 44)] (R ++ []) rfl #[.int .i64 q1, .int .i64 q2] 25)
  clear hq h6 hb HS5
  go_upto_region 5 with fail
  generalize w6.alloc (.cells #[.int .i64 q1, .int .i64 q2] 25) = w7 at *
  generalize w6.heap.size = g14 at *
  go_upto_block 0 with fail
  generalize (if cap = n then a else Option.map (fun x => x.add (n * 4)) a) = ad0 at *
  have htk : n + (m - n) = m := by omega
  have hld : (rs.drop n).length = m - n := by rw [List.length_drop, HL.out]
  have HLD := Lib.hid hld
  clear hld
  go_cut [16] from 40 to 48 (fun v16 wc => ∃ q1 q2 : Int, Hid (runF c rs = (q1, q2)) ∧ Hid (Sts w ([(g9, k.cs, 44), (g14, #[.int .i64 q1, .int .i64 q2], 25)] ++ (R ++ [])) wc))
  case first =>
    go_wp2_with fail
    go_loopw [40] (fun v40 wr => ∃ (j : Nat) (q p : Int), j ≤ m - n ∧ v40 = .int .i64 j ∧ 0 ≤ p ∧ p ≤ 20 ∧ Hid (runF c (rs.take (n + j)) = (q, p)) ∧ Hid (Sts w ([(g9, k.cs, 44), (g14, #[.int .i64 q, .int .i64 p], 25)] ++ (R ++ [])) wr)) (fun v40 _ => m - n - (intOf v40).toNat)
    case atStart =>
      have hb0 := runF_bd c n (rs.take n) (by rw [List.length_take, HL.out]; omega)
      rw [HQ.out] at hb0
      simp only at hb0
      exact ⟨0, q1, q2, by omega, rfl, hb0.1, by omega, HQ, HS6⟩
    case round =>
      obtain ⟨j, q, p, hj, rfl, p0, p1, HRF, HS⟩ := hrel
      clear HS6
      by_cases hlt : j < m - n
      · obtain ⟨r, hr⟩ : ∃ r, (rs.drop n)[j]? = some r := ⟨_, List.getElem?_eq_getElem (by rw [HLD.out]; exact hlt)⟩
        obtain ⟨ad, hA, c0, c1, c2, c3⟩ := src_res (HSRCD.out _ _ HS.out) hr
        have hnx := runF_add c rs n j r hr
        rw [HRF.out] at hnx
        have hbd := runF_bd c (n + (j + 1)) (rs.take (n + (j + 1))) (by rw [List.length_take, HL.out]; omega)
        rw [hnx] at hbd
        subst hA
        obtain ⟨oc, ic, la, lo⟩ := r
        simp only at c0 c1 c2 c3
        have hcall := fun W => next_calls q p c oc ic la lo W (by omega) (by omega)
        have hst : nextF (q, p) c (failsF ⟨oc, ic, la, lo⟩) (!ic) = stepF c (q, p) ⟨oc, ic, la, lo⟩ := rfl
        rw [hst] at hcall
        generalize stepF c (q, p) ⟨oc, ic, la, lo⟩ = s2 at *
        obtain ⟨x2, y2⟩ := s2
        simp only at hbd hcall
        have HNX := Lib.hid hnx; have HCALL := Lib.hid hcall
        have HB := Lib.hid (show 0 ≤ y2 ∧ y2 ≤ 20 from by omega)
        have hs2 := HS.out.ins (g := wr.heap.size) [(g9, k.cs, 44), (g14, #[.int .i64 q, .int .i64 p], 25)] (R ++ []) rfl #[.bool oc, .bool ic, .bool la, .bool lo] 23
        have HS2 := Lib.hid hs2
        have i1 : (0 : Int) ≤ (j : Int) := by omega
        have i2 : (j : Int) < ((m - n : Nat) : Int) := by omega
        clear hr hnx hbd hcall hst hs2
        go_upto_region 8 with fail
        clear c0 c1 c2 c3 HS
        generalize wr.alloc (.cells #[.bool oc, .bool ic, .bool la, .bool lo] 23) = w8 at *
        generalize wr.heap.size = g16 at *
        have e0 := HS2.out.cell 1 0 rfl (v := .int .i64 q) rfl
        have e1 := HS2.out.cell 1 1 rfl (v := .int .i64 p) rfl
        have r0 := HS2.out.cell 2 0 rfl (v := .bool oc) rfl
        have r1 := HS2.out.cell 2 1 rfl (v := .bool ic) rfl
        have r2 := HS2.out.cell 2 2 rfl (v := .bool la) rfl
        have r3 := HS2.out.cell 2 3 rfl (v := .bool lo) rfl
        go_wp2_with fail
        refine (HCALL.out w8).mono ?_
        rintro e w10 ⟨rfl, hb⟩
        have HS6 := Lib.hid (HS2.out.below hb)
        clear e0 e1 r0 r1 r2 r3 hb HS2 HCALL
        have f0 := HS6.out.frozen 1 0 rfl
        have f1 := HS6.out.frozen 1 1 rfl
        have e0 := HS6.out.cell 1 0 rfl (v := .int .i64 q) rfl
        have e1 := HS6.out.cell 1 1 rfl (v := .int .i64 p) rfl
        go_wp2_with fail
        have hs8 := (HS6.out.set 1 0 (.int .i64 x2) rfl).set 1 1 (.int .i64 y2) rfl
        have HS8 := Lib.hid (hs8.sub (L' := [(g9, k.cs, 44), (g14, #[.int .i64 x2, .int .i64 y2], 25)] ++ (R ++ [])) (by simp))
        clear hs8 HS6 e0 e1 f0 f1
        go_roundw
        case rel => exact ⟨j + 1, x2, y2, by omega, by go_num, HB.out.1, HB.out.2, HNX, HS8⟩
        case measure => simp [intOf]; omega
      · obtain rfl : j = m - n := by omega
        rw [htk, List.take_of_length_le (by rw [HL.out]; exact Nat.le_refl _)] at HRF
        go_wp2_with fail
        go_meet
        exact ⟨q, p, HRF, HS⟩
  case rest =>
    clear HS6 HQ htk
    obtain ⟨q1, q2, HQ, HS6⟩ := hcut
    have e0 := HS6.out.cell 1 0 rfl (v := .int .i64 q1) rfl
    have e1 := HS6.out.cell 1 1 rfl (v := .int .i64 q2) rfl
    go_upto_region 10 with fail
    have HRUN : ∀ p : Later w ([(g9, k.cs, 44), (g14, #[.int .i64 q1, .int .i64 q2], 25)] ++ (R ++ [])), Calls Try.prog 12 #[.int .i64 c, .slice a m cap] p.val (fun e w'' => e = .returned (.agg #[.int .i64 q1, .int .i64 q2]) ∧ ∃ q : Later w ([(g9, k.cs, 44), (g14, #[.int .i64 q1, .int .i64 q2], 25)] ++ (R ++ [])), w'' = q.val) := fun p =>
      (run_calls c a m cap rs p.val (HR.out.src _ [] p.property) (by omega)).mono fun e w' h => ⟨by rw [h.1, HQ.out], ⟨w', p.property.below h.2⟩, rfl⟩
    have hne : Nonempty (Later w ([(g9, k.cs, 44), (g14, #[.int .i64 q1, .int .i64 q2], 25)] ++ (R ++ []))) := ⟨⟨_, HS6.out⟩⟩
    have y0 : ∀ p : Later w ([(g9, k.cs, 44), (g14, #[.int .i64 q1, .int .i64 q2], 25)] ++ (R ++ [])), p.val.cell? ⟨g14, 0, none⟩ = some (.int .i64 q1) := fun p => p.property.cell 1 0 rfl rfl
    have y1 : ∀ p : Later w ([(g9, k.cs, 44), (g14, #[.int .i64 q1, .int .i64 q2], 25)] ++ (R ++ [])), p.val.cell? ⟨g14, 1, none⟩ = some (.int .i64 q2) := fun p => p.property.cell 1 1 rfl rfl
    refine wp_region_sts HS6.out (by kernel_rfl) (by kernel_rfl) ?_
    repeat (go_big_quiet_step (first | exact rfl | (go_at_call 12; exact HRUN _)))
    refine wpQuiet_nil ?_
    rintro wz ⟨⟨_, hz⟩, rfl⟩
    have h8 := hz.ins (g := wz.heap.size) [(g9, k.cs, 44), (g14, #[.int .i64 q1, .int .i64 q2], 25)] (R ++ []) rfl #[.int .i64 0, .int .i64 0] 25
    have h9 := h8.ins (g := wz.heap.size + 1) [(g9, k.cs, 44), (g14, #[.int .i64 q1, .int .i64 q2], 25), (wz.heap.size, #[.int .i64 0, .int .i64 0], 25)] (R ++ []) (by unfold World.alloc; rw [Array.size_push]) #[.int .i64 0, .int .i64 0] 25
    have HS9 := Lib.hid h9
    clear hne y0 y1 e0 e1 HRUN HS6 hz h8 h9
    go_upto_region 13 with fail
    generalize (wz.alloc (.cells #[.int .i64 0, .int .i64 0] 25)).alloc (.cells #[.int .i64 0, .int .i64 0] 25) = w9 at *
    generalize wz.heap.size + 1 = g18 at *
    generalize wz.heap.size = g17 at *
    obtain ⟨M, hM⟩ : ∃ M, within more 0 5 = M := ⟨_, rfl⟩
    have hMb := within_bd more (lo := 0) (hi := 5) (by omega)
    rw [hM] at hMb
    obtain ⟨M0, M1⟩ := hMb
    have HM := Lib.hid hM
    clear hM
    go_upto_block 2 with fail
    go_cut [20] from 58 to 90 (fun v20 wc => Hid (Sts w ([(g9, k.cs, 44), (g14, #[.int .i64 q1, .int .i64 q2], 25)] ++ (R ++ [])) wc))
    case first =>
      go_wp2_with fail
      go_loopw [58] (fun v58 wr => ∃ (j : Nat) (xq xp yq yp : Int), j ≤ m ∧ v58 = .int .i64 j ∧ (0 ≤ xp ∧ xp ≤ 20) ∧ (0 ≤ yp ∧ yp ≤ 20) ∧ Hid (Long (xq, xp) (yq, yp)) ∧ Hid (runF c (rs.take j) = (xq, xp)) ∧ Hid (runF (c + M) (rs.take j) = (yq, yp)) ∧ Hid (Sts w ([(g9, k.cs, 44), (g14, #[.int .i64 q1, .int .i64 q2], 25), (g17, #[.int .i64 xq, .int .i64 xp], 25), (g18, #[.int .i64 yq, .int .i64 yp], 25)] ++ (R ++ [])) wr)) (fun v58 _ => m - (intOf v58).toNat)
      case atStart => exact ⟨0, 0, 0, 0, 0, by omega, rfl, by omega, by omega, Lib.hid (by unfold Long; simp), Lib.hid rfl, Lib.hid rfl, HS9⟩
      case round =>
        obtain ⟨j, xq, xp, yq, yp, hj, rfl, ⟨a0, a1⟩, ⟨b0, b1⟩, HLG, HX, HY, HS⟩ := hrel
        clear HS9
        by_cases hlt : j < m
        · obtain ⟨r, hr⟩ : ∃ r, rs[j]? = some r := ⟨_, List.getElem?_eq_getElem (by rw [HL.out]; exact hlt)⟩
          obtain ⟨ad, hA, c0, c1, c2, c3⟩ := src_res (HR.out.src _ [] HS.out) hr
          have hnx : runF c (rs.take (j + 1)) = stepF c (xq, xp) r := by rw [take_next' hr, runF_snoc, HX.out]
          have hny : runF (c + M) (rs.take (j + 1)) = stepF (c + M) (yq, yp) r := by rw [take_next' hr, runF_snoc, HY.out]
          have hlg := long_step (c := c) (d := c + M) (by omega) r HLG.out
          have hbx := runF_bd c (j + 1) (rs.take (j + 1)) (by rw [List.length_take, HL.out]; omega)
          have hby := runF_bd (c + M) (j + 1) (rs.take (j + 1)) (by rw [List.length_take, HL.out]; omega)
          rw [hnx] at hbx
          rw [hny] at hby
          subst hA
          obtain ⟨oc, ic, la, lo⟩ := r
          simp only at c0 c1 c2 c3
          have hcx := fun W => next_calls xq xp c oc ic la lo W (by omega) (by omega)
          have hcy := fun W => next_calls yq yp (c + M) oc ic la lo W (by omega) (by omega)
          have hsx : nextF (xq, xp) c (failsF ⟨oc, ic, la, lo⟩) (!ic) = stepF c (xq, xp) ⟨oc, ic, la, lo⟩ := rfl
          have hsy : nextF (yq, yp) (c + M) (failsF ⟨oc, ic, la, lo⟩) (!ic) = stepF (c + M) (yq, yp) ⟨oc, ic, la, lo⟩ := rfl
          rw [hsx] at hcx
          rw [hsy] at hcy
          generalize stepF c (xq, xp) ⟨oc, ic, la, lo⟩ = sx at *
          generalize stepF (c + M) (yq, yp) ⟨oc, ic, la, lo⟩ = sy at *
          obtain ⟨x2, x3⟩ := sx
          obtain ⟨y2, y3⟩ := sy
          simp only at hbx hby hcx hcy
          have HNX := Lib.hid hnx; have HNY := Lib.hid hny; have HCX := Lib.hid hcx; have HCY := Lib.hid hcy; have HLG2 := Lib.hid hlg
          have HBX := Lib.hid (show 0 ≤ x3 ∧ x3 ≤ 20 from by omega)
          have HBY := Lib.hid (show 0 ≤ y3 ∧ y3 ≤ 20 from by omega)
          have hs2 := HS.out.ins (g := wr.heap.size) [(g9, k.cs, 44), (g14, #[.int .i64 q1, .int .i64 q2], 25), (g17, #[.int .i64 xq, .int .i64 xp], 25), (g18, #[.int .i64 yq, .int .i64 yp], 25)] (R ++ []) rfl #[.bool oc, .bool ic, .bool la, .bool lo] 23
          have HS2 := Lib.hid hs2
          have i1 : (0 : Int) ≤ (j : Int) := by omega
          have i2 : (j : Int) < (m : Int) := by omega
          clear hr hnx hny hbx hby hcx hcy hsx hsy hlg hs2
          go_upto_region 16 with fail
          clear c0 c1 c2 c3 HS
          generalize wr.alloc (.cells #[.bool oc, .bool ic, .bool la, .bool lo] 23) = w10 at *
          generalize wr.heap.size = g20 at *
          refine wp_region_seg (by kernel_rfl) ?_
          have HS3 := Lib.hid (HS2.out.drew : Sts w ([(g9, k.cs, 44), (g14, #[.int .i64 q1, .int .i64 q2], 25), (g17, #[.int .i64 xq, .int .i64 xp], 25), (g18, #[.int .i64 yq, .int .i64 yp], 25), (g20, #[.bool oc, .bool ic, .bool la, .bool lo], 23)] ++ (R ++ [])) w10.drew)
          refine seg_next 0 11 (by kernel_rfl) HS3.out ?_
          simp only [List.drop_succ_cons, List.drop_zero, List.take_succ_cons, List.take_zero, List.drop_nil, List.take_nil]
          have hne : Nonempty (Later w ([(g9, k.cs, 44), (g14, #[.int .i64 q1, .int .i64 q2], 25), (g17, #[.int .i64 xq, .int .i64 xp], 25), (g18, #[.int .i64 yq, .int .i64 yp], 25), (g20, #[.bool oc, .bool ic, .bool la, .bool lo], 23)] ++ (R ++ []))) := ⟨⟨_, HS3.out⟩⟩
          have z0 : ∀ p : Later w ([(g9, k.cs, 44), (g14, #[.int .i64 q1, .int .i64 q2], 25), (g17, #[.int .i64 xq, .int .i64 xp], 25), (g18, #[.int .i64 yq, .int .i64 yp], 25), (g20, #[.bool oc, .bool ic, .bool la, .bool lo], 23)] ++ (R ++ [])), p.val.cell? ⟨g17, 0, none⟩ = some (.int .i64 xq) := fun p => p.property.cell 2 0 rfl rfl
          have z1 : ∀ p : Later w ([(g9, k.cs, 44), (g14, #[.int .i64 q1, .int .i64 q2], 25), (g17, #[.int .i64 xq, .int .i64 xp], 25), (g18, #[.int .i64 yq, .int .i64 yp], 25), (g20, #[.bool oc, .bool ic, .bool la, .bool lo], 23)] ++ (R ++ [])), p.val.cell? ⟨g17, 1, none⟩ = some (.int .i64 xp) := fun p => p.property.cell 2 1 rfl rfl
          have z2 : ∀ p : Later w ([(g9, k.cs, 44), (g14, #[.int .i64 q1, .int .i64 q2], 25), (g17, #[.int .i64 xq, .int .i64 xp], 25), (g18, #[.int .i64 yq, .int .i64 yp], 25), (g20, #[.bool oc, .bool ic, .bool la, .bool lo], 23)] ++ (R ++ [])), p.val.cell? ⟨g18, 0, none⟩ = some (.int .i64 yq) := fun p => p.property.cell 3 0 rfl rfl
          have z3 : ∀ p : Later w ([(g9, k.cs, 44), (g14, #[.int .i64 q1, .int .i64 q2], 25), (g17, #[.int .i64 xq, .int .i64 xp], 25), (g18, #[.int .i64 yq, .int .i64 yp], 25), (g20, #[.bool oc, .bool ic, .bool la, .bool lo], 23)] ++ (R ++ [])), p.val.cell? ⟨g18, 1, none⟩ = some (.int .i64 yp) := fun p => p.property.cell 3 1 rfl rfl
          have z4 : ∀ p : Later w ([(g9, k.cs, 44), (g14, #[.int .i64 q1, .int .i64 q2], 25), (g17, #[.int .i64 xq, .int .i64 xp], 25), (g18, #[.int .i64 yq, .int .i64 yp], 25), (g20, #[.bool oc, .bool ic, .bool la, .bool lo], 23)] ++ (R ++ [])), p.val.cell? ⟨g20, 0, none⟩ = some (.bool oc) := fun p => p.property.cell 4 0 rfl rfl
          have z5 : ∀ p : Later w ([(g9, k.cs, 44), (g14, #[.int .i64 q1, .int .i64 q2], 25), (g17, #[.int .i64 xq, .int .i64 xp], 25), (g18, #[.int .i64 yq, .int .i64 yp], 25), (g20, #[.bool oc, .bool ic, .bool la, .bool lo], 23)] ++ (R ++ [])), p.val.cell? ⟨g20, 1, none⟩ = some (.bool ic) := fun p => p.property.cell 4 1 rfl rfl
          have z6 : ∀ p : Later w ([(g9, k.cs, 44), (g14, #[.int .i64 q1, .int .i64 q2], 25), (g17, #[.int .i64 xq, .int .i64 xp], 25), (g18, #[.int .i64 yq, .int .i64 yp], 25), (g20, #[.bool oc, .bool ic, .bool la, .bool lo], 23)] ++ (R ++ [])), p.val.cell? ⟨g20, 2, none⟩ = some (.bool la) := fun p => p.property.cell 4 2 rfl rfl
          have z7 : ∀ p : Later w ([(g9, k.cs, 44), (g14, #[.int .i64 q1, .int .i64 q2], 25), (g17, #[.int .i64 xq, .int .i64 xp], 25), (g18, #[.int .i64 yq, .int .i64 yp], 25), (g20, #[.bool oc, .bool ic, .bool la, .bool lo], 23)] ++ (R ++ [])), p.val.cell? ⟨g20, 3, none⟩ = some (.bool lo) := fun p => p.property.cell 4 3 rfl rfl
          have NX : ∀ p : Later w ([(g9, k.cs, 44), (g14, #[.int .i64 q1, .int .i64 q2], 25), (g17, #[.int .i64 xq, .int .i64 xp], 25), (g18, #[.int .i64 yq, .int .i64 yp], 25), (g20, #[.bool oc, .bool ic, .bool la, .bool lo], 23)] ++ (R ++ [])), Calls Try.prog 15 #[.agg #[.int .i64 xq, .int .i64 xp], .int .i64 c, .agg #[.bool oc, .bool ic, .bool la, .bool lo]] p.val (fun e w'' => e = .returned (.agg #[.int .i64 x2, .int .i64 x3]) ∧ ∃ q : Later w ([(g9, k.cs, 44), (g14, #[.int .i64 q1, .int .i64 q2], 25), (g17, #[.int .i64 xq, .int .i64 xp], 25), (g18, #[.int .i64 yq, .int .i64 yp], 25), (g20, #[.bool oc, .bool ic, .bool la, .bool lo], 23)] ++ (R ++ [])), w'' = q.val) := fun p =>
            (HCX.out p.val).mono fun e w' h => ⟨h.1, ⟨w', p.property.below h.2⟩, rfl⟩
          have NY : ∀ p : Later w ([(g9, k.cs, 44), (g14, #[.int .i64 q1, .int .i64 q2], 25), (g17, #[.int .i64 xq, .int .i64 xp], 25), (g18, #[.int .i64 yq, .int .i64 yp], 25), (g20, #[.bool oc, .bool ic, .bool la, .bool lo], 23)] ++ (R ++ [])), Calls Try.prog 15 #[.agg #[.int .i64 yq, .int .i64 yp], .int .i64 (c + M), .agg #[.bool oc, .bool ic, .bool la, .bool lo]] p.val (fun e w'' => e = .returned (.agg #[.int .i64 y2, .int .i64 y3]) ∧ ∃ q : Later w ([(g9, k.cs, 44), (g14, #[.int .i64 q1, .int .i64 q2], 25), (g17, #[.int .i64 xq, .int .i64 xp], 25), (g18, #[.int .i64 yq, .int .i64 yp], 25), (g20, #[.bool oc, .bool ic, .bool la, .bool lo], 23)] ++ (R ++ [])), w'' = q.val) := fun p =>
            (HCY.out p.val).mono fun e w' h => ⟨h.1, ⟨w', p.property.below h.2⟩, rfl⟩
          have NW : ∀ p : Later w ([(g9, k.cs, 44), (g14, #[.int .i64 q1, .int .i64 q2], 25), (g17, #[.int .i64 xq, .int .i64 xp], 25), (g18, #[.int .i64 yq, .int .i64 yp], 25), (g20, #[.bool oc, .bool ic, .bool la, .bool lo], 23)] ++ (R ++ [])), Calls Try.prog 13 #[.int .i64 more, .int .i64 0, .int .i64 5] p.val (fun e w'' => e = .returned (.int .i64 M) ∧ ∃ q : Later w ([(g9, k.cs, 44), (g14, #[.int .i64 q1, .int .i64 q2], 25), (g17, #[.int .i64 xq, .int .i64 xp], 25), (g18, #[.int .i64 yq, .int .i64 yp], 25), (g20, #[.bool oc, .bool ic, .bool la, .bool lo], 23)] ++ (R ++ [])), w'' = q.val) := fun p => by rw [← HM.out]; exact within_q more p (by omega) (by omega) (by omega)
          go_big_quiet_step (exact rfl)
          go_big_quiet_step (exact rfl)
          go_big_quiet_step (exact rfl)
          go_big_quiet_step ((go_at_call 15; exact NX _))
          go_big_quiet_step (exact rfl)
          go_big_quiet_step (exact rfl)
          go_big_quiet_step (exact rfl)
          go_big_quiet_step ((go_at_call 13; exact NW _))
          go_big_quiet_step (exact rfl)
          go_big_quiet_step (exact rfl)
          go_big_quiet_step ((go_at_call 15; exact NY _))
          refine wpQuiet_nil ?_
          rintro w11 ⟨⟨_, hs⟩, rfl⟩
          have HS4 := Lib.hid hs
          clear hs hne z0 z1 z2 z3 z4 z5 z6 z7 NX NY NW HS3 HS2 HCX HCY
          have f0 := HS4.out.frozen 2 0 rfl
          have f1 := HS4.out.frozen 2 1 rfl
          have e0 := HS4.out.cell 2 0 rfl (v := .int .i64 xq) rfl
          have e1 := HS4.out.cell 2 1 rfl (v := .int .i64 xp) rfl
          go_wp2_with fail
          have h5 := (HS4.out.set 2 0 (.int .i64 x2) rfl).set 2 1 (.int .i64 x3) rfl
          have HS5 := Lib.hid (h5.lit (L' := [(g9, k.cs, 44), (g14, #[.int .i64 q1, .int .i64 q2], 25), (g17, #[.int .i64 x2, .int .i64 x3], 25), (g18, #[.int .i64 yq, .int .i64 yp], 25), (g20, #[.bool oc, .bool ic, .bool la, .bool lo], 23)] ++ (R ++ [])) rfl)
          clear h5 HS4 f0 f1 e0 e1
          generalize World.setCell _ _ _ = w12 at *
          refine seg_in ?_
          refine seg_next 12 0 (by kernel_rfl) HS5.out ?_
          simp only [List.drop_succ_cons, List.drop_zero, List.take_succ_cons, List.take_zero, List.drop_nil, List.take_nil]
          refine wpQuiet_nil ?_
          rintro w13 ⟨⟨_, hs⟩, rfl⟩
          have HS6 := Lib.hid hs
          clear hs HS5
          have f0 := HS6.out.frozen 3 0 rfl
          have f1 := HS6.out.frozen 3 1 rfl
          have e0 := HS6.out.cell 3 0 rfl (v := .int .i64 yq) rfl
          have e1 := HS6.out.cell 3 1 rfl (v := .int .i64 yp) rfl
          go_wp2_with fail
          have h7 := (HS6.out.set 3 0 (.int .i64 y2) rfl).set 3 1 (.int .i64 y3) rfl
          have HS7 := Lib.hid (h7.lit (L' := [(g9, k.cs, 44), (g14, #[.int .i64 q1, .int .i64 q2], 25), (g17, #[.int .i64 x2, .int .i64 x3], 25), (g18, #[.int .i64 y2, .int .i64 y3], 25), (g20, #[.bool oc, .bool ic, .bool la, .bool lo], 23)] ++ (R ++ [])) rfl)
          clear h7 HS6 f0 f1 e0 e1
          generalize World.setCell _ _ _ = w14 at *
          refine seg_in ?_
          refine seg_done (by kernel_rfl) ?_
          have e0 := HS7.out.cell 2 0 rfl (v := .int .i64 x2) rfl
          have e2 := HS7.out.cell 3 0 rfl (v := .int .i64 y2) rfl
          have HFI := Lib.hid (HS7.out.sub (L' := [(g9, k.cs, 44), (g14, #[.int .i64 q1, .int .i64 q2], 25), (g17, #[.int .i64 x2, .int .i64 x3], 25), (g18, #[.int .i64 y2, .int .i64 y3], 25)] ++ (R ++ [])) (by simp))
          clear HS7
          obtain ⟨l1, l2⟩ := HLG2.out
          simp only at l1 l2
          by_cases x1 : x2 = 1
          · obtain ⟨y1, _⟩ := l2 x1
            subst x1 y1
            go_wp2_with fail
            go_roundw
            case rel => exact ⟨j + 1, 1, x3, 1, y3, by omega, by go_num, HBX.out, HBY.out, HLG2, HNX, HNY, HFI⟩
            case measure => simp [intOf]; omega
          · have t1 : (x2 == 1) = false := beq_eq_false_iff_ne.2 x1
            by_cases x22 : x2 = 2
            · have y22 := l1.1 x22
              subst x22 y22
              go_wp2_with fail
              go_roundw
              case rel => exact ⟨j + 1, 2, x3, 2, y3, by omega, by go_num, HBX.out, HBY.out, HLG2, HNX, HNY, HFI⟩
              case measure => simp [intOf]; omega
            · have t2 : (x2 == 2) = false := beq_eq_false_iff_ne.2 x22
              have t3 : (y2 == 2) = false := beq_eq_false_iff_ne.2 (fun e => x22 (l1.2 e))
              clear l1 l2
              go_wp2_with fail
              go_roundw
              case rel => exact ⟨j + 1, x2, x3, y2, y3, by omega, by go_num, HBX.out, HBY.out, HLG2, HNX, HNY, HFI⟩
              case measure => simp [intOf]; omega
        · obtain rfl : j = m := by omega
          go_wp2_with fail
          go_meet
          exact Lib.hid (HS.out.sub (by simp))
    case rest =>
      have HS := hcut
      clear HS9 hcut
      have hmo := runF_mode c rs
      rw [HQ.out] at hmo
      simp only at hmo
      obtain ⟨i, rfl⟩ : ∃ i : Nat, q1 = i := ⟨q1.toNat, by omega⟩
      have i3 : i < 3 := by omega
      clear hmo HM
      go_upto_region 20 with fail
      refine wp_region_lit ?_
      refine wpList_load_mid rfl 44 (.tmp 9) rfl g9 0 rfl k.cs.toList _ (HS.out.range 0 rfl) Try.underlying44 rfl keep_size ?_
      simp only [Act.put, List.setIfInBounds_toArray, List.set_cons_zero, List.set_cons_succ, Array.toArray_toList]
      go_wp2_with fail
      rename_i K0 hK0
      refine (deal_calls k wc (HK.out.after HS.out)).mono ?_
      rintro e w10 ⟨Ls, Ns, S, rfl, _, _, hst, hbel⟩
      have HSA := Lib.hid ((HS.out.below hbel).ins (g := w10.heap.size) [(g9, k.cs, 44), (g14, #[.int .i64 i, .int .i64 q2], 25)] (R ++ []) rfl z18 54)
      have HST := Lib.hid hst
      clear hst hbel HS
      refine hK0 _ _ ?_
      clear hK0 K0
      refine wpList_plain rfl fun K1 hK1 => ?_
      go_simp
      refine hK1 _ _ ?_
      clear hK1 K1
      refine wpList_store_mid rfl 54 (.tmp 21) (.tmp 92) rfl w10.heap.size 0 (k.ds Ls Ns (S 0) (S 1) (S 2)).toList.toArray rfl rfl (HSA.out.there 2 rfl rfl) deal_size (ds_one _ _ _ _ _ _) ?_
      simp only [Act.put, Array.toArray_toList]
      have h10 := HSA.out.fill 2 rfl (k.ds Ls Ns (S 0) (S 1) (S 2)).toList
      rw [ds_fill] at h10
      have HSB := Lib.hid h10
      have hb10 := (((Sts.nil w10).add (g := w10.heap.size) rfl z18 54).fill 0 rfl (k.ds Ls Ns (S 0) (S 1) (S 2)).toList).bel
      have HB10 := Lib.hid hb10
      clear h10 hb10 HSA
      change Hid (Sts w _ (World.setCells (World.alloc w10 _) w10.heap.size 0 _)) at HSB
      change Hid (Below _ _ (World.setCells (World.alloc w10 _) w10.heap.size 0 _)) at HB10
      unfold z18 at HSB HB10
      generalize World.setCells _ _ _ _ = w11 at *
      generalize hg21 : w10.heap.size = g21 at *
      have HS11 := Lib.hid (HSB.out.lit (L' := [(g9, k.cs, 44), (g14, #[.int .i64 i, .int .i64 q2], 25), (g21, k.ds Ls Ns (S 0) (S 1) (S 2), 54)] ++ (R ++ [])) rfl)
      clear HSB
      have s0 := HS11.out.cell 1 0 rfl (v := .int .i64 i) rfl
      have s1 := HS11.out.cell 1 1 rfl (v := .int .i64 q2) rfl
      go_upto_region 21 with fail
      refine wp_region_lit ?_
      refine wpList_load_mid rfl 54 (.tmp 21) rfl g21 0 rfl (k.ds Ls Ns (S 0) (S 1) (S 2)).toList _ (HS11.out.range 2 rfl) Try.underlying54 rfl deal_size ?_
      simp only [Act.put, List.setIfInBounds_toArray, List.set_cons_zero, List.set_cons_succ, Array.toArray_toList]
      have hsl := stepsK_len (k.ss i).l
      obtain ⟨hsrc, hlen⟩ := HST.out i i3
      have n0 : 0 < (S i).n := by omega
      have n12 : (S i).n ≤ 12 := by omega
      obtain ⟨ad, hA, _⟩ := hsrc.2 n0
      have hcl := ds_cell k Ls Ns S i i3
      rw [hA] at hcl hsrc
      have HSRC := Lib.hid hsrc; have HCL := Lib.hid hcl; have HLEN := Lib.hid hlen
      have HB10' := Lib.hid (show Below w10.heap.size w10 w11 from by rw [hg21]; exact HB10.out)
      have HYES := Lib.hid (steps_yes (k.ds Ls Ns (S 0) (S 1) (S 2)) i q2 w11 i3 ad (S i).n (S i).c (pcs (stepsK (k.ss i).l)) hcl (hsrc.below HB10'.out) (pcs_one _) (by omega))
      clear hsrc hcl hsl hlen hA HB10
      go_wp2_with fail
      refine HYES.out.mono ?_
      rintro e w12 ⟨R', a', c', rfl, hR', hS'⟩
      obtain ⟨ga, cur, rfl, rfl, hcz⟩ := hR'.form n0
      have hc2 := hR'.le
      have hge := hS'.ge 0 rfl
      have hB12 := bel_then HB10'.out hS'.bel HB10'.out.size
      have HJ := Lib.hid (Sts.join [(g9, k.cs, 44), (g14, #[.int .i64 i, .int .i64 q2], 25), (g21, k.ds Ls Ns (S 0) (S 1) (S 2), 54)] (R ++ []) HS11.out hS')
      have HB12 := Lib.hid hB12
      have HGE := Lib.hid (show w10.heap.size ≤ ga from Nat.le_trans HB10'.out.size hge)
      clear hR' hS' HYES s0 s1 HS11 hge hB12 HB10'
      have s0 := HJ.out.cell 1 0 rfl (v := .int .i64 i) rfl
      have hu0 : cur[0]? = some cur[0] := Array.getElem?_eq_getElem (by omega)
      have hu1 : cur[1]? = some cur[1] := Array.getElem?_eq_getElem (by omega)
      have a0 := HJ.out.cell 3 0 rfl hu0
      have a1 := HJ.out.cell 3 1 rfl hu1
      have f0 := HJ.out.frozen 3 0 rfl
      have f1 := HJ.out.frozen 3 1 rfl
      have b0 : decide ((i : Int) < 0) = false := decide_eq_false (by omega)
      have b1 : decide (3 ≤ (i : Int)) = false := decide_eq_false (by omega)
      have b2 : (((S i).n : Int) == 0) = false := beq_eq_false_iff_ne.2 (by omega)
      have b3 : ((S i).n == 0) = false := beq_eq_false_iff_ne.2 (by omega)
      have m0 : (0 : Int) < ((S i).n : Int) := by omega
      go_upto_region 25 with fail
      have hs14 := (HJ.out.set 3 0 (.int .i64 77) rfl).set 3 1 (.int .i64 0) rfl
      have HB14 := Lib.hid (bel_set (bel_set HB12.out ga 0 HGE.out (.int .i64 77)) ga 1 HGE.out (.int .i64 0))
      obtain ⟨cu2, hcu⟩ : ∃ cu2, (cur.setIfInBounds 0 (.int .i64 77)).setIfInBounds 1 (.int .i64 0) = cu2 := ⟨_, rfl⟩
      have HS14 := Lib.hid (hs14.lit (L' := [(g9, k.cs, 44), (g14, #[.int .i64 i, .int .i64 q2], 25), (g21, k.ds Ls Ns (S 0) (S 1) (S 2), 54), (ga, cu2, 59)] ++ (R ++ [])) (by rw [← hcu]; rfl))
      clear hs14 HJ HB12 HGE s0 hu0 hu1 a0 a1 f0 f1 b0 b1 b2 b3 m0 hcu
      generalize World.setCell _ _ _ = w14 at *
      have HSD := Lib.hid (HS14.out.drew : Sts w ([(g9, k.cs, 44), (g14, #[.int .i64 i, .int .i64 q2], 25), (g21, k.ds Ls Ns (S 0) (S 1) (S 2), 54), (ga, cu2, 59)] ++ (R ++ [])) w14.drew)
      have HBD := Lib.hid (HB14.out.drew : Below w10.heap.size w10 w14.drew)
      refine wp_region_T (fun w' => w'.rangeAt g21 0 (k.ds Ls Ns (S 0) (S 1) (S 2)).toList ∧ w'.rangeAt g9 0 k.cs.toList ∧ w'.cell? ⟨g14, 0, none⟩ = some (.int .i64 i) ∧ w'.cell? ⟨g14, 1, none⟩ = some (.int .i64 q2)) 13 (by kernel_rfl) ?_
      refine wpAnyT_take (i := 0) 14 (v := .agg (k.ds Ls Ns (S 0) (S 1) (S 2)).toList.toArray) rfl (by kernel_rfl) (fun _ _ _ h => h) (yieldsIf_load_mid (by rfl) 54 (.tmp 21) rfl g21 0 rfl (k.ds Ls Ns (S 0) (S 1) (S 2)).toList _ (fun w' h => h.1) Try.underlying54 rfl deal_size) ⟨HSD.out.range 2 rfl, HSD.out.range 0 rfl, HSD.out.cell 1 0 rfl rfl, HSD.out.cell 1 1 rfl rfl⟩ ?_
      (try simp only [Act.put, List.getElem_toArray, List.getElem_cons_zero, List.getElem_cons_succ, List.setIfInBounds_toArray, List.set_cons_zero, List.set_cons_succ, Array.toArray_toList])
      refine wpAnyT_take (i := 1) 14 (v := .agg #[.int .i64 i, .int .i64 q2]) rfl (by kernel_rfl) (fun _ _ _ h => h) (Or.inl ⟨by rfl, by (intro w' hSw; obtain ⟨_, _, hSw0, hSw1⟩ := hSw; go_simp)⟩) (⟨HSD.out.range 2 rfl, HSD.out.range 0 rfl, HSD.out.cell 1 0 rfl rfl, HSD.out.cell 1 1 rfl rfl⟩) ?_
      (try simp only [Act.put, List.getElem_toArray, List.getElem_cons_zero, List.getElem_cons_succ, List.setIfInBounds_toArray, List.set_cons_zero, List.set_cons_succ, Array.toArray_toList])
      refine wpAnyT_take (i := 3) 14 (v := .agg k.cs.toList.toArray) rfl (by kernel_rfl) (fun _ _ _ h => h) (yieldsIf_load_mid (by rfl) 44 (.tmp 9) rfl g9 0 rfl k.cs.toList _ (fun w' h => h.2.1) Try.underlying44 rfl keep_size) ⟨HSD.out.range 2 rfl, HSD.out.range 0 rfl, HSD.out.cell 1 0 rfl rfl, HSD.out.cell 1 1 rfl rfl⟩ ?_
      (try simp only [Act.put, List.getElem_toArray, List.getElem_cons_zero, List.getElem_cons_succ, List.setIfInBounds_toArray, List.set_cons_zero, List.set_cons_succ, Array.toArray_toList])
      refine wpAnyT_take (i := 6) 14 (v := .pointer (some ⟨g14, 0, none⟩)) rfl (by kernel_rfl) (fun _ _ _ h => h) (Or.inl ⟨by rfl, by (intro w' hSw; obtain ⟨_, _, hSw0, hSw1⟩ := hSw; go_simp)⟩) (⟨HSD.out.range 2 rfl, HSD.out.range 0 rfl, HSD.out.cell 1 0 rfl rfl, HSD.out.cell 1 1 rfl rfl⟩) ?_
      (try simp only [Act.put, List.getElem_toArray, List.getElem_cons_zero, List.getElem_cons_succ, List.setIfInBounds_toArray, List.set_cons_zero, List.set_cons_succ, Array.toArray_toList])
      refine wpAnyT_take (i := 7) 14 (v := .int .i64 i) rfl (by kernel_rfl) (fun _ _ _ h => h) (Or.inl ⟨by rfl, by (intro w' hSw; obtain ⟨_, _, hSw0, hSw1⟩ := hSw; go_simp)⟩) (⟨HSD.out.range 2 rfl, HSD.out.range 0 rfl, HSD.out.cell 1 0 rfl rfl, HSD.out.cell 1 1 rfl rfl⟩) ?_
      (try simp only [Act.put, List.getElem_toArray, List.getElem_cons_zero, List.getElem_cons_succ, List.setIfInBounds_toArray, List.set_cons_zero, List.set_cons_succ, Array.toArray_toList])
      refine wpAnyT_one 2 rfl (by kernel_rfl) ?_
      (try simp only [List.getElem_toArray, List.getElem_cons_zero, List.getElem_cons_succ])
      have HYES := Lib.hid (steps_yes (k.ds Ls Ns (S 0) (S 1) (S 2)) i q2 w14.drew i3 ad (S i).n (S i).c (pcs (stepsK (k.ss i).l)) HCL.out (HSRC.out.below HBD.out) (pcs_one _) (by omega))
      go_wp2_with fail
      refine HYES.out.mono ?_
      rintro e w15 ⟨R2, a2, c2, rfl, hR2, hS2⟩
      have HSR2 := Lib.hid (hR2.src [] [] (hS2.lit (by simp)))
      have HS15 := Lib.hid (HSD.out.below hS2.bel)
      clear HYES hR2 hS2
      go_wp2_with fail
      refine kq_in ⟨⟨HS15.out.range 2 rfl, HS15.out.range 0 rfl, HS15.out.cell 1 0 rfl rfl, HS15.out.cell 1 1 rfl rfl⟩, ?_⟩
      refine wpAnyT_one 4 rfl (by kernel_rfl) ?_
      (try simp only [List.getElem_toArray, List.getElem_cons_zero, List.getElem_cons_succ])
      go_wp2_with fail
      refine (deal_calls k w15 (HK.out.after HS15.out)).mono ?_
      rintro e w16 ⟨Lt, Nt, S', rfl, _, _, hst, hbel⟩
      obtain ⟨hsrc', hlen'⟩ := hst i i3
      have hnn : (S' i).n = (S i).n := by rw [← hlen', HLEN.out]
      rw [hnn] at hsrc'
      have HSRC2 := Lib.hid hsrc'
      have HSR3 := Lib.hid (HSR2.out.below hbel)
      have HS16 := Lib.hid (HS15.out.below hbel)
      have HNN := Lib.hid hnn
      clear hst hbel hsrc' hlen' hnn
      go_wp2_with fail
      refine kq_in ⟨⟨HS16.out.range 2 rfl, HS16.out.range 0 rfl, HS16.out.cell 1 0 rfl rfl, HS16.out.cell 1 1 rfl rfl⟩, ?_⟩
      refine wpAnyT_take (i := 5) 14 (v := .agg #[.slice (S' 0).a (S' 0).n (S' 0).c, .slice (S' 1).a (S' 1).n (S' 1).c, .slice (S' 2).a (S' 2).n (S' 2).c]) rfl (by kernel_rfl) (fun _ _ _ h => h) (Or.inl ⟨by rfl, by (intro w' hSw; first | rfl | (unfold Kd.ds; go_simp))⟩) ⟨HS16.out.range 2 rfl, HS16.out.range 0 rfl, HS16.out.cell 1 0 rfl rfl, HS16.out.cell 1 1 rfl rfl⟩ ?_
      (try simp only [Act.put, List.getElem_toArray, List.getElem_cons_zero, List.getElem_cons_succ, List.setIfInBounds_toArray, List.set_cons_zero, List.set_cons_succ, Array.toArray_toList])
      rcases (show i = 0 ∨ i = 1 ∨ i = 2 by omega) with hi | hi | hi
      · subst hi
        refine wpAnyT_take (i := 8) 14 (v := .slice (S' 0).a (S 0).n (S' 0).c) rfl (by kernel_rfl) (fun _ _ _ h => h) (Or.inl ⟨by rfl, by (intro w' hSw; rw [← HNN.out]; first | rfl | go_simp)⟩) ⟨HS16.out.range 2 rfl, HS16.out.range 0 rfl, HS16.out.cell 1 0 rfl rfl, HS16.out.cell 1 1 rfl rfl⟩ ?_
        (try simp only [Act.put, List.getElem_toArray, List.getElem_cons_zero, List.getElem_cons_succ, List.setIfInBounds_toArray, List.set_cons_zero, List.set_cons_succ, Array.toArray_toList])
        refine wpAnyT_one 9 rfl (by kernel_rfl) ?_
        (try simp only [List.getElem_toArray, List.getElem_cons_zero, List.getElem_cons_succ])
        go_wp2_with fail
        refine (sameS_yes (stepsK (k.ss 0).l) HSR3.out HSRC2.out (by omega)).mono ?_
        rintro e w17 ⟨rfl, n17, rfl⟩
        have HS17 := Lib.hid (HS16.out.drewN n17)
        go_wp2_with fail
        refine kq_in ⟨⟨HS17.out.range 2 rfl, HS17.out.range 0 rfl, HS17.out.cell 1 0 rfl rfl, HS17.out.cell 1 1 rfl rfl⟩, ?_⟩
        refine wpAnyT_take (i := 10) 14 (v := .bool true) rfl (by kernel_rfl) (fun _ _ _ h => h) (Or.inl ⟨by rfl, by (intro w' hSw; go_simp)⟩) ⟨HS17.out.range 2 rfl, HS17.out.range 0 rfl, HS17.out.cell 1 0 rfl rfl, HS17.out.cell 1 1 rfl rfl⟩ ?_
        (try simp only [Act.put, List.getElem_toArray, List.getElem_cons_zero, List.getElem_cons_succ, List.setIfInBounds_toArray, List.set_cons_zero, List.set_cons_succ, Array.toArray_toList])
        refine wpAnyT_one 11 rfl (by kernel_rfl) ?_
        (try simp only [List.getElem_toArray, List.getElem_cons_zero, List.getElem_cons_succ])
        go_wp2_with fail
        refine (modeRuns_calls _).mono ?_
        rintro e w18 ⟨rfl, hb⟩
        have HS18 := Lib.hid (HS17.out.below hb)
        go_wp2_with fail
        refine kq_in ⟨⟨HS18.out.range 2 rfl, HS18.out.range 0 rfl, HS18.out.cell 1 0 rfl rfl, HS18.out.cell 1 1 rfl rfl⟩, ?_⟩
        refine wpAnyT_take (i := 12) 14 (v := .bool true) rfl (by kernel_rfl) (fun _ _ _ h => h) (Or.inl ⟨by rfl, by (intro w' hSw; go_simp)⟩) ⟨HS18.out.range 2 rfl, HS18.out.range 0 rfl, HS18.out.cell 1 0 rfl rfl, HS18.out.cell 1 1 rfl rfl⟩ ?_
        (try simp only [Act.put, List.getElem_toArray, List.getElem_cons_zero, List.getElem_cons_succ, List.setIfInBounds_toArray, List.set_cons_zero, List.set_cons_succ, Array.toArray_toList])
        refine wpAnyT_last rfl (by kernel_rfl) ?_
        (try simp only [List.getElem_toArray, List.getElem_cons_zero, List.getElem_cons_succ])
        go_wp2_with fail
        refine kq_in ?_
        refine wpAny_done (by kernel_rfl) ?_ _
        have HBZ := Lib.hid HS18.out.bel
        clear HS18 HS17 HS16 HS15 HSR3 HSRC2
        go_wp2_with fail
        go_ret
        exact ⟨rfl, by first | exact HBZ.out | (rw [HG.out]; exact HBZ.out) | (rw [← HG.out]; exact HBZ.out)⟩
      · subst hi
        refine wpAnyT_take (i := 8) 14 (v := .slice (S' 1).a (S 1).n (S' 1).c) rfl (by kernel_rfl) (fun _ _ _ h => h) (Or.inl ⟨by rfl, by (intro w' hSw; rw [← HNN.out]; first | rfl | go_simp)⟩) ⟨HS16.out.range 2 rfl, HS16.out.range 0 rfl, HS16.out.cell 1 0 rfl rfl, HS16.out.cell 1 1 rfl rfl⟩ ?_
        (try simp only [Act.put, List.getElem_toArray, List.getElem_cons_zero, List.getElem_cons_succ, List.setIfInBounds_toArray, List.set_cons_zero, List.set_cons_succ, Array.toArray_toList])
        refine wpAnyT_one 9 rfl (by kernel_rfl) ?_
        (try simp only [List.getElem_toArray, List.getElem_cons_zero, List.getElem_cons_succ])
        go_wp2_with fail
        refine (sameS_yes (stepsK (k.ss 1).l) HSR3.out HSRC2.out (by omega)).mono ?_
        rintro e w17 ⟨rfl, n17, rfl⟩
        have HS17 := Lib.hid (HS16.out.drewN n17)
        go_wp2_with fail
        refine kq_in ⟨⟨HS17.out.range 2 rfl, HS17.out.range 0 rfl, HS17.out.cell 1 0 rfl rfl, HS17.out.cell 1 1 rfl rfl⟩, ?_⟩
        refine wpAnyT_take (i := 10) 14 (v := .bool true) rfl (by kernel_rfl) (fun _ _ _ h => h) (Or.inl ⟨by rfl, by (intro w' hSw; go_simp)⟩) ⟨HS17.out.range 2 rfl, HS17.out.range 0 rfl, HS17.out.cell 1 0 rfl rfl, HS17.out.cell 1 1 rfl rfl⟩ ?_
        (try simp only [Act.put, List.getElem_toArray, List.getElem_cons_zero, List.getElem_cons_succ, List.setIfInBounds_toArray, List.set_cons_zero, List.set_cons_succ, Array.toArray_toList])
        refine wpAnyT_one 11 rfl (by kernel_rfl) ?_
        (try simp only [List.getElem_toArray, List.getElem_cons_zero, List.getElem_cons_succ])
        go_wp2_with fail
        refine (modeRuns_calls _).mono ?_
        rintro e w18 ⟨rfl, hb⟩
        have HS18 := Lib.hid (HS17.out.below hb)
        go_wp2_with fail
        refine kq_in ⟨⟨HS18.out.range 2 rfl, HS18.out.range 0 rfl, HS18.out.cell 1 0 rfl rfl, HS18.out.cell 1 1 rfl rfl⟩, ?_⟩
        refine wpAnyT_take (i := 12) 14 (v := .bool true) rfl (by kernel_rfl) (fun _ _ _ h => h) (Or.inl ⟨by rfl, by (intro w' hSw; go_simp)⟩) ⟨HS18.out.range 2 rfl, HS18.out.range 0 rfl, HS18.out.cell 1 0 rfl rfl, HS18.out.cell 1 1 rfl rfl⟩ ?_
        (try simp only [Act.put, List.getElem_toArray, List.getElem_cons_zero, List.getElem_cons_succ, List.setIfInBounds_toArray, List.set_cons_zero, List.set_cons_succ, Array.toArray_toList])
        refine wpAnyT_last rfl (by kernel_rfl) ?_
        (try simp only [List.getElem_toArray, List.getElem_cons_zero, List.getElem_cons_succ])
        go_wp2_with fail
        refine kq_in ?_
        refine wpAny_done (by kernel_rfl) ?_ _
        have HBZ := Lib.hid HS18.out.bel
        clear HS18 HS17 HS16 HS15 HSR3 HSRC2
        go_wp2_with fail
        go_ret
        exact ⟨rfl, by first | exact HBZ.out | (rw [HG.out]; exact HBZ.out) | (rw [← HG.out]; exact HBZ.out)⟩
      · subst hi
        refine wpAnyT_take (i := 8) 14 (v := .slice (S' 2).a (S 2).n (S' 2).c) rfl (by kernel_rfl) (fun _ _ _ h => h) (Or.inl ⟨by rfl, by (intro w' hSw; rw [← HNN.out]; first | rfl | go_simp)⟩) ⟨HS16.out.range 2 rfl, HS16.out.range 0 rfl, HS16.out.cell 1 0 rfl rfl, HS16.out.cell 1 1 rfl rfl⟩ ?_
        (try simp only [Act.put, List.getElem_toArray, List.getElem_cons_zero, List.getElem_cons_succ, List.setIfInBounds_toArray, List.set_cons_zero, List.set_cons_succ, Array.toArray_toList])
        refine wpAnyT_one 9 rfl (by kernel_rfl) ?_
        (try simp only [List.getElem_toArray, List.getElem_cons_zero, List.getElem_cons_succ])
        go_wp2_with fail
        refine (sameS_yes (stepsK (k.ss 2).l) HSR3.out HSRC2.out (by omega)).mono ?_
        rintro e w17 ⟨rfl, n17, rfl⟩
        have HS17 := Lib.hid (HS16.out.drewN n17)
        go_wp2_with fail
        refine kq_in ⟨⟨HS17.out.range 2 rfl, HS17.out.range 0 rfl, HS17.out.cell 1 0 rfl rfl, HS17.out.cell 1 1 rfl rfl⟩, ?_⟩
        refine wpAnyT_take (i := 10) 14 (v := .bool true) rfl (by kernel_rfl) (fun _ _ _ h => h) (Or.inl ⟨by rfl, by (intro w' hSw; go_simp)⟩) ⟨HS17.out.range 2 rfl, HS17.out.range 0 rfl, HS17.out.cell 1 0 rfl rfl, HS17.out.cell 1 1 rfl rfl⟩ ?_
        (try simp only [Act.put, List.getElem_toArray, List.getElem_cons_zero, List.getElem_cons_succ, List.setIfInBounds_toArray, List.set_cons_zero, List.set_cons_succ, Array.toArray_toList])
        refine wpAnyT_one 11 rfl (by kernel_rfl) ?_
        (try simp only [List.getElem_toArray, List.getElem_cons_zero, List.getElem_cons_succ])
        go_wp2_with fail
        refine (modeRuns_calls _).mono ?_
        rintro e w18 ⟨rfl, hb⟩
        have HS18 := Lib.hid (HS17.out.below hb)
        go_wp2_with fail
        refine kq_in ⟨⟨HS18.out.range 2 rfl, HS18.out.range 0 rfl, HS18.out.cell 1 0 rfl rfl, HS18.out.cell 1 1 rfl rfl⟩, ?_⟩
        refine wpAnyT_take (i := 12) 14 (v := .bool true) rfl (by kernel_rfl) (fun _ _ _ h => h) (Or.inl ⟨by rfl, by (intro w' hSw; go_simp)⟩) ⟨HS18.out.range 2 rfl, HS18.out.range 0 rfl, HS18.out.cell 1 0 rfl rfl, HS18.out.cell 1 1 rfl rfl⟩ ?_
        (try simp only [Act.put, List.getElem_toArray, List.getElem_cons_zero, List.getElem_cons_succ, List.setIfInBounds_toArray, List.set_cons_zero, List.set_cons_succ, Array.toArray_toList])
        refine wpAnyT_last rfl (by kernel_rfl) ?_
        (try simp only [List.getElem_toArray, List.getElem_cons_zero, List.getElem_cons_succ])
        go_wp2_with fail
        refine kq_in ?_
        refine wpAny_done (by kernel_rfl) ?_ _
        have HBZ := Lib.hid HS18.out.bel
        clear HS18 HS17 HS16 HS15 HSR3 HSRC2
        go_wp2_with fail
        go_ret
        exact ⟨rfl, by first | exact HBZ.out | (rw [HG.out]; exact HBZ.out) | (rw [← HG.out]; exact HBZ.out)⟩
theorem modeLonger_row (A1 : Option Addr) (n1 c1 : Nat) (zs : List Int) (cut cure more : Int) (k : Kd) (w : World) (h1 : Ints w A1 n1 zs) (_ : -9223372036854775808 ≤ cut ∧ cut ≤ 9223372036854775807) (_ : -9223372036854775808 ≤ cure ∧ cure ≤ 9223372036854775807) (_ : -9223372036854775808 ≤ more ∧ more ≤ 9223372036854775807) (hk : k.In w) :
    Calls Try.prog 8 #[.slice A1 n1 c1, .int .i64 cut, .int .i64 cure, .int .i64 more, .agg k.cs] w fun e w' => e = .returned (.bool true) ∧ Below w.heap.size w w' :=
  modeLonger_walk A1 n1 c1 zs cut cure more k w h1 hk
end Go.Proofs.Yticddmmbphoioaa

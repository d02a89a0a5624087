import Derived.Test.YtllbpjaiplnbnaaLossRow
import Derived.Test.YtllbpjaiplnbnaaSegT
import Derived.Sort.BigQuietIn
namespace Go.Proofs.Ytllbpjaiplnbnaa
open Go.RowKit
set_option linter.unusedVariables false
set_option linter.unusedSimpArgs false
/-! ### The document's own sharing out -/
def ivs (l : List Int) : List Value := l.map fun x => .int .i64 x
theorem ivs_one (l : List Int) : ∀ u ∈ ivs l, u.oneCell' = true := by
  intro u hu
  obtain ⟨x, _, rfl⟩ := List.mem_map.1 hu
  rfl
theorem ivs_get {l : List Int} {k : Nat} (h : k < l.length) : (ivs l)[k]? = some (.int .i64 (l.getD k 0)) := by
  unfold ivs; rw [List.getElem?_map, List.getElem?_eq_getElem h, List.getD_eq_getElem?_getD, List.getElem?_eq_getElem h]; rfl
theorem int_info : (Try.prog.info? 3).map (fun i => (i.zero, i.size, i.bytes)) = some (some (.int .i64 0), 1, 8) := by kernel_rfl
/-- An own row of ints. -/
structure IRow (R : List Ent) (a : Option Addr) (n g : Nat) (l : List Int) : Prop where
  len : l.length = n
  row : 0 < n → ∃ cs, a = some ⟨g, 0, none⟩ ∧ R = [(g, cs, 3)] ∧ ∀ k, k < n → cs[k]? = some (.int .i64 (l.getD k 0))
theorem IRow.of {R : List Ent} {a : Option Addr} {n cap : Nat} {l : List Int} (h : Row R 3 1 a n cap (ivs l)) : ∃ g, IRow R a n g l := by
  have hl : l.length = n := by have := h.1; simpa [ivs] using this
  obtain ⟨_, h2, _, h4⟩ := h
  rcases h4 with ⟨_, _, hc⟩ | ⟨g, cur, ha, hR, hs, ht⟩
  · exact ⟨0, hl, fun h => by omega⟩
  · refine ⟨g, hl, fun _ => ⟨cur, ha, hR, fun k hk => ?_⟩⟩
    have h5 := ivs_get (l := l) (k := k) (by omega)
    rw [← ht, List.getElem?_take, if_pos (by omega)] at h5
    rw [← Array.getElem?_toList]; exact h5
theorem IRow.cell {w0 W : World} {A B R : List Ent} {a : Option Addr} {n g k : Nat} {l : List Int} (h : IRow R a n g l) (hS : Sts w0 (A ++ (R ++ B)) W) (hk : k < n) : a = some ⟨g, 0, none⟩ ∧ W.cell? ⟨g, k, none⟩ = some (.int .i64 (l.getD k 0)) ∧ W.frozen? ⟨g, k, none⟩ = false := by
  obtain ⟨cs, ha, rfl, hc⟩ := h.row (by omega)
  have hb := ((sts_iff.1 hS).1 (g, cs, 3) (by simp)).1
  exact ⟨ha, (hb.cell k).trans (hc k hk), hb.frozen k⟩
theorem IRow.set {w0 W : World} {A B R : List Ent} {a : Option Addr} {n g k : Nat} {l : List Int} (h : IRow R a n g l) (hS : Sts w0 (A ++ (R ++ B)) W) (hk : k < n) (v : Int) : ∃ R', IRow R' a n g (l.set k v) ∧ Sts w0 (A ++ (R' ++ B)) (W.setCell ⟨g, k, none⟩ (.int .i64 v)) := by
  obtain ⟨cs, ha, rfl, hc⟩ := h.row (by omega)
  have hkk : (A ++ ([(g, cs, 3)] ++ B))[A.length]? = some (g, cs, 3) := by simp
  refine ⟨[(g, cs.setIfInBounds k (.int .i64 v), 3)], ⟨by simp [h.len], fun _ => ⟨_, ha, rfl, fun j hj => ?_⟩⟩, (hS.set A.length k (.int .i64 v) hkk).lit (by simp)⟩
  by_cases hjk : j = k
  · subst hjk
    rw [setIf_self _ _ _ _ (hc j hj), getD_set_self _ _ _ (by rw [h.len]; exact hj)]
  · rw [setIf_get _ _ _ _ _ (hc j hj) (Ne.symm hjk), getD_set_other _ _ hjk]
theorem ints_src {W : World} {A : Option Addr} {n k : Nat} {l : List Int} (h : Src W A n 1 (ivs l)) (hl : l.length = n) (hk : k < n) : ∃ ad, A = some ad ∧ W.cell? (ad.add k) = some (.int .i64 (l.getD k 0)) := by
  obtain ⟨ad, e, hc⟩ := h.2 (by omega)
  exact ⟨ad, e, hc k _ (ivs_get (by omega))⟩
theorem take_sum {l : List Int} {k : Nat} (h : k < l.length) : (l.take (k + 1)).sum = (l.take k).sum + l.getD k 0 := by
  rw [List.take_add_one, List.getElem?_eq_getElem h, List.sum_append, List.getD_eq_getElem?_getD, List.getElem?_eq_getElem h]; simp
def idx (y : Option Nat) : Int := match y with | none => -1 | some j => (j : Int)
theorem wp_normal {P : Program} {c : Code} {Q : Exit → Act → World → Prop} {a : Act} {w : World} (h : Code.wp P c (Exit.then (fun a w => Q .normal a w) (fun _ _ _ => False)) a w) : Code.wp P c Q a w :=
  Code.wp_mono (fun e a w => by cases e <;> intro h <;> first | exact h | exact h.elim) h
theorem Src.sts {w W : World} {L : List Ent} {A : Option Addr} {n k : Nat} {xs : List Value} (h : Src w A n k xs) (hS : Sts w L W) : Src W A n k xs := h.below hS.bel
theorem Kin.le {n : Nat} {bs ds : List Int} {s : List Int × List Int} (hk : Kin n (bs, ds) s) (ho : Ok n s) (hbd : ∀ i, i < n → bs.getD i 0 + ds.getD i 0 ≤ 900) : ∀ i, i < n → 0 ≤ s.1.getD i 0 ∧ s.1.getD i 0 ≤ 900 ∧ 0 ≤ s.2.getD i 0 ∧ s.2.getD i 0 ≤ 900 := by
  intro i hi
  have h1 := hk.sum i hi; have h2 := ho.p1 i hi; have h3 := ho.p2 i hi; have h4 := hbd i hi
  simp only at h1
  omega
theorem sum_le_900 : ∀ (l : List Int) (n : Nat), l.length = n → (∀ i, i < n → l.getD i 0 ≤ 900) → l.sum ≤ 900 * n := by
  intro l
  induction l with
  | nil => intro n h _; simp at h; subst h; simp
  | cons x l ih =>
    intro n h h2
    cases n with
    | zero => simp at h
    | succ n =>
      have h3 := ih n (by simpa using h) (fun i hi => by have := h2 (i + 1) (by omega); simpa using this)
      have h4 := h2 0 (by omega)
      simp only [List.getD_cons_zero] at h4
      rw [List.sum_cons]; push_cast; omega
attribute [local go_sem] bmax2 bmin2 bmax_two bmin_two bmax_three bmin_three
set_option maxHeartbeats 16000000 in
set_option maxRecDepth 1000000 in
theorem refAllot_calls (T : Int) (aR aB aD : Option Addr) (n cR cB cD : Nat) (rs bs ds : List Int) (w : World) (hr : Src w aR n 1 (ivs rs)) (hb : Src w aB n 1 (ivs bs)) (hd : Src w aD n 1 (ivs ds)) (hn : n ≤ 6) (hrl : rs.length = n) (ho : Ok n (bs, ds)) (hbd : ∀ i, i < n → bs.getD i 0 + ds.getD i 0 ≤ 900) (hrb : ∀ i, i < n → 0 ≤ rs.getD i 0 ∧ rs.getD i 0 ≤ 1000) (T0 : 0 ≤ T) (T1 : T ≤ 10000) :
    Calls Try.prog 30 #[.slice aR n cR, .slice aB n cB, .slice aD n cD, .int .i64 T] w fun e w' => ∃ (s' : List Int × List Int) (Rb Rd : List Ent) (ab ad : Option Addr) (cb cd gb gd : Nat), e = .returned (.tuple #[.slice ab n cb, .slice ad n cd]) ∧ Shared T rs n (bs, ds) s' ∧ IRow Rb ab n gb s'.1 ∧ IRow Rd ad n gd s'.2 ∧ Sts w (Rd ++ (Rb ++ [])) w' := by
  obtain ⟨i0, hi, hz, hs1, hs2⟩ := info_parts int_info
  have HR := Lib.hid hr; have HB := Lib.hid hb; have HD := Lib.hid hd
  have HO := Lib.hid ho; have HBD := Lib.hid hbd; have HRB := Lib.hid hrb; have HRL := Lib.hid hrl
  have HE1 := Lib.hid (Sts.ins (g := w.heap.size) [] [] (Sts.nil w) rfl #[] 3)
  clear hr hb hd ho hbd hrb hrl
  go_enter Try.func30, Try.ntmps30
  go_upto_region 2 with (first
    | (at_builtin; refine row_append rfl (.tmp 21) (.tmp 22) 45 rfl [] [] Try.underlying45 hi hz hs1 hs2 rfl (by omega) (emptyRow w.heap.size 3 1) HE1.out rfl rfl (HB.out.alloc _) (ivs_one bs) (by omega) (by omega) ?_; rintro Rb ab cb w2 hRb' hSb'; have hRb := Lib.hid hRb'; have HS2 := Lib.hid hSb'; have HE2 := Lib.hid (Sts.ins (g := w2.heap.size) [] (Rb ++ []) hSb' rfl #[] 3); clear hRb' hSb' HE1)
    | (at_builtin; refine row_append rfl (.tmp 24) (.tmp 25) 45 rfl [] (Rb ++ []) Try.underlying45 hi hz hs1 hs2 rfl (by omega) (emptyRow w2.heap.size 3 1) HE2.out rfl rfl ((HD.out.below HS2.out.bel).alloc _) (ivs_one ds) (by omega) (by omega) ?_; rintro Rd ad cd w3 hRd' hSd'; have hRd := Lib.hid hRd'; have HS3 := Lib.hid hSd'; clear hRd' hSd' HE2))
  have hRb2 : Row Rb 3 1 ab n cb (ivs bs) := by have := hRb.out; simpa using this
  have hRd2 : Row Rd 3 1 ad n cd (ivs ds) := by have := hRd.out; simpa using this
  obtain ⟨gb, hIb⟩ := IRow.of hRb2
  obtain ⟨gd, hId⟩ := IRow.of hRd2
  have HIB := Lib.hid hIb; have HID := Lib.hid hId
  have HS := Lib.hid (show Sts w (Rd ++ (Rb ++ [])) w3 from HS3.out)
  clear hRb hRd hRb2 hRd2 hIb hId HS2 HS3 HB HD hi hz hs1 hs2
  go_upto_block 0 with fail
  go_cut [12, 14] from 29 to 36 (fun v12 v14 wc => ∃ hv : Int, v12 = .int .i64 hv ∧ 0 ≤ hv ∧ hv ≤ 5400 ∧ Hid (hv = ds.sum) ∧ Hid (Sts w (Rd ++ (Rb ++ [])) wc))
  case first =>
    go_wp2_with fail
    go_loopw [12, 29] (fun v12 v29 wr => ∃ (k : Nat) (hv : Int), k ≤ n ∧ v12 = .int .i64 hv ∧ v29 = .int .i64 k ∧ 0 ≤ hv ∧ hv ≤ 900 * k ∧ Hid (hv = (ds.take k).sum) ∧ Hid (Sts w (Rd ++ (Rb ++ [])) wr)) (fun _ v29 _ => n - (intOf v29).toNat)
    case atStart => exact ⟨0, 0, by omega, rfl, rfl, by omega, by omega, Lib.hid (by simp), HS⟩
    case round =>
      obtain ⟨k, hv, hk, rfl, rfl, h0, h1, HV, HSr⟩ := hrel
      clear HS
      by_cases hlt : k < n
      · obtain ⟨ha, hc, _⟩ := HID.out.cell (A := []) (HSr.out.lit rfl) hlt
        have hsum := take_sum (l := ds) (k := k) (by have := HO.out.l2; simp only at this; omega)
        have p2 := HO.out.p2 k hlt
        have p1 := HO.out.p1 k hlt
        have q := HBD.out k hlt
        simp only at p1 p2
        subst ha
        have HV2 := Lib.hid (show hv + ds.getD k 0 = (ds.take (k + 1)).sum from by rw [hsum, HV.out])
        obtain ⟨x, hx⟩ : ∃ x, ds.getD k 0 = x := ⟨_, rfl⟩
        rw [hx] at hc p2 q HV2
        have x0 : 0 ≤ x := p2
        have x1 : x ≤ 900 := by omega
        have i1 : (0 : Int) ≤ (k : Int) := by omega
        have i2 : (k : Int) < (n : Int) := by omega
        clear hsum p1 p2 q hx
        go_wp2_with fail
        go_roundw
        case rel => exact ⟨k + 1, hv + x, by omega, by go_num, by go_num, by omega, by push_cast; omega, HV2, HSr⟩
        case measure => simp [intOf]; omega
      · obtain rfl : k = n := by omega
        rw [List.take_of_length_le (by have := HO.out.l2; simp only at this; omega)] at HV
        go_wp2_with fail
        go_meet
        exact ⟨hv, rfl, h0, by omega, HV, HSr⟩
  case rest =>
    obtain ⟨hv, rfl, h0, h1, HV, HS2⟩ := hcut
    clear HS
    have HO0 := HO
    go_upto_block 2 with fail
    go_cut [12] from 37 to 97 (fun v12 wr => ∃ (s : List Int × List Int) (R1 R2 : List Ent) (D : Int), v12 = .int .i64 D ∧ 0 ≤ D ∧ D ≤ 5400 ∧ Hid (D = s.2.sum) ∧ Hid (Ok n s) ∧ Hid (Kin n (bs, ds) s) ∧ Hid (IRow R1 ab n gb s.1) ∧ Hid (IRow R2 ad n gd s.2) ∧ Hid (Sts w (R2 ++ (R1 ++ [])) wr) ∧ Hid (∀ s' b, Dn T rs n s s' b → Shared T rs n (bs, ds) s'))
    case first =>
      go_wp2_with fail
      go_loopw [12] (fun v12 wr => ∃ (s : List Int × List Int) (R1 R2 : List Ent) (D : Int), v12 = .int .i64 D ∧ 0 ≤ D ∧ D ≤ 5400 ∧ Hid (D = s.2.sum) ∧ Hid (Ok n s) ∧ Hid (Kin n (bs, ds) s) ∧ Hid (IRow R1 ab n gb s.1) ∧ Hid (IRow R2 ad n gd s.2) ∧ Hid (Sts w (R2 ++ (R1 ++ [])) wr) ∧ Hid (∀ s' b, Up T rs n s s' b → Up T rs n (bs, ds) s' b)) (fun v12 _ => (T - intOf v12).toNat)
      case atStart => exact ⟨(bs, ds), Rb, Rd, hv, rfl, h0, h1, HV, HO, Lib.hid (Kin.refl HO.out.l1 HO.out.l2), HIB, HID, HS2, Lib.hid (fun _ _ h => h)⟩
      case round =>
        obtain ⟨s, R1, R2, D, rfl, D0, D1, HD, HOs, HK, HI1, HI2, HSr, HU⟩ := hrel
        clear HS2 HIB HID HV
        by_cases q5 : D < T
        · skip
          go_upto_block 4 with fail
          go_cut [15] from 42 to 66 (fun vat wi => ∃ y : Option Nat, vat = .int .i64 (idx y) ∧ Hid (jun rs s.1 n = y) ∧ Hid (Sts w (R2 ++ (R1 ++ [])) wi))
          case first =>
            go_wp2_with fail
            go_loopw [15, 42] (fun vat vk wi => ∃ (k : Nat) (y : Option Nat), k ≤ n ∧ vat = .int .i64 (idx y) ∧ vk = .int .i64 k ∧ Hid (jun rs s.1 k = y) ∧ Hid (Sts w (R2 ++ (R1 ++ [])) wi)) (fun _ vk _ => n - (intOf vk).toNat)
            case atStart => exact ⟨0, none, by omega, rfl, rfl, Lib.hid rfl, HSr⟩
            case round =>
              obtain ⟨k, y, hk, rfl, rfl, HJ, HSi⟩ := hrel
              by_cases hlt : k < n
              · obtain ⟨ha, hc, _⟩ := HI1.out.cell (A := R2) HSi.out hlt
                obtain ⟨aR1, har, hrc⟩ := ints_src (HR.out.sts HSi.out) HRL.out hlt
                have hxb := Kin.le HK.out HOs.out HBD.out k hlt
                have hrk := HRB.out k hlt
                subst ha
                obtain ⟨x, hx⟩ : ∃ x, s.1.getD k 0 = x := ⟨_, rfl⟩
                have HX := Lib.hid hx
                rw [hx] at hc
                have x0 : 0 ≤ x := by omega
                have x1 : x ≤ 900 := by omega
                obtain ⟨r, hr⟩ : ∃ r, rs.getD k 0 = r := ⟨_, rfl⟩
                have HRK := Lib.hid hr
                rw [hr] at hrc hrk
                have i1 : (0 : Int) ≤ (k : Int) := by omega
                have i2 : (k : Int) < (n : Int) := by omega
                have i3 : k ≤ 6 := by omega
                clear hx hr hxb
                by_cases q1 : 0 < x
                · cases y with
                  | none =>
                    simp only [idx] at *
                    go_wp2_with fail
                    go_quiet (fail)
                    go_wp2_with fail
                    go_roundw
                    case rel => exact ⟨k + 1, some k, by omega, rfl, by go_num, Lib.hid (jun_first HJ.out (by rw [HX.out]; exact q1)), Lib.hid (HSi.out.drewN _)⟩
                    case measure => simp [intOf]; omega
                  | some j =>
                    obtain ⟨j1, _, _⟩ := jun_some _ _ _ _ HJ.out
                    obtain ⟨aR2, har2, hrj⟩ := ints_src (k := j) (HR.out.sts HSi.out) HRL.out (by omega)
                    rw [har] at har2
                    obtain rfl := Option.some.inj har2
                    obtain ⟨r', hr'⟩ : ∃ r, rs.getD j 0 = r := ⟨_, rfl⟩
                    have HRJ := Lib.hid hr'
                    have hrkj := HRB.out j (by omega)
                    rw [hr'] at hrj hrkj
                    have j2 : (0 : Int) ≤ (j : Int) := by omega
                    have j3 : (j : Int) < (n : Int) := by omega
                    have j4 : ¬ (j : Int) < 0 := by omega
                    clear hr' har2
                    simp only [idx] at *
                    subst har
                    by_cases q2 : r' ≤ r
                    · skip
                      go_wp2_with fail
                      go_quiet (fail)
                      go_wp2_with fail
                      go_roundw
                      case rel => exact ⟨k + 1, some k, by omega, rfl, by go_num, Lib.hid (jun_next HJ.out (by rw [HX.out]; exact q1) (by rw [HRJ.out, HRK.out]; exact q2)), Lib.hid (HSi.out.drewN _)⟩
                      case measure => simp [intOf]; omega
                    · skip
                      go_wp2_with fail
                      go_quiet (fail)
                      go_wp2_with fail
                      go_roundw
                      case rel => exact ⟨k + 1, some j, by omega, rfl, by go_num, Lib.hid (jun_stay HJ.out (by rw [HRJ.out, HRK.out]; omega)), Lib.hid (HSi.out.drewN _)⟩
                      case measure => simp [intOf]; omega
                · skip
                  obtain rfl : x = 0 := by omega
                  subst har
                  cases y with
                  | none =>
                    simp only [idx] at *
                    go_wp2_with fail
                    go_quiet (fail)
                    go_wp2_with fail
                    go_roundw
                    case rel => exact ⟨k + 1, none, by omega, rfl, by go_num, Lib.hid (jun_keep HJ.out (by rw [HX.out]; omega)), Lib.hid (HSi.out.drewN _)⟩
                    case measure => simp [intOf]; omega
                  | some j =>
                    simp only [idx] at *
                    go_wp2_with fail
                    go_quiet (fail)
                    go_wp2_with fail
                    go_roundw
                    case rel => exact ⟨k + 1, some j, by omega, rfl, by go_num, Lib.hid (jun_keep HJ.out (by rw [HX.out]; omega)), Lib.hid (HSi.out.drewN _)⟩
                    case measure => simp [intOf]; omega
              · obtain rfl : k = n := by omega
                go_wp2_with fail
                go_meet
                exact ⟨y, rfl, HJ, HSi⟩
          case rest =>
            obtain ⟨y, rfl, HJ, HSi⟩ := hcut
            clear HSr
            cases y with
            | none =>
              simp only [idx] at *
              go_wp2_with fail
              go_meet
              exact ⟨s, R1, R2, D, rfl, D0, D1, HD, HOs, HK, HI1, HI2, HSi, Lib.hid fun s' b h => by
                have hl : s.2.sum < T := by rw [← HD.out]; exact q5
                have := Dn.low h (by omega)
                subst this
                exact Or.inl (HU.out _ _ (Up.dry _ hl HJ.out))⟩
            | some j =>
              obtain ⟨j1, j2', _⟩ := jun_some _ _ _ _ HJ.out
              obtain ⟨ha, hc, hf⟩ := HI1.out.cell (A := R2) HSi.out j1
              obtain ⟨hd, hcd, hfd⟩ := HI2.out.cell (A := []) (HSi.out.lit rfl) j1
              have hxb := Kin.le HK.out HOs.out HBD.out j j1
              subst ha hd
              obtain ⟨x, hx⟩ : ∃ x, s.1.getD j 0 = x := ⟨_, rfl⟩
              have HX := Lib.hid hx
              obtain ⟨z, hz⟩ : ∃ z, s.2.getD j 0 = z := ⟨_, rfl⟩
              have HZ := Lib.hid hz
              rw [hx] at hc j2' hxb
              rw [hz] at hcd hxb
              have x0 : 0 < x := j2'
              have x1 : x ≤ 900 := by omega
              have z0 : 0 ≤ z := by omega
              have z1 : z ≤ 900 := by omega
              have j2 : (0 : Int) ≤ (j : Int) := by omega
              have j3 : (j : Int) < (n : Int) := by omega
              have j4 : ¬ (j : Int) < 0 := by omega
              have j5 : j ≤ 6 := by omega
              clear hx hz hxb j2'
              simp only [idx] at *
              go_upto_region 18 with fail
              obtain ⟨v, hv0⟩ : ∃ v, v = min x (T - D) := ⟨_, rfl⟩
              have v0 : 1 ≤ v := by omega
              have v1 : v ≤ T - D := by omega
              have v2 : v ≤ x := by omega
              have HVV := Lib.hid hv0
              simp only [← hv0]
              clear hv0
              have HSI : ∀ u : Int, ∃ R', IRow R' (some ⟨gb, 0, none⟩) n gb (s.1.set j u) ∧ Sts w (R2 ++ (R' ++ [])) (wc.setCell ⟨gb, j, none⟩ (.int .i64 u)) := fun u => HI1.out.set (A := R2) HSi.out j1 u
              have HSD : ∀ u : Int, ∃ R', IRow R' (some ⟨gd, 0, none⟩) n gd (s.2.set j u) ∧ Sts w ([] ++ (R' ++ (R1 ++ []))) (wc.setCell ⟨gd, j, none⟩ (.int .i64 u)) := fun u => HI2.out.set (A := []) (HSi.out.lit rfl) j1 u
              have e1 : ∀ u : Int, (wc.setCell ⟨gb, j, none⟩ (.int .i64 u)).cell? ⟨gd, j, none⟩ = some (.int .i64 z) := by
                intro u; obtain ⟨R', _, h⟩ := HSI u
                have := (HI2.out.cell (A := []) (h.lit rfl) j1).2.1
                rw [HZ.out] at this; exact this
              have e2 : ∀ u : Int, (wc.setCell ⟨gb, j, none⟩ (.int .i64 u)).frozen? ⟨gd, j, none⟩ = false := by
                intro u; obtain ⟨R', _, h⟩ := HSI u
                exact (HI2.out.cell (A := []) (h.lit rfl) j1).2.2
              have e3 : ∀ u : Int, (wc.setCell ⟨gd, j, none⟩ (.int .i64 u)).cell? ⟨gb, j, none⟩ = some (.int .i64 x) := by
                intro u; obtain ⟨R', _, h⟩ := HSD u
                have := (HI1.out.cell (A := R') (h.lit rfl) j1).2.1
                rw [HX.out] at this; exact this
              have e4 : ∀ u : Int, (wc.setCell ⟨gd, j, none⟩ (.int .i64 u)).frozen? ⟨gb, j, none⟩ = false := by
                intro u; obtain ⟨R', _, h⟩ := HSD u
                exact (HI1.out.cell (A := R') (h.lit rfl) j1).2.2
              have em : mv j v s = (s.1.set j (x - v), s.2.set j (z + v)) := by unfold mv; rw [HX.out, HZ.out]
              have hOn : Ok n (mv j v s) := HOs.out.mv j1 (by rw [HX.out]; omega) (by rw [HZ.out]; omega)
              have hKn : Kin n (bs, ds) (mv j v s) := HK.out.trans (HOs.out.kin_mv j1)
              have hsn : (mv j v s).2.sum = s.2.sum + v := mv_sum (by rw [HOs.out.l2]; exact j1)
              have hle : (mv j v s).2.sum ≤ 900 * n := sum_le_900 _ n hOn.l2 (fun i hi => (Kin.le hKn hOn HBD.out i hi).2.2.2)
              rw [hsn, ← HD.out] at hle
              have Dv : D + v ≤ 5400 := by omega
              have hUn : ∀ s' b, Up T rs n (mv j v s) s' b → Up T rs n (bs, ds) s' b := by
                intro s' b h
                refine HU.out _ _ (Up.step _ _ _ _ (by rw [← HD.out]; exact q5) HJ.out ?_)
                rw [HX.out, ← HD.out, ← HVV.out]; exact h
              have hDn : D + v = (mv j v s).2.sum := by rw [hsn, HD.out]
              rw [em] at hOn hKn hUn hDn
              have HOn := Lib.hid hOn; have HKn := Lib.hid hKn; have HUn := Lib.hid hUn; have HDn := Lib.hid hDn
              obtain ⟨R1a, hI1a, hSa1⟩ := HSI (x - v)
              obtain ⟨R2a, hI2a, hSa2⟩ := HI2.out.set (A := []) (hSa1.lit rfl) j1 (z + v)
              obtain ⟨R2b, hI2b, hSb1⟩ := HSD (z + v)
              obtain ⟨R1b, hI1b, hSb2⟩ := HI1.out.set (A := R2b) (hSb1.lit rfl) j1 (x - v)
              have HI1a := Lib.hid hI1a; have HI2a := Lib.hid hI2a; have HI1b := Lib.hid hI1b; have HI2b := Lib.hid hI2b
              have HSa := Lib.hid hSa2; have HSb := Lib.hid hSb2
              have w1 : IntKind.i64.wrap (x - v) = x - v := IntWalk.i64_in _ (by omega)
              have w2' : IntKind.i64.wrap (z + v) = z + v := IntWalk.i64_in _ (by omega)
              have w3' : IntKind.i64.wrap (D + v) = D + v := IntWalk.i64_in _ (by omega)
              clear HSI HSD em hOn hKn hsn hle hUn hDn hI1a hI2a hI1b hI2b hSa1 hSa2 hSb1 hSb2
              refine wp_normal ?_
              go_region_law (fail)
              all_goals
                go_wp2_with fail
                go_roundw
                case rel => exact ⟨by omega, _, _, HDn, HOn, HKn, R1a, HI1a, R2a, HI2a, Lib.hid ((HSa.out.drew).lit (by simp)), by have h := HUn.out; first | exact Lib.hid (fun a b => h (a, b)) | exact Lib.hid (fun a b c => h (a, b) c) | (unfold Hid; simpa using h)⟩
                case measure => simp [intOf]; omega
        · go_wp2_with fail
          go_meet
          refine ⟨s, R1, R2, D, rfl, D0, D1, HD, HOs, HK, HI1, HI2, HSr, Lib.hid fun s' b h => Or.inr ⟨s, b, HU.out _ _ (Up.stop s (by rw [← HD.out]; omega)), h⟩⟩
    case rest =>
      obtain ⟨sm, R1m, R2m, Dm, rfl, Dm0, Dm1, HDm, HOm, HKm, HI1m, HI2m, HSm, HUm⟩ := hcut
      clear HS2 HIB HID HV
      go_upto_block 6 with fail
      go_cut [12] from 98 to 158 (fun v12 wr => ∃ (s : List Int × List Int) (R1 R2 : List Ent) (D : Int), v12 = .int .i64 D ∧ 0 ≤ D ∧ D ≤ 5400 ∧ Hid (D = s.2.sum) ∧ Hid (Ok n s) ∧ Hid (Kin n (bs, ds) s) ∧ Hid (IRow R1 ab n gb s.1) ∧ Hid (IRow R2 ad n gd s.2) ∧ Hid (Sts w (R2 ++ (R1 ++ [])) wr) ∧ Hid (Shared T rs n (bs, ds) s))
      case first =>
        go_wp2_with fail
        go_loopw [12] (fun v12 wr => ∃ (s : List Int × List Int) (R1 R2 : List Ent) (D : Int), v12 = .int .i64 D ∧ 0 ≤ D ∧ D ≤ 5400 ∧ Hid (D = s.2.sum) ∧ Hid (Ok n s) ∧ Hid (Kin n (bs, ds) s) ∧ Hid (IRow R1 ab n gb s.1) ∧ Hid (IRow R2 ad n gd s.2) ∧ Hid (Sts w (R2 ++ (R1 ++ [])) wr) ∧ Hid (∀ s' b, Dn T rs n s s' b → Shared T rs n (bs, ds) s')) (fun v12 _ => (intOf v12 - T).toNat)
        case atStart => exact ⟨sm, R1m, R2m, Dm, rfl, Dm0, Dm1, HDm, HOm, HKm, HI1m, HI2m, HSm, HUm⟩
        case round =>
          obtain ⟨s, R1, R2, D, rfl, D0, D1, HD, HOs, HK, HI1, HI2, HSr, HU⟩ := hrel
          clear HSm HI1m HI2m HDm HUm HOm HKm Dm0 Dm1
          by_cases q5 : T < D
          · skip
            go_upto_block 8 with fail
            go_cut [18] from 103 to 127 (fun vat wi => ∃ y : Option Nat, vat = .int .i64 (idx y) ∧ Hid (sen rs s.2 n = y) ∧ Hid (Sts w (R2 ++ (R1 ++ [])) wi))
            case first =>
              go_wp2_with fail
              go_loopw [18, 103] (fun vat vk wi => ∃ (k : Nat) (y : Option Nat), k ≤ n ∧ vat = .int .i64 (idx y) ∧ vk = .int .i64 k ∧ Hid (sen rs s.2 k = y) ∧ Hid (Sts w (R2 ++ (R1 ++ [])) wi)) (fun _ vk _ => n - (intOf vk).toNat)
              case atStart => exact ⟨0, none, by omega, rfl, rfl, Lib.hid rfl, HSr⟩
              case round =>
                obtain ⟨k, y, hk, rfl, rfl, HJ, HSi⟩ := hrel
                by_cases hlt : k < n
                · obtain ⟨ha, hc, _⟩ := HI2.out.cell (A := []) (HSi.out.lit rfl) hlt
                  obtain ⟨aR1, har, hrc⟩ := ints_src (HR.out.sts HSi.out) HRL.out hlt
                  have hxb := Kin.le HK.out HOs.out HBD.out k hlt
                  have hrk := HRB.out k hlt
                  subst ha
                  obtain ⟨x, hx⟩ : ∃ x, s.2.getD k 0 = x := ⟨_, rfl⟩
                  have HX := Lib.hid hx
                  rw [hx] at hc
                  have x0 : 0 ≤ x := by omega
                  have x1 : x ≤ 900 := by omega
                  obtain ⟨r, hr⟩ : ∃ r, rs.getD k 0 = r := ⟨_, rfl⟩
                  have HRK := Lib.hid hr
                  rw [hr] at hrc hrk
                  have i1 : (0 : Int) ≤ (k : Int) := by omega
                  have i2 : (k : Int) < (n : Int) := by omega
                  have i3 : k ≤ 6 := by omega
                  clear hx hr hxb
                  by_cases q1 : 0 < x
                  · cases y with
                    | none =>
                      simp only [idx] at *
                      go_wp2_with fail
                      go_quiet (fail)
                      go_wp2_with fail
                      go_roundw
                      case rel => exact ⟨k + 1, some k, by omega, rfl, by go_num, Lib.hid (sen_first HJ.out (by rw [HX.out]; exact q1)), Lib.hid (HSi.out.drewN _)⟩
                      case measure => simp [intOf]; omega
                    | some j =>
                      obtain ⟨j1, _, _⟩ := sen_some _ _ _ _ HJ.out
                      obtain ⟨aR2, har2, hrj⟩ := ints_src (k := j) (HR.out.sts HSi.out) HRL.out (by omega)
                      rw [har] at har2
                      obtain rfl := Option.some.inj har2
                      obtain ⟨r', hr'⟩ : ∃ r, rs.getD j 0 = r := ⟨_, rfl⟩
                      have HRJ := Lib.hid hr'
                      have hrkj := HRB.out j (by omega)
                      rw [hr'] at hrj hrkj
                      have j2 : (0 : Int) ≤ (j : Int) := by omega
                      have j3 : (j : Int) < (n : Int) := by omega
                      have j4 : ¬ (j : Int) < 0 := by omega
                      clear hr' har2
                      simp only [idx] at *
                      subst har
                      by_cases q2 : r < r'
                      · skip
                        go_wp2_with fail
                        go_quiet (fail)
                        go_wp2_with fail
                        go_roundw
                        case rel => exact ⟨k + 1, some k, by omega, rfl, by go_num, Lib.hid (sen_next HJ.out (by rw [HX.out]; exact q1) (by rw [HRJ.out, HRK.out]; exact q2)), Lib.hid (HSi.out.drewN _)⟩
                        case measure => simp [intOf]; omega
                      · skip
                        go_wp2_with fail
                        go_quiet (fail)
                        go_wp2_with fail
                        go_roundw
                        case rel => exact ⟨k + 1, some j, by omega, rfl, by go_num, Lib.hid (sen_stay HJ.out (by rw [HRJ.out, HRK.out]; omega)), Lib.hid (HSi.out.drewN _)⟩
                        case measure => simp [intOf]; omega
                  · skip
                    obtain rfl : x = 0 := by omega
                    subst har
                    cases y with
                    | none =>
                      simp only [idx] at *
                      go_wp2_with fail
                      go_quiet (fail)
                      go_wp2_with fail
                      go_roundw
                      case rel => exact ⟨k + 1, none, by omega, rfl, by go_num, Lib.hid (sen_keep HJ.out (by rw [HX.out]; omega)), Lib.hid (HSi.out.drewN _)⟩
                      case measure => simp [intOf]; omega
                    | some j =>
                      simp only [idx] at *
                      go_wp2_with fail
                      go_quiet (fail)
                      go_wp2_with fail
                      go_roundw
                      case rel => exact ⟨k + 1, some j, by omega, rfl, by go_num, Lib.hid (sen_keep HJ.out (by rw [HX.out]; omega)), Lib.hid (HSi.out.drewN _)⟩
                      case measure => simp [intOf]; omega
                · obtain rfl : k = n := by omega
                  go_wp2_with fail
                  go_meet
                  exact ⟨y, rfl, HJ, HSi⟩
            case rest =>
              obtain ⟨y, rfl, HJ, HSi⟩ := hcut
              clear HSr
              cases y with
              | none =>
                simp only [idx] at *
                go_wp2_with fail
                go_meet
                exact ⟨s, R1, R2, D, rfl, D0, D1, HD, HOs, HK, HI1, HI2, HSi, Lib.hid (HU.out _ _ (Dn.dry _ (by rw [← HD.out]; exact q5) HJ.out))⟩
              | some j =>
                obtain ⟨j1, j2', _⟩ := sen_some _ _ _ _ HJ.out
                obtain ⟨ha, hc, hf⟩ := HI1.out.cell (A := R2) HSi.out j1
                obtain ⟨hd, hcd, hfd⟩ := HI2.out.cell (A := []) (HSi.out.lit rfl) j1
                have hxb := Kin.le HK.out HOs.out HBD.out j j1
                subst ha hd
                obtain ⟨x, hx⟩ : ∃ x, s.1.getD j 0 = x := ⟨_, rfl⟩
                have HX := Lib.hid hx
                obtain ⟨z, hz⟩ : ∃ z, s.2.getD j 0 = z := ⟨_, rfl⟩
                have HZ := Lib.hid hz
                rw [hx] at hc hxb
                rw [hz] at hcd j2' hxb
                have x0 : 0 ≤ x := by omega
                have x1 : x ≤ 900 := by omega
                have z0 : 0 < z := j2'
                have z1 : z ≤ 900 := by omega
                have j2 : (0 : Int) ≤ (j : Int) := by omega
                have j3 : (j : Int) < (n : Int) := by omega
                have j4 : ¬ (j : Int) < 0 := by omega
                have j5 : j ≤ 6 := by omega
                clear hx hz hxb j2'
                simp only [idx] at *
                go_upto_region 29 with fail
                obtain ⟨v, hv0⟩ : ∃ v, v = min z (D - T) := ⟨_, rfl⟩
                have v0 : 1 ≤ v := by omega
                have v1 : v ≤ D - T := by omega
                have v2 : v ≤ z := by omega
                have HVV := Lib.hid hv0
                simp only [← hv0]
                clear hv0
                have HSI : ∀ u : Int, ∃ R', IRow R' (some ⟨gb, 0, none⟩) n gb (s.1.set j u) ∧ Sts w (R2 ++ (R' ++ [])) (wc.setCell ⟨gb, j, none⟩ (.int .i64 u)) := fun u => HI1.out.set (A := R2) HSi.out j1 u
                have HSD : ∀ u : Int, ∃ R', IRow R' (some ⟨gd, 0, none⟩) n gd (s.2.set j u) ∧ Sts w ([] ++ (R' ++ (R1 ++ []))) (wc.setCell ⟨gd, j, none⟩ (.int .i64 u)) := fun u => HI2.out.set (A := []) (HSi.out.lit rfl) j1 u
                have e1 : ∀ u : Int, (wc.setCell ⟨gb, j, none⟩ (.int .i64 u)).cell? ⟨gd, j, none⟩ = some (.int .i64 z) := by
                  intro u; obtain ⟨R', _, h⟩ := HSI u
                  have := (HI2.out.cell (A := []) (h.lit rfl) j1).2.1
                  rw [HZ.out] at this; exact this
                have e2 : ∀ u : Int, (wc.setCell ⟨gb, j, none⟩ (.int .i64 u)).frozen? ⟨gd, j, none⟩ = false := by
                  intro u; obtain ⟨R', _, h⟩ := HSI u
                  exact (HI2.out.cell (A := []) (h.lit rfl) j1).2.2
                have e3 : ∀ u : Int, (wc.setCell ⟨gd, j, none⟩ (.int .i64 u)).cell? ⟨gb, j, none⟩ = some (.int .i64 x) := by
                  intro u; obtain ⟨R', _, h⟩ := HSD u
                  have := (HI1.out.cell (A := R') (h.lit rfl) j1).2.1
                  rw [HX.out] at this; exact this
                have e4 : ∀ u : Int, (wc.setCell ⟨gd, j, none⟩ (.int .i64 u)).frozen? ⟨gb, j, none⟩ = false := by
                  intro u; obtain ⟨R', _, h⟩ := HSD u
                  exact (HI1.out.cell (A := R') (h.lit rfl) j1).2.2
                have em : mv j (-v) s = (s.1.set j (x + v), s.2.set j (z - v)) := by
                  unfold mv; rw [HX.out, HZ.out]
                  have a1 : x - -v = x + v := by omega
                  have a2 : z + -v = z - v := by omega
                  rw [a1, a2]
                have hOn : Ok n (mv j (-v) s) := HOs.out.mv j1 (by rw [HX.out]; omega) (by rw [HZ.out]; omega)
                have hKn : Kin n (bs, ds) (mv j (-v) s) := HK.out.trans (HOs.out.kin_mv j1)
                have hsn : (mv j (-v) s).2.sum = s.2.sum + -v := mv_sum (by rw [HOs.out.l2]; exact j1)
                have Dv : D - v ≤ 5400 := by omega
                have Dv0 : 0 ≤ D - v := by omega
                have hUn : ∀ s' b, Dn T rs n (mv j (-v) s) s' b → Shared T rs n (bs, ds) s' := by
                  intro s' b h
                  refine HU.out _ _ (Dn.step _ _ b _ (by rw [← HD.out]; exact q5) HJ.out ?_)
                  rw [HZ.out, ← HD.out, ← HVV.out]; exact h
                have hDn : D - v = (mv j (-v) s).2.sum := by rw [hsn, HD.out]; omega
                rw [em] at hOn hKn hUn hDn
                have HOn := Lib.hid hOn; have HKn := Lib.hid hKn; have HUn := Lib.hid hUn; have HDn := Lib.hid hDn
                obtain ⟨R1a, hI1a, hSa1⟩ := HSI (x + v)
                obtain ⟨R2a, hI2a, hSa2⟩ := HI2.out.set (A := []) (hSa1.lit rfl) j1 (z - v)
                obtain ⟨R2b, hI2b, hSb1⟩ := HSD (z - v)
                obtain ⟨R1b, hI1b, hSb2⟩ := HI1.out.set (A := R2b) (hSb1.lit rfl) j1 (x + v)
                have HI1a := Lib.hid hI1a; have HI2a := Lib.hid hI2a; have HI1b := Lib.hid hI1b; have HI2b := Lib.hid hI2b
                have HSa := Lib.hid hSa2; have HSb := Lib.hid hSb2
                have w1 : IntKind.i64.wrap (x + v) = x + v := IntWalk.i64_in _ (by omega)
                have w2' : IntKind.i64.wrap (z - v) = z - v := IntWalk.i64_in _ (by omega)
                have w3' : IntKind.i64.wrap (D - v) = D - v := IntWalk.i64_in _ (by omega)
                clear HSI HSD em hOn hKn hsn hUn hDn hI1a hI2a hI1b hI2b hSa1 hSa2 hSb1 hSb2
                refine wp_normal ?_
                go_region_law (fail)
                all_goals
                  go_wp2_with fail
                  go_roundw
                  case rel => exact ⟨by omega, _, _, HDn, HOn, HKn, R1a, HI1a, R2a, HI2a, Lib.hid ((HSa.out.drew).lit (by simp)), by have h := HUn.out; first | exact Lib.hid (fun a b => h (a, b)) | exact Lib.hid (fun a b c => h (a, b) c) | (unfold Hid; simpa using h)⟩
                  case measure => simp [intOf]; omega
          · go_wp2_with fail
            go_meet
            exact ⟨s, R1, R2, D, rfl, D0, D1, HD, HOs, HK, HI1, HI2, HSr, Lib.hid (HU.out _ _ (Dn.stop s (by rw [← HD.out]; omega)))⟩
      case rest =>
        obtain ⟨s, R1, R2, D, rfl, D0, D1, HD, HOs, HK, HI1, HI2, HSr, HU⟩ := hcut
        clear HSm HI1m HI2m HDm HUm HOm HKm
        go_wp2_with fail
        refine bodyPost_ret (results_tmp2 rfl _ _ _) rfl ?_
        exact ⟨s, R1, R2, ab, ad, cb, cd, gb, gd, rfl, HU.out, HI1.out, HI2.out, HSr.out⟩
end Go.Proofs.Ytllbpjaiplnbnaa

import Derived.Test.YtideaimlnipkoaaShE
import Derived.Deep.RegionLaw
import Derived.WalkSpells
namespace Go.Proofs.Ytideaimlnipkoaa
open Go.RowKit
set_option linter.unusedVariables false
set_option linter.unusedSimpArgs false
theorem Row.empty (g : Nat) (e : TypeId) (size : Nat) : Row [(g, #[], e)] e size (some ⟨g, 0, none⟩) 0 0 [] := ⟨by simp, Nat.le_refl _, by unfold maxLen; omega, .inr ⟨g, #[], rfl, rfl, by simp, by simp⟩⟩
/-- What a call that makes a row hands back. -/
def Made (cs : List Value) (n e size : Nat) (W : World) (E : Ending) (W' : World) : Prop := ∃ R a cap, E = .returned (.slice a n cap) ∧ Row R e size a n cap cs ∧ Sts W R W'
theorem Src.drewE {w wr : World} {A : Option Addr} {n size j : Nat} {xs : List Value} (h : Src w A n size xs) (e : wr = w.drewN j) : Src wr A n size xs := by subst e; exact h
theorem take_eq_next {a b : List Int} {k : Nat} (h : a.take k = b.take k) (hx : a.getD k 0 = b.getD k 0) (ha : k < a.length) (hb : k < b.length) : a.take (k + 1) = b.take (k + 1) := by
  rw [List.take_succ_eq_append_getElem ha, List.take_succ_eq_append_getElem hb, h]
  rw [List.getD_eq_getElem?_getD, List.getD_eq_getElem?_getD, List.getElem?_eq_getElem ha, List.getElem?_eq_getElem hb] at hx
  simp only [Option.getD_some] at hx
  rw [hx]
set_option maxHeartbeats 1000000 in
set_option maxRecDepth 100000 in
theorem sameI_calls (A B : Option Addr) (n c m d : Nat) (a b : List Int) (w : World) (ha : Src w A n 1 (is a)) (hb : Src w B m 1 (is b)) (hn : n ≤ 1000000) (hm : m ≤ 9223372036854775807) :
    Calls Try.prog 11 #[.slice A n c, .slice B m d] w fun e w' => e = .returned (.bool (decide (a = b))) ∧ ∃ k, w' = w.drewN k := by
  have hla : a.length = n := by have := ha.1; rw [is_length] at this; omega
  have hlb : b.length = m := by have := hb.1; rw [is_length] at this; omega
  have HA := Lib.hid ha
  have HB := Lib.hid hb
  have LA := Lib.hid hla
  have LB := Lib.hid hlb
  obtain ⟨r, hr⟩ : ∃ r, r = decide (a = b) := ⟨_, rfl⟩
  rw [← hr]
  have HR := Lib.hid hr
  clear ha hb hla hlb hr
  by_cases h1 : n = m
  · subst h1
    have b1 : ((n : Int) != n) = false := by simp
    go_enter Try.func11, Try.ntmps11
    go_wp2
    go_loopw [5] (fun i wr => ∃ (k j : Nat), k ≤ n ∧ i = .int .i64 k ∧ Hid (a.take k = b.take k) ∧ Hid (wr = w.drewN j)) (fun i _ => n - (intOf i).toNat)
    case atStart => exact ⟨0, 0, Nat.zero_le _, rfl, Lib.hid (by simp), Lib.hid rfl⟩
    case round =>
      obtain ⟨k, j, hk, rfl, HT, HW⟩ := hrel
      by_cases hlt : k < n
      · obtain ⟨ad, rfl, hcell⟩ := src_int (HA.out.drewE HW.out) hlt
        obtain ⟨bd, rfl, hcell2⟩ := src_int (HB.out.drewE HW.out) hlt
        have i0 : (0 : Int) ≤ (k : Int) := by omega
        have i1 : (k : Int) < (n : Int) := by omega
        obtain ⟨x, hx⟩ : ∃ x, a.getD k 0 = x := ⟨_, rfl⟩
        obtain ⟨y, hy⟩ : ∃ y, b.getD k 0 = y := ⟨_, rfl⟩
        rw [hx] at hcell
        rw [hy] at hcell2
        have HX := Lib.hid hx
        have HY := Lib.hid hy
        clear hx hy
        by_cases he : x = y
        · have b2 : (x != y) = false := by rw [bne_eq_false_iff_eq]; exact he
          have HE := Lib.hid (take_eq_next HT.out (by rw [HX.out, HY.out]; exact he) (by rw [LA.out]; exact hlt) (by rw [LB.out]; exact hlt))
          clear he
          go_upto_region 6 with fail
          go_quiet (fail)
          go_wp2
          go_roundw
          case rel => exact ⟨k + 1, j + nq, by omega, by go_num, HE, Lib.hid (by rw [HW.out, World.drewN_drewN])⟩
          case measure => simp [intOf]; omega
        · have b2 : (x != y) = true := by rw [bne_iff_ne]; exact he
          have HE := Lib.hid he
          clear he
          go_upto_region 6 with fail
          go_quiet (fail)
          go_wp2
          go_ret
          refine ⟨ret_bool ?_, j + nq, by rw [HW.out, World.drewN_drewN]⟩
          rw [HR.out]
          symm
          refine decide_eq_false (fun h => HE.out ?_)
          rw [← HX.out, ← HY.out, h]
      · obtain rfl : k = n := by omega
        go_wp2
        go_ret
        refine ⟨ret_bool ?_, j, HW.out⟩
        rw [HR.out]
        symm
        refine decide_eq_true ?_
        have := HT.out
        rw [List.take_of_length_le (by rw [LA.out]; exact Nat.le_refl _), List.take_of_length_le (by rw [LB.out]; exact Nat.le_refl _)] at this
        exact this
  · have b1 : ((n : Int) != m) = true := by rw [bne_iff_ne]; omega
    have hr : r = false := by
      rw [HR.out]
      refine decide_eq_false (fun h => h1 ?_)
      rw [← LA.out, ← LB.out, h]
    have HR2 := Lib.hid hr
    clear hr h1
    go_enter Try.func11, Try.ntmps11
    go_wp2
    go_ret
    exact ⟨ret_bool HR2.out.symm, 0, rfl⟩
theorem sameI_yes {A B : Option Addr} {n c m d : Nat} (a b : List Int) {w : World} (ha : Src w A n 1 (is a)) (hb : Src w B m 1 (is b)) (hn : n ≤ 1000000) (hm : m ≤ 9223372036854775807) (h : a = b) :
    Calls Try.prog 11 #[.slice A n c, .slice B m d] w fun e w' => e = .returned (.bool true) ∧ ∃ k, w' = w.drewN k :=
  (sameI_calls A B n c m d a b w ha hb hn hm).mono fun _ _ ⟨he, hw⟩ => ⟨by rw [he, decide_eq_true h], hw⟩
set_option maxHeartbeats 1000000 in
set_option maxRecDepth 100000 in
theorem cloneI_nil (w : World) : Calls Try.prog 22 #[.slice none 0 0] w fun e w' => e = .returned (.slice none 0 0) ∧ w = w' := by
  have q := fun (w : World) (a : Option Addr) (n c n' c' : Nat) => Lib.run_eql_slice_nil w 29 3 a n c n' c' Try.underlying29
  go_enter Try.func22, Try.ntmps22
  go_wp2
  go_ret
  exact ⟨rfl, rfl⟩
set_option maxHeartbeats 1000000 in
set_option maxRecDepth 100000 in
theorem cloneI_some (ad : Addr) (n cap : Nat) (cs : List Value) (w : World) (hs : Src w (some ad) n 1 cs) (h1 : ∀ u ∈ cs, u.oneCell' = true) (hn : n ≤ 900000) :
    Calls Try.prog 22 #[.slice (some ad) n cap] w (Made cs n 3 1 w) := by
  obtain ⟨i0, hi, hz, hs1, hs2⟩ := info_parts int_info
  have HS := Lib.hid hs
  have H1 := Lib.hid h1
  clear hs h1
  have q := fun (w : World) (a : Option Addr) (n c n' c' : Nat) => Lib.run_eql_slice_nil w 29 3 a n c n' c' Try.underlying29
  go_enter Try.func22, Try.ntmps22
  go_wp2_with (at_builtin; refine row_append rfl (.tmp 5) (.tmp 6) 29 rfl [] [] Try.underlying29 hi hz hs1 hs2 rfl (by omega) (Row.empty w.heap.size 3 1) ((Sts.nil w).add rfl _ _) rfl rfl (HS.out.alloc _) H1.out (by omega) (by omega) ?_; rintro R' a' cap' w' hR hS)
  go_ret
  simp only [Nat.zero_add, List.nil_append, List.append_nil] at hR hS ⊢
  exact ⟨R', a', cap', rfl, hR, hS⟩

def rightB (l : List Int) : Bool := l.all (fun x => decide (0 ≤ x) && decide (x ≤ 1152921504606846976))
set_option maxHeartbeats 1000000 in
set_option maxRecDepth 100000 in
theorem right_calls (A : Option Addr) (n c : Nat) (l : List Int) (w : World) (hs : Src w A n 1 (is l)) (hn : n ≤ 1000000) : Calls Try.prog 20 #[.slice A n c] w fun e w' => e = .returned (.bool (rightB l)) ∧ w = w' := by
  have hl : l.length = n := by have := hs.1; rw [is_length] at this; omega
  have HS := Lib.hid hs; have HL := Lib.hid hl
  clear hs hl
  go_enter Try.func20, Try.ntmps20
  go_wp2_with fail
  go_loop [7] (fun v7 => ∃ k : Nat, k ≤ n ∧ v7 = .int .i64 k ∧ Hid (rightB (l.take k) = true)) (fun v7 => n - (intOf v7).toNat)
  case atStart => exact ⟨0, by omega, rfl, Lib.hid rfl⟩
  case round =>
    obtain ⟨k, hk, rfl, HA⟩ := hrel
    by_cases hlt : k < n
    · obtain ⟨ad, rfl, hc⟩ := src_int HS.out hlt
      have hg : l[k]? = some (l.getD k 0) := by rw [List.getD_eq_getElem?_getD, List.getElem?_eq_getElem (by rw [HL.out]; exact hlt)]; rfl
      have HG := Lib.hid hg
      generalize l.getD k 0 = x at *
      clear hg
      by_cases h0 : 0 ≤ x
      · by_cases h1 : x ≤ 1152921504606846976
        · have b0 : decide (x < 0) = false := decide_eq_false (by omega)
          have b1 : decide (1152921504606846976 < x) = false := decide_eq_false (by omega)
          have hnx : rightB (l.take (k + 1)) = true := by
            unfold rightB; rw [take_next HG.out, List.all_append]
            have := HA.out; unfold rightB at this; rw [this]; simp [h0, h1]
          have HNX := Lib.hid hnx
          clear hnx
          go_wp2
          go_round
          case rel => exact ⟨k + 1, by omega, by go_num, HNX⟩
          case measure => simp [intOf]; omega
        · have b0 : decide (x < 0) = false := decide_eq_false (by omega)
          have b1 : decide (1152921504606846976 < x) = true := decide_eq_true (by omega)
          have hno : rightB l = false := by
            rw [Bool.eq_false_iff]; intro ha
            have := List.all_eq_true.1 ha x (List.mem_of_getElem? HG.out)
            simp at this; omega
          have HNO := Lib.hid hno
          clear hno
          go_wp2
          go_ret
          exact ⟨ret_bool HNO.out.symm, rfl⟩
      · have b0 : decide (x < 0) = true := decide_eq_true (by omega)
        have hno : rightB l = false := by
          rw [Bool.eq_false_iff]; intro ha
          have := List.all_eq_true.1 ha x (List.mem_of_getElem? HG.out)
          simp at this; omega
        have HNO := Lib.hid hno
        clear hno
        go_wp2
        go_ret
        exact ⟨ret_bool HNO.out.symm, rfl⟩
    · obtain rfl : k = n := by omega
      have hyes : rightB l = true := by have := HA.out; rwa [List.take_of_length_le (by rw [HL.out]; omega)] at this
      have HY := Lib.hid hyes
      clear hyes
      go_wp2
      go_ret
      exact ⟨ret_bool HY.out.symm, rfl⟩
section
variable {w0 W : World} {L : List Ent} {g cnt : Nat} {bal : List Int}
def moveF (bal : List Int) (f t x : Int) : Option (List Int) := if 0 ≤ x ∧ x ≤ 1152921504606846976 then postF bal [(f, -x), (t, x)] else none
set_option maxHeartbeats 2000000 in
set_option maxRecDepth 100000 in
theorem move_calls (f t x : Int) (h : ShAt w0 L g bal cnt W) (hf : Bd f) (ht : Bd t) (hx : Bd x) (hl : bal.length ≤ 64) (hb : ∀ x ∈ bal, Bd x) (hc : cnt ≤ 1000000) :
    Calls Try.prog 9 #[.pointer (some ⟨g, 0, none⟩), .int .i64 f, .int .i64 t, .int .i64 x] W (PostGoes (moveF bal f t x) w0 L g bal cnt) := by
  have hmf : moveF bal f t x = if 0 ≤ x ∧ x ≤ 1152921504606846976 then postF bal [(f, -x), (t, x)] else none := rfl
  have hrb : rightB [x] = (decide (0 ≤ x) && decide (x ≤ 1152921504606846976)) := by simp [rightB]
  have H := Lib.hid h; have HMF := Lib.hid hmf; have HRB := Lib.hid hrb; have HBD := Lib.hid hb; have HF := Lib.hid hf; have HT := Lib.hid ht; have HX := Lib.hid hx
  clear h hmf hrb hb hf ht hx
  by_cases h0 : 0 ≤ x ∧ x ≤ 1152921504606846976
  · have hr : rightB [x] = true := by rw [HRB.out]; simpa using h0
    have hmf : moveF bal f t x = postF bal [(f, -x), (t, x)] := by rw [HMF.out, if_pos h0]
    have HM := Lib.hid hmf; have HR := Lib.hid hr
    obtain ⟨x0, x1⟩ := h0
    clear hmf hr HMF HRB
    go_enter Try.func9, Try.ntmps9
    go_wp2_with fail
    refine (right_calls _ 1 1 [x] _ (Src.new (size := 1) (m := 1) rfl rfl) (by omega)).mono ?_
    rw [HR.out]
    rintro e w' ⟨rfl, rfl⟩
    go_wp2_with fail
    refine (post_calls _ 2 2 [(f, -x), (t, x)] ((H.out.alloc _).alloc _) ⟨Src.new (size := 2) (m := 2) rfl (by simp), ?_⟩ (by omega) hl HBD.out hc).mono ?_
    · intro e he
      simp only [List.mem_cons, List.not_mem_nil, or_false] at he
      rcases he with rfl | rfl
      · exact ⟨HF.out, by unfold Bd; simp only; omega⟩
      · exact ⟨HT.out, HX.out⟩
    · intro e w2 hp
      cases hr : postF bal [(f, -x), (t, x)] with
      | none =>
        rw [hr] at hp
        obtain ⟨rfl, hs⟩ := hp
        have HN := Lib.hid (HM.out.trans hr); have HS := Lib.hid hs
        clear hr hs HM
        go_wp2
        go_ret
        exact post_no HN.out HS.out
      | some v =>
        rw [hr] at hp
        obtain ⟨rfl, hs⟩ := hp
        have HN := Lib.hid (HM.out.trans hr); have HS := Lib.hid hs
        clear hr hs HM
        go_wp2
        go_ret
        show PostGoes _ _ _ _ _ _ _ _
        rw [HN.out]
        exact ⟨rfl, HS.out⟩
  · have hr : rightB [x] = false := by rw [HRB.out]; rw [Bool.and_eq_false_iff, decide_eq_false_iff_not, decide_eq_false_iff_not]; omega
    have hmf : moveF bal f t x = none := by rw [HMF.out, if_neg h0]
    have HM := Lib.hid hmf; have HR := Lib.hid hr
    clear hmf hr HMF HRB h0
    go_enter Try.func9, Try.ntmps9
    go_wp2_with fail
    refine (right_calls _ 1 1 [x] _ (Src.new (size := 1) (m := 1) rfl rfl) (by omega)).mono ?_
    rw [HR.out]
    rintro e w' ⟨rfl, rfl⟩
    go_wp2
    go_ret
    exact post_no HM.out (H.out.alloc _)
set_option maxHeartbeats 2000000 in
set_option maxRecDepth 100000 in
theorem balances_calls (h : ShAt w0 L g bal cnt W) (hl : bal.length ≤ 64) : Calls Try.prog 12 #[.pointer (some ⟨g, 0, none⟩)] W fun e w' => ∃ R a cap, e = .returned (.slice a bal.length cap) ∧ Row R 3 1 a bal.length cap (is bal) ∧ ShAt w0 (R ++ L) g bal cnt w' := by
  obtain ⟨R, a, cap, hR, hS, c0, c1, d0, d1⟩ := h.parts
  have hsrc := hR.srcIn hS (fun x hx => by simp [hx])
  have hnone : a = none → cap = 0 ∧ bal.length = 0 := fun e => by
    have hle := hR.le
    obtain ⟨_, _, _, h4⟩ := hR
    rcases h4 with ⟨_, h5⟩ | ⟨_, _, h5, _⟩
    · omega
    · rw [e] at h5; cases h5
  have H := Lib.hid h; have HSR := Lib.hid hsrc
  clear hR hS hsrc c1 d0 d1 h
  cases a with
  | none =>
    obtain ⟨rfl, h0⟩ := hnone rfl
    have hb : bal = [] := List.eq_nil_of_length_eq_zero h0
    subst hb
    clear hnone h0
    go_enter Try.func12, Try.ntmps12
    go_wp2_with fail
    refine (cloneI_nil _).mono ?_
    rintro e w' ⟨rfl, rfl⟩
    go_wp2
    go_ret
    exact ⟨[], none, 0, rfl, Row.nil _ _, H.out⟩
  | some ad =>
    clear hnone
    go_enter Try.func12, Try.ntmps12
    go_wp2_with fail
    refine (cloneI_some ad bal.length cap _ _ HSR.out (is_one _) (by omega)).mono ?_
    rintro e w2 ⟨R2, a2, cap2, rfl, hR2, hS2⟩
    have HR2 := Lib.hid hR2
    have HS2 := Lib.hid (H.out.join hS2)
    clear hR2 hS2
    go_wp2
    go_ret
    exact ⟨R2, a2, cap2, rfl, HR2.out, HS2.out⟩
end
end Go.Proofs.Ytideaimlnipkoaa

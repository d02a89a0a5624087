import Derived.Test.YticddmmbphoioaaModeA
import Derived.Test.YticddmmbphoioaaWithin
namespace Go.Proofs.Yticddmmbphoioaa
open Go.RowKit
set_option linter.unusedVariables false
set_option linter.unusedSimpArgs false
/-! ### some: results out of ints; Run -/
def Res.c (r : Res) : List Value := [.bool r.oc, .bool r.ic, .bool r.late, .bool r.loss]
theorem Res.c_length (r : Res) : r.c.length = 4 := rfl
def rcs (l : List Res) : List Value := l.flatMap Res.c
def resK (k : Int) : Res := ⟨!(k == 0 || k == 1 || k == 3), !(k == 4), !(k == 2), !(k == 3)⟩
def resF (x : Int) : Res := resK (within x 0 12)
theorem rcs_app (a b : List Res) : rcs (a ++ b) = rcs a ++ rcs b := by unfold rcs; rw [List.flatMap_append]
theorem rcs_one (l : List Res) : ∀ u ∈ rcs l, u.oneCell' = true := by
  intro u hu
  obtain ⟨r, _, hu⟩ := List.mem_flatMap.1 hu
  unfold Res.c at hu
  simp only [List.mem_cons, List.not_mem_nil, or_false] at hu
  rcases hu with rfl | rfl | rfl | rfl <;> rfl
theorem res_info : (Try.prog.info? 23).map (fun i => (i.zero, i.size, i.bytes)) = some (some (.agg #[.bool false, .bool false, .bool false, .bool false]), 4, 4) := by kernel_rfl
theorem info_parts' {P : Program} {t : TypeId} {z : Value} {s b : Nat} (h : (P.info? t).map (fun i => (i.zero, i.size, i.bytes)) = some (some z, s, b)) : ∃ i, P.info? t = some i ∧ i.zero = some z ∧ i.size = s ∧ i.bytes = b := by
  cases hi : P.info? t with
  | none => rw [hi] at h; cases h
  | some i => rw [hi] at h; simp at h; exact ⟨i, rfl, h.1, h.2.1, h.2.2⟩
theorem take_next' {α : Type} {l : List α} {k : Nat} {x : α} (h : l[k]? = some x) : l.take (k + 1) = l.take k ++ [x] := by
  rw [List.take_add_one, h]; rfl
theorem hSr_fin {w W : World} {R : List Ent} (h : Sts w (R ++ []) W) : Sts w R W := h.lit (by simp)
set_option maxHeartbeats 8000000 in
set_option maxRecDepth 100000 in
theorem some_calls (A1 : Option Addr) (n1 c1 : Nat) (zs : List Int) (w : World) (h1 : Ints w A1 n1 zs) :
    Calls Try.prog 14 #[.slice A1 n1 c1] w fun e w' => ∃ (m : Nat) (R : List Ent) (a : Option Addr) (cap : Nat), m = min n1 20 ∧ e = .returned (.slice a m cap) ∧ Row R 23 4 a m cap (rcs ((zs.take m).map resF)) ∧ Sts w R w' := by
  obtain ⟨i0, hi, hz, hs1, hs2⟩ := info_parts' res_info
  have hlen := h1.length
  have hmost := h1.most
  have H := Lib.hid h1; have HL := Lib.hid hlen
  clear h1 hlen
  have HS0 := Lib.hid (Sts.nil w)
  go_enter Try.func14, Try.ntmps14
  go_wp2_with fail
  go_loopw [3, 4] (fun v3 v4 wr => ∃ (k : Nat) (R : List Ent) (A : Option Addr) (cap : Nat), k ≤ 20 ∧ k ≤ n1 ∧ v3 = .slice A k cap ∧ v4 = .int .i64 k ∧ Hid (Row R 23 4 A k cap (rcs ((zs.take k).map resF))) ∧ Hid (Sts w (R ++ []) wr)) (fun v3 v4 _ => 20 - (intOf v4).toNat)
  case atStart => exact ⟨0, [], none, 0, by omega, by omega, rfl, rfl, Lib.hid (Row.nil _ _), HS0⟩
  case round =>
    obtain ⟨k, R, A, cap, hk, hk1, rfl, rfl, HR, HSr⟩ := hrel
    clear HS0
    by_cases q1 : k < n1 ∧ k < 20
    · obtain ⟨q2, q3⟩ := q1
      obtain ⟨ad, rfl, hc0⟩ := H.out.at_ k q2
      replace hc0 := HSr.out.old hc0
      have hg : zs[k]? = some (zs.getD k 0) := by
        rw [List.getD_eq_getElem?_getD, List.getElem?_eq_getElem (by rw [HL.out]; exact q2)]; rfl
      have htn : (zs.take (k + 1)).map resF = (zs.take k).map resF ++ [resF (zs.getD k 0)] := by rw [take_next' hg, List.map_append]; rfl
      have HTN := Lib.hid htn
      clear hg htn
      generalize zs.getD k 0 = x at *
      have i0' : (0 : Int) ≤ (k : Int) := by omega
      have i1 : (k : Int) < (n1 : Int) := by omega
      have b0 : decide ((k : Int) < 20) = true := decide_eq_true (by omega)
      have b1 : decide (k < n1) = true := decide_eq_true q2
      have hs2 := HSr.out.add (g := wr.heap.size) rfl #[.bool true, .bool true, .bool true, .bool true] 23
      have HS2 := Lib.hid hs2
      have c1 := (bel_alloc (Below.refl _ wr) (.cells #[.bool true, .bool true, .bool true, .bool true] 23)).cell (World.block_lt_of_cell? wr _ hc0)
      rw [hc0] at c1
      go_upto_region 6 with fail
      clear hs2 hc0
      generalize wr.alloc (.cells #[.bool true, .bool true, .bool true, .bool true] 23) = w3 at *
      generalize wr.heap.size = gr at *
      obtain ⟨v, hv⟩ : ∃ v, within x 0 12 = v := ⟨_, rfl⟩
      have hrf : resF x = resK v := by unfold resF; rw [hv]
      rw [hrf] at HTN
      go_wp2_with fail
      have HWI := Lib.hid (within_calls x 0 12 w3 (by omega) (by omega) (by omega))
      rw [hv] at HWI
      clear hv hrf
      refine HWI.out.mono ?_
      rintro e w' ⟨rfl, rfl⟩
      clear HWI c1
      have hkk : ((R ++ []) ++ [(gr, #[.bool true, .bool true, .bool true, .bool true], 23)])[(R ++ []).length]? = some (gr, #[.bool true, .bool true, .bool true, .bool true], 23) := by simp
      have f0 := HS2.out.frozen (R ++ []).length 0 hkk
      have f1 := HS2.out.frozen (R ++ []).length 1 hkk
      have f2 := HS2.out.frozen (R ++ []).length 2 hkk
      have f3 := HS2.out.frozen (R ++ []).length 3 hkk
      have g0 := HS2.out.cell (R ++ []).length 0 hkk (v := .bool true) rfl
      have g1 := HS2.out.cell (R ++ []).length 1 hkk (v := .bool true) rfl
      have g2 := HS2.out.cell (R ++ []).length 2 hkk (v := .bool true) rfl
      have g3 := HS2.out.cell (R ++ []).length 3 hkk (v := .bool true) rfl
      have SET : ∀ (i : Nat) (W : World) (cs : Array Value), Sts w ((R ++ []) ++ [(gr, cs, 23)]) W → Sts w ((R ++ []) ++ [(gr, cs.setIfInBounds i (.bool false), 23)]) (W.setCell ⟨gr, i, none⟩ (.bool false)) := by
        intro i W cs h
        exact (h.set (g := gr) (cs := cs) (t := 23) (R ++ []).length i (.bool false) (by simp)).lit (by simp)
      have HSET := Lib.hid SET
      clear hkk SET
      go_upto_block 2 with fail
      go_cut [] (fun wc => Hid (Sts w ((R ++ []) ++ [(gr, (resK v).c.toArray, 23)]) wc))
      case first =>
        by_cases v0 : v = 0
        · subst v0
          go_wp2_with fail
          go_meet
          exact Lib.hid (HSET.out 0 _ _ HS2.out)
        have t0 : (v == 0) = false := beq_eq_false_iff_ne.2 v0
        by_cases v1 : v = 1
        · subst v1
          go_wp2_with fail
          go_meet
          exact Lib.hid (HSET.out 0 _ _ HS2.out)
        have t1 : (v == 1) = false := beq_eq_false_iff_ne.2 v1
        by_cases v2 : v = 2
        · subst v2
          go_wp2_with fail
          go_meet
          exact Lib.hid (HSET.out 2 _ _ HS2.out)
        have t2 : (v == 2) = false := beq_eq_false_iff_ne.2 v2
        by_cases v3 : v = 3
        · subst v3
          go_wp2_with fail
          go_meet
          exact Lib.hid (HSET.out 0 _ _ (HSET.out 3 _ _ HS2.out))
        have t3 : (v == 3) = false := beq_eq_false_iff_ne.2 v3
        by_cases v4 : v = 4
        · subst v4
          go_wp2_with fail
          go_meet
          exact Lib.hid (HSET.out 1 _ _ HS2.out)
        have t4 : (v == 4) = false := beq_eq_false_iff_ne.2 v4
        have hc : (resK v).c.toArray = #[.bool true, .bool true, .bool true, .bool true] := by simp [resK, Res.c, t0, t1, t2, t3, t4]
        go_wp2_with fail
        go_meet
        rw [hc]
        exact HS2
      case rest =>
        clear HS2 f0 f1 f2 f3 g0 g1 g2 g3 HSET
        have HS3 := hcut
        obtain ⟨r, hr⟩ : ∃ r, resK v = r := ⟨_, rfl⟩
        rw [hr] at HS3 HTN
        clear hcut hr
        obtain ⟨oc, ic, la, lo⟩ := r
        have hs4 := Sts.lit (L' := [] ++ (R ++ [(gr, #[.bool oc, .bool ic, .bool la, .bool lo], 23)])) HS3.out (by simp [Res.c])
        have hkk : ([] ++ (R ++ [(gr, #[.bool oc, .bool ic, .bool la, .bool lo], 23)]))[R.length]? = some (gr, #[.bool oc, .bool ic, .bool la, .bool lo], 23) := by simp
        have g0 := hs4.cell R.length 0 hkk (v := .bool oc) rfl
        have g1 := hs4.cell R.length 1 hkk (v := .bool ic) rfl
        have g2 := hs4.cell R.length 2 hkk (v := .bool la) rfl
        have g3 := hs4.cell R.length 3 hkk (v := .bool lo) rfl
        have HS4 := Lib.hid hs4
        clear hkk hs4 HS3
        have HQ := Lib.hid (show k + 1 ≤ 20 ∧ k + 1 ≤ n1 from by omega)
        go_wp2_with (at_builtin; refine row_append rfl (.tmp 36) (.tmp 38) 30 rfl [] [(gr, #[.bool oc, .bool ic, .bool la, .bool lo], 23)] Try.underlying30 hi hz hs1 hs2 rfl (by omega) HR.out (HS4.out.skip _) rfl rfl (Src.new (size := 4) (m := 1) rfl rfl) (rcs_one [⟨oc, ic, la, lo⟩]) (by omega) (by omega) ?_; rintro R3 a3 c3 w5 hR3' hS3'; have hR3 := Lib.hid hR3'; have hS3 := Lib.hid hS3'; clear hR3' hS3' HS4 HR g0 g1 g2 g3 b0 b1 i1 i0' hmost hk1 q2 q3 hi hz hs1 hs2)
        have hR4 : Row R3 23 4 a3 (k + 1) c3 (rcs ((zs.take (k + 1)).map resF)) := by rw [HTN.out, rcs_app]; exact hR3.out
        have HR4 := Lib.hid hR4
        have HS5 := Lib.hid (hS3.out.sub (L' := R3 ++ []) (by simp))
        go_roundw
        case rel => exact ⟨k + 1, R3, a3, c3, HQ.out.1, HQ.out.2, rfl, by go_num, HR4, HS5⟩
        case measure => have := HQ.out; simp [intOf]; omega
    · have hmin : k = min n1 20 := by omega
      have HS9 := Lib.hid (hSr_fin HSr.out); have HMIN := Lib.hid hmin; clear hmin
      by_cases q2 : k < n1
      · have b0 : decide ((k : Int) < 20) = false := decide_eq_false (by omega)
        have b1 : decide (k < n1) = true := decide_eq_true q2
        go_wp2_with fail
        go_ret
        exact ⟨k, R, A, cap, HMIN.out, rfl, HR.out, HS9.out⟩
      · have b1 : decide (k < n1) = false := decide_eq_false q2
        go_wp2_with fail
        go_ret
        exact ⟨k, R, A, cap, HMIN.out, rfl, HR.out, HS9.out⟩
end Go.Proofs.Yticddmmbphoioaa

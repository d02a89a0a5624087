import Derived.Test.YticddmmbphoioaaModeD
namespace Go.Proofs.Yticddmmbphoioaa
open Go.RowKit
set_option linter.unusedVariables false
set_option linter.unusedSimpArgs false
/-! ### Loans -/
def pc (e : Int × Int) : List Value := [.int .i64 e.1, .int .i64 e.2]
theorem pc_length (e : Int × Int) : (pc e).length = 2 := rfl
def pcs (l : List (Int × Int)) : List Value := l.flatMap pc
theorem pcs_app (a b : List (Int × Int)) : pcs (a ++ b) = pcs a ++ pcs b := by unfold pcs; rw [List.flatMap_append]
theorem pcs_one (l : List (Int × Int)) : ∀ u ∈ pcs l, u.oneCell' = true := by
  intro u hu
  obtain ⟨r, _, hu⟩ := List.mem_flatMap.1 hu
  unfold pc at hu
  simp only [List.mem_cons, List.not_mem_nil, or_false] at hu
  rcases hu with rfl | rfl <;> rfl
/-- The first k loans. -/
def loansF (zs : List Int) (k : Nat) : List (Int × Int) := (List.range k).map fun (i : Nat) => (2 * (i : Int) + 1, within (zs.getD i 0) 0 100000)
theorem loansF_next (zs : List Int) (k : Nat) : loansF zs (k + 1) = loansF zs k ++ [(2 * (k : Int) + 1, within (zs.getD k 0) 0 100000)] := by unfold loansF; rw [List.range_succ, List.map_append]; rfl
theorem loan_info : (Try.prog.info? 75).map (fun i => (i.zero, i.size, i.bytes)) = some (some (.agg #[.int .i64 0, .int .i64 0]), 2, 16) := by kernel_rfl
set_option maxHeartbeats 8000000 in
set_option maxRecDepth 100000 in
theorem loans_calls (A1 : Option Addr) (n1 c1 : Nat) (zs : List Int) (w : World) (h1 : Ints w A1 n1 zs) :
    Calls Try.prog 30 #[.slice A1 n1 c1] w fun e w' => ∃ (m : Nat) (R : List Ent) (a : Option Addr) (cap : Nat), m = min n1 10 ∧ e = .returned (.slice a m cap) ∧ Row R 75 2 a m cap (pcs (loansF zs m)) ∧ Sts w R w' := by
  obtain ⟨i0, hi, hz, hs1, hs2⟩ := info_parts' loan_info
  have hlen := h1.length
  have hmost := h1.most
  have H := Lib.hid h1; have HL := Lib.hid hlen
  clear h1 hlen
  have HS0 := Lib.hid (Sts.nil w)
  go_enter Try.func30, Try.ntmps30
  go_wp2_with fail
  go_loopw [3, 4] (fun v3 v4 wr => ∃ (k : Nat) (R : List Ent) (A : Option Addr) (cap : Nat), k ≤ 10 ∧ k ≤ n1 ∧ v3 = .slice A k cap ∧ v4 = .int .i64 k ∧ Hid (Row R 75 2 A k cap (pcs (loansF zs k))) ∧ Hid (Sts w (R ++ []) wr)) (fun v3 v4 _ => 10 - (intOf v4).toNat)
  case atStart => exact ⟨0, [], none, 0, by omega, by omega, rfl, rfl, Lib.hid (Row.nil _ _), HS0⟩
  case round =>
    obtain ⟨k, R, A, cap, hk, hk1, rfl, rfl, HR, HSr⟩ := hrel
    clear HS0
    by_cases q1 : k < n1 ∧ k < 10
    · obtain ⟨q2, q3⟩ := q1
      obtain ⟨ad, rfl, hc0⟩ := H.out.at_ k q2
      replace hc0 := HSr.out.old hc0
      have HTN := Lib.hid (loansF_next zs k)
      generalize zs.getD k 0 = x at *
      have i0' : (0 : Int) ≤ (k : Int) := by omega
      have i1 : (k : Int) < (n1 : Int) := by omega
      have b0 : decide ((k : Int) < 10) = true := decide_eq_true (by omega)
      have b1 : decide (k < n1) = true := decide_eq_true q2
      obtain ⟨v, hv⟩ : ∃ v, within x 0 100000 = v := ⟨_, rfl⟩
      have HWI := Lib.hid (within_calls x 0 100000 wr (by omega) (by omega) (by omega))
      rw [hv] at HWI HTN
      clear hv
      have HQ := Lib.hid (show k + 1 ≤ 10 ∧ k + 1 ≤ n1 from by omega)
      go_wp2_with fail
      refine HWI.out.mono ?_
      rintro e w' ⟨rfl, rfl⟩
      have HSX := Lib.hid (Sts.lit (L' := [] ++ (R ++ [])) HSr.out rfl)
      clear hc0 HWI HSr
      go_wp2_with (at_builtin; refine row_append rfl (.tmp 15) (.tmp 25) 47 rfl [] [] Try.underlying47 hi hz hs1 hs2 rfl (by omega) HR.out (HSX.out.skip _) rfl rfl (Src.new (size := 2) (m := 1) rfl rfl) (pcs_one [(2 * (k : Int) + 1, v)]) (by omega) (by omega) ?_; rintro R3 a3 c3 w5 hR3' hS3'; have hR3 := Lib.hid hR3'; have hS3 := Lib.hid hS3'; clear hR3' hS3' HSX HR b0 b1 i1 i0' hmost hk1 q2 q3 hi hz hs1 hs2)
      have hR4 : Row R3 75 2 a3 (k + 1) c3 (pcs (loansF zs (k + 1))) := by rw [HTN.out, pcs_app]; exact hR3.out
      have HR4 := Lib.hid hR4
      have HS5 := Lib.hid (hS3.out.sub (L' := R3 ++ []) (by simp))
      go_roundw
      case rel => exact ⟨k + 1, R3, a3, c3, HQ.out.1, HQ.out.2, rfl, by go_num, HR4, HS5⟩
      case measure => have := HQ.out; simp [intOf]; omega
    · have hmin : k = min n1 10 := by omega
      have HS9 := Lib.hid (hSr_fin HSr.out); have HMIN := Lib.hid hmin; clear hmin
      by_cases q2 : k < n1
      · have b0 : decide ((k : Int) < 10) = false := decide_eq_false (by omega)
        have b1 : decide (k < n1) = true := decide_eq_true q2
        go_wp2_with fail
        go_ret
        exact ⟨k, R, A, cap, HMIN.out, rfl, HR.out, HS9.out⟩
      · have b1 : decide (k < n1) = false := decide_eq_false q2
        go_wp2_with fail
        go_ret
        exact ⟨k, R, A, cap, HMIN.out, rfl, HR.out, HS9.out⟩
end Go.Proofs.Yticddmmbphoioaa

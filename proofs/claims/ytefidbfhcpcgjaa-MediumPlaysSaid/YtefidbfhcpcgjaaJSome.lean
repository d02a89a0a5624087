import Derived.Test.YtefidbfhcpcgjaaJRuns
namespace Go.Proofs.Ytefidbfhcpcgjaa
open Go.RowKit
set_option linter.unusedVariables false
set_option linter.unusedSimpArgs false
attribute [local go_sem] bmax2 bmin2 bmax_two bmin_two bmax_three bmin_three
def someL (ps : List Prt) : List (List Int) := (ps.take 10).map fun p => p.l.take (min p.n 40)
/-- Short texts. -/
def Small (ts : List (List Int)) : Prop := ts.length ≤ 10 ∧ ∀ t ∈ ts, Byt t ∧ t.length ≤ 40
theorem someL_small {W : World} {A : Option Addr} {n c : Nat} {ps : List Prt} (h : RowsIn W A n c ps) : Small (someL ps) := by
  refine ⟨by rw [someL, List.length_map, List.length_take]; omega, fun t ht => ?_⟩
  obtain ⟨p, hp, rfl⟩ := List.mem_map.1 ht
  have hb := h.each p (List.mem_of_mem_take hp)
  exact ⟨hb.byt.take _, by rw [List.length_take]; omega⟩
theorem Small.fit {ts : List (List Int)} (h : Small ts) : Fit ts := fun t ht => ⟨(h.2 t ht).1, by have := (h.2 t ht).2; omega⟩
set_option maxHeartbeats 8000000 in
set_option maxRecDepth 100000 in
theorem some_calls (A : Option Addr) (n c : Nat) (ps : List Prt) (w : World) (h : RowsIn w A n c ps) :
    Calls Try.prog 40 #[.slice A n c] w fun e w' => ∃ Rs a c' N, e = .returned (.slice a N c') ∧ N = (someL ps).length ∧ Texts Rs a N c' (someL ps) ∧ Sts w Rs w' := by
  obtain ⟨i0, hi, hz, hs1, hs2⟩ := info_parts byte_info
  obtain ⟨i1, ri, rz, rs1, rs2⟩ := info_parts rows_info
  obtain ⟨N, hN⟩ : ∃ m, m = min n 10 := ⟨_, rfl⟩
  have hpl : ps.length = n := by have := h.src.1; simpa using this
  have hlen : (someL ps).length = N := by rw [someL, List.length_map, List.length_take, hpl]; omega
  have hat : ∀ i : Nat, i < N → ∃ p, ps[i]? = some p ∧ (someL ps)[i]? = some (p.l.take (min p.n 40)) ∧ BytesIn w p.a p.n p.cap p.l := by
    intro i hi
    have h2 : i < ps.length := by omega
    refine ⟨ps[i], List.getElem?_eq_getElem h2, ?_, h.each _ (List.getElem_mem h2)⟩
    rw [someL, List.getElem?_map, List.getElem?_take, if_pos (by omega), List.getElem?_eq_getElem h2]; rfl
  obtain ⟨ts, hts⟩ : ∃ ts, someL ps = ts := ⟨_, rfl⟩
  rw [hts] at hlen hat ⊢
  have HPS := Lib.hid h.src; have HAT := Lib.hid hat; have HLEN := Lib.hid hlen
  have nN : N ≤ 10 := by omega
  have nM : N ≤ n := by omega
  have nS : N < n → N = 10 := by omega
  have nc := h.le; have nd := h.cap
  clear hN hpl hlen hat hts h
  have HS0 := Lib.hid (Sts.nil w)
  go_enter Try.func40, Try.ntmps40
  go_wp2
  go_loopw [3, 4] (fun v3 v4 wx => ∃ (i : Nat) (R1 R2 : List Ent) (qs : List Prt) (a : Option Addr) (k : Nat), i ≤ N ∧ v4 = .int .i64 i ∧ v3 = .slice a i k ∧ Hid (Row R1 23 1 a i k (qs.map Prt.v)) ∧ Hid (RowsOwn R2 qs) ∧ Hid (qs.map Prt.l = ts.take i) ∧ Hid (Sts w (R1 ++ (R2 ++ [])) wx)) (fun _ v4 _ => 10 - (intOf v4).toNat)
  case atStart => exact ⟨0, [], [], [], none, 0, Nat.zero_le _, rfl, rfl, Lib.hid (Row.nil _ _), Lib.hid RowsOwn.nil, Lib.hid (by simp), HS0⟩
  case round =>
    clear HS0
    obtain ⟨i, R1, R2, qs, a, k, hiN, rfl, rfl, HR, HRO, HPL, HS⟩ := hrel
    by_cases hlt : i < N
    · obtain ⟨p, hp, hq, hb⟩ := HAT.out i hlt
      obtain ⟨ad, rfl, hcell0⟩ := Parts.at_ HPS.out hp
      have hcell := HS.out.old hcell0
      obtain ⟨m, hm⟩ : ∃ m, min p.n 40 = m := ⟨_, rfl⟩
      rw [hm] at hq
      have hm2 : min (p.n : Int) 40 = (m : Int) := by omega
      have hmn : m ≤ p.n := by omega
      have hsrc := hb.src.cutHi hmn
      have hpc := hb.le
      have htk : ts.take (i + 1) = ts.take i ++ [p.l.take m] := by
        obtain ⟨h1, h2⟩ := List.getElem?_eq_some_iff.1 hq
        rw [List.take_succ_eq_append_getElem h1, h2]
      have HSRC := Lib.hid hsrc; have HTK := Lib.hid htk; have HC0 := Lib.hid hcell0
      have t1 : decide (i < n) = true := decide_eq_true (by omega)
      have t2 : decide ((i : Int) < 10) = true := decide_eq_true (by omega)
      have t3 : (0 : Int) ≤ i := by omega
      have t4 : (i : Int) < (n : Int) := by omega
      have t5 : (0 : Int) ≤ (m : Int) := by omega
      have t6 : (m : Int) ≤ (p.cap : Int) := by omega
      have t7 : m ≤ 40 := by omega
      clear hp hq hb hm hsrc htk hcell0
      generalize p.a = pa at *
      generalize p.n = pn at *
      generalize p.cap = pc at *
      generalize p.l.take m = t at *
      go_upto_region 5 with fail
      go_region_held3 (fun w' => w'.cell? (ad.add i) = some (.slice pa pn pc)) (first | go_keep | assumption) (first
        | ((first | (refine step_row_append (by rfl) (.tmp 16) (.tmp 27) 23 (by rfl) (R1 ++ R2) [] Try.underlying23 hi hz hs1 hs2 (by rfl) (by omega) (Row.empty wr.heap.size 5 1) (Sts.lit (HS.out.add (g := wr.heap.size) rfl #[] 5).drew (by simp)) (by rfl) (by rfl) ((HSRC.out.below HS.out.bel).alloc _).drew (bs_one _) (by omega) (by omega) ?_) | (refine step_row_append (by rfl) (.tmp 16) (.tmp 27) 23 (by rfl) (R1 ++ R2) [] Try.underlying23 hi hz hs1 hs2 (by rfl) (by omega) (Row.empty wr.heap.size 5 1) (Sts.lit (HS.out.drew.add (g := wr.heap.size) rfl #[] 5) (by simp)) (by rfl) (by rfl) ((HSRC.out.below HS.out.bel).drew.alloc _) (bs_one _) (by omega) (by omega) ?_)); rintro R3 a3 k3 w3 hR3 hS3; simp only [Nat.zero_add, List.nil_append] at hR3 hS3 ⊢; have hc3 := hS3.old HC0.out)
        | (refine step_row_append (by rfl) (.tmp 15) (.tmp 29) 51 (by rfl) [] (R2 ++ (R3 ++ [])) Try.underlying51 ri rz rs1 rs2 (by rfl) (by omega) HR.out (Sts.lit (hS3.skip _) (by simp)) (by rfl) (by rfl) (Src.new (size := 1) (m := 1) rfl rfl) (by simp [Value.oneCell']) (by omega) (by omega) ?_; rintro R4 a4 k4 w4 hR4 hS4; have hc4 := hS4.old HC0.out))
      all_goals
        have HR4 := Lib.hid (show Row R4 23 1 a4 (i + 1) k4 ((qs ++ [(⟨a3, m, k3, t⟩ : Prt)]).map Prt.v) from by rw [List.map_append]; exact hR4)
        have HR3 := Lib.hid hR3
        have HS4 := Lib.hid (show Sts w (R4 ++ ((R3 ++ R2) ++ [])) w4 from hS4.perm (by
          refine (List.perm_append_left_iff R4).2 ?_
          simp only [List.append_nil, List.nil_append]
          exact List.perm_append_comm))
        clear hR3 hS3 hR4 hS4 hc3 hc4
        go_wp2
        go_roundw
        case rel => exact ⟨i + 1, R4, R3 ++ R2, qs ++ [(⟨a3, m, k3, t⟩ : Prt)], a4, k4, by omega, by go_num, rfl, HR4, Lib.hid (HRO.out.snoc (p := (⟨a3, m, k3, t⟩ : Prt)) HR3.out), Lib.hid (by rw [List.map_append, HPL.out, HTK.out]; rfl), HS4⟩
        case measure => simp [intOf]; omega
    · obtain rfl : i = N := by omega
      have hall : qs.map Prt.l = ts := by rw [HPL.out, List.take_of_length_le (by rw [HLEN.out]; exact Nat.le_refl _)]
      have HALL := Lib.hid hall
      clear hall
      by_cases hin : i < n
      · have t1 : decide (i < n) = true := decide_eq_true hin
        have t2 : decide ((i : Int) < 10) = false := decide_eq_false (by have := nS hin; omega)
        clear nS
        go_wp2
        go_ret
        exact ⟨R1 ++ R2, a, k, i, rfl, HLEN.out.symm, ⟨R1, R2, qs, rfl, HR.out, HRO.out, HALL.out⟩, by simpa using HS.out⟩
      · have t1 : decide (i < n) = false := decide_eq_false hin
        clear nS
        go_wp2
        go_ret
        exact ⟨R1 ++ R2, a, k, i, rfl, HLEN.out.symm, ⟨R1, R2, qs, rfl, HR.out, HRO.out, HALL.out⟩, by simpa using HS.out⟩
end Go.Proofs.Ytefidbfhcpcgjaa

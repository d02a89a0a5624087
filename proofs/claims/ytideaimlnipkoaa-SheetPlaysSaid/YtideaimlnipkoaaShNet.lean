import Derived.Test.YtideaimlnipkoaaShH
import Derived.Deep.RegionHeld3
import Derived.Deep.DeepCutAuto
namespace Go.Proofs.Ytideaimlnipkoaa
open Go.RowKit
set_option linter.unusedVariables false
set_option linter.unusedSimpArgs false
def M50 : Int := 1125899906842624
/-- An entry brought into bounds. -/
def cl3 (e : Int × Int) : Int × Int := (within e.1 0 3, within e.2 (-1125899906842624) 1125899906842624)
def ownL (es : List (Int × Int)) (k : Nat) : List (Int × Int) := (es.take k).map cl3
theorem ownL_next {es : List (Int × Int)} {k : Nat} {e : Int × Int} (h : es[k]? = some e) : ownL es (k + 1) = ownL es k ++ [cl3 e] := by
  unfold ownL; rw [take_next h, List.map_append]; rfl
theorem ownL_len {es : List (Int × Int)} {k : Nat} (h : k ≤ es.length) : (ownL es k).length = k := by unfold ownL; simp; omega
theorem cl3_bd (e : Int × Int) : (0 ≤ (cl3 e).1 ∧ (cl3 e).1 < 4) ∧ -1125899906842624 ≤ (cl3 e).2 ∧ (cl3 e).2 ≤ 1125899906842624 := by
  have h1 := within_bd e.1 (lo := 0) (hi := 3) (by omega)
  have h2 := within_bd e.2 (lo := -1125899906842624) (hi := 1125899906842624) (by omega)
  unfold cl3
  exact ⟨⟨h1.1, by simp only; omega⟩, h2.1, h2.2⟩
theorem ownL_small (es : List (Int × Int)) (k : Nat) : Small 4 1125899906842624 (ownL es k) := by
  refine ⟨fun e he => ?_, fun e he => ?_⟩ <;>
  · obtain ⟨x, _, rfl⟩ := List.mem_map.1 he
    have := cl3_bd x
    first | exact this.1 | exact this.2
theorem ecs_one (es : List (Int × Int)) : ∀ u ∈ ecs es, u.oneCell' = true := by
  intro u hu
  obtain ⟨e, _, he⟩ := List.mem_flatMap.1 hu
  simp only [ec, List.mem_cons, List.not_mem_nil, or_false] at he
  rcases he with rfl | rfl <;> rfl
theorem ecs_app (a b : List (Int × Int)) : ecs (a ++ b) = ecs a ++ ecs b := by unfold ecs; rw [List.flatMap_append]
theorem Small.bd {n : Nat} {M : Int} {es : List (Int × Int)} (h : Small n M es) (hn : n ≤ 1000) (hM : M ≤ 4611686018427387904) : ∀ e ∈ es, Bd e.1 ∧ Bd e.2 := fun e he => by
  have h1 := h.acc e he; have h2 := h.amt e he
  unfold Bd; omega
theorem make_entries (n : Nat) (hn : n ≤ 1000000) (W : World) : (Instr.makeSlice 35 (.int .i64 (n : Int)) (.int .i64 (n : Int))).run Try.prog W = .ok (.slice (some ⟨W.heap.size, 0, none⟩) n n) (W.alloc (.cells (ZS n) 27)) := by
  obtain ⟨i0, hi, hz, hs1, hs2⟩ := info_parts entry_info
  have h := run_makeSlice (P := Try.prog) W 35 27 i0 _ Try.underlying35 hi hz .i64 .i64 (n : Int) n (by omega) (by omega) (by rw [hs1]; omega) (by rw [hs2]; omega) (by omega)
  rw [hs1, Int.toNat_natCast] at h
  exact h
theorem Src.lit {W : World} {A : Option Addr} {n size : Nat} {xs ys : List Value} (h : Src W A n size xs) (e : xs = ys) : Src W A n size ys := e ▸ h
theorem src_arr {W : World} {l : List Value} {t : TypeId} {m size : Nat} (hl : l.length = m * size) {g : Nat} (hg : g = W.heap.size) : Src (W.alloc (.cells l.toArray t)) (some ⟨g, 0, none⟩) m size l := by
  have := Src.new (W := W) (size := size) (cs := l.toArray) (t := t) (m := m) (by simpa using hl) hg
  simpa using this
theorem net_row {w0 W : World} {L R : List Ent} {a : Option Addr} {n n' cap : Nat} {es : List (Int × Int)} {s : Int} (hR : Row R 27 2 a n' cap (ecs es)) (hS : Sts w0 L W) (hm : ∀ x ∈ R, x ∈ L) (hb : ∀ e ∈ es, Bd e.1 ∧ Bd e.2) (hn : n ≤ 1000000) (e : netF es = (s, true)) (h' : n' = n) :
    Calls Try.prog 15 #[.slice a n cap] W fun e w' => e = .returned (.tuple #[.int .i64 s, .bool true]) ∧ Below W.heap.size W w' := by
  subst h'
  have := net_calls a n' cap es W ⟨hR.srcIn hS hm, hb⟩ hn
  rwa [e] at this
theorem Src.drew {W : World} {A : Option Addr} {n size : Nat} {xs : List Value} (h : Src W A n size xs) : Src W.drew A n size xs := h
theorem Sts.cellM {w0 W : World} {L : List Ent} {g : Nat} {cs : Array Value} {t : TypeId} (h : Sts w0 L W) (hm : (g, cs, t) ∈ L) (i : Nat) {v : Value} (hv : cs[i]? = some v) : W.cell? ⟨g, i, none⟩ = some v := (((sts_iff.1 h).1 _ hm).1.cell i).trans hv
theorem Sts.frozenM {w0 W : World} {L : List Ent} {g : Nat} {cs : Array Value} {t : TypeId} (h : Sts w0 L W) (hm : (g, cs, t) ∈ L) (i : Nat) : W.frozen? ⟨g, i, none⟩ = false := ((sts_iff.1 h).1 _ hm).1.frozen i
set_option maxHeartbeats 16000000 in
set_option maxRecDepth 100000 in
theorem sheetNet_walk (A1 : Option Addr) (n1 c1 : Nat) (es : List (Int × Int)) (cut : Int) (w : World) (h1 : Pairs w A1 n1 es) (hcut : -9223372036854775808 ≤ cut ∧ cut ≤ 9223372036854775807) :
    Calls Try.prog 5 #[.slice A1 n1 c1, .int .i64 cut] w fun e w' => e = .returned (.bool true) ∧ Below w.heap.size w w' := by
  obtain ⟨i0, hi, hz, hs1, hs2⟩ := info_parts entry_info
  have N1 := h1.most
  have hE := h1.ents
  have hlen := hE.len
  have H := Lib.hid hE; have HL := Lib.hid hlen
  clear h1 hE hlen
  have HS0 := Lib.hid (Sts.nil w)
  go_enter Try.func5, Try.ntmps5
  go_upto_block 0 with fail
  go_cut [5, 6] (fun v5 v6 wc => ∃ (k : Nat) (own : List (Int × Int)) (R : List Ent) (A : Option Addr) (cap : Nat) (s : Int), k ≤ 40 ∧ v5 = .slice A k cap ∧ v6 = .int .i64 s ∧ Hid ((amts own).sum = s) ∧ Hid (own.length = k) ∧ Hid (Small 4 1125899906842624 own) ∧ Hid (Row R 27 2 A k cap (ecs own)) ∧ Hid (Sts w (R ++ []) wc))
  case first =>
    go_wp2_with fail
    go_loopw [5, 6, 7] (fun v5 v6 v7 wr => ∃ (k : Nat) (R : List Ent) (A : Option Addr) (cap : Nat) (s : Int), k ≤ 40 ∧ k ≤ n1 ∧ v5 = .slice A k cap ∧ v6 = .int .i64 s ∧ v7 = .int .i64 k ∧ Hid ((amts (ownL es k)).sum = s) ∧ Hid (Row R 27 2 A k cap (ecs (ownL es k))) ∧ Hid (Sts w (R ++ []) wr)) (fun v5 v6 v7 _ => 40 - (intOf v7).toNat)
    case atStart => exact ⟨0, [], none, 0, 0, by omega, by omega, rfl, rfl, rfl, Lib.hid rfl, Lib.hid (Row.nil _ _), HS0⟩
    case round =>
      obtain ⟨k, R, A, cap, s, hk, hk1, rfl, rfl, rfl, HSUM, HR, HSr⟩ := hrel
      clear HS0
      have hsb := (ownL_small es k).sum (by omega)
      rw [HSUM.out, ownL_len (by rw [HL.out]; exact hk1)] at hsb
      obtain ⟨s0, s1⟩ := hsb
      replace s0 : -45035996273704960 ≤ s := by omega
      replace s1 : s ≤ 45035996273704960 := by omega
      by_cases q1 : k < n1 ∧ k < 40
      · obtain ⟨q2, q3⟩ := q1
        obtain ⟨ad, e, rfl, hg, hd, d1, d2, hc0, hc1⟩ := H.out.at_ q2
        replace hc0 := HSr.out.old hc0
        replace hc1 := HSr.out.old hc1
        have hnx := ownL_next hg
        obtain ⟨ce0, ce1⟩ := cl3_bd e
        have hce : cl3 e = (within e.1 0 3, within e.2 (-1125899906842624) 1125899906842624) := rfl
        have HCE := Lib.hid hce
        have HN := Lib.hid hnx
        generalize cl3 e = ce at *
        obtain ⟨p, q⟩ := ce
        obtain ⟨e1, e2⟩ := e
        simp only at hc0 hc1 ce0 ce1
        clear hnx hce hg hd d1 d2
        have i0 : (0 : Int) ≤ (k : Int) := by omega
        have i1 : (k : Int) < (n1 : Int) := by omega
        have b0 : decide ((k : Int) < 40) = true := decide_eq_true (by omega)
        have b1 : decide (k < n1) = true := decide_eq_true q2
        go_upto_region 6 with fail
        go_cut [8] (fun v8 wc => ∃ gn, v8 = .pointer (some ⟨gn, 0, none⟩) ∧ Hid (Sts w ((R ++ []) ++ [(gn, #[.int .i64 p, .int .i64 q], 27)]) wc))
        case first =>
          go_region_held3 (fun w' => w'.cell? (ad.add (k * 2)) = some (.int .i64 e1) ∧ w'.cell? ⟨(ad.add (k * 2)).block, (ad.add (k * 2)).off + 1, none⟩ = some (.int .i64 e2)) (first | exact ⟨hc0, hc1⟩ | go_keep) ((go_at_call 14; refine (within_calls _ _ _ _ (by omega) (by omega) (by omega)).mono ?_; rintro e w' ⟨rfl, rfl⟩))
          all_goals
            obtain ⟨rfl, rfl⟩ := Prod.mk.inj HCE.out
            go_wp2_with fail
            go_meet
            exact ⟨_, rfl, Lib.hid (HSr.out.add rfl _ _).drew⟩
        case rest =>
          obtain ⟨gn, rfl, HS2⟩ := hcut
          have hs2 := Sts.lit (L' := [] ++ (R ++ [(gn, #[.int .i64 p, .int .i64 q], 27)])) HS2.out (by simp)
          have n0 := HS2.out.cellM (g := gn) (cs := #[.int .i64 p, .int .i64 q]) (t := 27) (by simp) 0 (v := .int .i64 p) rfl
          have n1 := HS2.out.cellM (g := gn) (cs := #[.int .i64 p, .int .i64 q]) (t := 27) (by simp) 1 (v := .int .i64 q) rfl
          have HS3 := Lib.hid hs2
          clear hs2 HS2 hc0 hc1 HSr HCE i0 i1
          go_upto_region 8 with (at_builtin; go_must (refine row_append (by rfl) (.tmp 42) (.tmp 44) 35 rfl [] [(gn, #[.int .i64 p, .int .i64 q], 27)] Try.underlying35 hi hz hs1 hs2 rfl (by omega) HR.out (HS3.out.skip _) rfl rfl (Src.new (size := 2) (m := 1) rfl rfl) (ecs_one [(p, q)]) (by omega) (by omega) ?_); rintro R3 a3 c3 w3 hR3 hS3)
          have hR4 : Row R3 27 2 a3 (k + 1) c3 (ecs (ownL es (k + 1))) := by rw [HN.out, ecs_app]; exact hR3
          have HR4 := Lib.hid hR4
          have HS4 := Lib.hid hS3
          have hsum : (amts (ownL es (k + 1))).sum = s + q := by rw [HN.out]; unfold amts at *; rw [List.map_append, List.sum_append, HSUM.out]; simp
          have HSUM2 := Lib.hid hsum
          clear hR3 hR4 hS3 n0 n1 HS3 hsum HR
          have n1 := HS4.out.cellM (g := gn) (cs := #[.int .i64 p, .int .i64 q]) (t := 27) (by simp) 1 (v := .int .i64 q) rfl
          go_wp2_with fail
          go_roundw
          case rel => exact ⟨k + 1, R3, a3, c3, s + q, by omega, by omega, rfl, rfl, by go_num, HSUM2, HR4, Lib.hid (HS4.out.sub (by simp))⟩
          case measure => simp [intOf]; omega
      · by_cases q2 : k < n1
        · have b1 : decide (k < n1) = true := decide_eq_true q2
          have b0 : decide ((k : Int) < 40) = false := decide_eq_false (by omega)
          go_wp2_with fail
          go_meet
          exact ⟨k, ownL es k, R, A, cap, s, hk, rfl, rfl, HSUM, Lib.hid (ownL_len (by rw [HL.out]; exact hk1)), Lib.hid (ownL_small es k), HR, HSr⟩
        · have b1 : decide (k < n1) = false := decide_eq_false q2
          go_wp2_with fail
          go_meet
          exact ⟨k, ownL es k, R, A, cap, s, hk, rfl, rfl, HSUM, Lib.hid (ownL_len (by rw [HL.out]; exact hk1)), Lib.hid (ownL_small es k), HR, HSr⟩
  case rest =>
    obtain ⟨m, own, R, A, cap, s, hm, rfl, rfl, HSUM, HOL, HSM, HR, HS⟩ := hcut
    clear HS0 H HL
    obtain ⟨kk, hkk, hkm⟩ : ∃ c : Nat, within cut 0 (m : Int) = c ∧ c ≤ m := by
      have := within_bd cut (lo := 0) (hi := (m : Int)) (by omega)
      exact ⟨(within cut 0 (m : Int)).toNat, by omega, by omega⟩
    have HKK := Lib.hid hkk
    have hcap := HR.out.le
    have hcap2 := HR.out.cap_le
    clear hkk
    go_wp2_with fail
    refine (within_calls cut 0 m _ (by omega) (by omega) (by omega)).mono ?_
    rw [HKK.out]
    rintro e w' ⟨rfl, rfl⟩
    have hown := HR.out.src [] [] (Sts.lit (L' := [] ++ (R ++ [])) HS.out (by simp))
    have HSO := Lib.hid (⟨hown, HSM.out.bd (by omega) (by omega)⟩ : Ents wc A m own)
    have hnet := net_small HSM.out (by rw [HOL.out]; omega) (by omega) (by omega) (by rw [HOL.out]; omega)
    have HNET := Lib.hid hnet
    clear hown hnet HKK
    go_wp2_with fail
    refine (net_calls A m cap own _ HSO.out (by omega)).mono ?_
    rw [HNET.out, HSUM.out]
    rintro e w2 ⟨rfl, hb2⟩
    have HB2 := Lib.hid hb2
    have HS2 := Lib.hid (HS.out.below hb2)
    clear hb2 HSO HS
    go_upto_region 11 with fail
    have j0 : (0 : Int) ≤ (kk : Int) := by omega
    have j1 : (kk : Int) ≤ (m : Int) := by omega
    have j2 : (kk : Int) ≤ (cap : Int) := by omega
    have hS0 := Sts.lit (L' := [] ++ (R ++ [])) HS2.out (by simp)
    have hlo := HR.out.src_drop [] [] hS0 hkm
    have hhi := HR.out.src_take [] [] hS0 hkm
    have hd2 : (ecs own).drop (kk * 2) = ecs (own.drop kk) := flat_drop ec 2 ec_length own kk
    have ht2 : (ecs own).take (kk * 2) = ecs (own.take kk) := flat_take ec 2 ec_length own kk
    rw [hd2] at hlo
    rw [ht2] at hhi
    have HLO := Lib.hid hlo; have HHI := Lib.hid hhi
    clear hS0 hlo hhi hd2 ht2
    go_cut [12, 13] (fun v12 v13 wc => v12 = .int .i64 s ∧ v13 = .bool true ∧ Hid (Sts w (R ++ []) wc))
    case first =>
      have HSE := Lib.hid (((Sts.nil w2).add (g := w2.heap.size) rfl #[] 27).drew)
      have hperm : (own.drop kk ++ own.take kk).length = m ∧ (amts (own.drop kk ++ own.take kk)).sum = s := by
        have e1 := List.take_append_drop kk own
        have e2 : (amts own).sum = (amts (own.take kk)).sum + (amts (own.drop kk)).sum := by
          have := congrArg (fun l => (amts l).sum) e1
          unfold amts at this ⊢
          simp only [List.map_append, List.sum_append] at this
          omega
        have e3 := congrArg List.length e1
        rw [List.length_append, HOL.out] at e3
        refine ⟨by rw [List.length_append]; omega, ?_⟩
        rw [← HSUM.out, e2]
        unfold amts
        rw [List.map_append, List.sum_append]
        omega
      have hsr : Small 4 1125899906842624 (own.drop kk ++ own.take kk) := HSM.out.sub (fun e he => by
        rcases List.mem_append.1 he with h | h
        · exact List.mem_of_mem_drop h
        · exact List.mem_of_mem_take h)
      have hnr := net_small hsr (by rw [hperm.1]; omega) (by omega) (by omega) (by rw [hperm.1]; omega)
      rw [hperm.2] at hnr
      have HRN := Lib.hid hnr
      have HRB := Lib.hid (hsr.bd (by omega) (by omega))
      clear hperm hsr hnr
      by_cases hck : cap = kk
      · obtain rfl : m = kk := by omega
        obtain rfl := hck
        have hlo : Src w2 A 0 2 (ecs []) := ⟨rfl, fun h => absurd h (by omega)⟩
        have hd0 : own.drop cap ++ own.take cap = own := by
          rw [List.drop_of_length_le (by rw [HOL.out]; omega), List.take_of_length_le (by rw [HOL.out]; omega), List.nil_append]
        have ht0 : own.take cap = own := List.take_of_length_le (by rw [HOL.out]; omega)
        have HHI := Lib.hid (by have := HHI.out; rw [ht0] at this; exact this : Src w2 A cap 2 (ecs own))
        have HRN := Lib.hid (by have := HRN.out; rw [hd0] at this; exact this : netF own = (s, true))
        have HRB := Lib.hid (by have := HRB.out; rw [hd0] at this; exact this : ∀ e ∈ own, Bd e.1 ∧ Bd e.2)
        have HLO := Lib.hid hlo
        have s1 : cap - cap = 0 := by omega
        clear hlo hd0 ht0
        go_region_law (first
          | (refine step_row_append (by rfl) (.tmp 60) (.tmp 63) 35 (by rfl) [] [] Try.underlying35 hi hz hs1 hs2 (by rfl) (by omega) (Row.empty _ _ _) HSE.out (by rfl) (by rfl) (HLO.out.alloc _).drew (ecs_one _) (by omega) (by omega) ?_; rintro R3 a3 k3 w3 hR3 hS3; simp only [Nat.zero_add, List.nil_append] at hR3 hS3 ⊢)
          | (refine step_row_append (by rfl) (.tmp 64) (.tmp 67) 35 (by rfl) [] [] Try.underlying35 hi hz hs1 hs2 (by rfl) (by omega) hR3 hS3 (by rfl) (by rfl) (HHI.out.below hS3.bel) (ecs_one _) (by omega) (by omega) ?_; rintro R4 a4 k4 w4 hR4 hS4; simp only [Nat.zero_add, List.nil_append] at hR4 hS4 ⊢)
          | (go_simp; go_at_call 15; refine (net_row hR4 hS4 (fun _ h => List.mem_append_left _ h) HRB.out (by omega) HRN.out (by omega)).mono ?_; rintro e w5 ⟨rfl, hb5⟩))
        all_goals
          have HS5 := Lib.hid (HS2.out.below (bel_then hS4.bel hb5 hS4.bel.size))
          clear hS4 hb5 hR3 hS3 hR4 HS2
          go_wp2_with fail
          go_meet
          exact ⟨rfl, rfl, HS5⟩
      · have hlo := HLO.out
        rw [if_neg hck] at hlo
        have HLO := Lib.hid hlo
        clear hlo
        go_region_law (first
          | (refine step_row_append (by rfl) (.tmp 60) (.tmp 63) 35 (by rfl) [] [] Try.underlying35 hi hz hs1 hs2 (by rfl) (by omega) (Row.empty _ _ _) HSE.out (by rfl) (by rfl) (HLO.out.alloc _).drew (ecs_one _) (by omega) (by omega) ?_; rintro R3 a3 k3 w3 hR3 hS3; simp only [Nat.zero_add, List.nil_append] at hR3 hS3 ⊢)
          | (refine step_row_append (by rfl) (.tmp 64) (.tmp 67) 35 (by rfl) [] [] Try.underlying35 hi hz hs1 hs2 (by rfl) (by omega) hR3 hS3 (by rfl) (by rfl) (HHI.out.below hS3.bel) (ecs_one _) (by omega) (by omega) ?_; rintro R4 a4 k4 w4 hR4 hS4; simp only [Nat.zero_add, List.nil_append] at hR4 hS4 ⊢)
          | (go_simp; go_at_call 15; refine (net_row (by rw [ecs_app]; exact hR4 : Row R4 27 2 a4 (m - kk + kk) k4 (ecs (own.drop kk ++ own.take kk))) hS4 (fun _ h => List.mem_append_left _ h) HRB.out (by omega) HRN.out (by omega)).mono ?_; rintro e w5 ⟨rfl, hb5⟩))
        all_goals
          have HS5 := Lib.hid (HS2.out.below (bel_then hS4.bel hb5 hS4.bel.size))
          clear hS4 hb5 hR3 hS3 hR4 HS2
          go_wp2_with fail
          go_meet
          exact ⟨rfl, rfl, HS5⟩
    case rest =>
      obtain ⟨rfl, rfl, HS3⟩ := hcut
      clear HLO HHI HS2 j0 j1 j2 HB2
      have hmk : ∀ W, (Instr.makeSlice 35 (.int .i64 65) (.int .i64 65)).run Try.prog W = .ok (.slice (some ⟨W.heap.size, 0, none⟩) 65 65) (W.alloc (.cells (ZS 65) 27)) := fun W => make_entries 65 (by omega) W
      rw [ZS_eq] at hmk
      have hz65 : (List.replicate 65 ((0 : Int), (0 : Int))).length = 65 := List.length_replicate
      have hzb : ∀ e ∈ List.replicate 65 ((0 : Int), (0 : Int)), Bd e.1 ∧ Bd e.2 := by
        intro e he
        obtain rfl := List.eq_of_mem_replicate he
        exact ⟨bd_of rfl, bd_of rfl⟩
      generalize List.replicate 65 ((0 : Int), (0 : Int)) = z65 at *
      have HZ := Lib.hid hz65; have HZB := Lib.hid hzb
      have HZN := Lib.hid (net_big (es := z65) (by rw [hz65]; omega))
      clear hz65 hzb
      go_wp2_with fail
      refine (net_calls _ 65 65 z65 _ ⟨src_arr (by rw [ecs_length, HZ.out]) rfl, HZB.out⟩ (by omega)).mono ?_
      rw [HZN.out]
      rintro e w4 ⟨rfl, hb4⟩
      have HS4 := Lib.hid ((HS3.out.skip _).below hb4)
      clear hb4 hmk HZ HZB HZN HS3
      go_wp2_with fail
      refine (net_calls none 0 0 [] _ ⟨Src.nil _ _, by simp⟩ (by omega)).mono ?_
      rw [show netF [] = (0, true) from rfl]
      rintro e w5 ⟨rfl, hb5⟩
      have HS5 := Lib.hid (HS4.out.below hb5)
      clear hb5 HS4
      go_wp2_with fail
      refine (new_calls (w0 := w) (L := R ++ []) 4 4 (by decide) HS5.out).mono ?_
      rintro e w6 ⟨g, rfl, hs⟩
      have S6 := Lib.hid (show ShAt w (R ++ []) g [0, 0, 0, 0] 0 w6 from hs)
      have hsrc := hs.src HR.out (fun x hx => by simp [hx])
      have HE := Lib.hid (⟨hsrc, HSM.out.bd (by omega) (by omega)⟩ : Ents w6 A m own)
      clear hs hsrc HS5
      have d1 : (s == s) = true := by simp
      have d2 : ((0 : Int) == 0) = true := by simp
      by_cases hs0 : s = 0
      · have d3 : (s == 0) = true := by rw [beq_iff_eq]; exact hs0
        by_cases hm0 : 0 < m
        · have d4 : decide (0 < m) = true := decide_eq_true hm0
          have hp := post_small (bal := [0, 0, 0, 0]) (B := 0) HSM.out (by rw [HOL.out]; omega) (by omega) (by omega) (fun x hx => by simp at hx; omega) (by rw [HOL.out]; omega) (by omega) (by rw [HSUM.out]; exact hs0) (fun he => by have := HOL.out; rw [he] at this; simp at this; omega)
          have HP := Lib.hid hp
          clear hp hs0 hm0
          go_wp2_with fail
          refine (post_yes own S6.out HE.out (by omega) (by decide) (bds_of _ rfl) (by decide) HP.out).mono ?_
          rintro e w7 ⟨rfl, hs7⟩
          have B7 := Lib.hid hs7.bel
          clear hs7
          go_wp2_with fail
          refine (sheetRuns_b B7.out).mono ?_
          rintro e w8 ⟨rfl, hb8⟩
          have B8 := Lib.hid hb8
          clear hb8
          go_wp2
          go_ret
          exact ⟨rfl, B8.out⟩
        · have d4 : decide (0 < m) = false := decide_eq_false hm0
          have hp := post_uneven (bal := [0, 0, 0, 0]) HSM.out (by rw [HOL.out]; omega) (by omega) (by omega) (by rw [HOL.out]; omega) (.inr (List.eq_nil_of_length_eq_zero (by rw [HOL.out]; omega)))
          have HP := Lib.hid hp
          clear hp hs0 hm0
          go_wp2_with fail
          refine (post_none own S6.out HE.out (by omega) (by decide) (bds_of _ rfl) (by decide) HP.out).mono ?_
          rintro e w7 ⟨rfl, hs7⟩
          have B7 := Lib.hid hs7.bel
          clear hs7
          go_wp2_with fail
          refine (sheetRuns_b B7.out).mono ?_
          rintro e w8 ⟨rfl, hb8⟩
          have B8 := Lib.hid hb8
          clear hb8
          go_wp2
          go_ret
          exact ⟨rfl, B8.out⟩
      · have d3 : (s == 0) = false := by rw [beq_eq_false_iff_ne]; exact hs0
        have hp := post_uneven (bal := [0, 0, 0, 0]) HSM.out (by rw [HOL.out]; omega) (by omega) (by omega) (by rw [HOL.out]; omega) (.inl (by rw [HSUM.out]; exact hs0))
        have HP := Lib.hid hp
        clear hp hs0
        go_wp2_with fail
        refine (post_none own S6.out HE.out (by omega) (by decide) (bds_of _ rfl) (by decide) HP.out).mono ?_
        rintro e w7 ⟨rfl, hs7⟩
        have B7 := Lib.hid hs7.bel
        clear hs7
        go_wp2_with fail
        refine (sheetRuns_b B7.out).mono ?_
        rintro e w8 ⟨rfl, hb8⟩
        have B8 := Lib.hid hb8
        clear hb8
        go_wp2
        go_ret
        exact ⟨rfl, B8.out⟩
end Go.Proofs.Ytideaimlnipkoaa

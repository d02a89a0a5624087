import Derived.Test.YtllbpjaiplnbnaaLossTarget
import Derived.Test.YtllbpjaiplnbnaaNoteTotal
import Derived.Test.YtllbpjaiplnbnaaSegT
namespace Go.Proofs.Ytllbpjaiplnbnaa
open Go.RowKit
set_option linter.unusedVariables false
set_option linter.unusedSimpArgs false
theorem add_posn (ad : Addr) (n : Nat) (h : 0 < n) : ad.add n = ⟨ad.block, ad.off + n, none⟩ := by unfold Addr.add; rw [if_neg (by omega)]
/-- A note of four numbers. -/
def mkN (a b c d : Int) : Nt := ⟨within a 0 3, within b 0 900, 0, wi (within c 0 500) (within b 0 900), 0, 0, wi (within d 0 500) (within b 0 900 - wi (within c 0 500) (within b 0 900))⟩
def nth (z : List Int) (k : Nat) : Nt := mkN (z.getD (4 * k) 0) (z.getD (4 * k + 1) 0) (z.getD (4 * k + 2) 0) (z.getD (4 * k + 3) 0)
/-- The notes of numbers. -/
def notesN (z : List Int) (k : Nat) : List Nt := (List.range k).map (nth z)
theorem notesN_next (z : List Int) (k : Nat) : notesN z (k + 1) = notesN z k ++ [nth z k] := by unfold notesN; rw [List.range_succ, List.map_append]; rfl
theorem notesN_length (z : List Int) (k : Nat) : (notesN z k).length = k := by unfold notesN; simp
theorem ncs_app (a b : List Nt) : (a ++ b).flatMap Nt.c = a.flatMap Nt.c ++ b.flatMap Nt.c := by rw [List.flatMap_append]
theorem ncs_one (l : List Nt) : ∀ u ∈ l.flatMap Nt.c, u.oneCell' = true := by
  intro u hu
  obtain ⟨r, _, hu⟩ := List.mem_flatMap.1 hu
  unfold Nt.c at hu
  simp only [List.mem_cons, List.not_mem_nil, or_false] at hu
  rcases hu with rfl | rfl | rfl | rfl | rfl | rfl | rfl <;> rfl
/-- What holds of each of them. -/
structure Made (z : Nt) : Prop where
  r0 : 0 ≤ z.r
  r1 : z.r ≤ 3
  og0 : 0 ≤ z.og
  og1 : z.og ≤ 900
  rt : z.rt = 0
  sh : z.sh = 0
  j : z.j = 0
  i0 : 0 ≤ z.i
  i1 : z.i ≤ z.og
  dn0 : 0 ≤ z.dn
  dn1 : z.dn ≤ z.og - z.i
theorem mkN_made (a b c d : Int) : Made (mkN a b c d) := by
  obtain ⟨r0, r1⟩ := within_bd a (lo := 0) (hi := 3) (by omega)
  obtain ⟨b0, b1⟩ := within_bd b (lo := 0) (hi := 900) (by omega)
  have x0 := wi_bd (within c 0 500) (within b 0 900)
  have x1 := wi_le (within c 0 500) b0
  have y0 := wi_bd (within d 0 500) (within b 0 900 - wi (within c 0 500) (within b 0 900))
  have y1 := wi_le (within d 0 500) (show 0 ≤ within b 0 900 - wi (within c 0 500) (within b 0 900) by omega)
  exact ⟨r0, r1, b0, b1, rfl, rfl, rfl, x0, x1, y0, y1⟩
theorem Made.lossy {z : Nt} (h : Made z) : Lossy z := ⟨h.j, h.i0, by have := h.i1; have := h.og1; omega, by have := h.og1; omega, by unfold Nt.bal; have := h.dn1; have := h.j; omega, by have := h.sh; omega, by have := h.sh; omega, h.dn0⟩
theorem notesN_made (z : List Int) (k : Nat) : ∀ q ∈ notesN z k, Made q := by
  intro q hq
  obtain ⟨i, _, rfl⟩ := List.mem_map.1 hq
  exact mkN_made _ _ _ _
set_option maxHeartbeats 8000000 in
set_option maxRecDepth 100000 in
theorem notes_calls (A1 : Option Addr) (n1 c1 : Nat) (z1 : List Int) (w : World) (h1 : Ints w A1 n1 z1) :
    Calls Try.prog 29 #[.slice A1 n1 c1] w fun e w' => ∃ (m : Nat) (R : List Ent) (a : Option Addr) (cap : Nat), m = min 6 (n1 / 4) ∧ e = .returned (.slice a m cap) ∧ Row R 27 7 a m cap ((notesN z1 m).flatMap Nt.c) ∧ Sts w R w' := by
  obtain ⟨i0, hi, hz, hs1, hs2⟩ := info_parts note_info
  have H1 := Lib.hid h1
  clear h1
  have HS0 := Lib.hid (Sts.nil w)
  go_enter Try.func29, Try.ntmps29
  go_wp2_with fail
  go_loopw [3, 4] (fun v3 v4 wr => ∃ (k i : Nat) (R : List Ent) (A : Option Addr) (cap : Nat), v3 = .slice A k cap ∧ v4 = .int .i64 i ∧ k ≤ 6 ∧ 4 * k ≤ i ∧ i ≤ 4 * k ∧ 4 * k ≤ n1 ∧ Hid (Row R 27 7 A k cap ((notesN z1 k).flatMap Nt.c)) ∧ Hid (Sts w (R ++ []) wr)) (fun v3 v4 _ => 24 - (intOf v4).toNat)
  case atStart => exact ⟨0, 0, [], none, 0, rfl, rfl, by omega, by omega, by omega, by omega, Lib.hid (Row.nil _ _), HS0⟩
  case round =>
    obtain ⟨k, i, R, A, cap, rfl, rfl, hk, hk1, hk2, hk3, HR, HSr⟩ := hrel
    clear HS0
    by_cases q1 : i + 3 < n1 ∧ k < 6
    · obtain ⟨q2, q3⟩ := q1
      obtain ⟨ad0, hA0, hc0⟩ := H1.out.at_ (i + 0) (by omega)
      have HC0 := Lib.hid hc0
      replace hc0 := HSr.out.old hc0
      obtain ⟨ad1, hA1, hc1⟩ := H1.out.at_ (i + 1) (by omega)
      have HC1 := Lib.hid hc1
      replace hc1 := HSr.out.old hc1
      obtain ⟨ad2, hA2, hc2⟩ := H1.out.at_ (i + 2) (by omega)
      have HC2 := Lib.hid hc2
      replace hc2 := HSr.out.old hc2
      obtain ⟨ad3, hA3, hc3⟩ := H1.out.at_ (i + 3) (by omega)
      have HC3 := Lib.hid hc3
      replace hc3 := HSr.out.old hc3
      obtain ⟨a, ha⟩ : ∃ a, a = z1.getD (i + 0) 0 := ⟨_, rfl⟩; obtain ⟨b, hb⟩ : ∃ a, a = z1.getD (i + 1) 0 := ⟨_, rfl⟩; obtain ⟨c, hc⟩ : ∃ a, a = z1.getD (i + 2) 0 := ⟨_, rfl⟩; obtain ⟨d, hd⟩ : ∃ a, a = z1.getD (i + 3) 0 := ⟨_, rfl⟩
      have hnth : nth z1 k = mkN a b c d := by unfold nth; rw [ha, hb, hc, hd, show i = 4 * k from by omega]; rfl
      rw [← ha] at hc0 HC0; rw [← hb] at hc1 HC1; rw [← hc] at hc2 HC2; rw [← hd] at hc3 HC3
      have hnx := notesN_next z1 k
      rw [hnth] at hnx
      have HN := Lib.hid hnx
      clear hnth hnx ha hb hc hd
      obtain rfl : ad1 = ad0 := Option.some.inj (hA1.symm.trans hA0); obtain rfl : ad2 = ad1 := Option.some.inj (hA2.symm.trans hA0); obtain rfl : ad3 = ad2 := Option.some.inj (hA3.symm.trans hA0)
      clear hA1 hA2 hA3
      obtain rfl := hA0
      simp only [Nat.add_zero] at hc0 HC0
      rw [add_posn _ _ (by omega)] at hc1 hc2 hc3 HC1 HC2 HC3
      have hu0 : IntKind.i64.wrap ((i : Int) + 3) = (i : Int) + 3 := IntWalk.i64_in _ (by omega)
      have hb0 : decide ((i : Int) + 3 < (n1 : Int)) = true := decide_eq_true (by omega)
      have hb1 : decide ((k : Int) < 6) = true := decide_eq_true (by omega)
      have hb2 : decide (k < 6) = true := decide_eq_true (by omega)
      have hu : (0 : Int) ≤ (i : Int) := by omega
      have hu2 : (i : Int) < (n1 : Int) := by omega
      have hu3 : ((i : Int) + 1) < (n1 : Int) := by omega
      have hu4 : IntKind.i64.wrap ((i : Int) + 1) = (i : Int) + 1 := IntWalk.i64_in _ (by omega)
      have hu5 : ((i : Int) + 1).toNat = i + 1 := by omega
      have hu6 : ((i : Int) + 2) < (n1 : Int) := by omega
      have hu7 : IntKind.i64.wrap ((i : Int) + 2) = (i : Int) + 2 := IntWalk.i64_in _ (by omega)
      have hu8 : ((i : Int) + 2).toNat = i + 2 := by omega
      have hu9 : ((i : Int) + 3) < (n1 : Int) := by omega
      have hv1 : ((i : Int) + 3).toNat = i + 3 := by omega
      have hu10 : (0 : Int) ≤ (i : Int) + 1 := by omega
      have hu11 : (0 : Int) ≤ (i : Int) + 2 := by omega
      have hu12 : (0 : Int) ≤ (i : Int) + 3 := by omega
      have HQ := Lib.hid (show k + 1 ≤ 6 ∧ 4 * (k + 1) ≤ i + 4 ∧ i + 4 ≤ 4 * (k + 1) ∧ 4 * (k + 1) ≤ n1 from by omega)
      go_upto_region 5 with fail
      go_cut [5] from 18 to 30 (fun v5 wc => ∃ g5 : Nat, v5 = .pointer (some ⟨g5, 0, none⟩) ∧ Hid (Sts w ([(g5, #[.int .i64 (within a 0 3), .int .i64 (within b 0 900), .int .i64 0, .int .i64 0, .int .i64 0, .int .i64 0, .int .i64 0], 27)] ++ (R ++ [])) wc))
      case first =>
        have HB5 := Lib.hid (show Sts w (R ++ []) wr.drew from HSr.out.drew)
        clear hc2 hc3 hb0 hb1 hb2 hu6 hu7 hu8 hu9 hv1 hi hz hs1 hs2 HR HN HSr
        refine wp_region_T (fun w' => w'.cell? (ad3.add i) = some (.int .i64 a) ∧ w'.cell? ⟨ad3.block, ad3.off + (i + 1), none⟩ = some (.int .i64 b)) 14 (by kernel_rfl) ?_
        refine wpAnyT_take (i := 0) 15 (v := .slice (some ad3) n1 c1) rfl (by kernel_rfl) (fun _ _ _ h => h) (Or.inl ⟨by rfl, by (intro w' hSw; (try dsimp only at hSw); go_simp)⟩) ⟨hc0, hc1⟩ ?_
        (try simp only [Act.put, List.getElem_toArray, List.getElem_cons_zero, List.getElem_cons_succ, List.setIfInBounds_toArray, List.set_cons_zero, List.set_cons_succ])
        refine wpAnyT_take (i := 1) 15 (v := .int .i64 i) rfl (by kernel_rfl) (fun _ _ _ h => h) (Or.inl ⟨by rfl, by (intro w' hSw; (try dsimp only at hSw); go_simp)⟩) ⟨hc0, hc1⟩ ?_
        (try simp only [Act.put, List.getElem_toArray, List.getElem_cons_zero, List.getElem_cons_succ, List.setIfInBounds_toArray, List.set_cons_zero, List.set_cons_succ])
        refine wpAnyT_take (i := 2) 15 (v := .pointer (some (ad3.add i))) rfl (by kernel_rfl) (fun _ _ _ h => h) (Or.inl ⟨by rfl, by (intro w' hSw; (try dsimp only at hSw); go_simp)⟩) ⟨hc0, hc1⟩ ?_
        (try simp only [Act.put, List.getElem_toArray, List.getElem_cons_zero, List.getElem_cons_succ, List.setIfInBounds_toArray, List.set_cons_zero, List.set_cons_succ])
        refine wpAnyT_take (i := 3) 15 (v := .int .i64 a) rfl (by kernel_rfl) (fun _ _ _ h => h) (Or.inl ⟨by rfl, by (intro w' hSw; (try dsimp only at hSw); go_simp)⟩) ⟨hc0, hc1⟩ ?_
        (try simp only [Act.put, List.getElem_toArray, List.getElem_cons_zero, List.getElem_cons_succ, List.setIfInBounds_toArray, List.set_cons_zero, List.set_cons_succ])
        refine wpAnyT_take (i := 5) 15 (v := .slice (some ad3) n1 c1) rfl (by kernel_rfl) (fun _ _ _ h => h) (Or.inl ⟨by rfl, by (intro w' hSw; (try dsimp only at hSw); go_simp)⟩) ⟨hc0, hc1⟩ ?_
        (try simp only [Act.put, List.getElem_toArray, List.getElem_cons_zero, List.getElem_cons_succ, List.setIfInBounds_toArray, List.set_cons_zero, List.set_cons_succ])
        refine wpAnyT_take (i := 6) 15 (v := .int .i64 i) rfl (by kernel_rfl) (fun _ _ _ h => h) (Or.inl ⟨by rfl, by (intro w' hSw; (try dsimp only at hSw); go_simp)⟩) ⟨hc0, hc1⟩ ?_
        (try simp only [Act.put, List.getElem_toArray, List.getElem_cons_zero, List.getElem_cons_succ, List.setIfInBounds_toArray, List.set_cons_zero, List.set_cons_succ])
        refine wpAnyT_take (i := 7) 15 (v := .int .i64 (i + 1)) rfl (by kernel_rfl) (fun _ _ _ h => h) (Or.inl ⟨by rfl, by (intro w' hSw; (try dsimp only at hSw); go_simp)⟩) ⟨hc0, hc1⟩ ?_
        (try simp only [Act.put, List.getElem_toArray, List.getElem_cons_zero, List.getElem_cons_succ, List.setIfInBounds_toArray, List.set_cons_zero, List.set_cons_succ])
        refine wpAnyT_take (i := 8) 15 (v := .pointer (some ⟨ad3.block, ad3.off + (i + 1), none⟩)) rfl (by kernel_rfl) (fun _ _ _ h => h) (Or.inl ⟨by rfl, by (intro w' hSw; (try dsimp only at hSw); go_simp)⟩) ⟨hc0, hc1⟩ ?_
        (try simp only [Act.put, List.getElem_toArray, List.getElem_cons_zero, List.getElem_cons_succ, List.setIfInBounds_toArray, List.set_cons_zero, List.set_cons_succ])
        refine wpAnyT_take (i := 9) 15 (v := .int .i64 b) rfl (by kernel_rfl) (fun _ _ _ h => h) (Or.inl ⟨by rfl, by (intro w' hSw; (try dsimp only at hSw); go_simp)⟩) ⟨hc0, hc1⟩ ?_
        (try simp only [Act.put, List.getElem_toArray, List.getElem_cons_zero, List.getElem_cons_succ, List.setIfInBounds_toArray, List.set_cons_zero, List.set_cons_succ])
        refine wpAnyT_two 4 13 rfl rfl (by kernel_rfl) ?_ ?_
        · (try simp only [List.getElem_toArray, List.getElem_cons_zero, List.getElem_cons_succ])
          go_wp2_with fail
          refine (within_calls _ _ _ _ (by omega) (by omega) (by omega)).mono ?_
          rintro e w' ⟨rfl, rfl⟩
          go_wp2_with fail
          refine kq_in ⟨⟨hc0, hc1⟩, ?_⟩
          refine wpAnyT_two 10 13 rfl rfl (by kernel_rfl) ?_ ?_
          · (try simp only [List.getElem_toArray, List.getElem_cons_zero, List.getElem_cons_succ])
            go_wp2_with fail
            refine (within_calls _ _ _ _ (by omega) (by omega) (by omega)).mono ?_
            rintro e w' ⟨rfl, rfl⟩
            go_wp2_with fail
            refine kq_in ⟨⟨hc0, hc1⟩, ?_⟩
            refine wpAnyT_take (i := 11) 15 (v := .agg #[.int .i64 (within a 0 3), .int .i64 (within b 0 900), .int .i64 0]) rfl (by kernel_rfl) (fun _ _ _ h => h) (Or.inl ⟨by rfl, by (intro w' hSw; (try dsimp only at hSw); go_simp)⟩) ⟨hc0, hc1⟩ ?_
            (try simp only [Act.put, List.getElem_toArray, List.getElem_cons_zero, List.getElem_cons_succ, List.setIfInBounds_toArray, List.set_cons_zero, List.set_cons_succ])
            refine wpAnyT_two 12 13 rfl rfl (by kernel_rfl) ?_ ?_
            · (try simp only [List.getElem_toArray, List.getElem_cons_zero, List.getElem_cons_succ])
              go_wp2_with fail
              refine (new_calls _ _ _ _).mono ?_
              rintro e w5 ⟨rfl, hbel⟩
              have HN5 := Lib.hid (HB5.out.below hbel)
              clear hbel
              go_wp2_with fail
              refine kq_in ⟨⟨HN5.out.old HC0.out, HN5.out.old HC1.out⟩, ?_⟩
              refine wpAnyT_one 13 rfl (by kernel_rfl) ?_
              (try simp only [List.getElem_toArray, List.getElem_cons_zero, List.getElem_cons_succ])
              have HA5 := Lib.hid (HN5.out.ins (g := w5.heap.size) [] (R ++ []) (rfl) #[.int .i64 0, .int .i64 0, .int .i64 0, .int .i64 0, .int .i64 0, .int .i64 0, .int .i64 0] 27)
              go_wp2_with fail
              refine kq_in ⟨⟨HA5.out.old HC0.out, HA5.out.old HC1.out⟩, ?_⟩
              refine wpAnyT_last rfl (by kernel_rfl) ?_
              (try simp only [List.getElem_toArray, List.getElem_cons_zero, List.getElem_cons_succ])
              go_wp2_with fail
              refine kq_in ?_
              refine wpAny_done (by kernel_rfl) ?_ _
              go_wp2_with fail
              go_meet
              exact ⟨w5.heap.size, rfl, Lib.hid (HN5.out.ins (g := w5.heap.size) [] (R ++ []) rfl #[.int .i64 (within a 0 3), .int .i64 (within b 0 900), .int .i64 0, .int .i64 0, .int .i64 0, .int .i64 0, .int .i64 0] 27)⟩
            · (try simp only [List.getElem_toArray, List.getElem_cons_zero, List.getElem_cons_succ])
              have HA5 := Lib.hid (HB5.out.ins (g := wr.heap.size) [] (R ++ []) (show wr.heap.size = wr.drew.heap.size from rfl) #[.int .i64 0, .int .i64 0, .int .i64 0, .int .i64 0, .int .i64 0, .int .i64 0, .int .i64 0] 27)
              go_wp2_with fail
              refine kq_in ⟨⟨HA5.out.old HC0.out, HA5.out.old HC1.out⟩, ?_⟩
              refine wpAnyT_one 12 rfl (by kernel_rfl) ?_
              (try simp only [List.getElem_toArray, List.getElem_cons_zero, List.getElem_cons_succ])
              go_wp2_with fail
              refine (new_calls _ _ _ _).mono ?_
              rintro e w5 ⟨rfl, hbel⟩
              have HN5 := Lib.hid (HA5.out.below hbel)
              clear hbel
              go_wp2_with fail
              refine kq_in ⟨⟨HN5.out.old HC0.out, HN5.out.old HC1.out⟩, ?_⟩
              have f0 := HN5.out.frozen 0 0 rfl
              have e0 := HN5.out.cell 0 0 rfl (v := .int .i64 0) rfl
              have f1 := HN5.out.frozen 0 1 rfl
              have e1 := HN5.out.cell 0 1 rfl (v := .int .i64 0) rfl
              have f2 := HN5.out.frozen 0 2 rfl
              have e2 := HN5.out.cell 0 2 rfl (v := .int .i64 0) rfl
              have f3 := HN5.out.frozen 0 3 rfl
              have e3 := HN5.out.cell 0 3 rfl (v := .int .i64 0) rfl
              have f4 := HN5.out.frozen 0 4 rfl
              have e4 := HN5.out.cell 0 4 rfl (v := .int .i64 0) rfl
              have f5 := HN5.out.frozen 0 5 rfl
              have e5 := HN5.out.cell 0 5 rfl (v := .int .i64 0) rfl
              have f6 := HN5.out.frozen 0 6 rfl
              have e6 := HN5.out.cell 0 6 rfl (v := .int .i64 0) rfl
              refine wpAnyT_last rfl (by kernel_rfl) ?_
              (try simp only [List.getElem_toArray, List.getElem_cons_zero, List.getElem_cons_succ])
              go_wp2_with fail
              refine kq_in ?_
              refine wpAny_done (by kernel_rfl) ?_ _
              go_wp2_with fail
              go_meet
              exact ⟨wr.heap.size, rfl, Lib.hid ((((((((HN5.out.set 0 0 (.int .i64 (within a 0 3)) rfl).set 0 1 (.int .i64 (within b 0 900)) rfl).set 0 2 (.int .i64 0) rfl).set 0 3 (.int .i64 0) rfl).set 0 4 (.int .i64 0) rfl).set 0 5 (.int .i64 0) rfl).set 0 6 (.int .i64 0) rfl).lit rfl)⟩
          · (try simp only [List.getElem_toArray, List.getElem_cons_zero, List.getElem_cons_succ])
            have HA5 := Lib.hid (HB5.out.ins (g := wr.heap.size) [] (R ++ []) (show wr.heap.size = wr.drew.heap.size from rfl) #[.int .i64 0, .int .i64 0, .int .i64 0, .int .i64 0, .int .i64 0, .int .i64 0, .int .i64 0] 27)
            go_wp2_with fail
            refine kq_in ⟨⟨HA5.out.old HC0.out, HA5.out.old HC1.out⟩, ?_⟩
            refine wpAnyT_one 10 rfl (by kernel_rfl) ?_
            (try simp only [List.getElem_toArray, List.getElem_cons_zero, List.getElem_cons_succ])
            go_wp2_with fail
            refine (within_calls _ _ _ _ (by omega) (by omega) (by omega)).mono ?_
            rintro e w' ⟨rfl, rfl⟩
            go_wp2_with fail
            refine kq_in ⟨⟨HA5.out.old HC0.out, HA5.out.old HC1.out⟩, ?_⟩
            refine wpAnyT_take (i := 11) 15 (v := .agg #[.int .i64 (within a 0 3), .int .i64 (within b 0 900), .int .i64 0]) rfl (by kernel_rfl) (fun _ _ _ h => h) (Or.inl ⟨by rfl, by (intro w' hSw; (try dsimp only at hSw); go_simp)⟩) ⟨HA5.out.old HC0.out, HA5.out.old HC1.out⟩ ?_
            (try simp only [Act.put, List.getElem_toArray, List.getElem_cons_zero, List.getElem_cons_succ, List.setIfInBounds_toArray, List.set_cons_zero, List.set_cons_succ])
            refine wpAnyT_one 12 rfl (by kernel_rfl) ?_
            (try simp only [List.getElem_toArray, List.getElem_cons_zero, List.getElem_cons_succ])
            go_wp2_with fail
            refine (new_calls _ _ _ _).mono ?_
            rintro e w5 ⟨rfl, hbel⟩
            have HN5 := Lib.hid (HA5.out.below hbel)
            clear hbel
            go_wp2_with fail
            refine kq_in ⟨⟨HN5.out.old HC0.out, HN5.out.old HC1.out⟩, ?_⟩
            have f0 := HN5.out.frozen 0 0 rfl
            have e0 := HN5.out.cell 0 0 rfl (v := .int .i64 0) rfl
            have f1 := HN5.out.frozen 0 1 rfl
            have e1 := HN5.out.cell 0 1 rfl (v := .int .i64 0) rfl
            have f2 := HN5.out.frozen 0 2 rfl
            have e2 := HN5.out.cell 0 2 rfl (v := .int .i64 0) rfl
            have f3 := HN5.out.frozen 0 3 rfl
            have e3 := HN5.out.cell 0 3 rfl (v := .int .i64 0) rfl
            have f4 := HN5.out.frozen 0 4 rfl
            have e4 := HN5.out.cell 0 4 rfl (v := .int .i64 0) rfl
            have f5 := HN5.out.frozen 0 5 rfl
            have e5 := HN5.out.cell 0 5 rfl (v := .int .i64 0) rfl
            have f6 := HN5.out.frozen 0 6 rfl
            have e6 := HN5.out.cell 0 6 rfl (v := .int .i64 0) rfl
            refine wpAnyT_last rfl (by kernel_rfl) ?_
            (try simp only [List.getElem_toArray, List.getElem_cons_zero, List.getElem_cons_succ])
            go_wp2_with fail
            refine kq_in ?_
            refine wpAny_done (by kernel_rfl) ?_ _
            go_wp2_with fail
            go_meet
            exact ⟨wr.heap.size, rfl, Lib.hid ((((((((HN5.out.set 0 0 (.int .i64 (within a 0 3)) rfl).set 0 1 (.int .i64 (within b 0 900)) rfl).set 0 2 (.int .i64 0) rfl).set 0 3 (.int .i64 0) rfl).set 0 4 (.int .i64 0) rfl).set 0 5 (.int .i64 0) rfl).set 0 6 (.int .i64 0) rfl).lit rfl)⟩
        · (try simp only [List.getElem_toArray, List.getElem_cons_zero, List.getElem_cons_succ])
          have HA5 := Lib.hid (HB5.out.ins (g := wr.heap.size) [] (R ++ []) (show wr.heap.size = wr.drew.heap.size from rfl) #[.int .i64 0, .int .i64 0, .int .i64 0, .int .i64 0, .int .i64 0, .int .i64 0, .int .i64 0] 27)
          go_wp2_with fail
          refine kq_in ⟨⟨HA5.out.old HC0.out, HA5.out.old HC1.out⟩, ?_⟩
          refine wpAnyT_one 4 rfl (by kernel_rfl) ?_
          (try simp only [List.getElem_toArray, List.getElem_cons_zero, List.getElem_cons_succ])
          go_wp2_with fail
          refine (within_calls _ _ _ _ (by omega) (by omega) (by omega)).mono ?_
          rintro e w' ⟨rfl, rfl⟩
          go_wp2_with fail
          refine kq_in ⟨⟨HA5.out.old HC0.out, HA5.out.old HC1.out⟩, ?_⟩
          refine wpAnyT_one 10 rfl (by kernel_rfl) ?_
          (try simp only [List.getElem_toArray, List.getElem_cons_zero, List.getElem_cons_succ])
          go_wp2_with fail
          refine (within_calls _ _ _ _ (by omega) (by omega) (by omega)).mono ?_
          rintro e w' ⟨rfl, rfl⟩
          go_wp2_with fail
          refine kq_in ⟨⟨HA5.out.old HC0.out, HA5.out.old HC1.out⟩, ?_⟩
          refine wpAnyT_take (i := 11) 15 (v := .agg #[.int .i64 (within a 0 3), .int .i64 (within b 0 900), .int .i64 0]) rfl (by kernel_rfl) (fun _ _ _ h => h) (Or.inl ⟨by rfl, by (intro w' hSw; (try dsimp only at hSw); go_simp)⟩) ⟨HA5.out.old HC0.out, HA5.out.old HC1.out⟩ ?_
          (try simp only [Act.put, List.getElem_toArray, List.getElem_cons_zero, List.getElem_cons_succ, List.setIfInBounds_toArray, List.set_cons_zero, List.set_cons_succ])
          refine wpAnyT_one 12 rfl (by kernel_rfl) ?_
          (try simp only [List.getElem_toArray, List.getElem_cons_zero, List.getElem_cons_succ])
          go_wp2_with fail
          refine (new_calls _ _ _ _).mono ?_
          rintro e w5 ⟨rfl, hbel⟩
          have HN5 := Lib.hid (HA5.out.below hbel)
          clear hbel
          go_wp2_with fail
          refine kq_in ⟨⟨HN5.out.old HC0.out, HN5.out.old HC1.out⟩, ?_⟩
          have f0 := HN5.out.frozen 0 0 rfl
          have e0 := HN5.out.cell 0 0 rfl (v := .int .i64 0) rfl
          have f1 := HN5.out.frozen 0 1 rfl
          have e1 := HN5.out.cell 0 1 rfl (v := .int .i64 0) rfl
          have f2 := HN5.out.frozen 0 2 rfl
          have e2 := HN5.out.cell 0 2 rfl (v := .int .i64 0) rfl
          have f3 := HN5.out.frozen 0 3 rfl
          have e3 := HN5.out.cell 0 3 rfl (v := .int .i64 0) rfl
          have f4 := HN5.out.frozen 0 4 rfl
          have e4 := HN5.out.cell 0 4 rfl (v := .int .i64 0) rfl
          have f5 := HN5.out.frozen 0 5 rfl
          have e5 := HN5.out.cell 0 5 rfl (v := .int .i64 0) rfl
          have f6 := HN5.out.frozen 0 6 rfl
          have e6 := HN5.out.cell 0 6 rfl (v := .int .i64 0) rfl
          refine wpAnyT_last rfl (by kernel_rfl) ?_
          (try simp only [List.getElem_toArray, List.getElem_cons_zero, List.getElem_cons_succ])
          go_wp2_with fail
          refine kq_in ?_
          refine wpAny_done (by kernel_rfl) ?_ _
          go_wp2_with fail
          go_meet
          exact ⟨wr.heap.size, rfl, Lib.hid ((((((((HN5.out.set 0 0 (.int .i64 (within a 0 3)) rfl).set 0 1 (.int .i64 (within b 0 900)) rfl).set 0 2 (.int .i64 0) rfl).set 0 3 (.int .i64 0) rfl).set 0 4 (.int .i64 0) rfl).set 0 5 (.int .i64 0) rfl).set 0 6 (.int .i64 0) rfl).lit rfl)⟩
      case rest =>
        obtain ⟨g5, rfl, HS5⟩ := hcut
        clear hc0 hc1 HC0 HC1 HSr
        obtain ⟨r, hr⟩ : ∃ r, within a 0 3 = r := ⟨_, rfl⟩
        obtain ⟨og, hog⟩ : ∃ og, within b 0 900 = og := ⟨_, rfl⟩
        have hogb := within_bd b (lo := 0) (hi := 900) (by omega)
        rw [hog] at hogb
        obtain ⟨og0, og1⟩ := hogb
        obtain ⟨pc, hpc⟩ : ∃ x, within c 0 500 = x := ⟨_, rfl⟩
        obtain ⟨pd, hpd⟩ : ∃ x, within d 0 500 = x := ⟨_, rfl⟩
        have HWC := Lib.hid (fun W => within_calls c 0 500 W (by omega) (by omega) (by omega))
        have HWD := Lib.hid (fun W => within_calls d 0 500 W (by omega) (by omega) (by omega))
        have hcb := within_bd c (lo := 0) (hi := 500) (by omega)
        have hdb := within_bd d (lo := 0) (hi := 500) (by omega)
        rw [hpc] at HWC hcb
        rw [hpd] at HWD hdb
        have hmk : mkN a b c d = ⟨r, og, 0, wi pc og, 0, 0, wi pd (og - wi pc og)⟩ := by unfold mkN; rw [hr, hog, hpc, hpd]
        rw [hr, hog] at HS5
        have hw0 := wi_bd pc og
        have hw1 := wi_le pc og0
        obtain ⟨pi, hpi⟩ : ∃ x, wi pc og = x := ⟨_, rfl⟩
        have hx0 := wi_bd pd (og - wi pc og)
        have hx1 := wi_le pd (show 0 ≤ og - wi pc og by omega)
        obtain ⟨dn, hdn⟩ : ∃ x, wi pd (og - wi pc og) = x := ⟨_, rfl⟩
        rw [hdn] at hx0 hx1 hmk
        rw [hpi] at hw0 hw1 hx1 hmk
        have HDN := Lib.hid (show dn = wi pd (og - (pi - 0) - 0) from by rw [← hdn, hpi, Int.sub_zero, Int.sub_zero])
        have HPI := Lib.hid (show pi = wi pc (og - (0 - 0) - 0) from by rw [← hpi]; congr 1; omega)
        have HMK := Lib.hid hmk
        clear hr hog hpc hpd hmk hpi hdn
        obtain ⟨cb0, cb1⟩ := hcb
        obtain ⟨db0, db1⟩ := hdb
        have hc2' := HS5.out.old HC2.out
        go_upto_region 6 with fail
        go_wp2_with fail
        refine (HWC.out _).mono ?_
        rintro e w' ⟨rfl, rfl⟩
        go_wp2_with fail
        refine (pay_s pi r og 0 0 0 0 0 pc 0 HS5.out rfl (Fair.mk_ (by omega) (by omega) (by omega) (by omega) (by omega) (by omega) (by omega) (by omega) (by omega)) (by omega) (by omega) HPI.out).mono ?_
        rintro e w6 ⟨rfl, hs6⟩
        have HS6 := Lib.hid (hs6.lit (L' := [(g5, #[.int .i64 r, .int .i64 og, .int .i64 0, .int .i64 (0 + pi), .int .i64 0, .int .i64 0, .int .i64 0], 27)] ++ (R ++ [])) rfl)
        rw [Int.zero_add] at HS6
        clear hs6 HS5 hc2' hc2 hc3
        have hc3' := HS6.out.old HC3.out
        go_wp2_with fail
        refine (HWD.out _).mono ?_
        rintro e w' ⟨rfl, rfl⟩
        go_wp2_with fail
        refine (write_s dn r og 0 pi 0 0 0 pd 0 HS6.out rfl (Fair.mk_ (by omega) (by omega) (by omega) (by omega) (by omega) (by omega) (by omega) (by omega) (by omega)) (by omega) (by omega) HDN.out).mono ?_
        rintro e w7 ⟨rfl, hs7⟩
        have HS7 := Lib.hid (hs7.lit (L' := [(g5, #[.int .i64 r, .int .i64 og, .int .i64 0, .int .i64 pi, .int .i64 0, .int .i64 0, .int .i64 (0 + dn)], 27)] ++ (R ++ [])) rfl)
        rw [Int.zero_add] at HS7
        clear hs7 HS6 hc3'
        have e0 := HS7.out.cell 0 0 rfl (v := .int .i64 r) rfl
        have e1 := HS7.out.cell 0 1 rfl (v := .int .i64 og) rfl
        have e2 := HS7.out.cell 0 2 rfl (v := .int .i64 0) rfl
        have e3 := HS7.out.cell 0 3 rfl (v := .int .i64 pi) rfl
        have e4 := HS7.out.cell 0 4 rfl (v := .int .i64 0) rfl
        have e5 := HS7.out.cell 0 5 rfl (v := .int .i64 0) rfl
        have e6 := HS7.out.cell 0 6 rfl (v := .int .i64 dn) rfl
        have hk9 : k ≤ 9 := by omega
        clear hk3 hb0 hb1 hb2 hu hu2 hu3 hu4 hu5 hu6 hu7 hu8 hu9 hv1 hu10 hu11 hu12 hk hk1 hk2 q2 q3 og0 og1 hw0 hw1 hx0 hx1 cb0 cb1 db0 db1 hu0
        go_upto_region 4 with (at_builtin; refine row_append rfl (.tmp 45) (.tmp 47) 46 rfl [(g5, #[.int .i64 r, .int .i64 og, .int .i64 0, .int .i64 pi, .int .i64 0, .int .i64 0, .int .i64 dn], 27)] [] Try.underlying46 hi hz hs1 hs2 rfl (by omega) HR.out (HS7.out.skip _) rfl rfl (Src.new (size := 7) (m := 1) rfl rfl) (ncs_one [⟨r, og, 0, pi, 0, 0, dn⟩]) (by omega) (by omega) ?_; rintro R3 a3 c3 w8 hR3' hS3'; have HR3 := Lib.hid hR3'; have HS3 := Lib.hid hS3'; clear hR3' hS3' HR HS7 e0 e1 e2 e3 e4 e5 e6 hi hz hs1 hs2 hk9)
        have HR4 := Lib.hid (show Row R3 27 7 a3 (k + 1) c3 ((notesN z1 (k + 1)).flatMap Nt.c) from by rw [HN.out, HMK.out, ncs_app]; exact HR3.out)
        have HS4 := Lib.hid (HS3.out.sub (L' := R3 ++ []) (by simp))
        have hi24 : IntKind.i64.wrap ((i : Int) + 4) = (i : Int) + 4 := IntWalk.i64_in _ (by have := HQ.out; omega)
        go_wp2_with fail
        go_roundw
        case rel => exact ⟨k + 1, i + 4, R3, a3, c3, rfl, by go_num, HQ.out.1, HQ.out.2.1, HQ.out.2.2.1, HQ.out.2.2.2, HR4, HS4⟩
        case measure => have := HQ.out; simp [intOf]; omega
    · have HS9 := Lib.hid (HSr.out.sub (L' := R) (by simp))
      have HE := Lib.hid (show k = min 6 (n1 / 4) from by omega)
      have hu0 : IntKind.i64.wrap ((i : Int) + 3) = (i : Int) + 3 := IntWalk.i64_in _ (by omega)
      by_cases q2 : i + 3 < n1
      · have hb0 : decide ((i : Int) + 3 < (n1 : Int)) = true := decide_eq_true (by omega)
        have hb1 : decide ((k : Int) < 6) = false := decide_eq_false (by omega)
        have hb2 : decide (k < 6) = false := decide_eq_false (by omega)
        go_wp2_with fail
        go_ret
        exact ⟨k, R, A, cap, HE.out, rfl, HR.out, HS9.out⟩
      · have hb0 : decide ((i : Int) + 3 < (n1 : Int)) = false := decide_eq_false (by omega)
        go_wp2_with fail
        go_ret
        exact ⟨k, R, A, cap, HE.out, rfl, HR.out, HS9.out⟩
end Go.Proofs.Ytllbpjaiplnbnaa

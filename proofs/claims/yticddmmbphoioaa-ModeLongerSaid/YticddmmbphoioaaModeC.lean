import Derived.Test.YticddmmbphoioaaModeB
namespace Go.Proofs.Yticddmmbphoioaa
open Go.RowKit
set_option linter.unusedVariables false
set_option linter.unusedSimpArgs false
/-! ### Run over a row of results -/
def stepF (c : Int) (s : Int × Int) (r : Res) : Int × Int := nextF s c (failsF r) (!r.ic)
def runF (c : Int) (l : List Res) : Int × Int := l.foldl (stepF c) (0, 0)
theorem runF_snoc (c : Int) (l : List Res) (r : Res) : runF c (l ++ [r]) = stepF c (runF c l) r := by unfold runF; rw [List.foldl_append]; rfl
theorem stepF_bd {c : Int} {s : Int × Int} {r : Res} {k : Nat} (h : 0 ≤ s.2 ∧ s.2 ≤ k) : 0 ≤ (stepF c s r).2 ∧ (stepF c s r).2 ≤ ((k + 1 : Nat) : Int) := by
  unfold stepF nextF
  repeat' split
  all_goals (simp only; omega)
theorem add_nextC (a : Addr) (n k : Nat) (hk : 0 < k) : a.add (n + k) = ⟨(a.add n).block, (a.add n).off + k, none⟩ := by
  unfold Addr.add
  rw [if_neg (by omega)]
  split
  · subst_vars; simp
  · simp only [Addr.mk.injEq, true_and, and_true]; omega
theorem src_res {W : World} {A : Option Addr} {n : Nat} {l : List Res} (h : Src W A n 4 (rcs l)) {k : Nat} {r : Res} (hg : l[k]? = some r) : ∃ ad, A = some ad ∧ W.cell? (ad.add (k * 4)) = some (.bool r.oc) ∧ W.cell? ⟨(ad.add (k * 4)).block, (ad.add (k * 4)).off + 1, none⟩ = some (.bool r.ic) ∧ W.cell? ⟨(ad.add (k * 4)).block, (ad.add (k * 4)).off + 2, none⟩ = some (.bool r.late) ∧ W.cell? ⟨(ad.add (k * 4)).block, (ad.add (k * 4)).off + 3, none⟩ = some (.bool r.loss) := by
  have hl : l.length = n := by have := h.1; rw [rcs, flat_length Res.c 4 Res.c_length] at this; omega
  have hk := (List.getElem?_eq_some_iff.1 hg).1
  obtain ⟨ad, e1, hc⟩ := h.2 (by omega)
  have get : ∀ j u, r.c[j]? = some u → j < 4 → W.cell? (ad.add (k * 4 + j)) = some u := fun j u hu hj => hc (k * 4 + j) u (by rw [rcs, flat_get Res.c 4 Res.c_length l k j _ hg hj]; exact hu)
  refine ⟨ad, e1, ?_, ?_, ?_, ?_⟩
  · have := get 0 _ rfl (by omega); simpa using this
  · have := get 1 _ rfl (by omega); rwa [add_nextC ad (k * 4) 1 (by omega)] at this
  · have := get 2 _ rfl (by omega); rwa [add_nextC ad (k * 4) 2 (by omega)] at this
  · have := get 3 _ rfl (by omega); rwa [add_nextC ad (k * 4) 3 (by omega)] at this
set_option maxHeartbeats 4000000 in
set_option maxRecDepth 100000 in
theorem run_calls (c : Int) (A : Option Addr) (n cap : Nat) (l : List Res) (w : World) (hs : Src w A n 4 (rcs l)) (hn : n ≤ 1000) :
    Calls Try.prog 12 #[.int .i64 c, .slice A n cap] w fun e w' => e = .returned (.agg #[.int .i64 (runF c l).1, .int .i64 (runF c l).2]) ∧ Below w.heap.size w w' := by
  have hl : l.length = n := by have := hs.1; rw [rcs, flat_length Res.c 4 Res.c_length] at this; omega
  have H := Lib.hid hs; have HL := Lib.hid hl
  clear hs hl
  obtain ⟨⟨q1, q2⟩, hq⟩ : ∃ q, runF c l = q := ⟨_, rfl⟩
  rw [hq]
  have HQ := Lib.hid hq
  clear hq
  have h1 := (Sts.nil w).add (g := w.heap.size) rfl #[.int .i64 0, .int .i64 0] 25
  have h3 := h1.add (g := w.heap.size + 1) (by unfold World.alloc; rw [Array.size_push]) #[.int .i64 0, .int .i64 0] 25
  have HS0 := Lib.hid h3
  clear h1 h3
  go_enter Try.func12, Try.ntmps12
  go_upto_region 2 with fail
  generalize (w.alloc (.cells #[.int .i64 0, .int .i64 0] 25)).alloc (.cells #[.int .i64 0, .int .i64 0] 25) = w3 at *
  generalize w.heap.size + 1 = g5 at *
  generalize hg : w.heap.size = g4 at *
  go_wp2_with fail
  go_loopw [10] (fun v10 wr => ∃ (k : Nat) (m p : Int), k ≤ n ∧ v10 = .int .i64 k ∧ 0 ≤ p ∧ p ≤ k ∧ Hid (runF c (l.take k) = (m, p)) ∧ Hid (Sts w ([(g4, #[.int .i64 0, .int .i64 0], 25)] ++ [(g5, #[.int .i64 m, .int .i64 p], 25)]) wr)) (fun v10 _ => n - (intOf v10).toNat)
  case atStart => exact ⟨0, 0, 0, by omega, rfl, by omega, by omega, Lib.hid rfl, HS0⟩
  case round =>
    obtain ⟨k, m, p, hk, rfl, p0, p1, HR, HS⟩ := hrel
    clear HS0
    by_cases hlt : k < n
    · obtain ⟨r, hr⟩ : ∃ r, l[k]? = some r := ⟨_, List.getElem?_eq_getElem (by rw [HL.out]; exact hlt)⟩
      obtain ⟨ad, hA, c0, c1, c2, c3⟩ := src_res H.out hr
      have hnx : runF c (l.take (k + 1)) = stepF c (m, p) r := by rw [take_next' hr, runF_snoc, HR.out]
      have hbd := stepF_bd (c := c) (s := (m, p)) (r := r) (k := k) ⟨p0, p1⟩
      obtain rfl := hA
      replace c0 := HS.out.old c0
      replace c1 := HS.out.old c1
      replace c2 := HS.out.old c2
      replace c3 := HS.out.old c3
      obtain ⟨oc, ic, la, lo⟩ := r
      simp only at c0 c1 c2 c3
      have hcall := fun W => next_calls m p c oc ic la lo W (by omega) (by omega)
      have hst : nextF (m, p) c (failsF ⟨oc, ic, la, lo⟩) (!ic) = stepF c (m, p) ⟨oc, ic, la, lo⟩ := rfl
      rw [hst] at hcall
      generalize stepF c (m, p) ⟨oc, ic, la, lo⟩ = s2 at *
      obtain ⟨m2, p2⟩ := s2
      simp only at hbd hcall
      have HNX := Lib.hid hnx; have HCALL := Lib.hid hcall
      have HB := Lib.hid hbd
      have hs2 := HS.out.add (g := wr.heap.size) rfl #[.bool oc, .bool ic, .bool la, .bool lo] 23
      have HS2 := Lib.hid hs2
      have i1 : (0 : Int) ≤ (k : Int) := by omega
      have i2 : (k : Int) < (n : Int) := by omega
      clear hr hnx hbd hcall hst hs2
      go_upto_region 5 with fail
      clear c0 c1 c2 c3 HS
      generalize wr.alloc (.cells #[.bool oc, .bool ic, .bool la, .bool lo] 23) = w5 at *
      generalize wr.heap.size = g7 at *
      have e0 := HS2.out.cell 1 0 rfl (v := .int .i64 m) rfl
      have e1 := HS2.out.cell 1 1 rfl (v := .int .i64 p) rfl
      have r0 := HS2.out.cell 2 0 rfl (v := .bool oc) rfl
      have r1 := HS2.out.cell 2 1 rfl (v := .bool ic) rfl
      have r2 := HS2.out.cell 2 2 rfl (v := .bool la) rfl
      have r3 := HS2.out.cell 2 3 rfl (v := .bool lo) rfl
      go_wp2_with fail
      refine (HCALL.out w5).mono ?_
      rintro e w6 ⟨rfl, hb⟩
      have HS6 := Lib.hid (HS2.out.below hb)
      clear e0 e1 r0 r1 r2 r3 hb HS2 HCALL
      have f0 := HS6.out.frozen 1 0 rfl
      have f1 := HS6.out.frozen 1 1 rfl
      have e0 := HS6.out.cell 1 0 rfl (v := .int .i64 m) rfl
      have e1 := HS6.out.cell 1 1 rfl (v := .int .i64 p) rfl
      go_wp2_with fail
      go_roundw
      case rel => exact ⟨k + 1, m2, p2, by omega, by go_num, HB.out.1, HB.out.2, HNX, Lib.hid ((((HS6.out.set 1 0 (.int .i64 m2) rfl).set 1 1 (.int .i64 p2) rfl).take 2).lit rfl)⟩
      case measure => simp [intOf]; omega
    · obtain rfl : k = n := by omega
      have htk : l.take k = l := List.take_of_length_le (by rw [HL.out]; exact Nat.le_refl _)
      rw [htk] at HR
      obtain ⟨rfl, rfl⟩ := Prod.mk.inj (HR.out.symm.trans HQ.out)
      have e0 := HS.out.cell 1 0 rfl (v := .int .i64 m) rfl
      have e1 := HS.out.cell 1 1 rfl (v := .int .i64 p) rfl
      have f0 := HS.out.frozen 0 0 rfl
      have f1 := HS.out.frozen 0 1 rfl
      have d0 := HS.out.cell 0 0 rfl (v := .int .i64 0) rfl
      have d1 := HS.out.cell 0 1 rfl (v := .int .i64 0) rfl
      have HX := Lib.hid (HS.out.perm (List.Perm.swap _ _ _))
      go_wp2_with fail
      (try simp only [Exit.inBlock, Exit.then])
      refine bodyPost_ret (results_cell_row rfl _ _ g4 _ #[.int .i64 m, .int .i64 p] (0, 0) _ rfl (st_fin (A := [(g5, #[.int .i64 m, .int .i64 p], 25)]) HX.out rfl m p).2 Try.underlying25 rfl (by kernel_rfl)) rfl ?_
      first | exact ⟨rfl, (st_fin (A := [(g5, #[.int .i64 m, .int .i64 p], 25)]) HX.out rfl m p).1⟩ | exact ⟨rfl, by rw [← hg]; exact (st_fin (A := [(g5, #[.int .i64 m, .int .i64 p], 25)]) HX.out rfl m p).1⟩
end Go.Proofs.Yticddmmbphoioaa

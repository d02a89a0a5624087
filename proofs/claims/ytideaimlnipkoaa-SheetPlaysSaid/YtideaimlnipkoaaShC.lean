import Derived.Test.YtideaimlnipkoaaShB
import Derived.StillTailTactics
import Derived.Deep.DeepMust
namespace Go.Proofs.Ytideaimlnipkoaa
open Go.RowKit
set_option linter.unusedVariables false
set_option linter.unusedSimpArgs false
attribute [local go_sem] bmax2 bmin2 bmax_two bmin_two bmax_three bmin_three
/-- Numbers as cells. -/
def is (l : List Int) : List Value := l.map (Value.int .i64)
theorem is_length (l : List Int) : (is l).length = l.length := by simp [is]
theorem is_one (l : List Int) : ∀ u ∈ is l, u.oneCell' = true := by
  intro u hu
  obtain ⟨x, _, rfl⟩ := List.mem_map.1 hu
  rfl
theorem is_get (l : List Int) {i : Nat} (h : i < l.length) : (is l)[i]? = some (.int .i64 (l.getD i 0)) := by
  unfold is
  rw [List.getElem?_map, List.getElem?_eq_getElem h, List.getD_eq_getElem?_getD, List.getElem?_eq_getElem h]; rfl
theorem int_info : (Try.prog.info? 3).map (fun i => (i.zero, i.size, i.bytes)) = some (some (.int .i64 0), 1, 8) := by kernel_rfl
theorem sum_info : (Try.prog.info? 55).map (fun i => (i.zero, i.size, i.bytes)) = some (some (.agg #[.int .i64 0, .int .i64 0]), 2, 16) := by kernel_rfl
theorem entry_info : (Try.prog.info? 27).map (fun i => (i.zero, i.size, i.bytes)) = some (some (.agg #[.int .i64 0, .int .i64 0]), 2, 16) := by kernel_rfl
def ZI (n : Nat) : Array Value := madeCells #[.int .i64 0] n
theorem ZI_list (n : Nat) : (ZI n).toList = is (List.replicate n 0) := by rw [ZI, toList_madeCells_one]; simp [is]
theorem ZI_size (n : Nat) : (ZI n).size = n := size_madeCells _ _
theorem make_ints (n : Nat) (hn : n ≤ 1000000) (W : World) : (Instr.makeSlice 29 (.int .i64 (n : Int)) (.int .i64 (n : Int))).run Try.prog W = .ok (.slice (some ⟨W.heap.size, 0, none⟩) n n) (W.alloc (.cells (ZI n) 3)) := by
  obtain ⟨i0, hi, hz, hs1, hs2⟩ := info_parts int_info
  have h := run_makeSlice (P := Try.prog) W 29 3 i0 (.int .i64 0) Try.underlying29 hi hz .i64 .i64 (n : Int) n (by omega) (by omega) (by rw [hs1]; omega) (by rw [hs2]; omega) (by omega)
  rw [hs1, Nat.mul_one, Int.toNat_natCast] at h
  exact h
def ZS (n : Nat) : Array Value := madeCells #[.int .i64 0, .int .i64 0] (n * 2)
theorem make_sums (n : Nat) (hn : n ≤ 1000000) (W : World) : (Instr.makeSlice 60 (.int .i64 (n : Int)) (.int .i64 (n : Int))).run Try.prog W = .ok (.slice (some ⟨W.heap.size, 0, none⟩) n n) (W.alloc (.cells (ZS n) 55)) := by
  obtain ⟨i0, hi, hz, hs1, hs2⟩ := info_parts sum_info
  have h := run_makeSlice (P := Try.prog) W 60 55 i0 _ Try.underlying60 hi hz .i64 .i64 (n : Int) n (by omega) (by omega) (by rw [hs1]; omega) (by rw [hs2]; omega) (by omega)
  rw [hs1, Int.toNat_natCast] at h
  exact h
theorem ZS_list (n : Nat) : (ZS n).toList = ecs (List.replicate n (0, 0)) := by
  have h1 : ZS n = (List.replicate (n * 2) (.int .i64 0 : Value)).toArray := by
    apply Array.ext'
    rw [List.toList_toArray]
    apply List.ext_getElem
    · unfold ZS; simp [madeCells]
    · intro i h2 h3
      unfold ZS madeCells
      simp only [Array.toList_map, List.getElem_map, List.getElem_replicate]
      generalize hx : (Array.range (n * 2)).toList[i]'(by simpa [ZS, madeCells] using h2) = x
      rcases Nat.mod_two_eq_zero_or_one x with hm | hm <;> simp [hm]
  rw [h1, List.toList_toArray]
  unfold ecs
  clear h1
  induction n with
  | zero => rfl
  | succ n ih => rw [List.replicate_succ, List.flatMap_cons, ← ih, Nat.add_mul, List.replicate_succ, List.replicate_succ]; rfl
theorem ZS_eq (n : Nat) : ZS n = (ecs (List.replicate n (0, 0))).toArray := by rw [← ZS_list]
theorem ZI_eq (n : Nat) : ZI n = (is (List.replicate n 0)).toArray := by rw [← ZI_list]
theorem ecs_set (hs : List (Int × Int)) (i : Nat) (a b : Int) (hi : i < hs.length) : ((ecs hs).toArray.setIfInBounds (i * 2) (.int .i64 a)).setIfInBounds (i * 2 + 1) (.int .i64 b) = (ecs (hs.set i (a, b))).toArray := by
  simp only [List.setIfInBounds_toArray]
  congr 1
  unfold ecs
  induction hs generalizing i with
  | nil => simp at hi
  | cons x hs ih =>
    cases i with
    | zero => rfl
    | succ i =>
      rw [List.set_cons_succ, List.flatMap_cons, List.flatMap_cons, ← ih i (by simpa using hi), Nat.add_mul]
      rfl
theorem is_set (l : List Int) (i : Nat) (v : Int) : (is l).toArray.setIfInBounds i (.int .i64 v) = (is (l.set i v)).toArray := by
  simp [is, List.map_set]
theorem made_row (g m : Nat) (hm : m ≤ 1000000) (l : List Int) (hl : l.length = m) : Row [(g, (is l).toArray, 3)] 3 1 (some ⟨g, 0, none⟩) m m (is l) :=
  ⟨by rw [is_length]; omega, Nat.le_refl _, by unfold maxLen; omega, .inr ⟨g, (is l).toArray, rfl, rfl, by simp [is_length, hl], by rw [List.take_of_length_le (by simp [is_length, hl])]⟩⟩
theorem ecs_at (hs : List (Int × Int)) {i : Nat} (hi : i < hs.length) : (ecs hs).toArray[i * 2]? = some (.int .i64 (hs.getD i (0, 0)).1) ∧ (ecs hs).toArray[i * 2 + 1]? = some (.int .i64 (hs.getD i (0, 0)).2) := by
  have hg : hs[i]? = some hs[i] := List.getElem?_eq_getElem hi
  have hd : hs.getD i (0, 0) = hs[i] := by rw [List.getD_eq_getElem?_getD, hg]; rfl
  rw [hd]
  simp only [List.getElem?_toArray]
  have h0 := flat_get ec 2 ec_length hs i 0 _ hg (by omega)
  have h1 := flat_get ec 2 ec_length hs i 1 _ hg (by omega)
  exact ⟨h0, h1⟩

/-! ### A sheet -/
def scells (a : Option Addr) (n cap cnt : Nat) : Array Value := #[.slice a n cap, .int .i64 cnt]
/-- The sheet lies in block g; what else is kept an eye on lies behind it. -/
def ShAt (w0 : World) (L : List Ent) (g : Nat) (bal : List Int) (cnt : Nat) (W : World) : Prop :=
  ∃ R a cap, Row R 3 1 a bal.length cap (is bal) ∧ Sts w0 ((g, scells a bal.length cap cnt, 49) :: (R ++ L)) W
section
variable {w0 W W' : World} {L L' : List Ent} {g cnt : Nat} {bal : List Int}
theorem ShAt.below (h : ShAt w0 L g bal cnt W) (hb : Below W.heap.size W W') : ShAt w0 L g bal cnt W' := by
  obtain ⟨R, a, cap, h1, h2⟩ := h
  exact ⟨R, a, cap, h1, h2.below hb⟩
theorem ShAt.bel (h : ShAt w0 L g bal cnt W) : Below w0.heap.size w0 W := by
  obtain ⟨R, a, cap, h1, h2⟩ := h
  exact h2.bel
theorem ShAt.drewN (h : ShAt w0 L g bal cnt W) (n : Nat) : ShAt w0 L g bal cnt (W.drewN n) := h.below (bel_drewN (Below.refl _ _) n)
theorem ShAt.drew (h : ShAt w0 L g bal cnt W) : ShAt w0 L g bal cnt W.drew := h.below (Below.refl _ _).drew
theorem ShAt.alloc (h : ShAt w0 L g bal cnt W) (o : Obj) : ShAt w0 L g bal cnt (W.alloc o) := h.below (bel_alloc (Below.refl _ _) o)
theorem ShAt.parts (h : ShAt w0 L g bal cnt W) : ∃ R a cap, Row R 3 1 a bal.length cap (is bal) ∧ Sts w0 ((g, scells a bal.length cap cnt, 49) :: (R ++ L)) W ∧ W.cell? ⟨g, 0, none⟩ = some (.slice a bal.length cap) ∧ W.cell? ⟨g, 1, none⟩ = some (.int .i64 cnt) ∧ W.frozen? ⟨g, 0, none⟩ = false ∧ W.frozen? ⟨g, 1, none⟩ = false := by
  obtain ⟨R, a, cap, hR, hS⟩ := h
  exact ⟨R, a, cap, hR, hS, hS.cell 0 0 rfl rfl, hS.cell 0 1 rfl rfl, hS.frozen 0 0 rfl, hS.frozen 0 1 rfl⟩
theorem ShAt.sub (h : ShAt w0 L g bal cnt W) (hp : L'.Sublist L) : ShAt w0 L' g bal cnt W := by
  obtain ⟨R, a, cap, h1, h2⟩ := h
  exact ⟨R, a, cap, h1, h2.sub (((List.Sublist.refl R).append hp).cons_cons _)⟩
theorem ShAt.join {R' : List Ent} (h : ShAt w0 L g bal cnt W) (hj : Sts W R' W') : ShAt w0 (R' ++ L) g bal cnt W' := by
  obtain ⟨R, a, cap, hR, hS⟩ := h
  exact ⟨R, a, cap, hR, (Sts.join ((g, scells a bal.length cap cnt, 49) :: R) L (hS.lit (by simp)) hj).lit (by simp)⟩
theorem ShAt.perm (h : ShAt w0 L g bal cnt W) (hp : L.Perm L') : ShAt w0 L' g bal cnt W := by
  obtain ⟨R, a, cap, hR, hS⟩ := h
  exact ⟨R, a, cap, hR, hS.perm (((List.Perm.refl R).append hp).cons _)⟩
theorem Row.srcIn {R : List Ent} {e : TypeId} {size n cap : Nat} {a : Option Addr} {xs : List Value} {L : List Ent} (h : Row R e size a n cap xs) (hS : Sts w0 L W) (hm : ∀ x ∈ R, x ∈ L) : Src W a n size xs := by
  refine ⟨h.1, fun hn => ?_⟩
  obtain ⟨h1, h2, h3, h4⟩ := h
  rcases h4 with ⟨rfl, rfl⟩ | ⟨gr, cur, rfl, rfl, h5, h6⟩
  · omega
  · have hB := ((sts_iff.1 hS).1 (gr, cur, e) (hm _ (by simp))).1
    refine ⟨_, rfl, fun j u hu => ?_⟩
    have hj : cur[j]? = some u := by
      rw [← h6, List.getElem?_take] at hu
      split at hu
      · rw [← Array.getElem?_toList]; exact hu
      · cases hu
    have := hB.cell j
    rw [hj] at this
    have e1 : (⟨gr, 0, none⟩ : Addr).add j = ⟨gr, j, none⟩ := by
      unfold Addr.add; split
      · subst_vars; rfl
      · simp
    rw [e1]; exact this
/-- A row that is kept an eye on behind the sheet. -/
theorem ShAt.src {R : List Ent} {e : TypeId} {size n cap : Nat} {a : Option Addr} {xs : List Value} (h : ShAt w0 L g bal cnt W) (hR : Row R e size a n cap xs) (hm : ∀ x ∈ R, x ∈ L) : Src W a n size xs := by
  obtain ⟨R', a', cap', _, hS⟩ := h
  exact hR.srcIn hS fun x hx => by simp [hm x hx]
set_option maxHeartbeats 2000000 in
set_option maxRecDepth 100000 in
theorem new_calls (k : Int) (m : Nat) (hm : max 0 (min k 64) = (m : Int)) (h : Sts w0 L W) : Calls Try.prog 8 #[.int .i64 k] W fun e w' => ∃ g, e = .returned (.pointer (some ⟨g, 0, none⟩)) ∧ ShAt w0 L g (List.replicate m 0) 0 w' := by
  have hm64 : m ≤ 64 := by omega
  have H := Lib.hid h
  have hmk := fun W => make_ints m (by omega) W
  rw [ZI_eq] at hmk
  have HR := Lib.hid (made_row W.heap.size m (by omega) (List.replicate m 0) (by simp))
  have HZ := Lib.hid (List.length_replicate (n := m) (a := (0 : Int)))
  generalize List.replicate m (0 : Int) = l at *
  clear h
  go_enter Try.func8, Try.ntmps8
  go_wp2
  go_ret
  obtain rfl := HZ.out
  refine ⟨_, rfl, [(W.heap.size, (is l).toArray, 3)], some ⟨W.heap.size, 0, none⟩, l.length, HR.out, ?_⟩
  have h1 := H.out.ins [] L rfl (is l).toArray 3
  exact h1.ins [] ((W.heap.size, (is l).toArray, 3) :: L) (g := W.heap.size + 1) (by simp) (scells (some ⟨W.heap.size, 0, none⟩) l.length l.length 0) 49
set_option maxHeartbeats 2000000 in
set_option maxRecDepth 100000 in
theorem there_calls (a : Int) (h : ShAt w0 L g bal cnt W) : Calls Try.prog 27 #[.pointer (some ⟨g, 0, none⟩), .int .i64 a] W fun e w' => e = .returned (.bool (decide (0 ≤ a) && decide (a < (bal.length : Int)))) ∧ W = w' := by
  obtain ⟨R, ad, cap, hR, hS, c0, c1, d0, d1⟩ := h.parts
  clear hR hS c1 d0 d1 h
  generalize bal.length = n at *
  by_cases h0 : 0 ≤ a
  · have b0 : decide (0 ≤ a) = true := decide_eq_true h0
    go_enter Try.func27, Try.ntmps27
    go_wp2
    go_ret
    exact ⟨ret_bool (by first | rfl | (rw [b0]; rfl)), rfl⟩
  · have b0 : decide (0 ≤ a) = false := decide_eq_false h0
    go_enter Try.func27, Try.ntmps27
    go_wp2
    go_ret
    exact ⟨ret_bool (by first | rfl | (rw [b0]; rfl)), rfl⟩
set_option maxHeartbeats 2000000 in
set_option maxRecDepth 100000 in
theorem count_calls (h : ShAt w0 L g bal cnt W) : Calls Try.prog 13 #[.pointer (some ⟨g, 0, none⟩)] W fun e w' => e = .returned (.int .i64 cnt) ∧ W = w' := by
  obtain ⟨R, ad, cap, hR, hS, c0, c1, d0, d1⟩ := h.parts
  clear hR hS c0 d0 d1 h
  go_enter Try.func13, Try.ntmps13
  go_wp2
  go_ret
  exact ⟨rfl, rfl⟩
/-- A row of numbers reads so. -/
theorem src_int {A : Option Addr} {n : Nat} {l : List Int} (h : Src W A n 1 (is l)) {k : Nat} (hk : k < n) : ∃ ad, A = some ad ∧ W.cell? (ad.add k) = some (.int .i64 (l.getD k 0)) := by
  have hl : l.length = n := by have := h.1; rw [is_length] at this; omega
  obtain ⟨ad, e, hc⟩ := h.2 (by omega)
  exact ⟨ad, e, hc k _ (is_get l (by omega))⟩
set_option maxHeartbeats 2000000 in
set_option maxRecDepth 100000 in
theorem balance_calls (a : Int) (h : ShAt w0 L g bal cnt W) : Calls Try.prog 19 #[.pointer (some ⟨g, 0, none⟩), .int .i64 a] W fun e w' => e = .returned (.int .i64 (if 0 ≤ a ∧ a < (bal.length : Int) then bal.getD a.toNat 0 else 0)) ∧ W = w' := by
  have hth := there_calls a h
  obtain ⟨R, A, cap, hR, hS, c0, c1, d0, d1⟩ := h.parts
  have hsrc := hR.srcIn hS (fun x hx => by simp [hx])
  have hle := hR.le
  have hcl := hR.cap_le
  by_cases h0 : 0 ≤ a ∧ a < (bal.length : Int)
  · rw [if_pos h0]
    obtain ⟨k, rfl⟩ := Int.eq_ofNat_of_zero_le h0.1
    have hk : k < bal.length := by omega
    obtain ⟨ad, rfl, hc⟩ := src_int hsrc hk
    rw [decide_eq_true h0.1, decide_eq_true h0.2] at hth
    have HT := Lib.hid hth
    rw [Int.toNat_natCast]
    clear hth hsrc hR hS c1 d0 d1 h h0
    generalize bal.getD k 0 = v at *
    generalize bal.length = n at *
    go_enter Try.func19, Try.ntmps19
    go_wp2_with fail
    refine HT.out.mono ?_
    rintro e w' ⟨rfl, rfl⟩
    go_wp2
    go_ret
    exact ⟨rfl, rfl⟩
  · rw [if_neg h0]
    have e : (decide (0 ≤ a) && decide (a < (bal.length : Int))) = false := by rw [Bool.and_eq_false_iff, decide_eq_false_iff_not, decide_eq_false_iff_not]; omega
    rw [e] at hth
    have HT := Lib.hid hth
    clear hth hsrc hR hS c1 d0 d1 h h0 e
    go_enter Try.func19, Try.ntmps19
    go_wp2_with fail
    refine HT.out.mono ?_
    rintro e w' ⟨rfl, rfl⟩
    go_wp2
    go_ret
    exact ⟨rfl, rfl⟩
end
end Go.Proofs.Ytideaimlnipkoaa

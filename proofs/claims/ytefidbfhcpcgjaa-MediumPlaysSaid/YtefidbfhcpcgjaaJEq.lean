import Derived.Test.YtefidbfhcpcgjaaJSome
import Derived.Test.YtefidbfhcpcgjaaMedSpoil
namespace Go.Proofs.Ytefidbfhcpcgjaa
open Go.RowKit
set_option linter.unusedVariables false
set_option linter.unusedSimpArgs false
theorem Reads.drewE {W W' : World} {a : Option Addr} {n j : Nat} {ts : List (List Int)} (h : Reads W a n ts) (e : W' = W.drewN j) : Reads W' a n ts := by subst e; exact h.below (bel_drewN (Below.refl _ _) _)
set_option maxHeartbeats 4000000 in
set_option maxRecDepth 100000 in
theorem equal_yes {A B : Option Addr} {n c d : Nat} (ts : List (List Int)) {w : World} (ha : Reads w A n ts) (hb : Reads w B n ts) (hn : n ≤ 1000000) (hl : ∀ t ∈ ts, t.length ≤ 100000) :
    Calls Try.prog 41 #[.slice A n c, .slice B n d] w fun e w' => e = .returned (.bool true) ∧ ∃ k, w' = w.drewN k := by
  have hln := ha.len
  have HA := Lib.hid ha; have HB := Lib.hid hb; have HLN := Lib.hid hln; have HLL := Lib.hid hl
  have b1 : ((n : Int) != n) = false := by simp
  clear ha hb hln hl
  go_enter Try.func41, Try.ntmps41
  go_wp2
  go_loopw [13] (fun v13 wx => ∃ (i j : Nat), i ≤ n ∧ v13 = .int .i64 i ∧ Hid (wx = w.drewN j)) (fun v13 _ => n - (intOf v13).toNat)
  case atStart => exact ⟨0, 0, Nat.zero_le _, rfl, Lib.hid rfl⟩
  case round =>
    obtain ⟨i, j, hi, rfl, HW⟩ := hrel
    by_cases hlt : i < n
    · obtain ⟨t, ht⟩ : ∃ t, ts[i]? = some t := ⟨_, List.getElem?_eq_getElem (by rw [HLN.out]; exact hlt)⟩
      have htl := HLL.out t (List.mem_of_getElem? ht)
      obtain ⟨ad, p, rfl, hc1, hs1⟩ := (HA.out.drewE HW.out).at_ ht
      obtain ⟨bd, q, rfl, hc2, hs2⟩ := (HB.out.drewE HW.out).at_ ht
      have hp := hs1.len
      have hq := hs2.len
      have S1 := Lib.hid hs1; have S2 := Lib.hid hs2
      have p1 : p.n ≤ 1000000 := by omega
      have p2 : q.n ≤ 9223372036854775807 := by omega
      have i0 : (0 : Int) ≤ (i : Int) := by omega
      have i1 : (i : Int) < (n : Int) := by omega
      clear ht htl hs1 hs2 hp hq
      go_upto_region 6 with fail
      go_quiet ((go_at_call 18; exact Calls.quiet_of (same_yes t t (S1.out.drewN _) (S2.out.drewN _) p1 p2 rfl)))
      go_wp2
      go_roundw
      case rel => exact ⟨i + 1, j + nq, by omega, by go_num, Lib.hid (by rw [HW.out, World.drewN_drewN])⟩
      case measure => simp [intOf]; omega
    · go_wp2
      go_ret
      exact ⟨rfl, j, HW.out⟩
/-! ### frames, and one byte of them -/
theorem lies_app {ts : List (List Int)} (hf : Fit ts) (hl : ts.length ≤ 100000) (X : List Int) : Lies (framesL 1 ts ++ X) ts := by
  refine ⟨fun i t ht => ?_, by rw [List.length_append, off_all ts 1 (Nat.le_refl _)]; omega⟩
  have h1 := (List.getElem?_eq_some_iff.1 ht).1
  obtain ⟨hb, hlt⟩ := hf t (List.mem_of_getElem? ht)
  rw [frames_at 1 ht, ← frames_off 1 ts i, List.append_assoc, List.append_assoc, Int.add_comm (i : Int) 1]
  exact open_seal _ t _ _ hb hlt (by omega) (by omega)
theorem which {ts : List (List Int)} {k : Nat} : ∀ n, n ≤ ts.length → k < off ts n → ∃ i t, i < n ∧ ts[i]? = some t ∧ off ts i ≤ k ∧ k < off ts i + t.length + 10 := by
  intro n
  induction n with
  | zero => intro _ h; simp [off] at h
  | succ n ih =>
    intro hn h
    by_cases h2 : k < off ts n
    · obtain ⟨i, t, h3, h4⟩ := ih (by omega) h2
      exact ⟨i, t, by omega, h4⟩
    · have ht : ts[n]? = some ts[n] := List.getElem?_eq_getElem (by omega)
      rw [off_succ ht] at h
      exact ⟨n, ts[n], by omega, ht, by omega, h⟩
theorem off_take {ts : List (List Int)} {i : Nat} (h : i ≤ ts.length) : off (ts.take i) (ts.take i).length = off ts i := by
  unfold off; rw [List.length_take, Nat.min_eq_left h, List.take_take, Nat.min_self]
theorem spoilt_at {ts : List (List Int)} (hf : Fit ts) (hl : ts.length ≤ 100000) {k : Nat} {v : Int} (hk : k < (framesL 1 ts).length) (hv : 0 ≤ v ∧ v ≤ 255) (hne : v ≠ (framesL 1 ts).getD k 0) :
    ∃ us, Lies ((framesL 1 ts).set k v) us ∧ off us us.length < (framesL 1 ts).length ∧ openL ((framesL 1 ts).set k v) (off us us.length) = ([], 0, 0, 2) := by
  obtain ⟨i, t, hi, ht, h1, h2⟩ := which (k := k) ts.length (Nat.le_refl _) (by rw [off_all ts 1 (Nat.le_refl _)]; exact hk)
  obtain ⟨hb, hlt⟩ := hf t (List.mem_of_getElem? ht)
  have hfa := frames_at 1 ht
  have hset : (framesL 1 ts).set k v = framesL 1 (ts.take i) ++ ((sealL (1 + i) t).set (k - off ts i) v ++ framesL (1 + i + 1) (ts.drop (i + 1))) := by
    rw [hfa, List.set_append_right _ _ (by rw [frames_off]; exact h1), frames_off, List.set_append_left _ _ (by rw [seal_len]; omega)]
  refine ⟨ts.take i, ?_, ?_, ?_⟩
  · rw [hset]
    exact lies_app (fun x hx => hf x (List.mem_of_mem_take hx)) (by rw [List.length_take]; omega) _
  · rw [off_take (by omega)]; omega
  · rw [off_take (by omega), hset, ← frames_off 1 ts i]
    refine open_byte _ t _ v _ _ hb hlt (by rw [frames_off]; omega) hv ?_
    rw [frames_off]
    intro e
    apply hne
    rw [hfa, getD_app_right (by rw [frames_off]; exact h1), frames_off, getD_app_left (by rw [seal_len]; omega)]
    exact e
/-- The medium behind i Adds. -/
def frm (ts : List (List Int)) (i : Nat) : Med := ⟨framesL 1 (ts.take i), (framesL 1 (ts.take i)).length, false, 0, false⟩
theorem frm_add {ts : List (List Int)} {i : Nat} {t : List Int} (ht : ts[i]? = some t) : jadd (frm ts i) i false t = (0, frm ts (i + 1), i + 1, false) := by
  have h := frames_next 1 ht
  unfold frm
  rw [h, Int.add_comm 1 (i : Int)]
  rfl
theorem frm_len {ts : List (List Int)} (hs : Small ts) (i : Nat) : (framesL 1 (ts.take i)).length ≤ 50 * (min i 10) := by
  rw [frames_len]
  have : ∀ (l : List (List Int)), (∀ t ∈ l, t.length ≤ 40) → (l.map fun t => t.length + 10).sum ≤ 50 * l.length := by
    intro l
    induction l with
    | nil => intro _; simp
    | cons t r ih =>
      intro h
      have h1 := h t (by simp)
      have h2 := ih (fun x hx => h x (by simp [hx]))
      simp only [List.map_cons, List.sum_cons, List.length_cons]; omega
  have h2 := this (ts.take i) (fun t ht => (hs.2 t (List.mem_of_mem_take ht)).2)
  rw [List.length_take] at h2
  have := hs.1
  omega
theorem frm_ok {ts : List (List Int)} (hs : Small ts) (i : Nat) : (frm ts i).Ok := by
  have hl := frm_len hs i
  have hf : Fit (ts.take i) := fun t ht => hs.fit t (List.mem_of_mem_take ht)
  exact ⟨frames_byt hf 1, by show (framesL 1 (ts.take i)).length ≤ _; omega, Nat.le_refl _, by show -9223372036854775808 ≤ (0 : Int); omega, by show (0 : Int) ≤ 9223372036854775807; omega, fun h => by cases h⟩
end Go.Proofs.Ytefidbfhcpcgjaa

import Derived.Test.YtefidbfhcpcgjaaFramePure
namespace Go.Proofs.Ytefidbfhcpcgjaa
set_option linter.unusedVariables false
set_option linter.unusedSimpArgs false
/-! ### Frames one behind the other -/
def framesL (k : Int) : List (List Int) → List Int
  | [] => []
  | t :: r => sealL k t ++ framesL (k + 1) r
def off (ts : List (List Int)) (i : Nat) : Nat := ((ts.take i).map fun t => t.length + 10).sum
def Fit (ts : List (List Int)) : Prop := ∀ t ∈ ts, Byt t ∧ t.length ≤ 60000
theorem frames_len (ts : List (List Int)) : ∀ k, (framesL k ts).length = (ts.map fun t => t.length + 10).sum := by
  induction ts with
  | nil => intro k; rfl
  | cons t r ih => intro k; simp only [framesL, List.length_append, seal_len, ih, List.map_cons, List.sum_cons]
theorem frames_off (k : Int) (ts : List (List Int)) (i : Nat) : (framesL k (ts.take i)).length = off ts i := by rw [frames_len, off]
theorem off_all (ts : List (List Int)) (k : Int) {i : Nat} (h : ts.length ≤ i) : off ts i = (framesL k ts).length := by rw [frames_len, off, List.take_of_length_le h]
theorem off_zero (ts : List (List Int)) : off ts 0 = 0 := rfl
theorem off_succ {ts : List (List Int)} {i : Nat} {t : List Int} (h : ts[i]? = some t) : off ts (i + 1) = off ts i + t.length + 10 := by
  obtain ⟨h1, h2⟩ := List.getElem?_eq_some_iff.1 h
  unfold off
  rw [List.take_succ_eq_append_getElem h1, List.map_append, List.sum_append, h2]; simp; omega
theorem off_le (ts : List (List Int)) {i j : Nat} (h : i ≤ j) : off ts i ≤ off ts j := by
  induction h with
  | refl => exact Nat.le_refl _
  | @step m _ ih =>
    refine Nat.le_trans ih ?_
    by_cases hm : m < ts.length
    · rw [off_succ (List.getElem?_eq_getElem hm)]; omega
    · unfold off; rw [List.take_of_length_le (by omega), List.take_of_length_le (by omega)]; exact Nat.le_refl _
theorem frames_app (a b : List (List Int)) : ∀ k, framesL k (a ++ b) = framesL k a ++ framesL (k + a.length) b := by
  induction a with
  | nil => intro k; simp [framesL]
  | cons t r ih =>
    intro k
    rw [List.cons_append, framesL, framesL, ih, List.append_assoc, List.length_cons]
    congr 3; push_cast; omega
theorem frames_at (k : Int) {ts : List (List Int)} {i : Nat} {t : List Int} (h : ts[i]? = some t) : framesL k ts = framesL k (ts.take i) ++ (sealL (k + i) t ++ framesL (k + i + 1) (ts.drop (i + 1))) := by
  obtain ⟨h1, h2⟩ := List.getElem?_eq_some_iff.1 h
  conv => lhs; rw [← List.take_append_drop i ts]
  rw [frames_app, List.drop_eq_getElem_cons h1, framesL, h2, List.length_take, Nat.min_eq_left (by omega)]
theorem frames_next (k : Int) {ts : List (List Int)} {i : Nat} {t : List Int} (h : ts[i]? = some t) : framesL k (ts.take (i + 1)) = framesL k (ts.take i) ++ sealL (k + i) t := by
  obtain ⟨h1, h2⟩ := List.getElem?_eq_some_iff.1 h
  rw [List.take_succ_eq_append_getElem h1, frames_app, h2, List.length_take, Nat.min_eq_left (by omega)]
  simp [framesL]
theorem frames_snoc (k : Int) (ts : List (List Int)) (t : List Int) : framesL k (ts ++ [t]) = framesL k ts ++ sealL (k + ts.length) t := by rw [frames_app]; simp [framesL]
theorem frames_byt {ts : List (List Int)} (hf : Fit ts) : ∀ k, Byt (framesL k ts) := by
  induction ts with
  | nil => intro k; exact Byt.nil
  | cons t r ih => intro k; exact (seal_byt k (hf t (by simp)).1).app (ih (fun x hx => hf x (by simp [hx])) _)
section
variable {k : Int} {ts : List (List Int)} {i : Nat} {t : List Int}
theorem open_frame (hf : Fit ts) (k0 : 0 ≤ k) (k1 : k + ts.length ≤ 4294967296) (h : ts[i]? = some t) : openL (framesL k ts) (off ts i) = (t, k + i, (off ts i : Int) + t.length + 10, 0) := by
  have h1 := (List.getElem?_eq_some_iff.1 h).1
  obtain ⟨hb, hl⟩ := hf t (List.mem_of_getElem? h)
  rw [frames_at k h, ← frames_off k ts i]
  exact open_seal _ t _ _ hb hl (by omega) (by omega)
theorem open_end (h : ts.length ≤ i) : openL (framesL k ts) (off ts i) = ([], 0, 0, 1) := by
  rw [off_all ts k h]
  exact open_short (by simp)
theorem cut_at (h : ts[i]? = some t) {c : Nat} (hc : off ts i ≤ c) : (framesL k ts).take c = framesL k (ts.take i) ++ (sealL (k + i) t ++ framesL (k + i + 1) (ts.drop (i + 1))).take (c - off ts i) := by
  rw [frames_at k h, List.take_append, List.take_of_length_le (by rw [frames_off]; exact hc), frames_off]
theorem open_in (hf : Fit ts) (k0 : 0 ≤ k) (k1 : k + ts.length ≤ 4294967296) (h : ts[i]? = some t) {c : Nat} (hc : off ts (i + 1) ≤ c) : openL ((framesL k ts).take c) (off ts i) = (t, k + i, (off ts i : Int) + t.length + 10, 0) := by
  have h1 := (List.getElem?_eq_some_iff.1 h).1
  obtain ⟨hb, hl⟩ := hf t (List.mem_of_getElem? h)
  rw [off_succ h] at hc
  have hx : (sealL (k + i) t ++ framesL (k + i + 1) (ts.drop (i + 1))).take (c - off ts i) = sealL (k + i) t ++ (framesL (k + i + 1) (ts.drop (i + 1))).take (c - off ts i - (sealL (k + i) t).length) := by
    rw [List.take_append, List.take_of_length_le (l := sealL (k + i) t) (by rw [seal_len]; omega)]
  rw [cut_at h (by omega), hx]
  have := open_seal (k + i) t (framesL k (ts.take i)) ((framesL (k + i + 1) (ts.drop (i + 1))).take (c - off ts i - (sealL (k + i) t).length)) hb hl (by omega) (by omega)
  rwa [frames_off] at this
theorem open_over (hf : Fit ts) (h : ts[i]? = some t) {c : Nat} (hc : off ts i ≤ c) (hc2 : c < off ts (i + 1)) : openL ((framesL k ts).take c) (off ts i) = ([], 0, 0, 1) := by
  obtain ⟨hb, hl⟩ := hf t (List.mem_of_getElem? h)
  rw [off_succ h] at hc2
  rw [cut_at h hc, List.take_append_of_le_length (by rw [seal_len]; omega), ← frames_off k ts i]
  exact open_cut _ t _ _ hl (by rw [frames_off]; omega)
theorem open_over_end {c : Nat} (h : ts.length ≤ i) (hc : c ≤ off ts i) : openL ((framesL k ts).take c) (off ts i) = ([], 0, 0, 1) := by
  refine open_short ?_
  rw [List.drop_of_length_le (by rw [List.length_take]; omega)]; decide
end
/-- How many frames end within c, of the first i. -/
def cntTo (ts : List (List Int)) (c : Nat) : Nat → Nat
  | 0 => 0
  | i + 1 => cntTo ts c i + if off ts (i + 1) ≤ c then 1 else 0
theorem cnt_full (ts : List (List Int)) (c : Nat) : ∀ i, off ts i ≤ c → cntTo ts c i = i := by
  intro i
  induction i with
  | zero => intro _; rfl
  | succ i ih =>
    intro h
    have := off_le ts (show i ≤ i + 1 by omega)
    rw [cntTo, ih (by omega), if_pos h]
theorem cnt_stop (ts : List (List Int)) (c i : Nat) (h : off ts i ≤ c) (h2 : c < off ts (i + 1)) : ∀ j, i ≤ j → cntTo ts c j = i := by
  intro j hj
  induction hj with
  | refl => exact cnt_full ts c i h
  | @step m hm ih =>
    have hm' : i ≤ m := hm
    have := off_le ts (show i + 1 ≤ m + 1 by omega)
    rw [cntTo, ih, if_neg (by omega), Nat.add_zero]
theorem cnt_le (ts : List (List Int)) (c : Nat) : ∀ i, cntTo ts c i ≤ i := by
  intro i
  induction i with
  | zero => exact Nat.le_refl _
  | succ i ih => rw [cntTo]; split <;> omega
end Go.Proofs.Ytefidbfhcpcgjaa

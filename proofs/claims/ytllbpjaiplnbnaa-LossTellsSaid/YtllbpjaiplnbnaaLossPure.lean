import Derived.Test.YtllbpjaiplnbnaaAllot
namespace Go.Proofs.Ytllbpjaiplnbnaa
open Go.RowKit
set_option linter.unusedVariables false
set_option linter.unusedSimpArgs false
/-! ### What sharing out comes to: of lists of whole numbers alone -/
theorem Behind.irr {rs : List Int} {i : Nat} (h : Behind rs i i) : False := by unfold Behind at h; omega
theorem Behind.anti {rs : List Int} {i k : Nat} (h : Behind rs i k) (h' : Behind rs k i) : False := by unfold Behind at h h'; omega
theorem behind_or (rs : List Int) {i k : Nat} (h : i ≠ k) : Behind rs i k ∨ Behind rs k i := by unfold Behind; omega
theorem sum_le0 : ∀ (l : List Int) (n : Nat), l.length = n → (∀ i, i < n → l.getD i 0 ≤ 0) → l.sum ≤ 0 := by
  intro l
  induction l with
  | nil => intro n _ _; simp
  | cons x l ih =>
    intro n hl h
    have h0 := h 0 (by rw [← hl]; simp)
    have h1 := ih l.length rfl (fun i hi => by have := h (i + 1) (by rw [← hl]; simpa using hi); simpa using this)
    simp only [List.getD_cons_zero] at h0
    rw [List.sum_cons]; omega
theorem sum_ge0 : ∀ (l : List Int) (n : Nat), l.length = n → (∀ i, i < n → 0 ≤ l.getD i 0) → 0 ≤ l.sum := by
  intro l
  induction l with
  | nil => intro n _ _; simp
  | cons x l ih =>
    intro n hl h
    have h0 := h 0 (by rw [← hl]; simp)
    have h1 := ih l.length rfl (fun i hi => by have := h (i + 1) (by rw [← hl]; simpa using hi); simpa using this)
    simp only [List.getD_cons_zero] at h0
    rw [List.sum_cons]; omega
theorem sum_pair : ∀ (a b c d : List Int) (n : Nat), a.length = n → b.length = n → c.length = n → d.length = n → (∀ i, i < n → a.getD i 0 + b.getD i 0 = c.getD i 0 + d.getD i 0) → a.sum + b.sum = c.sum + d.sum := by
  intro a
  induction a with
  | nil => intro b c d n h1 h2 h3 h4 _; simp at h1; subst h1; rw [List.eq_nil_of_length_eq_zero h2, List.eq_nil_of_length_eq_zero h3, List.eq_nil_of_length_eq_zero h4]
  | cons x a ih =>
    intro b c d n h1 h2 h3 h4 h
    match b, c, d, h2, h3, h4 with
    | [], _, _, h2, _, _ => simp at h1 h2; omega
    | _, [], _, _, h3, _ => simp at h1 h3; omega
    | _, _, [], _, _, h4 => simp at h1 h4; omega
    | y :: b, z :: c, u :: d, h2, h3, h4 =>
      have h0 := h 0 (by rw [← h1]; simp)
      simp only [List.length_cons] at h1 h2 h3 h4
      have := ih b c d a.length rfl (by omega) (by omega) (by omega) (fun i hi => by have := h (i + 1) (by omega); simpa using this)
      simp only [List.getD_cons_zero] at h0
      simp only [List.sum_cons]; omega
theorem ext_le : ∀ (a b : List Int) (n : Nat), a.length = n → b.length = n → (∀ i, i < n → a.getD i 0 ≤ b.getD i 0) → a.sum = b.sum → a = b := by
  intro a
  induction a with
  | nil => intro b n h1 h2 _ _; simp at h1; subst h1; exact (List.eq_nil_of_length_eq_zero h2).symm
  | cons x a ih =>
    intro b n h1 h2 h hs
    match b, h2 with
    | [], h2 => simp at h1 h2; omega
    | y :: b, h2 =>
      have h0 := h 0 (by rw [← h1]; simp)
      simp only [List.length_cons] at h1 h2
      simp only [List.getD_cons_zero] at h0
      have hle : ∀ i, i < a.length → a.getD i 0 ≤ b.getD i 0 := fun i hi => by have := h (i + 1) (by omega); simpa using this
      have h3 : a.sum ≤ b.sum := by
        have := sum_ge0 ((List.range a.length).map fun i => b.getD i 0 - a.getD i 0) a.length (by simp) (fun i hi => by
          have := hle i hi
          simp [List.getD_eq_getElem?_getD, hi] at this ⊢; omega)
        have h5 := sum_pair a ((List.range a.length).map fun i => b.getD i 0 - a.getD i 0) b (List.replicate a.length 0) a.length rfl (by simp) (by omega) (by simp) (fun i hi => by
          simp [List.getD_eq_getElem?_getD, hi]; omega)
        have h6 : (List.replicate a.length (0 : Int)).sum = 0 := by simp
        omega
      simp only [List.sum_cons] at hs
      have e : x = y := by omega
      rw [e, ih b a.length rfl (by omega) hle (by omega)]
theorem ext_getD {a b : List Int} {n : Nat} (h1 : a.length = n) (h2 : b.length = n) (h : ∀ i, i < n → a.getD i 0 = b.getD i 0) : a = b := by
  apply List.ext_getElem (by omega)
  intro i hi hj
  have := h i (by omega)
  simpa [List.getD_eq_getElem?_getD, hi, hj] using this
section
variable {t : Int} {rs : List Int} {n k i : Nat} {s s' s0 : List Int × List Int} {v : Int} {b : Bool}
theorem Kin.total (h : Kin n s s') : s'.1.sum + s'.2.sum = s.1.sum + s.2.sum := sum_pair _ _ _ _ n h.m1 h.m2 h.l1 h.l2 h.sum
theorem Ok.sum1 (h : Ok n s) : 0 ≤ s.1.sum := sum_ge0 _ n h.l1 h.p1
theorem Ok.sum2 (h : Ok n s) : 0 ≤ s.2.sum := sum_ge0 _ n h.l2 h.p2
/-- Written down: how far. -/
theorem Up.far (h : Up t rs n s s' b) : Ok n s → s.2.sum ≤ t → (b = false → s'.2.sum = t) ∧ (b = true → s'.2.sum < t ∧ ∀ i, i < n → s'.1.getD i 0 ≤ 0) := by
  induction h with
  | stop s h => exact fun _ h2 => ⟨fun _ => (by omega), fun e => (by cases e)⟩
  | dry s h hj => exact fun _ _ => ⟨fun e => (by cases e), fun _ => ⟨h, jun_none _ _ _ hj⟩⟩
  | step s s' b k h hj hn ih =>
    intro ho h2
    obtain ⟨h1, h3, _⟩ := jun_some _ _ _ _ hj
    have h4 := ho.p2 k h1
    refine ih (ho.mv h1 (by omega) (by omega)) ?_
    rw [mv_sum (by rw [ho.l2]; exact h1)]; omega
theorem Up.high (h : Up t rs n s s' b) (h2 : t ≤ s.2.sum) : s' = s ∧ b = false := by
  cases h with
  | stop => exact ⟨rfl, rfl⟩
  | dry _ h3 => omega
  | step _ _ _ _ h3 => omega
theorem Dn.far (h : Dn t rs n s s' b) : Ok n s → 0 ≤ t → t ≤ s.2.sum → s'.2.sum = t := by
  induction h with
  | stop s h => exact fun _ _ h2 => by omega
  | dry s h hj =>
    intro ho h0 _
    have := sum_le0 _ n ho.l2 (sen_none _ _ _ hj)
    omega
  | step s s' b k h hj hn ih =>
    intro ho h0 h2
    obtain ⟨h1, h3, _⟩ := sen_some _ _ _ _ hj
    have h4 := ho.p1 k h1
    refine ih (ho.mv h1 (by omega) (by omega)) h0 ?_
    rw [mv_sum (by rw [ho.l2]; exact h1)]; omega
theorem Dn.low (h : Dn t rs n s s' b) (h2 : s.2.sum ≤ t) : s' = s := by
  cases h with
  | stop => rfl
  | dry _ h3 => omega
  | step _ _ _ _ h3 => omega
theorem Up.more (h : Up t rs n s s' b) : Ok n s → ∀ i, i < n → s.2.getD i 0 ≤ s'.2.getD i 0 := by
  induction h with
  | stop s h => exact fun _ _ _ => Int.le_refl _
  | dry s h hj => exact fun _ _ _ => Int.le_refl _
  | step s s' b k h hj hn ih =>
    intro ho i hi
    obtain ⟨h1, h3, _⟩ := jun_some _ _ _ _ hj
    have h4 := ho.p2 k h1
    have := ih (ho.mv h1 (by omega) (by omega)) i hi
    rw [mv_snd (by rw [ho.l2]; exact h1)] at this
    split at this
    · rename_i e; subst e; omega
    · exact this
theorem Dn.less (h : Dn t rs n s s' b) : Ok n s → ∀ i, i < n → s'.2.getD i 0 ≤ s.2.getD i 0 := by
  induction h with
  | stop s h => exact fun _ _ _ => Int.le_refl _
  | dry s h hj => exact fun _ _ _ => Int.le_refl _
  | step s s' b k h hj hn ih =>
    intro ho i hi
    obtain ⟨h1, h3, _⟩ := sen_some _ _ _ _ hj
    have h4 := ho.p1 k h1
    have := ih (ho.mv h1 (by omega) (by omega)) i hi
    rw [mv_snd (by rw [ho.l2]; exact h1)] at this
    split at this
    · rename_i e; subst e; omega
    · exact this
/-- Nobody is written down as long as a more junior one has a balance. -/
def UpR (rs : List Int) (n : Nat) (s0 s : List Int × List Int) : Prop := ∀ i k, i < n → k < n → Behind rs i k → s0.2.getD i 0 < s.2.getD i 0 → s.1.getD k 0 ≤ 0
theorem Up.ranks (h : Up t rs n s s' b) : Ok n s → UpR rs n s0 s → UpR rs n s0 s' := by
  induction h with
  | stop s h => exact fun _ h => h
  | dry s h hj => exact fun _ h => h
  | step s s' b k h hj hn ih =>
    intro ho hR
    obtain ⟨h1, h3, h5⟩ := jun_some _ _ _ _ hj
    have h4 := ho.p2 k h1
    refine ih (ho.mv h1 (by omega) (by omega)) ?_
    intro i q hi hq hB hlt
    rw [mv_snd (by rw [ho.l2]; exact h1)] at hlt
    rw [mv_fst (by rw [ho.l1]; exact h1)]
    by_cases hik : i = k
    · subst hik
      rw [if_neg (fun e => by subst e; exact hB.irr)]
      by_cases hb : 0 < s.1.getD q 0
      · exact (hB.anti (h5 q hq hb (fun e => by subst e; exact hB.irr))).elim
      · omega
    · rw [if_neg hik] at hlt
      have h6 := hR i q hi hq hB hlt
      split
      · rename_i e; subst e; omega
      · exact h6
/-- Nobody is restored as long as a more senior one has a Down. -/
def DnR (rs : List Int) (n : Nat) (s0 s : List Int × List Int) : Prop := ∀ i k, i < n → k < n → Behind rs i k → s.2.getD k 0 < s0.2.getD k 0 → s.2.getD i 0 ≤ 0
theorem Dn.ranks (h : Dn t rs n s s' b) : Ok n s → DnR rs n s0 s → DnR rs n s0 s' := by
  induction h with
  | stop s h => exact fun _ h => h
  | dry s h hj => exact fun _ h => h
  | step s s' b k h hj hn ih =>
    intro ho hR
    obtain ⟨h1, h3, h5⟩ := sen_some _ _ _ _ hj
    have h4 := ho.p1 k h1
    refine ih (ho.mv h1 (by omega) (by omega)) ?_
    intro i q hi hq hB hlt
    rw [mv_snd (by rw [ho.l2]; exact h1)] at hlt ⊢
    by_cases hqk : q = k
    · subst hqk
      rw [if_neg (fun e => by subst e; exact hB.irr)]
      by_cases hb : 0 < s.2.getD i 0
      · exact (hB.anti (h5 i hi hb (fun e => by subst e; exact hB.irr))).elim
      · omega
    · rw [if_neg hqk] at hlt
      have h6 := hR i q hi hq hB hlt
      split
      · rename_i e; subst e; omega
      · exact h6
/-- If one has a Down, all behind it have nothing more. -/
def Filled (rs : List Int) (n : Nat) (s : List Int × List Int) : Prop := ∀ i k, i < n → k < n → Behind rs i k → 0 < s.2.getD i 0 → s.1.getD k 0 ≤ 0
theorem Up.filled (h : Up t rs n s s' b) : Ok n s → Filled rs n s → Filled rs n s' := by
  induction h with
  | stop s h => exact fun _ h => h
  | dry s h hj => exact fun _ h => h
  | step s s' b k h hj hn ih =>
    intro ho hR
    obtain ⟨h1, h3, h5⟩ := jun_some _ _ _ _ hj
    have h4 := ho.p2 k h1
    refine ih (ho.mv h1 (by omega) (by omega)) ?_
    intro i q hi hq hB hlt
    rw [mv_snd (by rw [ho.l2]; exact h1)] at hlt
    rw [mv_fst (by rw [ho.l1]; exact h1)]
    by_cases hik : i = k
    · subst hik
      rw [if_neg (fun e => by subst e; exact hB.irr)]
      by_cases hb : 0 < s.1.getD q 0
      · exact (hB.anti (h5 q hq hb (fun e => by subst e; exact hB.irr))).elim
      · omega
    · rw [if_neg hik] at hlt
      have h6 := hR i q hi hq hB hlt
      split
      · rename_i e; subst e; omega
      · exact h6
theorem Dn.filled (h : Dn t rs n s s' b) : Ok n s → Filled rs n s → Filled rs n s' := by
  induction h with
  | stop s h => exact fun _ h => h
  | dry s h hj => exact fun _ h => h
  | step s s' b k h hj hn ih =>
    intro ho hR
    obtain ⟨h1, h3, h5⟩ := sen_some _ _ _ _ hj
    have h4 := ho.p1 k h1
    refine ih (ho.mv h1 (by omega) (by omega)) ?_
    intro i q hi hq hB hlt
    rw [mv_snd (by rw [ho.l2]; exact h1)] at hlt
    rw [mv_fst (by rw [ho.l1]; exact h1)]
    by_cases hqk : q = k
    · subst hqk
      have hik : i ≠ q := fun e => by subst e; exact hB.irr
      rw [if_neg hik] at hlt
      exact (hB.anti (h5 i hi hlt hik)).elim
    · rw [if_neg hqk]
      refine hR i q hi hq hB ?_
      split at hlt
      · rename_i e; subst e; exact h3
      · exact hlt
theorem Shared.filled (h : Shared t rs n s s') (ho : Ok n s) (hf : Filled rs n s) : Filled rs n s' := by
  rcases h with h | ⟨m, b, h1, h2⟩
  · exact h.filled ho hf
  · exact h2.filled (h1.keeps ho).1 (h1.filled ho hf)
/-- How far it goes. -/
theorem Shared.far (h : Shared t rs n s s') (ho : Ok n s) (h0 : 0 ≤ t) : s'.2.sum = min t (s.1.sum + s.2.sum) := by
  rcases h with h | ⟨m, b, h1, h2⟩
  · obtain ⟨x, y⟩ := h.keeps ho
    by_cases hc : s.2.sum ≤ t
    · obtain ⟨h3, h4⟩ := (h.far ho hc).2 rfl
      have h5 := sum_le0 _ n x.l1 h4
      have h6 := x.sum1
      have h7 := y.total
      omega
    · cases (h.high (by omega)).2
  · obtain ⟨x, y⟩ := h1.keeps ho
    obtain ⟨x2, y2⟩ := h2.keeps x
    have h7 := y.total
    have h8 := y2.total
    have h9 := x2.sum1
    by_cases hc : s.2.sum ≤ t
    · have h3 := (h1.far ho hc).1 rfl
      obtain rfl := h2.low (by omega)
      omega
    · obtain ⟨rfl, _⟩ := h1.high (by omega)
      have h3 := h2.far ho h0 (by omega)
      omega
/-- What holds of each and of each two. -/
theorem Shared.ranks (h : Shared t rs n s s') (ho : Ok n s) :
    (s.2.sum ≤ t → (∀ i, i < n → s.2.getD i 0 ≤ s'.2.getD i 0) ∧ UpR rs n s s') ∧ (t ≤ s.2.sum → (∀ i, i < n → s'.2.getD i 0 ≤ s.2.getD i 0) ∧ DnR rs n s s') := by
  have u0 : UpR rs n s s := fun i k _ _ _ h => absurd h (Int.lt_irrefl _)
  have d0 : DnR rs n s s := fun i k _ _ _ h => absurd h (Int.lt_irrefl _)
  rcases h with h | ⟨m, b, h1, h2⟩
  · refine ⟨fun hc => ⟨h.more ho, h.ranks ho u0⟩, fun hc => ?_⟩
    obtain ⟨rfl, _⟩ := h.high hc
    exact ⟨fun _ _ => Int.le_refl _, d0⟩
  · refine ⟨fun hc => ?_, fun hc => ?_⟩
    · have h3 := (h1.far ho hc).1 rfl
      obtain rfl := h2.low (by omega)
      exact ⟨h1.more ho, h1.ranks ho u0⟩
    · obtain ⟨rfl, _⟩ := h1.high hc
      exact ⟨h2.less ho, h2.ranks ho d0⟩
/-- Two filled states of the same notes with as much written down are one. -/
theorem filled_one {s1 s2 : List Int × List Int} (o1 : Ok n s1) (o2 : Ok n s2) (f1 : Filled rs n s1) (f2 : Filled rs n s2) (hk : ∀ i, i < n → s1.1.getD i 0 + s1.2.getD i 0 = s2.1.getD i 0 + s2.2.getD i 0) (hs : s1.2.sum = s2.2.sum) : s1 = s2 := by
  have comp : (∀ i, i < n → s1.2.getD i 0 ≤ s2.2.getD i 0) ∨ (∀ i, i < n → s2.2.getD i 0 ≤ s1.2.getD i 0) := by
    apply Classical.byContradiction
    intro hno
    have h1 : ∃ i, i < n ∧ s2.2.getD i 0 < s1.2.getD i 0 := by
      apply Classical.byContradiction
      intro h
      exact hno (.inl fun i hi => by
        apply Classical.byContradiction
        intro h2
        exact h ⟨i, hi, by omega⟩)
    have h2 : ∃ i, i < n ∧ s1.2.getD i 0 < s2.2.getD i 0 := by
      apply Classical.byContradiction
      intro h
      exact hno (.inr fun i hi => by
        apply Classical.byContradiction
        intro h2
        exact h ⟨i, hi, by omega⟩)
    obtain ⟨k, hk1, hk2⟩ := h1
    obtain ⟨i, hi1, hi2⟩ := h2
    have hne : i ≠ k := fun e => by subst e; omega
    have pi := o1.p2 i hi1
    have pk := o2.p2 k hk1
    have qi := o2.p1 i hi1
    have qk := o1.p1 k hk1
    rcases behind_or rs hne with hb | hb
    · have := f2 i k hi1 hk1 hb (by omega)
      have := hk k hk1
      omega
    · have := f1 k i hk1 hi1 hb (by omega)
      have := hk i hi1
      omega
  have e2 : s1.2 = s2.2 := by
    rcases comp with h | h
    · exact ext_le _ _ n o1.l2 o2.l2 h hs
    · exact (ext_le _ _ n o2.l2 o1.l2 h hs.symm).symm
  have e1 : s1.1 = s2.1 := ext_getD o1.l1 o2.l1 (fun i hi => by have := hk i hi; rw [e2] at this; omega)
  exact Prod.ext e1 e2
end
end Go.Proofs.Ytllbpjaiplnbnaa

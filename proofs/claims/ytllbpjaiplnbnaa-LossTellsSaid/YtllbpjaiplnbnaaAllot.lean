import Derived.Test.YtllbpjaiplnbnaaMem
namespace Go.Proofs.Ytllbpjaiplnbnaa
open Go.RowKit
set_option linter.unusedVariables false
set_option linter.unusedSimpArgs false

/-! ### How losses are shared out: of lists of whole numbers alone -/
/-- The last of the greatest ranks among the first k that have something. -/
def jun (rs bs : List Int) : Nat → Option Nat
  | 0 => none
  | k + 1 => match jun rs bs k with
    | none => if 0 < bs.getD k 0 then some k else none
    | some j => if 0 < bs.getD k 0 ∧ rs.getD j 0 ≤ rs.getD k 0 then some k else some j
/-- The first of the least ranks among the first k that have something. -/
def sen (rs ds : List Int) : Nat → Option Nat
  | 0 => none
  | k + 1 => match sen rs ds k with
    | none => if 0 < ds.getD k 0 then some k else none
    | some j => if 0 < ds.getD k 0 ∧ rs.getD k 0 < rs.getD j 0 then some k else some j
/-- k stands behind i: it is the more junior one. -/
def Behind (rs : List Int) (i k : Nat) : Prop := rs.getD i 0 < rs.getD k 0 ∨ (rs.getD k 0 = rs.getD i 0 ∧ i < k)
theorem jun_none (rs bs : List Int) : ∀ n, jun rs bs n = none → ∀ i, i < n → bs.getD i 0 ≤ 0 := by
  intro n
  induction n with
  | zero => intro _ i hi; omega
  | succ n ih =>
    intro h i hi
    unfold jun at h
    cases hj : jun rs bs n with
    | none =>
      rw [hj] at h
      simp only at h
      split at h
      · cases h
      · by_cases hin : i = n
        · subst hin; omega
        · exact ih hj i (by omega)
    | some j => rw [hj] at h; simp only at h; split at h <;> cases h
theorem jun_some (rs bs : List Int) : ∀ n k, jun rs bs n = some k → k < n ∧ 0 < bs.getD k 0 ∧ ∀ i, i < n → 0 < bs.getD i 0 → i ≠ k → Behind rs i k := by
  intro n
  induction n with
  | zero => intro k h; cases h
  | succ n ih =>
    intro k h
    unfold jun at h
    cases hj : jun rs bs n with
    | none =>
      rw [hj] at h
      simp only at h
      split at h
      · obtain rfl := Option.some.inj h
        refine ⟨by omega, by assumption, fun i hi hb hne => ?_⟩
        have := jun_none rs bs n hj i (by omega)
        omega
      · cases h
    | some j =>
      rw [hj] at h
      simp only at h
      obtain ⟨h1, h2, h3⟩ := ih j hj
      split at h
      · rename_i hc
        obtain rfl := Option.some.inj h
        refine ⟨by omega, hc.1, fun i hi hb hne => ?_⟩
        by_cases hij : i = j
        · subst hij; unfold Behind; omega
        · have := h3 i (by omega) hb hij
          unfold Behind at this ⊢; omega
      · rename_i hc
        obtain rfl := Option.some.inj h
        refine ⟨by omega, h2, fun i hi hb hne => ?_⟩
        by_cases hin : i = n
        · subst hin
          have : ¬ rs.getD j 0 ≤ rs.getD i 0 := fun h => hc ⟨hb, h⟩
          unfold Behind; omega
        · exact h3 i (by omega) hb hne
theorem sen_none (rs ds : List Int) : ∀ n, sen rs ds n = none → ∀ i, i < n → ds.getD i 0 ≤ 0 := by
  intro n
  induction n with
  | zero => intro _ i hi; omega
  | succ n ih =>
    intro h i hi
    unfold sen at h
    cases hj : sen rs ds n with
    | none =>
      rw [hj] at h
      simp only at h
      split at h
      · cases h
      · by_cases hin : i = n
        · subst hin; omega
        · exact ih hj i (by omega)
    | some j => rw [hj] at h; simp only at h; split at h <;> cases h
theorem sen_some (rs ds : List Int) : ∀ n k, sen rs ds n = some k → k < n ∧ 0 < ds.getD k 0 ∧ ∀ i, i < n → 0 < ds.getD i 0 → i ≠ k → Behind rs k i := by
  intro n
  induction n with
  | zero => intro k h; cases h
  | succ n ih =>
    intro k h
    unfold sen at h
    cases hj : sen rs ds n with
    | none =>
      rw [hj] at h
      simp only at h
      split at h
      · obtain rfl := Option.some.inj h
        refine ⟨by omega, by assumption, fun i hi hb hne => ?_⟩
        have := sen_none rs ds n hj i (by omega)
        omega
      · cases h
    | some j =>
      rw [hj] at h
      simp only at h
      obtain ⟨h1, h2, h3⟩ := ih j hj
      split at h
      · rename_i hc
        obtain rfl := Option.some.inj h
        refine ⟨by omega, hc.1, fun i hi hb hne => ?_⟩
        by_cases hij : i = j
        · subst hij; unfold Behind; omega
        · have := h3 i (by omega) hb hij
          unfold Behind at this ⊢; omega
      · rename_i hc
        obtain rfl := Option.some.inj h
        refine ⟨by omega, h2, fun i hi hb hne => ?_⟩
        by_cases hin : i = n
        · subst hin
          have : ¬ rs.getD i 0 < rs.getD j 0 := fun h => hc ⟨hb, h⟩
          unfold Behind; omega
        · exact h3 i (by omega) hb hne

/-- What is written down of number k. -/
def mv (k : Nat) (v : Int) (s : List Int × List Int) : List Int × List Int := (s.1.set k (s.1.getD k 0 - v), s.2.set k (s.2.getD k 0 + v))
/-- Written down till it is t (false), or till there is nothing more to write down (true). -/
inductive Up (t : Int) (rs : List Int) (n : Nat) : List Int × List Int → List Int × List Int → Bool → Prop
  | stop (s) (h : t ≤ s.2.sum) : Up t rs n s s false
  | dry (s) (h : s.2.sum < t) (hj : jun rs s.1 n = none) : Up t rs n s s true
  | step (s s' b k) (h : s.2.sum < t) (hj : jun rs s.1 n = some k) (hn : Up t rs n (mv k (min (s.1.getD k 0) (t - s.2.sum)) s) s' b) : Up t rs n s s' b
/-- Brought back. -/
inductive Dn (t : Int) (rs : List Int) (n : Nat) : List Int × List Int → List Int × List Int → Bool → Prop
  | stop (s) (h : s.2.sum ≤ t) : Dn t rs n s s false
  | dry (s) (h : t < s.2.sum) (hj : sen rs s.2 n = none) : Dn t rs n s s true
  | step (s s' b k) (h : t < s.2.sum) (hj : sen rs s.2 n = some k) (hn : Dn t rs n (mv k (-(min (s.2.getD k 0) (s.2.sum - t))) s) s' b) : Dn t rs n s s' b
/-- The whole of it. -/
def Shared (t : Int) (rs : List Int) (n : Nat) (s s' : List Int × List Int) : Prop := Up t rs n s s' true ∨ ∃ m b, Up t rs n s m false ∧ Dn t rs n m s' b

theorem getD_set_self (l : List Int) (k : Nat) (v : Int) (h : k < l.length) : (l.set k v).getD k 0 = v := by simp [List.getD_eq_getElem?_getD, h]
theorem getD_set_other (l : List Int) {i k : Nat} (v : Int) (h : i ≠ k) : (l.set k v).getD i 0 = l.getD i 0 := by
  simp only [List.getD_eq_getElem?_getD]; rw [List.getElem?_set_ne (Ne.symm h)]
theorem sum_set : ∀ (l : List Int) (k : Nat) (v : Int), k < l.length → (l.set k v).sum = l.sum - l.getD k 0 + v := by
  intro l
  induction l with
  | nil => intro k v h; simp at h
  | cons x l ih =>
    intro k v h
    cases k with
    | zero => simp only [List.set_cons_zero, List.sum_cons, List.getD_cons_zero]; omega
    | succ k =>
      have := ih k v (by simpa using h)
      simp only [List.set_cons_succ, List.sum_cons, List.getD_cons_succ, this]; omega

/-- Two states of the same notes: what is left and what is written down are together as they were. -/
structure Kin (n : Nat) (s s' : List Int × List Int) : Prop where
  l1 : s.1.length = n
  l2 : s.2.length = n
  m1 : s'.1.length = n
  m2 : s'.2.length = n
  sum : ∀ i, i < n → s'.1.getD i 0 + s'.2.getD i 0 = s.1.getD i 0 + s.2.getD i 0
/-- A state that may be. -/
structure Ok (n : Nat) (s : List Int × List Int) : Prop where
  l1 : s.1.length = n
  l2 : s.2.length = n
  p1 : ∀ i, i < n → 0 ≤ s.1.getD i 0
  p2 : ∀ i, i < n → 0 ≤ s.2.getD i 0
section
variable {t : Int} {rs : List Int} {n k i : Nat} {s s' : List Int × List Int} {v : Int} {b : Bool}
theorem Kin.refl (h1 : s.1.length = n) (h2 : s.2.length = n) : Kin n s s := ⟨h1, h2, h1, h2, fun _ _ => rfl⟩
theorem Kin.trans {s'' : List Int × List Int} (h : Kin n s s') (h' : Kin n s' s'') : Kin n s s'' := ⟨h.l1, h.l2, h'.m1, h'.m2, fun i hi => (h'.sum i hi).trans (h.sum i hi)⟩
theorem mv_fst (h : k < s.1.length) (i : Nat) : (mv k v s).1.getD i 0 = if i = k then s.1.getD k 0 - v else s.1.getD i 0 := by
  unfold mv; simp only; split
  · rename_i e; subst e; rw [getD_set_self _ _ _ h]
  · rename_i e; rw [getD_set_other _ _ e]
theorem mv_snd (h : k < s.2.length) (i : Nat) : (mv k v s).2.getD i 0 = if i = k then s.2.getD k 0 + v else s.2.getD i 0 := by
  unfold mv; simp only; split
  · rename_i e; subst e; rw [getD_set_self _ _ _ h]
  · rename_i e; rw [getD_set_other _ _ e]
theorem mv_sum (h : k < s.2.length) : (mv k v s).2.sum = s.2.sum + v := by unfold mv; simp only; rw [sum_set _ _ _ h]; omega
theorem Ok.kin_mv (h : Ok n s) (hk : k < n) : Kin n s (mv k v s) := ⟨h.l1, h.l2, by simp [mv, h.l1], by simp [mv, h.l2], fun i hi => by
  rw [mv_fst (by rw [h.l1]; exact hk), mv_snd (by rw [h.l2]; exact hk)]; split
  · rename_i e; subst e; omega
  · rfl⟩
theorem Ok.mv (h : Ok n s) (hk : k < n) (h1 : v ≤ s.1.getD k 0) (h2 : 0 ≤ s.2.getD k 0 + v) : Ok n (mv k v s) := ⟨by simp [Go.Proofs.Ytllbpjaiplnbnaa.mv, h.l1], by simp [Go.Proofs.Ytllbpjaiplnbnaa.mv, h.l2], fun i hi => by
  rw [mv_fst (by rw [h.l1]; exact hk)]; split
  · omega
  · exact h.p1 i hi, fun i hi => by
  rw [mv_snd (by rw [h.l2]; exact hk)]; split
  · omega
  · exact h.p2 i hi⟩
theorem Up.keeps (h : Up t rs n s s' b) : Ok n s → Ok n s' ∧ Kin n s s' := by
  induction h with
  | stop s h => exact fun ho => ⟨ho, Kin.refl ho.l1 ho.l2⟩
  | dry s h hj => exact fun ho => ⟨ho, Kin.refl ho.l1 ho.l2⟩
  | step s s' b k h hj hn ih =>
    intro ho
    obtain ⟨h1, h2, h3⟩ := jun_some _ _ _ _ hj
    have h4 := ho.p2 k h1
    obtain ⟨x, y⟩ := ih (ho.mv h1 (by omega) (by omega))
    exact ⟨x, (ho.kin_mv h1).trans y⟩
theorem Dn.keeps (h : Dn t rs n s s' b) : Ok n s → Ok n s' ∧ Kin n s s' := by
  induction h with
  | stop s h => exact fun ho => ⟨ho, Kin.refl ho.l1 ho.l2⟩
  | dry s h hj => exact fun ho => ⟨ho, Kin.refl ho.l1 ho.l2⟩
  | step s s' b k h hj hn ih =>
    intro ho
    obtain ⟨h1, h2, h3⟩ := sen_some _ _ _ _ hj
    have h4 := ho.p1 k h1
    obtain ⟨x, y⟩ := ih (ho.mv h1 (by omega) (by omega))
    exact ⟨x, (ho.kin_mv h1).trans y⟩
theorem Shared.keeps (h : Shared t rs n s s') (ho : Ok n s) : Ok n s' ∧ Kin n s s' := by
  rcases h with h | ⟨m, b, h1, h2⟩
  · exact h.keeps ho
  · obtain ⟨x, y⟩ := h1.keeps ho
    obtain ⟨x2, y2⟩ := h2.keeps x
    exact ⟨x2, y.trans y2⟩
/-- Each of the two comes to one end alone. -/
theorem Up.fn {s1 s2 : List Int × List Int} {b1 b2 : Bool} (h : Up t rs n s s1 b1) : Up t rs n s s2 b2 → s1 = s2 ∧ b1 = b2 := by
  induction h with
  | stop s h =>
    intro h2
    cases h2 with
    | stop => exact ⟨rfl, rfl⟩
    | dry _ h3 => omega
    | step _ _ _ _ h3 => omega
  | dry s h hj =>
    intro h2
    cases h2 with
    | stop _ h3 => omega
    | dry => exact ⟨rfl, rfl⟩
    | step _ _ _ _ h3 hj2 => rw [hj] at hj2; cases hj2
  | step s s' b k h hj hn ih =>
    intro h2
    cases h2 with
    | stop _ h3 => omega
    | dry _ h3 hj2 => rw [hj] at hj2; cases hj2
    | step _ _ _ k2 h3 hj2 hn2 =>
      rw [hj] at hj2
      obtain rfl := Option.some.inj hj2
      exact ih hn2
theorem Dn.fn {s1 s2 : List Int × List Int} {b1 b2 : Bool} (h : Dn t rs n s s1 b1) : Dn t rs n s s2 b2 → s1 = s2 ∧ b1 = b2 := by
  induction h with
  | stop s h =>
    intro h2
    cases h2 with
    | stop => exact ⟨rfl, rfl⟩
    | dry _ h3 => omega
    | step _ _ _ _ h3 => omega
  | dry s h hj =>
    intro h2
    cases h2 with
    | stop _ h3 => omega
    | dry => exact ⟨rfl, rfl⟩
    | step _ _ _ _ h3 hj2 => rw [hj] at hj2; cases hj2
  | step s s' b k h hj hn ih =>
    intro h2
    cases h2 with
    | stop _ h3 => omega
    | dry _ h3 hj2 => rw [hj] at hj2; cases hj2
    | step _ _ _ k2 h3 hj2 hn2 =>
      rw [hj] at hj2
      obtain rfl := Option.some.inj hj2
      exact ih hn2
theorem Shared.fn {s1 s2 : List Int × List Int} (h : Shared t rs n s s1) (h' : Shared t rs n s s2) : s1 = s2 := by
  rcases h with h | ⟨m, b, h1, h2⟩ <;> rcases h' with h' | ⟨m', b', h1', h2'⟩
  · exact (h.fn h').1
  · cases (h.fn h1').2
  · cases (h1.fn h').2
  · obtain ⟨rfl, _⟩ := h1.fn h1'
    exact (h2.fn h2').1
end
end Go.Proofs.Ytllbpjaiplnbnaa

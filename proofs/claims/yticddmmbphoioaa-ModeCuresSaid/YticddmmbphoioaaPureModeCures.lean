import Derived.Test.YticddmmbphoioaaPModeCuresx4
import Derived.Test.YticddmmbphoioaaWithin
namespace Go.Proofs.Yticddmmbphoioaa.Pure
open Go.RowKit Go.Proofs.Yticddmmbphoioaa.PModeCures Go.Proofs.YticddmmbphoioaaW.PrintWords Go.Proofs.YticddmmbphoioaaW.PrintLast
set_option linter.unusedVariables false
set_option linter.unusedSimpArgs false

/-- With rounds enough it tells v. -/
def Eve {α : Type} (F : Nat → Option α) (v : α) : Prop := ∃ k0, ∀ k, k0 ≤ k → F k = some v
theorem Eve.now {α : Type} (v : α) : Eve (fun _ => some v) v := ⟨0, fun _ _ => rfl⟩
theorem Eve.const {α : Type} {o : Option α} {v : α} (h : o = some v) : Eve (fun _ => o) v := ⟨0, fun _ _ => h⟩
theorem Eve.step {α : Type} {F G : Nat → Option α} {v : α} (e : ∀ k, F (k + 1) = G k) (h : Eve G v) : Eve F v := by
  obtain ⟨k0, h⟩ := h
  refine ⟨k0 + 1, fun k hk => ?_⟩
  obtain ⟨j, rfl⟩ : ∃ j, k = j + 1 := ⟨k - 1, by omega⟩
  rw [e]; exact h j (by omega)
theorem Eve.bind {α β : Type} {f : Nat → Option α} {g : Nat → α → Option β} {x : α} {v : β} (h : Eve f x) (h' : Eve (fun k => g k x) v) : Eve (fun k => (f k).bind (g k)) v := by
  obtain ⟨k0, h⟩ := h
  obtain ⟨k1, h'⟩ := h'
  refine ⟨k0 + k1, fun k hk => ?_⟩
  simp only [h k (by omega), Option.bind_some]
  exact h' k (by omega)
theorem Eve.yes {α : Type} {c : Prop} [Decidable c] {F G : Nat → Option α} {v : α} (hc : c) (h : Eve F v) : Eve (fun k => if c then F k else G k) v := by simpa only [if_pos hc] using h
theorem Eve.no {α : Type} {c : Prop} [Decidable c] {F G : Nat → Option α} {v : α} (hc : ¬ c) (h : Eve G v) : Eve (fun k => if c then F k else G k) v := by simpa only [if_neg hc] using h
theorem Eve.get {α : Type} {F : Nat → Option α} {v : α} (h : Eve F v) : ∃ k, F k = some v := h.imp fun k h => h k (Nat.le_refl k)

theorem wr (n : Int) (h0 : -9223372036854775808 ≤ n) (h1 : n < 9223372036854775808) : wrap64 n = n := by
  unfold wrap64; omega
/-- A period's state behind s. -/
def nx (c : Int) (s : Int × Int) (r : S23) : Int × Int := if s.1 = 2 ∨ r.f1 = false then (2, 0) else if r.f0 = false ∨ r.f2 = false ∨ r.f3 = false then (1, 0) else if s.1 ≠ 1 ∨ c ≤ s.2 ∨ s.2 + 1 = c then (0, 0) else (1, s.2 + 1)
/-- A state that may be. -/
def Fit (s : Int × Int) : Prop := (s.1 = 0 ∨ s.1 = 1 ∨ s.1 = 2) ∧ 0 ≤ s.2 ∧ s.2 ≤ 100 ∧ (s.1 ≠ 1 → s.2 = 0)
theorem nx_eve (c : Int) (s : Int × Int) (r : S23) (h0 : 0 ≤ s.2) (h1 : s.2 ≤ 100) : Eve (fun k => mode_State_Next.f k s.1 s.2 c r.f0 r.f1 r.f2 r.f3) (nx c s r) := by
  refine ⟨1, fun k hk => ?_⟩
  obtain ⟨j, rfl⟩ : ∃ j, k = j + 1 := ⟨k - 1, by omega⟩
  obtain ⟨f0, f1, f2, f3⟩ := r
  obtain ⟨m, p⟩ := s
  simp only at h0 h1
  have hw := wr (p + 1) (by omega) (by omega)
  simp only [mode_State_Next.f, mode_State_Next.j0, tests_Result_Fails.f, nx, hw]
  by_cases e2 : m = 2
  · simp [e2]
  · simp only [e2, if_false, false_or]
    cases f1 <;> cases f0 <;> cases f2 <;> cases f3 <;> simp
    by_cases e1 : m = 1
    · simp only [e1, if_true, not_true, false_or]
      by_cases x1 : c ≤ p
      · simp [x1]
      · by_cases x2 : p + 1 = c
        · simp [x2]
        · simp [x1, x2]
    · simp [e1]
theorem run_eve (c : Int) (hc : c ≤ 50) (L : List S23) (hl : L.length < 1000000) : ∀ (n i : Nat) (s : Int × Int), i + n = L.length → 0 ≤ s.2 → s.2 ≤ 50 →
    Eve (fun k => mode_Run.l0 k c L (L.length : Int) (i : Int) s.1 s.2) ((L.drop i).foldl (nx c) s) := by
  intro n
  induction n with
  | zero =>
    intro i s hi h0 h1
    refine Eve.step (fun k => by rw [mode_Run.l0]) ?_
    refine Eve.no (by omega) ?_
    rw [List.drop_eq_nil_of_le (by omega)]
    exact Eve.now _
  | succ n ih =>
    intro i s hi h0 h1
    refine Eve.step (fun k => by rw [mode_Run.l0]) ?_
    refine Eve.yes (by omega) (Eve.yes (by omega) (Eve.yes (by omega) ?_))
    have e : L.drop i = (rd_T23 L (i : Int)) :: L.drop (i + 1) := by
      rw [List.drop_eq_getElem_cons (by omega)]
      congr 1
      simp [rd_T23, List.getD_eq_getElem?_getD, List.getElem?_eq_getElem (show i < L.length by omega)]
    rw [e, List.foldl_cons]
    refine Eve.bind (nx_eve c s _ h0 (by omega)) ?_
    rw [wr _ (by omega) (by omega)]
    have hn : 0 ≤ (nx c s (rd_T23 L (i : Int))).2 ∧ (nx c s (rd_T23 L (i : Int))).2 ≤ 50 := by
      unfold nx
      split
      · simp
      · split
        · simp
        · split
          · simp
          · simp; omega
    exact ih (i + 1) _ (by omega) hn.1 hn.2
theorem runf_eve (c : Int) (hc : c ≤ 50) (L : List S23) (hl : L.length < 1000000) : Eve (fun k => mode_Run.f k c L) (L.foldl (nx c) (0, 0)) := run_eve c hc L hl L.length 0 (0, 0) (by omega) (by simp) (by simp)

theorem within_f (n lo hi : Int) (h0 : lo ≤ hi) (h1 : -1000 ≤ lo) (h2 : hi ≤ 1000) : cascadebook_Within.f n lo hi = some (within n lo hi) := by
  have hm : 0 < hi - lo + 1 := by omega
  obtain ⟨hb0, hb1⟩ := tmod_lo n _ hm
  have e1 : wrap64 ((wrap64 (hi - lo)) + 1) = hi - lo + 1 := by rw [wr (hi - lo) (by omega) (by omega), wr _ (by omega) (by omega)]
  unfold cascadebook_Within.f
  rw [e1, if_neg (by omega)]
  by_cases h : n.tmod (hi - lo + 1) < 0
  · rw [if_pos h]
    have he := tmod_neg_eq n _ hm h
    rw [wr (n.tmod (hi - lo + 1) + hi) (by omega) (by omega), wr (n.tmod (hi - lo + 1) + hi - lo) (by omega) (by omega), wr (n.tmod (hi - lo + 1) + hi - lo + 1) (by omega) (by omega), wr _ (by omega) (by omega)]
    unfold within; congr 1; omega
  · rw [if_neg h]
    have he := tmod_nonneg_eq n _ hm h
    rw [wr _ (by omega) (by omega), he]; rfl

/-- A result of a number. -/
def res (z : Int) : S23 := let c := within z 0 12; if c = 0 ∨ c = 1 then ⟨false, true, true, true⟩ else if c = 2 then ⟨true, true, false, true⟩ else if c = 3 then ⟨false, true, true, false⟩ else if c = 4 then ⟨true, false, true, true⟩ else ⟨true, true, true, true⟩
theorem some_eve (l : List Int) : ∀ (n i : Nat) (acc : List S23), i + n = min l.length 20 → acc.length = i →
    Eve (fun k => cascadelaw16_some.l0 k l acc (i : Int)) (acc ++ ((l.take 20).drop i).map res) := by
  intro n
  induction n with
  | zero =>
    intro i acc hi ha
    rw [List.drop_eq_nil_of_le (by simp; omega), List.map_nil, List.append_nil]
    refine Eve.step (fun k => by rw [cascadelaw16_some.l0]) ?_
    by_cases h1 : (i : Int) < (l.length : Int)
    · refine Eve.yes h1 (Eve.step (fun k => by rw [cascadelaw16_some.j1]) (Eve.no (by simp; omega) (Eve.now _)))
    · refine Eve.no h1 (Eve.step (fun k => by rw [cascadelaw16_some.j1]) (Eve.no (by simp) (Eve.now _)))
  | succ n ih =>
    intro i acc hi ha
    have e : (l.take 20).drop i = (rd l (i : Int)) :: (l.take 20).drop (i + 1) := by
      rw [List.drop_eq_getElem_cons (by simp; omega)]
      congr 1
      simp [rd, List.getD_eq_getElem?_getD, List.getElem?_eq_getElem (show i < l.length by omega)]
    have go : ∀ r, Eve (fun k => cascadelaw16_some.l0 k l (acc ++ [r]) (wrap64 ((i : Int) + 1))) (acc ++ r :: ((l.take 20).drop (i + 1)).map res) := by
      intro r
      rw [wr _ (by omega) (by omega)]
      have := ih (i + 1) (acc ++ [r]) (by omega) (by simp [ha])
      simpa using this
    rw [e, List.map_cons]
    refine Eve.step (fun k => by rw [cascadelaw16_some.l0]) (Eve.yes (by omega) (Eve.step (fun k => by rw [cascadelaw16_some.j1]) (Eve.yes (by simp; omega) (Eve.yes (by omega) (Eve.yes (by omega) ?_)))))
    refine Eve.bind (Eve.const (within_f _ 0 12 (by omega) (by omega) (by omega))) ?_
    unfold res
    simp only
    generalize within (rd l (i : Int)) 0 12 = c
    by_cases c0 : c = 0
    · refine Eve.yes c0 (Eve.step (fun k => by rw [cascadelaw16_some.j2]) (Eve.yes (by simp [c0]) (Eve.yes (by omega) ?_)))
      rw [if_pos (.inl c0)]; exact go _
    · refine Eve.no c0 (Eve.step (fun k => by rw [cascadelaw16_some.j2]) ?_)
      by_cases c1 : c = 1
      · refine Eve.yes (by simp [c1]) (Eve.yes (by omega) ?_)
        rw [if_pos (.inr c1)]; exact go _
      · rw [if_neg (by omega)]
        refine Eve.no (by simp [c1]) ?_
        by_cases c2 : c = 2
        · rw [if_pos c2]; exact Eve.yes c2 (Eve.yes (by omega) (go _))
        · rw [if_neg c2]
          refine Eve.no c2 ?_
          by_cases c3 : c = 3
          · rw [if_pos c3]; exact Eve.yes c3 (Eve.yes (by omega) (go _))
          · rw [if_neg c3]
            refine Eve.no c3 ?_
            by_cases c4 : c = 4
            · rw [if_pos c4]; exact Eve.yes c4 (Eve.yes (by omega) (go _))
            · rw [if_neg c4]; exact Eve.no c4 (Eve.yes (by omega) (go _))

/-- Had any no Ic? -/
def lat (L : List S23) : Bool := L.any fun r => !r.f1
theorem fold_two (c : Int) : ∀ (L : List S23), L.foldl (nx c) (2, 0) = (2, 0) := by
  intro L; induction L with
  | nil => rfl
  | cons r L ih => rw [List.foldl_cons]; simpa [nx] using ih
theorem fold_lat (c : Int) : ∀ (L : List S23) (s : Int × Int), lat L = true → L.foldl (nx c) s = (2, 0) := by
  intro L; induction L with
  | nil => intro s h; simp [lat] at h
  | cons r L ih =>
    intro s h
    rw [List.foldl_cons]
    cases hr : r.f1
    · have : nx c s r = (2, 0) := by simp [nx, hr]
      rw [this, fold_two]
    · exact ih _ (by simpa [lat, hr] using h)
theorem fold_nolat (c : Int) : ∀ (L : List S23) (s : Int × Int), lat L = false → s.1 ≠ 2 → (L.foldl (nx c) s).1 ≠ 2 := by
  intro L; induction L with
  | nil => intro s h hs; exact hs
  | cons r L ih =>
    intro s h hs
    rw [List.foldl_cons]
    have hr : r.f1 = true ∧ lat L = false := by simpa [lat] using h
    refine ih _ hr.2 ?_
    unfold nx
    rw [if_neg (by simp [hs, hr.1])]
    split
    · simp
    · split <;> simp

theorem two_next (k0 : Int) (f0 f1 f2 f3 : Bool) : Eve (fun k => mode_State_Next.f k 2 0 k0 f0 f1 f2 f3) (2, 0) := nx_eve k0 (2, 0) ⟨f0, f1, f2, f3⟩ (by simp) (by simp)
theorem runs_eve : Eve (fun k => cascadelaw16_ModeRuns.f k) true := by
  unfold cascadelaw16_ModeRuns.f
  refine Eve.bind (runf_eve 2 (by omega) _ (by simp)) ?_
  refine Eve.yes (by decide) ?_
  refine Eve.bind (runf_eve 2 (by omega) _ (by simp)) ?_
  refine Eve.yes (by decide) ?_
  refine Eve.bind (runf_eve 2 (by omega) _ (by simp)) ?_
  exact Eve.const (by decide)
section
variable (a2 c : Int) (hc0 : 1 ≤ c) (hc1 : c ≤ 6)
include hc0 hc1
theorem l2_eve : ∀ (n i : Nat), (i : Int) + n = within a2 0 9 → Eve (fun k => cascadelaw16_ModeCures.l2 k a2 c (i : Int) true true true true 2 0) true := by
  intro n
  have hb := within_bd a2 (lo := 0) (hi := 9) (by omega)
  induction n with
  | zero =>
    intro i hi
    refine Eve.step (fun k => by rw [cascadelaw16_ModeCures.l2]) ?_
    refine Eve.bind (Eve.const (within_f a2 0 9 (by omega) (by omega) (by omega))) (Eve.no (by omega) (Eve.yes (by decide) ?_))
    refine Eve.bind (runf_eve c (by omega) [] (by simp)) (Eve.yes rfl ?_)
    exact Eve.bind runs_eve (Eve.now _)
  | succ n ih =>
    intro i hi
    refine Eve.step (fun k => by rw [cascadelaw16_ModeCures.l2]) ?_
    refine Eve.bind (Eve.const (within_f a2 0 9 (by omega) (by omega) (by omega))) (Eve.yes (by omega) ?_)
    refine Eve.bind (two_next _ _ _ _ _) ?_
    rw [wr _ (by omega) (by omega)]
    exact ih (i + 1) (by omega)
theorem j3_eve (s : Int × Int) (hs : s = (2, 0) ∨ s = (0, 0)) : Eve (fun k => cascadelaw16_ModeCures.j3 k a2 c false true true true true true false true true s.1 s.2) true := by
  refine Eve.step (fun k => by rw [cascadelaw16_ModeCures.j3]) (Eve.no (by simp) ?_)
  have hb := within_bd a2 (lo := 0) (hi := 9) (by omega)
  have e : nx c s ⟨true, false, true, true⟩ = (2, 0) := by simp [nx]
  refine Eve.bind (nx_eve c s ⟨true, false, true, true⟩ (by rcases hs with rfl | rfl <;> simp) (by rcases hs with rfl | rfl <;> simp)) ?_
  rw [e]
  exact l2_eve a2 c hc0 hc1 (within a2 0 9).toNat 0 (by simp; omega)
theorem l1_lat : ∀ (n i : Nat), (i : Int) + n = c → Eve (fun k => cascadelaw16_ModeCures.l1 k a2 c true (i : Int) true true true true true false true true 2 0) true := by
  intro n
  induction n with
  | zero =>
    intro i hi
    refine Eve.step (fun k => by rw [cascadelaw16_ModeCures.l1]) (Eve.no (by omega) ?_)
    refine Eve.bind (two_next _ _ _ _ _) (Eve.no (by decide) (Eve.yes rfl (Eve.bind (two_next _ _ _ _ _) ?_)))
    exact j3_eve a2 c hc0 hc1 (2, 0) (.inl rfl)
  | succ n ih =>
    intro i hi
    refine Eve.step (fun k => by rw [cascadelaw16_ModeCures.l1]) (Eve.yes (by omega) ?_)
    refine Eve.bind (two_next _ _ _ _ _) (Eve.yes rfl ?_)
    rw [wr _ (by omega) (by omega)]
    exact ih (i + 1) (by omega)
theorem l1_free : ∀ (n i : Nat), (i : Int) + n = c → 1 ≤ i → Eve (fun k => cascadelaw16_ModeCures.l1 k a2 c false (i : Int) true true true true true false true true 1 ((i : Int) - 1)) true := by
  intro n
  induction n with
  | zero =>
    intro i hi h1
    refine Eve.step (fun k => by rw [cascadelaw16_ModeCures.l1]) (Eve.no (by omega) ?_)
    have e : nx c (1, (i : Int) - 1) ⟨true, true, true, true⟩ = (0, 0) := by simp [nx]; omega
    refine Eve.bind (nx_eve c (1, (i : Int) - 1) ⟨true, true, true, true⟩ (by simp; omega) (by simp; omega)) ?_
    rw [e]
    refine Eve.no (by decide) (Eve.no (by decide) (Eve.no (by decide) ?_))
    have e2 : nx c (0, 0) ⟨true, true, true, true⟩ = (0, 0) := by simp [nx]
    refine Eve.bind (nx_eve c (0, 0) ⟨true, true, true, true⟩ (by simp) (by simp)) ?_
    rw [e2]
    exact j3_eve a2 c hc0 hc1 (0, 0) (.inr rfl)
  | succ n ih =>
    intro i hi h1
    refine Eve.step (fun k => by rw [cascadelaw16_ModeCures.l1]) (Eve.yes (by omega) ?_)
    have e : nx c (1, (i : Int) - 1) ⟨true, true, true, true⟩ = ((1 : Int), (i : Int)) := by simp [nx]; omega
    refine Eve.bind (nx_eve c (1, (i : Int) - 1) ⟨true, true, true, true⟩ (by simp; omega) (by simp; omega)) ?_
    rw [e]
    refine Eve.no (by decide) (Eve.no (by simp) ?_)
    rw [wr _ (by omega) (by omega)]
    have := ih (i + 1) (by omega) (by omega)
    simpa using this
theorem l0_eve (L : List S23) (hl : L.length < 1000) (hL : ∃ L0, L = L0 ++ [⟨true, true, false, true⟩]) : ∀ (n i : Nat) (b : Bool), i + n = L.length → (b || lat (L.drop i)) = lat L →
    Eve (fun k => cascadelaw16_ModeCures.l0 k a2 c L b L (L.length : Int) (i : Int) true true true true true false true true) true := by
  intro n
  induction n with
  | zero =>
    intro i b hi hb
    refine Eve.step (fun k => by rw [cascadelaw16_ModeCures.l0]) (Eve.no (by omega) ?_)
    rw [List.drop_eq_nil_of_le (by omega)] at hb
    obtain rfl : b = lat L := by simpa [lat] using hb
    refine Eve.bind (runf_eve c (by omega) L (by omega)) ?_
    cases hq : lat L
    · have e : L.foldl (nx c) (0, 0) = (1, 0) := by
        obtain ⟨L0, rfl⟩ := hL
        have h0 : lat L0 = false := by simpa [lat] using hq
        have h1 := fold_nolat c L0 (0, 0) h0 (by simp)
        rw [List.foldl_append]
        simp [nx, h1]
      rw [e]
      refine Eve.no (by decide) (Eve.no (by decide) (Eve.step (fun k => by rw [cascadelaw16_ModeCures.j1]) (Eve.no (by decide) ?_)))
      exact l1_free a2 c hc0 hc1 (c - 1).toNat 1 (by simp; omega) (by omega)
    · rw [fold_lat c L (0, 0) hq]
      refine Eve.no (by decide) (Eve.yes rfl (Eve.step (fun k => by rw [cascadelaw16_ModeCures.j1]) (Eve.no (by decide) ?_)))
      exact l1_lat a2 c hc0 hc1 (c - 1).toNat 1 (by simp; omega)
  | succ n ih =>
    intro i b hi hb
    have e : L.drop i = (rd_T23 L (i : Int)) :: L.drop (i + 1) := by
      rw [List.drop_eq_getElem_cons (by omega)]
      congr 1
      simp [rd_T23, List.getD_eq_getElem?_getD, List.getElem?_eq_getElem (show i < L.length by omega)]
    rw [e] at hb
    refine Eve.step (fun k => by rw [cascadelaw16_ModeCures.l0]) (Eve.yes (by omega) (Eve.yes (by omega) (Eve.yes (by omega) ?_)))
    rw [wr _ (by omega) (by omega)]
    cases b
    · refine Eve.no (by decide) ?_
      exact ih (i + 1) _ (by omega) (by rw [← hb]; simp [lat])
    · refine Eve.yes rfl ?_
      exact ih (i + 1) _ (by omega) (by rw [← hb]; simp [lat])
end
theorem ModeCures : cascadelaw16_ModeCures.Pure := by
  intro l0 a1 a2 h1 h2 h3 h4 h5
  have hb := within_bd a1 (lo := 1) (hi := 6) (by omega)
  refine Eve.get ?_
  unfold cascadelaw16_ModeCures.f
  refine Eve.bind (Eve.const (within_f a1 1 6 (by omega) (by omega) (by omega))) ?_
  have hs := some_eve l0 (min l0.length 20) 0 [] (by omega) rfl
  simp only [List.drop_zero, List.nil_append] at hs
  refine Eve.bind hs ?_
  refine Eve.bind (Eve.now _) (Eve.yes (by simp; omega) (Eve.bind (Eve.now _) ?_))
  exact l0_eve a2 _ hb.1 hb.2 _ (by simp; omega) ⟨_, rfl⟩ _ 0 false (Nat.zero_add _) (by simp)
end Go.Proofs.Yticddmmbphoioaa.Pure

import Derived.Lib.Hide
namespace Go.Proofs.Ytefidbfhcpcgjaa
set_option linter.unusedVariables false
set_option linter.unusedSimpArgs false

/-! ### A frame, as lists of bytes -/
def Byt (l : List Int) : Prop := ∀ x ∈ l, 0 ≤ x ∧ x ≤ 255
def sm (l : List Int) : Int := l.sum % 65536
def two (n : Int) : List Int := [n / 256 % 256, n % 256]
def num (l : List Int) : Int := l.foldl (fun n x => n * 256 + x) 0
def headL (k : Int) (t : List Int) : List Int := two t.length ++ (two (k / 65536) ++ two k)
def sealL (k : Int) (t : List Int) : List Int := headL k t ++ (two (sm (headL k t)) ++ (t ++ two (sm t)))
/-- How a frame is found: its text, its number, the next one's place. -/
def openL (b : List Int) (at_ : Nat) : List Int × Int × Int × Int :=
  let r := b.drop at_
  if r.length < 8 then ([], 0, 0, 1)
  else if sm (r.take 6) ≠ num ((r.drop 6).take 2) ∨ 60000 < num (r.take 2) then ([], 0, 0, 2)
  else if (r.length : Int) - 8 < num (r.take 2) + 2 then ([], 0, 0, 1)
  else if sm ((r.drop 8).take (num (r.take 2)).toNat) ≠ num ((r.drop (8 + (num (r.take 2)).toNat)).take 2) then ([], 0, 0, 2)
  else ((r.drop 8).take (num (r.take 2)).toNat, num ((r.drop 2).take 4), at_ + 8 + num (r.take 2) + 2, 0)

theorem Byt.nil : Byt [] := by intro x h; cases h
theorem Byt.app {a b : List Int} (ha : Byt a) (hb : Byt b) : Byt (a ++ b) := fun x h => (List.mem_append.1 h).elim (ha x) (hb x)
theorem Byt.take {a : List Int} (h : Byt a) (n : Nat) : Byt (a.take n) := fun x hx => h x (List.mem_of_mem_take hx)
theorem Byt.drop {a : List Int} (h : Byt a) (n : Nat) : Byt (a.drop n) := fun x hx => h x (List.mem_of_mem_drop hx)
theorem Byt.cons {x : Int} {l : List Int} : Byt (x :: l) ↔ (0 ≤ x ∧ x ≤ 255) ∧ Byt l := by
  constructor
  · intro h; exact ⟨h x (by simp), fun y hy => h y (by simp [hy])⟩
  · rintro ⟨h1, h2⟩ y hy
    rcases List.mem_cons.1 hy with rfl | hy
    · exact h1
    · exact h2 y hy
theorem two_byt (n : Int) : Byt (two n) := by
  unfold two; intro x hx
  simp only [List.mem_cons, List.not_mem_nil, or_false] at hx
  rcases hx with rfl | rfl <;> omega
theorem two_len (n : Int) : (two n).length = 2 := rfl
theorem head_len (k : Int) (t : List Int) : (headL k t).length = 6 := rfl
theorem seal_len (k : Int) (t : List Int) : (sealL k t).length = t.length + 10 := by simp [sealL, head_len, two_len]; omega
theorem head_byt (k : Int) (t : List Int) : Byt (headL k t) := (two_byt _).app ((two_byt _).app (two_byt _))
theorem seal_byt (k : Int) {t : List Int} (h : Byt t) : Byt (sealL k t) := (head_byt k t).app ((two_byt _).app (h.app (two_byt _)))
theorem num_two (n : Int) (h0 : 0 ≤ n) (h1 : n < 65536) : num (two n) = n := by
  simp only [num, two, List.foldl_cons, List.foldl_nil]; omega
theorem num_pair (a b : Int) : num [a, b] = a * 256 + b := by simp only [num, List.foldl_cons, List.foldl_nil]; omega
theorem two_pair (a b : Int) (ha : 0 ≤ a ∧ a ≤ 255) (hb : 0 ≤ b ∧ b ≤ 255) : two (a * 256 + b) = [a, b] := by
  unfold two
  rw [show (a * 256 + b) / 256 % 256 = a by omega, show (a * 256 + b) % 256 = b by omega]
theorem num_four (k : Int) (h0 : 0 ≤ k) (h1 : k < 4294967296) : num (two (k / 65536) ++ two k) = k := by
  simp only [num, two, List.cons_append, List.nil_append, List.foldl_cons, List.foldl_nil]; omega
theorem num_quad (a b c d : Int) : num [a, b, c, d] = a * 16777216 + b * 65536 + c * 256 + d := by simp only [num, List.foldl_cons, List.foldl_nil]; omega
theorem sum_bd : ∀ (l : List Int), Byt l → 0 ≤ l.sum ∧ l.sum ≤ 255 * l.length := by
  intro l
  induction l with
  | nil => intro _; simp
  | cons x l ih =>
    intro h
    obtain ⟨h1, h2⟩ := Byt.cons.1 h
    have := ih h2
    simp only [List.sum_cons, List.length_cons]
    push_cast
    omega
theorem sm_bd (l : List Int) : 0 ≤ sm l ∧ sm l < 65536 := by unfold sm; omega
theorem two_of {l : List Int} (h : l.length = 2) : ∃ a b, l = [a, b] := by
  match l, h with
  | [a, b], _ => exact ⟨a, b, rfl⟩
theorem len_split {l : List Int} (n : Nat) (h : n ≤ l.length) : ∃ a b, l = a ++ b ∧ a.length = n ∧ b.length = l.length - n := ⟨l.take n, l.drop n, (List.take_append_drop n l).symm, by simp; omega, by simp⟩

/-! ### What lies there decides -/
theorem open_short {b : List Int} {p : Nat} (h : (b.drop p).length < 8) : openL b p = ([], 0, 0, 1) := by unfold openL; simp only; rw [if_pos h]
/-- Any bytes: a head of six, a sum of two, the rest. -/
theorem open_parts {b : List Int} {p : Nat} (h s x : List Int) (hr : b.drop p = h ++ (s ++ x)) (hh : h.length = 6) (hs : s.length = 2) :
    openL b p = if sm h ≠ num s ∨ 60000 < num (h.take 2) then ([], 0, 0, 2)
      else if (x.length : Int) < num (h.take 2) + 2 then ([], 0, 0, 1)
      else if sm (x.take (num (h.take 2)).toNat) ≠ num ((x.drop (num (h.take 2)).toNat).take 2) then ([], 0, 0, 2)
      else (x.take (num (h.take 2)).toNat, num (h.drop 2), p + 8 + num (h.take 2) + 2, 0) := by
  have e1 : (h ++ (s ++ x)).take 6 = h := by rw [List.take_append_of_le_length (by omega), List.take_of_length_le (by omega)]
  have e2 : (h ++ (s ++ x)).take 2 = h.take 2 := by rw [List.take_append_of_le_length (by omega)]
  have e3 : ((h ++ (s ++ x)).drop 6).take 2 = s := by rw [List.drop_append, List.drop_of_length_le (by omega), List.nil_append, hh, Nat.sub_self, List.drop_zero, List.take_append_of_le_length (by omega), List.take_of_length_le (by omega)]
  have e4 : (h ++ (s ++ x)).drop 8 = x := by rw [List.drop_append, List.drop_of_length_le (by omega), List.nil_append, hh, List.drop_append, List.drop_of_length_le (by omega), List.nil_append, hs]; rfl
  have e5 : ((h ++ (s ++ x)).drop 2).take 4 = h.drop 2 := by rw [List.drop_append_of_le_length (by omega), List.take_append_of_le_length (by simp; omega), List.take_of_length_le (by simp; omega)]
  have e6 : ∀ n, (h ++ (s ++ x)).drop (8 + n) = x.drop n := fun n => by rw [← List.drop_drop, e4]
  unfold openL
  simp only [hr, e1, e2, e3, e4, e5, e6]
  rw [if_neg (by simp; omega)]
  have e7 : ((h ++ (s ++ x)).length : Int) - 8 = x.length := by simp only [List.length_append, hh, hs]; push_cast; omega
  rw [e7]
theorem open_spoilt {b : List Int} {p : Nat} (h s x : List Int) (hr : b.drop p = h ++ (s ++ x)) (hh : h.length = 6) (hs : s.length = 2) (hn : sm h ≠ num s) : openL b p = ([], 0, 0, 2) := by
  rw [open_parts h s x hr hh hs, if_pos (.inl hn)]
theorem open_seal (k : Int) (t A B : List Int) (ht : Byt t) (hl : t.length ≤ 60000) (h0 : 0 ≤ k) (h1 : k < 4294967296) :
    openL (A ++ (sealL k t ++ B)) A.length = (t, k, (A.length : Int) + t.length + 10, 0) := by
  have hr : (A ++ (sealL k t ++ B)).drop A.length = headL k t ++ (two (sm (headL k t)) ++ (t ++ (two (sm t) ++ B))) := by rw [List.drop_left]; unfold sealL; simp only [List.append_assoc]
  have e1 : (headL k t).take 2 = two t.length := rfl
  have e2 : (headL k t).drop 2 = two (k / 65536) ++ two k := rfl
  have e3 : num (two t.length) = t.length := num_two _ (by omega) (by omega)
  rw [open_parts _ _ _ hr rfl rfl, e1, e2, e3, num_four k h0 h1]
  have e4 := num_two (sm (headL k t)) (sm_bd _).1 (sm_bd _).2
  have e5 := num_two (sm t) (sm_bd _).1 (sm_bd _).2
  rw [if_neg (by rw [e4]; omega), if_neg (by simp only [List.length_append, two_len]; push_cast; omega), Int.toNat_natCast, List.take_left, List.drop_left]
  rw [if_neg (by rw [List.take_append_of_le_length (by simp [two_len]), List.take_of_length_le (by simp [two_len]), e5]; simp)]
  congr 3; omega
theorem open_cut (k : Int) (t A : List Int) (c : Nat) (hl : t.length ≤ 60000) (hc : c < t.length + 10) :
    openL (A ++ (sealL k t).take c) A.length = ([], 0, 0, 1) := by
  by_cases h8 : c < 8
  · refine open_short ?_
    rw [List.drop_left, List.length_take]; omega
  · have hr : (A ++ (sealL k t).take c).drop A.length = headL k t ++ (two (sm (headL k t)) ++ (t ++ two (sm t)).take (c - 8)) := by
      rw [List.drop_left]
      unfold sealL
      rw [List.take_append, List.take_of_length_le (by rw [head_len]; omega), List.take_append, List.take_of_length_le (by rw [head_len, two_len]; omega), head_len, two_len, Nat.sub_sub]
    have e1 : (headL k t).take 2 = two t.length := rfl
    have e3 : num (two t.length) = t.length := num_two _ (by omega) (by omega)
    have e4 := num_two (sm (headL k t)) (sm_bd _).1 (sm_bd _).2
    rw [open_parts _ _ _ hr rfl rfl, e1, e3, if_neg (by rw [e4]; omega), if_pos]
    simp only [List.length_take, List.length_append, two_len]
    omega
theorem seal_inj {k j : Int} {t u : List Int} (ht : Byt t) (hu : Byt u) (h0 : 0 ≤ k) (h1 : k < 4294967296) (h2 : 0 ≤ j) (h3 : j < 4294967296) (hlt : t.length ≤ 60000) (hlu : u.length ≤ 60000) (h : sealL k t = sealL j u) : k = j ∧ t = u := by
  have a := open_seal k t [] [] ht hlt h0 h1
  have b := open_seal j u [] [] hu hlu h2 h3
  rw [h] at a
  have e := a.symm.trans b
  simp only [Prod.mk.injEq] at e
  exact ⟨e.2.1, e.1⟩

/-! ### One byte -/
theorem sum_set : ∀ (l : List Int) (i : Nat) (v : Int), i < l.length → (l.set i v).sum = l.sum - l.getD i 0 + v := by
  intro l
  induction l with
  | nil => intro i v h; simp at h
  | cons x l ih =>
    intro i v h
    cases i with
    | zero => simp; omega
    | succ i =>
      have := ih i v (by simpa using h)
      simp only [List.set_cons_succ, List.sum_cons, this, List.getD_cons_succ]
      omega
theorem sm_set {l : List Int} {i : Nat} {v : Int} (h : i < l.length) (hb : Byt l) (hv : 0 ≤ v ∧ v ≤ 255) (hne : v ≠ l.getD i 0) : sm (l.set i v) ≠ sm l := by
  unfold sm
  rw [sum_set l i v h]
  have : 0 ≤ l.getD i 0 ∧ l.getD i 0 ≤ 255 := hb _ (by rw [List.getD_eq_getElem?_getD, List.getElem?_eq_getElem h]; simp)
  omega
theorem num_set2 {l : List Int} (hl : l.length = 2) {i : Nat} {v : Int} (h : i < 2) (hb : Byt l) (hv : 0 ≤ v ∧ v ≤ 255) (hne : v ≠ l.getD i 0) : num (l.set i v) ≠ num l := by
  obtain ⟨a, b, rfl⟩ := two_of hl
  obtain ⟨h1, h2⟩ := Byt.cons.1 hb
  obtain ⟨h3, _⟩ := Byt.cons.1 h2
  match i, h with
  | 0, _ => simp only [List.set_cons_zero, num_pair]; simp at hne; omega
  | 1, _ => simp only [List.set_cons_succ, List.set_cons_zero, num_pair]; simp at hne; omega
theorem getD_app_left {a b : List Int} {i : Nat} (h : i < a.length) : (a ++ b).getD i 0 = a.getD i 0 := by simp [List.getD_eq_getElem?_getD, List.getElem?_append_left h]
theorem getD_app_right {a b : List Int} {i : Nat} (h : a.length ≤ i) : (a ++ b).getD i 0 = b.getD (i - a.length) 0 := by simp [List.getD_eq_getElem?_getD, List.getElem?_append_right h]
/-- P24.3, one byte changed. -/
theorem open_byte (k : Int) (t : List Int) (i : Nat) (v : Int) (A B : List Int) (ht : Byt t) (hl : t.length ≤ 60000) (hi : i < t.length + 10) (hv : 0 ≤ v ∧ v ≤ 255) (hne : v ≠ (sealL k t).getD i 0) :
    openL (A ++ ((sealL k t).set i v ++ B)) A.length = ([], 0, 0, 2) := by
  have e4 := num_two (sm (headL k t)) (sm_bd _).1 (sm_bd _).2
  have e5 := num_two (sm t) (sm_bd _).1 (sm_bd _).2
  have hd : ∀ x, (A ++ (x ++ B)).drop A.length = x ++ B := fun x => List.drop_left
  by_cases h6 : i < 6
  · have e : (sealL k t).set i v = (headL k t).set i v ++ (two (sm (headL k t)) ++ (t ++ two (sm t))) := by unfold sealL; rw [List.set_append_left _ _ (by rw [head_len]; exact h6)]
    rw [e]
    refine open_spoilt ((headL k t).set i v) (two (sm (headL k t))) ((t ++ two (sm t)) ++ B) (by rw [hd]; simp only [List.append_assoc]) (by rw [List.length_set]; rfl) rfl ?_
    rw [e4]
    refine sm_set (by rw [head_len]; exact h6) (head_byt k t) hv ?_
    rw [sealL, getD_app_left (by rw [head_len]; exact h6)] at hne
    exact hne
  · by_cases h8 : i < 8
    · have e : (sealL k t).set i v = headL k t ++ ((two (sm (headL k t))).set (i - 6) v ++ (t ++ two (sm t))) := by
        unfold sealL
        rw [List.set_append_right _ _ (by rw [head_len]; omega), head_len, List.set_append_left _ _ (by rw [two_len]; omega)]
      rw [e]
      refine open_spoilt (headL k t) ((two (sm (headL k t))).set (i - 6) v) ((t ++ two (sm t)) ++ B) (by rw [hd]; simp only [List.append_assoc]) rfl (by rw [List.length_set]; rfl) ?_
      have := num_set2 (l := two (sm (headL k t))) rfl (i := i - 6) (by omega) (two_byt _) hv (by
        rw [sealL, getD_app_right (by rw [head_len]; omega), head_len, getD_app_left (by rw [two_len]; omega)] at hne
        exact hne)
      rw [e4] at this
      exact Ne.symm this
    · have e : (sealL k t).set i v = headL k t ++ (two (sm (headL k t)) ++ (t ++ two (sm t)).set (i - 8) v) := by
        unfold sealL
        rw [List.set_append_right _ _ (by rw [head_len]; omega), head_len, List.set_append_right _ _ (by rw [two_len]; omega), two_len, Nat.sub_sub]
      have hr : (A ++ ((sealL k t).set i v ++ B)).drop A.length = headL k t ++ (two (sm (headL k t)) ++ ((t ++ two (sm t)).set (i - 8) v ++ B)) := by rw [hd, e]; simp only [List.append_assoc]
      have f1 : (headL k t).take 2 = two t.length := rfl
      have f3 : num (two t.length) = t.length := num_two _ (by omega) (by omega)
      rw [open_parts _ _ _ hr rfl rfl, f1, f3, if_neg (by rw [e4]; omega), if_neg (by simp only [List.length_append, List.length_set, two_len]; push_cast; omega), if_pos, ]
      rw [Int.toNat_natCast]
      have hne' : v ≠ (t ++ two (sm t)).getD (i - 8) 0 := by
        rw [sealL, getD_app_right (by rw [head_len]; omega), head_len, getD_app_right (by rw [two_len]; omega), two_len] at hne
        have : i - 6 - 2 = i - 8 := by omega
        rw [this] at hne; exact hne
      by_cases ht8 : i - 8 < t.length
      · rw [List.set_append_left _ _ ht8, List.append_assoc, List.take_left' (by simp), List.drop_left' (by simp), List.take_left' (by rfl), e5]
        refine sm_set ht8 ht hv ?_
        rw [getD_app_left ht8] at hne'; exact hne'
      · rw [List.set_append_right _ _ (by omega), List.append_assoc, List.take_left' rfl, List.drop_left' rfl, List.take_left' (by simp [two_len])]
        have := num_set2 (l := two (sm t)) rfl (i := i - 8 - t.length) (by omega) (two_byt _) hv (by rw [getD_app_right (by omega)] at hne'; exact hne')
        rw [e5] at this
        exact Ne.symm this
/-- Any bytes: what is whole is sealed just so. -/
theorem open_whole {b : List Int} {p : Nat} {x : List Int} {s nx : Int} (hb : Byt b) (h : openL b p = (x, s, nx, 0)) :
    ∃ n : Nat, x.length = n ∧ n ≤ 60000 ∧ nx = p + n + 10 ∧ p + n + 10 ≤ b.length ∧ 0 ≤ s ∧ s < 4294967296 ∧ Byt x ∧ sealL s x = (b.drop p).take (n + 10) := by
  by_cases h8 : (b.drop p).length < 8
  · rw [open_short h8] at h; cases h
  · obtain ⟨hd, r1, e1, l1, _⟩ := len_split (l := b.drop p) 6 (by omega)
    have hbr : Byt (b.drop p) := hb.drop p
    obtain ⟨ss, r2, e2, l2, _⟩ := len_split (l := r1) 2 (by rw [e1] at h8; simp at h8; omega)
    subst e2
    rw [e1] at hbr
    have hbh : Byt hd := fun x hx => hbr x (by simp [hx])
    have hbs : Byt ss := fun x hx => hbr x (by simp [hx])
    have hb2 : Byt r2 := fun x hx => hbr x (by simp [hx])
    rw [open_parts hd ss r2 e1 l1 l2] at h
    split at h
    · cases h
    · rename_i c1
      split at h
      · cases h
      · rename_i c2
        split at h
        · cases h
        · rename_i c3
          simp only [Prod.mk.injEq] at h
          obtain ⟨rfl, rfl, rfl, _⟩ := h
          obtain ⟨a0, a1, a2, a3, a4, a5, rfl⟩ : ∃ a0 a1 a2 a3 a4 a5, hd = [a0, a1, a2, a3, a4, a5] := by
            match hd, l1 with
            | [a0, a1, a2, a3, a4, a5], _ => exact ⟨a0, a1, a2, a3, a4, a5, rfl⟩
          obtain ⟨s0, s1, rfl⟩ := two_of l2
          have q0 := hbh a0 (by simp); have q1 := hbh a1 (by simp); have q2 := hbh a2 (by simp); have q3 := hbh a3 (by simp); have q4 := hbh a4 (by simp); have q5 := hbh a5 (by simp)
          have q6 := hbs s0 (by simp); have q7 := hbs s1 (by simp)
          simp only [List.take_succ_cons, List.take_zero, List.drop_succ_cons, List.drop_zero, num_pair, num_quad] at c1 c2 c3 ⊢
          generalize hn : a0 * 256 + a1 = n at *
          obtain ⟨m, rfl⟩ := Int.eq_ofNat_of_zero_le (show 0 ≤ n by omega)
          rw [Int.toNat_natCast] at c3 ⊢
          have hm : m + 2 ≤ r2.length := by omega
          have hlen : (b.drop p).length = 8 + r2.length := by rw [e1]; simp; omega
          have hx : (r2.take m).length = m := by simp; omega
          refine ⟨m, hx, by omega, by omega, by simp at hlen; omega, by omega, by omega, hb2.take m, ?_⟩
          obtain ⟨y0, y1, hy⟩ := two_of (l := (r2.drop m).take 2) (by simp; omega)
          have z0 : 0 ≤ y0 ∧ y0 ≤ 255 := hb2 y0 (List.mem_of_mem_drop (List.mem_of_mem_take (by rw [hy]; simp)))
          have z1 : 0 ≤ y1 ∧ y1 ≤ 255 := hb2 y1 (List.mem_of_mem_drop (List.mem_of_mem_take (by rw [hy]; simp)))
          rw [hy, num_pair] at c3
          have c3' : sm (r2.take m) = y0 * 256 + y1 := by simpa using c3
          have c1' : sm [a0, a1, a2, a3, a4, a5] = s0 * 256 + s1 := by
            have : ¬ (sm [a0, a1, a2, a3, a4, a5] ≠ s0 * 256 + s1) := fun hh => c1 (.inl hh)
            simpa using this
          have hh : headL (a2 * 16777216 + a3 * 65536 + a4 * 256 + a5) (r2.take m) = [a0, a1, a2, a3, a4, a5] := by
            unfold headL two
            rw [hx, ← hn]
            simp only [List.cons_append, List.nil_append]
            congr 1
            · omega
            · congr 1
              · omega
              · congr 1
                · omega
                · congr 1
                  · omega
                  · congr 1
                    · omega
                    · congr 1; omega
          unfold sealL
          rw [hh, c1', c3', two_pair _ _ q6 q7, two_pair _ _ z0 z1, e1, ← hy]
          have e9 : r2.take m ++ (r2.drop m).take 2 = r2.take (m + 2) := by rw [List.take_add]
          rw [e9, show m + 10 = (m + 2) + 8 by omega]
          simp only [List.cons_append, List.nil_append, List.take_succ_cons]
/-- .. and what isn't whole has nothing. -/
theorem open_not {b : List Int} {p : Nat} (h : (openL b p).2.2.2 ≠ 0) : openL b p = ([], 0, 0, 1) ∨ openL b p = ([], 0, 0, 2) := by
  unfold openL at h ⊢
  simp only at h ⊢
  split
  · exact .inl rfl
  · split
    · exact .inr rfl
    · split
      · exact .inl rfl
      · split
        · exact .inr rfl
        · rename_i h1 h2 h3 h4
          rw [if_neg h1, if_neg h2, if_neg h3, if_neg h4] at h
          exact absurd rfl h
end Go.Proofs.Ytefidbfhcpcgjaa

import Derived.Test.YtideaimlnipkoaaShNet
namespace Go.Proofs.Ytideaimlnipkoaa
open Go.RowKit
set_option linter.unusedVariables false
set_option linter.unusedSimpArgs false
theorem bmin_four (ats : Array TypeId) (ty : TypeId) (a b c d : Value) : Builtin.min_ ats ty #[a, b, c, d] = (Builtin.min2 a b >>= fun s => Builtin.min2 s c >>= fun s => Builtin.min2 s d >>= fun s => pure s) := by simp only [Builtin.min_, List.foldlM_cons, List.foldlM_nil]
/-! ### Two sheets -/
section
variable {w0 W W' : World} {L : List Ent} {ga gb ca cb : Nat} {ba bb : List Int}
/-- Sheet ga, beside it gb, and what else is kept an eye on. -/
def Two (w0 : World) (L : List Ent) (ga : Nat) (ba : List Int) (ca : Nat) (gb : Nat) (bb : List Int) (cb : Nat) (W : World) : Prop :=
  ∃ R a cap, Row R 3 1 a bb.length cap (is bb) ∧ ShAt w0 ((gb, scells a bb.length cap cb, 49) :: (R ++ L)) ga ba ca W
theorem Two.swap (h : Two w0 L ga ba ca gb bb cb W) : Two w0 L gb bb cb ga ba ca W := by
  obtain ⟨R, a, cap, hR, R', a', cap', hR', hS⟩ := h
  refine ⟨R', a', cap', hR', R, a, cap, hR, hS.perm ?_⟩
  refine List.Perm.trans ?_ (List.perm_middle (l₁ := (gb, scells a bb.length cap cb, 49) :: R) (a := (ga, scells a' ba.length cap' ca, 49)) (l₂ := R' ++ L)).symm
  refine List.Perm.cons _ ?_
  have := List.perm_append_comm_assoc R' ((gb, scells a bb.length cap cb, 49) :: R) L
  simpa using this
theorem Two.of (h : ShAt w0 L gb bb cb W) : ∃ R a cap, Row R 3 1 a bb.length cap (is bb) ∧ Sts w0 ((gb, scells a bb.length cap cb, 49) :: (R ++ L)) W := h
theorem Two.mk_ {R : List Ent} {a : Option Addr} {cap : Nat} (hR : Row R 3 1 a bb.length cap (is bb)) (h : ShAt w0 ((gb, scells a bb.length cap cb, 49) :: (R ++ L)) ga ba ca W) : Two w0 L ga ba ca gb bb cb W := ⟨R, a, cap, hR, h⟩
theorem Two.below (h : Two w0 L ga ba ca gb bb cb W) (hb : Below W.heap.size W W') : Two w0 L ga ba ca gb bb cb W' := by
  obtain ⟨R, a, cap, hR, hS⟩ := h
  exact ⟨R, a, cap, hR, hS.below hb⟩
theorem Two.bel (h : Two w0 L ga ba ca gb bb cb W) : Below w0.heap.size w0 W := by
  obtain ⟨R, a, cap, hR, hS⟩ := h
  exact hS.bel
theorem Two.sts (h : Two w0 L ga ba ca gb bb cb W) : ∃ M, Sts w0 M W ∧ ∀ x ∈ L, x ∈ M := by
  obtain ⟨R, a, cap, hR, R', a', cap', hR', hS⟩ := h
  exact ⟨_, hS, fun x hx => by simp [hx]⟩
theorem Two.lit (h : Two w0 L ga ba ca gb bb cb W) {L' : List Ent} (hp : L.Perm L') : Two w0 L' ga ba ca gb bb cb W := by
  obtain ⟨R, a, cap, hR, hS⟩ := h
  exact ⟨R, a, cap, hR, hS.perm (((List.Perm.refl R).append hp).cons _)⟩
theorem Two.sub (h : Two w0 L ga ba ca gb bb cb W) {L' : List Ent} (hp : L'.Sublist L) : Two w0 L' ga ba ca gb bb cb W := by
  obtain ⟨R, a, cap, hR, hS⟩ := h
  exact ⟨R, a, cap, hR, hS.sub (((List.Sublist.refl R).append hp).cons_cons _)⟩
theorem Two.join (h : Two w0 L ga ba ca gb bb cb W) {R' : List Ent} (hj : Sts W R' W') : Two w0 (R' ++ L) ga ba ca gb bb cb W' := by
  obtain ⟨R, a, cap, hR, hS⟩ := h
  refine ⟨R, a, cap, hR, (hS.join hj).perm ?_⟩
  refine List.Perm.trans List.perm_middle (List.Perm.cons _ ?_)
  exact List.perm_append_comm_assoc R' R L
theorem Two.src (h : Two w0 L ga ba ca gb bb cb W) {R : List Ent} {e : TypeId} {size n cap : Nat} {a : Option Addr} {xs : List Value} (hR : Row R e size a n cap xs) (hm : ∀ x ∈ R, x ∈ L) : Src W a n size xs := by
  obtain ⟨M, hM, hs⟩ := h.sts
  exact hR.srcIn hM fun x hx => hs x (hm x hx)
theorem Two.set {g : Nat} {cs : Array Value} {t : TypeId} (h : Two w0 ((g, cs, t) :: L) ga ba ca gb bb cb W) (i : Nat) (v : Value) : Two w0 ((g, cs.setIfInBounds i v, t) :: L) ga ba ca gb bb cb (W.setCell ⟨g, i, none⟩ v) := by
  obtain ⟨R, a, cap, hR, R', a', cap', hR', hS⟩ := h
  refine ⟨R, a, cap, hR, R', a', cap', hR', ?_⟩
  have h2 := hS.perm (L' := (g, cs, t) :: ((ga, scells a' ba.length cap' ca, 49) :: (R' ++ ((gb, scells a bb.length cap cb, 49) :: (R ++ L))))) (by
    have := List.perm_middle (l₁ := (ga, scells a' ba.length cap' ca, 49) :: (R' ++ ((gb, scells a bb.length cap cb, 49) :: R))) (a := (g, cs, t)) (l₂ := L)
    simpa using this)
  have h3 := h2.set 0 i v rfl
  refine Sts.perm h3 ?_
  have := (List.perm_middle (l₁ := (ga, scells a' ba.length cap' ca, 49) :: (R' ++ ((gb, scells a bb.length cap cb, 49) :: R))) (a := (g, cs.setIfInBounds i v, t)) (l₂ := L)).symm
  simpa using this
/-- A turn of the first sheet. -/
theorem Two.turn {P : Program} {f : FuncId} {args : Array Value} {v : Value} {ba' : List Int} {ca' : Nat} (h : Two w0 L ga ba ca gb bb cb W)
    (hc : ∀ L', ShAt w0 L' ga ba ca W → Calls P f args W fun e w' => e = .returned v ∧ ShAt w0 L' ga ba' ca' w') : Calls P f args W fun e w' => e = .returned v ∧ Two w0 L ga ba' ca' gb bb cb w' := by
  obtain ⟨R, a, cap, hR, hS⟩ := h
  exact (hc _ hS).mono fun _ _ ⟨he, hs⟩ => ⟨he, R, a, cap, hR, hs⟩
theorem Two.turn2 {P : Program} {f : FuncId} {args : Array Value} {v : Value} {bb' : List Int} {cb' : Nat} (h : Two w0 L ga ba ca gb bb cb W)
    (hc : ∀ L', ShAt w0 L' gb bb cb W → Calls P f args W fun e w' => e = .returned v ∧ ShAt w0 L' gb bb' cb' w') : Calls P f args W fun e w' => e = .returned v ∧ Two w0 L ga ba ca gb bb' cb' w' :=
  (h.swap.turn hc).mono fun _ _ ⟨he, ht⟩ => ⟨he, ht.swap⟩
end
section
variable {w0 W : World} {L : List Ent} {ga gb ca cb : Nat} {ba bb : List Int}
theorem two_bal (h : Two w0 L ga ba ca gb bb cb W) (hl : ba.length ≤ 64) : Calls Try.prog 12 #[.pointer (some ⟨ga, 0, none⟩)] W fun e w' => ∃ R a cap, e = .returned (.slice a ba.length cap) ∧ Row R 3 1 a ba.length cap (is ba) ∧ Two w0 (R ++ L) ga ba ca gb bb cb w' := by
  obtain ⟨R, a, cap, hR, hS⟩ := h
  refine (balances_calls hS hl).mono ?_
  rintro e w' ⟨R2, a2, cap2, rfl, hR2, hS2⟩
  refine ⟨R2, a2, cap2, rfl, hR2, R, a, cap, hR, hS2.perm ?_⟩
  refine List.Perm.trans List.perm_middle (List.Perm.cons _ ?_)
  exact List.perm_append_comm_assoc R2 R L
theorem two_bal2 (h : Two w0 L ga ba ca gb bb cb W) (hl : bb.length ≤ 64) : Calls Try.prog 12 #[.pointer (some ⟨gb, 0, none⟩)] W fun e w' => ∃ R a cap, e = .returned (.slice a bb.length cap) ∧ Row R 3 1 a bb.length cap (is bb) ∧ Two w0 (R ++ L) ga ba ca gb bb cb w' :=
  (two_bal h.swap hl).mono fun _ _ ⟨R, a, cap, h1, h2, h3⟩ => ⟨R, a, cap, h1, h2, h3.swap⟩
theorem two_count (h : Two w0 L ga ba ca gb bb cb W) : Calls Try.prog 13 #[.pointer (some ⟨ga, 0, none⟩)] W fun e w' => e = .returned (.int .i64 ca) ∧ W = w' := by
  obtain ⟨R, a, cap, hR, hS⟩ := h
  exact count_calls hS
theorem two_count2 (h : Two w0 L ga ba ca gb bb cb W) : Calls Try.prog 13 #[.pointer (some ⟨gb, 0, none⟩)] W fun e w' => e = .returned (.int .i64 cb) ∧ W = w' := two_count h.swap
end
theorem within_q (n lo hi : Int) (w : World) (h0 : lo ≤ hi) (h1 : -2305843009213693952 ≤ lo) (h2 : hi ≤ 2305843009213693952) :
    Calls Try.prog 14 #[.int .i64 n, .int .i64 lo, .int .i64 hi] w fun e w' => e = .returned (.int .i64 (within n lo hi)) ∧ w' = w :=
  (within_calls n lo hi w h0 h1 h2).mono fun _ _ ⟨he, hw⟩ => ⟨he, hw.symm⟩
theorem Two.drewN {w0 W : World} {L : List Ent} {ga gb ca cb : Nat} {ba bb : List Int} (h : Two w0 L ga ba ca gb bb cb W) (n : Nat) : Two w0 L ga ba ca gb bb cb (W.drewN n) := h.below (bel_drewN (Below.refl _ _) n)
theorem Two.alloc {w0 W : World} {L : List Ent} {ga gb ca cb : Nat} {ba bb : List Int} (h : Two w0 L ga ba ca gb bb cb W) (o : Obj) : Two w0 L ga ba ca gb bb cb (W.alloc o) := h.below (bel_alloc (Below.refl _ _) o)

/-! ### Orders of posts -/
def part (i : Nat) (e : Int × Int) : Int := if e.1.toNat = i then e.2 else 0
theorem postL_at : ∀ (es : List (Int × Int)) (b : List Int) (i : Nat), (∀ e ∈ es, 0 ≤ e.1 ∧ e.1 < (b.length : Int)) → i < b.length → (postL b es).getD i 0 = b.getD i 0 + (es.map (part i)).sum := by
  intro es
  induction es with
  | nil => intro b i _ _; simp [postL]
  | cons e es ih =>
    intro b i h hi
    have h1 := h e (by simp)
    have h2 := ih (post1 b e) i (fun x hx => by rw [post1_length]; exact h x (by simp [hx])) (by rw [post1_length]; exact hi)
    show (postL (post1 b e) es).getD i 0 = _
    rw [h2, List.map_cons, List.sum_cons]
    unfold post1 part
    by_cases he : e.1.toNat = i
    · rw [if_pos he, he, getD_set_self' _ _ _ _ hi]; omega
    · rw [if_neg he, getD_set_other' _ _ _ (Ne.symm he)]; omega
theorem perm_sum {l m : List Int} (h : l.Perm m) : l.sum = m.sum := by
  induction h with
  | nil => rfl
  | cons x _ ih => rw [List.sum_cons, List.sum_cons, ih]
  | swap x y l => simp only [List.sum_cons]; omega
  | trans _ _ h1 h2 => exact h1.trans h2
theorem postL_perm {a b : List (Int × Int)} {bal : List Int} (hp : a.Perm b) (h : ∀ e ∈ a, 0 ≤ e.1 ∧ e.1 < (bal.length : Int)) : postL bal a = postL bal b := by
  apply ext_getD (d := 0) (by rw [postL_length, postL_length])
  intro i hi
  rw [postL_length] at hi
  rw [postL_at a bal i h hi, postL_at b bal i (fun e he => h e (hp.mem_iff.2 he)) hi, perm_sum (hp.map _)]
theorem sum_set' : ∀ (l : List Int) (k : Nat) (v : Int), k < l.length → (l.set k v).sum = l.sum - l.getD k 0 + v := by
  intro l
  induction l with
  | nil => intro k v h; simp at h
  | cons x l ih =>
    intro k v h
    cases k with
    | zero => simp only [List.set_cons_zero, List.sum_cons, List.getD_cons_zero]; omega
    | succ k =>
      have := ih k v (by simpa using h)
      simp only [List.set_cons_succ, List.sum_cons, List.getD_cons_succ, this]; omega
theorem postL_sum : ∀ (es : List (Int × Int)) (b : List Int), (∀ e ∈ es, 0 ≤ e.1 ∧ e.1 < (b.length : Int)) → (postL b es).sum = b.sum + (amts es).sum := by
  intro es
  induction es with
  | nil => intro b _; simp [postL, amts]
  | cons e es ih =>
    intro b h
    have h1 := h e (by simp)
    have h2 := ih (post1 b e) (fun x hx => by rw [post1_length]; exact h x (by simp [hx]))
    show (postL (post1 b e) es).sum = _
    rw [h2]
    unfold post1 amts
    rw [sum_set' _ _ _ (by omega), List.map_cons, List.sum_cons]
    omega
theorem postL_app (b : List Int) (x y : List (Int × Int)) : postL b (x ++ y) = postL (postL b x) y := by unfold postL; rw [List.foldl_append]
theorem rot_range {n k : Nat} (hk : k ≤ n) : (List.range n).map (fun i => (i + k) % n) = (List.range n).drop k ++ (List.range n).take k := by
  apply List.ext_getElem
  · simp; omega
  · intro i h1 h2
    simp only [List.length_map, List.length_range] at h1
    rw [List.getElem_map, List.getElem_range]
    by_cases hi : i + k < n
    · rw [List.getElem_append_left (by simp; omega), List.getElem_drop, List.getElem_range, Nat.mod_eq_of_lt hi]; omega
    · rw [List.getElem_append_right (by simp; omega), List.getElem_take, List.getElem_range]
      simp only [List.length_drop, List.length_range]
      have e : i + k = (i + k - n) + n := by omega
      rw [e, Nat.add_mod_right, Nat.mod_eq_of_lt (by omega)]; omega
theorem rot_perm {α : Type} (f : Nat → List α) {n k : Nat} (hk : k ≤ n) : ((List.range n).flatMap (fun i => f ((i + k) % n))).Perm ((List.range n).flatMap f) := by
  have h1 : (List.range n).flatMap (fun i => f ((i + k) % n)) = ((List.range n).map (fun i => (i + k) % n)).flatMap f := by rw [List.flatMap_map]
  rw [h1, rot_range hk]
  have h2 : (List.range n).flatMap f = ((List.range n).take k ++ (List.range n).drop k).flatMap f := by rw [List.take_append_drop]
  rw [h2, List.flatMap_append, List.flatMap_append]
  exact List.perm_append_comm
end Go.Proofs.Ytideaimlnipkoaa

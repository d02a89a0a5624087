import Derived.Test.YtideaimlnipkoaaShG
namespace Go.Proofs.Ytideaimlnipkoaa
open Go.RowKit
set_option linter.unusedVariables false
set_option linter.unusedSimpArgs false
/-! ### When a post may be -/
def Within (l : List Int) (B : Int) : Prop := ∀ x ∈ l, -B ≤ x ∧ x ≤ B
theorem Within.getD {l : List Int} {B : Int} (h : Within l B) (hB : 0 ≤ B) (i : Nat) : -B ≤ l.getD i 0 ∧ l.getD i 0 ≤ B := by
  by_cases hi : i < l.length
  · exact h _ (getD_mem hi)
  · rw [List.getD_eq_getElem?_getD, List.getElem?_eq_none (by omega)]; simp; omega
theorem Within.mono {l : List Int} {B B' : Int} (h : Within l B) (hb : B ≤ B') : Within l B' := fun x hx => by have := h x hx; omega
theorem postL_bd {M : Int} (hM : 0 ≤ M) : ∀ (es : List (Int × Int)) (b : List Int) (B : Int), 0 ≤ B → Within b B → (∀ e ∈ es, -M ≤ e.2 ∧ e.2 ≤ M) → Within (postL b es) (B + M * es.length) := by
  intro es
  induction es with
  | nil => intro b B hB h _; simpa [postL] using h
  | cons e es ih =>
    intro b B hB h he
    have h1 := he e (by simp)
    have h2 := h.getD hB e.1.toNat
    have hp : Within (post1 b e) (B + M) := by
      intro x hx
      unfold post1 at hx
      rcases List.mem_or_eq_of_mem_set hx with hx | rfl
      · have := h x hx; omega
      · omega
    have := ih (post1 b e) (B + M) (by omega) hp (fun x hx => he x (by simp [hx]))
    refine this.mono ?_
    rw [List.length_cons, Int.natCast_add, Int.mul_add]
    omega
theorem sum_bd {M : Int} (hM : 0 ≤ M) : ∀ (l : List Int), Within l M → -(M * l.length) ≤ l.sum ∧ l.sum ≤ M * l.length := by
  intro l
  induction l with
  | nil => intro _; simp
  | cons x l ih =>
    intro h
    have h1 := h x (by simp)
    have h2 := ih (fun y hy => h y (by simp [hy]))
    rw [List.sum_cons, List.length_cons, Int.natCast_add, Int.mul_add]
    omega
/-- Small entries of accounts that there are. -/
structure Small (n : Nat) (M : Int) (es : List (Int × Int)) : Prop where
  acc : ∀ e ∈ es, 0 ≤ e.1 ∧ e.1 < (n : Int)
  amt : ∀ e ∈ es, -M ≤ e.2 ∧ e.2 ≤ M
theorem Small.app {n : Nat} {M : Int} {a b : List (Int × Int)} (ha : Small n M a) (hb : Small n M b) : Small n M (a ++ b) :=
  ⟨fun e he => (List.mem_append.1 he).elim (ha.acc e) (hb.acc e), fun e he => (List.mem_append.1 he).elim (ha.amt e) (hb.amt e)⟩
theorem Small.sub {n : Nat} {M : Int} {a b : List (Int × Int)} (ha : Small n M a) (h : ∀ e ∈ b, e ∈ a) : Small n M b := ⟨fun e he => ha.acc e (h e he), fun e he => ha.amt e (h e he)⟩
theorem Small.sum {n : Nat} {M : Int} {es : List (Int × Int)} (h : Small n M es) (hM : 0 ≤ M) : -(M * es.length) ≤ (amts es).sum ∧ (amts es).sum ≤ M * es.length := by
  have := sum_bd hM (amts es) (fun x hx => by obtain ⟨e, he, rfl⟩ := List.mem_map.1 hx; exact h.amt e he)
  rw [show (amts es).length = es.length by simp [amts]] at this
  exact this
theorem net_small {n : Nat} {M : Int} {es : List (Int × Int)} (h : Small n M es) (hl : es.length ≤ 64) (hM : 0 ≤ M) (hM2 : M ≤ 1152921504606846976) (hS : M * es.length ≤ 9223372036854775807) : netF es = ((amts es).sum, true) := by
  have h1 := h.sum hM
  have h2 : es.all (fun e => inB e.2) = true := by
    rw [List.all_eq_true]
    intro e he
    have := h.amt e he
    exact inB_iff.2 (by omega)
  unfold netF
  rw [if_neg (by omega), if_pos h2]
  exact valF_yes (by show _ ≤ (amts es).sum; omega) (by show (amts es).sum ≤ _; omega)
theorem behind_small {M B : Int} {bal : List Int} {es : List (Int × Int)} (h : Small bal.length M es) (hM : 0 ≤ M) (hB : 0 ≤ B) (hb : Within bal B) (hS : B + M * es.length ≤ 1152921504606846976) : behindF bal es = some (postL bal es) := by
  have h1 : es.all (thereB bal.length) = true := by
    rw [List.all_eq_true]
    intro e he
    have := h.acc e he
    unfold thereB
    simp [this.1, this.2]
  have h2 : (postL bal es).all inB = true := by
    rw [List.all_eq_true]
    intro x hx
    have := postL_bd hM es bal B hB hb h.amt x hx
    exact inB_iff.2 (by omega)
  unfold behindF
  rw [if_pos h1, if_pos h2]
/-- What is small and balanced is posted. -/
theorem post_small {M B : Int} {bal : List Int} {es : List (Int × Int)} (h : Small bal.length M es) (hl : es.length ≤ 64) (hM : 0 ≤ M) (hB : 0 ≤ B) (hb : Within bal B) (hS : B + M * es.length ≤ 1152921504606846976) (hM2 : M ≤ 1152921504606846976) (h0 : (amts es).sum = 0) (hn : es ≠ []) : postF bal es = some (postL bal es) := by
  unfold postF
  rw [net_small h hl hM hM2 (by omega), h0, if_pos ⟨rfl, hn⟩, behind_small h hM hB hb hS]
theorem post_uneven {M : Int} {n : Nat} {bal : List Int} {es : List (Int × Int)} (h : Small n M es) (hl : es.length ≤ 64) (hM : 0 ≤ M) (hM2 : M ≤ 1152921504606846976) (hS : M * es.length ≤ 9223372036854775807) (h0 : (amts es).sum ≠ 0 ∨ es = []) : postF bal es = none := by
  unfold postF
  rw [net_small h hl hM hM2 hS, if_neg]
  rintro ⟨h1, h2⟩
  rcases h0 with h0 | h0
  · exact h0 (Prod.mk.inj h1).1
  · exact h2 h0
end Go.Proofs.Ytideaimlnipkoaa

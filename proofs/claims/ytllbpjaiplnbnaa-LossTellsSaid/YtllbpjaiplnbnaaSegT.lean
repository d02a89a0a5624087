import Derived.Test.YtllbpjaiplnbnaaSeg
import Derived.OrdersHeld
/-! A region of open order with ONE operation T behind which the condition S need not hold any more: what T waits for (through others too) may be taken first, as long as S holds behind all that is carried out ahead of T. -/
namespace Go.Proofs.Ytllbpjaiplnbnaa
open Go
set_option linter.unusedVariables false
set_option linter.unusedSimpArgs false
/-- j waits for i, through at most n steps. -/
def waitsB (md : Region.Mode) (ops : Array Oper) (i : Nat) : Nat → Nat → Bool
  | 0, _ => false
  | n + 1, j => match ops[j]? with
    | some o => o.after.any fun e => Region.binds md e && (e.on == i || waitsB md ops i n e.on)
    | none => false
def closedB (md : Region.Mode) (ops : Array Oper) (listed : Array Bool) : Bool := (List.range ops.size).all fun j => match ops[j]? with
  | some o => !listed.getD j false || o.after.all fun e => !Region.binds md e || listed.getD e.on false
  | none => true
def Closed (md : Region.Mode) (ops : Array Oper) (listed : Array Bool) : Prop := ∀ i o, listed.getD i false = true → ops[i]? = some o → ∀ e ∈ o.after, Region.binds md e = true → listed.getD e.on false = true
theorem Closed.of {md : Region.Mode} {ops : Array Oper} {listed : Array Bool} (h : closedB md ops listed = true) : Closed md ops listed := by
  intro i o hi ho e he hb
  have h1 := List.all_eq_true.1 h i (List.mem_range.2 (Array.getElem?_eq_some_iff.1 ho).1)
  rw [ho] at h1
  simp only [hi, Bool.not_true, Bool.false_or] at h1
  have := Array.all_eq_true_iff_forall_mem.1 h1 e he
  simpa [hb] using this
section
variable {P : Program} {ops : Array Oper} {Q : Exit → Act → World → Prop} {md : Region.Mode} {S : World → Prop} {T : Nat}
theorem Closed.set {listed : Array Bool} (h : Closed md ops listed) {i : Nat} (hi : i ∈ Region.ready md ops listed) : Closed md ops (listed.setIfInBounds i true) := by
  obtain ⟨hun, oi, hoi, hall⟩ := mem_ready.1 hi
  intro j o hj ho e he hb
  by_cases hji : i = j
  · subst hji
    rw [hoi] at ho
    cases ho
    exact getD_set_true (hall e he hb)
  · rw [getD_set_ne false hji] at hj
    exact getD_set_true (h j o hj ho e he hb)
theorem Closed.waits {listed : Array Bool} (h : Closed md ops listed) {i : Nat} : ∀ (n j : Nat), waitsB md ops i n j = true → (∀ o, ops[j]? = some o → ∀ e ∈ o.after, Region.binds md e = true → listed.getD e.on false = true) → listed.getD i false = true := by
  intro n
  induction n with
  | zero => intro j hw; cases hw
  | succ n ih =>
    intro j hw hd
    unfold waitsB at hw
    cases ho : ops[j]? with
    | none => rw [ho] at hw; cases hw
    | some o =>
      rw [ho] at hw
      obtain ⟨q, hq, h5⟩ := Array.any_eq_true.1 hw
      have he : o.after[q] ∈ o.after := Array.getElem_mem hq
      generalize o.after[q] = e at he h5
      rw [Bool.and_eq_true, Bool.or_eq_true, beq_iff_eq] at h5
      have hl := hd o ho e he h5.1
      rcases h5.2 with h6 | h6
      · rw [← h6]; exact hl
      · exact ih e.on h6 (fun o' ho' e' he' hb' => h e.on o' hl ho' e' he' hb')
/-- Whatever order is picked from here on, and S holds behind every operation that is carried out ahead of T. -/
def wpAnyT (P : Program) (md : Region.Mode) (ops : Array Oper) (Q : Exit → Act → World → Prop) (S : World → Prop) (T : Nat) : Nat → Array Bool → Act → World → Prop
  | 0, listed, a, w => Region.ready md ops listed = [] ∧ Q .normal a w
  | fuel + 1, listed, a, w =>
    (Region.ready md ops listed = [] → Q .normal a w) ∧
    ∀ i ∈ Region.ready md ops listed, wpOp P ops Q i (fun a' w' => if i = T then wpAny P md ops Q fuel (listed.setIfInBounds i true) a' w' else S w' ∧ wpAnyT P md ops Q S T fuel (listed.setIfInBounds i true) a' w') a w
theorem wpAny_of_T : ∀ (fuel : Nat) (listed : Array Bool) (a : Act) (w : World), wpAnyT P md ops Q S T fuel listed a w → wpAny P md ops Q fuel listed a w
  | 0, _, _, _, h => h
  | fuel + 1, _, _, _, h => ⟨h.1, fun i hi => wpOp_mono (fun a' w' h' => by
      split at h'
      · exact h'
      · exact wpAny_of_T fuel _ a' w' h'.2) (h.2 i hi)⟩
theorem wpAnyT_first {i n : Nat} {oi : Oper} {v : Value} (hi : ops[i]? = some oi) (hsel : ∀ (j : Nat) (o : Oper) cs b, ops[j]? = some o → o.op ≠ .select cs b)
    (hQ : ∀ c a w, Q (.panic c) (a.put oi.dst v) w → Q (.panic c) a w) (hw : waitsB md ops i n T = true) :
    ∀ (fuel : Nat) (listed : Array Bool) (a : Act) (w : World), Closed md ops listed →
      (∀ j oj, ops[j]? = some oj → j ≠ i → listed.getD j true = false → (∀ e ∈ oj.after, Region.binds md e = true → e.on ≠ i) → oi.apart ops oj = true) →
      i ∈ Region.ready md ops listed → YieldsIf P ops S oi v a → S w →
      wpAnyT P md ops Q S T fuel (listed.setIfInBounds i true) (a.put oi.dst v) w → wpAnyT P md ops Q S T (fuel + 1) listed a w := by
  have unl : ∀ (listed : Array Bool), Closed md ops listed → i ∈ Region.ready md ops listed → ∀ j, j ∈ Region.ready md ops listed → j ≠ T := by
    intro listed hc hr j hj hjT
    subst hjT
    obtain ⟨hjun, oj, hoj, hall⟩ := mem_ready.1 hj
    have h1 := hc.waits n j hw (fun o ho e he hb => by rw [hoj] at ho; cases ho; exact hall e he hb)
    have h0 := (mem_ready.1 hr).1
    rcases Nat.lt_or_ge i listed.size with h' | h'
    · simp [h'] at h0 h1; rw [h0] at h1; cases h1
    · simp [Array.getElem?_eq_none h'] at h1
  intro fuel
  induction fuel with
  | zero =>
    intro listed a w hc _ hr hy hS H
    refine ⟨fun h => (by rw [h] at hr; cases hr), fun j hj => ?_⟩
    by_cases hji : j = i
    · subst hji
      refine hy.wpOp hi hS ?_
      rw [if_neg (unl listed hc hr _ hj)]
      exact ⟨hS, H⟩
    · have := ready_mono hj hji
      rw [H.1] at this
      cases this
  | succ fuel ih =>
    intro listed a w hc hfree hr hy hS H
    refine ⟨fun h => (by rw [h] at hr; cases hr), fun j hj => ?_⟩
    have hjT := unl listed hc hr j hj
    by_cases hji : j = i
    · subst hji
      refine hy.wpOp hi hS ?_
      rw [if_neg hjT]
      exact ⟨hS, H⟩
    · have h1 := H.2 j (ready_mono hj hji)
      simp only [if_neg hjT] at h1 ⊢
      obtain ⟨hjun, oj, hoj, hall⟩ := mem_ready.1 hj
      have hnot : ∀ e ∈ oj.after, Region.binds md e = true → e.on ≠ i := fun e he hb heq => by
        have h1 := hall e he hb
        have h0 := (mem_ready.1 hr).1
        rw [heq] at h1
        rcases Nat.lt_or_ge i listed.size with h' | h'
        · simp [h'] at h0 h1; rw [h0] at h1; cases h1
        · simp [Array.getElem?_eq_none h'] at h1
      have h2 := wpOp_putIf hoj (hfree j oj hoj hji hjun hnot) (fun cs b => hsel i oi cs b hi) (fun cs b => hsel j oj cs b hoj) hQ hy h1
      have hfree' : ∀ k ok, ops[k]? = some ok → k ≠ i → (listed.setIfInBounds j true).getD k true = false →
          (∀ e ∈ ok.after, Region.binds md e = true → e.on ≠ i) → oi.apart ops ok = true := fun k ok hk hki hun hno => by
        refine hfree k ok hk hki ?_ hno
        by_cases hjk : j = k
        · subst hjk; exact hjun
        · rw [getD_set_ne true hjk] at hun; exact hun
      refine wpOp_mono (fun a' w' h3 => ⟨h3.2.1, ih (listed.setIfInBounds j true) a' w' (hc.set hj) hfree' (ready_mono hr (Ne.symm hji)) h3.1 h3.2.1 ?_⟩) h2
      rw [Array.setIfInBounds_comm _ _ hji]
      exact h3.2.2
/-- Take number i first. -/
theorem wpAnyT_take {i : Nat} (n : Nat) {oi : Oper} {v : Value} {fuel : Nat} {listed : Array Bool} {a : Act} {w : World} (hi : ops[i]? = some oi)
    (hB : (Region.noSelect ops && Region.free md ops listed i && (Region.ready md ops listed).contains i && waitsB md ops i n T && closedB md ops listed) = true)
    (hQ : ∀ c a w, Q (.panic c) (a.put oi.dst v) w → Q (.panic c) a w) (hy : YieldsIf P ops S oi v a) (hS : S w)
    (h : wpAnyT P md ops Q S T fuel (listed.setIfInBounds i true) (a.put oi.dst v) w) : wpAnyT P md ops Q S T (fuel + 1) listed a w := by
  simp only [Bool.and_eq_true] at hB
  obtain ⟨⟨⟨⟨h1, h2⟩, h3⟩, h4⟩, h5⟩ := hB
  exact wpAnyT_first hi (Region.noSelect_spec h1) hQ h4 fuel listed a w (Closed.of h5) (Region.free_spec hi h2) (by simpa using h3) hy hS h
def KQ (K : Act → World → Prop) (Q : Exit → Act → World → Prop) : Exit → Act → World → Prop
  | .normal, a, w => K a w
  | e, a, w => Q e a w
theorem kq_in {K : Act → World → Prop} {a : Act} {w : World} (h : K a w) : KQ K Q .normal a w := h
theorem wpOp_of_listK {K : Act → World → Prop} {i : Nat} {o : Oper} (ho : ops[i]? = some o) {a : Act} {w : World} (h : wpList P ops (KQ K Q) [o] a w) : wpOp P ops Q i K a w := by
  unfold wpOp
  simp only [ho]
  unfold wpList at h
  split
  · rename_i hw
    rw [if_pos hw] at h
    rcases h with h | h
    · refine .inl ?_
      unfold Oper.wp at *
      generalize (execOp a.eval o).run P w = r at *
      cases r with
      | ok n w' =>
        cases n <;> simp only [Oper.upon] at h ⊢ <;> first | exact h | exact Calls.mono h (fun e w'' he => by cases e <;> exact he) | exact Rows.mono h (fun _ _ he => he)
      | halt x w' => cases x <;> simp only [Oper.upon] at h ⊢ <;> exact h
    · exact .inr h
  · rename_i hw
    rw [if_neg hw] at h
    exact h
/-- The one that may come up, ahead of T: S behind it. -/
theorem wpAnyT_one (j : Nat) {o : Oper} {fuel : Nat} {listed : Array Bool} {a : Act} {w : World} (ho : ops[j]? = some o) (hB : (Region.ready md ops listed == [j] && j != T) = true)
    (h : wpList P ops (KQ (fun a' w' => S w' ∧ wpAnyT P md ops Q S T fuel (listed.setIfInBounds j true) a' w') Q) [o] a w) : wpAnyT P md ops Q S T (fuel + 1) listed a w := by
  simp only [Bool.and_eq_true, beq_iff_eq, bne_iff_ne] at hB
  refine ⟨fun h0 => (by rw [hB.1] at h0; cases h0), fun i hi => ?_⟩
  rw [hB.1] at hi
  obtain rfl : i = j := by simpa using hi
  simp only [if_neg hB.2]
  exact wpOp_of_listK ho h
/-- Two that may come up, ahead of T. -/
theorem wpAnyT_two (j l : Nat) {o q : Oper} {fuel : Nat} {listed : Array Bool} {a : Act} {w : World} (ho : ops[j]? = some o) (hq : ops[l]? = some q) (hB : (Region.ready md ops listed == [j, l] && j != T && l != T) = true)
    (h : wpList P ops (KQ (fun a' w' => S w' ∧ wpAnyT P md ops Q S T fuel (listed.setIfInBounds j true) a' w') Q) [o] a w)
    (h2 : wpList P ops (KQ (fun a' w' => S w' ∧ wpAnyT P md ops Q S T fuel (listed.setIfInBounds l true) a' w') Q) [q] a w) : wpAnyT P md ops Q S T (fuel + 1) listed a w := by
  simp only [Bool.and_eq_true, beq_iff_eq, bne_iff_ne] at hB
  obtain ⟨⟨h1, hj⟩, hl⟩ := hB
  refine ⟨fun h0 => (by rw [h1] at h0; cases h0), fun i hi => ?_⟩
  rw [h1] at hi
  rcases List.mem_cons.1 hi with rfl | hi
  · simp only [if_neg hj]
    exact wpOp_of_listK ho h
  · obtain rfl : i = l := by simpa using hi
    simp only [if_neg hl]
    exact wpOp_of_listK hq h2
/-- T. -/
theorem wpAnyT_last {o : Oper} {fuel : Nat} {listed : Array Bool} {a : Act} {w : World} (ho : ops[T]? = some o) (hB : (Region.ready md ops listed == [T]) = true)
    (h : wpList P ops (KQ (wpAny P md ops Q fuel (listed.setIfInBounds T true)) Q) [o] a w) : wpAnyT P md ops Q S T (fuel + 1) listed a w := by
  simp only [beq_iff_eq] at hB
  refine ⟨fun h0 => (by rw [hB] at h0; cases h0), fun i hi => ?_⟩
  rw [hB] at hi
  obtain rfl : i = T := by simpa using hi
  simp only [if_pos]
  exact wpOp_of_listK ho h
/-- Behind T: the one that may come up. -/
theorem wpAny_one (j : Nat) {o : Oper} {fuel : Nat} {listed : Array Bool} {a : Act} {w : World} (ho : ops[j]? = some o) (hB : (Region.ready md ops listed == [j]) = true)
    (h : wpList P ops (KQ (wpAny P md ops Q fuel (listed.setIfInBounds j true)) Q) [o] a w) : wpAny P md ops Q (fuel + 1) listed a w := by
  simp only [beq_iff_eq] at hB
  refine ⟨fun h0 => (by rw [hB] at h0; cases h0), fun i hi => ?_⟩
  rw [hB] at hi
  obtain rfl : i = j := by simpa using hi
  exact wpOp_of_listK ho h
theorem wp_region_T {id : Nat} {a : Act} {w : World} (S : World → Prop) (T : Nat) (hm : P.follows .mixedOrders = true) (h : wpAnyT P .any ops Q S T ops.size (Array.replicate ops.size false) a w.drew) : (Code.region id ops true).wp P Q a w :=
  wp_region_any hm (wpAny_of_T _ _ _ _ h)
end
end Go.Proofs.Ytllbpjaiplnbnaa

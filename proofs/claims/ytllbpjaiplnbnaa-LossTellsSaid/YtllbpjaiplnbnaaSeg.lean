import Derived.Test.YtllbpjaiplnbnaaMem
import Derived.Orders
import Derived.Still
/-! A region of open order by pieces: a piece is a run of operations that only read (in whatever order they come up), and behind them one operation for which all of them are waited, and for which all that stands behind waits. -/
namespace Go.Proofs.Ytllbpjaiplnbnaa
open Go
set_option linter.unusedVariables false
set_option linter.unusedSimpArgs false

def firstN (n s : Nat) : Array Bool := ((List.range n).map fun i => decide (i < s)).toArray
theorem firstN_size (n s : Nat) : (firstN n s).size = n := by simp [firstN]
theorem firstN_get (n s i : Nat) (d : Bool) (h : i < n) : (firstN n s).getD i d = decide (i < s) := by simp [firstN, h]
theorem firstN_set (n s : Nat) : (firstN n s).setIfInBounds s true = firstN n (s + 1) := by
  apply Array.ext (by simp [firstN])
  intro i h1 h2
  rw [Array.size_setIfInBounds, firstN_size] at h1
  by_cases e : s = i
  · subst e; simp [firstN]
  · rw [Array.getElem_setIfInBounds_ne _ e]
    · simp [firstN]; omega
    · rw [firstN_size]; exact h1
theorem firstN_zero (n : Nat) : firstN n 0 = Array.replicate n false := by
  apply Array.ext (by simp [firstN])
  intro i h1 h2
  simp [firstN]

/-- The closed look at a piece: its first operation k, its last L. -/
def segB (md : Region.Mode) (ops : Array Oper) (k L : Nat) : Bool :=
  decide (k ≤ L) && decide (L < ops.size) &&
  ((List.range ops.size).all fun j => match ops[j]? with
    | some o => (o.after.all fun e => !Region.binds md e || decide (e.on < j)) && (decide (j ≤ L) || o.after.any fun e => Region.binds md e && decide (L ≤ e.on))
    | none => false) &&
  ((List.range L).all fun i => decide (i < k) || (List.range (L + 1)).any fun i' => decide (i < i') && match ops[i']? with
    | some o => o.after.any fun e => Region.binds md e && e.on == i
    | none => false)
structure SegOk (md : Region.Mode) (ops : Array Oper) (k L : Nat) : Prop where
  kL : k ≤ L
  lt : L < ops.size
  back : ∀ {j o}, ops[j]? = some o → ∀ e ∈ o.after, Region.binds md e = true → e.on < j
  later : ∀ {j o}, L < j → ops[j]? = some o → ∃ e ∈ o.after, Region.binds md e = true ∧ L ≤ e.on
  waits : ∀ {i}, k ≤ i → i < L → ∃ i' o, i < i' ∧ i' ≤ L ∧ ops[i']? = some o ∧ ∃ e ∈ o.after, Region.binds md e = true ∧ e.on = i
theorem SegOk.of {md : Region.Mode} {ops : Array Oper} {k L : Nat} (h : segB md ops k L = true) : SegOk md ops k L := by
  simp only [segB, Bool.and_eq_true, decide_eq_true_eq] at h
  obtain ⟨⟨⟨h1, h2⟩, h3⟩, h4⟩ := h
  have at3 : ∀ {j o}, ops[j]? = some o → (o.after.all fun e => !Region.binds md e || decide (e.on < j)) = true ∧ (decide (j ≤ L) || o.after.any fun e => Region.binds md e && decide (L ≤ e.on)) = true := by
    intro j o ho
    have hj := (Array.getElem?_eq_some_iff.1 ho).1
    have := List.all_eq_true.1 h3 j (List.mem_range.2 hj)
    rw [ho] at this
    simpa only [Bool.and_eq_true] using this
  refine ⟨h1, h2, fun ho e he hb => ?_, fun {j o} hj ho => ?_, fun {i} hi hi2 => ?_⟩
  · have := Array.all_eq_true_iff_forall_mem.1 (at3 ho).1 e he
    simpa [hb] using this
  · have := (at3 ho).2
    rw [Bool.or_eq_true, decide_eq_true_eq] at this
    rcases this with h | h
    · omega
    · obtain ⟨q, hq, hh⟩ := Array.any_eq_true.1 h
      have he : o.after[q] ∈ o.after := Array.getElem_mem hq
      generalize o.after[q] = e at he hh
      rw [Bool.and_eq_true, decide_eq_true_eq] at hh
      exact ⟨e, he, hh.1, hh.2⟩
  · have := List.all_eq_true.1 h4 i (List.mem_range.2 hi2)
    rw [Bool.or_eq_true, decide_eq_true_eq] at this
    rcases this with h | h
    · omega
    · obtain ⟨i', hm, hh⟩ := List.any_eq_true.1 h
      rw [Bool.and_eq_true, decide_eq_true_eq] at hh
      obtain ⟨hlt, hh⟩ := hh
      have := List.mem_range.1 hm
      cases ho : ops[i']? with
      | none => rw [ho] at hh; cases hh
      | some o =>
        rw [ho] at hh
        obtain ⟨q, hq, h5⟩ := Array.any_eq_true.1 hh
        have he : o.after[q] ∈ o.after := Array.getElem_mem hq
        generalize o.after[q] = e at he h5
        rw [Bool.and_eq_true, beq_iff_eq] at h5
        exact ⟨i', o, hlt, by omega, ho, e, he, h5.1, h5.2⟩

section
variable {P : Program} {ops : Array Oper} {md : Region.Mode} {C : World → Prop} {k L : Nat}

structure Mid (md : Region.Mode) (ops : Array Oper) (k L : Nat) (listed : Array Bool) : Prop where
  size : listed.size = ops.size
  low : ∀ i, i < k → listed.getD i false = true
  closed : ∀ i o, listed.getD i false = true → ops[i]? = some o → ∀ e ∈ o.after, Region.binds md e = true → listed.getD e.on false = true
  openL : listed.getD L true = false

theorem getD_any {listed : Array Bool} {i : Nat} (d d' : Bool) (h : i < listed.size) : listed.getD i d = listed.getD i d' := by simp [h]

theorem Mid.above {listed : Array Bool} (hs : SegOk md ops k L) (h : Mid md ops k L listed) : ∀ j, L ≤ j → listed.getD j false = false := by
  intro j
  induction j using Nat.strongRecOn with
  | _ j ih =>
    intro hj
    have hL : listed.getD L false = false := by rw [getD_any false true (by rw [h.size]; exact hs.lt)]; exact h.openL
    by_cases hjL : j = L
    · subst hjL; exact hL
    · cases hv : listed.getD j false with
      | false => rfl
      | true =>
        have hjs : j < ops.size := by
          rw [← h.size]
          by_cases hh : j < listed.size
          · exact hh
          · rw [Array.getD_eq_getD_getElem?, Array.getElem?_eq_none (by omega)] at hv; cases hv
        obtain ⟨e, he, hb, hle⟩ := hs.later (j := j) (o := ops[j]) (by omega) (Array.getElem?_eq_getElem hjs)
        have h1 := h.closed j _ hv (Array.getElem?_eq_getElem hjs) e he hb
        have h2 := hs.back (Array.getElem?_eq_getElem hjs) e he hb
        rw [ih e.on h2 hle] at h1
        cases h1
/-- A ready operation stands in the piece. -/
theorem Mid.ready_le {listed : Array Bool} (hs : SegOk md ops k L) (h : Mid md ops k L listed) {i : Nat} (hi : i ∈ Region.ready md ops listed) : k ≤ i ∧ i ≤ L := by
  obtain ⟨hun, o, ho, hall⟩ := mem_ready.1 hi
  constructor
  · by_cases hk : k ≤ i
    · exact hk
    · have := h.low i (by omega)
      have hlt := (Array.getElem?_eq_some_iff.1 ho).1
      rw [getD_any false true (by rw [h.size]; exact hlt), hun] at this
      cases this
  · by_cases hL : i ≤ L
    · exact hL
    · obtain ⟨e, he, hb, hle⟩ := hs.later (by omega) ho
      have h1 := hall e he hb
      rw [h.above hs e.on hle] at h1
      cases h1
/-- The last one is ready: then all of the piece ahead of it is listed. -/
theorem Mid.all_of_last {listed : Array Bool} (hs : SegOk md ops k L) (h : Mid md ops k L listed) (hL : L ∈ Region.ready md ops listed) : ∀ d i, L - i = d → k ≤ i → i < L → listed.getD i false = true := by
  obtain ⟨hun, oL, hoL, hall⟩ := mem_ready.1 hL
  intro d
  induction d using Nat.strongRecOn with
  | _ d ih =>
    intro i hd hk hi
    obtain ⟨i', o, h1, h2, ho, e, he, hb, hon⟩ := hs.waits hk hi
    by_cases hil : i' = L
    · subst hil
      rw [hoL] at ho
      cases ho
      rw [← hon]; exact hall e he hb
    · have h3 := ih (L - i') (by omega) i' rfl (by omega) (by omega)
      rw [← hon]; exact h.closed i' o h3 ho e he hb
theorem Mid.set {listed : Array Bool} (h : Mid md ops k L listed) {i : Nat} (hi : i ∈ Region.ready md ops listed) (hiL : i < L) : Mid md ops k L (listed.setIfInBounds i true) := by
  obtain ⟨hun, oi, hoi, hall⟩ := mem_ready.1 hi
  refine ⟨by simpa using h.size, fun j hj => getD_set_true (h.low j hj), fun j o hj ho e he hb => ?_, ?_⟩
  · by_cases hji : i = j
    · subst hji
      rw [hoi] at ho
      cases ho
      exact getD_set_true (hall e he hb)
    · rw [getD_set_ne false hji] at hj
      exact getD_set_true (h.closed j o hj ho e he hb)
  · rw [getD_set_ne true (by omega)]; exact h.openL

/-- How many of the piece are left. -/
def left (k L : Nat) (listed : Array Bool) : Nat := ((List.range L).filter fun i => decide (k ≤ i) && !(listed.getD i true)).length
theorem left_set {listed : Array Bool} (h : Mid md ops k L listed) {i : Nat} (hi : i ∈ Region.ready md ops listed) (hk : k ≤ i) (hiL : i < L) : left k L listed = left k L (listed.setIfInBounds i true) + 1 := by
  obtain ⟨hun, oi, hoi, hall⟩ := mem_ready.1 hi
  have hlt : i < listed.size := by rw [h.size]; exact (Array.getElem?_eq_some_iff.1 hoi).1
  unfold left
  have e1 : ((List.range L).filter fun j => decide (k ≤ j) && !((listed.setIfInBounds i true).getD j true)) = ((List.range L).filter fun j => decide (k ≤ j) && !(listed.getD j true)).erase i := by
    rw [List.Nodup.erase_eq_filter (List.Pairwise.filter _ List.nodup_range), List.filter_filter]
    apply List.filter_congr
    intro j _
    by_cases e : i = j
    · subst e; simp [hlt]
    · rw [getD_set_ne true e]
      have : (j != i) = true := by rw [bne_iff_ne]; exact Ne.symm e
      rw [this, Bool.true_and]
  rw [e1, List.length_erase_of_mem (by rw [List.mem_filter, List.mem_range]; exact ⟨hiL, by simp [hk, hun]⟩)]
  have : 0 < ((List.range L).filter fun j => decide (k ≤ j) && !(listed.getD j true)).length := List.length_pos_of_mem (a := i) (by rw [List.mem_filter, List.mem_range]; exact ⟨hiL, by simp [hk, hun]⟩)
  omega
theorem left_zero {listed : Array Bool} (h : left k L listed = 0) : ∀ i, k ≤ i → i < L → listed.getD i true = true := by
  intro i hk hi
  have h1 := List.filter_eq_nil_iff.1 (List.length_eq_zero_iff.1 h) i (List.mem_range.2 hi)
  simpa [hk] using h1
theorem left_pos {listed : Array Bool} (h : 0 < left k L listed) : ∃ i, k ≤ i ∧ i < L ∧ listed.getD i true = false := by
  obtain ⟨i, hi⟩ := List.exists_mem_of_length_pos h
  rw [List.mem_filter, List.mem_range, Bool.and_eq_true, decide_eq_true_eq, Bool.not_eq_true'] at hi
  exact ⟨i, hi.2.1, hi.1, hi.2.2⟩
/-- As long as one is left, one is ready. -/
theorem Mid.some_ready {listed : Array Bool} (hs : SegOk md ops k L) (h : Mid md ops k L listed) : ∀ i, i ≤ L → listed.getD i true = false → ∃ j, j ≤ i ∧ j ∈ Region.ready md ops listed := by
  intro i
  induction i using Nat.strongRecOn with
  | _ i ih =>
    intro hi hun
    have hlt : i < ops.size := by have := hs.lt; omega
    by_cases hall : ∀ e ∈ (ops[i]).after, Region.binds md e = true → listed.getD e.on false = true
    · exact ⟨i, Nat.le_refl _, mem_ready.2 ⟨hun, _, Array.getElem?_eq_getElem hlt, hall⟩⟩
    · have hex : ∃ e ∈ (ops[i]).after, Region.binds md e = true ∧ listed.getD e.on false = false := by
        apply Classical.byContradiction
        intro hno
        apply hall
        intro e he hb
        cases hv : listed.getD e.on false with
        | true => rfl
        | false => exact absurd ⟨e, he, hb, hv⟩ hno
      obtain ⟨e, he, hb, hv⟩ := hex
      have h1 := hs.back (Array.getElem?_eq_getElem hlt) e he hb
      obtain ⟨j, hj, hr⟩ := ih e.on h1 (by omega) (by rw [getD_any true false (by rw [h.size]; omega)]; exact hv)
      exact ⟨j, by omega, hr⟩
theorem Mid.none_left {listed : Array Bool} (hs : SegOk md ops k L) (h : Mid md ops k L listed) (h0 : left k L listed = 0) : listed = firstN ops.size L := by
  apply Array.ext (by rw [h.size, firstN_size])
  intro i h1 h2
  have hg : listed.getD i true = listed[i] := by simp [h1]
  have hf : (firstN ops.size L).getD i true = (firstN ops.size L)[i] := by simp [h2]
  rw [← hg, ← hf, firstN_get _ _ _ _ (by rw [← h.size]; exact h1)]
  by_cases hk : i < k
  · rw [getD_any true false h1, h.low i hk]; have := hs.kL; simp; omega
  · by_cases hL : i < L
    · rw [left_zero h0 i (by omega) hL]; simp [hL]
    · rw [getD_any true false h1, h.above hs i (by omega)]; simp; omega

/-- Whatever order is picked among the piece's operations ahead of its last one. -/
def wpMid (P : Program) (md : Region.Mode) (ops : Array Oper) (C : World → Prop) (L : Nat) (K : Act → Prop) : Nat → Array Bool → Act → Prop
  | 0, _, a => K a
  | r + 1, listed, a => ∀ i ∈ Region.ready md ops listed, i < L → qOp P ops C i (wpMid P md ops C L K r (listed.setIfInBounds i true)) a

theorem wpAny_of_mid {Q : Exit → Act → World → Prop} {K : Act → Prop} {rest : Nat} (hs : SegOk md ops k L) (hK : ∀ a w, C w → K a → wpOp P ops Q L (wpAny P md ops Q rest (firstN ops.size (L + 1))) a w) : ∀ (r : Nat) (listed : Array Bool) (a : Act) (w : World),
    Mid md ops k L listed → left k L listed = r → C w → wpMid P md ops C L K r listed a → wpAny P md ops Q (rest + 1 + r) listed a w
  | 0, listed, a, w, hm, hl, hw, h => by
    have he := hm.none_left hs hl
    have hL : L ∈ Region.ready md ops listed := by
      obtain ⟨j, hj, hr⟩ := hm.some_ready hs L (Nat.le_refl _) hm.openL
      have h1 := (hm.ready_le hs hr).1
      by_cases hjL : j = L
      · rw [← hjL]; exact hr
      · have h2 := left_zero hl j h1 (by omega)
        rw [(mem_ready.1 hr).1] at h2; cases h2
    refine ⟨fun h0 => (by rw [h0] at hL; cases hL), fun i hi => ?_⟩
    have h1 := hm.ready_le hs hi
    have hiL : i = L := by
      by_cases e : i = L
      · exact e
      · have h2 := left_zero hl i h1.1 (by omega)
        rw [(mem_ready.1 hi).1] at h2; cases h2
    subst hiL
    rw [he, firstN_set]
    exact hK a w hw h
  | r + 1, listed, a, w, hm, hl, hw, h => by
    obtain ⟨i0, hk0, hL0, hun0⟩ := left_pos (k := k) (L := L) (listed := listed) (by omega)
    obtain ⟨j0, hj0, hr0⟩ := hm.some_ready hs i0 (by omega) hun0
    refine ⟨fun h0 => (by rw [h0] at hr0; cases hr0), fun i hi => ?_⟩
    have h1 := hm.ready_le hs hi
    have hiL : i < L := by
      by_cases e : i = L
      · subst e
        have h2 := hm.all_of_last hs hi _ i0 rfl hk0 hL0
        rw [getD_any false true (by rw [hm.size]; have := hs.lt; omega), hun0] at h2; cases h2
      · omega
    refine wpOp_of_qOp hw (fun a' w' hw' hh => ?_) (h i hi hiL)
    have h3 := left_set hm hi h1.1 hiL
    exact wpAny_of_mid hs hK r _ a' w' (hm.set hi hiL) (by omega) hw' hh

theorem wpMid_first {K : Act → Prop} {i : Nat} {oi : Oper} {v : Value} (hi : ops[i]? = some oi) (hsel : ∀ (j : Nat) (o : Oper) cs b, ops[j]? = some o → o.op ≠ .select cs b) (hs : SegOk md ops k L) :
    ∀ (r : Nat) (listed : Array Bool) (a : Act), Mid md ops k L listed → left k L listed = r + 1 →
      (∀ j oj, ops[j]? = some oj → j ≠ i → listed.getD j true = false → (∀ e ∈ oj.after, Region.binds md e = true → e.on ≠ i) → oi.apart ops oj = true) →
      i ∈ Region.ready md ops listed → i < L → YieldsIn P ops C oi v a →
      wpMid P md ops C L K r (listed.setIfInBounds i true) (a.put oi.dst v) → wpMid P md ops C L K (r + 1) listed a := by
  intro r
  induction r with
  | zero =>
    intro listed a hm hl _ hr hiL hy H j hj hjL
    by_cases hji : j = i
    · subst hji; exact hy.qOp hi H
    · have h1 := left_set hm hr (hm.ready_le hs hr).1 hiL
      have h0 : left k L (listed.setIfInBounds i true) = 0 := by omega
      have h2 := left_zero h0 j (hm.ready_le hs hj).1 hjL
      rw [getD_set_ne true (Ne.symm hji), (mem_ready.1 hj).1] at h2
      cases h2
  | succ r ih =>
    intro listed a hm hl hfree hr hiL hy H j hj hjL
    by_cases hji : j = i
    · subst hji; exact hy.qOp hi H
    · have h1 := H j (ready_mono hj hji) hjL
      obtain ⟨hjun, oj, hoj, hall⟩ := mem_ready.1 hj
      have hnot : ∀ e ∈ oj.after, Region.binds md e = true → e.on ≠ i := fun e he hb heq => by
        have h1 := hall e he hb
        have h0 := (mem_ready.1 hr).1
        rw [heq] at h1
        rw [getD_any false true (by rw [hm.size]; exact (Array.getElem?_eq_some_iff.1 hi).1), h0] at h1
        cases h1
      have h2 := qOp_put hoj (hfree j oj hoj hji hjun hnot) (fun cs b => hsel i oi cs b hi) (fun cs b => hsel j oj cs b hoj) hy h1
      have hfree' : ∀ q oq, ops[q]? = some oq → q ≠ i → (listed.setIfInBounds j true).getD q true = false →
          (∀ e ∈ oq.after, Region.binds md e = true → e.on ≠ i) → oi.apart ops oq = true := fun q oq hoq hqi hun hno => by
        refine hfree q oq hoq hqi ?_ hno
        by_cases hjq : j = q
        · subst hjq; exact hjun
        · rw [getD_set_ne true hjq] at hun; exact hun
      have h3 := left_set hm hj (hm.ready_le hs hj).1 hjL
      refine qOp_mono (fun a' h4 => ih (listed.setIfInBounds j true) a' (hm.set hj hjL) (by omega) hfree' (ready_mono hr (Ne.symm hji)) hiL h4.1 ?_) h2
      rw [Array.setIfInBounds_comm _ _ hji]
      exact h4.2

/-- The closed look at the piece's reading operations in the order of the text. -/
def lexSeg (md : Region.Mode) (ops : Array Oper) : Nat → Nat → Bool
  | 0, _ => true
  | m + 1, s => (Region.ready md ops (firstN ops.size s)).contains s && Region.free md ops (firstN ops.size s) s && lexSeg md ops m (s + 1)

theorem left_firstN {n : Nat} (hs : SegOk md ops k L) : ∀ (m s : Nat), s + m = L → k ≤ s → left k L (firstN ops.size s) = m := by
  intro m s hm hk
  have hlt := hs.lt
  unfold left
  have e1 : ((List.range L).filter fun i => decide (k ≤ i) && !((firstN ops.size s).getD i true)) = (List.range L).filter fun i => decide (s ≤ i) := by
    apply List.filter_congr
    intro i hi
    have := List.mem_range.1 hi
    rw [firstN_get _ _ _ _ (by omega)]
    by_cases h : s ≤ i
    · first | (simp [h, show k ≤ i by omega]; done) | (simp [h, show k ≤ i by omega]; omega)
    · first | (simp [h]; done) | (simp [h]; omega)
  rw [e1]
  have e2 : List.range L = List.range s ++ (List.range m).map (s + ·) := by rw [← hm, List.range_add]
  rw [e2, List.filter_append, List.length_append]
  have e3 : (List.range s).filter (fun i => decide (s ≤ i)) = [] := by
    rw [List.filter_eq_nil_iff]; intro i hi; have := List.mem_range.1 hi; simp; omega
  have e4 : ((List.range m).map (s + ·)).filter (fun i => decide (s ≤ i)) = (List.range m).map (s + ·) := by
    rw [List.filter_eq_self]; intro i hi; obtain ⟨j, _, rfl⟩ := List.mem_map.1 hi; simp
  rw [e3, e4]; simp
theorem mid_firstN (hs : SegOk md ops k L) (s : Nat) (hk : k ≤ s) (hL : s ≤ L) : Mid md ops k L (firstN ops.size s) := by
  have hlt := hs.lt
  refine ⟨firstN_size _ _, fun i hi => by rw [firstN_get _ _ _ _ (by omega)]; simp; omega, fun i o hi ho e he hb => ?_, by rw [firstN_get _ _ _ _ hlt]; simp; omega⟩
  have h1 := hs.back ho e he hb
  have h2 := (Array.getElem?_eq_some_iff.1 ho).1
  rw [firstN_get _ _ _ _ h2] at hi
  rw [firstN_get _ _ _ _ (by omega)]
  simp at hi ⊢; omega
theorem wpMid_lex {K : Act → Prop} (hsel : Region.noSelect ops = true) (hs : SegOk md ops k L) : ∀ (l : List Oper) (s : Nat) (a : Act), s + l.length = L → k ≤ s → (∀ j o, l[j]? = some o → ops[s + j]? = some o) →
    lexSeg md ops l.length s = true → wpQuiet P ops C K l a → wpMid P md ops C L K l.length (firstN ops.size s) a
  | [], _, _, _, _, _, _, h => h
  | o :: l, s, a, hL, hk, hl, hB, h => by
    have h0 : ops[s]? = some o := by simpa using hl 0 o rfl
    simp only [List.length_cons, lexSeg, Bool.and_eq_true] at hB
    obtain ⟨⟨hr, hf⟩, hB'⟩ := hB
    have hst : qOp P ops C s (wpQuiet P ops C K l) a := by unfold qOp; simp only [h0]; exact h
    obtain ⟨v, hy, hK⟩ := yieldsIn_of_qOp h0 hst
    simp only [List.length_cons] at hL
    refine wpMid_first h0 (Region.noSelect_spec hsel) hs l.length _ a (mid_firstN hs s hk (by omega)) (left_firstN (n := 0) hs _ s (by omega) hk) (Region.free_spec h0 hf) (by simpa using hr) (by omega) hy ?_
    rw [firstN_set]
    exact wpMid_lex hsel hs l (s + 1) _ (by omega) (by omega) (fun j o' ho' => by have := hl (j + 1) o' (by simpa using ho'); simpa [Nat.add_assoc, Nat.add_comm 1 j] using this) hB' hK

/-- What stands behind a piece. -/
def SegQ (P : Program) (md : Region.Mode) (ops : Array Oper) (Q : Exit → Act → World → Prop) (rest s : Nat) : Exit → Act → World → Prop
  | .normal, a, w => wpAny P md ops Q rest (firstN ops.size s) a w
  | e, a, w => Q e a w
theorem letsOut_seg {Q : Exit → Act → World → Prop} {rest s : Nat} (h : LetsOut (SegQ P md ops Q rest s)) : LetsOut Q := h
theorem wpOp_of_list {Q : Exit → Act → World → Prop} {rest s i : Nat} {o : Oper} (ho : ops[i]? = some o) {a : Act} {w : World} (h : wpList P ops (SegQ P md ops Q rest s) [o] a w) : wpOp P ops Q i (wpAny P md ops Q rest (firstN ops.size s)) a w := by
  unfold wpOp
  simp only [ho]
  unfold wpList at h
  split
  · rename_i hw
    rw [if_pos hw] at h
    rcases h with h | h
    · refine .inl ?_
      unfold Oper.wp at *
      generalize (execOp a.eval o).run P w = r at *
      cases r with
      | ok n w' =>
        cases n <;> simp only [Oper.upon] at h ⊢ <;> first | exact h | exact Calls.mono h (fun e w'' he => by cases e <;> exact he) | exact Rows.mono h (fun _ _ he => he)
      | halt x w' => cases x <;> simp only [Oper.upon] at h ⊢ <;> exact h
    · exact .inr h
  · rename_i hw
    rw [if_neg hw] at h
    exact h

/-- A PIECE: the operations l from k on only read (class C), o is its last one. -/
theorem seg_step {Q : Exit → Act → World → Prop} {rest : Nat} {a : Act} {w : World} (l : List Oper) (o : Oper) (k L : Nat) (hL : k + l.length = L) (hsel : Region.noSelect ops = true) (hB : segB md ops k L = true) (hX : lexSeg md ops l.length k = true)
    (hl : (∀ j o, l[j]? = some o → ops[k + j]? = some o)) (ho : ops[L]? = some o) (hC : C w)
    (h : wpQuiet P ops C (fun a' => ∀ w', C w' → wpList P ops (SegQ P md ops Q rest (L + 1)) [o] a' w') l a) : wpAny P md ops Q (rest + 1 + l.length) (firstN ops.size k) a w := by
  have hs := SegOk.of hB
  refine wpAny_of_mid hs (K := fun a' => ∀ w', C w' → wpList P ops (SegQ P md ops Q rest (L + 1)) [o] a' w') (fun a' w' hw' hh => wpOp_of_list ho (hh w' hw')) l.length _ a w (mid_firstN hs k (Nat.le_refl _) hs.kL) (left_firstN (n := 0) hs _ k hL (Nat.le_refl _)) hC ?_
  exact wpMid_lex hsel hs l k a hL (Nat.le_refl _) hl hX h
end

section
variable {P : Program} {w0 w : World} {Lst : List (Nat × Array Value × TypeId)} {Q : Exit → Act → World → Prop} {a : Act}
theorem wp_region_seg {id : Nat} {l : List Oper} (hm : P.follows .mixedOrders = true) (h : wpAny P .any l.toArray Q l.length (firstN l.toArray.size 0) a w.drew) : (Code.region id l.toArray true).wp P Q a w := by
  refine wp_region_any hm ?_
  rw [firstN_zero] at h
  simpa using h
def segC (l : List Oper) (k m : Nat) : Bool := Region.noSelect l.toArray && segB .any l.toArray k (k + m) && lexSeg .any l.toArray m k
/-- A PIECE of m reading operations, and the one behind them. -/
theorem seg_next {l : List Oper} {rest : Nat} (k m : Nat) (hB : segC l k m = true) (hS : Sts w0 Lst w)
    (h : wpQuiet P l.toArray (fun w' => ∃ p : Later w0 Lst, w' = p.val) (fun a' => ∀ w', (∃ p : Later w0 Lst, w' = p.val) → wpList P l.toArray (SegQ P .any l.toArray Q rest (k + m + 1)) ((l.drop (k + m)).take 1) a' w') ((l.drop k).take m) a) :
    wpAny P .any l.toArray Q (rest + 1 + m) (firstN l.toArray.size k) a w := by
  simp only [segC, Bool.and_eq_true] at hB
  obtain ⟨⟨h1, h2⟩, h3⟩ := hB
  have hlt := (SegOk.of h2).lt
  simp only [List.size_toArray] at hlt
  have e0 : ((l.drop k).take m).length = m := by simp; omega
  have e1 : (l.drop (k + m)).take 1 = [l[k + m]] := by rw [List.drop_eq_getElem_cons hlt]; rfl
  rw [e1] at h
  have := seg_step (ops := l.toArray) (md := .any) (C := fun w' => ∃ p : Later w0 Lst, w' = p.val) (rest := rest) (Q := Q) (a := a) (w := w) ((l.drop k).take m) l[k + m] k (k + m) (by rw [e0]) h1 h2 (by rw [e0]; exact h3)
    (fun j o ho => by
      rw [List.getElem?_take] at ho
      split at ho
      · rw [List.getElem?_drop] at ho; simpa using ho
      · cases ho) (by simp [hlt]) ⟨⟨_, hS⟩, rfl⟩ h
  rwa [e0] at this
theorem seg_in {md : Region.Mode} {ops : Array Oper} {rest s : Nat} (h : wpAny P md ops Q rest (firstN ops.size s) a w) : SegQ P md ops Q rest s .normal a w := h
/-- THE LAST PIECE: it only reads. -/
theorem seg_last {l : List Oper} {fuel : Nat} (k : Nat) (hB : (Region.noSelect l.toArray && Region.lexFrom .any l.toArray (l.drop k).length k (firstN l.toArray.size k) && decide ((l.drop k).length = fuel)) = true) (hS : Sts w0 Lst w)
    (h : wpQuiet P l.toArray (fun w' => ∃ p : Later w0 Lst, w' = p.val) (fun a' => ∀ w', (∃ p : Later w0 Lst, w' = p.val) → Q .normal a' w') (l.drop k) a) : wpAny P .any l.toArray Q fuel (firstN l.toArray.size k) a w := by
  simp only [Bool.and_eq_true, decide_eq_true_eq] at hB
  obtain ⟨⟨h1, h2⟩, rfl⟩ := hB
  exact wpAny_of_quiet (Q := fun a' => ∀ w', (∃ p : Later w0 Lst, w' = p.val) → Q .normal a' w') (fun _ w' hw' h => h w' hw') _ _ _ _ ⟨⟨_, hS⟩, rfl⟩ (wpAnyQ_lex h1 (l.drop k) k _ a (by simp) h2 h)
theorem seg_done {l : List Oper} {k : Nat} (hB : (Region.ready .any l.toArray (firstN l.toArray.size k)).isEmpty = true) (h : Q .normal a w) : wpAny P .any l.toArray Q 0 (firstN l.toArray.size k) a w := ⟨by simpa using hB, h⟩
end
end Go.Proofs.Ytllbpjaiplnbnaa

import Derived.Test.YtllbpjaiplnbnaaMem
import Derived.Deep.RegionLaw
namespace Go.Proofs.Ytllbpjaiplnbnaa
open Go.RowKit
set_option linter.unusedVariables false
set_option linter.unusedSimpArgs false

abbrev Ent := Nat × Array Value × TypeId

/-! ### The list of tracked blocks, in any order -/
section
variable {w0 W W1 W' : World} {L L' A B R : List Ent}
theorem sts_iff : Sts w0 L W ↔ (∀ x ∈ L, Blk W x.1 x.2.1 x.2.2 ∧ w0.heap.size ≤ x.1) ∧ L.Pairwise (fun a b => a.1 ≠ b.1) ∧ Below w0.heap.size w0 W := by
  constructor
  · intro h
    refine ⟨fun x hx => ?_, ?_, h.bel⟩
    · obtain ⟨k, hk, rfl⟩ := List.getElem_of_mem hx
      exact ⟨h.blk (List.getElem?_eq_getElem hk), h.new (List.getElem?_eq_getElem hk)⟩
    · rw [List.pairwise_iff_getElem]
      intro i j hi hj hij
      exact h.ne (List.getElem?_eq_getElem hi) (List.getElem?_eq_getElem hj) (by omega)
  · rintro ⟨h1, h2, h3⟩
    refine ⟨fun hk => (h1 _ (List.mem_of_getElem? hk)).1, fun hk => (h1 _ (List.mem_of_getElem? hk)).2, fun {k k' e e'} hk hk' hne => ?_, h3⟩
    rw [List.pairwise_iff_getElem] at h2
    obtain ⟨q1, rfl⟩ := List.getElem?_eq_some_iff.1 hk
    obtain ⟨q2, rfl⟩ := List.getElem?_eq_some_iff.1 hk'
    rcases Nat.lt_or_gt_of_ne hne with hl | hl
    · exact h2 _ _ q1 q2 hl
    · exact Ne.symm (h2 _ _ q2 q1 hl)
theorem Sts.sub (h : Sts w0 L W) (hs : L'.Sublist L) : Sts w0 L' W := by
  rw [sts_iff] at h ⊢
  exact ⟨fun x hx => h.1 x (hs.subset hx), h.2.1.sublist hs, h.2.2⟩
theorem Sts.perm (h : Sts w0 L W) (hp : L.Perm L') : Sts w0 L' W := by
  rw [sts_iff] at h ⊢
  exact ⟨fun x hx => h.1 x (hp.symm.subset hx), hp.pairwise h.2.1 (fun {a b} h => Ne.symm h), h.2.2⟩
/-- A block that was just made, put between. -/
theorem Sts.ins {g : Nat} (A B : List Ent) (h : Sts w0 (A ++ B) W) (hg : g = W.heap.size) (cs : Array Value) (t : TypeId) : Sts w0 (A ++ ((g, cs, t) :: B)) (W.alloc (.cells cs t)) :=
  (h.add hg cs t).perm (by rw [List.append_assoc]; exact (List.perm_append_left_iff A).2 (List.perm_append_singleton _ _))
theorem Sts.mem_ne {x : Ent} (h : Sts w0 (A ++ (R ++ B)) W) (hx : x ∈ A ++ B) {y : Ent} (hy : y ∈ R) : x.1 ≠ y.1 := by
  rw [sts_iff] at h
  have h2 := h.2.1
  rw [List.pairwise_append, List.pairwise_append] at h2
  obtain ⟨_, ⟨_, _, h3⟩, h4⟩ := h2
  rcases List.mem_append.1 hx with hx | hx
  · exact h4 x hx y (List.mem_append_left _ hy)
  · exact Ne.symm (h3 y hy x hx)
/-- Another middle. -/
theorem Sts.mid {R' : List Ent} (h : Sts w0 (A ++ (R ++ B)) W) (hb : Below w0.heap.size w0 W') (hk : ∀ x ∈ A ++ B, Blk W' x.1 x.2.1 x.2.2) (hn : ∀ x ∈ R', Blk W' x.1 x.2.1 x.2.2 ∧ w0.heap.size ≤ x.1) (hp : R'.Pairwise (fun a b => a.1 ≠ b.1)) (hd : ∀ x ∈ A ++ B, ∀ y ∈ R', x.1 ≠ y.1) :
    Sts w0 (A ++ (R' ++ B)) W' := by
  have h' := sts_iff.1 h
  rw [sts_iff]
  obtain ⟨h1, h2, h3⟩ := h'
  rw [List.pairwise_append, List.pairwise_append] at h2
  obtain ⟨p1, ⟨_, p2, _⟩, p4⟩ := h2
  refine ⟨fun x hx => ?_, ?_, hb⟩
  · rcases List.mem_append.1 hx with hx | hx
    · exact ⟨hk x (List.mem_append_left _ hx), (h1 x (List.mem_append_left _ hx)).2⟩
    · rcases List.mem_append.1 hx with hx | hx
      · exact hn x hx
      · exact ⟨hk x (List.mem_append_right _ hx), (h1 x (List.mem_append_right _ (List.mem_append_right _ hx))).2⟩
  · rw [List.pairwise_append, List.pairwise_append]
    refine ⟨p1, ⟨hp, p2, fun x hx y hy => Ne.symm (hd y (List.mem_append_right _ hy) x hx)⟩, fun x hx y hy => ?_⟩
    rcases List.mem_append.1 hy with hy | hy
    · exact hd x (List.mem_append_left _ hx) y hy
    · exact p4 x hx y (List.mem_append_right _ hy)
end

/-! ### A slice of the call's own -/
/-- The slice '.slice A n cap' lies in the block of R alone (nil: there is none), its elements' cells are xs. -/
def Row (R : List Ent) (e : TypeId) (size : Nat) (A : Option Addr) (n cap : Nat) (xs : List Value) : Prop :=
  xs.length = n * size ∧ n ≤ cap ∧ cap ≤ maxLen ∧ ((A = none ∧ R = [] ∧ cap = 0) ∨ ∃ g cur, A = some ⟨g, 0, none⟩ ∧ R = [(g, cur, e)] ∧ cur.size = cap * size ∧ cur.toList.take (n * size) = xs)
theorem Row.nil (e : TypeId) (size : Nat) : Row [] e size none 0 0 [] := ⟨by simp, Nat.le_refl _, by omega, .inl ⟨rfl, rfl, rfl⟩⟩
/-- What an append copies from. -/
def Src (W : World) (A : Option Addr) (m size : Nat) (news : List Value) : Prop := news.length = m * size ∧ (0 < m → ∃ ad, A = some ad ∧ ∀ j u, news[j]? = some u → W.cell? (ad.add j) = some u)
section
variable {w0 W W1 W' : World} {L L' A B R : List Ent} {e : TypeId} {size n cap : Nat} {a : Option Addr} {xs : List Value}
theorem Row.length (h : Row R e size a n cap xs) : xs.length = n * size := h.1
theorem Row.le (h : Row R e size a n cap xs) : n ≤ cap := h.2.1
theorem Row.cap_le (h : Row R e size a n cap xs) : cap ≤ 9223372036854775807 := by have := h.2.2.1; unfold maxLen at this; omega
theorem Row.n_le (h : Row R e size a n cap xs) : n ≤ 9223372036854775807 := Nat.le_trans h.le h.cap_le
theorem Row.owns (A B : List Ent) (h : Row R e size a n cap xs) (hS : Sts w0 (A ++ (R ++ B)) W) : W.ownsRow w0.heap.size e size (.slice a n cap) n xs := by
  obtain ⟨h1, h2, h3, h4⟩ := h
  refine ⟨h1, ?_⟩
  rcases h4 with ⟨rfl, rfl, rfl⟩ | ⟨g, cur, rfl, rfl, h5, h6⟩
  · left; exact ⟨by congr 1; omega, by omega⟩
  · have := (sts_iff.1 hS).1 (g, cur, e) (by simp)
    exact .inr ⟨g, cap, cur, rfl, this.2, this.1, h2, h3, h5, h6⟩
theorem Row.at_ (A B : List Ent) (h : Row R e size a n cap xs) (hS : Sts w0 (A ++ (R ++ B)) W) (hn : 0 < n) : ∃ ad, a = some ad ∧ ∀ j u, xs[j]? = some u → W.cell? (ad.add j) = some u := by
  obtain ⟨h1, h2, h3, h4⟩ := h
  rcases h4 with ⟨rfl, rfl, rfl⟩ | ⟨g, cur, rfl, rfl, h5, h6⟩
  · omega
  · have hb := ((sts_iff.1 hS).1 (g, cur, e) (by simp)).1
    refine ⟨_, rfl, fun j u hu => ?_⟩
    have hj : j < n * size := by rw [← h1]; exact (List.getElem?_eq_some_iff.1 hu).1
    have e1 : (⟨g, 0, none⟩ : Addr).add j = ⟨g, j, none⟩ := by unfold Addr.add; split <;> simp_all
    rw [e1, hb.cell j, ← hu, ← h6, List.getElem?_take, if_pos hj, Array.getElem?_toList]
theorem Row.src (A B : List Ent) (h : Row R e size a n cap xs) (hS : Sts w0 (A ++ (R ++ B)) W) : Src W a n size xs := ⟨h.1, fun hn => h.at_ A B hS hn⟩
theorem Row.src_take (A B : List Ent) (h : Row R e size a n cap xs) (hS : Sts w0 (A ++ (R ++ B)) W) {k : Nat} (hk : k ≤ n) : Src W a k size (xs.take (k * size)) :=
  ⟨by rw [List.length_take, h.1]; exact Nat.min_eq_left (Nat.mul_le_mul_right _ hk), fun hn => by
    obtain ⟨ad, rfl, hc⟩ := h.at_ A B hS (by omega)
    refine ⟨ad, rfl, fun j u hu => hc j u ?_⟩
    rw [List.getElem?_take] at hu
    split at hu
    · exact hu
    · cases hu⟩
theorem block_of_add (a : Addr) (n : Nat) : (a.add n).block = a.block := by unfold Addr.add; split <;> rfl
theorem add_of_add (a : Addr) (i j : Nat) : (a.add i).add j = a.add (i + j) := by
  unfold Addr.add
  by_cases hi : i = 0 <;> by_cases hj : j = 0 <;> simp [hi, hj, Nat.add_assoc]
theorem Row.src_drop (A B : List Ent) (h : Row R e size a n cap xs) (hS : Sts w0 (A ++ (R ++ B)) W) {k : Nat} (hk : k ≤ n) : Src W (if cap = k then a else a.map (·.add (k * size))) (n - k) size (xs.drop (k * size)) :=
  ⟨by rw [List.length_drop, h.1, Nat.sub_mul], fun hn => by
    obtain ⟨ad, rfl, hc⟩ := h.at_ A B hS (by omega)
    have := h.le
    rw [if_neg (by omega)]
    refine ⟨_, rfl, fun j u hu => ?_⟩
    rw [add_of_add]
    refine hc _ u ?_
    rw [← hu, List.getElem?_drop]⟩
theorem Src.blk {g : Nat} {cs : Array Value} {t : TypeId} {m : Nat} (h : Blk W g cs t) (hm : cs.size = m * size) : Src W (some ⟨g, 0, none⟩) m size cs.toList :=
  ⟨by simpa using hm, fun _ => ⟨_, rfl, fun j u hu => by
    have e1 : (⟨g, 0, none⟩ : Addr).add j = ⟨g, j, none⟩ := by unfold Addr.add; split <;> simp_all
    rw [e1, h.cell j]; simpa using hu⟩⟩
theorem Src.new {cs : Array Value} {t : TypeId} {m : Nat} (hm : cs.size = m * size) {g : Nat} (hg : g = W.heap.size) : Src (W.alloc (.cells cs t)) (some ⟨g, 0, none⟩) m size cs.toList := Src.blk (Blk.newAt hg cs t) hm
theorem Src.nil (W : World) (size : Nat) : Src W none 0 size [] := ⟨by simp, fun h => absurd h (by omega)⟩
theorem Src.keep {m : Nat} {news : List Value} (h : Src W a m size news) (hk : ∀ p v, W.cell? p = some v → W'.cell? p = some v) : Src W' a m size news :=
  ⟨h.1, fun hm => by
    obtain ⟨ad, rfl, hc⟩ := h.2 hm
    exact ⟨ad, rfl, fun j u hu => hk _ _ (hc j u hu)⟩⟩
theorem Src.below {m : Nat} {news : List Value} (h : Src W a m size news) (hk : Below W.heap.size W W') : Src W' a m size news :=
  h.keep fun p v hv => (hk.cell (World.block_lt_of_cell? W p hv)).trans hv
theorem Src.alloc {m : Nat} {news : List Value} (h : Src W a m size news) (o : Obj) : Src (W.alloc o) a m size news := h.below (bel_alloc (Below.refl _ _) o)
/-- The row has grown. -/
theorem Row.grow (A B : List Ent) {v' : Value} {n' e' size' : Nat} {xs' : List Value} (h : Row R e size a n cap xs) (hS : Sts w0 (A ++ (R ++ B)) W) (ho : W'.ownsRow w0.heap.size e' size' v' n' xs') (hg : W.grownBy W' (Value.ownBlock (.slice a n cap)))
    (hat : v'.ownBlock = Value.ownBlock (.slice a n cap) ∨ v'.ownBlock = some W.heap.size) : ∃ R' a' cap', v' = .slice a' n' cap' ∧ Row R' e' size' a' n' cap' xs' ∧ Sts w0 (A ++ (R' ++ B)) W' := by
  have hrow : ∀ x ∈ A ++ B, some x.1 ≠ Value.ownBlock (.slice a n cap) := by
    intro x hx
    obtain ⟨_, _, _, h4⟩ := h
    rcases h4 with ⟨rfl, rfl, rfl⟩ | ⟨g, cur, rfl, rfl, _, _⟩
    · simp [Value.ownBlock]
    · have := hS.mem_ne hx (y := (g, cur, e)) (by simp)
      simp only [Value.ownBlock]
      intro he
      exact this (by simpa using he)
  have hin : ∀ x ∈ A ++ B, Blk W x.1 x.2.1 x.2.2 := fun x hx => ((sts_iff.1 hS).1 x (by
    rcases List.mem_append.1 hx with hx | hx
    · exact List.mem_append_left _ hx
    · exact List.mem_append_right _ (List.mem_append_right _ hx))).1
  have hrange : ∀ g, Value.ownBlock (.slice a n cap) = some g → w0.heap.size ≤ g := by
    intro g hgg
    obtain ⟨_, _, _, h4⟩ := h
    rcases h4 with ⟨rfl, rfl, rfl⟩ | ⟨g', cur, rfl, rfl, _, _⟩
    · simp [Value.ownBlock] at hgg
    · have := ((sts_iff.1 hS).1 (g', cur, e) (by simp)).2
      simp only [Value.ownBlock, Option.some.injEq] at hgg
      simpa [← hgg] using this
  have hbel : Below w0.heap.size w0 W' := by
    refine hS.bel.trans ⟨hg.os, hg.tape, hg.output, hg.size, fun k hk => hg.block k (Nat.lt_of_lt_of_le hk hS.size) (fun he => ?_)⟩
    have := hrange k he.symm
    omega
  have hkeep : ∀ x ∈ A ++ B, Blk W' x.1 x.2.1 x.2.2 := fun x hx => (hg.block x.1 (hin x hx).lt (hrow x hx)).trans (hin x hx)
  obtain ⟨hl, hv⟩ := ho
  rcases hv with ⟨rfl, rfl⟩ | ⟨g, cap', cur, rfl, hbg, hblk, hnc, hcm, hcs, htake⟩
  · exact ⟨[], none, 0, rfl, ⟨hl, by omega, by omega, .inl ⟨rfl, rfl, rfl⟩⟩, hS.mid hbel hkeep (by simp) (by simp) (by simp)⟩
  · refine ⟨[(g, cur, e')], _, cap', rfl, ⟨hl, hnc, hcm, .inr ⟨g, cur, rfl, rfl, hcs, htake⟩⟩, hS.mid hbel hkeep (by simp; exact ⟨hblk, hbg⟩) (by simp) ?_⟩
    intro x hx y hy
    obtain rfl : y = (g, cur, e') := by simpa using hy
    rcases hat with hat | hat
    · intro he
      refine hrow x hx ?_
      rw [← hat]
      simp [Value.ownBlock, he]
    · have h2 : g = W.heap.size := by simpa [Value.ownBlock] using hat
      have h3 := (hin x hx).lt
      simp only
      omega
/-- A row that a call has made. -/
theorem Sts.gain (A B : List Ent) {v' : Value} {n' e' size' : Nat} {xs' : List Value} (hS : Sts w0 (A ++ B) W) (ho : W'.ownsRow W.heap.size e' size' v' n' xs') (hb : Below W.heap.size W W') :
    ∃ R' a' cap', v' = .slice a' n' cap' ∧ Row R' e' size' a' n' cap' xs' ∧ Sts w0 (A ++ (R' ++ B)) W' := by
  have hS' : Sts w0 (A ++ ([] ++ B)) W := hS
  have hin : ∀ x ∈ A ++ B, Blk W x.1 x.2.1 x.2.2 := fun x hx => ((sts_iff.1 hS).1 x hx).1
  have hbel : Below w0.heap.size w0 W' := bel_then hS.bel hb hS.size
  have hkeep : ∀ x ∈ A ++ B, Blk W' x.1 x.2.1 x.2.2 := fun x hx => (hin x hx).below hb
  obtain ⟨hl, hv⟩ := ho
  rcases hv with ⟨rfl, rfl⟩ | ⟨g, cap', cur, rfl, hbg, hblk, hnc, hcm, hcs, htake⟩
  · exact ⟨[], none, 0, rfl, ⟨hl, by omega, by omega, .inl ⟨rfl, rfl, rfl⟩⟩, hS'.mid hbel hkeep (by simp) (by simp) (by simp)⟩
  · refine ⟨[(g, cur, e')], _, cap', rfl, ⟨hl, hnc, hcm, .inr ⟨g, cur, rfl, rfl, hcs, htake⟩⟩, hS'.mid hbel hkeep (by simp; exact ⟨hblk, Nat.le_trans hS.size hbg⟩) (by simp) ?_⟩
    intro x hx y hy
    obtain rfl : y = (g, cur, e') := by simpa using hy
    have h3 := (hin x hx).lt
    simp only
    omega
end

/-! ### append -/
section
variable {P : Program} {w0 W : World} {A B R : List Ent}
theorem run_append_src (base : Nat) (t ty e : TypeId) (i : TypeInfo) (z : Value) (size bytes : Nat) (ht : P.underlying t = some (.slice e)) (hi : P.info? e = some i) (hz : i.zero = some z)
    (hsize : i.size = size) (hby : i.bytes = bytes) (hzs : z.cells.size = size) (hsz : 0 < size) (v : Value) (n : Nat) (xs : List Value) (hown : W.ownsRow base e size v n xs)
    (a : Option Addr) (m c : Nat) (news : List Value) (hs : Src W a m size news) (h1 : ∀ u ∈ news, u.oneCell' = true) (h63 : n + m ≤ maxLen) (hbytes : (n + m) * bytes ≤ 140737488355328) (hbase : base ≤ W.heap.size) :
    ∃ v' w', (Builtin.append_ #[t, t] ty #[v, .slice a m c]).run P W = .ok v' w' ∧ w'.ownsRow base e size v' (n + m) (xs ++ news) ∧ W.grownBy w' v.ownBlock ∧ (v'.ownBlock = v.ownBlock ∨ v'.ownBlock = some W.heap.size) := by
  cases a with
  | none =>
    have hm : m = 0 := by
      by_cases h0 : 0 < m
      · obtain ⟨ad, h, _⟩ := hs.2 h0
        cases h
      · omega
    subst hm
    have hn : news = [] := List.eq_nil_of_length_eq_zero (by simpa using hs.1)
    subst hn
    refine ⟨v, W, ?_, by simpa using hown, ⟨rfl, rfl, rfl, Nat.le_refl _, fun _ _ _ => rfl⟩, .inl rfl⟩
    rcases hown.2 with ⟨rfl, rfl⟩ | ⟨g, cap, cur, rfl, _, _, hnc, _⟩
    · simp [Builtin.append_, run_underlying ht, sizeOf, typeInfo, hi, Builtin.lenOf, Builtin.firstCells]
    · simp [Builtin.append_, run_underlying ht, sizeOf, typeInfo, hi, Builtin.lenOf, Builtin.firstCells, hnc, storeCells]
  | some ad =>
    have hcells : ∀ j u, news[j]? = some u → W.cell? (ad.add j) = some u := by
      intro j u hu
      by_cases h0 : 0 < m
      · obtain ⟨ad', h, hc⟩ := hs.2 h0
        cases h
        exact hc j u hu
      · have hm : m = 0 := by omega
        subst hm
        have hn : news = [] := List.eq_nil_of_length_eq_zero (by simpa using hs.1)
        subst hn
        simp at hu
    obtain ⟨v', w', hrun, h2, h3, _, h5⟩ := run_append_own_at (P := P) W base t ty e i z size bytes ht hi hz hsize hby hzs hsz v n xs hown ad m c news hs.1 hcells h1 h63 hbytes hbase
    exact ⟨v', w', hrun, h2, h3, h5⟩
/-- append at an operation. -/
theorem wp_row_append {o : Oper} {a : Act} {K : Act → World → Prop} {Q : Exit → Act → World → Prop} (s x : Operand) (t : TypeId)
    (ho : o.op = .call { callee := .builtin .append, args := #[s, x], argTypes := #[t, t] }) (A B : List Ent)
    {e : TypeId} {i : TypeInfo} {z : Value} {size bytes : Nat} (ht : P.underlying t = some (.slice e)) (hi : P.info? e = some i) (hz : i.zero = some z)
    (hsize : i.size = size) (hby : i.bytes = bytes) (hzs : z.cells.size = size) (hsz : 0 < size) {ra : Option Addr} {n cap : Nat} {xs : List Value} (hR : Row R e size ra n cap xs) (hS : Sts w0 (A ++ (R ++ B)) W)
    (hs : a.eval s = .slice ra n cap) {sa : Option Addr} {m c : Nat} {news : List Value} (hx : a.eval x = .slice sa m c) (hsrc : Src W sa m size news) (h1 : ∀ u ∈ news, u.oneCell' = true)
    (h63 : n + m ≤ 1000000) (hby2 : bytes ≤ 1000)
    (h : ∀ R' a' cap' w', Row R' e size a' (n + m) cap' (xs ++ news) → Sts w0 (A ++ (R' ++ B)) w' → K (a.put o.dst (.slice a' (n + m) cap')) w') : o.wp P a W K Q := by
  have hb : (n + m) * bytes ≤ 1000000 * 1000 := Nat.mul_le_mul h63 hby2
  obtain ⟨v', w', hrun, h2, h3, h4⟩ := run_append_src (P := P) w0.heap.size t o.type e i z size bytes ht hi hz hsize hby hzs hsz _ n xs (hR.owns A B hS) sa m c news hsrc h1 (by unfold maxLen; omega) (by omega) hS.size
  obtain ⟨R', a', cap', rfl, hR', hS'⟩ := hR.grow A B hS h2 h3 h4
  unfold Oper.wp execOp
  simp only [ho, resolve, invoke, builtin, Sem.run_bind, Sem.run_pure, Result.andThen_ok, List.map_toArray, List.map_cons, List.map_nil, hs, hx, hrun]
  exact h R' a' cap' w' hR' hS'
/-- .. at a list of operations. -/
theorem row_append {ops : Array Oper} {rest : List Oper} {o : Oper} {a : Act} {Q : Exit → Act → World → Prop} (hgd : o.guard = none) (s x : Operand) (t : TypeId)
    (ho : o.op = .call { callee := .builtin .append, args := #[s, x], argTypes := #[t, t] }) (A B : List Ent)
    {e : TypeId} {i : TypeInfo} {z : Value} {size bytes : Nat} (ht : P.underlying t = some (.slice e)) (hi : P.info? e = some i) (hz : i.zero = some z)
    (hsize : i.size = size) (hby : i.bytes = bytes) (hzs : z.cells.size = size) (hsz : 0 < size) {ra : Option Addr} {n cap : Nat} {xs : List Value} (hR : Row R e size ra n cap xs) (hS : Sts w0 (A ++ (R ++ B)) W)
    (hs : a.eval s = .slice ra n cap) {sa : Option Addr} {m c : Nat} {news : List Value} (hx : a.eval x = .slice sa m c) (hsrc : Src W sa m size news) (h1 : ∀ u ∈ news, u.oneCell' = true)
    (h63 : n + m ≤ 1000000) (hby2 : bytes ≤ 1000)
    (h : ∀ R' a' cap' w', Row R' e size a' (n + m) cap' (xs ++ news) → Sts w0 (A ++ (R' ++ B)) w' → wpList P ops Q rest (a.put o.dst (.slice a' (n + m) cap')) w') : wpList P ops Q (o :: rest) a W :=
  wpList_plain hgd fun _ hK => wp_row_append s x t ho A B ht hi hz hsize hby hzs hsz hR hS hs hx hsrc h1 h63 hby2 fun R' a' cap' w' h2 h3 => hK _ _ (h R' a' cap' w' h2 h3)
/-- .. at a step of a region that draws its order. -/
theorem step_row_append {ops : Array Oper} {o : Oper} {a : Act} {K : Act → World → Prop} {Q : Exit → Act → World → Prop} {E : Prop} (hgd : o.guard = none) (s x : Operand) (t : TypeId)
    (ho : o.op = .call { callee := .builtin .append, args := #[s, x], argTypes := #[t, t] }) (A B : List Ent)
    {e : TypeId} {i : TypeInfo} {z : Value} {size bytes : Nat} (ht : P.underlying t = some (.slice e)) (hi : P.info? e = some i) (hz : i.zero = some z)
    (hsize : i.size = size) (hby : i.bytes = bytes) (hzs : z.cells.size = size) (hsz : 0 < size) {ra : Option Addr} {n cap : Nat} {xs : List Value} (hR : Row R e size ra n cap xs) (hS : Sts w0 (A ++ (R ++ B)) W)
    (hs : a.eval s = .slice ra n cap) {sa : Option Addr} {m c : Nat} {news : List Value} (hx : a.eval x = .slice sa m c) (hsrc : Src W sa m size news) (h1 : ∀ u ∈ news, u.oneCell' = true)
    (h63 : n + m ≤ 1000000) (hby2 : bytes ≤ 1000)
    (h : ∀ R' a' cap' w', Row R' e size a' (n + m) cap' (xs ++ news) → Sts w0 (A ++ (R' ++ B)) w' → K (a.put o.dst (.slice a' (n + m) cap')) w') : if Region.wanted o (yielded ops a.tmps) = true then Oper.wp P o a W K Q else E := by
  have hw : Region.wanted o (yielded ops a.tmps) = true := by simp [Region.wanted, hgd]
  rw [if_pos hw]
  exact wp_row_append s x t ho A B ht hi hz hsize hby hzs hsz hR hS hs hx hsrc h1 h63 hby2 h
end
theorem flat_get {α : Type} (f : α → List Value) (s : Nat) (hf : ∀ z, (f z).length = s) : ∀ (zs : List α) (i j : Nat) (z : α), zs[i]? = some z → j < s → (zs.flatMap f)[i * s + j]? = (f z)[j]? := by
  intro zs
  induction zs with
  | nil => intro i j z h; simp at h
  | cons y zs ih =>
    intro i j z h hj
    rw [List.flatMap_cons]
    cases i with
    | zero =>
      obtain rfl : y = z := by simpa using h
      rw [Nat.zero_mul, Nat.zero_add, List.getElem?_append_left (by rw [hf]; exact hj)]
    | succ i =>
      have h2 : zs[i]? = some z := by simpa using h
      rw [List.getElem?_append_right (by rw [hf, Nat.add_mul]; omega), hf, ← ih i j z h2 hj]
      congr 1
      rw [Nat.add_mul]; omega
theorem flat_length {α : Type} (f : α → List Value) (s : Nat) (hf : ∀ z, (f z).length = s) : ∀ (zs : List α), (zs.flatMap f).length = zs.length * s := by
  intro zs
  induction zs with
  | nil => simp
  | cons y zs ih => rw [List.flatMap_cons, List.length_append, hf, ih, List.length_cons, Nat.add_mul]; omega
theorem flat_take {α : Type} (f : α → List Value) (s : Nat) (hf : ∀ z, (f z).length = s) : ∀ (zs : List α) (k : Nat), (zs.flatMap f).take (k * s) = (zs.take k).flatMap f := by
  intro zs
  induction zs with
  | nil => simp
  | cons y zs ih =>
    intro k
    cases k with
    | zero => simp
    | succ k => rw [List.flatMap_cons, List.take_append, List.take_of_length_le (by rw [hf, Nat.add_mul]; omega), hf, List.take_succ_cons, List.flatMap_cons, ← ih k]; congr 2; rw [Nat.add_mul]; omega
theorem flat_drop {α : Type} (f : α → List Value) (s : Nat) (hf : ∀ z, (f z).length = s) : ∀ (zs : List α) (k : Nat), (zs.flatMap f).drop (k * s) = (zs.drop k).flatMap f := by
  intro zs
  induction zs with
  | nil => simp
  | cons y zs ih =>
    intro k
    cases k with
    | zero => simp
    | succ k => rw [List.flatMap_cons, List.drop_append, List.drop_of_length_le (by rw [hf, Nat.add_mul]; omega), hf, List.drop_succ_cons, ← ih k, List.nil_append]; congr 1; rw [Nat.add_mul]; omega
end Go.Proofs.Ytllbpjaiplnbnaa

import Derived.Below
import Derived.Deep.Draws
import Derived.Deep.AppendLies
import Derived.Maps.AppendAt
import Derived.OwnWalk
import Derived.Laws.BytesArg
import Derived.Laws.MakeOwn
import Derived.Laws.OwnMore
import Derived.Deep.OwnRows
import Derived.Tactics
import Derived.Lib.ConvBytes
import Derived.Laws.Slices
import Derived.WalkKit
import Derived.KernelRfl
import Derived.RowKit3
import Derived.Deep.LoopGhost
import Derived.Deep.QuietTactic
import Derived.BigQuiet
import Derived.WideLaws
import Derived.Deep.DeepCutAuto
import Derived.Deep.CutBlock
import Derived.Deep.RegionHeld3
import Derived.Laws.Rows
import Derived.Lib.AppendStr
import Derived.ArgAppend
import Derived.Laws.IdiomCopy
import Derived.OrdersHeld
import Derived.Laws.BitsLemmas
import Derived.RowKit
import Derived.Lib.Hide
namespace Go.Proofs.Ytllbpjaiplnbnaa
open Go.RowKit
set_option linter.unusedVariables false
set_option linter.unusedSimpArgs false

/-! ### Whole blocks -/
/-- Block g holds these cells, of this element type. -/
def Blk (w : World) (g : Nat) (cs : Array Value) (t : TypeId) : Prop := w.heap[g]? = some (.cells cs t (0, 0))
/-- Of what was there only block g may have turned. -/
structure But (g : Nat) (w w' : World) : Prop where
  os : w'.os = w.os
  tape : w'.tape = w.tape
  output : w'.output = w.output
  size : w.heap.size ≤ w'.heap.size
  block : ∀ k, k < w.heap.size → k ≠ g → w'.heap[k]? = w.heap[k]?

theorem Blk.cell {w : World} {g : Nat} {cs : Array Value} {t : TypeId} (h : Blk w g cs t) (i : Nat) : w.cell? ⟨g, i, none⟩ = cs[i]? := by
  unfold Blk at h; simp [World.cell?, h]
theorem Blk.frozen {w : World} {g : Nat} {cs : Array Value} {t : TypeId} (h : Blk w g cs t) (i : Nat) : w.frozen? ⟨g, i, none⟩ = false := by
  unfold Blk at h; simp [World.frozen?, h]
theorem Blk.lt {w : World} {g : Nat} {cs : Array Value} {t : TypeId} (h : Blk w g cs t) : g < w.heap.size := (Array.getElem?_eq_some_iff.1 h).1
theorem Blk.below {w w' : World} {g : Nat} {cs : Array Value} {t : TypeId} (h : Blk w g cs t) (k : Below w.heap.size w w') : Blk w' g cs t := (k.block g h.lt).trans h
theorem Blk.but {w w' : World} {g g' : Nat} {cs : Array Value} {t : TypeId} (h : Blk w g cs t) (k : But g' w w') (hne : g ≠ g') : Blk w' g cs t := (k.block g h.lt hne).trans h
theorem Blk.alloc {w : World} {g : Nat} {cs : Array Value} {t : TypeId} (h : Blk w g cs t) (o : Obj) : Blk (w.alloc o) g cs t := (Below.heap_alloc w o g h.lt).trans h
theorem Blk.drewN {w : World} {g : Nat} {cs : Array Value} {t : TypeId} (h : Blk w g cs t) (n : Nat) : Blk (w.drewN n) g cs t := h
theorem Blk.drew {w : World} {g : Nat} {cs : Array Value} {t : TypeId} (h : Blk w g cs t) : Blk w.drew g cs t := h
theorem Blk.far {w : World} {g : Nat} {cs : Array Value} {t : TypeId} (h : Blk w g cs t) {p : Addr} (hne : g ≠ p.block) (u : Value) : Blk (w.setCell p u) g cs t := (Below.heap_setCell w p u g hne).trans h
theorem Blk.set {w : World} {g : Nat} {cs : Array Value} {t : TypeId} (h : Blk w g cs t) (i : Nat) (u : Value) : Blk (w.setCell ⟨g, i, none⟩ u) g (cs.setIfInBounds i u) t := by
  unfold Blk at h ⊢
  simp [World.setCell, Array.getElem?_modify, h]
theorem Blk.new (w : World) (cs : Array Value) (t : TypeId) : Blk (w.alloc (.cells cs t)) w.heap.size cs t := by
  unfold Blk; show (w.heap.push _)[w.heap.size]? = _; simp

theorem Blk.newAt {w : World} {g : Nat} (h : g = w.heap.size) (cs : Array Value) (t : TypeId) : Blk (w.alloc (.cells cs t)) g cs t := by subst h; exact Blk.new w cs t
theorem Blk.lit {w : World} {g : Nat} {cs cs' : Array Value} {t : TypeId} (h : Blk w g cs t) (e : cs = cs') : Blk w g cs' t := e ▸ h

theorem But.refl (g : Nat) (w : World) : But g w w := ⟨rfl, rfl, rfl, Nat.le_refl _, fun _ _ _ => rfl⟩
theorem But.trans {g : Nat} {a b c : World} (h : But g a b) (k : But g b c) : But g a c :=
  ⟨k.os.trans h.os, k.tape.trans h.tape, k.output.trans h.output, Nat.le_trans h.size k.size, fun i hi hne => (k.block i (Nat.lt_of_lt_of_le hi h.size) hne).trans (h.block i hi hne)⟩
theorem But.of_below {g : Nat} {a b : World} (h : Below a.heap.size a b) : But g a b := ⟨h.os, h.tape, h.output, h.size, fun k hk _ => h.block k hk⟩
/-- A block that is new to a may turn too. -/
theorem But.trans_new {g g' : Nat} {a b c : World} (h : But g a b) (k : But g' b c) (hg : a.heap.size ≤ g' ∨ g' = g) : But g a c :=
  ⟨k.os.trans h.os, k.tape.trans h.tape, k.output.trans h.output, Nat.le_trans h.size k.size, fun i hi hne => (k.block i (Nat.lt_of_lt_of_le hi h.size) (by rcases hg with hg | hg <;> omega)).trans (h.block i hi hne)⟩
theorem But.alloc {g : Nat} {a b : World} (h : But g a b) (o : Obj) : But g a (b.alloc o) := h.trans (But.of_below ((Below.refl _ _).alloc (Nat.le_refl _) o))
theorem But.drewN {g : Nat} {a b : World} (h : But g a b) (n : Nat) : But g a (b.drewN n) := ⟨h.os, h.tape, h.output, h.size, h.block⟩
theorem But.drew {g : Nat} {a b : World} (h : But g a b) : But g a b.drew := ⟨h.os, h.tape, h.output, h.size, h.block⟩
theorem But.set {g : Nat} {a b : World} (h : But g a b) (i : Nat) (u : Value) : But g a (b.setCell ⟨g, i, none⟩ u) :=
  h.trans ⟨rfl, rfl, rfl, by simp [World.setCell], fun k _ hne => Below.heap_setCell b _ u k hne⟩
theorem But.set_new {g : Nat} {a b : World} (h : But g a b) {p : Addr} (hp : a.heap.size ≤ p.block) (u : Value) : But g a (b.setCell p u) :=
  h.trans_new (g' := p.block) ⟨rfl, rfl, rfl, by simp [World.setCell], fun k _ hne => Below.heap_setCell b _ u k hne⟩ (.inl hp)
theorem bel_but {B g : Nat} {a b c : World} (h : Below B a b) (k : But g b c) (hB : B ≤ b.heap.size) (hg : B ≤ g) : Below B a c :=
  h.trans ⟨k.os, k.tape, k.output, k.size, fun i hi => k.block i (Nat.lt_of_lt_of_le hi hB) (by omega)⟩
theorem But.below {g : Nat} {a b : World} (h : But g a b) (hg : a.heap.size ≤ g) : Below a.heap.size a b := ⟨h.os, h.tape, h.output, h.size, fun i hi => h.block i hi (by omega)⟩
theorem bel_then {B : Nat} {a b c : World} (h : Below B a b) (k : Below b.heap.size b c) (hB : B ≤ b.heap.size) : Below B a c := h.trans (k.mono hB)
theorem bel_drewN {B : Nat} {a b : World} (h : Below B a b) (n : Nat) : Below B a (b.drewN n) := ⟨h.os, h.tape, h.output, h.size, h.block⟩
theorem bel_alloc {a b : World} (h : Below a.heap.size a b) (o : Obj) : Below a.heap.size a (b.alloc o) := h.alloc h.size o
theorem bel_set {B : Nat} {a b : World} (h : Below B a b) (g i : Nat) (hg : B ≤ g) (u : Value) : Below B a (b.setCell ⟨g, i, none⟩ u) := h.setCell (p := ⟨g, i, none⟩) hg u


/-! ### The blocks that a walk keeps an eye on -/
/-- W is a later world of w0; what lay there before is as it was; the call's own blocks of L are apart from each other, and hold what L says. -/
structure Sts (w0 : World) (L : List (Nat × Array Value × TypeId)) (W : World) : Prop where
  blk : ∀ {k : Nat} {e : Nat × Array Value × TypeId}, L[k]? = some e → Blk W e.1 e.2.1 e.2.2
  new : ∀ {k : Nat} {e : Nat × Array Value × TypeId}, L[k]? = some e → w0.heap.size ≤ e.1
  ne : ∀ {k k' : Nat} {e e' : Nat × Array Value × TypeId}, L[k]? = some e → L[k']? = some e' → k ≠ k' → e.1 ≠ e'.1
  bel : Below w0.heap.size w0 W
section
variable {w0 W W1 : World} {L : List (Nat × Array Value × TypeId)} {g : Nat} {cs cs' : Array Value} {t t' : TypeId}
theorem Sts.nil (w0 : World) : Sts w0 [] w0 := ⟨by simp, by simp, by simp, Below.refl _ _⟩
theorem Sts.at_ (h : Sts w0 L W) (k : Nat) (hk : L[k]? = some (g, cs, t)) : Blk W g cs t := h.blk hk
theorem Sts.ge (h : Sts w0 L W) (k : Nat) (hk : L[k]? = some (g, cs, t)) : w0.heap.size ≤ g := h.new hk
theorem Sts.lt (h : Sts w0 L W) (k : Nat) (hk : L[k]? = some (g, cs, t)) : g < W.heap.size := (h.at_ k hk).lt
theorem Sts.cell (h : Sts w0 L W) (k i : Nat) {v : Value} (hk : L[k]? = some (g, cs, t)) (hv : cs[i]? = some v) : W.cell? ⟨g, i, none⟩ = some v := ((h.at_ k hk).cell i).trans hv
theorem Sts.frozen (h : Sts w0 L W) (k i : Nat) (hk : L[k]? = some (g, cs, t)) : W.frozen? ⟨g, i, none⟩ = false := (h.at_ k hk).frozen i
theorem Sts.size (h : Sts w0 L W) : w0.heap.size ≤ W.heap.size := h.bel.size
theorem Sts.below (h : Sts w0 L W) (hb : Below W.heap.size W W1) : Sts w0 L W1 :=
  ⟨fun hk => (h.blk hk).below hb, h.new, h.ne, bel_then h.bel hb h.bel.size⟩
theorem Sts.skip (h : Sts w0 L W) (o : Obj) : Sts w0 L (W.alloc o) := h.below (bel_alloc (Below.refl _ _) o)
theorem Sts.drewN (h : Sts w0 L W) (n : Nat) : Sts w0 L (W.drewN n) := h.below (bel_drewN (Below.refl _ _) n)
theorem Sts.drew (h : Sts w0 L W) : Sts w0 L W.drew := h.below (Below.refl _ _).drew
theorem Sts.add (h : Sts w0 L W) (hg : g = W.heap.size) (cs : Array Value) (t : TypeId) : Sts w0 (L ++ [(g, cs, t)]) (W.alloc (.cells cs t)) := by
  subst hg
  have hlt : ∀ {k : Nat} {e : Nat × Array Value × TypeId}, L[k]? = some e → e.1 < W.heap.size := fun hk => (h.blk hk).lt
  have hcase : ∀ {k : Nat} {e : Nat × Array Value × TypeId}, (L ++ [(W.heap.size, cs, t)])[k]? = some e → L[k]? = some e ∨ (k = L.length ∧ e = (W.heap.size, cs, t)) := by
    intro k e hk
    rw [List.getElem?_append] at hk
    split at hk
    · exact .inl hk
    · right
      have h1 : k - L.length = 0 := by
        by_cases h0 : k - L.length = 0
        · exact h0
        · rw [List.getElem?_eq_none (by simp; omega)] at hk; cases hk
      rw [h1] at hk
      simp at hk
      exact ⟨by omega, hk.symm⟩
  refine ⟨fun hk => ?_, fun hk => ?_, fun hk hk' hne => ?_, bel_alloc h.bel _⟩
  · rcases hcase hk with hk | ⟨_, rfl⟩
    · exact (h.blk hk).alloc _
    · exact Blk.new _ _ _
  · rcases hcase hk with hk | ⟨_, rfl⟩
    · exact h.new hk
    · exact h.bel.size
  · rcases hcase hk with hk | ⟨e1, rfl⟩ <;> rcases hcase hk' with hk' | ⟨e2, rfl⟩
    · exact h.ne hk hk' hne
    · have := hlt hk; simp; omega
    · have := hlt hk'; simp; omega
    · omega
theorem Sts.upd (h : Sts w0 L W) (k : Nat) (hk : L[k]? = some (g, cs, t)) (hb : Blk W1 g cs' t') (hB : But g W W1) : Sts w0 (L.set k (g, cs', t')) W1 := by
  have hcase : ∀ {j : Nat} {e : Nat × Array Value × TypeId}, (L.set k (g, cs', t'))[j]? = some e → (j = k ∧ e = (g, cs', t')) ∨ (j ≠ k ∧ L[j]? = some e) := by
    intro j e hj
    by_cases hjk : j = k
    · subst hjk
      rw [List.getElem?_set_self (List.getElem?_eq_some_iff.1 hk).1] at hj
      exact .inl ⟨rfl, (Option.some.inj hj).symm⟩
    · rw [List.getElem?_set_ne (Ne.symm hjk)] at hj
      exact .inr ⟨hjk, hj⟩
  refine ⟨fun hj => ?_, fun hj => ?_, fun hj hj' hne => ?_, bel_but h.bel hB h.bel.size (h.new hk)⟩
  · rcases hcase hj with ⟨_, rfl⟩ | ⟨hjk, hj⟩
    · exact hb
    · exact (h.blk hj).but hB (h.ne hj hk hjk)
  · rcases hcase hj with ⟨_, rfl⟩ | ⟨_, hj⟩
    · exact h.ge k hk
    · exact h.new hj
  · rcases hcase hj with ⟨h1, rfl⟩ | ⟨h1, hj⟩ <;> rcases hcase hj' with ⟨h2, rfl⟩ | ⟨h2, hj'⟩
    · omega
    · have e1 : (g, cs', t').1 = (g, cs, t).1 := rfl
      rw [e1]; exact h.ne hk hj' (Ne.symm h2)
    · have e1 : (g, cs', t').1 = (g, cs, t).1 := rfl
      rw [e1]; exact h.ne hj hk h1
    · exact h.ne hj hj' hne
theorem Sts.set (h : Sts w0 L W) (k i : Nat) (u : Value) (hk : L[k]? = some (g, cs, t)) : Sts w0 (L.set k (g, cs.setIfInBounds i u, t)) (W.setCell ⟨g, i, none⟩ u) :=
  h.upd k hk ((h.at_ k hk).set i u) ((But.refl _ _).set i u)
theorem Sts.lit {L' : List (Nat × Array Value × TypeId)} (h : Sts w0 L W) (e : L = L') : Sts w0 L' W := e ▸ h
/-- What lay there before reads as it did. -/
theorem Sts.old (h : Sts w0 L W) {a : Addr} {v : Value} (hv : w0.cell? a = some v) : W.cell? a = some v := (h.bel.cell (World.block_lt_of_cell? w0 a hv)).trans hv
/-- The last entry is forgotten. -/
theorem Sts.take (h : Sts w0 L W) (n : Nat) : Sts w0 (L.take n) W := by
  have hc : ∀ {k : Nat} {e : Nat × Array Value × TypeId}, (L.take n)[k]? = some e → L[k]? = some e := by
    intro k e hk
    rw [List.getElem?_take] at hk
    split at hk
    · exact hk
    · cases hk
  exact ⟨fun hk => h.blk (hc hk), fun hk => h.new (hc hk), fun hk hk' hne => h.ne (hc hk) (hc hk') hne, h.bel⟩
end

/-! ### What came in -/
theorem wf_bounds {n : Int} (h : (Lit.int .i64 n).wf = true) : -9223372036854775808 ≤ n ∧ n ≤ 9223372036854775807 := by
  simp [Lit.wf, IntKind.min, IntKind.max, IntKind.signed, IntKind.bits] at h
  omega
theorem wf_u8 {n : Int} (h : (Lit.int .u8 n).wf = true) : 0 ≤ n ∧ n ≤ 255 := by
  simp [Lit.wf, IntKind.min, IntKind.max, IntKind.signed, IntKind.bits] at h
  omega
/-- A list of numbers reads as zs. -/
structure Ints (w : World) (a : Option Addr) (len : Nat) (zs : List Int) : Prop where
  length : zs.length = len
  most : len ≤ 9223372036854775807
  at_ : ∀ i, i < len → ∃ ad : Addr, a = some ad ∧ w.cell? (ad.add i) = some (.int .i64 (zs.getD i 0))
  bd : ∀ x ∈ zs, -9223372036854775808 ≤ x ∧ x ≤ 9223372036854775807
theorem Ints.nil (w : World) : Ints w none 0 [] := ⟨rfl, by omega, fun i h => by omega, fun x h => by simp at h⟩
theorem Ints.mk_ {w : World} (a : Addr) {len cap : Nat} {zs : List Int} (hl : len ≤ cap) (hz : zs.length = cap) (hm : cap ≤ 9223372036854775807) (hc : ∀ i, i < zs.length → w.cell? (a.add i) = some (.int .i64 (zs.getD i 0))) (hw : ∀ n ∈ zs, (Lit.int .i64 n).wf = true) : Ints w (some a) len (zs.take len) := by
  refine ⟨by simp; omega, by omega, fun i h => ⟨a, rfl, ?_⟩, fun x hx => wf_bounds (hw x (List.mem_of_mem_take hx))⟩
  rw [hc i (by omega)]
  congr 2
  simp [List.getD_eq_getElem?_getD, List.getElem?_take, h]

/-- A list of pairs of numbers reads as zs. -/
structure Pairs (w : World) (a : Option Addr) (len : Nat) (zs : List (Int × Int)) : Prop where
  length : zs.length = len
  most : len ≤ 9223372036854775807
  at_ : ∀ i, i < len → ∃ ad : Addr, a = some ad ∧ w.cell? (ad.add (i * 2)) = some (.int .i64 (zs.getD i (0, 0)).1) ∧ w.cell? ⟨(ad.add (i * 2)).block, (ad.add (i * 2)).off + 1, none⟩ = some (.int .i64 (zs.getD i (0, 0)).2)
  bd : ∀ x ∈ zs, (-9223372036854775808 ≤ x.1 ∧ x.1 ≤ 9223372036854775807) ∧ -9223372036854775808 ≤ x.2 ∧ x.2 ≤ 9223372036854775807
theorem Pairs.nil (w : World) : Pairs w none 0 [] := ⟨rfl, by omega, fun i h => by omega, fun x h => by simp at h⟩
theorem getD_mem {α : Type} {l : List α} {i : Nat} {d : α} (h : i < l.length) : l.getD i d ∈ l := by
  rw [List.getD_eq_getElem?_getD, List.getElem?_eq_getElem h]; simp

/-! ### 'max' and 'min' of whole numbers -/
theorem bmax2 (k k' : IntKind) (x y : Int) : Builtin.max2 (.int k x) (.int k' y) = pure (.int k (max x y)) := by
  simp only [Builtin.max2, gt_iff_lt]
  congr 2
  split <;> omega
theorem bmin2 (k k' : IntKind) (x y : Int) : Builtin.min2 (.int k x) (.int k' y) = pure (.int k (min x y)) := by
  simp only [Builtin.min2]
  congr 2
  split <;> omega
theorem bmax_two (ats : Array TypeId) (ty : TypeId) (a b : Value) : Builtin.max_ ats ty #[a, b] = (Builtin.max2 a b >>= fun s => pure s) := by simp only [Builtin.max_, List.foldlM_cons, List.foldlM_nil]
theorem bmin_two (ats : Array TypeId) (ty : TypeId) (a b : Value) : Builtin.min_ ats ty #[a, b] = (Builtin.min2 a b >>= fun s => pure s) := by simp only [Builtin.min_, List.foldlM_cons, List.foldlM_nil]
theorem bmax_three (ats : Array TypeId) (ty : TypeId) (a b c : Value) : Builtin.max_ ats ty #[a, b, c] = (Builtin.max2 a b >>= fun s => Builtin.max2 s c >>= fun s => pure s) := by simp only [Builtin.max_, List.foldlM_cons, List.foldlM_nil]
theorem bmin_three (ats : Array TypeId) (ty : TypeId) (a b c : Value) : Builtin.min_ ats ty #[a, b, c] = (Builtin.min2 a b >>= fun s => Builtin.min2 s c >>= fun s => pure s) := by simp only [Builtin.min_, List.foldlM_cons, List.foldlM_nil]

/-! ### A region of open order whose operations only read, and whose calls leave what is kept an eye on as it is -/
structure Later (w0 : World) (L : List (Nat × Array Value × TypeId)) where
  val : World
  property : Sts w0 L val
theorem wp_region_sts {P : Program} {id : Nat} {Q : Exit → Act → World → Prop} {a : Act} {w w0 : World} {l : List Oper} {L : List (Nat × Array Value × TypeId)} (hS : Sts w0 L w) (hm : P.follows .mixedOrders = true) (hB : Region.lexB .any l.toArray = true)
    (h : wpQuiet P l.toArray (fun w' => ∃ p : Later w0 L, w' = p.val) (fun a' => ∀ w', (∃ p : Later w0 L, w' = p.val) → Q .normal a' w') l a) : (Code.region id l.toArray true).wp P Q a w :=
  wp_region_quiet (C := fun w' => ∃ p : Later w0 L, w' = p.val) hm hB ⟨⟨_, hS.drew⟩, rfl⟩ (by simpa using h)
/-- What the call hands back, and what the blocks are then. -/
def Goes (v : Value) (w0 : World) (L : List (Nat × Array Value × TypeId)) (e : Ending) (w' : World) : Prop := e = .returned v ∧ Sts w0 L w'
theorem Goes.quiet {P : Program} {f : FuncId} {args : Array Value} {w0 : World} {L : List (Nat × Array Value × TypeId)} {p : Later w0 L} {v : Value} (h : Calls P f args p.val (Goes v w0 L)) :
    Calls P f args p.val (fun e w'' => e = .returned v ∧ ∃ q : Later w0 L, w'' = q.val) := h.mono fun _ w ⟨he, hs⟩ => ⟨he, ⟨w, hs⟩, rfl⟩

end Go.Proofs.Ytllbpjaiplnbnaa

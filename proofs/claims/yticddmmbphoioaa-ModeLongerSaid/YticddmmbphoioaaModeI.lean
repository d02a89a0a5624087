import Derived.Test.YticddmmbphoioaaModeH
import Derived.Test.YticddmmbphoioaaSeg
import Derived.Sort.BigQuietIn
namespace Go.Proofs.Yticddmmbphoioaa
open Go.RowKit
set_option linter.unusedVariables false
set_option linter.unusedSimpArgs false
/-! ### Deal of numbers: what it comes to -/
def z18 : Array Value := #[.int .i64 0, .int .i64 0, .int .i64 0, .slice none 0 0, .slice none 0 0, .int .i64 0, .int .i64 0, .int .i64 0, .int .i64 0, .int .i64 0, .int .i64 0, .int .i64 0, .int .i64 0, .int .i64 0, .int .i64 0, .slice none 0 0, .slice none 0 0, .slice none 0 0]
/-- The deal's cells ahead of the tests. -/
def Kd.d0 (k : Kd) : Array Value := #[.int .i64 (within k.n0 1990 2040), .int .i64 (within k.n1 1 12), .int .i64 (within k.n2 0 2), .slice none 0 0, .slice none 0 0, .int .i64 (within k.n3 0 200), .int .i64 (within k.n4 0 5000), .int .i64 (within k.n5 0 500), .int .i64 (within k.n6 0 3000), .int .i64 (within k.n7 0 3),
  .int .i64 0, .int .i64 0, .int .i64 0, .int .i64 0, .int .i64 0, .slice none 0 0, .slice none 0 0, .slice none 0 0]
theorem ds_setL (k : Kd) (L N S0 S1 S2 L' : Sl) : (k.ds L N S0 S1 S2).setIfInBounds 3 L'.v = k.ds L' N S0 S1 S2 := rfl
theorem ds_setN (k : Kd) (L N S0 S1 S2 L' : Sl) : (k.ds L N S0 S1 S2).setIfInBounds 4 L'.v = k.ds L L' S0 S1 S2 := rfl
theorem ds_set0 (k : Kd) (L N S0 S1 S2 L' : Sl) : (k.ds L N S0 S1 S2).setIfInBounds 15 L'.v = k.ds L N L' S1 S2 := rfl
theorem ds_set1 (k : Kd) (L N S0 S1 S2 L' : Sl) : (k.ds L N S0 S1 S2).setIfInBounds 16 L'.v = k.ds L N S0 L' S2 := rfl
theorem ds_set2 (k : Kd) (L N S0 S1 S2 L' : Sl) : (k.ds L N S0 S1 S2).setIfInBounds 17 L'.v = k.ds L N S0 S1 L' := rfl
theorem Ints.after {w W : World} {L : List Ent} {a : Option Addr} {n : Nat} {zs : List Int} (h : Ints w a n zs) (hS : Sts w L W) : Ints W a n zs :=
  ⟨h.length, h.most, fun i hi => by obtain ⟨ad, e, c⟩ := h.at_ i hi; exact ⟨ad, e, hS.old c⟩, h.bd⟩
theorem within_q {w0 : World} {L : List Ent} (x : Int) (p : Later w0 L) {lo hi : Int} (h0 : -1000000000000000000 ≤ lo) (h1 : lo ≤ hi) (h2 : hi ≤ 1000000000000000000) :
    Calls Try.prog 13 #[.int .i64 x, .int .i64 lo, .int .i64 hi] p.val (fun e w'' => e = .returned (.int .i64 (within x lo hi)) ∧ ∃ q : Later w0 L, w'' = q.val) :=
  (within_calls x lo hi _ (by omega) (by omega) (by omega)).mono fun e w' h => ⟨h.1, p, h.2.symm⟩
/-- The pool. -/
def poolF (l : List (Int × Int)) : Int := (l.map (·.2)).sum
theorem poolF_next {l : List (Int × Int)} {k : Nat} {e : Int × Int} (h : l[k]? = some e) : poolF (l.take (k + 1)) = poolF (l.take k) + e.2 := by
  unfold poolF; rw [take_next' h, List.map_append, List.sum_append]; simp
def loansX (zs : List Int) (m : Nat) : List (Int × Int) := loansF zs m ++ [(99, 50000)]
theorem loansX_length (zs : List Int) (m : Nat) : (loansX zs m).length = m + 1 := by unfold loansX loansF; simp
theorem loansX_bd (zs : List Int) (m : Nat) : ∀ e ∈ loansX zs m, 0 ≤ e.2 ∧ e.2 ≤ 100000 := by
  intro e he
  unfold loansX loansF at he
  rcases List.mem_append.1 he with h | h
  · obtain ⟨i, _, rfl⟩ := List.mem_map.1 h
    exact within_bd _ (by omega)
  · obtain rfl : e = (99, 50000) := by simpa using h
    simp
/-- The notes. -/
def tc (e : Int × Int × Int) : List Value := [.int .i64 e.1, .int .i64 e.2.1, .int .i64 e.2.2]
theorem tc_length (e : Int × Int × Int) : (tc e).length = 3 := rfl
def tcs (l : List (Int × Int × Int)) : List Value := l.flatMap tc
theorem tcs_app (a b : List (Int × Int × Int)) : tcs (a ++ b) = tcs a ++ tcs b := by unfold tcs; rw [List.flatMap_append]
theorem tcs_one (l : List (Int × Int × Int)) : ∀ u ∈ tcs l, u.oneCell' = true := by
  intro u hu
  obtain ⟨r, _, hu⟩ := List.mem_flatMap.1 hu
  unfold tc at hu
  simp only [List.mem_cons, List.not_mem_nil, or_false] at hu
  rcases hu with rfl | rfl | rfl <;> rfl
def noteK (k : Kd) (pool : Int) (i : Nat) : Int × Int × Int := (within (pickF k.ra.l i) 0 3, 1 + within (pickF k.no.l i) 0 (pool.tdiv 6), within (pickF k.ri.l i) 0 1200)
def notesN (k : Kd) (pool : Int) (n : Nat) : List (Int × Int × Int) := (List.range n).map (noteK k pool)
theorem notesN_next (k : Kd) (pool : Int) (n : Nat) : notesN k pool (n + 1) = notesN k pool n ++ [noteK k pool n] := by unfold notesN; rw [List.range_succ, List.map_append]; rfl
/-- The steps of a mode. -/
def stepK (z : Int) : Int × Int := (within z 1 7, if within z 1 7 = 3 then within (z.tdiv 7) 0 3 else 0)
def addK (l : List (Int × Int)) (s : Int × Int) : List (Int × Int) := if s ∈ l then l else l ++ [s]
def foldK (zs : List Int) (n : Nat) : List (Int × Int) := (zs.take n).foldl (fun l z => addK l (stepK z)) []
theorem foldK_next {zs : List Int} {n : Nat} {z : Int} (h : zs[n]? = some z) : foldK zs (n + 1) = addK (foldK zs n) (stepK z) := by
  unfold foldK; rw [take_next' h, List.foldl_append]; rfl
theorem foldK_len (zs : List Int) (n : Nat) : (foldK zs n).length ≤ n := by
  have h : ∀ (l : List Int) (b : List (Int × Int)), (l.foldl (fun l z => addK l (stepK z)) b).length ≤ b.length + l.length := by
    intro l
    induction l with
    | nil => intro b; simp
    | cons x l ih =>
      intro b
      have := ih (addK b (stepK x))
      have h2 : (addK b (stepK x)).length ≤ b.length + 1 := by unfold addK; split <;> simp
      simp only [List.foldl_cons, List.length_cons]
      omega
  have := h (zs.take n) []
  unfold foldK
  simp only [List.length_nil, List.length_take] at this
  omega
def dflt : List (Int × Int) := [(1, 0), (3, 0), (3, 1), (4, 0), (2, 0), (6, 0)]
def stepsK (zs : List Int) : List (Int × Int) := if (foldK zs 12).length = 0 then dflt else foldK zs 12
theorem stepsK_len (zs : List Int) : 0 < (stepsK zs).length ∧ (stepsK zs).length ≤ 12 := by
  unfold stepsK
  split
  · simp [dflt]
  · have := foldK_len zs 12; omega
theorem terms_info : (Try.prog.info? 78).map (fun i => (i.zero, i.size, i.bytes)) = some (some (.agg #[.int .i64 0, .int .i64 0, .int .i64 0]), 3, 24) := by kernel_rfl
/-- What the walk keeps an eye on. -/
abbrev Heads (k : Kd) (g1 g2 g3 : Nat) (L N S0 S1 S2 : Sl) : List Ent := [(g1, k.cs, 44), (g2, z18, 54), (g3, k.ds L N S0 S1 S2, 54)]
end Go.Proofs.Yticddmmbphoioaa

import Derived.Test.YtefidbfhcpcgjaaRowsIn
import Derived.Deep.DeepMust
namespace Go.Proofs.Ytefidbfhcpcgjaa
open Go.RowKit
set_option linter.unusedVariables false
set_option linter.unusedSimpArgs false
/-! ### A medium -/
structure Med where
  b : List Int
  firm : Nat
  off : Bool
  fuse : Int
  lit : Bool
structure Med.Ok (s : Med) : Prop where
  byt : Byt s.b
  len : s.b.length ≤ 200000
  firm : s.firm ≤ s.b.length
  f0 : -9223372036854775808 ≤ s.fuse
  f1 : s.fuse ≤ 9223372036854775807
  lit : s.lit = true → 0 ≤ s.fuse
def Med.goes (s : Med) : Bool × Med :=
  if s.off then (false, s) else if s.lit then (if s.fuse = 0 then (false, { s with off := true }) else (true, { s with fuse := s.fuse - 1 })) else (true, s)
def Med.append (s : Med) (l : List Int) : Int × Med := if s.goes.1 then (0, { s.goes.2 with b := s.b ++ l }) else (7, s.goes.2)
def Med.flush (s : Med) : Int × Med := if s.goes.1 then (0, { s.goes.2 with firm := s.b.length }) else (7, s.goes.2)
def Med.keep (s : Med) (n : Nat) : Med := { s with b := s.b.take n, firm := n }
def Med.cut (s : Med) (n : Int) : Int × Med := if n < 0 ∨ (s.b.length : Int) < n then (1, s) else if s.goes.1 then (0, s.goes.2.keep n.toNat) else (7, s.goes.2)
def Med.arm (s : Med) (n : Int) : Med := { s with fuse := n, lit := decide (0 ≤ n) }
def Med.boot (s : Med) (k : Int) : Med := { s.keep (s.firm + (max 0 (min k ((s.b.length : Int) - s.firm))).toNat) with off := false, lit := false }
def Med.bytes (s : Med) : List Int := if s.off then [] else s.b
theorem Med.goes_b (s : Med) : s.goes.2.b = s.b ∧ s.goes.2.firm = s.firm := by unfold Med.goes; split <;> (try split) <;> (try split) <;> exact ⟨rfl, rfl⟩
theorem Med.Ok.goes {s : Med} (h : s.Ok) : s.goes.2.Ok := by
  unfold Med.goes
  split
  · exact h
  · split
    · rename_i h1
      have := h.lit h1
      split
      · exact ⟨h.byt, h.len, h.firm, h.f0, h.f1, h.lit⟩
      · exact ⟨h.byt, h.len, h.firm, by show _ ≤ s.fuse - 1; omega, by have := h.f1; show s.fuse - 1 ≤ _; omega, fun _ => by show 0 ≤ s.fuse - 1; omega⟩
    · exact h
def Med.cells (s : Med) (a : Option Addr) (cap : Nat) : Array Value := #[.slice a s.b.length cap, .int .i64 s.firm, .bool s.off, .int .i64 s.fuse, .bool s.lit]
/-- The medium lies in block gm; what else is kept an eye on lies ahead of it and behind it. -/
def MedAt (w0 : World) (A B : List Ent) (gm : Nat) (s : Med) (W : World) : Prop := ∃ R a cap, Row R 5 1 a s.b.length cap (bs s.b) ∧ Sts w0 (A ++ ((gm, s.cells a cap, 66) :: (R ++ B))) W
section
variable {w0 W W' : World} {A B L : List Ent} {g : Nat} {cs : Array Value} {t : TypeId} {s : Med}
theorem MedAt.below (h : MedAt w0 A B g s W) (hb : Below W.heap.size W W') : MedAt w0 A B g s W' := by
  obtain ⟨R, a, cap, h1, h2⟩ := h
  exact ⟨R, a, cap, h1, h2.below hb⟩
theorem MedAt.bel (h : MedAt w0 A B g s W) : Below w0.heap.size w0 W := by
  obtain ⟨R, a, cap, h1, h2⟩ := h
  exact h2.bel
theorem Sts.cellM (h : Sts w0 L W) (hm : (g, cs, t) ∈ L) (i : Nat) {v : Value} (hv : cs[i]? = some v) : W.cell? ⟨g, i, none⟩ = some v := (((sts_iff.1 h).1 _ hm).1.cell i).trans hv
theorem Sts.frozenM (h : Sts w0 L W) (hm : (g, cs, t) ∈ L) (i : Nat) : W.frozen? ⟨g, i, none⟩ = false := ((sts_iff.1 h).1 _ hm).1.frozen i
theorem Sts.setM (h : Sts w0 (A ++ ((g, cs, t) :: B)) W) (i : Nat) (v : Value) : Sts w0 (A ++ ((g, cs.setIfInBounds i v, t) :: B)) (W.setCell ⟨g, i, none⟩ v) := by
  have := h.set (g := g) (cs := cs) (t := t) A.length i v (by simp)
  simpa using this
theorem mid_mem (x : Ent) : x ∈ A ++ (x :: B) := by simp
theorem Sts.midA {x : Ent} {R : List Ent} (h : Sts w0 (A ++ (x :: (R ++ B))) W) : Sts w0 ((A ++ [x]) ++ (R ++ B)) W := h.lit (by simp)
theorem Sts.midB {x : Ent} {R : List Ent} (h : Sts w0 ((A ++ [x]) ++ (R ++ B)) W) : Sts w0 (A ++ (x :: (R ++ B))) W := h.lit (by simp)
end
/-- A slice that doesn't lie in block g. -/
def Apart (C : Option Addr) (n g : Nat) : Prop := ∀ ad, C = some ad → 0 < n → ad.block ≠ g
theorem Src.but {w w' : World} {C : Option Addr} {n size g : Nat} {xs : List Value} (h : Src w C n size xs) (hb : But g w w') (ha : Apart C n g) : Src w' C n size xs := by
  refine ⟨h.1, fun hn => ?_⟩
  obtain ⟨ad, e, hc⟩ := h.2 hn
  refine ⟨ad, e, fun j u hu => ?_⟩
  have h1 := hc j u hu
  have h2 := World.block_lt_of_cell? w _ h1
  rw [← h1]
  exact World.cell?_of_block (hb.block _ h2 (by rw [block_of_add]; exact ha ad e hn))
theorem MedAt.ge {w0 W : World} {A B : List Ent} {g : Nat} {s : Med} (h : MedAt w0 A B g s W) : w0.heap.size ≤ g ∧ g < W.heap.size := by
  obtain ⟨R, a, cap, h1, h2⟩ := h
  have := (sts_iff.1 h2).1 (g, s.cells a cap, 66) (by simp)
  exact ⟨this.2, this.1.lt⟩
theorem Src.apart {w0 W : World} {A B : List Ent} {g : Nat} {s : Med} {C : Option Addr} {n : Nat} {l : List Int} (h : Src w0 C n 1 (bs l)) (hm : MedAt w0 A B g s W) : Apart C n g := by
  intro ad e hn
  have hg := hm.ge.1
  obtain ⟨ad', e', hc⟩ := h.2 hn
  have hl := h.len
  obtain rfl : ad = ad' := Option.some.inj (e.symm.trans e')
  have := World.block_lt_of_cell? w0 _ (hc 0 _ (bs_get l (i := 0) (by omega)))
  rw [block_of_add] at this
  omega
/-- What a call hands back, and how the medium stands then. -/
def MedGoes (v : Value) (w0 : World) (A B : List Ent) (g : Nat) (s : Med) (e : Ending) (w' : World) : Prop := e = .returned v ∧ MedAt w0 A B g s w'
section
variable {w0 W : World} {A B : List Ent} {g : Nat} {s : Med}
set_option maxHeartbeats 2000000 in
set_option maxRecDepth 100000 in
theorem goes_calls (h : MedAt w0 A B g s W) (hok : s.Ok) : Calls Try.prog 44 #[.pointer (some ⟨g, 0, none⟩)] W (fun e w' => MedGoes (.bool s.goes.1) w0 A B g s.goes.2 e w' ∧ But g W w') := by
  obtain ⟨R, a, cap, hR, hS⟩ := h
  have hl := hok.lit
  have f1 := hok.f1
  obtain ⟨b, firm, off, fuse, lit⟩ := s
  have c2 := hS.cellM (mid_mem _) 2 (v := .bool off) rfl
  have c3 := hS.cellM (mid_mem _) 3 (v := .int .i64 fuse) rfl
  have c4 := hS.cellM (mid_mem _) 4 (v := .bool lit) rfl
  have d2 := hS.frozenM (mid_mem _) 2
  have d3 := hS.frozenM (mid_mem _) 3
  have HR := Lib.hid hR
  have HS := Lib.hid hS
  simp only at hl f1
  clear hR hS hok
  cases off with
  | true =>
    go_enter Try.func44, Try.ntmps44
    go_wp2
    go_ret
    exact ⟨⟨rfl, R, a, cap, HR.out, HS.out⟩, But.refl _ _⟩
  | false =>
    cases lit with
    | false =>
      go_enter Try.func44, Try.ntmps44
      go_wp2
      go_ret
      exact ⟨⟨rfl, R, a, cap, HR.out, HS.out⟩, But.refl _ _⟩
    | true =>
      have f0 := hl rfl
      clear hl
      by_cases hf : fuse = 0
      · subst hf
        go_enter Try.func44, Try.ntmps44
        go_wp2
        go_ret
        exact ⟨⟨rfl, R, a, cap, HR.out, HS.out.setM 2 (.bool true)⟩, (But.refl _ _).set 2 _⟩
      · have b1 : (fuse == 0) = false := by rw [beq_eq_false_iff_ne]; exact hf
        have e1 : (Med.goes ⟨b, firm, false, fuse, true⟩) = (true, ⟨b, firm, false, fuse - 1, true⟩) := by simp [Med.goes, hf]
        have E1 := Lib.hid e1
        have f2 : 1 ≤ fuse := by omega
        clear hf e1 f0
        go_enter Try.func44, Try.ntmps44
        go_wp2
        go_ret
        rw [E1.out]
        exact ⟨⟨rfl, R, a, cap, HR.out, HS.out.setM 3 (.int .i64 (fuse - 1))⟩, (But.refl _ _).set 3 _⟩
end
end Go.Proofs.Ytefidbfhcpcgjaa

import Derived.Test.YtefidbfhcpcgjaaJEq
namespace Go.Proofs.Ytefidbfhcpcgjaa
open Go.RowKit
set_option linter.unusedVariables false
set_option linter.unusedSimpArgs false
/-! ### Several media side by side -/
theorem perm_mid {α : Type} (P X Q Y : List α) : (P ++ (X ++ (Q ++ Y))).Perm (Q ++ (X ++ (P ++ Y))) := by
  have h1 : ((P ++ X) ++ Q).Perm (Q ++ (X ++ P)) := List.perm_append_comm.trans ((List.perm_append_left_iff Q).2 List.perm_append_comm)
  have h2 := h1.append_right Y
  simpa [List.append_assoc] using h2
section
variable {w0 W : World} {A B X Y Z : List Ent} {g ga gb : Nat} {s sa sb : Med}
theorem MedAt.swap {Rb : List Ent} {ab : Option Addr} {cb : Nat} (h : MedAt w0 A (X ++ ((gb, sb.cells ab cb, 66) :: (Rb ++ Y))) ga sa W) (hRb : Row Rb 5 1 ab sb.b.length cb (bs sb.b)) :
    ∃ Ra aa ca, Row Ra 5 1 aa sa.b.length ca (bs sa.b) ∧ MedAt w0 A (X ++ ((ga, sa.cells aa ca, 66) :: (Ra ++ Y))) gb sb W := by
  obtain ⟨Ra, aa, ca, hRa, hS⟩ := h
  refine ⟨Ra, aa, ca, hRa, Rb, ab, cb, hRb, hS.perm ((List.perm_append_left_iff A).2 ?_)⟩
  have := perm_mid ((ga, sa.cells aa ca, 66) :: Ra) X ((gb, sb.cells ab cb, 66) :: Rb) Y
  simpa using this
/-- Medium ga with its journal's block j, and beside it gb with k. -/
def Duo (w0 : World) (ga : Nat) (sa : Med) (j : Ent) (gb : Nat) (sb : Med) (k : Ent) (Z : List Ent) (W : World) : Prop :=
  ∃ Rb ab cb, Row Rb 5 1 ab sb.b.length cb (bs sb.b) ∧ MedAt w0 [] (j :: ((gb, sb.cells ab cb, 66) :: (Rb ++ (k :: Z)))) ga sa W
theorem Duo.turn {j k : Ent} (h : Duo w0 ga sa j gb sb k Z W) : Duo w0 gb sb k ga sa j Z W := by
  obtain ⟨Rb, ab, cb, hRb, hM⟩ := h
  obtain ⟨Ra, aa, ca, hRa, hN⟩ := MedAt.swap (X := [j]) (Y := k :: Z) hM hRb
  refine ⟨Ra, aa, ca, hRa, hN.permB ?_⟩
  have := perm_mid [j] ((ga, sa.cells aa ca, 66) :: Ra) [k] Z
  simpa using this
theorem Duo.bel {j k : Ent} (h : Duo w0 ga sa j gb sb k Z W) : Below w0.heap.size w0 W := by
  obtain ⟨Rb, ab, cb, hRb, hM⟩ := h
  exact hM.bel
theorem Duo.reads {j k : Ent} {Rs : List Ent} {a : Option Addr} {n c : Nat} {ts : List (List Int)} (h : Duo w0 ga sa j gb sb k Z W) (hT : Texts Rs a n c ts) (hs : ∀ x ∈ Rs, x ∈ Z) : Reads W a n ts := by
  obtain ⟨Rb, ab, cb, hRb, hM⟩ := h
  exact reads_of hT hM fun x hx => by simp [hs x hx]
theorem duo_add {gj cnt cnt' : Nat} {bad bad' : Bool} {C : Option Addr} {n c : Nat} {t : List Int} {v : Int} {s' : Med} {k : Ent} (h : Duo w0 ga sa (gj, jcells ga cnt bad, 72) gb sb k Z W) (hok : sa.Ok) (hs : Src W C n 1 (bs t)) (hb : Byt t) (hc : cnt ≤ 1000000) (hn : n ≤ 60000) (hlen : sa.b.length + n + 10 ≤ 200000) (e : jadd sa cnt bad t = (v, s', cnt', bad')) :
    Calls Try.prog 38 #[.pointer (some ⟨gj, 0, none⟩), .slice C n c] W fun e w' => e = .returned (.int .i64 v) ∧ Duo w0 ga s' (gj, jcells ga cnt' bad', 72) gb sb k Z w' := by
  obtain ⟨Rb, ab, cb, hRb, hM⟩ := h
  exact (add_is hM hok hs hb hc hn hlen e).mono fun _ _ ⟨h1, h2⟩ => ⟨h1, Rb, ab, cb, hRb, h2⟩
set_option maxHeartbeats 2000000 in
set_option maxRecDepth 100000 in
theorem jcount_any {gj g' cnt : Nat} {bad : Bool} (h : MedAt w0 A B g s W) (hm : (gj, jcells g' cnt bad, 72) ∈ B) : Calls Try.prog 39 #[.pointer (some ⟨gj, 0, none⟩)] W fun e w' => e = .returned (.int .i64 cnt) ∧ W = w' := by
  obtain ⟨c1, _⟩ := h.cellB hm 1 (v := .int .i64 cnt) rfl
  clear h hm
  go_enter Try.func39, Try.ntmps39
  go_wp2
  go_ret
  exact ⟨rfl, rfl⟩
set_option maxHeartbeats 4000000 in
set_option maxRecDepth 100000 in
theorem twin_calls (h : MedAt w0 A B g s W) (hok : s.Ok) : Calls Try.prog 33 #[.pointer (some ⟨g, 0, none⟩)] W fun e w' => ∃ gt Rt at_ ct, e = .returned (.pointer (some ⟨gt, 0, none⟩)) ∧ Row Rt 5 1 at_ s.b.length ct (bs s.b) ∧ MedAt w0 A ((gt, s.cells at_ ct, 66) :: (Rt ++ B)) g s w' := by
  have hlen := hok.len
  obtain ⟨R, a, cap, hR, hS, c0, c1, c2, c3, c4, d0, d1, d2, d3, d4⟩ := h.parts
  have hsrc := hR.srcIn hS fun _ h => List.mem_append_right _ (List.mem_cons_of_mem _ (List.mem_append_left _ h))
  have hnone : a = none → cap = 0 ∧ s.b.length = 0 := fun e => by
    have hle := hR.le
    obtain ⟨_, _, _, h4⟩ := hR
    rcases h4 with ⟨_, h5⟩ | ⟨_, _, h5, _⟩
    · omega
    · rw [e] at h5; cases h5
  have HSR := Lib.hid hsrc; have H := Lib.hid h
  clear hR hS hsrc d0 d1 d2 d3 d4 h hok
  have hadd := H.out.addB (gn := W.heap.size) rfl (s.cells a cap) 66
  have HADD := Lib.hid hadd
  have hcl : (#[.slice a s.b.length cap, .int .i64 s.firm, .bool s.off, .int .i64 s.fuse, .bool s.lit] : Array Value) = s.cells a cap := rfl
  have HCL := Lib.hid hcl
  clear hadd hcl
  have cA : ∀ o, (W.alloc o).cell? ⟨g, 0, none⟩ = some (.slice a s.b.length cap) := fun o => ((bel_alloc (Below.refl _ W) o).cell (World.block_lt_of_cell? W _ c0)).trans c0
  have fin : ∀ (R2 : List Ent) (a2 : Option Addr) (cap2 : Nat) (w2 : World), Row R2 5 1 a2 s.b.length cap2 (bs s.b) → MedAt w0 A (R2 ++ (B ++ [(W.heap.size, s.cells a cap, 66)])) g s w2 →
      ∃ gt Rt at_ ct, Ending.returned (.pointer (some ⟨W.heap.size, 0, none⟩)) = .returned (.pointer (some ⟨gt, 0, none⟩)) ∧ Row Rt 5 1 at_ s.b.length ct (bs s.b) ∧ MedAt w0 A ((gt, s.cells at_ ct, 66) :: (Rt ++ B)) g s (w2.setCell ⟨W.heap.size, 0, none⟩ (.slice a2 s.b.length cap2)) := by
    intro R2 a2 cap2 w2 h1 h2
    refine ⟨W.heap.size, R2, a2, cap2, rfl, h1, ?_⟩
    have h3 : MedAt w0 A ((W.heap.size, s.cells a cap, 66) :: (R2 ++ B)) g s w2 := h2.permB (by
      rw [← List.append_assoc]
      exact List.perm_append_singleton _ _)
    exact h3.setB 0 (.slice a2 s.b.length cap2)
  have FIN := Lib.hid fin
  clear fin
  cases a with
  | none =>
    obtain ⟨rfl, h0⟩ := hnone rfl
    have H0 := Lib.hid h0
    clear hnone h0
    go_enter Try.func33, Try.ntmps33
    go_wp2_with fail
    rw [H0.out]
    refine (clone_nil _).mono ?_
    rintro e w' ⟨rfl, rfl⟩
    obtain ⟨e0, f0⟩ := HADD.out.cellB (gn := W.heap.size) (cs := s.cells none 0) (t := 66) (by simp) 0 (v := .slice none s.b.length 0) rfl
    go_wp2
    go_ret
    have hb : s.b = [] := List.eq_nil_of_length_eq_zero H0.out
    have e : s.cells none 0 = #[.slice none 0 0, .int .i64 s.firm, .bool s.off, .int .i64 s.fuse, .bool s.lit] := by unfold Med.cells; rw [H0.out]
    refine ⟨W.heap.size, [], none, 0, rfl, by rw [hb]; exact Row.nil _ _, ?_⟩
    rw [← e]
    exact HADD.out.permB (List.perm_append_singleton _ _)
  | some ad =>
    clear hnone
    go_enter Try.func33, Try.ntmps33
    go_wp2_with fail
    refine (clone_some ad s.b.length cap _ _ (HSR.out.alloc _) (bs_one _) (by omega)).mono ?_
    rintro e w2 ⟨R2, a2, cap2, rfl, hR2, hS2⟩
    have H2 := Lib.hid (HADD.out.join hS2)
    have HR2 := Lib.hid hR2
    obtain ⟨e0, f0⟩ := H2.out.cellB (gn := W.heap.size) (cs := s.cells (some ad) cap) (t := 66) (by simp) 0 (v := .slice (some ad) s.b.length cap) rfl
    clear hR2 hS2
    go_wp2
    go_ret
    exact FIN.out R2 a2 cap2 w2 HR2.out H2.out
end
end Go.Proofs.Ytefidbfhcpcgjaa

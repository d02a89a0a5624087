import Derived.Test.YtefidbfhcpcgjaaRecs
namespace Go.Proofs.Ytefidbfhcpcgjaa
open Go.RowKit
set_option linter.unusedVariables false
set_option linter.unusedSimpArgs false
def jcells (g cnt : Nat) (bad : Bool) : Array Value := #[.pointer (some ⟨g, 0, none⟩), .int .i64 cnt, .bool bad]
def jadd (s : Med) (cnt : Nat) (bad : Bool) (t : List Int) : Int × Med × Nat × Bool :=
  if bad then (8, s, cnt, true)
  else if (s.append (sealL ((cnt : Int) + 1) t)).1 = 0 then
    (if (s.append (sealL ((cnt : Int) + 1) t)).2.flush.1 = 0 then (0, (s.append (sealL ((cnt : Int) + 1) t)).2.flush.2, cnt + 1, false)
     else (7, (s.append (sealL ((cnt : Int) + 1) t)).2.flush.2, cnt, true))
  else (7, (s.append (sealL ((cnt : Int) + 1) t)).2, cnt, true)
section
variable {w0 W : World} {A B B' : List Ent} {g : Nat} {s s' : Med}
theorem MedAt.permB (h : MedAt w0 A B g s W) (hp : B.Perm B') : MedAt w0 A B' g s W := by
  obtain ⟨R, a, cap, hR, hS⟩ := h
  exact ⟨R, a, cap, hR, hS.perm ((List.perm_append_left_iff A).2 (List.Perm.cons _ ((List.perm_append_left_iff R).2 hp)))⟩
theorem MedAt.subB (h : MedAt w0 A B g s W) (hp : B'.Sublist B) : MedAt w0 A B' g s W := by
  obtain ⟨R, a, cap, hR, hS⟩ := h
  exact ⟨R, a, cap, hR, hS.sub ((List.Sublist.refl A).append (List.Sublist.cons_cons _ ((List.Sublist.refl R).append hp)))⟩
theorem MedAt.cellB (h : MedAt w0 A B g s W) {gn : Nat} {cs : Array Value} {t : TypeId} (hm : (gn, cs, t) ∈ B) (i : Nat) {v : Value} (hv : cs[i]? = some v) : W.cell? ⟨gn, i, none⟩ = some v ∧ W.frozen? ⟨gn, i, none⟩ = false := by
  obtain ⟨R, a, cap, hR, hS⟩ := h
  exact ⟨hS.cellM (g := gn) (cs := cs) (t := t) (by simp [hm]) i hv, hS.frozenM (g := gn) (cs := cs) (t := t) (by simp [hm]) i⟩
theorem MedAt.setB {gn : Nat} {cs : Array Value} {t : TypeId} (h : MedAt w0 A ((gn, cs, t) :: B) g s W) (i : Nat) (v : Value) : MedAt w0 A ((gn, cs.setIfInBounds i v, t) :: B) g s (W.setCell ⟨gn, i, none⟩ v) := by
  obtain ⟨R, a, cap, hR, hS⟩ := h
  refine ⟨R, a, cap, hR, ?_⟩
  have := (hS.lit (L' := (A ++ ((g, s.cells a cap, 66) :: R)) ++ ((gn, cs, t) :: B)) (by simp)).setM i v
  exact this.lit (by simp)
theorem Row.apart {R : List Ent} {a : Option Addr} {e n cap : Nat} {xs : List Value} {w' : World} (hR : Row R e 1 a n cap xs) (hS : Sts W R w') (hg : g < W.heap.size) : Apart a n g := by
  intro ad e1 hn
  obtain ⟨gr, cur, rfl, rfl⟩ := hR.form hn
  obtain rfl := Option.some.inj e1
  have := ((sts_iff.1 hS).1 _ (List.mem_singleton_self _)).2
  show gr ≠ g
  simp only at this
  omega
set_option maxHeartbeats 2000000 in
set_option maxRecDepth 100000 in
theorem jcount_calls {gj cnt : Nat} {bad : Bool} (h : MedAt w0 A ((gj, jcells g cnt bad, 72) :: B) g s W) : Calls Try.prog 39 #[.pointer (some ⟨gj, 0, none⟩)] W fun e w' => e = .returned (.int .i64 cnt) ∧ W = w' := by
  obtain ⟨c1, _⟩ := h.cellB (List.mem_cons_self) 1 (v := .int .i64 cnt) rfl
  clear h
  go_enter Try.func39, Try.ntmps39
  go_wp2
  go_ret
  exact ⟨rfl, rfl⟩
set_option maxHeartbeats 2000000 in
set_option maxRecDepth 100000 in
theorem jadd_long {gj cnt : Nat} {bad : Bool} {C : Option Addr} {n c : Nat} (h : MedAt w0 A ((gj, jcells g cnt bad, 72) :: B) g s W) (hc : cnt ≤ 1000000) (hn : 60000 < n) (hn2 : n ≤ 1000000) : Calls Try.prog 38 #[.pointer (some ⟨gj, 0, none⟩), .slice C n c] W fun e w' => e = .returned (.int .i64 1) ∧ W = w' := by
  obtain ⟨c1, _⟩ := h.cellB (List.mem_cons_self) 1 (v := .int .i64 cnt) rfl
  have q := fun (w : World) (a : Option Addr) (n c n' c' : Nat) => Lib.run_eql_slice_nil w 23 5 a n c n' c' Try.underlying23
  clear h
  go_enter Try.func38, Try.ntmps38
  go_wp2_with fail
  refine (seal_none ((cnt : Int) + 1) _ _ _ _ (.inr (.inr hn)) hn2).mono ?_
  rintro e w' ⟨rfl, rfl⟩
  go_wp2
  go_ret
  exact ⟨rfl, rfl⟩
set_option maxHeartbeats 4000000 in
set_option maxRecDepth 100000 in
theorem jadd_calls {gj cnt : Nat} {bad : Bool} {C : Option Addr} {n c : Nat} {t : List Int} (h : MedAt w0 A ((gj, jcells g cnt bad, 72) :: B) g s W) (hok : s.Ok) (hs : Src W C n 1 (bs t)) (hb : Byt t) (hc : cnt ≤ 1000000) (hn : n ≤ 60000) (hlen : s.b.length + n + 10 ≤ 200000) :
    Calls Try.prog 38 #[.pointer (some ⟨gj, 0, none⟩), .slice C n c] W fun e w' => e = .returned (.int .i64 (jadd s cnt bad t).1) ∧ MedAt w0 A ((gj, jcells g (jadd s cnt bad t).2.2.1 (jadd s cnt bad t).2.2.2, 72) :: B) g (jadd s cnt bad t).2.1 w' := by
  obtain ⟨c0, _⟩ := h.cellB (List.mem_cons_self) 0 (v := .pointer (some ⟨g, 0, none⟩)) rfl
  obtain ⟨c1, _⟩ := h.cellB (List.mem_cons_self) 1 (v := .int .i64 cnt) rfl
  obtain ⟨c2, _⟩ := h.cellB (List.mem_cons_self) 2 (v := .bool bad) rfl
  have hgW := h.ge.2
  have q := fun (w : World) (a : Option Addr) (n c n' c' : Nat) => Lib.run_eql_slice_nil w 23 5 a n c n' c' Try.underlying23
  have hsl := seal_len ((cnt : Int) + 1) t
  have htl := hs.len
  have hja : jadd s cnt bad t = if bad then (8, s, cnt, true) else if (s.append (sealL ((cnt : Int) + 1) t)).1 = 0 then
    (if (s.append (sealL ((cnt : Int) + 1) t)).2.flush.1 = 0 then (0, (s.append (sealL ((cnt : Int) + 1) t)).2.flush.2, cnt + 1, false)
     else (7, (s.append (sealL ((cnt : Int) + 1) t)).2.flush.2, cnt, true))
  else (7, (s.append (sealL ((cnt : Int) + 1) t)).2, cnt, true) := rfl
  have hoka := hok.append (seal_byt ((cnt : Int) + 1) hb) (by rw [hsl]; omega)
  generalize jadd s cnt bad t = r at *
  have H := Lib.hid h; have HJA := Lib.hid hja; have HS := Lib.hid hs; have HB := Lib.hid hb; have HOKA := Lib.hid hoka; have HOK := Lib.hid hok; have HSL := Lib.hid hsl; have HTL := Lib.hid htl
  clear h hja hs hb hoka hok hsl htl
  go_enter Try.func38, Try.ntmps38
  go_wp2_with fail
  refine (seal_calls ((cnt : Int) + 1) t C n c _ HS.out HB.out hn (by omega) (by omega)).mono ?_
  rintro e w1 ⟨R1, a1, k1, rfl, hR1, hS1⟩
  obtain ⟨gr, cur, rfl, rfl⟩ := hR1.form (by omega)
  have HAP := Lib.hid (hR1.apart hS1 hgW)
  have HSR := Lib.hid (hR1.src0 hS1)
  have H1 := Lib.hid (H.out.below hS1.bel)
  obtain ⟨c0, _⟩ := H1.out.cellB (List.mem_cons_self) 0 (v := .pointer (some ⟨g, 0, none⟩)) rfl
  obtain ⟨c1, _⟩ := H1.out.cellB (List.mem_cons_self) 1 (v := .int .i64 cnt) rfl
  obtain ⟨c2, _⟩ := H1.out.cellB (List.mem_cons_self) 2 (v := .bool bad) rfl
  clear hR1 hS1 H HS
  cases bad with
  | true =>
    have hr : r = (8, s, cnt, true) := by rw [HJA.out]; rfl
    have HR := Lib.hid hr
    clear hr
    go_wp2
    go_ret
    rw [HR.out]
    exact ⟨rfl, H1.out⟩
  | false =>
    obtain ⟨⟨v1, s1⟩, hap⟩ : ∃ r, s.append (sealL ((cnt : Int) + 1) t) = r := ⟨_, rfl⟩
    have hv : v1 = 0 ∨ v1 = 7 := by
      unfold Med.append at hap
      split at hap <;> (injection hap with h1 h2; omega)
    have hja := HJA.out
    have hoka := HOKA.out
    rw [hap] at hja hoka
    have HAPP := Lib.hid hap; have HJ := Lib.hid hja; have HOK1 := Lib.hid hoka
    clear hap hja hoka HJA HOKA
    go_wp2_with fail
    refine (append_is H1.out HOK.out HSR.out HAP.out (by omega) HAPP.out).mono ?_
    rintro e w2 ⟨rfl, hm⟩
    have H2 := Lib.hid hm
    obtain ⟨c0, _⟩ := H2.out.cellB (List.mem_cons_self) 0 (v := .pointer (some ⟨g, 0, none⟩)) rfl
    obtain ⟨c1, _⟩ := H2.out.cellB (List.mem_cons_self) 1 (v := .int .i64 cnt) rfl
    obtain ⟨c2, d2⟩ := H2.out.cellB (List.mem_cons_self) 2 (v := .bool false) rfl
    clear hm H1 HSR HAP HAPP
    rcases hv with rfl | rfl
    · obtain ⟨⟨v2, s2⟩, hfl⟩ : ∃ r, s1.flush = r := ⟨_, rfl⟩
      have hv2 : v2 = 0 ∨ v2 = 7 := by
        unfold Med.flush at hfl
        split at hfl <;> (injection hfl with h1 h2; omega)
      have hja := HJ.out
      simp only [hfl] at hja
      have HFL := Lib.hid hfl; have HJ2 := Lib.hid hja
      clear hfl hja HJ d2
      go_wp2_with fail
      refine (flush_is H2.out HOK1.out HFL.out).mono ?_
      rintro e w3 ⟨rfl, hm⟩
      have H3 := Lib.hid hm
      obtain ⟨c0, _⟩ := H3.out.cellB (List.mem_cons_self) 0 (v := .pointer (some ⟨g, 0, none⟩)) rfl
      obtain ⟨c1, d1⟩ := H3.out.cellB (List.mem_cons_self) 1 (v := .int .i64 cnt) rfl
      obtain ⟨c2, d2⟩ := H3.out.cellB (List.mem_cons_self) 2 (v := .bool false) rfl
      clear hm H2 HFL
      rcases hv2 with rfl | rfl
      · have hr : r = (0, s2, cnt + 1, false) := by rw [HJ2.out]; simp
        have HR := Lib.hid hr
        clear hr
        go_wp2
        go_ret
        rw [HR.out]
        exact ⟨rfl, by simpa [jcells] using H3.out.setB 1 (.int .i64 ((cnt : Int) + 1))⟩
      · have hr : r = (7, s2, cnt, true) := by rw [HJ2.out]; simp
        have HR := Lib.hid hr
        clear hr
        go_wp2
        go_ret
        rw [HR.out]
        exact ⟨rfl, H3.out.setB 2 (.bool true)⟩
    · have hr : r = (7, s1, cnt, true) := by rw [HJ.out]; simp
      have HR := Lib.hid hr
      clear hr
      go_wp2
      go_ret
      rw [HR.out]
      exact ⟨rfl, H2.out.setB 2 (.bool true)⟩
end
end Go.Proofs.Ytefidbfhcpcgjaa

import Derived.Test.YtefidbfhcpcgjaaMedRuns
namespace Go.Proofs.Ytefidbfhcpcgjaa
open Go.RowKit
set_option linter.unusedVariables false
set_option linter.unusedSimpArgs false
def Med.may (s : Med) (at_ : Int) : Bool := !s.off && decide (s.firm = s.b.length) && decide (0 ≤ at_) && decide (at_ < s.b.length)
def Med.spoil (s : Med) (i : Nat) (x : Int) : Med := { s with b := s.b.set i (xb (s.b.getD i 0) x) }
theorem Med.Ok.spoil {s : Med} (h : s.Ok) (i : Nat) {x : Int} (hi : i < s.b.length) (h0 : 0 ≤ x) (h1 : x ≤ 255) : (s.spoil i x).Ok := by
  obtain ⟨y0, y1⟩ := h.byt.at_ hi
  have hv := xb_bd y0 y1 h0 h1
  refine ⟨fun z hz => ?_, by show (s.b.set i _).length ≤ _; rw [List.length_set]; exact h.len, by show s.firm ≤ (s.b.set i _).length; rw [List.length_set]; exact h.firm, h.f0, h.f1, h.lit⟩
  rcases List.mem_or_eq_of_mem_set hz with h2 | h2
  · exact h.byt z h2
  · subst h2; exact hv
section
variable {w0 W : World} {A B : List Ent} {g : Nat} {s : Med}
set_option maxHeartbeats 4000000 in
set_option maxRecDepth 100000 in
theorem spoil_no (at_ x : Int) (h : MedAt w0 A B g s W) (hok : s.Ok) (hc : s.off = true ∨ s.firm < s.b.length ∨ at_ < 0 ∨ (s.b.length : Int) ≤ at_) : Calls Try.prog 32 #[.pointer (some ⟨g, 0, none⟩), .int .i64 at_, .int .u8 x] W fun e w' => e = .returned (.bool false) ∧ ∃ j, w' = W.drewN j := by
  have hfirm := hok.firm
  have hlen := hok.len
  obtain ⟨R, a, cap, hR, hS, c0, c1, c2, c3, c4, d0, d1, d2, d3, d4⟩ := h.parts
  clear hR hS c3 c4 d0 d1 d2 d3 d4 h hok
  obtain ⟨b, firm, off, fuse, lit⟩ := s
  simp only at c0 c1 c2 hfirm hlen hc
  cases off with
  | true =>
    clear hc
    go_enter Try.func32, Try.ntmps32
    go_upto_region 1 with fail
    go_quiet (fail)
    go_wp2
    go_ret
    exact ⟨rfl, nq, rfl⟩
  | false =>
    by_cases h1 : firm < b.length
    · have b1 : decide (firm < b.length) = true := decide_eq_true h1
      clear hc
      go_enter Try.func32, Try.ntmps32
      go_upto_region 1 with fail
      go_quiet (fail)
      go_wp2
      go_ret
      exact ⟨rfl, nq, rfl⟩
    · have b1 : decide (firm < b.length) = false := decide_eq_false h1
      obtain rfl : firm = b.length := by omega
      by_cases h2 : at_ < 0
      · have b2 : decide (at_ < 0) = true := decide_eq_true h2
        clear hc
        go_enter Try.func32, Try.ntmps32
        go_upto_region 1 with fail
        go_quiet (fail)
        go_wp2
        go_ret
        exact ⟨rfl, nq, rfl⟩
      · have b2 : decide (at_ < 0) = false := decide_eq_false h2
        have b3 : decide ((b.length : Int) ≤ at_) = true := decide_eq_true (by rcases hc with hc | hc | hc | hc <;> first | omega | cases hc)
        clear hc
        go_enter Try.func32, Try.ntmps32
        go_upto_region 1 with fail
        go_quiet (fail)
        go_wp2
        go_ret
        exact ⟨rfl, nq, rfl⟩
set_option maxHeartbeats 4000000 in
set_option maxRecDepth 100000 in
theorem spoil_yes (i : Nat) (x : Int) (h : MedAt w0 A B g s W) (hok : s.Ok) (ho : s.off = false) (hf : s.firm = s.b.length) (hi : i < s.b.length) (x0 : 0 ≤ x) (x1 : x ≤ 255) : Calls Try.prog 32 #[.pointer (some ⟨g, 0, none⟩), .int .i64 i, .int .u8 x] W (MedGoes (.bool true) w0 A B g (s.spoil i x)) := by
  have hlen := hok.len
  have hby := hok.byt
  obtain ⟨R, a, cap, hR, hS, c0, c1, c2, c3, c4, d0, d1, d2, d3, d4⟩ := h.parts
  obtain ⟨b, firm, off, fuse, lit⟩ := s
  simp only at ho hf hi hlen hby c0 c1 c2 hR
  subst ho hf
  obtain ⟨gr, cur, rfl, rfl⟩ := hR.form (by omega)
  obtain ⟨y0, y1⟩ := hby.at_ hi
  have hget := bs_get b hi
  obtain ⟨hcell, hfr⟩ := hR.cell1 hS (by simp) hi hget
  have hxor := u8_xor (b.getD i 0) x y0 y1 x0 x1
  have hset : b.set i (xb (b.getD i 0) x) = (Med.spoil ⟨b, b.length, false, fuse, lit⟩ i x).b := rfl
  have hset2 := bs_set b i (xb (b.getD i 0) x)
  obtain ⟨v, hv⟩ : ∃ v, xb (b.getD i 0) x = v := ⟨_, rfl⟩
  rw [hv] at hxor hset hset2
  generalize b.getD i 0 = y at *
  have HR := Lib.hid hR; have HSS := Lib.hid hS; have HSET := Lib.hid hset; have HSET2 := Lib.hid hset2; have HV := Lib.hid hv
  have b1 : decide (b.length < b.length) = false := decide_eq_false (by omega)
  have b2 : decide ((i : Int) < 0) = false := decide_eq_false (by omega)
  have b3 : decide (b.length ≤ i) = false := decide_eq_false (by omega)
  clear hR hS hset hset2 hv hget c3 c4 d0 d1 d2 d3 d4 h hok hby
  go_enter Try.func32, Try.ntmps32
  go_upto_region 1 with fail
  go_quiet (fail)
  have HS2 := Lib.hid (HSS.out.drewN nq)
  go_wp2
  go_ret
  refine ⟨rfl, [(gr, cur.setIfInBounds i (.int .u8 v), 5)], some ⟨gr, 0, none⟩, cap, ?_, ?_⟩
  · have := HR.out.put1 i (.int .u8 v)
    rw [HSET2.out, HSET.out] at this
    have hl : (Med.spoil ⟨b, b.length, false, fuse, lit⟩ i x).b.length = b.length := by show (b.set i _).length = _; rw [List.length_set]
    rw [hl]; exact this
  · have := (HS2.out.midA.setM (A := A ++ [_]) i (.int .u8 v)).midB (R := [(gr, cur.setIfInBounds i (.int .u8 v), 5)])
    refine this.lit ?_
    simp [Med.cells, Med.spoil]
end
end Go.Proofs.Ytefidbfhcpcgjaa


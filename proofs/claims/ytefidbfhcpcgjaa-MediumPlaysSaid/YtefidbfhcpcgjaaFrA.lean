import Derived.Test.YtefidbfhcpcgjaaBy
import Derived.Test.YtefidbfhcpcgjaaWithin
import Derived.IntWalk
import Derived.Laws.BitsLemmas
import Derived.WalkSpells
namespace Go.Proofs.Ytefidbfhcpcgjaa
open Go.RowKit
set_option linter.unusedVariables false
set_option linter.unusedSimpArgs false

theorem wraps_i64 (n : Int) (h₀ : 0 ≤ n) (h₁ : n < 2 ^ 62) : IntKind.i64.wrap n = n := by rw [IntKind.wrap_i64]; omega
theorem i64_and65535 (s : Int) (h0 : 0 ≤ s) (h1 : s < 4611686018427387904) : bits .and .i64 s 65535 = s % 65536 := bits_mask .i64 62 (by decide) wraps_i64 16 (by decide) s h0 h1
theorem i64_or8 (s x : Int) (h0 : 0 ≤ s) (h1 : s ≤ 16777215) (h2 : 0 ≤ x) (h3 : x ≤ 255) : bits .or .i64 (s * 256) x = s * 256 + x :=
  bits_join .i64 62 (by decide) wraps_i64 8 (s * 256) x (by omega) (by omega) (by omega) h2 (by omega) (by omega)
theorem num_snoc (l : List Int) (x : Int) : num (l ++ [x]) = num l * 256 + x := by simp [num]
theorem num_take (l : List Int) (k : Nat) (h : k < l.length) : num (l.take (k + 1)) = num (l.take k) * 256 + l.getD k 0 := by
  rw [List.take_succ_eq_append_getElem h, num_snoc, List.getD_eq_getElem?_getD, List.getElem?_eq_getElem h]; simp
theorem num_bd4 {l : List Int} (hb : Byt l) {k : Nat} (hk : k < 4) (hl : k ≤ l.length) : 0 ≤ num (l.take k) ∧ num (l.take k) ≤ 16777215 := by
  have b0 := fun h => hb.at_ (k := 0) h
  have b1 := fun h => hb.at_ (k := 1) h
  have b2 := fun h => hb.at_ (k := 2) h
  match k, hk with
  | 0, _ => simp [num]
  | 1, _ => rw [num_take l 0 (by omega)]; have := b0 (by omega); simp [num] at this ⊢; omega
  | 2, _ => rw [num_take l 1 (by omega), num_take l 0 (by omega)]; have := b0 (by omega); have := b1 (by omega); simp [num] at *; omega
  | 3, _ => rw [num_take l 2 (by omega), num_take l 1 (by omega), num_take l 0 (by omega)]; have := b0 (by omega); have := b1 (by omega); have := b2 (by omega); simp [num] at *; omega
set_option maxHeartbeats 1000000 in
set_option maxRecDepth 100000 in
theorem fsum_calls (A : Option Addr) (n cap : Nat) (l : List Int) (w : World) (hs : Src w A n 1 (bs l)) (hb : Byt l) (hn : n ≤ 100000) :
    Calls Try.prog 20 #[.slice A n cap] w fun e w' => e = .returned (.int .i64 (sm l)) ∧ w = w' := by
  have hl := hs.len
  have HS := Lib.hid hs
  have HB := Lib.hid hb
  have HL := Lib.hid hl
  clear hs hb hl
  go_enter Try.func20, Try.ntmps20
  go_wp2
  go_loop [3, 8] (fun t i => ∃ (k : Nat) (s : Int), k ≤ n ∧ i = .int .i64 k ∧ t = .int .i64 s ∧ 0 ≤ s ∧ s ≤ 255 * k ∧ Hid (s = (l.take k).sum)) (fun _ i => n - (intOf i).toNat)
  case atStart => exact ⟨0, 0, Nat.zero_le _, rfl, rfl, by omega, by omega, Lib.hid (by simp)⟩
  case round =>
    obtain ⟨k, s, hk, rfl, rfl, h0, h1, HT⟩ := hrel
    by_cases hlt : k < n
    · obtain ⟨ad, rfl, hcell⟩ := HS.out.byte hlt
      obtain ⟨h2, h3⟩ := HB.out.at_ (k := k) (by rw [HL.out]; exact hlt)
      have hsum := sum_take l k (by rw [HL.out]; exact hlt)
      generalize l.getD k 0 = x at hcell h2 h3 hsum
      have HX := Lib.hid hsum
      clear hsum
      go_wp2
      go_round
      case rel => exact ⟨k + 1, s + x, by omega, by go_num, rfl, by omega, by omega, Lib.hid (by rw [HX.out, HT.out])⟩
      case measure => simp [intOf]; omega
    · obtain rfl : k = n := by omega
      have hm : bits .and .i64 s 65535 = sm l := by rw [i64_and65535 s h0 (by omega), sm, HT.out, List.take_of_length_le (by rw [HL.out]; exact Nat.le_refl _)]
      have HM := Lib.hid hm
      clear hm
      go_wp2
      go_ret
      exact ⟨ret_int HM.out, rfl⟩

set_option maxHeartbeats 1000000 in
set_option maxRecDepth 100000 in
theorem two_calls (n : Int) (w : World) (h0 : 0 ≤ n) (h1 : n ≤ 4294967295) :
    Calls Try.prog 43 #[.int .i64 n] w (Made (bs (two n)) 2 5 1 w) := by
  go_enter Try.func43, Try.ntmps43
  go_wp2
  go_ret
  exact ⟨[(w.heap.size, _, _)], _, 2, rfl, ⟨rfl, Nat.le_refl _, by unfold maxLen; omega, .inr ⟨_, _, rfl, rfl, rfl, rfl⟩⟩, by simpa using (Sts.nil w).add rfl _ _⟩

set_option maxHeartbeats 1000000 in
set_option maxRecDepth 100000 in
theorem num_calls (A : Option Addr) (n cap : Nat) (l : List Int) (w : World) (hs : Src w A n 1 (bs l)) (hb : Byt l) (hn : n ≤ 4) :
    Calls Try.prog 47 #[.slice A n cap] w fun e w' => e = .returned (.int .i64 (num l)) ∧ w = w' := by
  have hl := hs.len
  have HS := Lib.hid hs
  have HB := Lib.hid hb
  have HL := Lib.hid hl
  clear hs hb hl
  go_enter Try.func47, Try.ntmps47
  go_wp2
  go_loop [3, 8] (fun t i => ∃ (k : Nat) (s : Int), k ≤ n ∧ i = .int .i64 k ∧ t = .int .i64 s ∧ Hid (s = num (l.take k))) (fun _ i => n - (intOf i).toNat)
  case atStart => exact ⟨0, 0, Nat.zero_le _, rfl, rfl, Lib.hid (by simp [num])⟩
  case round =>
    obtain ⟨k, s, hk, rfl, rfl, HT⟩ := hrel
    by_cases hlt : k < n
    · obtain ⟨ad, rfl, hcell⟩ := HS.out.byte hlt
      obtain ⟨h2, h3⟩ := HB.out.at_ (k := k) (by rw [HL.out]; exact hlt)
      obtain ⟨h0, h1⟩ : 0 ≤ s ∧ s ≤ 16777215 := by rw [HT.out]; exact num_bd4 HB.out (by omega) (by rw [HL.out]; omega)
      have hnt := num_take l k (by rw [HL.out]; exact hlt)
      generalize l.getD k 0 = x at hcell h2 h3 hnt
      rw [← HT.out] at hnt
      have HN := Lib.hid hnt
      clear hnt
      go_wp2
      go_round
      case rel => exact ⟨k + 1, s * 256 + x, by omega, by go_num, by rw [i64_or8 s x h0 h1 h2 h3], Lib.hid HN.out.symm⟩
      case measure => simp [intOf]; omega
    · obtain rfl : k = n := by omega
      have hm : s = num l := by rw [HT.out, List.take_of_length_le (by rw [HL.out]; exact Nat.le_refl _)]
      have HM := Lib.hid hm
      clear hm
      go_wp2
      go_ret
      exact ⟨ret_int HM.out, rfl⟩

/-! ### slices -/
theorem byte_info : (Try.prog.info? 5).map (fun i => (i.zero, i.size, i.bytes)) = some (some (.int .u8 0), 1, 1) := by kernel_rfl
/-- What make([]byte, n) lays. -/
def ZB (n : Nat) : Array Value := madeCells #[.int .u8 0] n
theorem ZB_list (n : Nat) : (ZB n).toList = bs (List.replicate n 0) := by rw [ZB, toList_madeCells_one]; simp [bs]
theorem ZB_size (n : Nat) : (ZB n).size = n := size_madeCells _ _
theorem make_bytes (n : Nat) (hn : n ≤ 1000000) (W : World) : (Instr.makeSlice 23 (.int .i64 (n : Int)) (.int .i64 (n : Int))).run Try.prog W = .ok (.slice (some ⟨W.heap.size, 0, none⟩) n n) (W.alloc (.cells (ZB n) 5)) := by
  obtain ⟨i0, hi, hz, hs1, hs2⟩ := info_parts byte_info
  have h := run_makeSlice (P := Try.prog) W 23 5 i0 (.int .u8 0) Try.underlying23 hi hz .i64 .i64 (n : Int) n (by omega) (by omega) (by rw [hs1]; omega) (by rw [hs2]; omega) (by omega)
  rw [hs1, Nat.mul_one, Int.toNat_natCast] at h
  exact h
theorem src_made {W : World} {n g : Nat} (hg : g = W.heap.size) : Src (W.alloc (.cells (ZB n) 5)) (some ⟨g, 0, none⟩) n 1 (bs (List.replicate n 0)) := by
  rw [← ZB_list]
  exact Src.new (by rw [ZB_size]; omega) hg
set_option maxHeartbeats 1000000 in
set_option maxRecDepth 100000 in
theorem clone_nil (w : World) : Calls Try.prog 46 #[.slice none 0 0] w fun e w' => e = .returned (.slice none 0 0) ∧ w = w' := by
  have q := fun (w : World) (a : Option Addr) (n c n' c' : Nat) => Lib.run_eql_slice_nil w 23 5 a n c n' c' Try.underlying23
  go_enter Try.func46, Try.ntmps46
  go_wp2
  go_ret
  exact ⟨rfl, rfl⟩
set_option maxHeartbeats 1000000 in
set_option maxRecDepth 100000 in
theorem clone_some (ad : Addr) (n cap : Nat) (cs : List Value) (w : World) (hs : Src w (some ad) n 1 cs) (h1 : ∀ u ∈ cs, u.oneCell' = true) (hn : n ≤ 900000) :
    Calls Try.prog 46 #[.slice (some ad) n cap] w (Made cs n 5 1 w) := by
  obtain ⟨i0, hi, hz, hs1, hs2⟩ := info_parts byte_info
  have HS := Lib.hid hs
  have H1 := Lib.hid h1
  clear hs h1
  have q := fun (w : World) (a : Option Addr) (n c n' c' : Nat) => Lib.run_eql_slice_nil w 23 5 a n c n' c' Try.underlying23
  go_enter Try.func46, Try.ntmps46
  go_wp2_with (at_builtin; refine row_append rfl (.tmp 5) (.tmp 6) 23 rfl [] [] Try.underlying23 hi hz hs1 hs2 rfl (by omega) (Row.empty w.heap.size 5 1) ((Sts.nil w).add rfl _ _) rfl rfl (HS.out.alloc _) H1.out (by omega) (by omega) ?_; rintro R' a' cap' w' hR hS)
  go_ret
  simp only [Nat.zero_add, List.nil_append, List.append_nil] at hR hS ⊢
  exact ⟨R', a', cap', rfl, hR, hS⟩

theorem run_append_zeros_nil {P : Program} (w : World) (t ti ty e : TypeId) (i : TypeInfo) (z : Value) (ht : P.underlying t = some (.slice e)) {k : IntKind} (hti : P.underlying ti = some (.int k)) (hi : P.info? e = some i) (hz : i.zero = some z) (kx : IntKind) (m : Nat)
    (h0 : 0 < m) (hsz : 0 < i.size) (h63 : m ≤ 1000000) (hby : i.bytes ≤ 1000) :
    (Builtin.append_ #[t, ti] ty #[.slice none 0 0, .int kx m]).run P w =
      .ok (.slice (some ⟨w.heap.size, 0, none⟩) m (grownCap w m 0 e)) (w.drew.alloc (.cells (Builtin.zeroCells z.cells m ++ Builtin.zeroCells z.cells (grownCap w m 0 e - m)) e)) := by
  have hmb : m * i.bytes ≤ 1000000 * 1000 := Nat.mul_le_mul h63 hby
  have hw : IntKind.i64.wrap (m : Int) = m := by rw [IntKind.wrap_i64]; omega
  have hneg : ¬ ((m : Int) < 0) := by omega
  have hbig : ¬ (281474976710656 < (m : Int) * (i.bytes : Int)) := by rw [← Int.natCast_mul]; omega
  have hn : m ≠ 0 := by omega
  have hsn : i.size ≠ 0 := by omega
  have h63' : ¬ (9223372036854775807 < (m : Int)) := by omega
  have h48' : ¬ (281474976710656 < Builtin.nextslicecap m 0 * i.bytes) := by rw [nextslicecap_zero h0]; omega
  simp [Builtin.append_, run_underlying ht, run_underlying hti, sizeOf, typeInfo, zeroValue, hi, hz, asInt, asIntOf, hw, hneg, hbig, hn, hsn, h63', h48', Question.forced, run_firstCells_none, newRow, grownCap]
  intro h
  exact absurd h (Nat.mul_ne_zero hn hsn)
theorem zeros_append {P : Program} {W : World} {ops : Array Oper} {rest : List Oper} {o : Oper} {a : Act} {Q : Exit → Act → World → Prop} (hgd : o.guard = none) (s x : Operand) (t ti : TypeId)
    (ho : o.op = .call { callee := .builtin .append, args := #[s, x], argTypes := #[t, ti] })
    {e : TypeId} {i : TypeInfo} {z : Value} {k : IntKind} (ht : P.underlying t = some (.slice e)) (hti : P.underlying ti = some (.int k)) (hi : P.info? e = some i) (hz : i.zero = some z) (hsz : 0 < i.size) (hby : i.bytes ≤ 1000) (hzs : z.cells.size = i.size)
    (hs : a.eval s = .slice none 0 0) {kx : IntKind} {m : Nat} (hx : a.eval x = .int kx m) (h0 : 0 < m) (h63 : m ≤ 1000000)
    (h : ∀ g cs cap w', m ≤ cap → cap ≤ 9223372036854775807 → Hid (cs.size = cap * i.size) → Hid (Sts W [(g, cs, e)] w') → wpList P ops Q rest (a.put o.dst (.slice (some ⟨g, 0, none⟩) m cap)) w') : wpList P ops Q (o :: rest) a W := by
  refine wpList_plain hgd fun K hK => ?_
  have hr := run_append_zeros_nil (P := P) W t ti o.type e i z ht hti hi hz kx m h0 hsz h63 hby
  have hcap := grownCap_ge W m 0 e
  have hcm := grownCap_le_maxLen W m 0 e (by unfold maxLen; omega)
  unfold Oper.wp execOp
  simp only [ho, resolve, invoke, builtin, Sem.run_bind, Sem.run_pure, Result.andThen_ok, List.map_toArray, List.map_cons, List.map_nil, hs, hx, hr]
  refine hK _ _ (h W.heap.size (Builtin.zeroCells z.cells m ++ Builtin.zeroCells z.cells (grownCap W m 0 e - m)) _ _ hcap (by unfold maxLen at hcm; omega) ?_ ?_)
  · refine Lib.hid ?_
    rw [Array.size_append, size_zeroCells, size_zeroCells, hzs, ← Nat.add_mul]; congr 1; omega
  · refine Lib.hid ?_
    rw [sts_iff]
    refine ⟨fun x hx => ?_, by simp, bel_grow W _⟩
    obtain rfl : x = _ := by simpa using hx
    exact ⟨Blk.newAt (w := W.drew) rfl _ _, Nat.le_refl _⟩
set_option maxHeartbeats 1000000 in
set_option maxRecDepth 100000 in
theorem grow_zero (w : World) : Calls Try.prog 49 #[.slice none 0 0, .int .i64 0] w (Made [] 0 5 1 w) := by
  go_enter Try.func49, Try.ntmps49
  go_wp2
  go_ret
  exact ⟨[], none, 0, rfl, Row.nil _ _, Sts.nil w⟩
set_option maxHeartbeats 1000000 in
set_option maxRecDepth 100000 in
theorem grow_some (m : Nat) (w : World) (h0 : 0 < m) (h1 : m ≤ 1000000) : Calls Try.prog 49 #[.slice none 0 0, .int .i64 m] w (Made [] 0 5 1 w) := by
  obtain ⟨i0, hi, hz, hs1, hs2⟩ := info_parts byte_info
  go_enter Try.func49, Try.ntmps49
  go_wp2_with (at_builtin; refine zeros_append rfl (.tmp 20) (.tmp 21) 23 3 rfl Try.underlying23 Try.underlying3 hi hz (by omega) (by omega) (by rw [hs1]; rfl) rfl rfl h0 h1 ?_; intro g cs cap w1 hc0 hc1 HC HS)
  go_ret
  refine ⟨_, _, cap, rfl, ⟨rfl, Nat.zero_le _, by unfold maxLen; omega, .inr ⟨g, cs, rfl, rfl, by rw [HC.out, hs1], by simp⟩⟩, HS.out⟩
theorem grow_calls (m : Nat) (w : World) (h1 : m ≤ 1000000) : Calls Try.prog 49 #[.slice none 0 0, .int .i64 m] w (Made [] 0 5 1 w) := by
  by_cases h0 : m = 0
  · subst h0; exact grow_zero w
  · exact grow_some m w (by omega) h1
end Go.Proofs.Ytefidbfhcpcgjaa

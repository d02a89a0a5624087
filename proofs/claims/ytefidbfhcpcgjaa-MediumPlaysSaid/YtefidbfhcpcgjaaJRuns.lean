import Derived.Test.YtefidbfhcpcgjaaJOpen
namespace Go.Proofs.Ytefidbfhcpcgjaa
open Go.RowKit
set_option linter.unusedVariables false
set_option linter.unusedSimpArgs false
theorem Reads.at_ {W : World} {a : Option Addr} {n : Nat} {ts : List (List Int)} (h : Reads W a n ts) {i : Nat} {t : List Int} (ht : ts[i]? = some t) : ∃ (ad : Addr) (p : Prt), a = some ad ∧ W.cell? (ad.add i) = some (.slice p.a p.n p.cap) ∧ Src W p.a p.n 1 (bs t) := by
  obtain ⟨ps, h1, h2, h3⟩ := h.ex
  subst h3
  rw [List.getElem?_map] at ht
  cases hp : ps[i]? with
  | none => rw [hp] at ht; cases ht
  | some p =>
    rw [hp] at ht
    obtain rfl : p.l = t := by simpa using ht
    obtain ⟨ad, e, hc⟩ := Parts.at_ h1 hp
    exact ⟨ad, p, e, hc, h2 p (List.mem_of_getElem? hp)⟩
section
variable {w0 W : World} {A B : List Ent} {g : Nat} {s s' : Med}
theorem add_is {gj cnt cnt' : Nat} {bad bad' : Bool} {C : Option Addr} {n c : Nat} {t : List Int} {v : Int} (h : MedAt w0 A ((gj, jcells g cnt bad, 72) :: B) g s W) (hok : s.Ok) (hs : Src W C n 1 (bs t)) (hb : Byt t) (hc : cnt ≤ 1000000) (hn : n ≤ 60000) (hlen : s.b.length + n + 10 ≤ 200000) (e : jadd s cnt bad t = (v, s', cnt', bad')) :
    Calls Try.prog 38 #[.pointer (some ⟨gj, 0, none⟩), .slice C n c] W (MedGoes (.int .i64 v) w0 A ((gj, jcells g cnt' bad', 72) :: B) g s') := by
  have := jadd_calls (c := c) h hok hs hb hc hn hlen
  rwa [e] at this
theorem jadd_ok {cnt cnt' : Nat} {bad bad' : Bool} {t : List Int} {v : Int} (hok : s.Ok) (hb : Byt t) (hlen : s.b.length + t.length + 10 ≤ 200000) (e : jadd s cnt bad t = (v, s', cnt', bad')) : s'.Ok := by
  have h1 := hok.append (seal_byt ((cnt : Int) + 1) hb) (by rw [seal_len]; omega)
  have e2 := congrArg (fun r => r.2.1) e
  simp only at e2
  rw [← e2]
  unfold jadd
  split
  · exact hok
  · split
    · split
      · exact h1.flush
      · exact h1.flush
    · exact h1
theorem reads_of {Rs L : List Ent} {a : Option Addr} {n c : Nat} {ts : List (List Int)} (h : Texts Rs a n c ts) (hm : MedAt w0 A L g s W) (hs : ∀ x ∈ Rs, x ∈ L) : Reads W a n ts := by
  obtain ⟨R, a', cap, _, hS⟩ := hm
  exact h.reads hS fun x hx => by simp [hs x hx]
end
theorem lies_nil (b : List Int) : Lies b [] := ⟨fun i t h => by simp at h, Nat.zero_le _⟩
def jA : List Int := sealL 1 [97]
def jB : List Int := sealL 1 [97] ++ sealL 2 [98]
theorem jB_lies (r : List Int) (hr : r.length ≤ 3) : Lies (jB ++ r) [[97], [98]] := by
  have hf : Fit [[97], [98]] := by
    intro t ht
    simp only [List.mem_cons, List.not_mem_nil, or_false] at ht
    rcases ht with rfl | rfl
    · exact ⟨byt_of _ rfl, by decide⟩
    · exact ⟨byt_of _ rfl, by decide⟩
  refine ⟨fun i t ht => ?_, by show 22 ≤ _; rw [List.length_append]; have : jB.length = 22 := rfl; omega⟩
  match i, ht with
  | 0, ht =>
    obtain rfl := Option.some.inj ht
    have := open_seal 1 [97] [] (sealL 2 [98] ++ r) (byt_of _ rfl) (by decide) (by omega) (by omega)
    rw [List.nil_append, ← List.append_assoc] at this
    exact this
  | 1, ht =>
    obtain rfl := Option.some.inj ht
    have := open_seal 2 [98] (sealL 1 [97]) r (byt_of _ rfl) (by decide) (by omega) (by omega)
    rw [← List.append_assoc] at this
    exact this
  | i + 2, ht => simp at ht
set_option maxHeartbeats 8000000 in
set_option maxRecDepth 100000 in
theorem journalRuns_calls (w : World) : Calls Try.prog 13 #[] w fun e w' => e = .returned (.bool true) ∧ Below w.heap.size w w' := by
  have HS0 := Lib.hid (Sts.nil w)
  have kc := fun (w : World) (C : Array Value) (n c : Nat) => Lib.run_convert_bytes_const (P := Try.prog) w 23 5 C n c Try.underlying23 Try.underlying5
  go_enter Try.func13, Try.ntmps13
  go_wp2_with fail
  refine (medNew_calls (w0 := w) (A := []) (B := []) HS0.out).mono ?_
  rintro e w1 ⟨g, rfl, hm⟩
  have M1 := Lib.hid (show MedAt w [] [] g m0 w1 from hm)
  clear hm HS0
  go_wp2_with fail
  refine (jopen_ok (ts := []) (s' := m0) (v := 0) M1.out m0_ok rfl (by decide) (lies_nil _) (.inl rfl) (.inl ⟨rfl, rfl, rfl⟩) rfl).mono ?_
  rintro e w2 ⟨gj, Rs, a2, c2, rfl, hT, hm⟩
  have M2 := Lib.hid (show MedAt w [] ((gj, jcells g 0 false, 72) :: []) g m0 w2 from hm.subB (List.Sublist.cons_cons _ (List.nil_sublist _)))
  clear hm hT M1
  go_wp2_with fail
  refine (add_is (t := [97]) (v := 0) (s' := ⟨jA, 11, false, 0, false⟩) (cnt' := 1) (bad' := false) (M2.out.alloc _) m0_ok (Src.newM (size := 1) (m := 1) rfl rfl) (byt_of _ rfl) (by omega) (by omega) (by decide) rfl).mono ?_
  rintro e w3 ⟨rfl, hm⟩
  have M3 := Lib.hid hm
  have ok3 : Med.Ok ⟨jA, 11, false, 0, false⟩ := jadd_ok (t := [97]) m0_ok (byt_of _ rfl) (by decide) (show jadd m0 0 false [97] = (0, ⟨jA, 11, false, 0, false⟩, 1, false) from rfl)
  clear hm M2
  go_wp2_with fail
  refine (add_is (t := [98]) (v := 0) (s' := ⟨jB, 22, false, 0, false⟩) (cnt' := 2) (bad' := false) (M3.out.alloc _) ok3 (Src.newM (size := 1) (m := 1) rfl rfl) (byt_of _ rfl) (by omega) (by omega) (by decide) rfl).mono ?_
  rintro e w4 ⟨rfl, hm⟩
  have M4 := Lib.hid hm
  have ok4 : Med.Ok ⟨jB, 22, false, 0, false⟩ := jadd_ok (t := [98]) ok3 (byt_of _ rfl) (by decide) (show jadd ⟨jA, 11, false, 0, false⟩ 1 false [98] = (0, ⟨jB, 22, false, 0, false⟩, 2, false) from rfl)
  clear hm M3 ok3
  go_wp2_with fail
  refine (bytes_is M4.out ok4 (l := jB) rfl).mono ?_
  rintro e w5 ⟨a5, m5, c5, rfl, hP, hm, hb, hl, hc1, hc2⟩
  have M5 := Lib.hid hm
  obtain rfl : m5 = 22 := hl
  clear hP hm hb hc1 hc2 M4
  go_wp2_with fail
  refine (append_is (l := [1, 2, 3]) (v := 0) (s' := ⟨jB ++ [1, 2, 3], 22, false, 0, false⟩) (M5.out.alloc _) ok4 (Src.new (size := 1) (m := 3) rfl rfl) (apart_new M5.out 3) (by decide) rfl).mono ?_
  rintro e w6 ⟨rfl, hm⟩
  have M6 := Lib.hid hm
  have ok6 : Med.Ok ⟨jB ++ [1, 2, 3], 22, false, 0, false⟩ := ok4.append (byt_of [1, 2, 3] rfl) (by decide)
  clear hm M5
  go_wp2_with fail
  refine (jopen_ok (ts := [[97], [98]]) (s' := ⟨jB, 22, false, 0, false⟩) (v := 0) M6.out ok6 rfl (by decide) (jB_lies _ (by decide)) (.inr (open_short (by decide))) (.inr ⟨by decide, rfl⟩) rfl).mono ?_
  rintro e w7 ⟨gk, Rs7, a7, c7, rfl, hT, hm⟩
  have hrd := reads_of hT hm (fun x hx => by simp [hx])
  obtain ⟨ad, p0, rfl, hc0, hs0⟩ := hrd.at_ (i := 0) (t := [97]) rfl
  obtain ⟨ad', p1, e7, hc1, hs1⟩ := hrd.at_ (i := 1) (t := [98]) rfl
  obtain rfl := Option.some.inj e7
  have hc0 : w7.cell? ad = some (.slice p0.a p0.n p0.cap) := by simpa [Addr.add] using hc0
  have hc1 : w7.cell? ⟨ad.block, ad.off + 1, none⟩ = some (.slice p1.a p1.n p1.cap) := by simpa [Addr.add] using hc1
  have M7 := Lib.hid hm
  have S0 := Lib.hid hs0; have S1 := Lib.hid hs1
  have hp0 := hs0.len; have hp1 := hs1.len
  have n0 : p0.n ≤ 1000000 := by simp at hp0; omega
  have n1 : p1.n ≤ 1000000 := by simp at hp1; omega
  have X1 := Lib.hid hc1
  clear hm hT hrd hs0 hs1 hp0 hp1 M6 e7 hc1
  go_wp2_with fail
  refine (same_yes [97] [97] (S0.out.alloc _) (Src.newM (size := 1) (m := 1) rfl rfl) n0 (by omega) rfl).mono ?_
  rintro e w8 ⟨rfl, n8, hw8⟩
  have M8 := Lib.hid ((M7.out.alloc (.cells #[.int .u8 97] 5 (1, 2))).drewN n8)
  have S8 := Lib.hid ((S1.out.alloc (.cells #[.int .u8 97] 5 (1, 2))).drewN n8)
  have hc8 : w8.cell? ⟨ad.block, ad.off + 1, none⟩ = some (.slice p1.a p1.n p1.cap) := by
    rw [hw8]
    show (w7.alloc _).cell? _ = _
    exact ((bel_alloc (Below.refl _ w7) _).cell (World.block_lt_of_cell? w7 _ X1.out)).trans X1.out
  have M8 : Hid (MedAt w [] _ g _ w8) := Lib.hid (hw8 ▸ M8.out)
  have S8 := Lib.hid (show Src w8 p1.a p1.n 1 (bs [98]) from hw8 ▸ S8.out)
  clear hw8 M7 S0 S1 X1 hc0
  go_wp2_with fail
  refine (same_yes [98] [98] (S8.out.alloc _) (Src.newM (size := 1) (m := 1) rfl rfl) n1 (by omega) rfl).mono ?_
  rintro e w9 ⟨rfl, n9, hw9⟩
  have M9 : Hid (MedAt w [] _ g _ w9) := Lib.hid (hw9 ▸ (M8.out.alloc _).drewN n9)
  clear hw9 M8 S8 hc8
  go_wp2_with fail
  refine (jcount_calls M9.out).mono ?_
  rintro e w' ⟨rfl, rfl⟩
  go_wp2_with fail
  refine (bytes_is M9.out ok4 (l := jB) rfl).mono ?_
  rintro e w10 ⟨a10, m10, c10, rfl, hP, hm, hb, hl, hc1, hc2⟩
  have M10 := Lib.hid hm
  obtain rfl : m10 = 22 := hl
  clear hP hm hb hc1 hc2 M9
  go_wp2
  go_ret
  exact ⟨rfl, M10.out.bel⟩
theorem journalRuns_b {w W : World} (h : Below w.heap.size w W) : Calls Try.prog 13 #[] W fun e w' => e = .returned (.bool true) ∧ Below w.heap.size w w' :=
  (journalRuns_calls W).mono fun _ _ ⟨he, hb⟩ => ⟨he, bel_then h hb h.size⟩
end Go.Proofs.Ytefidbfhcpcgjaa

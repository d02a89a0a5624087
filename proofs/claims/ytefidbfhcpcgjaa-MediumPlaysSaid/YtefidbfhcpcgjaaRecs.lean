import Derived.Test.YtefidbfhcpcgjaaMedKeeps
namespace Go.Proofs.Ytefidbfhcpcgjaa
open Go.RowKit
set_option linter.unusedVariables false
set_option linter.unusedSimpArgs false
/-! ### Rows of texts of the call's own -/
def RowsOwn (Rs : List Ent) (ps : List Prt) : Prop := ∀ p ∈ ps, ∃ R, (∀ x ∈ R, x ∈ Rs) ∧ Row R 5 1 p.a p.n p.cap (bs p.l)
theorem RowsOwn.nil : RowsOwn [] [] := fun p h => by cases h
theorem RowsOwn.snoc {Rs R : List Ent} {ps : List Prt} (h : RowsOwn Rs ps) {p : Prt} (hp : Row R 5 1 p.a p.n p.cap (bs p.l)) : RowsOwn (R ++ Rs) (ps ++ [p]) := by
  intro q hq
  rcases List.mem_append.1 hq with hq | hq
  · obtain ⟨R', h1, h2⟩ := h q hq
    exact ⟨R', fun x hx => List.mem_append_right _ (h1 x hx), h2⟩
  · obtain rfl : q = p := by simpa using hq
    exact ⟨R, fun x hx => List.mem_append_left _ hx, hp⟩
theorem RowsOwn.parts {Rs L : List Ent} {ps : List Prt} {w0 W : World} (h : RowsOwn Rs ps) (hS : Sts w0 L W) (hm : ∀ x ∈ Rs, x ∈ L) : Parts W ps := by
  intro p hp
  obtain ⟨R, h1, h2⟩ := h p hp
  exact h2.srcIn hS fun x hx => hm x (h1 x hx)
/-- A row of rows of texts, all of the call's own, that reads as ts. -/
structure Texts (Rs : List Ent) (a : Option Addr) (n c : Nat) (ts : List (List Int)) : Prop where
  ex : ∃ R1 R2 ps, Rs = R1 ++ R2 ∧ Row R1 23 1 a n c (ps.map Prt.v) ∧ RowsOwn R2 ps ∧ ps.map Prt.l = ts
theorem Texts.nil : Texts [] none 0 0 [] := ⟨[], [], [], rfl, Row.nil _ _, RowsOwn.nil, rfl⟩
/-- .. that reads so, in a world. -/
structure Reads (W : World) (a : Option Addr) (n : Nat) (ts : List (List Int)) : Prop where
  ex : ∃ ps, Src W a n 1 (ps.map Prt.v) ∧ Parts W ps ∧ ps.map Prt.l = ts
theorem Reads.below {W W' : World} {a : Option Addr} {n : Nat} {ts : List (List Int)} (h : Reads W a n ts) (hb : Below W.heap.size W W') : Reads W' a n ts := by
  obtain ⟨ps, h1, h2, h3⟩ := h.ex
  exact ⟨ps, h1.below hb, h2.below hb, h3⟩
theorem Reads.len {W : World} {a : Option Addr} {n : Nat} {ts : List (List Int)} (h : Reads W a n ts) : ts.length = n := by
  obtain ⟨ps, h1, h2, h3⟩ := h.ex
  have := h1.1
  rw [← h3]; simpa using this
theorem Texts.reads {Rs L : List Ent} {a : Option Addr} {n c : Nat} {ts : List (List Int)} {w0 W : World} (h : Texts Rs a n c ts) (hS : Sts w0 L W) (hm : ∀ x ∈ Rs, x ∈ L) : Reads W a n ts := by
  obtain ⟨R1, R2, ps, rfl, h1, h2, h3⟩ := h.ex
  exact ⟨ps, h1.srcIn hS fun x hx => hm x (List.mem_append_left _ hx), h2.parts hS fun x hx => hm x (List.mem_append_right _ hx), h3⟩
theorem Texts.len {Rs : List Ent} {a : Option Addr} {n c : Nat} {ts : List (List Int)} (h : Texts Rs a n c ts) : ts.length = n ∧ n ≤ c ∧ c ≤ 9223372036854775807 := by
  obtain ⟨R1, R2, ps, rfl, h1, h2, h3⟩ := h.ex
  have := h1.1
  refine ⟨by rw [← h3]; simpa using this, h1.le, h1.cap_le⟩
/-- How frames lie in b: ts one behind the other. -/
structure Lies (b : List Int) (ts : List (List Int)) : Prop where
  at_ : ∀ (i : Nat) (t : List Int), ts[i]? = some t → openL b (off ts i) = (t, (i : Int) + 1, (off ts i : Int) + t.length + 10, 0)
  len : off ts ts.length ≤ b.length
theorem open_row {b : List Int} {A : Option Addr} {n cap p : Nat} {w : World} (hs : Src w A n 1 (bs b)) (hc : n ≤ cap) (hc2 : cap ≤ 9223372036854775807) (hb : Byt b) (hn : n ≤ 100000) (h1 : p ≤ n) (x : List Int) (s nx how : Int) (h : openL b p = (x, s, nx, how)) :
    Calls Try.prog 35 #[.slice A n cap, .int .i64 p] w fun e w' => ∃ R a c m, e = .returned (.tuple #[.slice a m c, .int .i64 s, .int .i64 nx, .int .i64 how]) ∧ Row R 5 1 a m c (bs x) ∧ Sts w R w' := by
  refine (open_calls b A n cap p w hs hc hc2 hb hn h1).mono ?_
  rintro e w' ⟨R, a, c, m, rfl, hR, hS⟩
  rw [h] at hR ⊢
  exact ⟨R, a, c, m, rfl, hR, hS⟩
set_option maxHeartbeats 4000000 in
set_option maxRecDepth 100000 in
theorem records_ok (A : Option Addr) (n cap : Nat) (b : List Int) (ts : List (List Int)) (w : World) (hs : Src w A n 1 (bs b)) (hc : n ≤ cap) (hcc : cap ≤ 9223372036854775807) (hb : Byt b) (hn : n ≤ 100000) (hL : Lies b ts) (hend : off ts ts.length = n ∨ openL b (off ts ts.length) = ([], 0, 0, 1)) :
    Calls Try.prog 48 #[.slice A n cap] w fun e w' => ∃ Rs a c, e = .returned (.tuple #[.slice a ts.length c, .int .i64 (off ts ts.length), .bool true]) ∧ Texts Rs a ts.length c ts ∧ Sts w Rs w' := by
  obtain ⟨i1, ri, rz, rs1, rs2⟩ := info_parts rows_info
  have hl := hs.len
  have hle := hL.len
  rw [hl] at hle
  have HSB := Lib.hid hs; have HB := Lib.hid hb; have HL := Lib.hid hL.at_; have HEND := Lib.hid hend; have HLN := Lib.hid hl
  have hcount : ts.length ≤ 10000 := by
    have : ∀ (l : List (List Int)), 10 * l.length ≤ (l.map fun t => t.length + 10).sum := by
      intro l
      induction l with
      | nil => simp
      | cons t r ih => simp only [List.length_cons, List.map_cons, List.sum_cons]; omega
    have h2 := this ts
    unfold off at hle
    rw [List.take_of_length_le (Nat.le_refl _)] at hle
    omega
  obtain ⟨N, hN⟩ : ∃ N, ts.length = N := ⟨_, rfl⟩
  rw [hN] at hcount hle HEND ⊢
  have HN := Lib.hid hN
  clear hs hb hL hend hl hN
  have HS0 := Lib.hid (Sts.nil w)
  go_enter Try.func48, Try.ntmps48
  go_wp2
  go_loopw [5, 6] (fun v5 v6 wx => ∃ (i o : Nat) (R1 R2 : List Ent) (ps : List Prt) (a : Option Addr) (c : Nat), i ≤ N ∧ v5 = .slice a i c ∧ v6 = .int .i64 o ∧ o ≤ n ∧ Hid (o = off ts i) ∧ Hid (Row R1 23 1 a i c (ps.map Prt.v)) ∧ Hid (RowsOwn R2 ps) ∧ Hid (ps.map Prt.l = ts.take i) ∧ Hid (Sts w (R1 ++ (R2 ++ [])) wx)) (fun v5 _ _ => N - (match v5 with | .slice _ n _ => n | _ => 0))
  case atStart => exact ⟨0, 0, [], [], [], none, 0, Nat.zero_le _, rfl, rfl, by omega, Lib.hid rfl, Lib.hid (Row.nil _ _), Lib.hid RowsOwn.nil, Lib.hid (by simp), HS0⟩
  case round =>
    clear HS0
    obtain ⟨i, o, R1, R2, ps, a, c, hi, rfl, rfl, hon, HO, HR, HRO, HPL, HS⟩ := hrel
    by_cases hlt : i < N
    · obtain ⟨t, ht⟩ : ∃ t, ts[i]? = some t := ⟨_, List.getElem?_eq_getElem (by rw [HN.out]; exact hlt)⟩
      have hop := HL.out i t ht
      have hos := off_succ ht
      have hol := off_le ts (show i + 1 ≤ N by omega)
      rw [← HO.out] at hop hos
      rw [hos] at hol
      have htk : ts.take (i + 1) = ts.take i ++ [t] := by
        obtain ⟨h1, h2⟩ := List.getElem?_eq_some_iff.1 ht
        rw [List.take_succ_eq_append_getElem h1, h2]
      obtain ⟨tl, htl⟩ : ∃ tl, t.length = tl := ⟨_, rfl⟩
      rw [htl] at hop hos hol
      have HOP := Lib.hid hop; have HOS := Lib.hid hos; have HTK := Lib.hid htk
      have b1 : decide (o < n) = true := decide_eq_true (by omega)
      have b2 : (((i : Int) + 1) != (i : Int) + 1) = false := by simp
      have hle2 : o + tl + 10 ≤ n := by omega
      clear ht hop hos hol htk
      go_wp2_with fail
      refine (open_row (HSB.out.below HS.out.bel) hc hcc HB.out hn (by omega) _ _ _ _ HOP.out).mono ?_
      rintro e w7 ⟨R7, a7, c7, m7, rfl, hR7, hS7⟩
      have HR7 := Lib.hid hR7
      have HS7 := Lib.hid (show Sts w (R1 ++ ((R7 ++ R2) ++ [])) w7 from (Sts.join R1 (R2 ++ []) HS.out hS7).lit (by simp))
      clear hR7 hS7
      go_wp2_with (at_builtin; go_must (refine row_append rfl (.tmp 34) (.tmp 36) 51 rfl [] ((R7 ++ R2) ++ []) Try.underlying51 ri rz rs1 rs2 rfl (by omega) HR.out (HS7.out.skip _) rfl rfl (Src.new (size := 1) (m := 1) rfl rfl) (by simp [Value.oneCell']) (by omega) (by omega) ?_); rintro R8 a8 c8 w8 hR8 hS8)
      have HR8 := Lib.hid (show Row R8 23 1 a8 (i + 1) c8 ((ps ++ [(⟨a7, m7, c7, t⟩ : Prt)]).map Prt.v) from by rw [List.map_append]; exact hR8)
      have HS8 := Lib.hid (show Sts w (R8 ++ ((R7 ++ R2) ++ [])) w8 from hS8)
      clear hR8 hS8
      go_roundw
      case rel => exact ⟨i + 1, o + tl + 10, R8, R7 ++ R2, ps ++ [(⟨a7, m7, c7, t⟩ : Prt)], a8, c8, by omega, rfl, by go_num, hle2, Lib.hid HOS.out.symm, HR8, Lib.hid (HRO.out.snoc (p := (⟨a7, m7, c7, t⟩ : Prt)) HR7.out), Lib.hid (by rw [List.map_append, HPL.out, HTK.out]; rfl), HS8⟩
      case measure => simp; omega
    · obtain rfl : i = N := by omega
      have hall : ps.map Prt.l = ts := by rw [HPL.out, List.take_of_length_le (by rw [HN.out]; exact Nat.le_refl _)]
      have HALL := Lib.hid hall
      have hfin : ∀ W, Sts w (R1 ++ (R2 ++ [])) W → ∃ Rs a' c', Ending.returned (.tuple #[.slice a i c, .int .i64 o, .bool true]) = .returned (.tuple #[.slice a' i c', .int .i64 (off ts i), .bool true]) ∧ Texts Rs a' i c' ts ∧ Sts w Rs W := fun W h =>
        ⟨R1 ++ R2, a, c, by rw [HO.out], ⟨R1, R2, ps, rfl, HR.out, HRO.out, HALL.out⟩, by simpa using h⟩
      have HFIN := Lib.hid hfin
      clear hall hfin
      by_cases hon2 : o = n
      · have b1 : decide (o < n) = false := decide_eq_false (by omega)
        go_wp2
        go_ret3
        exact HFIN.out _ HS.out
      · have b1 : decide (o < n) = true := decide_eq_true (by omega)
        have hop : openL b o = ([], 0, 0, 1) := by
          rcases HEND.out with h | h
          · rw [← HO.out] at h; exact absurd h hon2
          · rw [← HO.out] at h; exact h
        have HOP := Lib.hid hop
        clear hop
        go_wp2_with fail
        refine (open_row (HSB.out.below HS.out.bel) hc hcc HB.out hn (by omega) _ _ _ _ HOP.out).mono ?_
        rintro e w7 ⟨R7, a7, c7, m7, rfl, hR7, hS7⟩
        have HS7 := Lib.hid (HS.out.below hS7.bel)
        clear hR7 hS7
        go_wp2
        go_ret3
        exact HFIN.out _ HS7.out
set_option maxHeartbeats 4000000 in
set_option maxRecDepth 100000 in
theorem records_bad (A : Option Addr) (n cap : Nat) (b : List Int) (ts : List (List Int)) (w : World) (hs : Src w A n 1 (bs b)) (hc : n ≤ cap) (hcc : cap ≤ 9223372036854775807) (hb : Byt b) (hn : n ≤ 100000) (hL : Lies b ts) (hend : off ts ts.length < n) (hend2 : openL b (off ts ts.length) = ([], 0, 0, 2)) :
    Calls Try.prog 48 #[.slice A n cap] w fun e w' => e = .returned (.tuple #[.slice none 0 0, .int .i64 0, .bool false]) ∧ Below w.heap.size w w' := by
  obtain ⟨i1, ri, rz, rs1, rs2⟩ := info_parts rows_info
  have hl := hs.len
  have hle := hL.len
  rw [hl] at hle
  have HSB := Lib.hid hs; have HB := Lib.hid hb; have HL := Lib.hid hL.at_; have HEND := Lib.hid hend2; have HLN := Lib.hid hl
  have hcount : ts.length ≤ 10000 := by
    have : ∀ (l : List (List Int)), 10 * l.length ≤ (l.map fun t => t.length + 10).sum := by
      intro l
      induction l with
      | nil => simp
      | cons t r ih => simp only [List.length_cons, List.map_cons, List.sum_cons]; omega
    have h2 := this ts
    unfold off at hle
    rw [List.take_of_length_le (Nat.le_refl _)] at hle
    omega
  obtain ⟨N, hN⟩ : ∃ N, ts.length = N := ⟨_, rfl⟩
  rw [hN] at hcount hle hend HEND
  have HN := Lib.hid hN
  clear hs hb hL hend2 hl hN
  have HS0 := Lib.hid (Sts.nil w)
  go_enter Try.func48, Try.ntmps48
  go_wp2
  go_loopw [5, 6] (fun v5 v6 wx => ∃ (i o : Nat) (R1 : List Ent) (xs : List Value) (a : Option Addr) (c : Nat), i ≤ N ∧ v5 = .slice a i c ∧ v6 = .int .i64 o ∧ o ≤ n ∧ Hid (o = off ts i) ∧ Hid (Row R1 23 1 a i c xs) ∧ Hid (Sts w (R1 ++ []) wx)) (fun v5 _ _ => N - (match v5 with | .slice _ n _ => n | _ => 0))
  case atStart => exact ⟨0, 0, [], [], none, 0, Nat.zero_le _, rfl, rfl, by omega, Lib.hid rfl, Lib.hid (Row.nil _ _), HS0⟩
  case round =>
    clear HS0
    obtain ⟨i, o, R1, xs, a, c, hi, rfl, rfl, hon, HO, HR, HS⟩ := hrel
    by_cases hlt : i < N
    · obtain ⟨t, ht⟩ : ∃ t, ts[i]? = some t := ⟨_, List.getElem?_eq_getElem (by rw [HN.out]; exact hlt)⟩
      have hop := HL.out i t ht
      have hos := off_succ ht
      have hol := off_le ts (show i + 1 ≤ N by omega)
      rw [← HO.out] at hop hos
      rw [hos] at hol
      obtain ⟨tl, htl⟩ : ∃ tl, t.length = tl := ⟨_, rfl⟩
      rw [htl] at hop hos hol
      have HOP := Lib.hid hop; have HOS := Lib.hid hos
      have b1 : decide (o < n) = true := decide_eq_true (by omega)
      have b2 : (((i : Int) + 1) != (i : Int) + 1) = false := by simp
      have hle2 : o + tl + 10 ≤ n := by omega
      clear ht hop hos hol
      go_wp2_with fail
      refine (open_row (HSB.out.below HS.out.bel) hc hcc HB.out hn (by omega) _ _ _ _ HOP.out).mono ?_
      rintro e w7 ⟨R7, a7, c7, m7, rfl, hR7, hS7⟩
      have HS7 := Lib.hid (HS.out.below hS7.bel)
      clear hR7 hS7
      go_wp2_with (at_builtin; go_must (refine row_append rfl (.tmp 34) (.tmp 36) 51 rfl [] [] Try.underlying51 ri rz rs1 rs2 rfl (by omega) HR.out (HS7.out.skip _) rfl rfl (Src.new (size := 1) (m := 1) rfl rfl) (by simp [Value.oneCell']) (by omega) (by omega) ?_); rintro R8 a8 c8 w8 hR8 hS8)
      have HR8 := Lib.hid hR8
      have HS8 := Lib.hid (show Sts w (R8 ++ []) w8 from hS8)
      clear hR8 hS8
      go_roundw
      case rel => exact ⟨i + 1, o + tl + 10, R8, _, a8, c8, by omega, rfl, by go_num, hle2, Lib.hid HOS.out.symm, HR8, HS8⟩
      case measure => simp; omega
    · obtain rfl : i = N := by omega
      have b1 : decide (o < n) = true := decide_eq_true (by rw [HO.out]; exact hend)
      have HOP := Lib.hid (show openL b o = ([], 0, 0, 2) from HO.out ▸ HEND.out)
      go_wp2_with fail
      refine (open_row (HSB.out.below HS.out.bel) hc hcc HB.out hn (by omega) _ _ _ _ HOP.out).mono ?_
      rintro e w7 ⟨R7, a7, c7, m7, rfl, hR7, hS7⟩
      have HS7 := Lib.hid (HS.out.below hS7.bel)
      clear hR7 hS7
      go_wp2
      go_ret3
      exact ⟨rfl, HS7.out.bel⟩
end Go.Proofs.Ytefidbfhcpcgjaa
